/- A part of the proof. -/
import Derived.Test.YtoibaecagklkaaaGreatDoorMb
open Array renaming ext_getElem?->c8,forIn_toList->c_,getElem?_eq_some_iff->V,getElem?_setIfInBounds->W,getElem?_toList->cL,range->cO
open Bool renaming and_eq_true->O,false->F,true->C
open Decidable renaming decide->S
open Go.BigFrame renaming execOp_builtin->b_
open Go.Instr renaming findKey->b!,findNow->L,lookup->Y,storeAt->Z,sureAddr->ag
open Go.MapKept renaming run_checkKey->cj,run_getObj_map->ct
open Go.Result renaming andThen_ok->H
open Go.Sem renaming run_bind->I,run_pure->J
open Go.Value renaming cells->cT,int->an,string->bn
open List renaming cons_append->c!,ext_getElem?->d_,getElem?_cons_succ->d!,getElem?_eq_getElem->M,getElem?_eq_none->ec,getElem?_eq_some_iff->T,getElem?_map->N,getElem?_range->ef,getElem?_set->a_,length_cons->cx,length_map->cy,length_set->c4,length_singleton->a!,map_append->ej,map_map->ek,nil_append->en,range->cB,size_toArray->bU
open Nat renaming add_mul->c5,add_zero->bf,le_refl->X,mul_le_mul_right->c6,sub_self->ep
open Option renaming none->G,some->A
open Option.some renaming injEq->c7
open UInt8 renaming ofNat->bl
namespace Go.Proofs.YtoibaecagklkaaaGreatDoor
open Go Sx
variable {after:Array Edge}{c:Array Value}{RP:List PanicEntry->World->Prop}{nx:Nat}{o:Oper}{x:Operand}{dst:Option Tmp}{P:Program}{a b:SV}{d:TypeDesc}{t ty type:TypeId}{R:Value->World->Prop}{w:World}{Γ:b5}
namespace Sx
open Go
noncomputable section
def agI:SV->SV->Option (Bool×Bool)
 | .str l s,.str l' s'=>A (l&&l',S (s=s'))
 | .int k l a,.int k' l' b=>if k=k' then A (l&&l',S (a=b))else G
 | .bool l a,.bool l' b=>A (l&&l',S (a=b))
 | _,_=>G
def Gm:TypeDesc->SV->Bool
 | .string,.str .. =>C
 | .int k,.int k' .. =>decide (k'=k)
 | .bool,.bool .. =>C
 | _,_=>F
theorem En {v:SV}(h:Gm d v=C)(E:Nat->Nat):MapKept.IsKey d (v.val E):=by
 unfold Gm at h;split at h
 ·trivial
 ·have h:=i_ h;exact h
 ·trivial
 ·cases h
theorem adG {l e:Bool}(ha:Gm d a=C)(hb:Gm d b=C)(h:agI a b=A (l,e))(E:Nat->Nat) :
  Instr.sameNow d (a.val E) (b.val E)=A e/\(e=C->a.val E=b.val E):=by
 obtain⟨r,h1,h2⟩:=MapKept.sameNow_of_keys (En ha E) (En hb E);have he:e=C↔a.val E=b.val E:=by
  unfold agI at h;split at h
  ·injection h with h;injection h with _ h;subst h;simp only[m_,SV.val,Value.string.injEq];constructor
   ·intro h;rw[h]
   ·intro h;have:=congrArg ByteArray.data h;simpa using this
  ·split at h
   ·rename_i hk;injection h with h;injection h with _ h;subst h;subst hk;simp[SV.val]
   ·cases h
  ·injection h with h;injection h with _ h;subst h;simp[SV.val]
  ·cases h
 rw[h1];refine⟨?_,he.1⟩;congr 1;cases r<;>cases e<;>simp_all
abbrev Hit:=Option (Nat×(Nat×SV×SV))
def nP (d:TypeDesc)(k:SV)(t:Hit->VC):List (Nat×SV×SV)->Nat->VC
 | [],_=>t G
 | e::r,i=>match Gm d e.2.1,agI k e.2.1 with
   | true,A (C,b)=>(match b with
     | true=>t (A (i,e))
     | false=>nP d k t r (i+1))
   | true,A (F,b)=>fork b λb=>(match b with
     | true=>t (A (i,e))
     | false=>nP d k t r (i+1))
   | _,_=>.fail "map: keys"
theorem xV {d:TypeDesc}{k:SV}(hk:Gm d k=C): ∀(es:List (Nat×SV×SV)) (i:Nat),∃(obl:Prop) (r:Hit),(∀ t,(nP d k t es i).holds↔obl/\(t r).holds)/\
  (obl->(∀ E,L d (k.val E) (jM E es) i=A (r.map λx=>(x.1,x.2.2.2.val E)))/\∀ j e,r=A (j,e)->i<=j/\es[j-i]?=A e/\∀ E,e.2.1.val E=k.val E)
 | [],i=>⟨True,G,λt=>⟨λh=>⟨trivial,h⟩,λh=>h.2⟩,λ_=>⟨λ_=>rfl,λ_ _ h=>by cases h⟩⟩
 | e::r,i=>by
   obtain⟨obl,x,h1,h2⟩:=xV hk r (i+1)
   have fl: ∀ why:String,∃(obl:Prop) (r':Hit),(∀ t:Hit->VC,(VC.fail why).holds↔obl/\(t r').holds)/\
     (obl->(∀ E,L d (k.val E) (jM E (e::r)) i=A (r'.map λx=>(x.1,x.2.2.2.val E)))/\∀ j e',r'=A (j,e')->i<=j/\(e::r)[j-i]?=A e'/\∀ E,e'.2.1.val E=k.val E) :=
    λwhy=>⟨False,G,λt=>⟨λh=>h.elim,λh=>h.1.elim⟩,λh=>h.elim⟩
   cases hd:Gm d e.2.1 with
   | false=>simp only[nP,hd];exact fl _
   | true =>
     cases he:agI k e.2.1 with
     | none=>simp only[nP,hd,he];exact fl _
     | some q =>
       obtain⟨l,b⟩:=q;have key:=λE=>adG hk hd he E
       have fnd: ∀ E,L d (k.val E) (jM E (e::r)) i=(match b with
         | true=>A (A (i,e.2.2.val E))
         | false=>L d (k.val E) (jM E r) (i+1)):=λE=>by
        show L d (k.val E) ({key:=e.2.1.val E,val:=e.2.2.val E,born:=e.1}::jM E r) i=_;rw[L];simp only[(key E).1];cases b<;>rfl
       have main: ∃(obl:Prop) (r':Hit),(∀ t:Hit->VC,(match b with | true=>t (A (i,e)) | false=>nP d k t r (i+1)).holds↔obl/\(t r').holds)/\
         (obl->(∀ E,L d (k.val E) (jM E (e::r)) i=A (r'.map λx=>(x.1,x.2.2.2.val E)))/\∀ j e',r'=A (j,e')->i<=j/\(e::r)[j-i]?=A e'/\∀ E,e'.2.1.val E=k.val E):=by
        cases b with
        | true =>refine⟨True,A (i,e),λt=>⟨λh=>⟨trivial,h⟩,λh=>h.2⟩,λ_=>⟨λE=>by rw[fnd E];rfl,λj e' h=> ?_⟩⟩;injection h with h;injection h with h3 h4;subst h3;subst h4;exact⟨X _,by simp,λE=>((key E).2 rfl).symm⟩
        | false =>refine⟨obl,x,h1,λho=>⟨λE=>by rw[fnd E];exact(h2 ho).1 E,λj e' h=> ?_⟩⟩;obtain⟨g1,g2,g3⟩:=(h2 ho).2 j e' h;refine⟨by omega,?_,g3⟩;rw[show j-i=(j-(i+1))+1 by omega];simpa using g2
       cases l with
       | true=>simp only[nP,hd,he];exact main
       | false =>simp only[nP,hd,he];obtain⟨obl',r',m1,m2⟩:=main;refine⟨obl',r',λt=> ?_,m2⟩;rw[dY];exact m1 t
def AN (ok:Bool)(z:SV):Hit->SV
 | some (_,e)=>(match ok with
   | true=>.dr [e.2.2,.bool C C]
   | false=>e.2.2)
 | none=>(match ok with
   | true=>.dr [z,.bool C F]
   | false=>z)
def Nx (ok:Bool)(key a:Nat)(b:Bool):SV:=match ok,b with
 | true,C=>.dr [.l7 key a 0,.bool C C]
 | true,F=>.dr [.eJ,.bool C F]
 | false,C=>.l7 key a 0
 | false,F=>.eJ
def agJ (d:TypeDesc)(k:SV)(ok:Bool)(z:SV)(es:List (Nat×SV×SV))(K:Option SV->VC):VC:=nP d k (λr=>K (A (AN ok z r))) es 0
def NC (P:Program)(look:vn)(t:TypeId)(x k:SV)(ok:Bool)(K:Option SV->VC):VC :=
 match P.underlying t with
 | some (.map kt et)=>(match P.underlying kt,mO P et with
   | some d,A z=>(match Gm d k,x with
     | true,.mo=>K (A (AN ok z G))
     | true,.map key=>(match look key with
       | some (.map es _)=>agJ d k ok z es K
       | some (.fmap f c _)=>(match d,k with
         | .string,.str _ s=>(match c.look (f s) s z with
           | some v=>K (A (match ok with
             | true=>.dr [v,.bool F (f s)]
             | false=>v))
           | none=>(match c,z with
             | .ref key' g,.eJ=>fork (f s) λb=>K (A (Nx ok key' (g s) b))
             | _,_=>.fail "lookup: what a map holds"))
         | _,_=>.fail "lookup: a key")
       | _=>.fail "lookup: no map")
     | _,_=>.fail "lookup")
   | _,_=>.fail "lookup: types")
 | _=>.fail "lookup: no map type"
section
variable {P : Program} {look : vn} {σ : Operand-> Option SV}
theorem bD.aBf {s:(Operand->Value)->Sem Value}{b:Bool}{f:Bool->SV}(h:bD P look σ s (λK=>K (A (f b)))):bD P look σ s (λK=>Sx.fork b λc=>K (A (f c))):=by obtain⟨obl,sv,h1,h2⟩:=h;exact⟨obl,sv,λK=>by rw[dY];exact h1 K,h2⟩
theorem adI {kt et:TypeId}{z:SV}{k:Operand}{ok:Bool}{key:Nat}{es:List (Nat×SV×SV)}{clock:Nat}(ht:P.underlying t=A (.map kt et))(hd:P.underlying kt=A d)(hz:mO P et=A z)(hkd:Gm d b=C)(hl:look key=A (.map es clock))(hx:σ x=A (.map key))(hk:σ k=A b) :
  bD P look σ (λρ=>Y t (ρ x) (ρ k) ok) (agJ d b ok z es):=by
 obtain⟨obl,r,h1,h2⟩:=xV hkd es 0;refine⟨obl,A (AN ok z r),λK=>h1 _,λE w ρ hc hr ho=> ?_⟩;obtain⟨ob,hob,hb⟩:=hc.1 key _ hl rfl;have hb:ob=.map (jM E es).toArray clock:=hb;subst hb;have hf:=(h2 ho).1 E;have hf':L d (b.val E) (jM E es).toArray.toList 0=_:=hf;refine⟨(AN ok z r).val E,?_,λv hv=>by injection hv with hv;rw[← hv]⟩;simp only[Y,hr x _ hx,hr k _ hk,I,aL ht,H,SV.val,J,ct hob,cj hd (En hkd E) _ 9999,b!,aL hd,hf'];cases r with
 | none=>cases ok<;>simp[i6 (E:=E) hz,AN,SV.val,SV.vals]
 | some q=>cases ok<;>simp[AN,SV.val,SV.vals]
theorem aeL {k:Operand}{ok:Bool}(hx:σ x=A a)(hk:σ k=A b) :
  bD P look σ (λρ=>Y t (ρ x) (ρ k) ok) (NC P look t a b ok):=by
 unfold NC;split
 ·rename_i kt et ht;split
  ·rename_i d z hd hz;split
   ·rename_i hkd;refine bD.v _ λE w ρ hc hr=> ?_;simp only[Y,hr x _ hx,hr k _ hk,I,aL ht,H,SV.val,J];cases ok<;>simp[b!,aL hd,L,i6 (E:=E) hz,AN,SV.val,SV.vals,cj hd (En hkd E)]
   ·rename_i key hkd;split
    ·rename_i es clock hl;exact adI ht hd hz hkd hl hx hk
    ·rename_i f c pend hl;split
     ·rename_i lt s;split
      ·rename_i v hv;refine bD.k _ λE w ρ hc hr=> ?_;obtain⟨ob,hob,es,clock,rfl,hfm⟩:=hc.1 key _ hl rfl;have hlv:=iO.Zb hv E
       refine⟨match ok with
        | true=>.tuple #[v.val E,.bool (f s)]
        | false=>v.val E,?_,λu hu=>by injection hu with hu;subst hu;cases ok<;>rfl⟩
       simp only[Y,hr x _ hx,hr k _ hk,I,aL ht,H,SV.val,J,ct hob,cj (k:=.string ⟨s.toArray⟩) hd trivial _ 9999,b!,aL hd];rcases hfm.find s with ⟨h1,h2,_⟩ | ⟨h1,j,e,h2,_⟩
       ·have h2':L .string (.string ⟨s.toArray⟩) es.toList 0=_:=h2;rw[h1] at hlv ⊢;simp only[h2',J,H,I,i6 (E:=E) hz,hlv];cases ok<;>simp
       ·have h2':L .string (.string ⟨s.toArray⟩) es.toList 0=_:=h2;rw[h1] at hlv ⊢;simp only[h2',J,H,I,hlv];cases ok<;>simp
      ·split
       ·rename_i key' g _;refine bD.aBf ?_;refine bD.k _ λE w ρ hc hr=> ?_;obtain⟨ob,hob,es,clock,rfl,hfm⟩:=hc.1 key _ hl rfl;refine⟨(Nx ok key' (g s) (f s)).val E,?_,λu hu=>by injection hu with hu;subst hu;rfl⟩;simp only[Y,hr x _ hx,hr k _ hk,I,aL ht,H,SV.val,J,ct hob,cj (k:=.string ⟨s.toArray⟩) hd trivial _ 9999,b!,aL hd];rcases hfm.find s with ⟨h1,h2,_⟩ | ⟨h1,j,e,h2,_⟩
        ·have h2':L .string (.string ⟨s.toArray⟩) es.toList 0=_:=h2;rw[h1];simp only[h2',J,H,I,i6 (E:=E) hz];cases ok<;>simp[Nx,SV.val,SV.vals]
        ·have h2':L .string (.string ⟨s.toArray⟩) es.toList 0=_:=h2;rw[h1];simp only[h2',J,H,I];cases ok<;>simp[Nx,SV.val,SV.vals,iO.val]
       ·exact bD.fail _
     ·exact bD.fail _
    ·exact bD.fail _
   ·exact bD.fail _
  ·exact bD.fail _
 ·exact bD.fail _
end
def bytesOf:List SV->Option (Bool×h_)
 | []=>A (C,[])
 | .int .u8 l v::r=>(match bytesOf r with
   | some (l',bs)=>A (l&&l',bl v.toNat::bs)
   | none=>G)
 | _=>G
def Nt (P:Program)(t:TypeId):Bool:=match P.underlying t with
 | some (.slice e)=>(match P.underlying e with
   | some (.int .u8)=>C
   | _=>F)
 | _=>F
def b7 (f:Nat->Int)(i n:Nat):h_:=(cB n).map λj=>bl (f (i+j)).toNat
theorem Hg (g:Nat->Int): ∀ l:List Nat,∃ lt,bytesOf (l.map λj=>SV.int .u8 F (g j))=A (lt,l.map λj=>bl (g j).toNat)
 | []=>⟨C,rfl⟩
 | a::r=>by obtain⟨lt,h⟩:=Hg g r;simp_all [Sx.bytesOf]
def aeI (look:vn)(a:SV)(K:Option SV->VC):VC:=match a with
 | .bW=>K (A (.str C []))
 | .slc key o n _ _=>(match look key with
   | some (.cells cs _ _)=>(match nN cs o n with
     | some l=>(match bytesOf l with
       | some (l',bs)=>K (A (.str l' bs))
       | none=>.fail "convert: bytes that are not known")
     | none=>.fail "convert: a slice out of its block")
   | _=>.fail "convert: the block")
 | .bY key 1 F i n _=>(match look key with
   | some (.rows F nb [.int .u8 f] _ _ _)=>.and (.atom (i+n<=nb)) (K (A (.str F (b7 f i n))))
   | _=>.fail "convert: the block")
 | _=>.fail "convert: a slice"
def WK (P:Program)(look:vn)(src dst:TypeId)(a:SV)(K:Option SV->VC):VC:=match Nt P src,P.underlying dst with
 | true,A .string=>aeI look a K
 | _,_=>ap7 P src dst a K
def H7 (c:Value)(s:ByteArray):Sem (ForInStep ByteArray):=do
 let .int .u8 n:=c | stuck "bytesToString: byte expected"
 pure (.yield (s.push (bl n.toNat)))
theorem y5 (a:Addr)(n c:Nat):Conv.bytesToString (.slice (A a) n c)=(do
  let s ← forIn (← loadCells a n) ByteArray.empty H7
  pure (.string s)):=rfl
theorem GP {P:Program}{w:World}{E:Nat->Nat}: ∀ {l:List SV} {lt:Bool} {bs:h_} (acc:h_),bytesOf l=A (lt,bs)->
  (forIn (SV.vals E l) (⟨acc.toArray⟩:ByteArray) H7).run P w=.ok ⟨(acc++bs).toArray⟩ w
 | [],lt,bs,acc,h=>by simp only[bytesOf,c7,Prod.mk.injEq] at h;obtain⟨_,rfl⟩:=h;simp[SV.vals]
 | x::r,lt,bs,acc,h=>by
   unfold bytesOf at h;split at h
   ·rename_i e;cases e
   ·rename_i l v r' e;injection e with e1 e2;subst e1;subst e2;split at h
    ·rename_i l' bs' hr;simp only[c7,Prod.mk.injEq] at h;obtain⟨_,rfl⟩:=h;simp only[SV.vals,SV.val,List.forIn_cons,I];have:(H7 (.int .u8 v) ⟨acc.toArray⟩).run P w=.ok (.yield ⟨(acc++[bl v.toNat]).toArray⟩) w:=by simp[H7,ByteArray.push]
     rw[this];simp only[H];rw[GP (acc++[bl v.toNat]) hr];simp
    ·cases h
   ·cases h
section
variable {P : Program} {look : vn} {σ : Operand-> Option SV}
theorem yN {src dst:TypeId}{v:Value}(hb:Nt P src=C)(hd:P.underlying dst=A .string)(hv: ∀ k n,v≠.int k n)(hs: ∀ b,v≠.string b) :
  (convert src dst v).run P w=(Conv.bytesToString v).run P w:=by
 unfold Nt at hb;split at hb
 ·rename_i e he;split at hb
  ·rename_i he2;simp only[convert,I,aL he,aL hd,H]
   cases v<;>first
    | (rename_i k n;exact absurd rfl (hv k n))
    | (rename_i b;exact absurd rfl (hs b))
    | (simp only[aL he2,H])
  ·cases hb
 ·cases hb
theorem akW {src dst:TypeId}(hx:σ x=A a):bD P look σ (λρ=>convert src dst (ρ x)) (WK P look src dst a):=by
 unfold WK;split
 ·rename_i hb hd;unfold aeI;split
  ·exact bD.v _ λE w ρ hc hr=>by rw[hr x _ hx,yN hb hd (λ_ _ h=>by cases h) (λ_ h=>by cases h)];rfl
  ·rename_i key o n cl c;split
   ·rename_i cs tot ty hk;split
    ·rename_i l hl;split
     ·rename_i l' bs hbs;refine bD.v _ λE w ρ hc hr=> ?_;obtain⟨ob,ho,c0,fr,rfl,_,h2,_⟩:=hc.1 key _ hk rfl;have hg:=fY hl;have hll:=run_loadCells (P:=P) ho o (SV.vals E l) (λj v hj=>by
       rw[SV.cF,N] at hj;cases hjl:l[j]? with
       | none=>rw[hjl] at hj;cases hj
       | some u=>rw[hjl] at hj;injection hj with hj;subst hj;exact h2 _ _ (hg.2 j u hjl))
      have hlen:(SV.vals E l).length=n:=by rw[SV.cF,cy,hg.1]
      rw[hlen] at hll;rw[hr x _ hx,yN hb hd (λ_ _ h=>by cases h) (λ_ h=>by cases h)];simp only[SV.val,y5,I,hll,H];rw[← c_];have:=GP (P:=P) (w:=w) (E:=E) [] hbs;simp only[en] at this;exact(congrArg (λr:Result ByteArray=>r.andThen λa w'=>Sem.run P (pure (bn a)) w') this).trans rfl
     ·exact bD.fail _
    ·exact bD.fail _
   ·exact bD.fail _
  ·rename_i key i n c;split
   ·rename_i nb f ro tot ty hk;refine bD.atom λhin=>bD.v _ λE w ρ hc hr=> ?_;obtain⟨ob,ho,c0,fr,rfl,_,_,_,h2⟩:=hc.1 key _ hk rfl;obtain⟨lt,hbs⟩:=Hg (λj=>f (i+j)) (cB n);have hl:(SV.vals E ((cB n).map λj=>SV.int .u8 F (f (i+j)))).length=n:=by rw[SV.cF,cy,cy,List.length_range]
    have hll:=run_loadCells (P:=P) ho (i*1) (SV.vals E ((cB n).map λj=>SV.int .u8 F (f (i+j)))) (λj v hj=>by
     rw[SV.cF,ek,N] at hj;by_cases hjn:j<n
     ·rw[ef hjn] at hj;injection hj with hj;subst hj;have:=h2 (i+j) 0 (.int .u8 f) (by omega) rfl;rw[show i*1+j=(i+j)*[bh.int IntKind.u8 f].length+0 by simp];exact this
     ·rw[ec (by simpa using hjn)] at hj;cases hj)
    rw[hl] at hll;rw[hr x _ hx,yN hb hd (λ_ _ h=>by cases h) (λ_ h=>by cases h)];simp only[SV.val,Bool.false_and,cond_false,y5,I,hll,H];rw[← c_];have:=GP (P:=P) (w:=w) (E:=E) [] hbs;simp only[en] at this;exact(congrArg (λr:Result ByteArray=>r.andThen λa w'=>Sem.run P (pure (bn a)) w') this).trans rfl
   ·exact bD.fail _
  ·exact bD.fail _
 ·exact ap8 hx
end
def ak1 (P:Program)(src dst:TypeId):Bool :=
 match P.underlying src,P.underlying dst with
 | some (.int _),A (.int _)=>C
 | some .string,A .string=>C
 | _,A .string=>Nt P src
 | _,_=>F
def jC (P:Program):Op->Bool
 | .move _ | .assign _ | .pick .. | .load .. | .nilCheck _ | .binOp .. | .unOp .. | .makeInterface .. | .makeFunc .. | .slice .. | .fieldAddr .. | .field ..
 | .indexAddr .. | .index .. | .typeAssert .. | .extract .. | .build .. | .lookup .. =>C
 | .convert s d _=>ak1 P s d
 | .call c=>(match c.callee with
   | .builtin .len | .builtin .cap | .builtin .min | .builtin .max=>C
   | _=>F)
 | _=>F
def need (x:Option SV)(t:SV->VC):VC :=
 match x with
 | some v=>t v
 | none=>.fail "a value that is not known"
def azU (x:Option SV)(K:Option SV->VC):VC :=
 match x with
 | some (.ptr a b c)=>K (A (.ptr a b c))
 | some (.uI a b c d)=>K (A (.uI a b c d))
 | some (.qi a b c d e)=>K (A (.qi a b c d e))
 | some (.l7 a b c)=>K (A (.l7 a b c))
 | some (.yp a b c d e)=>K (A (.yp a b c d e))
 | some (.iface t v)=>K (A (.iface t v))
 | some (.func (.func f) a b)=>K (A (.func (.func f) a b))
 | _=>.fail "nilCheck"
def aqb (c a b:Option SV)(K:Option SV->VC):VC :=
 match c with
 | some (.bool C v)=>(match v with
   | true=>K a
   | false=>K b)
 | some (.bool F v)=>fork v (λe=>match e with
   | true=>K a
   | false=>K b)
 | _=>.fail "pick"
def ag5 (P:Program)(look:vn)(t:TypeId)(x:SV)(K:Option SV->VC):VC :=
 match x with
 | .map key=>(match P.underlying t,look key with
   | some (.map _ _),A (.map es _)=>K (A (.int .i64 C es.length))
   | _,_=>.fail "len: no map")
 | _=>azT P t x K
theorem ap9 {look:vn}{σ:Operand->Option SV}{ats:Array TypeId}(hx:σ x=A a)(h0:ats[0]?=A t) :
  bD P look σ (λρ=>Builtin.len_ ats ty #[ρ x]) (ag5 P look t a):=by
 unfold ag5;split
 ·rename_i key;split
  ·rename_i kt et es clock ht hl;refine bD.v _ λE w ρ hc hr=> ?_;obtain⟨ob,hob,hb⟩:=hc.1 key _ hl rfl;have hb:ob=.map (jM E es).toArray clock:=hb;subst hb;simp[Builtin.len_,h0,hr x _ hx,SV.val,aL ht,ct hob,goInt,jM]
  ·exact bD.fail _
 ·exact avw hx h0
def ag3 (P:Program)(look:vn)(σ:Operand->Option SV)(b:Builtin)(ats:Array TypeId)(args:List Operand)(K:Option SV->VC):VC :=
 match b,args with
 | .len,[x]=>(match ats[0]? with
   | some t=>need (σ x) (λv=>ag5 P look t v K)
   | none=>.fail "len")
 | .cap,[x]=>(match ats[0]? with
   | some t=>need (σ x) (λv=>azR P t v K)
   | none=>.fail "cap")
 | .min,[x,y]=>need (σ x) (λv=>need (σ y) (λu=>EH F v u K))
 | .max,[x,y]=>need (σ x) (λv=>need (σ y) (λu=>EH C v u K))
 | _,_=>.fail "builtin"
def qop (P:Program)(look:vn)(σ:Operand->Option SV)(o:Op)(K:Option SV->VC):VC :=
 match o with
 | .move x | .assign x=>K (σ x)
 | .pick c a b=>aqb (σ c) (σ a) (σ b) K
 | .load t a=>ag6 P look t (σ a) K
 | .nilCheck x=>azU (σ x) K
 | .binOp op t x y _=>need (σ x) (λa=>need (σ y) (λb=>azQ P op t (isConst x||isConst y) a b K))
 | .unOp op _ x=>need (σ x) (λa=>qun op a K)
 | .convert s d x=>need (σ x) (λa=>WK P look s d a K)
 | .makeInterface t x=>need (σ x) (λa=>GB P t a K)
 | .makeFunc fn a b=>KR fn (Yk σ a.toList) (Yk σ b.toList) K
 | .slice t x lo hi mx=>WN P σ t (σ x) lo hi mx K
 | .fieldAddr s x f=>Gz P s (σ x) f K
 | .field t x f=>need (σ x) (λa=>aeJ P t a f K)
 | .indexAddr t x i=>GA P t (σ x) (σ i) K
 | .index t x i=>need (σ x) (λa=>need (σ i) (λb=>aeK P t a b K))
 | .typeAssert x _ at_ ok=>need (σ x) (λa=>WI P a at_ ok K)
 | .extract x i=>need (σ x) (λa=>PF a i K)
 | .build t parts=>WJ P σ t parts.toList K
 | .lookup t x k ok=>need (σ x) (λa=>need (σ k) (λb=>NC P look t a b ok K))
 | .call c=>(match c.callee with
   | .builtin b=>ag3 P look σ b c.argTypes c.args.toList K
   | _=>.fail "call")
 | _=>.fail "no quiet operation"
def qA (P:Program)(look:vn)(σ:Operand->Option SV)(o:Oper)(t:QT):Prop :=
 ∃(obl:Prop) (sv:Option SV),(∀ K,(t K).holds↔obl/\(K sv).holds)/\
  (∀ E w ρ,Compat E look w->Reads E σ ρ->obl->∃ r,(execOp ρ o).run P w=.ok (.value r) w/\∀ v,sv=A v->r=v.val E)
section
variable {P : Program} {look : vn} {σ : Operand-> Option SV}
theorem qA.of {s:(Operand->Value)->Sem Value}{t:QT}(h:bD P look σ s t)(he: ∀ ρ,execOp ρ o=(do pure (.value (← s ρ)):Sem Next)):qA P look σ o t:=by obtain⟨obl,sv,h1,h2⟩:=h;refine⟨obl,sv,h1,λE w ρ hc hr ho=> ?_⟩;obtain⟨r,hrun,hv⟩:=h2 E w ρ hc hr ho;simp_all
theorem qA.fail (why:String):qA P look σ o (λ_=>.fail why) :=⟨False,G,λ_K=>⟨λh=>h.elim,λh=>h.1.elim⟩,λ_ _ _ _ _ h=>h.elim⟩
theorem qA.need {o:Oper}{x:Operand}{t:SV->QT}(h: ∀ v,σ x=A v->qA P look σ o (t v)):qA P look σ o (λK=>need (σ x) (λv=>t v K)):=by
 unfold Sx.need;cases hx:σ x with
 | none=>exact qA.fail _
 | some v=>exact h v hx
theorem qA.k (x:Operand)(he: ∀ ρ,execOp ρ o=(pure (.value (ρ x)):Sem Next)):qA P look σ o (λK=>K (σ x)) :=⟨True,σ x,(by grind),(by simp_all [Sx.Compat,Sx.Reads])⟩
theorem aeM (o:Oper):qA P look σ o (qop P look σ o.op):=by
 obtain⟨dst,op,type,pos,after,guard⟩:=o;cases op
 case move x=>exact qA.k x λρ=>rfl
 case assign x=>exact qA.k x λρ=>rfl
 case pick c a b =>
  show qA P look σ _ (aqb (σ c) (σ a) (σ b));unfold aqb;have key: ∀ l v,σ c=A (.bool l v)->qA P look σ ⟨dst,.pick c a b,type,pos,after,guard⟩ (λK=>match v with | true=>K (σ a) | false=>K (σ b)):=by
   intro l v hc;have he: ∀ E ρ w,Reads E σ ρ->(execOp ρ ⟨dst,.pick c a b,type,pos,after,guard⟩).run P w=.ok (.value (if v then ρ a else ρ b)) w:=by intro E ρ w hr;simp only[execOp,hr c _ hc,SV.val,asBool,I,J,H]
   cases v with
   | true=>exact⟨True,σ a,λK=>⟨λh=>⟨trivial,h⟩,λh=>h.2⟩,λE w ρ _ hr _=>⟨ρ a,by rw[he E ρ w hr];rfl,λv hv=>hr a v hv⟩⟩
   | false=>exact⟨True,σ b,λK=>⟨λh=>⟨trivial,h⟩,λh=>h.2⟩,λE w ρ _ hr _=>⟨ρ b,by rw[he E ρ w hr];rfl,λv hv=>hr b v hv⟩⟩
  split
  ·rename_i v hc;exact key _ _ hc
  ·rename_i v hc;obtain⟨obl,sv,h1,h2⟩:=key _ _ hc;exact⟨obl,sv,λK=>by rw[dY];exact h1 K,h2⟩
  ·exact qA.fail _
 case load t a=>exact qA.of (aqa t a) λρ=>rfl
 case nilCheck x =>
  show qA P look σ _ (azU (σ x));unfold azU;split
  all_goals first
   | exact qA.fail _
   | (rename_i hx;exact⟨True,_,λK=>⟨λh=>⟨trivial,h⟩,λh=>h.2⟩,λE w ρ _ hr _=>⟨_,by simp only[execOp,hr x _ hx,SV.val];rfl,λv hv=>by injection hv with hv;subst hv;rfl⟩⟩)
 case binOp op t x y yt=>exact qA.need λa ha=>qA.need λb hb=>qA.of (avr (_yt:=yt) ha hb) λρ=>rfl
 case unOp op t x=>exact qA.need λa ha=>qA.of (azW ha) λρ=>rfl
 case convert s d x=>exact qA.need λa ha=>qA.of (akW ha) λρ=>rfl
 case makeInterface t x=>exact qA.need λa ha=>qA.of (RG ha) λρ=>rfl
 case makeFunc fn a b=>exact qA.of WL λρ=>rfl
 case slice t x lo hi mx=>exact qA.of ak0 λρ=>rfl
 case fieldAddr s x f=>exact qA.of (RE s x f) λρ=>rfl
 case field t x f=>exact qA.need λa ha=>qA.of (akX ha) λρ=>rfl
 case indexAddr t x i=>exact qA.of (RF t x i) λρ=>rfl
 case index t x i=>exact qA.need λa ha=>qA.need λb hb=>qA.of (akY ha hb) λρ=>rfl
 case typeAssert x t at_ ok=>exact qA.need λa ha=>qA.of (aeH (t:=t) ha) λρ=>rfl
 case extract x i=>exact qA.need λa ha=>qA.of (ZZ ha) λρ=>rfl
 case build t parts=>exact qA.of akV λρ=>rfl
 case lookup t x k ok=>exact qA.need λa ha=>qA.need λb hb=>qA.of (aeL ha hb) λρ=>rfl
 case call c =>
  obtain⟨callee,args,ats⟩:=c;cases callee with
  | value f=>exact qA.fail _
  | invoke r m=>exact qA.fail _
  | builtin b =>
    show qA P look σ _ (ag3 P look σ b ats args.toList);unfold ag3;have harr: ∀ {l:List Operand},args.toList=l->args=l.toArray:=λh=>by rw[← h]
    split
    ·rename_i x hx;have:=harr hx;subst this;split
     ·rename_i t ht;exact qA.need λa ha=>qA.of (ap9 (ty:=type) ha ht) λρ=>(b_ ..).trans (by rw[BigFrame.builtin_len];simp)
     ·exact qA.fail _
    ·rename_i x hx;have:=harr hx;subst this;split
     ·rename_i t ht;exact qA.need λa ha=>qA.of (avt (ty:=type) ha ht) λρ=>(b_ ..).trans (by rw[BigFrame.builtin_cap];simp)
     ·exact qA.fail _
    ·rename_i x y hx;have:=harr hx;subst this;exact qA.need λa ha=>qA.need λb hb=>qA.of (avy (ats:=ats) (ty:=type) ha hb) λρ=>(b_ ..).trans (by rw[BigFrame.builtin_min];simp)
    ·rename_i x y hx;have:=harr hx;subst this;exact qA.need λa ha=>qA.need λb hb=>qA.of (avx (ats:=ats) (ty:=type) ha hb) λρ=>(b_ ..).trans (by rw[BigFrame.builtin_max];simp)
    ·exact qA.fail _
 all_goals exact qA.fail _
end
def Fr (ro:Option Nat):Fence:={Fence.wide with round:=ro}
theorem NZ {ro:Option Nat}{n:Nat}{f:FuncId}{args:Array Value}{R:Ending->World->Prop}:CallsIn (Fr ro) n P f args w R↔Calls P f args w R:=by
 rw[← callsIn_wide (n:=n)];cases ro with
 | none=>exact Iff.rfl
 | some l=>exact⟨CallsIn.outOfRound,CallsIn.inRound l⟩
def Out (P:Program)(R:Value->World->Prop)(x:Result Next)(RP:List PanicEntry->World->Prop:=λ_ _=>False):Prop:=match x with
 | .ok (.value v) w=>R v w
 | .ok .skip w=>R undef w
 | .ok (.enter f args) w=>Calls P f args w λe w'=>(∃ v,e=.returned v/\R v w')∨∃ ch,e=.panicked ch/\RP ch w'
 | .ok (.round l f tmps assign body) w=>RoundIn Fence.wide 0 P l f tmps assign body w λe w'=>∃ v,e=.returned v/\R v w'
 | .halt (.panic v) w=>RP [{v,recovered:=F}] w
 | _=>False
theorem NN (ro:Option Nat){a:Act}: ∀ f,o.about P w a.eval=A f->(Fr ro).fn f:=λ_ _=>trivial
def AR (o:Oper):Bool:=match o.op with
 | .defer _=>F
 | _=>C
theorem ast {ro:Option Nat}(h:AR o=C)(ρ:Operand->Value):o.semAt ro ρ=execOp ρ o:=by
 cases ro with
 | none=>rfl
 | some l =>
   unfold AR at h;unfold Oper.semAt
   grind
theorem Out.wp {ro:Option Nat}(hd:AR o=C){a:Act}{Q:Exit->Act->World->Prop}{K:Act->World->Prop}
  (h:Out P R ((execOp a.eval o).run P w) RP) (hk: ∀ r w',R r w'->K (a.put o.dst r) w') (hp: ∀ ch w',RP ch w'->Q (.panic ch) a w'):o.wpIn (Fr ro) 0 P a w K Q:=by
 unfold Oper.wpIn;refine⟨NN ro,?_⟩;have hs:o.semAt (Fr ro).round a.eval=execOp a.eval o:=ast (ro:=ro) hd _;rw[hs];generalize (execOp a.eval o).run P w=x at h;cases x with
 | ok n w' =>
   cases n<;>simp only[Out] at h<;>simp only[Oper.uponIn]
   case value v=>exact hk _ _ h
   case skip=>exact hk _ _ h
   case enter f args =>
    refine⟨λh=>(by cases ro<;>cases h),NZ.2 (Calls.mono h λe w'' he=> ?_)⟩
    rcases he with ⟨v,rfl,hr⟩ | ⟨ch,rfl,hr⟩
    ·exact hk _ _ hr
    ·exact hp _ _ hr
   case round l f tmps assign body =>
    refine⟨λh=>(by cases ro<;>cases h),?_⟩
    have h2:RoundIn (Fr ro) 0 P l f tmps assign body w' λe w''=>∃ v,e=.returned v/\R v w'':=by cases ro<;>exact h
    refine h2.mono λe w'' he=> ?_;obtain⟨v,rfl,hr⟩:=he;exact hk _ _ hr
 | halt x w' =>
   cases x<;>simp only[Out] at h
   simp only[Oper.uponIn];exact hp _ _ h
theorem Out.mono {R':Value->World->Prop}{RP':List PanicEntry->World->Prop}{x:Result Next}(h:Out P R x RP)(hr: ∀ v w,R v w->R' v w)(hp: ∀ c w,RP c w->RP' c w):Out P R' x RP':=by
 unfold Out at *
 grind [Calls.mono,RoundIn.mono]
theorem Out.E8 {x:Result Next}(h:Out P R x):Out P R x RP:=h.mono (λ_ _ h=>h) (λ_ _ h=>h.elim)
abbrev KL:=Option SV->Mem->Nat->VC
def cn (K:KL)(Γ:b5)(E:Nat->Nat)(nx:Nat)(r:Value)(w':World):Prop :=∃ E' sv m' nx',(∀ k,k<nx->E' k=E k)/\nx<=nx'/\(∀ v,sv=A v->r=v.val E')/\bp Γ E' m' nx' w'/\(K sv m' nx').holds
abbrev PK:=SV->Mem->Nat->VC
def sN (KP:PK)(Γ:b5)(E:Nat->Nat)(nx:Nat)(ch:List PanicEntry)(w':World):Prop :=∃ E' v m' nx',(∀ k,k<nx->E' k=E k)/\nx<=nx'/\ch=[{v:=v.val E',recovered:=F}]/\v.wf nx'=C/\bp Γ E' m' nx' w'/\(KP v m' nx').holds
theorem sN.weaken {KP:PK}{E E':Nat->Nat}{nx':Nat}{ch:List PanicEntry}(h:sN KP Γ E' nx' ch w)(hE: ∀ k,k<nx->E' k=E k)(hn:nx<=nx'):sN KP Γ E nx ch w:=by obtain⟨E'',v,m,n,h1,h2,h3,h4,h5,h6⟩:=h;exact⟨E'',v,m,n,(by grind),Nat.le_trans hn h2,h3,h4,h5,h6⟩
theorem cn.MP {K:KL}{E:Nat->Nat}{r:Value}(h:cn K Γ.own E nx r w):cn K Γ E nx r w:=by obtain⟨E',sv,m',nx',h1,h2,h3,h4,h5⟩:=h;exact⟨E',sv,m',nx',h1,h2,h3,h4.MP,h5⟩
theorem sN.MP {KP:PK}{E:Nat->Nat}{c:List PanicEntry}(h:sN KP Γ.own E nx c w):sN KP Γ E nx c w:=by obtain⟨E',v,m',nx',h1,h2,h3,h4,h5,h6⟩:=h;exact⟨E',v,m',nx',h1,h2,h3,h4,h5.MP,h6⟩
def WfS (nx:Nat)(σ:Operand->Option SV):Prop:=∀ x v,σ x=A v->v.wf nx=C
def B7 (P:Program)(Γ:b5)(σ:Operand->Option SV)(m:Mem)(nx:Nat)(o:Oper)(t:KL->VC):Prop :=∀ K E w ρ,(t K).holds->bp Γ E m nx w->Mem.wf nx m=C->WfS nx σ->Reads E σ ρ->Out P (cn K Γ E nx) ((execOp ρ o).run P w)
section
variable {P : Program} {Γ : b5} {σ : Operand-> Option SV} {m : Mem} {nx : Nat} {o : Oper}
theorem B7.fail (why:String):B7 P Γ σ m nx o (λ_=>.fail why):=λ_ _ _ _ h=>h.elim
theorem B7.need {x:Operand}{t:SV->KL->VC}(h: ∀ v,σ x=A v->B7 P Γ σ m nx o (t v)):B7 P Γ σ m nx o (λK=>need (σ x) (λv=>t v K)):=by
 unfold Sx.need;cases hx:σ x with
 | none=>exact B7.fail _
 | some v=>exact h v hx
theorem cn.alloc {K:KL}{E:Nat->Nat}(hs:bp Γ E m nx w)(hw:Mem.wf nx m=C){cs:List SV}{tot:Nat}
  {sv:SV}  (hcs:SV.lY nx cs=C) (hc: ∀(i:Nat) (v:SV),cs[i]?=A v->c[i]?=A (v.val E)) (hm:c.size=tot)
  (hk:(K (A sv) ((nx,.cells cs tot ty)::m) (nx+1)).holds) {r:Value} (hr:r=sv.val (λk=>if k=nx then w.heap.size else E k)) :
  cn K Γ E nx r {w with heap:=w.heap.push (.cells c ty)}:=by
 have hE: ∀ k,k<nx->(λk=>if k=nx then w.heap.size else E k) k=E k:=(by grind)
 refine⟨_,A sv,_,_,hE,Nat.le_succ _,(by grind),hs.alloc hw (B:=.cells cs tot ty) ?_,hk⟩;refine⟨c,(0,0),rfl,(by omega),λi v hv=> ?_,hm⟩;rw[SV.val_congr hE v (SV.EZ hcs hv)];grind
theorem Pq {nx:Nat}: ∀ {l:List Value} {xs:List SV},SV.xX l=A xs->SV.lY nx xs=C
 | [],xs,h=>by simp[SV.xX] at h;subst h;rfl
 | v::r,xs,h=>by
   simp only[SV.xX] at h;split at h
   ·rename_i x l' hx hl;injection h with h;subst h;simp only[SV.lY,Pq hl,Bool.and_true];unfold SV.Gw at hx;split at hx<;>first | (injection hx with hx;subst hx;rfl) | cases hx
   ·cases h
theorem Pr {v:Value}{x:SV}(h:SV.ofConst v=A x):x.wf nx=true:=by
 unfold SV.ofConst at h;split at h
 ·split at h
  ·rename_i l hl;injection h with h;subst h;exact Pq hl
  ·cases h
 ·unfold SV.Gw at h;split at h<;>first | (injection h with h;subst h;rfl) | cases h
theorem Lp {v:SV}(h:mO P t=A v):v.wf nx=true:=by grind [Pr,mO]
theorem y6 {v:SV}(h:v.wf nx=C):SV.lY nx v.cells=true:=by cases v<;>simp_all [SV.cells,SV.wf,SV.lY]
theorem HQ {E:Nat->Nat}{l:List SV}(hc:c.toList=l.map (SV.val E)): ∀(i:Nat) (v:SV),l[i]?=A v->c[i]?=A (v.val E):=by intro i v hv;rw[← cL,hc,N,hv];rfl
theorem CR {E:Nat->Nat}{l:List SV}(hc:c.toList=l.map (SV.val E)):c.size=l.length:=by rw[← Array.length_toList,hc,cy]
def We (ty:TypeId)(v:SV)(m:Mem)(nx:Nat)(K:KL):VC :=
 match v.plain with
 | true=>K (A (.ptr nx C 0)) ((nx,.cells v.cells v.cells.length ty)::m) (nx+1)
 | false=>.fail "new: a value that is not known"
def aec (elem:TypeId)(cs:List SV)(n:Nat)(m:Mem)(nx:Nat)(K:KL):VC :=K (A (.slc nx 0 n C n)) ((nx,.cells cs cs.length elem)::m) (nx+1)
theorem Gt {v:Value}:(newVar t v).run P w=.ok ⟨w.heap.size,0,G⟩ {w with heap:=w.heap.push (.cells v.cells t)}:=by simp[newVar,newRow]
theorem aj9 {pos:String}{guard:Option (Nat×Bool)} :
  B7 P Γ σ m nx ⟨dst,.alloc t,type,pos,after,guard⟩ (λK=>match mO P t with | some z=>We t z m nx K | none=>.fail "alloc"):=by
 intro K E w ρ h hs hw hσ hr;split at h
 ·rename_i z hz;unfold We at h;split at h
  ·rename_i hp;simp only[execOp,Instr.alloc,I,i6 (E:=E) hz,H,Gt,J,Out];exact cn.alloc hs hw (y6 (Lp hz)) (by grind [HQ,SV.lA]) (by grind [CR,SV.lA]) h (by simp[SV.val])
  ·exact h.elim
 ·exact h.elim
theorem au0 {pos:String}{guard:Option (Nat×Bool)} :
  B7 P Γ σ m nx ⟨dst,.box t x,type,pos,after,guard⟩ (λK=>need (σ x) (λv=>We t v m nx K)):=by
 refine B7.need λv hv=> ?_;intro K E w ρ h hs hw hσ hr;unfold We at h;split at h
 ·rename_i hp;simp only[execOp,Instr.box,I,H,Gt,J,Out];exact cn.alloc hs hw (y6 (hσ _ _ hv)) (HQ (by rw[hr _ _ hv,SV.lA hp])) (CR (E:=E) (by rw[hr _ _ hv,SV.lA hp])) h (by simp[SV.val])
 ·exact h.elim
def times (n:Nat)(zs:List SV):List SV:=match n with
 | 0=>[]
 | n+1=>zs++times n zs
theorem DX {E:Nat->Nat}{zs:List SV}{z:Array Value}(hz:z.toList=zs.map (SV.val E))(hne:z.size≠0): ∀ n:Nat,
  ((cO (n*z.size)).map λi=>z[i%z.size]!).toList=(times n zs).map (SV.val E)
 | 0=>by simp[times]
 | n+1=>by
   have ih:=DX hz hne n;simp only[Array.toList_map,Array.toList_range] at ih ⊢;rw[show(n+1)*z.size=z.size+n*z.size by grind,List.range_add,ej,times,ej,← ih];congr 1
   ·rw[← hz];apply d_
    grind [ef,Nat.mod_eq_of_lt,ec]
   ·rw[ek];apply List.map_congr_left;intro i _;simp
theorem Q9 {nx:Nat}{zs:List SV}(h:SV.lY nx zs=C): ∀ n,SV.lY nx (times n zs)=C
 | 0=>rfl
 | n+1=>by
   have ih:=Q9 h n;simp only[times];have app: ∀ {a b:List SV},SV.lY nx a=C->SV.lY nx b=C->SV.lY nx (a++b)=true:=by
    intro a;induction a with
    | nil=>grind
    | cons x r ihr=>intro b ha hb;simp only[SV.lY,O,c!] at ha ⊢;grind
   exact app h ih
theorem kS {nx:Nat}: ∀ {a b:List SV},SV.lY nx a=C->SV.lY nx b=C->SV.lY nx (a++b)=C
 | [],_,_,hb=>hb
 | x::r,b,ha,hb=>by simp only[SV.lY,O,c!] at ha ⊢;exact⟨ha.1,kS ha.2 hb⟩
theorem ajn {nx:Nat}: ∀ {a:List SV} {i:Nat} {v:SV},SV.lY nx a=C->v.wf nx=C->SV.lY nx (a.set i v)=C
 | [],_,_,_,_=>rfl
 | x::r,0,v,ha,hv=>by simp only[SV.lY,O,List.set_cons_zero] at ha ⊢;exact⟨hv,ha.2⟩
 | x::r,i+1,v,ha,hv=>by simp only[SV.lY,O,List.set_cons_succ] at ha ⊢;exact⟨ha.1,ajn ha.2 hv⟩
theorem JC {nx:Nat}: ∀ {vs cs:List SV} {off:Nat},SV.lY nx cs=C->SV.lY nx vs=C->SV.lY nx (cA cs off vs)=C
 | [],_,_,hc,_=>hc
 | v::r,cs,off,hc,hv=>by simp only[SV.lY,O] at hv;rw[cA];exact JC (ajn hc hv.1) hv.2
theorem Yp {nx:Nat}{place:Nat->Option (Nat×Nat)}: ∀ {parts:List (Nat×SV)} {cells out:List SV},CB place cells parts=A out->SV.lY nx cells=C->
  (∀ p∈ parts,p.2.wf nx=C)->SV.lY nx out=C
 | [],cells,out,h,hc,_=>by simp[CB] at h;subst h;exact hc
 | (i,v)::rest,cells,out,h,hc,hp=>by
   simp only[CB] at h;split at h
   ·cases h
   ·split at h
    ·exact Yp h (JC hc (y6 (hp (i,v) (by simp)))) (λp hm=>hp p (by simp[hm]))
    ·cases h
theorem Px {nx:Nat}{σ:Operand->Option SV}(hσ:WfS nx σ): ∀ {ps:List (Nat×Operand)} {l:List (Nat×SV)},partsOf σ ps=A l->∀ p∈ l,p.2.wf nx=C
 | [],l,h,p,hp=>by simp[partsOf] at h;subst h;cases hp
 | (i,x)::r,l,h,p,hp=>by
   simp only[partsOf] at h;split at h
   ·rename_i v l' hv hl;injection h with h;subst h;cases hp with
    | head=>exact hσ x v hv
    | tail _ hp=>exact Px hσ hl p hp
   ·cases h
def tX (P:Program)(σ:Operand->Option SV)(t:TypeId)(len:Nat)(parts:List (Nat×Operand))(m:Mem)(nx:Nat)(K:KL):VC :=
 match P.underlying t with
 | some (.slice e)=>(match sz P e,mO P e,partsOf σ parts with
   | some s,A z,A ps=>if z.plain&&S (z.cells.length=s)&&S (len*s<=16777216)&&S (s≠0)then(match CB (λi=>A (i*s,s)) (times len z.cells) ps with
      | some out=>aec e out len m nx K
      | none=>.fail "buildSlice: fill")else .fail "buildSlice: size"
   | _,_,_=>.fail "buildSlice")
 | _=>.fail "buildSlice"
theorem OQ {pos:String}{guard:Option (Nat×Bool)}{len:Nat}{parts:Array (Nat×Operand)} :
  B7 P Γ σ m nx ⟨dst,.buildSlice t len parts,type,pos,after,guard⟩ (tX P σ t len parts.toList m nx):=by
 intro K E w ρ h hs hw hσ hr;unfold tX at h;split at h
 ·rename_i e hd;split at h
  ·rename_i s z ps hsz hz hp;split at h
   ·rename_i hc;simp only[O,m_] at hc;obtain⟨⟨⟨h1,h2⟩,h3⟩,h4⟩:=hc;split at h
    ·rename_i out hf;unfold aec at h;have hzc:=SV.lA (E:=E) h1;have hzs:(z.val E).cells.size=s:=by rw[hzc];simp[h2]
     have hfill:=Ea (E:=E) ps _ out hf;have hpp:(parts.map fun(x:Nat×Operand)=>(x.1,ρ x.2)).toList=ps.map λp=>(p.1,p.2.val E):=by rw[← xZ hr hp];simp
     have fin: ∀ z':Array Value,((cO (len*s)).map λi=>z'[i%z'.size]!)=(SV.vals E (times len z.cells)).toArray->
       Out P (cn K Γ E nx) ((match Instr.fill (λi=>A (i*s,s)) ((cO (len*s)).map λi=>z'[i%z'.size]!) (parts.map fun(x:Nat×Operand)=>(x.1,ρ x.2)).toList with
        | some cells=>do
          let r ← newRow e cells
          pure (Value.slice (A r) len len)
        | _=>stuck "buildSlice: a part of the wrong size" : Sem Value).run P w |>.andThen λa w'=>(pure (Next.value a):Sem Next).run P w'):=by
      intro z' hz';rw[hz',hpp,hfill];simp only[H,I,newRow,run_newObj,J,Out];exact cn.alloc hs hw (Yp hf (Q9 (y6 (Lp hz)) len) (Px hσ hp)) (HQ (by simp[SV.cF])) (CR (E:=E) (by simp[SV.cF])) h (by simp[SV.val])
     simp only[execOp,Instr.buildSlice,I,aL hd,H,dV hsz,Sem.run_ite];rw[p_ (by omega)];by_cases h0:len*s=0
     ·rw[o_ h0];simp only[J,H];refine fin #[] ?_;have:len=0:=by rcases Nat.mul_eq_zero.1 h0 with h | h;exact h;exact absurd h h4
      subst this;simp[times,SV.vals]
     ·rw[p_ h0];simp only[i6 (E:=E) hz,J,H];refine fin _ ?_;apply Array.ext';have:=DX (E:=E) (zs:=z.cells) (z:=(z.val E).cells) (by rw[hzc]) (by rw[hzs];exact h4) len;rw[hzs] at this;rw[SV.cF];simpa [hzs] using this
    ·exact h.elim
   ·exact h.elim
  ·exact h.elim
 ·exact h.elim
end
theorem afc {b o:Nat}{v:Value}{fr:Nat×Nat}(h:w.heap[b]?=A (.cells c ty fr)) :
  w.setCell ⟨b,o,G⟩ v={w with heap:=w.heap.setIfInBounds b (.cells (c.setIfInBounds o v) ty fr)}:=by
 unfold World.setCell;congr 1;apply c8;intro i;rw[Array.getElem?_modify,W];by_cases e:b=i
 ·subst e;obtain⟨hlt,he⟩:=V.1 h;simp[hlt,he]
 ·simp[e]
def j6 (c:Array Value)(off:Nat):List Value->Array Value
 | []=>c
 | v::r=>j6 (c.setIfInBounds off v) (off+1) r
theorem nB: ∀(vs:List Value) (c:Array Value) (off:Nat),(j6 c off vs).toList=cA c.toList off vs
 | [],_,_=>rfl
 | v::r,c,off=>by rw[j6,nB r,cA];simp
theorem cZ: ∀(vs:List Value) (c:Array Value) (off:Nat),(j6 c off vs).size=c.size
 | [],_,_=>rfl
 | v::r,c,off=>by rw[j6,cZ r];simp
theorem ie {P:Program}{b o:Nat}{ty:TypeId}{fr:Nat×Nat}: ∀(vs:List Value) (i:Nat) (w:World) (c:Array Value),w.heap[b]?=A (.cells c ty fr)->
  (∀ j,c.size<=j∨¬ (fr.1<=j/\j<fr.2))->o+i+vs.length<=c.size->(∀ v∈ vs,v.oneCell'=C)->
  (storeCells ⟨b,o,G⟩ vs i).run P w=.ok () {w with heap:=w.heap.setIfInBounds b (.cells (j6 c (o+i) vs) ty fr)}
 | [],i,w,c,h,_,_,_=>by
   simp only[storeCells,J,j6];congr 1;have:w.heap.setIfInBounds b (.cells c ty fr)=w.heap:=by
    apply c8;intro j;rw[W];by_cases e:b=j
    ·subst e;obtain⟨hlt,he⟩:=V.1 h;simp[hlt,he]
    ·simp[e]
   rw[this]
 | v::r,i,w,c,h,hf,hl,hv=>by
   have hv0:=hv v (by simp);simp only[cx] at hl;have hlt:o+i<c.size:=by omega
   have hfz:w.frozen? ⟨b,o+i,G⟩=false:=by
    simp only[World.frozen?,h];have:=hf (o+i);obtain⟨lo,hi⟩:=fr;simp only at this ⊢;rcases this with h1 | h1
    ·omega
    ·simp only[Bool.and_eq_false_iff,n_];by_cases h2:lo<=o+i
     ·right;exact λh3=>h1 ⟨h2,h3⟩
     ·left;exact h2
   have hc:w.cell? ⟨b,o+i,G⟩=A c[o+i]:=by rw[cell_of h,Array.getElem?_eq_getElem hlt]
   simp only[storeCells,I,fS,run_store P w ⟨b,o+i,G⟩ v .plain hv0,hc,hfz,Bool.false_eq_true,if_false,H];rw[afc h];have hblt:=(V.1 h).1;rw[ie (ty:=ty) (fr:=fr) r (i+1) _ (c.setIfInBounds (o+i) v) (by simp[hblt]) (by simpa using hf) (by simp;omega) (λu hu=>hv u (by simp[hu]))];congr 1;simp only[j6,Array.setIfInBounds_setIfInBounds,Nat.add_assoc]
section
variable {P : Program} {Γ : b5} {σ : Operand-> Option SV} {m : Mem} {nx : Nat}
theorem cn.write {K:KL}{E:Nat->Nat}(hs:bp Γ E m nx w){key:Nat}{cs:List SV}{tot:Nat}
  (hk:m.get key=A (.cells cs tot ty)) {off:Nat} {vs:List SV} (hv: ∀ v∈ vs,v.wu=C) (hl:off+vs.length<=cs.length) {sv:Option SV} {r:Value} (hr: ∀ v,sv=A v->r=v.val E)
  (h:(K sv (m.put key (.cells (cA cs off vs) tot ty)) nx).holds) :
  ∃ w',(storeCells ⟨E key,off,G⟩ (SV.vals E vs)).run P w=.ok () w'/\cn K Γ E nx r w':=by
 obtain⟨ob,ho,c,fr,rfl,h1,h2,h3⟩:=hs.yZ key _ hk rfl;have hcl:cs.length<=c.size:=by
  cases hcs:cs.length with
  | zero=>omega
  | succ n =>
    obtain⟨v,hv⟩: ∃ v,cs[n]?=A v:=⟨cs[n]'(by omega),M _⟩
    have:=h2 n v hv;have:=(V.1 this).1;omega
 have hrun:=ie (P:=P) (o:=off) (SV.vals E vs) 0 w c ho h1 (by simp[SV.cF];omega) (λv hv'=>by rw[SV.cF,List.mem_map] at hv';obtain⟨u,hu,rfl⟩:=hv';exact SV.AL (hv u hu))
 refine⟨_,hrun,E,sv,_,_,λ_ _=>rfl,X _,hr,hs.write hk rfl rfl (B':=.cells (cA cs off vs) tot ty) ?_ rfl,h⟩;refine⟨_,fr,rfl,by rw[cZ];exact h1,λi v hi=> ?_,by rw[cZ];exact h3⟩;rw[← cL,nB,bf]
 have key2: ∀(vs:List SV) (cs:List SV) (l:List Value) (off:Nat),(∀(i:Nat) (v:SV),cs[i]?=A v->l[i]?=A (v.val E))->
   ∀(i:Nat) (v:SV),(cA cs off vs)[i]?=A v->(cA l off (SV.vals E vs))[i]?=A (v.val E):=by
  intro vs;induction vs with
  | nil=>intro cs l off h i v hi;exact h i v hi
  | cons x r ih =>
    intro cs l off h i v hi;simp only[cA,SV.vals] at hi ⊢;refine ih (cs.set off x) (l.set off (x.val E)) (off+1) (λj u hj=> ?_) i v hi;rw[a_] at hj ⊢;split at hj
    ·rename_i e;subst e;split at hj
     ·rename_i hlt;injection hj with hj;subst hj;have:off<l.length:=by
       obtain⟨u,hu⟩: ∃ u,cs[off]?=A u:=⟨cs[off],M hlt⟩
       have:=h off u hu;exact(T.1 this).1
      simp[this]
     ·cases hj
    ·rename_i e;rw[p_ e];exact h j u hj
 exact key2 vs cs c.toList off (λj u hj=>by rw[cL];exact h2 j u hj) i v hi
def yY:List SV->Bool
 | []=>C
 | v::r=>v.wu&&yY r
theorem q7: ∀ {l:List SV},yY l=C->∀ v∈ l,v.wu=C
 | x::r,h,v,hv=>by
   simp only[yY,O] at h;cases hv with
   | head=>exact h.1
   | tail _ hv=>exact q7 h.2 v hv
def mix (k:IntKind)(i:Nat)(v:Int):Nat->List Int->List SV
 | _,[]=>[]
 | j,z::r=>.int k F (if i=j then v else z)::mix k i v (j+1) r
theorem agW {k:IntKind}{i:Nat}{v:Int}: ∀ {l:List Int} {j:Nat},(mix k i v j l).length=l.length
 | [],_=>rfl
 | _::r,j=>by simp[mix,agW (l:=r)]
theorem agV {k:IntKind}{i:Nat}{v:Int}: ∀ {l:List Int} {j q:Nat} {x:SV},(mix k i v j l)[q]?=A x->x=.int k F (if i=j+q then v else M8 l q)
 | [],_,_,_,h=>by simp[mix] at h
 | z::r,j,0,x,h=>by simp[mix] at h;subst h;simp[M8]
 | z::r,j,q+1,x,h=>by simp only[mix,d!] at h;rw[agV h,show j+1+q=j+(q+1)by omega];simp[M8]
def uK (i:Nat)(v:h_):Nat->List h_->List SV
 | _,[]=>[]
 | j,z::r=>.str F (if i=j then v else z)::uK i v (j+1) r
theorem Zq {i:Nat}{v:h_}: ∀ {l:List h_} {j:Nat},(uK i v j l).length=l.length
 | [],_=>rfl
 | _::r,j=>by simp[uK,Zq (l:=r)]
theorem Zp {i:Nat}{v:h_}: ∀ {l:List h_} {j q:Nat} {x:SV},(uK i v j l)[q]?=A x->x=.str F (if i=j+q then v else l9 l q)
 | [],_,_,_,h=>by simp[uK] at h
 | z::r,j,0,x,h=>by simp[uK] at h;subst h;simp[l9]
 | z::r,j,q+1,x,h=>by simp only[uK,d!] at h;rw[Zp h,show j+1+q=j+(q+1)by omega];simp[l9]
def bh.upd (i:Nat)(v:SV):bh->Option bh
 | .int k f=>(match v with
   | .int k' _ n=>if k=k' then A (.int k λj=>if j=i then n else f j)else G
   | _=>G)
 | .bool f=>(match v with
   | .bool _ b=>A (.bool λj=>if j=i then b else f j)
   | _=>G)
 | .str f=>(match v with
   | .str _ s=>A (.str λj=>if j=i then s else f j)
   | _=>G)
 | .ref k f=>(match v with
   | .l7 _ a 0=>A (.ref k λj=>if j=i then a else f j)
   | _=>G)
 | .iP k w z f n c=>(match v with
   | .iP _ w' z' a 0 n' c'=>if w=w'/\z=z' then A (.iP k w z (λj=>if j=i then a else f j) (λj=>if j=i then n' else n j) (λj=>if j=i then c' else c j))else G
   | _=>G)
 | .raw _=>G
theorem bh.afu {i:Nat}{v:SV}{c c':bh}(h:c.upd i v=A c')(E:Nat->Nat):(c'.at i).val E=v.val E/\∀ j,j≠i->c'.at j=c.at j:=by
 cases c with
 | int k f =>
   simp only[bh.upd] at h;split at h
   ·split at h
    ·rename_i e;subst e;injection h with h;subst h;exact⟨by simp[bh.at,SV.val],λj hj=>by simp[bh.at,hj]⟩
    ·cases h
   ·cases h
 | bool f =>
   simp only[bh.upd] at h;split at h
   ·injection h with h;subst h;exact⟨by simp[bh.at,SV.val],λj hj=>by simp[bh.at,hj]⟩
   ·cases h
 | str f =>
   simp only[bh.upd] at h;split at h
   ·injection h with h;subst h;exact⟨by simp[bh.at,SV.val],λj hj=>by simp[bh.at,hj]⟩
   ·cases h
 | ref k f =>
   simp only[bh.upd] at h;split at h
   ·injection h with h;subst h;exact⟨by simp[bh.at,SV.val],λj hj=>by simp[bh.at,hj]⟩
   ·cases h
 | iP k w z f n c =>
   simp only[bh.upd] at h;split at h
   ·split at h
    ·rename_i e;obtain⟨rfl,rfl⟩:=e;injection h with h;subst h;exact⟨by simp[bh.at,SV.val],λj hj=>by simp[bh.at,hj]⟩
    ·cases h
   ·cases h
 | raw f=>cases h
theorem bh.Jv {i:Nat}{v:SV}{c c':bh}(h:c.upd i v=A c'):v.wu=true:=by
 cases c<;>simp only[bh.upd] at h
 case raw=>cases h
 all_goals (split at h<;>first | rfl | cases h)
def yA (P:Program)(t:TypeId)(a x:Option SV)(m:Mem)(nx:Nat)(K:KL):VC :=
 match a,x,sz P t with
 | some (.ptr key C o),A v,A n=>(match m.get key with
   | some (.cells cs tot ty)=>if v.plain&&yY v.cells&&S (v.cells.length=n)&&S (o+n<=cs.length)then
      K G (m.put key (.cells (cA cs o v.cells) tot ty)) nx else .fail "store: cells"
   | _=>.fail "store: no such block")
 | some (.Aq key base n i),A (.int k _ v),A 1=>(match m.get key with
   | some (.cells cs tot ty)=>(match nN cs base n with
     | some l=>(match Gl k l with
       | some zs=>.and (.atom (i<n)) (K G (m.put key (.cells (cA cs base (mix k i v 0 zs)) tot ty)) nx)
       | none=>.fail "store: no integers")
     | none=>.fail "store: cells")
   | some (.rows F nb [c] F tot ty)=>(match c.upd (base+i) (.int k C v)with
     | some c'=>.and (.atom (i<n/\base+i<nb)) (K G (m.put key (.rows F nb [c'] F tot ty)) nx)
     | none=>.fail "store: another kind")
   | _=>.fail "store: no such block")
 | some (.Aq key base n i),A (.str _ v),A 1=>(match m.get key with
   | some (.cells cs tot ty)=>(match nN cs base n with
     | some l=>(match yR l with
       | some zs=>.and (.atom (i<n)) (K G (m.put key (.cells (cA cs base (uK i v 0 zs)) tot ty)) nx)
       | none=>.fail "store: no texts")
     | none=>.fail "store: cells")
   | _=>.fail "store: no such block")
 | some (.uI key w i k),A v,A 1=>(match m.get key with
   | some (.rows z n ay F tot ty)=>if ay.length=w then(match ay[k]? with
     | some c=>(match c.upd i v with
       | some c'=>.and (.atom (i<n)) (K G (m.put key (.rows z n (ay.set k c') F tot ty)) nx)
       | none=>.fail "store: another kind")
     | none=>.fail "store: no such column")else .fail "store: another row"
   | _=>.fail "store: no such row")
 | some (.l7 key b o),A v,A 1=>(match m.get key with
   | some (.sy D cs tot ty F)=>(match cs[o]? with
     | some c=>(match c.upd b v with
       | some c'=>.and (.atom (D b=C)) (K G (m.put key (.sy D (cs.set o c') tot ty F)) nx)
       | none=>.fail "store: another kind")
     | none=>.fail "store: no such column")
   | _=>.fail "store: no family")
 | _,_,_=>.fail "store"
theorem Bc {α:Type}: ∀(vs cs:List α) (off q:Nat) (u:α),(cA cs off vs)[q]?=A u->off+vs.length<=cs.length->(off<=q/\q<off+vs.length/\vs[q-off]?=A u)∨((q<off∨off+vs.length<=q)/\cs[q]?=A u):=by
 intro vs;induction vs with
 | nil=>intro cs off q u hq _;right;exact⟨by simp;omega,hq⟩
 | cons x r ih =>
   intro cs off q u hq hle;simp only[cA] at hq;simp only[cx] at hle ⊢;rcases ih (cs.set off x) (off+1) q u hq (by simp;omega)with ⟨g1,g2,g3⟩ | ⟨g1,g2⟩
   ·left;refine⟨by omega,by omega,?_⟩;rw[show q-off=(q-(off+1))+1 by omega];simpa using g3
   ·rw[a_] at g2;split at g2
    ·rename_i e;subst e;rw[o_ (by omega)] at g2;left;refine⟨by omega,by omega,?_⟩;rw[ep];simpa using g2
    ·right;exact⟨by omega,g2⟩
theorem Td {pos:String}{guard:Option (Nat×Bool)}{a:Operand} :
  B7 P Γ σ m nx ⟨dst,.store t a x,type,pos,after,guard⟩ (yA P t (σ a) (σ x) m nx):=by
 intro K E w ρ h hs hw hσ hr;unfold yA at h;split at h
 ·rename_i key o v n ha hx hn;split at h
  ·rename_i cs tot ty hk;split at h
   ·rename_i hc;simp only[O,m_] at hc;obtain⟨⟨⟨h1,h2⟩,h3⟩,h4⟩:=hc;obtain⟨w',hrun,haft⟩:=cn.write (P:=P) (r:=undef) hs hk (q7 h2) (by omega) (λv hv=>by cases hv) h;have hcv:=SV.lA (E:=E) h1;have hsize:(v.val E).cells.size=n:=by rw[hcv];simp[h3]
    simp only[execOp,Z,hr a _ ha,hr x _ hx,SV.val,ag,I,J,H,storeVar,dV hn,hsize];simp only[ne_eq,not_true_eq_false,if_false];rw[hcv];rw[SV.cF] at hrun;simp only[hrun,H,Out];exact haft
   ·exact h.elim
  ·exact h.elim
 ·rename_i key base n i k lf v ha hx hn;split at h
  ·rename_i cs tot ty hk;split at h
   ·rename_i l hl;split at h
    ·rename_i zs hz;obtain⟨hi,h⟩:=h;have hi:i<n:=hi;have hg:=fY hl;have hzg:=AK hz;have hlt:base+i<cs.length:=by have:(l[i]?)=A (l[i]'(by rw[hg.1];exact hi)):=M _;exact(T.1 (hg.2 i _ this)).1
     obtain⟨ob,ho,c,fr,rfl,h1,h2,h3⟩:=hs.yZ key _ hk rfl;have hcl:base+i<c.size:=(V.1 (h2 _ _ (M hlt))).1;have hrun:=ie (P:=P) (o:=base+i) [an k v] 0 w c ho h1 (by simp;omega) (λu hu=>by simp at hu;subst hu;rfl);have hE:=hs.write hk rfl rfl (B':=.cells (cA cs base (mix k i v 0 zs)) tot ty) (o:=.cells (j6 c (base+i+0) [an k v]) ty fr) ?_ rfl
     ·simp only[execOp,Z,hr a _ ha,hr x _ hx,SV.val,ag,I,J,H,storeVar,dV hn];simp only[cT,bU,a!,ne_eq,not_true_eq_false,if_false,hrun,H,Out];exact⟨E,G,_,_,λ_ _=>rfl,X _,(λv hv=>by cases hv),hE,h⟩
     ·refine⟨_,fr,rfl,by rw[cZ];exact h1,λq u hq=> ?_,by rw[cZ];exact h3⟩;have hmixlen:(mix k i v 0 zs).length=n:=by rw[agW,hzg.1,hg.1]
      have hset: ∀(vs cs:List SV) (off q:Nat) (u:SV),(cA cs off vs)[q]?=A u->off+vs.length<=cs.length->(off<=q/\q<off+vs.length/\vs[q-off]?=A u)∨((q<off∨off+vs.length<=q)/\cs[q]?=A u):=by
       intro vs;induction vs with
       | nil=>intro cs off q u hq _;right;exact⟨by simp;omega,hq⟩
       | cons x r ih =>
         intro cs off q u hq hle;simp only[cA] at hq;simp only[cx] at hle ⊢;rcases ih (cs.set off x) (off+1) q u hq (by simp;omega)with ⟨g1,g2,g3⟩ | ⟨g1,g2⟩
         ·left;refine⟨by omega,by omega,?_⟩;rw[show q-off=(q-(off+1))+1 by omega];simpa using g3
         ·rw[a_] at g2;split at g2
          ·rename_i e;subst e;rw[o_ (by omega)] at g2;left;refine⟨by omega,by omega,?_⟩;rw[ep];simpa using g2
          ·right;exact⟨by omega,g2⟩
      have hbase:base+n<=cs.length:=by
       cases n with
       | zero=>omega
       | succ n' =>have:(l[n']?)=A (l[n']'(by rw[hg.1];omega)):=M _;have:=(T.1 (hg.2 n' _ this)).1;omega
      have hsa:(j6 c (base+i+0) [an k v])[q]?=if base+i=q then A (.int k v)else c[q]?:=by
       simp only[j6,bf];rw[W];by_cases e:base+i=q
       ·rw[o_ e,o_ e,o_ (by omega)]
       ·rw[p_ e,p_ e]
      rw[hsa];rcases hset _ _ _ _ _ hq (by rw[hmixlen];exact hbase)with ⟨g1,g2,g3⟩ | ⟨g1,g2⟩
      ·have hu:=agV g3;subst hu;rw[hmixlen] at g2;by_cases e:base+i=q
       ·rw[o_ e,o_ (by omega)];rfl
       ·rw[p_ e,p_ (by omega)];have hq':(l[q-base]?)=A (l[q-base]'(by rw[hg.1];omega)):=M _;obtain⟨b,hb⟩:=hzg.2 _ _ hq';have:=h2 _ _ (hg.2 _ _ hq');rw[show base+(q-base)=q by omega,hb] at this;rw[this];rfl
      ·rw[hmixlen] at g1;rw[p_ (by omega)];exact h2 q u g2
    ·exact h.elim
   ·exact h.elim
  ·rename_i nb col tot ty hk;split at h
   ·rename_i col' hup;obtain⟨⟨hi,hb⟩,h⟩:=h;have hb:base+i<nb:=hb;obtain⟨ob,ho,c,fr,rfl,h1,h2,h3,h4⟩:=hs.yZ key _ hk rfl;have hcl:base+i<c.size:=by simp only[cx,List.length_nil] at h2;omega
    obtain⟨u1,u2⟩:=bh.afu hup E;have hrun:=ie (P:=P) (o:=base+i) [an k v] 0 w c ho (h1 rfl) (by simp;omega) (λu hu=>by simp at hu;subst hu;rfl);have hE:=hs.write hk rfl rfl (B':=.rows F nb [col'] F tot ty) (o:=.cells (j6 c (base+i+0) [an k v]) ty fr) ?_ rfl
    ·simp only[execOp,Z,hr a _ ha,hr x _ hx,SV.val,ag,I,J,H,storeVar,dV hn];simp only[cT,bU,a!,ne_eq,not_true_eq_false,if_false,hrun,H,Out];exact⟨E,G,_,_,λ_ _=>rfl,X _,(λv hv=>by cases hv),hE,h⟩
    ·refine⟨_,fr,rfl,λ_=>by rw[cZ];exact h1 rfl,by rw[cZ];exact h2,by rw[cZ];exact h3,λi' k' cl hi' hk'=> ?_⟩
     match k',hk' with
     | 0,hk' =>
       simp only[List.getElem?_cons_zero,c7] at hk';subst hk';have hsa:(j6 c (base+i+0) [an k v])[i'*[col'].length+0]?=if base+i=i' then A (.int k v)else c[i']?:=by
        simp only[j6,bf,a!,Nat.mul_one];rw[W];by_cases e:base+i=i'
        ·rw[o_ e,o_ e,o_ (by omega)]
        ·rw[p_ e,p_ e]
       rw[hsa];by_cases e:base+i=i'
       ·subst e;rw[o_ rfl];exact congrArg A u1.symm
       ·rw[p_ e,u2 i' (λh=>e h.symm)];have:=h4 i' 0 col hi' rfl;simpa using this
     | q+1,hk'=>simp at hk'
   ·exact h.elim
  ·exact h.elim
 ·rename_i key base n i lf v ha hx hn;split at h
  ·rename_i cs tot ty hk;split at h
   ·rename_i l hl;split at h
    ·rename_i zs hz;obtain⟨hi,h⟩:=h;have hi:i<n:=hi;have hg:=fY hl;have hzg:=xA hz;have hzl:=GS hz;have hlt:base+i<cs.length:=by have:(l[i]?)=A (l[i]'(by rw[hg.1];exact hi)):=M _;exact(T.1 (hg.2 i _ this)).1
     obtain⟨ob,ho,c,fr,rfl,h1,h2,h3⟩:=hs.yZ key _ hk rfl;have hcl:base+i<c.size:=(V.1 (h2 _ _ (M hlt))).1;have hrun:=ie (P:=P) (o:=base+i) [bn ⟨v.toArray⟩] 0 w c ho h1 (by simp;omega) (λu hu=>by simp at hu;subst hu;rfl);have hE:=hs.write hk rfl rfl (B':=.cells (cA cs base (uK i v 0 zs)) tot ty) (o:=.cells (j6 c (base+i+0) [bn ⟨v.toArray⟩]) ty fr) ?_ rfl
     ·simp only[execOp,Z,hr a _ ha,hr x _ hx,SV.val,ag,I,J,H,storeVar,dV hn];simp only[cT,bU,a!,ne_eq,not_true_eq_false,if_false,hrun,H,Out];exact⟨E,G,_,_,λ_ _=>rfl,X _,(λv hv=>by cases hv),hE,h⟩
     ·refine⟨_,fr,rfl,by rw[cZ];exact h1,λq u hq=> ?_,by rw[cZ];exact h3⟩;have hmixlen:(uK i v 0 zs).length=n:=by rw[Zq,hzl,hg.1]
      have hbase:base+n<=cs.length:=by
       cases n with
       | zero=>omega
       | succ n' =>have:(l[n']?)=A (l[n']'(by rw[hg.1];omega)):=M _;have:=(T.1 (hg.2 n' _ this)).1;omega
      have hsa:(j6 c (base+i+0) [bn ⟨v.toArray⟩])[q]?=if base+i=q then A (.string ⟨v.toArray⟩)else c[q]?:=by
       simp only[j6,bf];rw[W];by_cases e:base+i=q
       ·rw[o_ e,o_ e,o_ (by omega)]
       ·rw[p_ e,p_ e]
      rw[hsa];rcases Bc _ _ _ _ _ hq (by rw[hmixlen];exact hbase)with ⟨g1,g2,g3⟩ | ⟨g1,g2⟩
      ·have hu:=Zp g3;subst hu;rw[hmixlen] at g2;by_cases e:base+i=q
       ·rw[o_ e,o_ (by omega)];rfl
       ·rw[p_ e,p_ (by omega)];have hq':(l[q-base]?)=A (l[q-base]'(by rw[hg.1];omega)):=M _;obtain⟨b,hb⟩:=hzg _ _ hq';have:=h2 _ _ (hg.2 _ _ hq');rw[show base+(q-base)=q by omega,hb] at this;rw[this];rfl
      ·rw[hmixlen] at g1;rw[p_ (by omega)];exact h2 q u g2
    ·exact h.elim
   ·exact h.elim
  ·exact h.elim
 ·rename_i key w0 i k v ha hx hn;split at h
  ·rename_i z n ay tot ty hk;split at h
   ·rename_i hw0;split at h
    ·rename_i col hcol;split at h
     ·rename_i col' hup;obtain⟨hi,h⟩:=h;have hi:i<n:=hi;subst hw0;have hkl:k<ay.length:=(T.1 hcol).1;obtain⟨ob,ho,c,fr,rfl,h1,h2,h3,h4⟩:=hs.yZ key _ hk (SB.o5 hi);have hcl:i*ay.length+k<c.size:=by
       have:i*ay.length+k<n*ay.length:=by have:(i+1)*ay.length<=n*ay.length:=c6 _ hi;rw[c5] at this;omega
       omega
      obtain⟨u1,u2⟩:=bh.afu hup E;have hrun:=ie (P:=P) (o:=i*ay.length+k) [v.val E] 0 w c ho (h1 rfl) (by simp;omega) (λu hu=>by simp at hu;subst hu;exact SV.AL (bh.Jv hup));have hE:=hs.write hk (SB.o5 hi) rfl (B':=.rows z n (ay.set k col') F tot ty) (o:=.cells (j6 c (i*ay.length+k+0) [v.val E]) ty fr) ?_ rfl
      ·have hcell:(v.val E).cells=#[v.val E]:=by
        have hc:=bh.Jv hup;cases v<;>first | rfl | (simp[SV.wu] at hc;done) | skip
        rename_i u;cases u<;>first | rfl | (simp[SV.wu] at hc;done)
       simp only[execOp,Z,hr a _ ha,hr x _ hx,SV.val,ag,I,J,H,storeVar,dV hn,hcell];simp only[bU,a!,ne_eq,not_true_eq_false,if_false,hrun,H,Out];exact⟨E,G,_,_,λ_ _=>rfl,X _,(λv hv=>by cases hv),hE,h⟩
      ·refine⟨_,fr,rfl,λ_=>by rw[cZ];exact h1 rfl,by rw[cZ,c4];exact h2,by rw[cZ];exact h3,λi' k' cl hi' hk'=> ?_⟩;rw[c4];have hk'l:k'<ay.length:=by
        have:=(T.1 hk').1
        rwa [c4] at this
       have hsa:(j6 c (i*ay.length+k+0) [v.val E])[i'*ay.length+k']?=if i*ay.length+k=i'*ay.length+k' then A (v.val E)else c[i'*ay.length+k']?:=by
        simp only[j6,bf];rw[W];by_cases e:i*ay.length+k=i'*ay.length+k'
        ·rw[o_ e,o_ e,o_ hcl]
        ·rw[p_ e,p_ e]
       have hinj:i*ay.length+k=i'*ay.length+k'->i=i'/\k=k':=λe=>by
        have e1:i=i':=by
         rcases Nat.lt_trichotomy i i' with hlt | heq | hgt
         ·have:(i+1)*ay.length<=i'*ay.length:=c6 _ hlt;rw[c5] at this;omega
         ·exact heq
         ·have:(i'+1)*ay.length<=i*ay.length:=c6 _ hgt;rw[c5] at this;omega
        subst e1;exact⟨rfl,by omega⟩
       rw[hsa];rw[a_] at hk';by_cases e:k=k'
       ·rw[o_ e,o_ hkl] at hk';injection hk' with hk';subst hk';by_cases ei:i'=i
        ·subst ei;subst e;rw[o_ rfl,u1]
        ·rw[p_ (λh=>ei (hinj h).1.symm),u2 i' ei];subst e;exact h4 i' k col hi' hcol
       ·rw[p_ e] at hk';rw[p_ (λh=>e (hinj h).2)];exact h4 i' k' cl hi' hk'
     ·exact h.elim
    ·exact h.elim
   ·exact h.elim
  ·exact h.elim
 ·rename_i key b o v ha hx hn;split at h
  ·rename_i D cs tot ty hk;split at h
   ·rename_i col hcol;split at h
    ·rename_i col' hup;obtain⟨hD,h⟩:=h;have hD:D b=true:=hD;have hol:o<cs.length:=(T.1 hcol).1;obtain⟨ob,ho,c,fr,rfl,h1,h2,h3⟩:=hs.p7 key _ b hk hD;have hoc:o<c.size:=(V.1 (h2 o (col.at b) (by rw[N,hcol];rfl))).1;have hvc:=SV.AL (E:=E) (bh.Jv hup);obtain⟨u1,u2⟩:=bh.afu hup E;have hrun:=ie (P:=P) (o:=o) [v.val E] 0 w c ho h1 (by simp;omega) (λu hu=>by simp at hu;subst hu;exact hvc);have hE:=hs.atM hk hD (cs':=cs.set o col') (o:=.cells (j6 c (o+0) [v.val E]) ty fr) ?_ ?_
     ·have hcells:(v.val E).cells=#[v.val E]:=by
       have hc:=bh.Jv hup;cases v<;>first | rfl | (simp[SV.wu] at hc;done) | skip
       rename_i u;cases u<;>first | rfl | (simp[SV.wu] at hc;done)
      simp only[execOp,Z,hr a _ ha,hr x _ hx,SV.val,ag,I,J,H,storeVar,dV hn];simp only[hcells,bU,a!,ne_eq,not_true_eq_false,if_false,hrun,H,Out];exact⟨E,G,_,_,λ_ _=>rfl,X _,(λv hv=>by cases hv),hE,h⟩
     ·refine⟨_,fr,rfl,by rw[cZ];exact h1,λq u hq=> ?_,by rw[cZ];exact h3⟩;simp only[j6,bf];rw[W];rw[N,a_] at hq;by_cases e:o=q
      ·rw[o_ e] at hq ⊢;rw[o_ hoc];rw[o_ hol] at hq;injection hq with hq;subst hq;rw[u1]
      ·rw[p_ e] at hq ⊢;exact h2 q u (by rw[N];exact hq)
     ·intro b' hb';apply d_;intro q;rw[N,N,a_];by_cases e:o=q
      ·subst e;rw[o_ rfl,o_ hol,hcol];exact congrArg A (u2 b' hb')
      ·rw[p_ e]
    ·exact h.elim
   ·exact h.elim
  ·exact h.elim
 ·exact h.elim
end
end
end Sx
end Go.Proofs.YtoibaecagklkaaaGreatDoor
