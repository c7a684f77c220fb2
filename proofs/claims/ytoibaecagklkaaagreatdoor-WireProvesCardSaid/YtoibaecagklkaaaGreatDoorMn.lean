/- A part of the proof. -/
import Derived.Test.YtoibaecagklkaaaGreatDoorMl
open Bool renaming false->A,true->F
open Decidable renaming decide->Q
open Go.BinOp renaming and->L,or->M,xor->J
open Go.IntKind renaming u32->ag
open Go.Operand renaming tmp->an
open Go.Proofs.Tryz renaming f148->az,f149->V,f60->aC,f97->aO,prog->S
open Int renaming natCast_nonneg->aX,toNat_natCast->a_
open List renaming drop->I,getD_eq_getElem?_getD->Y,getElem?_cons_zero->b6,getElem?_eq_getElem->a!,length_append->bf,length_drop->b7,length_take->b9,take->Z
open Nat renaming div_add_mod->bE,eq_of_beq_eq_true->b5,zero_add->b_,zero_le->b!
open Option renaming none->O,some->C
namespace Go.Proofs.YtoibaecagklkaaaGreatDoor
open Go Sx
variable {a b:Int}{D T:f_}{j n:Nat}{G H:Type}
namespace Sx
open Go
def XZ (k:Nat):SV->Option SV
 | .ptr j l o=>(match Nat.beq j k with
   | true=>C (.ptr 0 l o)
   | false=>O)
 | .slc j o n l c=>(match Nat.beq j k with
   | true=>C (.slc 0 o n l c)
   | false=>O)
 | .int a _ n=>C (.int a A n)
 | .bool _ b=>C (.bool A b)
 | .str _ s=>C (.str A s)
 | _=>O
def IU (k:Nat):List SV->Option (List SV)
 | []=>C []
 | v::r=>(match XZ k v,IU k r with
   | some x,C l=>C (x::l)
   | _,_=>O)
theorem Tq {k:Nat}{E:Nat->Nat}{v u:SV}(h:XZ k v=C u):u.val (λ_=>E k)=v.val E/\u.wf 1=true:=by
 unfold XZ at h
 split at h<;>first
  | cases h;done
  | (cases h;exact⟨rfl,rfl⟩)
  | skip
 ·split at h
  ·rename_i e;cases h;have e:=b5 e;subst e;exact⟨rfl,rfl⟩
  ·cases h
 ·split at h
  ·rename_i e;cases h;have e:=b5 e;subst e;exact⟨rfl,rfl⟩
  ·cases h
theorem Dy {k:Nat}{E:Nat->Nat}: ∀ {l r:List SV},IU k l=C r->SV.vals (λ_=>E k) r=SV.vals E l/\SV.fH 1 r=F
 | [],r,h=>by cases h;exact⟨rfl,rfl⟩
 | v::l,r,h=>by
   unfold IU at h;split at h
   ·rename_i x l' hx hl;cases h;obtain⟨g1,g2⟩:=Tq (E:=E) hx;obtain⟨g3,g4⟩:=Dy (E:=E) hl;exact⟨by simp only[SV.vals,g1,g3],by simp only[SV.fH,g2,g4,Bool.and_self]⟩
   ·cases h
def UG:List SV->Option Nat
 | []=>O
 | .ptr j _ _::_=>C j
 | .slc j _ _ _ _::_=>C j
 | _::r=>UG r
def Ml (k:Nat):SV->SV
 | .ptr _ l o=>.ptr k l o
 | v=>v
def UD:SV->Bool
 | .ptr j _ _=>Nat.beq j 0
 | v=>v.wf 0
theorem TT {v:SV}(h:UD v=F){k:Nat}{E E':Nat->Nat}(he:E' 0=E k):(Ml k v).val E=v.val E':=by
 cases v
 case ptr j l o =>have e:=b5 h;subst e;simp only[Ml,SV.val,he]
 all_goals exact SV.x8 (by exact h) _ _
noncomputable def q7 (sb:G->SB)(sp:List SV->Option (G->Prop×(H->Prop×SV×G))):PT:=λargs m nx K=>match UG args with
 | some k=>(match IU k args with
   | some l=>(match sp l with
     | some g=>(match m.get k with
       | some B=>.ex G λx=>.and (.atom (aa B (sb x))) (.and (.atom (g x).1) (.all H λy=>.imp ((g x).2 y).1 (K (Ml k ((g x).2 y).2.1) (m.put k (sb ((g x).2 y).2.2)) nx)))
       | none=>.fail "a call's block")
     | none=>.fail "a call's arguments")
   | none=>.fail "a call's arguments")
 | none=>.fail "a call's arguments"
theorem pW (sb:G->SB)(sp:List SV->Option (G->Prop×(H->Prop×SV×G))):aQ (q7 sb sp):=by
 intro args m nx K K' hK h;unfold q7 at h ⊢;split at h
 ·split at h
  ·split at h
   ·split at h
    ·obtain⟨x,h1,h2,h3⟩:=h;exact⟨x,h1,h2,λy hy=>hK _ _ _ (h3 y hy)⟩
    ·exact h.elim
   ·exact h.elim
  ·exact h.elim
 ·exact h.elim
def MM (sb:G->SB)(g:H->Prop×SV×G)(v:SV)(m:Mem):VC:=match m.get 0 with
 | some X=>.ex H λy=>.and (.atom (g y).1) (.and (leA X (sb (g y).2.2)) (svA v (g y).2.1))
 | none=>.fail "no block"
theorem G3 {P:Program}{f:FuncId}{fn:Func}(hf:P.funcs[f]?=C fn) (hn:(fn.name== "runtime.NumGoroutine")=A) (hb:fn.body.isSome=F)   {sb:G->SB} {sp:List SV->Option (G->Prop×(H->Prop×SV×G))}
  (hsb: ∀ x,(sb x).wf 0=F/\(sb x).ro=A/\(sb x).no=A)
  (h: ∀ args g x,sp args=C g->(g x).1->∃ cfg args',Good P cfg/\(∀ E,SV.vals E args'=SV.vals E args)/\SV.fH 1 args'=F/\(∀ y,UD ((g x).2 y).2.1=F)/\
    ay (fE P (calling P cfg n) [] wq (cfg.aW f) cfg.rounds fn args' [(0,sb x)] 1 (λv m _=>MM sb (g x).2 v m))):ax P f (q7 sb sp):=by
 intro args m nx K hk hwf hargs Γ E w hs;unfold q7 at hk;split at hk
 ·rename_i k hkey;split at hk
  ·rename_i l hl;split at hk
   ·rename_i g hg;split at hk
    ·rename_i B hB;obtain⟨x,h1,h2,h3⟩:=hk;have h1:aa B (sb x):=h1;obtain⟨cfg,args',c1,c2,c3,c4,c5⟩:=h _ _ x hg h2;obtain⟨s1,s2,s3⟩:=hsb x;have hone:=hs.one hB h1 s3 s2 s1;have hc:=fy c1 hf hn hb c5 (by simp only[Mem.wf,Bool.and_true];exact SB.iq (b! _) s1) c3 hone;rw[c2,(Dy (E:=E) hl).1] at hc;refine fN hf hn hb (hc.mono ?_);rintro e w' ⟨v,rfl,E1,u,m1,nx1,g1,g2,g3,g4,g5⟩;refine⟨v,rfl,?_⟩;cases u with
     | none=>exact g5.elim
     | some u =>
       simp only[lift,MM] at g5;split at g5
       ·rename_i X hX;obtain⟨y,y1,y2,y3⟩:=g5;have y2:aa X (sb ((g x).2 y).2.2):=y2;have y3:ah u ((g x).2 y).2.1:=y3;obtain⟨t1,t2,t3⟩:=hsb ((g x).2 y).2.2;have hsw:=g4.swap hX y2;have hE0:E1 0=E k:=g1 0 (by omega);have hfr:=hs.frame hB (h1.old s3).1 ((h1.old s3).2.2 s2) hsw hE0 (Mem.Fp hX) t3 t2 t1;refine⟨E,C (Ml k ((g x).2 y).2.1),_,nx,λ_ _=>rfl,Nat.le_refl _,λz hz=> ?_,hfr,h3 y y1⟩;cases hz;rw[g3 u rfl,y3 E1];exact(TT (c4 y) hE0).symm
       ·exact g5.elim
    ·exact hk.elim
   ·exact hk.elim
  ·exact hk.elim
 ·exact hk.elim
end Sx
section
open Go Sx
set_option maxRecDepth 20000
def yC (f:Nat->Prop->Prop):Nat->Nat->Prop->Prop
 | _,0,t=>t
 | i,n+1,t=>f i (yC f (i+1) n t)
theorem yC.of {f:Nat->Prop->Prop}{t:Prop}{N:Nat}(h: ∀ i r,i<N->r->f i r)(ht:t): ∀ n i,i+n<=N->yC f i n t
 | 0,_,_=>ht
 | n+1,i,hn=>h i _ (by omega) (yC.of h ht n (i+1) (by omega))
def Zs (a b c:Int):Int:=bitsOf .xor (bitsOf .xor a b) c
def dU (x n:Int):Int:=bitsOf .or (x*(2^ (32-n).toNat:Nat)%4294967296) (x/(2^ n.toNat:Nat))
def aft (a:Int):Int:=Zs (dU a 2) (dU a 13) (dU a 22)
def afu (e:Int):Int:=Zs (dU e 6) (dU e 11) (dU e 25)
def agI (x:Int):Int:=Zs (dU x 7) (dU x 18) (x/8)
def agJ (y:Int):Int:=Zs (dU y 17) (dU y 19) (y/1024)
def chF (e f g:Int):Int:=bitsOf .xor (bitsOf .and e f) (bitsOf .and (bitsOf .xor 4294967295 e) g)
def agz (a b c:Int):Int:=Zs (bitsOf .and a b) (bitsOf .and a c) (bitsOf .and b c)
def JM:List Int:=[1116352408,1899447441,3049323471,3921009573,961987163,1508970993,2453635748,2870763221,3624381080,310598401,607225278,1426881987,1925078388,2162078206,2614888103,3248222580,3835390401,4022224774,264347078,604807628,770255983,1249150122,1555081692,1996064986,2554220882,2821834349,2952996808,3210313671,3336571891,3584528711,113926993,338241895,666307205,773529912,1294757372,1396182291,1695183700,1986661051,2177026350,2456956037,2730485921,2820302411,3259730800,3345764771,3516065817,3600352804,4094571909,275423344,430227734,506948616,659060556,883997877,958139571,1322822218,1537002063,1747873779,1955562222,2024104815,2227730452,2361852424,2428436474,2756734187,3204031479,3329325298]
def Vu (i:Nat):Int:=EI JM i
def Zh (b:Nat->Int)(j:Nat):Int:=bitsOf .or (bitsOf .or (bitsOf .or (b (4*j)*16777216%4294967296) (b (4*j+1)*65536%4294967296)) (b (4*j+2)*256%4294967296)) (b (4*j+3))
def acf (a b c d:Int):Int:=(((a+agI b)%4294967296+c)%4294967296+agJ d)%4294967296
def wL (b:Nat->Int):Nat->Nat->Int
 | 0=>λj=>if j<16 then Zh b j else 0
 | n+1=>λj=>if j=16+n then acf (wL b n (16+n-16)) (wL b n (16+n-15)) (wL b n (16+n-7)) (wL b n (16+n-2))else wL b n j
def t1F (v:Nat->Int)(k w:Int):Int:=((((v 7+afu (v 4))%4294967296+chF (v 4) (v 5) (v 6))%4294967296+k)%4294967296+w)%4294967296
def t2F (v:Nat->Int):Int:=(aft (v 0)+agz (v 0) (v 1) (v 2))%4294967296
def zI (v:Nat->Int)(k w:Int)(j:Nat):Int:=match j with
 | 0=>(t1F v k w+t2F v)%4294967296
 | 1=>v 0
 | 2=>v 1
 | 3=>v 2
 | 4=>(v 3+t1F v k w)%4294967296
 | 5=>v 4
 | 6=>v 5
 | 7=>v 6
 | _=>0
def dx (W B:Nat->Int):Nat->Nat->Int
 | 0=>W
 | i+1=>zI (dx W B i) (Vu i) (wL B 48 i)
def mg (W B:Nat->Int)(j:Nat):Int:=(W j+dx W B 64 j)%4294967296
structure Sh where
 W:Nat->Int
 B:Nat->Int
 held:Int
 size:Int
def Sh.cs (x:Sh):List SV:=[.int .u32 A (x.W 0),.int .u32 A (x.W 1),.int .u32 A (x.W 2),.int .u32 A (x.W 3),.int .u32 A (x.W 4),.int .u32 A (x.W 5),.int .u32 A (x.W 6),.int .u32 A (x.W 7),.int .u8 A (x.B 0),.int .u8 A (x.B 1),.int .u8 A (x.B 2),.int .u8 A (x.B 3),.int .u8 A (x.B 4),.int .u8 A (x.B 5),.int .u8 A (x.B 6),.int .u8 A (x.B 7),.int .u8 A (x.B 8),.int .u8 A (x.B 9),.int .u8 A (x.B 10),.int .u8 A (x.B 11),.int .u8 A (x.B 12),.int .u8 A (x.B 13),.int .u8 A (x.B 14),.int .u8 A (x.B 15),.int .u8 A (x.B 16),.int .u8 A (x.B 17),.int .u8 A (x.B 18),.int .u8 A (x.B 19),.int .u8 A (x.B 20),.int .u8 A (x.B 21),.int .u8 A (x.B 22),.int .u8 A (x.B 23),.int .u8 A (x.B 24),.int .u8 A (x.B 25),.int .u8 A (x.B 26),.int .u8 A (x.B 27),.int .u8 A (x.B 28),.int .u8 A (x.B 29),.int .u8 A (x.B 30),.int .u8 A (x.B 31),.int .u8 A (x.B 32),.int .u8 A (x.B 33),.int .u8 A (x.B 34),.int .u8 A (x.B 35),.int .u8 A (x.B 36),.int .u8 A (x.B 37),.int .u8 A (x.B 38),.int .u8 A (x.B 39),.int .u8 A (x.B 40),.int .u8 A (x.B 41),.int .u8 A (x.B 42),.int .u8 A (x.B 43),.int .u8 A (x.B 44),.int .u8 A (x.B 45),.int .u8 A (x.B 46),.int .u8 A (x.B 47),.int .u8 A (x.B 48),.int .u8 A (x.B 49),.int .u8 A (x.B 50),.int .u8 A (x.B 51),.int .u8 A (x.B 52),.int .u8 A (x.B 53),.int .u8 A (x.B 54),.int .u8 A (x.B 55),.int .u8 A (x.B 56),.int .u8 A (x.B 57),.int .u8 A (x.B 58),.int .u8 A (x.B 59),.int .u8 A (x.B 60),.int .u8 A (x.B 61),.int .u8 A (x.B 62),.int .u8 A (x.B 63),.int .i64 A x.held,.int .u64 A x.size]
def Sh.sb (x:Sh):SB:=.cells x.cs 74 171
structure Sh.Ok (x:Sh):Prop where
 w: ∀ j,j<8->0<=x.W j/\x.W j<=4294967295
 b: ∀ j,j<64->0<=x.B j/\x.B j<=255
def aeD (n:Int):Bool:=Q (n=2)||(Q (n=6)||(Q (n=7)||(Q (n=11)||(Q (n=13)||(Q (n=17)||(Q (n=18)||(Q (n=19)||(Q (n=22)||decide (n=25)))))))))
def zF:List SV->Option (Prop×SV)
 | [.int .u32 A x,.int .i64 A n]=>(match aeD n with
   | true=>C (0<=x/\x<=4294967295,.int .u32 A (dU x n))
   | false=>O)
 | _=>O
noncomputable def RG (b:Nat->Int):aY :=
 {α:=Nat,pre:=λ_ n=>n<=48,kH:=λ_ n=>48-n,fresh:=0,slots:=λ_ n=>[(6,.int .i64 A (16+(n:Int)))],
  mem:=λ_ n=>[(2,.rows A 64 [.int .u32 (wL b n)] A 64 234)]}
noncomputable def RF (W B:Nat->Int):aY :=
 {α:=Nat,pre:=λ_ i=>i<=64,kH:=λ_ i=>64-i,fresh:=0,slots:=λ_ i=>[(18,.int .i64 A i)],
  mem:=λ_ i=>[(1,.rows A 64 [.int .u32 (wL B 48)] A 64 234),(2,.cells [.int .u32 A (dx W B i 0),.int .u32 A (dx W B i 1),.int .u32 A (dx W B i 2),.int .u32 A (dx W B i 3),.int .u32 A (dx W B i 4),.int .u32 A (dx W B i 5),.int .u32 A (dx W B i 6),.int .u32 A (dx W B i 7)] 8 168)]}
noncomputable def ad6 (W B:Nat->Int):aY :={α:=Nat,pre:=λst i=>slot st.tmps 18=C (.int .i64 A (i:Int)),kH:=λ_ _=>0,fresh:=0,slots:=λ_ i=>[(9,.int .u32 A (t1F (dx W B i) (Vu i) (wL B 48 i)))],mem:=λ_ _=>[]}
noncomputable def ad7 (W B:Nat->Int):aY :={α:=Nat,pre:=λst i=>slot st.tmps 18=C (.int .i64 A (i:Int)),kH:=λ_ _=>0,fresh:=0,slots:=λ_ i=>[(10,.int .u32 A (t2F (dx W B i)))],mem:=λ_ _=>[]}
noncomputable def NL:List (FuncId×PT):=(149,bn zF)::iD
noncomputable def PL (b:Nat->Int):fD:={cv with cT:=λf=>aD f NL,aW:=λf=>if f=148 then [(9,always (RG b))] else []}
def xT (b:Nat->Int):SV:=.agg [.int .u32 A (wL b 48 0),.int .u32 A (wL b 48 1),.int .u32 A (wL b 48 2),.int .u32 A (wL b 48 3),.int .u32 A (wL b 48 4),.int .u32 A (wL b 48 5),.int .u32 A (wL b 48 6),.int .u32 A (wL b 48 7),.int .u32 A (wL b 48 8),.int .u32 A (wL b 48 9),.int .u32 A (wL b 48 10),.int .u32 A (wL b 48 11),.int .u32 A (wL b 48 12),.int .u32 A (wL b 48 13),.int .u32 A (wL b 48 14),.int .u32 A (wL b 48 15),.int .u32 A (wL b 48 16),.int .u32 A (wL b 48 17),.int .u32 A (wL b 48 18),.int .u32 A (wL b 48 19),.int .u32 A (wL b 48 20),.int .u32 A (wL b 48 21),.int .u32 A (wL b 48 22),.int .u32 A (wL b 48 23),.int .u32 A (wL b 48 24),.int .u32 A (wL b 48 25),.int .u32 A (wL b 48 26),.int .u32 A (wL b 48 27),.int .u32 A (wL b 48 28),.int .u32 A (wL b 48 29),.int .u32 A (wL b 48 30),.int .u32 A (wL b 48 31),.int .u32 A (wL b 48 32),.int .u32 A (wL b 48 33),.int .u32 A (wL b 48 34),.int .u32 A (wL b 48 35),.int .u32 A (wL b 48 36),.int .u32 A (wL b 48 37),.int .u32 A (wL b 48 38),.int .u32 A (wL b 48 39),.int .u32 A (wL b 48 40),.int .u32 A (wL b 48 41),.int .u32 A (wL b 48 42),.int .u32 A (wL b 48 43),.int .u32 A (wL b 48 44),.int .u32 A (wL b 48 45),.int .u32 A (wL b 48 46),.int .u32 A (wL b 48 47),.int .u32 A (wL b 48 48),.int .u32 A (wL b 48 49),.int .u32 A (wL b 48 50),.int .u32 A (wL b 48 51),.int .u32 A (wL b 48 52),.int .u32 A (wL b 48 53),.int .u32 A (wL b 48 54),.int .u32 A (wL b 48 55),.int .u32 A (wL b 48 56),.int .u32 A (wL b 48 57),.int .u32 A (wL b 48 58),.int .u32 A (wL b 48 59),.int .u32 A (wL b 48 60),.int .u32 A (wL b 48 61),.int .u32 A (wL b 48 62),.int .u32 A (wL b 48 63)]
def vZ:List SV->Option (Sh->Prop×(Unit->Prop×SV×Sh))
 | [.slc 0 8 64 _ 64]=>C λx=>(x.Ok,λ_=>(True,xT x.B,x))
 | _=>O
noncomputable def WU:List (FuncId×PT):=(148,q7 Sh.sb vZ)::NL
noncomputable def Hg (W B:Nat->Int):fD:={cv with cT:=λf=>aD f WU,aW:=λf=>if f=97 then [(3,always (RF W B)),(1006,always (ad6 W B)),(1007,always (ad7 W B))] else []}
def Io:List SV->Option (Sh->Prop×(Unit->Prop×SV×Sh))
 | [.ptr 0 F 0,.slc 0 8 64 _ 64]=>C λx=>(x.Ok,λ_=>(True,.aN [],{x with W:=mg x.W x.B}))
 | _=>O
noncomputable def sQ (cfg:fD)(f:Nat)(fn:Func)(args:List SV)(sb:G->SB)(x:G)(g:H->Prop×SV×G):VC:=fE S (calling S cfg 20) [] wq (cfg.aW f) cfg.rounds fn args [(0,sb x)] 1 (λv m _=>MM sb g v m)
theorem YW (x:Int)(R:SV->Prop):VC.holds (eZ cv 149 V [.int .u32 A x,.int .i64 F 2] R)=(((0<=x*1073741824%4294967296/\x*1073741824%4294967296<=(4294967295:Int)/\0<=x/4/\x/4<=(4294967295:Int))/\R (SV.int .u32 A (bitsOf M (x*1073741824%4294967296) (x/4))))):=by kernel_rfl
theorem YX (x:Int)(R:SV->Prop):VC.holds (eZ cv 149 V [.int .u32 A x,.int .i64 F 6] R)=(((0<=x*67108864%4294967296/\x*67108864%4294967296<=(4294967295:Int)/\0<=x/64/\x/64<=(4294967295:Int))/\R (SV.int .u32 A (bitsOf M (x*67108864%4294967296) (x/64))))):=by kernel_rfl
theorem YY (x:Int)(R:SV->Prop):VC.holds (eZ cv 149 V [.int .u32 A x,.int .i64 F 7] R)=(((0<=x*33554432%4294967296/\x*33554432%4294967296<=(4294967295:Int)/\0<=x/128/\x/128<=(4294967295:Int))/\R (SV.int .u32 A (bitsOf M (x*33554432%4294967296) (x/128))))):=by kernel_rfl
theorem T3 (x:Int)(R:SV->Prop):VC.holds (eZ cv 149 V [.int .u32 A x,.int .i64 F 11] R)=(((0<=x*2097152%4294967296/\x*2097152%4294967296<=(4294967295:Int)/\0<=x/2048/\x/2048<=(4294967295:Int))/\R (SV.int .u32 A (bitsOf M (x*2097152%4294967296) (x/2048))))):=by kernel_rfl
theorem T4 (x:Int)(R:SV->Prop):VC.holds (eZ cv 149 V [.int .u32 A x,.int .i64 F 13] R)=(((0<=x*524288%4294967296/\x*524288%4294967296<=(4294967295:Int)/\0<=x/8192/\x/8192<=(4294967295:Int))/\R (SV.int .u32 A (bitsOf M (x*524288%4294967296) (x/8192))))):=by kernel_rfl
theorem T5 (x:Int)(R:SV->Prop):VC.holds (eZ cv 149 V [.int .u32 A x,.int .i64 F 17] R)=(((0<=x*32768%4294967296/\x*32768%4294967296<=(4294967295:Int)/\0<=x/131072/\x/131072<=(4294967295:Int))/\R (SV.int .u32 A (bitsOf M (x*32768%4294967296) (x/131072))))):=by kernel_rfl
theorem T6 (x:Int)(R:SV->Prop):VC.holds (eZ cv 149 V [.int .u32 A x,.int .i64 F 18] R)=(((0<=x*16384%4294967296/\x*16384%4294967296<=(4294967295:Int)/\0<=x/262144/\x/262144<=(4294967295:Int))/\R (SV.int .u32 A (bitsOf M (x*16384%4294967296) (x/262144))))):=by kernel_rfl
theorem T7 (x:Int)(R:SV->Prop):VC.holds (eZ cv 149 V [.int .u32 A x,.int .i64 F 19] R)=(((0<=x*8192%4294967296/\x*8192%4294967296<=(4294967295:Int)/\0<=x/524288/\x/524288<=(4294967295:Int))/\R (SV.int .u32 A (bitsOf M (x*8192%4294967296) (x/524288))))):=by kernel_rfl
theorem T8 (x:Int)(R:SV->Prop):VC.holds (eZ cv 149 V [.int .u32 A x,.int .i64 F 22] R)=(((0<=x*1024%4294967296/\x*1024%4294967296<=(4294967295:Int)/\0<=x/4194304/\x/4194304<=(4294967295:Int))/\R (SV.int .u32 A (bitsOf M (x*1024%4294967296) (x/4194304))))):=by kernel_rfl
theorem T9 (x:Int)(R:SV->Prop):VC.holds (eZ cv 149 V [.int .u32 A x,.int .i64 F 25] R)=(((0<=x*128%4294967296/\x*128%4294967296<=(4294967295:Int)/\0<=x/33554432/\x/33554432<=(4294967295:Int))/\R (SV.int .u32 A (bitsOf M (x*128%4294967296) (x/33554432))))):=by kernel_rfl
theorem Y2 (x:Sh):VC.holds (sQ (PL x.B) 148 az [.slc 0 8 64 F 64] Sh.sb x (λ_:Unit=>(True,xT x.B,x)))=((λd:SB=>((λb:Nat->Int=>((λc:Nat->Int=>((yC (λi r=>(0<=x.B (4*i)/\x.B (4*i)<=4294967295)/\(0<=x.B (4*i+1)/\x.B (4*i+1)<=4294967295)/\(0<=x.B (4*i)*16777216%4294967296/\x.B (4*i)*16777216%4294967296<=(4294967295:Int)/\0<=x.B (4*i+1)*65536%4294967296/\x.B (4*i+1)*65536%4294967296<=(4294967295:Int))/\(0<=x.B (4*i+2)/\x.B (4*i+2)<=4294967295)/\(0<=bitsOf M (x.B (4*i)*16777216%4294967296) (x.B (4*i+1)*65536%4294967296)/\bitsOf M (x.B (4*i)*16777216%4294967296) (x.B (4*i+1)*65536%4294967296)<=4294967295/\0<=x.B (4*i+2)*256%4294967296/\x.B (4*i+2)*256%4294967296<=(4294967295:Int))/\(0<=x.B (4*i+3)/\x.B (4*i+3)<=4294967295)/\(0<=bitsOf M (bitsOf M (x.B (4*i)*16777216%4294967296) (x.B (4*i+1)*65536%4294967296)) (x.B (4*i+2)*256%4294967296)/\bitsOf M (bitsOf M (x.B (4*i)*16777216%4294967296) (x.B (4*i+1)*65536%4294967296)) (x.B (4*i+2)*256%4294967296)<=4294967295/\0<=x.B (4*i+3)/\x.B (4*i+3)<=4294967295)/\r) 0 16 ((∃(f:Nat),f<=48/\(16:Int)=16+(f:Int)/\aa (SB.cells (c9 (λi=>SV.int .u32 A (bitsOf M (bitsOf M (bitsOf M (x.B (4*i)*16777216%4294967296) (x.B (4*i+1)*65536%4294967296)) (x.B (4*i+2)*256%4294967296)) (x.B (4*i+3)))) (K17 (λ_=>SV.int .u32 F 0) (K17 (λ_=>SV.int .u32 F 0) (K14 (λ_=>SV.int .u32 F 0) [])))) 64 234) (SB.rows A 64 [av.int ag (wL x.B f)] A 64 234)/\aa d d/\aa x.sb x.sb/\True)/\∀(a:Nat),a<=48->(Q (16+(a:Int)<64)=F->I6 (16+(a:Int)-15)/\((0:Int)<=16+(a:Int)-15/\16+(a:Int)-15<(64:Int))/\((16+(a:Int)-15).toNat<64/\0+(16+(a:Int)-15).toNat<64)/\I6 (16+(a:Int)-2)/\((0:Int)<=16+(a:Int)-2/\16+(a:Int)-2<(64:Int))/\((16+(a:Int)-2).toNat<64/\0+(16+(a:Int)-2).toNat<64)/\(0<=wL x.B a (0+(16+(a:Int)-15).toNat)/\wL x.B a (0+(16+(a:Int)-15).toNat)<=4294967295)/\(0<=wL x.B a (0+(16+(a:Int)-15).toNat)/\wL x.B a (0+(16+(a:Int)-15).toNat)<=4294967295)/\(0<=dU (b a) 7/\dU (b a) 7<=(4294967295:Int)/\0<=dU (b a) 18/\dU (b a) 18<=(4294967295:Int))/\(0<=bitsOf J (dU (b a) 7) (dU (b a) 18)/\bitsOf J (dU (b a) 7) (dU (b a) 18)<=4294967295/\0<=wL x.B a (0+(16+(a:Int)-15).toNat)/8/\wL x.B a (0+(16+(a:Int)-15).toNat)/8<=(4294967295:Int))/\(0<=wL x.B a (0+(16+(a:Int)-2).toNat)/\wL x.B a (0+(16+(a:Int)-2).toNat)<=4294967295)/\(0<=wL x.B a (0+(16+(a:Int)-2).toNat)/\wL x.B a (0+(16+(a:Int)-2).toNat)<=4294967295)/\(0<=dU (c a) 17/\dU (c a) 17<=(4294967295:Int)/\0<=dU (c a) 19/\dU (c a) 19<=(4294967295:Int))/\(0<=bitsOf J (dU (c a) 17) (dU (c a) 19)/\bitsOf J (dU (c a) 17) (dU (c a) 19)<=4294967295/\0<=wL x.B a (0+(16+(a:Int)-2).toNat)/1024/\wL x.B a (0+(16+(a:Int)-2).toNat)/1024<=(4294967295:Int))/\I6 (16+(a:Int)-16)/\((0:Int)<=16+(a:Int)-16/\16+(a:Int)-16<(64:Int))/\((16+(a:Int)-16).toNat<64/\0+(16+(a:Int)-16).toNat<64)/\I6 (16+(a:Int)-7)/\((0:Int)<=16+(a:Int)-7/\16+(a:Int)-7<(64:Int))/\((16+(a:Int)-7).toNat<64/\0+(16+(a:Int)-7).toNat<64)/\((0:Int)<=16+(a:Int)/\16+(a:Int)<64)/\((16+(a:Int)).toNat<64/\0+(16+(a:Int)).toNat<64)/\I6 (16+(a:Int)+1)/\∃(e:Nat),(e<=48/\48-e<48-a)/\16+(a:Int)+1=16+(e:Int)/\aa (SB.rows A 64 [av.int ag fun(g:Nat)=>if g=0+(16+(a:Int)).toNat then(((wL x.B a (0+(16+(a:Int)-16).toNat)+bitsOf J (bitsOf J (dU (b a) 7) (dU (b a) 18)) (wL x.B a (0+(16+(a:Int)-15).toNat)/8))%4294967296+wL x.B a (0+(16+(a:Int)-7).toNat))%4294967296+bitsOf J (bitsOf J (dU (c a) 17) (dU (c a) 19)) (wL x.B a (0+(16+(a:Int)-2).toNat)/1024))%4294967296 else wL x.B a g] A 64 234) (SB.rows A 64 [av.int ag (wL x.B e)] A 64 234)/\aa d d/\aa x.sb x.sb/\True)/\(Q (16+(a:Int)<64)=A->(64:Nat)<=(64:Nat)/\∃(_u0:Unit),True/\aa x.sb x.sb/\ah (SV.agg (wm (λi=>av.at i (av.int ag (wL x.B a))) [])) (xT x.B)))))) (fun(a:Nat)=>(wL x.B a (0+(16+(a:Int)-2).toNat))))) (fun(a:Nat)=>(wL x.B a (0+(16+(a:Int)-15).toNat))))) (SB.cells (SV.agg (wm (λ_=>SV.int .u32 F 0) [])).cells 64 234)):=by kernel_rfl
theorem af8 (x:Sh):VC.holds (sQ (Hg x.W x.B) 97 aO [.ptr 0 F 0,.slc 0 8 64 F 64] Sh.sb x (λ_:Unit=>(True,.aN [],{x with W:=mg x.W x.B})))=((λf:Nat->SV=>((λn:Nat->SV=>((λe:Nat->(Sh)->SV=>((λo:Nat->(Sh)->SV=>((λr:Nat->(Sh)->SV=>((λs:Nat->(Nat)->SV=>((λt:Nat->(Nat)->SV=>((λu:Nat->(Nat)->SV=>((λg:Nat->(Sh)->(Nat)->SV=>((λh:Nat->SV=>((λb:Nat->SB=>((λd:SB=>((∃(c:Sh),aa (SB.cells (f 0::f 1::f 2::f 3::f 4::f 5::f 6::f 7::wm n [SV.int .i64 A x.held,SV.int .u64 A x.size]) 74 171) (SB.cells (e 0 c::e 1 c::e 2 c::e 3 c::e 4 c::e 5 c::e 6 c::e 7 c::wm (λi=>o i c) [SV.int .i64 A c.held,SV.int .u64 A c.size]) 74 171)/\c.Ok/\∀(_u8:Unit),True->(∃(l:Nat),l<=64/\0=(l:Int)/\aa (SB.cells (wm (λi=>r i c) []) 64 234) d/\aa (SB.cells (K8 (λi=>e i c) []) 8 168) (SB.cells (K8 (λi=>s i l) []) 8 168)/\aa c.sb c.sb/\True)/\∀(a:Nat),a<=64->(Q ((a:Int)<64)=F->((0<=dx x.W x.B a 4/\dx x.W x.B a 4<=4294967295/\0<=dx x.W x.B a 5/\dx x.W x.B a 5<=4294967295)/\((0:Int)<=(4294967295:Int)/\(4294967295:Int)<=(4294967295:Int)/\0<=dx x.W x.B a 4/\dx x.W x.B a 4<=4294967295)/\(0<=bitsOf J 4294967295 (dx x.W x.B a 4)/\bitsOf J 4294967295 (dx x.W x.B a 4)<=4294967295/\0<=dx x.W x.B a 6/\dx x.W x.B a 6<=4294967295)/\(0<=bitsOf L (dx x.W x.B a 4) (dx x.W x.B a 5)/\bitsOf L (dx x.W x.B a 4) (dx x.W x.B a 5)<=4294967295/\0<=bitsOf L (bitsOf J 4294967295 (dx x.W x.B a 4)) (dx x.W x.B a 6)/\bitsOf L (bitsOf J 4294967295 (dx x.W x.B a 4)) (dx x.W x.B a 6)<=4294967295)/\(0<=(a:Int)/\(a:Int)<64)/\(a:Int).toNat<64/\(0<=(a:Int)/\(a:Int)<64)/\((a:Int).toNat<64/\0+(a:Int).toNat<64)/\(0<=dx x.W x.B a 4/\dx x.W x.B a 4<=4294967295)/\C d=C d/\C (b a)=C (b a)/\C (b a)=C (b a)/\C (b a)=C (b a)/\(0<=dx x.W x.B a 4/\dx x.W x.B a 4<=4294967295)/\C d=C d/\C (b a)=C (b a)/\C (b a)=C (b a)/\C (b a)=C (b a)/\(0<=dU (dx x.W x.B a 4) 6/\dU (dx x.W x.B a 4) 6<=(4294967295:Int)/\0<=dU (dx x.W x.B a 4) 11/\dU (dx x.W x.B a 4) 11<=(4294967295:Int))/\(0<=dx x.W x.B a 4/\dx x.W x.B a 4<=4294967295)/\C d=C d/\C (b a)=C (b a)/\C (b a)=C (b a)/\C (b a)=C (b a)/\(0<=bitsOf J (dU (dx x.W x.B a 4) 6) (dU (dx x.W x.B a 4) 11)/\bitsOf J (dU (dx x.W x.B a 4) 6) (dU (dx x.W x.B a 4) 11)<=4294967295/\0<=dU (dx x.W x.B a 4) 25/\dU (dx x.W x.B a 4) 25<=(4294967295:Int))/\∃(m:Nat),C (SV.int .i64 A (a:Int))=C (SV.int .i64 A (m:Int))/\((((dx x.W x.B a 7+bitsOf J (bitsOf J (dU (dx x.W x.B a 4) 6) (dU (dx x.W x.B a 4) 11)) (dU (dx x.W x.B a 4) 25))%4294967296+bitsOf J (bitsOf L (dx x.W x.B a 4) (dx x.W x.B a 5)) (bitsOf L (bitsOf J 4294967295 (dx x.W x.B a 4)) (dx x.W x.B a 6)))%4294967296+EI JM (a:Int).toNat)%4294967296+wL x.B 48 (0+(a:Int).toNat))%4294967296=t1F (dx x.W x.B m) (Vu m) (wL x.B 48 m)/\aa d d/\aa (b a) (b a)/\aa c.sb c.sb/\True)/\∀(j:Nat),C (SV.int .i64 A (a:Int))=C (SV.int .i64 A (j:Int))->((0<=dx x.W x.B a 0/\dx x.W x.B a 0<=4294967295/\0<=dx x.W x.B a 1/\dx x.W x.B a 1<=4294967295)/\(0<=dx x.W x.B a 0/\dx x.W x.B a 0<=4294967295/\0<=dx x.W x.B a 2/\dx x.W x.B a 2<=4294967295)/\(0<=bitsOf L (dx x.W x.B a 0) (dx x.W x.B a 1)/\bitsOf L (dx x.W x.B a 0) (dx x.W x.B a 1)<=4294967295/\0<=bitsOf L (dx x.W x.B a 0) (dx x.W x.B a 2)/\bitsOf L (dx x.W x.B a 0) (dx x.W x.B a 2)<=4294967295)/\(0<=dx x.W x.B a 1/\dx x.W x.B a 1<=4294967295/\0<=dx x.W x.B a 2/\dx x.W x.B a 2<=4294967295)/\(0<=bitsOf J (bitsOf L (dx x.W x.B a 0) (dx x.W x.B a 1)) (bitsOf L (dx x.W x.B a 0) (dx x.W x.B a 2))/\bitsOf J (bitsOf L (dx x.W x.B a 0) (dx x.W x.B a 1)) (bitsOf L (dx x.W x.B a 0) (dx x.W x.B a 2))<=4294967295/\0<=bitsOf L (dx x.W x.B a 1) (dx x.W x.B a 2)/\bitsOf L (dx x.W x.B a 1) (dx x.W x.B a 2)<=4294967295)/\(0<=dx x.W x.B a 0/\dx x.W x.B a 0<=4294967295)/\C (b a)=C (b a)/\C (b a)=C (b a)/\C (b a)=C (b a)/\C (b a)=C (b a)/\(0<=dx x.W x.B a 0/\dx x.W x.B a 0<=4294967295)/\C (b a)=C (b a)/\C (b a)=C (b a)/\C (b a)=C (b a)/\C (b a)=C (b a)/\(0<=dU (dx x.W x.B a 0) 2/\dU (dx x.W x.B a 0) 2<=(4294967295:Int)/\0<=dU (dx x.W x.B a 0) 13/\dU (dx x.W x.B a 0) 13<=(4294967295:Int))/\(0<=dx x.W x.B a 0/\dx x.W x.B a 0<=4294967295)/\C (b a)=C (b a)/\C (b a)=C (b a)/\C (b a)=C (b a)/\C (b a)=C (b a)/\(0<=bitsOf J (dU (dx x.W x.B a 0) 2) (dU (dx x.W x.B a 0) 13)/\bitsOf J (dU (dx x.W x.B a 0) 2) (dU (dx x.W x.B a 0) 13)<=4294967295/\0<=dU (dx x.W x.B a 0) 22/\dU (dx x.W x.B a 0) 22<=(4294967295:Int))/\∃(p:Nat),C (SV.int .i64 A (a:Int))=C (SV.int .i64 A (p:Int))/\(bitsOf J (bitsOf J (dU (dx x.W x.B a 0) 2) (dU (dx x.W x.B a 0) 13)) (dU (dx x.W x.B a 0) 22)+bitsOf J (bitsOf J (bitsOf L (dx x.W x.B a 0) (dx x.W x.B a 1)) (bitsOf L (dx x.W x.B a 0) (dx x.W x.B a 2))) (bitsOf L (dx x.W x.B a 1) (dx x.W x.B a 2)))%4294967296=t2F (dx x.W x.B p)/\aa d d/\aa (b a) (b a)/\aa c.sb c.sb/\True)/\∀(q:Nat),C (SV.int .i64 A (a:Int))=C (SV.int .i64 A (q:Int))->I6 ((a:Int)+1)/\∃(k:Nat),(k<=64/\64-k<64-a)/\(a:Int)+1=(k:Int)/\aa d d/\aa (SB.cells [SV.int .u32 A ((t1F (dx x.W x.B j) (Vu j) (wL x.B 48 j)+t2F (dx x.W x.B q))%4294967296),SV.int .u32 A (dx x.W x.B a 0),SV.int .u32 A (dx x.W x.B a 1),SV.int .u32 A (dx x.W x.B a 2),SV.int .u32 A ((dx x.W x.B a 3+t1F (dx x.W x.B j) (Vu j) (wL x.B 48 j))%4294967296),SV.int .u32 A (dx x.W x.B a 4),SV.int .u32 A (dx x.W x.B a 5),SV.int .u32 A (dx x.W x.B a 6)] 8 168) (SB.cells (K8 (λi=>u i k) []) 8 168)/\aa c.sb c.sb/\True)/\(Q ((a:Int)<64)=A->∃(_u0:Unit),True/\aa (SB.cells (g 0 c a::g 1 c a::g 2 c a::g 3 c a::g 4 c a::g 5 c a::g 6 c a::g 7 c a::wm (λi=>o i c) [SV.int .i64 A c.held,SV.int .u64 A c.size]) 74 171) (SB.cells (h 0::h 1::h 2::h 3::h 4::h 5::h 6::h 7::wm n [SV.int .i64 A x.held,SV.int .u64 A x.size]) 74 171)/\ah (SV.aN []) (SV.aN []))))) (SB.rows A 64 [av.int ag (wL x.B 48)] A 64 234))) (fun(a:Nat)=>(SB.cells (K8 (λi=>t i a) []) 8 168)))) (fun(n0:Nat)=>SV.int .u32 A (mg x.W x.B n0)))) (fun(n0:Nat) (c:Sh) (a:Nat)=>SV.int .u32 A ((c.W n0+dx x.W x.B a n0)%4294967296)))) (fun(n0:Nat) (k:Nat)=>SV.int .u32 A (dx x.W x.B k n0)))) (fun(n0:Nat) (a:Nat)=>SV.int .u32 A (dx x.W x.B a n0)))) (fun(n0:Nat) (l:Nat)=>SV.int .u32 A (dx x.W x.B l n0)))) (fun(n0:Nat) (c:Sh)=>SV.int .u32 A (wL c.B 48 n0)))) (fun(n0:Nat) (c:Sh)=>SV.int .u8 A (c.B n0)))) (fun(n0:Nat) (c:Sh)=>SV.int .u32 A (c.W n0)))) (fun(n0:Nat)=>SV.int .u8 A (x.B n0)))) (fun(n0:Nat)=>SV.int .u32 A (x.W n0))):=by kernel_rfl
def U (a:Int):Prop:=0<=a/\a<=4294967295
theorem u2 (h:U a)(h':U b):0<=a/\a<=4294967295/\0<=b/\b<=4294967295:=⟨h.1,h.2,h'.1,h'.2⟩
theorem um (a:Int):U (a%4294967296):=⟨by omega,by omega⟩
theorem ud (h:U a)(k:Nat)(hk:0<k):U (a/(k:Int)):=by obtain⟨h0,h1⟩:=h;have:=Int.ediv_le_self (b:=(k:Int)) h0;exact⟨Int.ediv_nonneg h0 (by omega),by omega⟩
theorem uM:U 4294967295:=⟨by decide,by decide⟩
theorem xZ {op:BinOp}(hop:op=.and∨op=.or∨op=.xor)(ha:U a)(hb:U b):U (bitsOf op a b):=by
 obtain⟨a0,a1⟩:=ha;obtain⟨b0,b1⟩:=hb;have la:a.toNat<2^ 32:=by omega
 have lb:b.toNat<2^ 32:=by omega
 have h1:=Nat.and_lt_two_pow (n:=32) a.toNat lb;have h2:=Nat.or_lt_two_pow (n:=32) la lb;have h3:=Nat.xor_lt_two_pow (n:=32) la lb;rcases hop with rfl | rfl | rfl
 ·refine⟨aX _,?_⟩;show((a.toNat &&& b.toNat:Nat):Int)<=_;omega
 ·refine⟨aX _,?_⟩;show((a.toNat ||| b.toNat:Nat):Int)<=_;omega
 ·refine⟨aX _,?_⟩;show((a.toNat ^^^ b.toNat:Nat):Int)<=_;omega
theorem O4 (ha:U a)(hb:U b):U (bitsOf .and a b):=xZ (.inl rfl) ha hb
theorem O8 (ha:U a)(hb:U b):U (bitsOf .xor a b):=xZ (.inr (.inr rfl)) ha hb
theorem Je {x:Int}(h:U x)(n:Int):U (dU x n):=xZ (.inr (.inl rfl)) (um _) (ud h _ (Nat.pow_pos (by decide)))
theorem Ts {n:Int}(h:aeD n=F):n=2∨n=6∨n=7∨n=11∨n=13∨n=17∨n=18∨n=19∨n=22∨n=25:=by simpa [aeD] using h
theorem X3:ax S 149 (bn zF):=by
 refine fj (Pz (n:=20) Tryz.func149 (by kernel_rfl) (by kernel_rfl) ?_);intro args p a h hp;unfold zF at h;split at h
 ·rename_i x n;split at h
  ·rename_i hn;cases h;have hx:U x:=hp;rcases Ts hn with rfl | rfl | rfl | rfl | rfl | rfl | rfl | rfl | rfl | rfl
   ·exact⟨cv,[.int .u32 A x,.int .i64 F 2],mU,λE=>rfl,rfl,rfl,ay.of_eq (YW x _) ⟨u2 (um _) (ud hx 4 (by decide)),λ_=>rfl⟩⟩
   ·exact⟨cv,[.int .u32 A x,.int .i64 F 6],mU,λE=>rfl,rfl,rfl,ay.of_eq (YX x _) ⟨u2 (um _) (ud hx 64 (by decide)),λ_=>rfl⟩⟩
   ·exact⟨cv,[.int .u32 A x,.int .i64 F 7],mU,λE=>rfl,rfl,rfl,ay.of_eq (YY x _) ⟨u2 (um _) (ud hx 128 (by decide)),λ_=>rfl⟩⟩
   ·exact⟨cv,[.int .u32 A x,.int .i64 F 11],mU,λE=>rfl,rfl,rfl,ay.of_eq (T3 x _) ⟨u2 (um _) (ud hx 2048 (by decide)),λ_=>rfl⟩⟩
   ·exact⟨cv,[.int .u32 A x,.int .i64 F 13],mU,λE=>rfl,rfl,rfl,ay.of_eq (T4 x _) ⟨u2 (um _) (ud hx 8192 (by decide)),λ_=>rfl⟩⟩
   ·exact⟨cv,[.int .u32 A x,.int .i64 F 17],mU,λE=>rfl,rfl,rfl,ay.of_eq (T5 x _) ⟨u2 (um _) (ud hx 131072 (by decide)),λ_=>rfl⟩⟩
   ·exact⟨cv,[.int .u32 A x,.int .i64 F 18],mU,λE=>rfl,rfl,rfl,ay.of_eq (T6 x _) ⟨u2 (um _) (ud hx 262144 (by decide)),λ_=>rfl⟩⟩
   ·exact⟨cv,[.int .u32 A x,.int .i64 F 19],mU,λE=>rfl,rfl,rfl,ay.of_eq (T7 x _) ⟨u2 (um _) (ud hx 524288 (by decide)),λ_=>rfl⟩⟩
   ·exact⟨cv,[.int .u32 A x,.int .i64 F 22],mU,λE=>rfl,rfl,rfl,ay.of_eq (T8 x _) ⟨u2 (um _) (ud hx 4194304 (by decide)),λ_=>rfl⟩⟩
   ·exact⟨cv,[.int .u32 A x,.int .i64 F 25],mU,λE=>rfl,rfl,rfl,ay.of_eq (T9 x _) ⟨u2 (um _) (ud hx 33554432 (by decide)),λ_=>rfl⟩⟩
  ·cases h
 ·cases h
theorem FJ:bp S (λf=>aD f NL):=.cons X3 (aS _) fo
theorem adS (b:Nat->Int):Sx.Good S (PL b):=.of bR FJ bq
theorem Sx.aa.Yv {c:av}{tot:Nat}{ty:TypeId}:aa (.cells (gI c 0 n) tot ty) (.rows A n [c] A tot ty):=by
 refine aa.of rfl rfl λ_=> ?_;refine⟨rfl,λE o ⟨cs,fr,h1,h2,h3,h4⟩=>⟨cs,fr,h1,λ_=>h2,?_,h4,λi k col hi hk=> ?_⟩,λ_=>rfl⟩
 ·cases n with
  | zero=>simp
  | succ m =>
    have hl:m<(gI c 0 (m+1)).length:=by rw[nH];omega
    have:=h3 m _ (a! hl);have:=(Array.getElem?_eq_some_iff.1 this).1;simp only[List.length_cons,List.length_nil];omega
 ·match k,hk with
  | 0,hk =>
    simp only[b6,Option.some.injEq] at hk;subst hk;have hl:i<(gI c 0 n).length:=by rw[nH];omega
    have h5:=h3 i _ (a! hl);have h6:=(rR c n 0 i _ (a! hl)).2;rw[h6,b_] at h5;simpa using h5
theorem Sx.aa.aap {z:Bool}{q:IntKind}{f g:Nat->Int}{tot:Nat}{ty:TypeId}(h: ∀ i,i<n->f i=g i):aa (.rows z n [.int q f] A tot ty) (.rows z n [.int q g] A tot ty):=by
 refine aa.of rfl rfl λhno=> ?_;refine⟨hno,λE o ⟨c,fr,h1,h2,h3,h4,h5⟩=>⟨c,fr,h1,h2,h3,h4,λi k col hi hk=> ?_⟩,λ_=>rfl⟩
 match k,hk with
 | 0,hk =>simp only[b6,Option.some.injEq] at hk;subst hk;have:=h5 i 0 (.int q f) hi rfl;simp only[av.at,h i hi] at this;exact this
theorem abM {b:Nat->Int}(hb: ∀ j,j<64->U (b j))(hj:j<16):U (Zh b j):=xZ (.inr (.inl rfl)) (xZ (.inr (.inl rfl)) (xZ (.inr (.inl rfl)) (um _) (um _)) (um _)) (hb _ (by omega))
theorem Jh (b:Nat->Int)(n j:Nat):wL b (n+1) j=if j=16+n then acf (wL b n (16+n-16)) (wL b n (16+n-15)) (wL b n (16+n-7)) (wL b n (16+n-2))else wL b n j:=rfl
theorem agc {b:Nat->Int}(hb: ∀ j,j<64->U (b j)): ∀(n j:Nat),U (wL b n j)
 | 0,j=>by
   unfold wL;split
   ·exact abM hb (by assumption)
   ·exact⟨by decide,by decide⟩
 | n+1,j=>by
   unfold wL;split
   ·exact um _
   ·exact agc hb n j
theorem acB {W B:Nat->Int}(hW: ∀ j,j<8->U (W j)): ∀(i j:Nat),j<8->U (dx W B i j)
 | 0,j,hj=>hW j hj
 | i+1,j,hj=>by
   have ih:=acB (B:=B) hW i;unfold dx zI
   match j,hj with
   | 0,_=>exact um _
   | 1,_=>exact ih 0 (by decide)
   | 2,_=>exact ih 1 (by decide)
   | 3,_=>exact ih 2 (by decide)
   | 4,_=>exact um _
   | 5,_=>exact ih 4 (by decide)
   | 6,_=>exact ih 5 (by decide)
   | 7,_=>exact ih 6 (by decide)
theorem Sh.Ok.bu {x:Sh}(h:x.Ok)(j:Nat)(hj:j<64):U (x.B j):=by have:=h.b j hj;exact⟨this.1,by omega⟩
theorem I5 {x:Sh}(hx:x.Ok):ay (sQ (PL x.B) 148 az [.slc 0 8 64 F 64] Sh.sb x (λ_:Unit=>(True,xT x.B,x))):=by
 refine ay.of_eq (Y2 x) ?_;dsimp only;have hb:=hx.bu;have b: ∀ j,j<64->U (x.B j):=hb;refine yC.of (N:=16) (λi r hi hr=>⟨b _ (by omega),b _ (by omega),u2 (um _) (um _),b _ (by omega),u2 (xZ (.inr (.inl rfl)) (um _) (um _)) (um _),b _ (by omega),u2 (xZ (.inr (.inl rfl)) (xZ (.inr (.inl rfl)) (um _) (um _)) (um _)) (b _ (by omega)),hr⟩) ⟨⟨0,by omega,rfl,Sx.aa.trans (Sx.aa.cells (cs':=gI (.int .u32 (wL x.B 0)) 0 64) (λE=>rfl) rfl) Sx.aa.Yv,aa.refl _,aa.refl _,trivial⟩,λn hn=>⟨λa=> ?_,λa=> ?_⟩⟩ 16 0 (by decide)
 ·have a:=l_ a;have e15:0+(16+(n:Int)-15).toNat=16+n-15:=by omega
  have e2:0+(16+(n:Int)-2).toNat=16+n-2:=by omega
  have e7:0+(16+(n:Int)-7).toNat=16+n-7:=by omega
  have e16:0+(16+(n:Int)-16).toNat=16+n-16:=by omega
  have e0:0+(16+(n:Int)).toNat=16+n:=by omega
  have u:=agc hb n
  refine⟨by omega,by omega,by omega,by omega,by omega,by omega,u _,u _,u2 (Je (u _) _) (Je (u _) _),u2 (O8 (Je (u _) _) (Je (u _) _)) (ud (u _) 8 (by decide)),u _,u _,u2 (Je (u _) _) (Je (u _) _),u2 (O8 (Je (u _) _) (Je (u _) _)) (ud (u _) 1024 (by decide)),
   by omega,by omega,by omega,by omega,by omega,by omega,by omega,by omega,by omega,n+1,by omega,by omega,?_,aa.refl _,aa.refl _,trivial⟩
  refine Sx.aa.aap λj hj=> ?_;rw[e0];show _=wL x.B (n+1) j;by_cases ej:j=16+n
  ·rw[r_ ej,Jh,r_ ej,e15,e2,e7,e16];rfl
  ·rw[s_ ej,Jh,s_ ej]
 ·have a:=m_ a;have e:n=48:=by omega
  subst e;exact⟨by omega,(),trivial,aa.refl _,λ_=>rfl⟩
theorem Sh.aco (x:Sh):(Sh.sb x).wf 0=F/\(Sh.sb x).ro=A/\(Sh.sb x).no=false:=⟨rfl,rfl,rfl⟩
theorem TI:ax S 148 (q7 Sh.sb vZ):=by
 refine G3 (n:=20) Tryz.func148 (by kernel_rfl) (by kernel_rfl) Sh.aco ?_;intro args g x h hp;unfold vZ at h;split at h
 ·cases h;exact⟨PL x.B,[.slc 0 8 64 F 64],adS _,λE=>rfl,rfl,λ_=>rfl,I5 hp⟩
 ·cases h
theorem SR:bp S (λf=>aD f WU):=.cons TI (pW _ _) FJ
theorem aak (W B:Nat->Int):Sx.Good S (Hg W B):=.of bR SR bq
theorem S5 {x:Sh}(hx:x.Ok):ay (sQ (Hg x.W x.B) 97 aO [.ptr 0 F 0,.slc 0 8 64 F 64] Sh.sb x (λ_:Unit=>(True,.aN [],{x with W:=mg x.W x.B}))):=by
 refine ay.of_eq (af8 x) ?_;dsimp only;refine⟨x,aa.refl _,hx,λ_ _=>⟨⟨0,by omega,rfl,Sx.aa.trans (Sx.aa.cells (cs':=gI (.int .u32 (wL x.B 48)) 0 64) (λE=>rfl) rfl) Sx.aa.Yv,aa.refl _,aa.refl _,trivial⟩,λi hi=>⟨λa=> ?_,λa=> ?_⟩⟩⟩
 ·have a:=l_ a;have u:=acB (B:=x.B) hx.w i;have u0:=u 0 (by decide);have u1:=u 1 (by decide);have u2':=u 2 (by decide);have u4:=u 4 (by decide);have u5:=u 5 (by decide);have u6:=u 6 (by decide);have r: ∀ {y:Int} (n:Int),U y->U (dU y n):=λn h=>Je h n;refine⟨⟨u2 u4 u5,u2 uM u4,u2 (O8 uM u4) u6,u2 (O4 u4 u5) (O4 (O8 uM u4) u6),by omega,by omega,by omega,by omega,u4,rfl,rfl,rfl,rfl,u4,rfl,rfl,rfl,rfl,u2 (r _ u4) (r _ u4),u4,rfl,rfl,rfl,rfl,u2 (O8 (r _ u4) (r _ u4)) (r _ u4),i,rfl,?_,aa.refl _,aa.refl _,aa.refl _,trivial⟩,λi1 h1 =>⟨⟨u2 u0 u1,u2 u0 u2',u2 (O4 u0 u1) (O4 u0 u2'),u2 u1 u2',u2 (O8 (O4 u0 u1) (O4 u0 u2')) (O4 u1 u2'),u0,rfl,rfl,rfl,rfl,u0,rfl,rfl,rfl,rfl,u2 (r _ u0) (r _ u0),u0,rfl,rfl,rfl,rfl,u2 (O8 (r _ u0) (r _ u0)) (r _ u0),i,rfl,rfl,aa.refl _,aa.refl _,aa.refl _,trivial⟩,λi2 h2=>⟨by omega,i+1,by omega,by omega,aa.refl _,?_,aa.refl _,trivial⟩⟩⟩
  ·rw[a_,b_];rfl
  ·injection h1 with h1;injection h1 with _ _ h1;injection h2 with h2;injection h2 with _ _ h2;have e1:i1=i:=by omega
   have e2:i2=i:=by omega
   subst e1;subst e2;exact aa.refl _
 ·have a:=m_ a;have e:i=64:=by omega
  subst e;exact⟨(),trivial,aa.refl _,λ_=>rfl⟩
theorem ael:ax S 97 (q7 Sh.sb Io):=by
 refine G3 (n:=20) Tryz.func97 (by kernel_rfl) (by kernel_rfl) Sh.aco ?_;intro args g x h hp;unfold Io at h;split at h
 ·cases h;exact⟨Hg x.W x.B,[.ptr 0 F 0,.slc 0 8 64 F 64],aak _ _,λE=>rfl,rfl,λ_=>rfl,S5 hp⟩
 ·cases h
noncomputable def WV:List (FuncId×PT):=(97,q7 Sh.sb Io)::iD
theorem SS:bp S (λf=>aD f WV):=.cons ael (pW _ _) fo
def V8 (j:Nat):Int:=EI [1779033703,3144134277,1013904242,2773480762,1359893119,2600822924,528734635,1541459225] j
def Ai (T:f_)(q j:Nat):Int:=ai T ((64*q+j:Nat):Int)
def qW (T:f_):Nat->Nat->Int
 | 0=>V8
 | q+1=>mg (qW T q) (Ai T q)
structure rE (x:Sh)(T:f_):Prop where
 ok:x.Ok
 w: ∀ j,j<8->x.W j=qW T (T.length/64) j
 b: ∀ j,j<T.length%64->x.B j=Ai T (T.length/64) j
 h:x.held=((T.length%64:Nat):Int)
def EO (x:Sh)(T:f_):Prop:=rE x T/\x.size=(T.length:Int)%18446744073709551616
noncomputable def Uz (T s:f_)(z:Int):aY :=
 {α:=Nat×Sh,pre:=λ_ x=>x.1<=s.length/\rE x.2 (T++s.take x.1)/\x.2.size=z,kH:=λ_ x=>s.length-x.1,fresh:=0,slots:=λ_ x=>[(1,.str A (s.drop x.1))],
  mem:=λ_ x=>[(0,x.2.sb)]}
noncomputable def PM (T s:f_)(z:Int):fD:={cv with cT:=λf=>aD f WV,aW:=λf=>if f=60 then [(2,always (Uz T s z))] else []}
theorem adX (T s:f_)(z:Int):Sx.Good S (PM T s z):=.of bR SS bq
def zK (g:Sh×f_):SB:=g.1.sb
def z7:List SV->Option (Sh×f_->Prop×(Sh->Prop×SV×(Sh×f_)))
 | [.ptr 0 F 0,.str A s]=>C λg=>(EO g.1 g.2/\s.length<1152921504606846976,λy=>(EO y (g.2++s),.ptr 0 F 0,(y,g.2++s)))
 | _=>O
def nc (x:Sh)(D:f_):Sh :=⟨x.W,λj=>if 8+x.held.toNat-8<=j/\j<8+x.held.toNat-8+min D.length (64-x.held.toNat)then((D.getD (j-(8+x.held.toNat-8)) 0).toNat:Int)else x.B j,x.held+((min D.length (64-x.held.toNat):Nat):Int),x.size⟩
theorem abI (x:Sh)(T s:f_)(z:Int):VC.holds (sQ (PM T s z) 60 aC [.ptr 0 F 0,.str A s] zK (x,T) (λy:Sh=>(EO y (T++s),.ptr 0 F 0,(y,T++s))))=((λl:Nat->SV=>((λJ:Nat->SV=>((λm:Nat->(Nat×Sh)->SV=>((λK:Nat->(Nat×Sh)->SV=>((λd:Nat->(Nat×Sh)->SV=>((λL:Nat->(Nat×Sh)->SV=>((λn:Nat->(Sh)->SV=>((λD:Nat->(Sh)->SV=>((λo:Nat->(Sh)->SV=>((λp:Nat->(Nat×Sh)->SV=>((λM:Nat->(Nat×Sh)->SV=>((λq:Nat->(Nat×Sh)->SV=>((λN:Nat->(Nat×Sh)->SV=>((λP:Nat->(Nat×Sh)->SV=>((λr:Nat->(Sh)->SV=>((λE:Nat->(Sh)->SV=>((λt:Nat->(Sh)->SV=>((λu:Nat->(Nat×Sh)->SV=>((λQ:Nat->(Nat×Sh)->SV=>((λv:Nat->(Nat×Sh)->SV=>((λR:Nat->(Nat×Sh)->SV=>((λS:Nat->(Nat×Sh)->SV=>((λw:Nat->(Sh)->SV=>((λU:Nat->(Sh)->SV=>((λG:(Nat×Sh)->SB=>((λH:(Nat×Sh)->SB=>(((∃(j:Nat×Sh),(j.1<=s.length/\rE j.2 (T++Z j.1 s)/\j.2.size=z)/\s=I j.1 s/\aa (SB.cells (l 0::l 1::l 2::l 3::l 4::l 5::l 6::l 7::wm J [SV.int .i64 A x.held,SV.int .u64 A ((x.size+(s.length:Int)%18446744073709551616)%18446744073709551616)]) 74 171) (SB.cells (m 0 j::m 1 j::m 2 j::m 3 j::m 4 j::m 5 j::m 6 j::m 7 j::wm (λi=>K i j) [SV.int .i64 A j.2.held,SV.int .u64 A j.2.size]) 74 171)/\True)/\∀(a:Nat×Sh),a.1<=s.length/\rE a.2 (T++Z a.1 s)/\a.2.size=z->Bk (!decide (I a.1 s=[])) ((0<=a.2.held/\a.2.held<=64/\(64:Int)<=(64:Int))/\Fk (64=a.2.held.toNat) (((8:Nat)<=(8:Nat)/\8+(64-a.2.held.toNat)<=8+(64:Nat))/\((-9223372036854775808:Int)<=a.2.held+(↑(min (I a.1 s).length (64-a.2.held.toNat)):Int)/\a.2.held+(↑(min (I a.1 s).length (64-a.2.held.toNat)):Int)<=9223372036854775807)/\(0<=(↑(min (I a.1 s).length (64-a.2.held.toNat)):Int)/\(↑(min (I a.1 s).length (64-a.2.held.toNat)):Int)<=(↑(I a.1 s).length:Int)/\(↑(I a.1 s).length:Int)<=(↑(I a.1 s).length:Int))/\Fk (a.2.held+(↑(min (I a.1 s).length (64-a.2.held.toNat)):Int)=64) (∃(b:Sh),aa (H a) (SB.cells (n 0 b::n 1 b::n 2 b::n 3 b::n 4 b::n 5 b::n 6 b::n 7 b::wm (λi=>D i b) [SV.int .i64 A b.held,SV.int .u64 A b.size]) 74 171)/\b.Ok/\∀(_:Unit),True->∃(e:Nat×Sh),((e.1<=s.length/\rE e.2 (T++Z e.1 s)/\e.2.size=z)/\s.length-e.1<s.length-a.1)/\bX (I a.1 s) (C (an 37)) O (↑(min (I a.1 s).length (64-a.2.held.toNat)):Int) (↑(I a.1 s).length:Int)=I e.1 s/\aa (SB.cells (o 0 b::o 1 b::o 2 b::o 3 b::o 4 b::o 5 b::o 6 b::o 7 b::wm (λi=>D i b) [SV.int .i64 F 0,SV.int .u64 A b.size]) 74 171) (SB.cells (p 0 e::p 1 e::p 2 e::p 3 e::p 4 e::p 5 e::p 6 e::p 7 e::wm (λi=>M i e) [SV.int .i64 A e.2.held,SV.int .u64 A e.2.size]) 74 171)/\True) (∃(f:Nat×Sh),((f.1<=s.length/\rE f.2 (T++Z f.1 s)/\f.2.size=z)/\s.length-f.1<s.length-a.1)/\bX (I a.1 s) (C (an 37)) O (↑(min (I a.1 s).length (64-a.2.held.toNat)):Int) (↑(I a.1 s).length:Int)=I f.1 s/\aa (H a) (SB.cells (q 0 f::q 1 f::q 2 f::q 3 f::q 4 f::q 5 f::q 6 f::q 7 f::wm (λi=>N i f) [SV.int .i64 A f.2.held,SV.int .u64 A f.2.size]) 74 171)/\True)) (((8:Nat)<=8+a.2.held.toNat/\8+a.2.held.toNat+(64-a.2.held.toNat)<=8+(64:Nat))/\((-9223372036854775808:Int)<=a.2.held+(↑(min (I a.1 s).length (64-a.2.held.toNat)):Int)/\a.2.held+(↑(min (I a.1 s).length (64-a.2.held.toNat)):Int)<=9223372036854775807)/\(0<=(↑(min (I a.1 s).length (64-a.2.held.toNat)):Int)/\(↑(min (I a.1 s).length (64-a.2.held.toNat)):Int)<=(↑(I a.1 s).length:Int)/\(↑(I a.1 s).length:Int)<=(↑(I a.1 s).length:Int))/\Fk (a.2.held+(↑(min (I a.1 s).length (64-a.2.held.toNat)):Int)=64) (∃(c:Sh),aa (G a) (SB.cells (r 0 c::r 1 c::r 2 c::r 3 c::r 4 c::r 5 c::r 6 c::r 7 c::wm (λi=>E i c) [SV.int .i64 A c.held,SV.int .u64 A c.size]) 74 171)/\c.Ok/\∀(_:Unit),True->∃(g:Nat×Sh),((g.1<=s.length/\rE g.2 (T++Z g.1 s)/\g.2.size=z)/\s.length-g.1<s.length-a.1)/\bX (I a.1 s) (C (an 37)) O (↑(min (I a.1 s).length (64-a.2.held.toNat)):Int) (↑(I a.1 s).length:Int)=I g.1 s/\aa (SB.cells (t 0 c::t 1 c::t 2 c::t 3 c::t 4 c::t 5 c::t 6 c::t 7 c::wm (λi=>E i c) [SV.int .i64 F 0,SV.int .u64 A c.size]) 74 171) (SB.cells (u 0 g::u 1 g::u 2 g::u 3 g::u 4 g::u 5 g::u 6 g::u 7 g::wm (λi=>Q i g) [SV.int .i64 A g.2.held,SV.int .u64 A g.2.size]) 74 171)/\True) (∃(h:Nat×Sh),((h.1<=s.length/\rE h.2 (T++Z h.1 s)/\h.2.size=z)/\s.length-h.1<s.length-a.1)/\bX (I a.1 s) (C (an 37)) O (↑(min (I a.1 s).length (64-a.2.held.toNat)):Int) (↑(I a.1 s).length:Int)=I h.1 s/\aa (G a) (SB.cells (v 0 h::v 1 h::v 2 h::v 3 h::v 4 h::v 5 h::v 6 h::v 7 h::wm (λi=>R i h) [SV.int .i64 A h.2.held,SV.int .u64 A h.2.size]) 74 171)/\True))) (∃(k:Sh),EO k (T++s)/\aa (SB.cells (d 0 a::d 1 a::d 2 a::d 3 a::d 4 a::d 5 a::d 6 a::d 7 a::wm (λi=>S i a) [SV.int .i64 A a.2.held,SV.int .u64 A a.2.size]) 74 171) (SB.cells (w 0 k::w 1 k::w 2 k::w 3 k::w 4 k::w 5 k::w 6 k::w 7 k::wm (λi=>U i k) [SV.int .i64 A k.held,SV.int .u64 A k.size]) 74 171)/\ah (SV.ptr 0 F 0) (SV.ptr 0 F 0))))) (fun(a:Nat×Sh)=>(SB.cells (d 0 a::d 1 a::d 2 a::d 3 a::d 4 a::d 5 a::d 6 a::d 7 a::wm (λi=>L i a) [SV.int .i64 A (a.2.held+(↑(min (I a.1 s).length (64-a.2.held.toNat)):Int)),SV.int .u64 A a.2.size]) 74 171)))) (fun(a:Nat×Sh)=>(SB.cells (d 0 a::d 1 a::d 2 a::d 3 a::d 4 a::d 5 a::d 6 a::d 7 a::wm (λi=>P i a) [SV.int .i64 A (a.2.held+(↑(min (I a.1 s).length (64-a.2.held.toNat)):Int)),SV.int .u64 A a.2.size]) 74 171)))) (fun(n0:Nat) (k:Sh)=>SV.int .u8 A (k.B n0)))) (fun(n0:Nat) (k:Sh)=>SV.int .u32 A (k.W n0)))) (fun(n0:Nat) (a:Nat×Sh)=>SV.int .u8 A (a.2.B n0)))) (fun(n0:Nat) (h:Nat×Sh)=>SV.int .u8 A (h.2.B n0)))) (fun(n0:Nat) (h:Nat×Sh)=>SV.int .u32 A (h.2.W n0)))) (fun(n0:Nat) (g:Nat×Sh)=>SV.int .u8 A (g.2.B n0)))) (fun(n0:Nat) (g:Nat×Sh)=>SV.int .u32 A (g.2.W n0)))) (fun(n0:Nat) (c:Sh)=>SV.int .u32 A (mg c.W c.B n0)))) (fun(n0:Nat) (c:Sh)=>SV.int .u8 A (c.B n0)))) (fun(n0:Nat) (c:Sh)=>SV.int .u32 A (c.W n0)))) (fun(n0:Nat) (a:Nat×Sh)=>SV.int .u8 A (if 8+a.2.held.toNat-8<=(n0:Nat)/\(n0:Nat)<8+a.2.held.toNat-8+min (I a.1 s).length (64-a.2.held.toNat)then(↑((I a.1 s).getD (n0-(8+a.2.held.toNat-8)) (0:UInt8)).toNat:Int)else a.2.B n0)))) (fun(n0:Nat) (f:Nat×Sh)=>SV.int .u8 A (f.2.B n0)))) (fun(n0:Nat) (f:Nat×Sh)=>SV.int .u32 A (f.2.W n0)))) (fun(n0:Nat) (e:Nat×Sh)=>SV.int .u8 A (e.2.B n0)))) (fun(n0:Nat) (e:Nat×Sh)=>SV.int .u32 A (e.2.W n0)))) (fun(n0:Nat) (b:Sh)=>SV.int .u32 A (mg b.W b.B n0)))) (fun(n0:Nat) (b:Sh)=>SV.int .u8 A (b.B n0)))) (fun(n0:Nat) (b:Sh)=>SV.int .u32 A (b.W n0)))) (fun(n0:Nat) (a:Nat×Sh)=>SV.int .u8 A (if(0:Nat)<=(n0:Nat)/\(n0:Nat)<0+min (I a.1 s).length (64-a.2.held.toNat)then(↑((I a.1 s).getD n0 (0:UInt8)).toNat:Int)else a.2.B n0)))) (fun(n0:Nat) (a:Nat×Sh)=>SV.int .u32 A (a.2.W n0)))) (fun(n0:Nat) (j:Nat×Sh)=>SV.int .u8 A (j.2.B n0)))) (fun(n0:Nat) (j:Nat×Sh)=>SV.int .u32 A (j.2.W n0)))) (fun(n0:Nat)=>SV.int .u8 A (x.B n0)))) (fun(n0:Nat)=>SV.int .u32 A (x.W n0))):=by kernel_rfl
theorem Mr {B B':Nat->Int}(h: ∀ j,j<64->B j=B' j): ∀(n j:Nat),wL B n j=wL B' n j
 | 0,j=>by
   unfold wL;by_cases e:j<16
   ·simp only[e,if_true,Zh,h (4*j) (by omega),h (4*j+1) (by omega),h (4*j+2) (by omega),h (4*j+3) (by omega)]
   ·simp only[e,if_false]
 | n+1,j=>by simp only[Jh,Mr h n]
theorem IX {v v':Nat->Int}(h: ∀ j,j<8->v j=v' j)(k w:Int): ∀ j,j<8->zI v k w j=zI v' k w j:=by
 have h0:=h 0 (by decide);have h1:=h 1 (by decide);have h2:=h 2 (by decide);have h3:=h 3 (by decide);have h4:=h 4 (by decide);have h5:=h 5 (by decide);have h6:=h 6 (by decide);have h7:=h 7 (by decide);intro j hj
 match j,hj with
 | 0,_=>simp only[zI,t1F,t2F,h0,h1,h2,h4,h5,h6,h7]
 | 1,_=>exact h0
 | 2,_=>exact h1
 | 3,_=>exact h2
 | 4,_=>simp only[zI,t1F,h3,h4,h5,h6,h7]
 | 5,_=>exact h4
 | 6,_=>exact h5
 | 7,_=>exact h6
theorem GF {W W' B B':Nat->Int}(hW: ∀ j,j<8->W j=W' j)(hB: ∀ j,j<64->B j=B' j): ∀ i j,j<8->dx W B i j=dx W' B' i j
 | 0,j,hj=>hW j hj
 | i+1,j,hj=>by simp only[dx];rw[IX (GF hW hB i) _ _ j hj,Mr hB]
theorem C5 {W W' B B':Nat->Int}(hW: ∀ j,j<8->W j=W' j)(hB: ∀ j,j<64->B j=B' j)(j:Nat)(hj:j<8):mg W B j=mg W' B' j:=by simp only[mg,hW j hj,GF hW hB 64 j hj]
theorem BN (T:f_)(q j:Nat):Ai T q j=((T.getD (64*q+j) 0).toNat:Int):=by unfold Ai ai;rw[a_]
theorem BO (D:f_){q:Nat}(h:64*q+j<T.length):Ai (T++D) q j=Ai T q j:=by rw[BN,BN,Y,Y,List.getElem?_append_left h]
theorem JA (D:f_){q:Nat}(h:T.length<=64*q+j):Ai (T++D) q j=((D.getD (64*q+j-T.length) 0).toNat:Int):=by rw[BN,Y,Y,List.getElem?_append_right h]
theorem qX (T D:f_): ∀ q,64*q<=T.length->∀ j,j<8->qW (T++D) q j=qW T q j
 | 0,_,_,_=>rfl
 | q+1,h,j,hj=>by simp only[qW];exact C5 (qX T D q (by omega)) (λi hi=>BO D (by omega)) j hj
theorem aek {W B:Nat->Int}(j:Nat):U (mg W B j):=um _
theorem VU (D:f_)(i:Nat):0<=((D.getD i 0).toNat:Int)/\((D.getD i 0).toNat:Int)<=255:=by have:=(D.getD i 0).toNat_lt;omega
theorem getD_take {i:Nat}(h:i<n):(D.take n).getD i 0=D.getD i 0:=by rw[Y,Y,List.getElem?_take_of_lt h]
theorem Om {x:Sh}(h:rE x T)(D:f_):(nc x D).Ok:=by
 refine⟨h.ok.w,λj hj=> ?_⟩;unfold nc;simp only;split
 ·exact VU _ _
 ·exact h.ok.b j hj
theorem aci {x:Sh}(h:rE x T)(j:Nat)(hj:j<T.length%64+min D.length (64-T.length%64)):(nc x D).B j=Ai (T++D.take (min D.length (64-T.length%64))) (T.length/64) j:=by
 have hh:=h.h;have e:x.held.toNat=T.length%64:=by omega
 unfold nc;simp only[e];have hd:=bE T.length 64;by_cases c:j<T.length%64
 ·rw[s_ (by omega),h.b j c,BO _ (by omega)]
 ·rw[r_ (by omega),JA _ (by omega),getD_take (by omega)];congr 3;omega
theorem XI {x:Sh}(h:rE x T)(hc:T.length%64+min D.length (64-T.length%64)<64):rE (nc x D) (T++D.take (min D.length (64-T.length%64))):=by
 have hl:(T++D.take (min D.length (64-T.length%64))).length=T.length+min D.length (64-T.length%64):=by rw[bf,b9];omega
 have hd:=bE T.length 64;have e1:(T++D.take (min D.length (64-T.length%64))).length/64=T.length/64:=by omega
 have e2:(T++D.take (min D.length (64-T.length%64))).length%64=T.length%64+min D.length (64-T.length%64):=by omega
 refine⟨Om h D,λj hj=> ?_,λj hj=> ?_,?_⟩
 ·rw[e1,qX _ _ _ (by omega) j hj];exact h.w j hj
 ·rw[e2] at hj;rw[e1];exact aci h j hj
 ·have hh:=h.h;have e:x.held.toNat=T.length%64:=by omega
  rw[e2];show x.held+((min D.length (64-x.held.toNat):Nat):Int)=_;rw[e];omega
theorem XH {x:Sh}(h:rE x T)(hc:T.length%64+min D.length (64-T.length%64)=64):rE ⟨mg (nc x D).W (nc x D).B,(nc x D).B,0,(nc x D).size⟩ (T++D.take (min D.length (64-T.length%64))):=by
 have hl:(T++D.take (min D.length (64-T.length%64))).length=T.length+min D.length (64-T.length%64):=by rw[bf,b9];omega
 have hd:=bE T.length 64;have e1:(T++D.take (min D.length (64-T.length%64))).length/64=T.length/64+1:=by omega
 have e2:(T++D.take (min D.length (64-T.length%64))).length%64=0:=by omega
 refine⟨⟨λj hj=>aek j,(Om h D).b⟩,λj hj=> ?_,λj hj=> ?_,?_⟩
 ·rw[e1];simp only[qW];refine C5 (λi hi=> ?_) (λi hi=> ?_) j hj
  ·rw[qX _ _ _ (by omega) i hi];exact h.w i hi
  ·exact aci h i (by omega)
 ·rw[e2] at hj;exact absurd hj (Nat.not_lt_zero _)
 ·rw[e2];rfl
theorem MA {x:Sh}{s:f_}(hx:EO x T)(_hs:s.length<1152921504606846976) :
  ay (sQ (PM T s (((T++s).length:Int)%18446744073709551616)) 60 aC [.ptr 0 F 0,.str A s] zK (x,T) (λy:Sh=>(EO y (T++s),.ptr 0 F 0,(y,T++s)))):=by
 refine ay.mS (abI x T s _) (by delta Bk Fk;exact rfl) ?_;dsimp only;obtain⟨hx,hz⟩:=hx;refine⟨⟨(0,⟨x.W,x.B,x.held,(x.size+(s.length:Int)%18446744073709551616)%18446744073709551616⟩),⟨b! _,?_,?_⟩,rfl,aa.refl _,trivial⟩,λg hg=>⟨λa=> ?_,λa=> ?_⟩⟩
 ·show rE _ (T++s.take 0);rw[List.take_zero,List.append_nil];exact⟨⟨hx.ok.w,hx.ok.b⟩,hx.w,hx.b,hx.h⟩
 ·show(x.size+(s.length:Int)%18446744073709551616)%18446744073709551616=_;rw[hz,bf];omega
 ·obtain⟨hk,hi,hsz⟩:=hg;have hD:s.drop g.1≠[]:=by simpa using a
  have hh:=hi.h;generalize hT:T++s.take g.1=T' at hi hh;have e:g.2.held.toNat=T'.length%64:=by omega
  have hlt:T'.length%64<64:=Nat.mod_lt _ (by decide);have hp:=List.length_pos_iff.2 hD;have hdl:(s.drop g.1).length=s.length-g.1:=b7 ..;have hmin:min (s.drop g.1).length (64-g.2.held.toNat)=min (s.drop g.1).length (64-T'.length%64):=by rw[e]
  generalize hc:min (s.drop g.1).length (64-g.2.held.toNat)=cnt at hmin ⊢;have hT2:T++s.take (g.1+cnt)=T'++(s.drop g.1).take cnt:=by rw[← hT,List.append_assoc,List.take_add]
  have hsub:bX (s.drop g.1) (C (an 37)) O (cnt:Int) ((s.drop g.1).length:Int)=s.drop (g.1+cnt):=by simp only[bX,a_,List.drop_drop]
  have rest: ∀ {p:Prop},(8<=8+g.2.held.toNat/\8+g.2.held.toNat+(64-g.2.held.toNat)<=8+64->(-9223372036854775808<=g.2.held+(cnt:Int)/\g.2.held+(cnt:Int)<=9223372036854775807)->(0<=(cnt:Int)/\(cnt:Int)<=((s.drop g.1).length:Int)/\((s.drop g.1).length:Int)<=((s.drop g.1).length:Int))->p)->p:=λh=>h (by omega) (by omega) (by omega);refine⟨by omega,λb=>absurd (l_ b) (by omega),λ_=>rest λr1 r2 r3=>⟨r1,r2,r3,λb=> ?_,λb=> ?_⟩⟩
  ·have b:=l_ b;refine⟨nc g.2 (s.drop g.1),?_,Om hi _,λ_ _=>⟨(g.1+cnt,⟨mg (nc g.2 (s.drop g.1)).W (nc g.2 (s.drop g.1)).B,(nc g.2 (s.drop g.1)).B,0,(nc g.2 (s.drop g.1)).size⟩),⟨⟨?_,?_,hsz⟩,?_⟩,hsub,Sx.aa.cells (λE=>rfl) rfl,trivial⟩⟩
   ·subst hc;exact aa.refl _
   ·show g.1+cnt<=s.length;omega
   ·show rE _ (T++s.take (g.1+cnt));rw[hT2,hmin];exact XH hi (by omega)
   ·show s.length-(g.1+cnt)<s.length-g.1;omega
  ·have b:=m_ b;refine⟨(g.1+cnt,nc g.2 (s.drop g.1)),⟨⟨?_,?_,hsz⟩,?_⟩,hsub,?_,trivial⟩
   ·show g.1+cnt<=s.length;omega
   ·show rE _ (T++s.take (g.1+cnt));rw[hT2,hmin];exact XI hi (by omega)
   ·show s.length-(g.1+cnt)<s.length-g.1;omega
   ·subst hc;exact aa.refl _
 ·obtain⟨hk,hi,hsz⟩:=hg;have hD:s.drop g.1=[]:=by simpa using a
  have hl:(s.drop g.1).length=0:=by rw[hD];rfl
  rw[b7] at hl;rw[List.take_of_length_le (by omega)] at hi;exact⟨g.2,⟨hi,hsz⟩,aa.refl _,λ_=>rfl⟩
theorem Ra (x:Sh×f_):(zK x).wf 0=F/\(zK x).ro=A/\(zK x).no=false:=⟨rfl,rfl,rfl⟩
theorem Zr:ax S 60 (q7 zK z7):=by
 refine G3 (n:=20) Tryz.func60 (by kernel_rfl) (by kernel_rfl) Ra ?_;intro args g x h hp;unfold z7 at h;split at h
 ·rename_i s;cases h;obtain⟨x,T⟩:=x;exact⟨PM T s (((T++s).length:Int)%18446744073709551616),[.ptr 0 F 0,.str A s],adX _ _ _,λE=>rfl,rfl,λ_=>rfl,MA hp.1 hp.2⟩
 ·cases h
end
end Go.Proofs.YtoibaecagklkaaaGreatDoor
