/-
  The framework's part 29: contracts of functions that reach one block of their caller's.
-/
import Derived.Test.YtoibaecagklkaaaGreatDoorMj
import Derived.Test.YtoibaecagklkaaaGreatDoorMl
open Bool renaming false->A,true->F
open Decidable renaming decide->Q
open Go.BinOp renaming and->L,or->M,xor->J
open Go.IntKind renaming u32->ag
open Go.Operand renaming tmp->an
open Go.Proofs.Tryz renaming f148->az,f149->V,f60->aA,f97->aK,prog->S
open Int renaming natCast_nonneg->aS,toNat_natCast->a_
open List renaming drop->I,getD_eq_getElem?_getD->Y,getElem?_cons_zero->b5,getElem?_eq_getElem->a!,length_append->bl,length_drop->b6,length_take->b9,take->Z
open Nat renaming div_add_mod->bn,eq_of_beq_eq_true->bx,zero_add->b_,zero_le->b!
open Option renaming none->O,some->C
namespace Go.Proofs.YtoibaecagklkaaaGreatDoor
open Go Sx
variable {a b:Int}{D T:e_}{j n:Nat}{G H:Type}
namespace Sx
open Go
def Vo (k:Nat):SV->Option SV
 | .ptr j l o=>(match Nat.beq j k with
   | true=>C (.ptr 0 l o)
   | false=>O)
 | .slc j o n l c=>(match Nat.beq j k with
   | true=>C (.slc 0 o n l c)
   | false=>O)
 | .int a _ n=>C (.int a A n)
 | .bool _ b=>C (.bool A b)
 | .str _ s=>C (.str A s)
 | _=>O
def Gp (k:Nat):List SV->Option (List SV)
 | []=>C []
 | v::r=>(match Vo k v,Gp k r with
   | some x,C l=>C (x::l)
   | _,_=>O)
theorem QA {k:Nat}{E:Nat->Nat}{v u:SV}(h:Vo k v=C u):u.val (λ_=>E k)=v.val E/\u.wf 1=true:=by
 unfold Vo at h
 split at h<;>first
  | cases h;done
  | (cases h;exact⟨rfl,rfl⟩)
  | skip
 ·split at h
  ·rename_i e;cases h;have e:=bx e;subst e;exact⟨rfl,rfl⟩
  ·cases h
 ·split at h
  ·rename_i e;cases h;have e:=bx e;subst e;exact⟨rfl,rfl⟩
  ·cases h
theorem BH {k:Nat}{E:Nat->Nat}: ∀ {l r:List SV},Gp k l=C r->SV.vals (λ_=>E k) r=SV.vals E l/\SV.e9 1 r=F
 | [],r,h=>by cases h;exact⟨rfl,rfl⟩
 | v::l,r,h=>by
   unfold Gp at h;split at h
   ·rename_i x l' hx hl;cases h;obtain⟨g1,g2⟩:=QA (E:=E) hx;obtain⟨g3,g4⟩:=BH (E:=E) hl;exact⟨by simp only[SV.vals,g1,g3],by simp only[SV.e9,g2,g4,Bool.and_self]⟩
   ·cases h
def Sk:List SV->Option Nat
 | []=>O
 | .ptr j _ _::_=>C j
 | .slc j _ _ _ _::_=>C j
 | _::r=>Sk r
def JT (k:Nat):SV->SV
 | .ptr _ l o=>.ptr k l o
 | v=>v
def Sj:SV->Bool
 | .ptr j _ _=>Nat.beq j 0
 | v=>v.wf 0
theorem Ri {v:SV}(h:Sj v=F){k:Nat}{E E':Nat->Nat}(he:E' 0=E k):(JT k v).val E=v.val E':=by
 cases v
 case ptr j l o =>have e:=bx h;subst e;simp only[JT,SV.val,he]
 all_goals exact SV.wq (by exact h) _ _
noncomputable def pS (sb:G->SB)(sp:List SV->Option (G->Prop×(H->Prop×SV×G))):PT:=λargs m nx K=>match Sk args with
 | some k=>(match Gp k args with
   | some l=>(match sp l with
     | some g=>(match m.get k with
       | some B=>.ex G λx=>.and (.atom (ah B (sb x))) (.and (.atom (g x).1) (.all H λy=>.imp ((g x).2 y).1 (K (JT k ((g x).2 y).2.1) (m.put k (sb ((g x).2 y).2.2)) nx)))
       | none=>.fail "a call's block")
     | none=>.fail "a call's arguments")
   | none=>.fail "a call's arguments")
 | none=>.fail "a call's arguments"
theorem oD (sb:G->SB)(sp:List SV->Option (G->Prop×(H->Prop×SV×G))):bq (pS sb sp):=by
 intro args m nx K K' hK h;unfold pS at h ⊢;split at h
 ·split at h
  ·split at h
   ·split at h
    ·obtain⟨x,h1,h2,h3⟩:=h;exact⟨x,h1,h2,λy hy=>hK _ _ _ (h3 y hy)⟩
    ·exact h.elim
   ·exact h.elim
  ·exact h.elim
 ·exact h.elim
def Kn (sb:G->SB)(g:H->Prop×SV×G)(v:SV)(m:Mem):VC:=match m.get 0 with
 | some X=>.ex H λy=>.and (.atom (g y).1) (.and (leA X (sb (g y).2.2)) (svA v (g y).2.1))
 | none=>.fail "no block"
theorem EB {P:Program}{f:FuncId}{fn:Func}(hf:P.funcs[f]?=C fn) (hn:(fn.name== "runtime.NumGoroutine")=A) (hb:fn.body.isSome=F)   {sb:G->SB} {sp:List SV->Option (G->Prop×(H->Prop×SV×G))}
  (hsb: ∀ x,(sb x).wf 0=F/\(sb x).ro=A/\(sb x).no=A)
  (h: ∀ args g x,sp args=C g->(g x).1->∃ cfg args',Good P cfg/\(∀ E,SV.vals E args'=SV.vals E args)/\SV.e9 1 args'=F/\(∀ y,Sj ((g x).2 y).2.1=F) /\
    av (fL P (calling P cfg n) [] zq (cfg.bh f) cfg.rounds fn args' [(0,sb x)] 1 (λv m _=>Kn sb (g x).2 v m))):ax P f (pS sb sp):=by
 intro args m nx K hk hwf hargs Γ E w hs;unfold pS at hk;split at hk
 ·rename_i k hkey;split at hk
  ·rename_i l hl;split at hk
   ·rename_i g hg;split at hk
    ·rename_i B hB;obtain⟨x,h1,h2,h3⟩:=hk;have h1:ah B (sb x):=h1;obtain⟨cfg,args',c1,c2,c3,c4,c5⟩:=h _ _ x hg h2;obtain⟨s1,s2,s3⟩:=hsb x;have hone:=hs.one hB h1 s3 s2 s1;have hc:=dS c1 hf hn hb c5 (by simp only[Mem.wf,Bool.and_true];exact SB.fE (b! _) s1) c3 hone;rw[c2,(BH (E:=E) hl).1] at hc;refine eF hf hn hb (hc.mono ?_);rintro e w' ⟨v,rfl,E1,u,m1,nx1,g1,g2,g3,g4,g5⟩;refine⟨v,rfl,?_⟩;cases u with
     | none=>exact g5.elim
     | some u =>
       simp only[lift,Kn] at g5;split at g5
       ·rename_i X hX;obtain⟨y,y1,y2,y3⟩:=g5;have y2:ah X (sb ((g x).2 y).2.2):=y2;have y3:aa u ((g x).2 y).2.1:=y3;obtain⟨t1,t2,t3⟩:=hsb ((g x).2 y).2.2;have hsw:=g4.swap hX y2;have hE0:E1 0=E k:=g1 0 (by omega);have hfr:=hs.frame hB (h1.old s3).1 ((h1.old s3).2.2 s2) hsw hE0 (Mem.rN hX) t3 t2 t1;refine⟨E,C (JT k ((g x).2 y).2.1),_,nx,λ_ _=>rfl,Nat.le_refl _,λz hz=> ?_,hfr,h3 y y1⟩;cases hz;rw[g3 u rfl,y3 E1];exact(Ri (c4 y) hE0).symm
       ·exact g5.elim
    ·exact hk.elim
   ·exact hk.elim
  ·exact hk.elim
 ·exact hk.elim
end Sx
section
open Go Sx
set_option maxRecDepth 20000
def wO (f:Nat->Prop->Prop):Nat->Nat->Prop->Prop
 | _,0,t=>t
 | i,n+1,t=>f i (wO f (i+1) n t)
theorem wO.of {f:Nat->Prop->Prop}{t:Prop}{N:Nat}(h: ∀ i r,i<N->r->f i r)(ht:t): ∀ n i,i+n<=N->wO f i n t
 | 0,_,_=>ht
 | n+1,i,hn=>h i _ (by omega) (wO.of h ht n (i+1) (by omega))
def W5 (a b c:Int):Int:=bitsOf .xor (bitsOf .xor a b) c
def bU (x n:Int):Int:=bitsOf .or (x*(2^ (32 - n).toNat:Nat)% 4294967296) (x / (2^ n.toNat:Nat))
def acP (a:Int):Int:=W5 (bU a 2) (bU a 13) (bU a 22)
def acQ (e:Int):Int:=W5 (bU e 6) (bU e 11) (bU e 25)
def adY (x:Int):Int:=W5 (bU x 7) (bU x 18) (x / 8)
def adZ (y:Int):Int:=W5 (bU y 17) (bU y 19) (y / 1024)
def chF (e f g:Int):Int:=bitsOf .xor (bitsOf .and e f) (bitsOf .and (bitsOf .xor 4294967295 e) g)
def adS (a b c:Int):Int:=W5 (bitsOf .and a b) (bitsOf .and a c) (bitsOf .and b c)
def Hl:List Int:=[1116352408,1899447441,3049323471,3921009573,961987163,1508970993,2453635748,2870763221,3624381080,310598401,607225278,1426881987,1925078388,2162078206,2614888103,3248222580,3835390401,4022224774,264347078,604807628,770255983,1249150122,1555081692,1996064986,2554220882,2821834349,2952996808,3210313671,3336571891,3584528711,113926993,338241895,666307205,773529912,1294757372,1396182291,1695183700,1986661051,2177026350,2456956037,2730485921,2820302411,3259730800,3345764771,3516065817,3600352804,4094571909,275423344,430227734,506948616,659060556,883997877,958139571,1322822218,1537002063,1747873779,1955562222,2024104815,2227730452,2361852424,2428436474,2756734187,3204031479,3329325298]
def ER (i:Nat):Int:=zu Hl i
def El (b:Nat->Int)(j:Nat):Int:=bitsOf .or (bitsOf .or (bitsOf .or (b (4*j)*16777216% 4294967296) (b (4*j+1)*65536% 4294967296)) (b (4*j+2)*256% 4294967296)) (b (4*j+3))
def UO (a b c d:Int):Int:=(((a+adY b)% 4294967296+c)% 4294967296+adZ d)% 4294967296
def wL (b:Nat->Int):Nat->Nat->Int
 | 0=>λj=>if j<16 then El b j else 0
 | n+1=>λj=>if j=16+n then UO (wL b n (16+n - 16)) (wL b n (16+n - 15)) (wL b n (16+n - 7)) (wL b n (16+n - 2))else wL b n j
def RL (v:Nat->Int)(k w:Int):Int:=((((v 7+acQ (v 4))% 4294967296+chF (v 4) (v 5) (v 6))% 4294967296+k)% 4294967296+w)% 4294967296
def ZZ (v:Nat->Int):Int:=(acP (v 0)+adS (v 0) (v 1) (v 2))% 4294967296
def x5 (v:Nat->Int)(k w:Int)(j:Nat):Int:=match j with
 | 0=>(RL v k w+ZZ v)% 4294967296
 | 1=>v 0
 | 2=>v 1
 | 3=>v 2
 | 4=>(v 3+RL v k w)% 4294967296
 | 5=>v 4
 | 6=>v 5
 | 7=>v 6
 | _=>0
def cj (W B:Nat->Int):Nat->Nat->Int
 | 0=>W
 | i+1=>x5 (cj W B i) (ER i) (wL B 48 i)
def kz (W B:Nat->Int)(j:Nat):Int:=(W j+cj W B 64 j)% 4294967296
structure Sh where
 W:Nat->Int
 B:Nat->Int
 held:Int
 size:Int
def Sh.cs (x:Sh):List SV:=[.int .u32 A (x.W 0),.int .u32 A (x.W 1),.int .u32 A (x.W 2),.int .u32 A (x.W 3),.int .u32 A (x.W 4),.int .u32 A (x.W 5),.int .u32 A (x.W 6),.int .u32 A (x.W 7),.int .u8 A (x.B 0),.int .u8 A (x.B 1),.int .u8 A (x.B 2),.int .u8 A (x.B 3),.int .u8 A (x.B 4),.int .u8 A (x.B 5),.int .u8 A (x.B 6),.int .u8 A (x.B 7),.int .u8 A (x.B 8),.int .u8 A (x.B 9),.int .u8 A (x.B 10),.int .u8 A (x.B 11),.int .u8 A (x.B 12),.int .u8 A (x.B 13),.int .u8 A (x.B 14),.int .u8 A (x.B 15),.int .u8 A (x.B 16),.int .u8 A (x.B 17),.int .u8 A (x.B 18),.int .u8 A (x.B 19),.int .u8 A (x.B 20),.int .u8 A (x.B 21),.int .u8 A (x.B 22),.int .u8 A (x.B 23),.int .u8 A (x.B 24),.int .u8 A (x.B 25),.int .u8 A (x.B 26),.int .u8 A (x.B 27),.int .u8 A (x.B 28),.int .u8 A (x.B 29),.int .u8 A (x.B 30),.int .u8 A (x.B 31),.int .u8 A (x.B 32),.int .u8 A (x.B 33),.int .u8 A (x.B 34),.int .u8 A (x.B 35),.int .u8 A (x.B 36),.int .u8 A (x.B 37),.int .u8 A (x.B 38),.int .u8 A (x.B 39),.int .u8 A (x.B 40),.int .u8 A (x.B 41),.int .u8 A (x.B 42),.int .u8 A (x.B 43),.int .u8 A (x.B 44),.int .u8 A (x.B 45),.int .u8 A (x.B 46),.int .u8 A (x.B 47),.int .u8 A (x.B 48),.int .u8 A (x.B 49),.int .u8 A (x.B 50),.int .u8 A (x.B 51),.int .u8 A (x.B 52),.int .u8 A (x.B 53),.int .u8 A (x.B 54),.int .u8 A (x.B 55),.int .u8 A (x.B 56),.int .u8 A (x.B 57),.int .u8 A (x.B 58),.int .u8 A (x.B 59),.int .u8 A (x.B 60),.int .u8 A (x.B 61),.int .u8 A (x.B 62),.int .u8 A (x.B 63),.int .i64 A x.held,.int .u64 A x.size]
def Sh.sb (x:Sh):SB:=.cells x.cs 74 171
structure Sh.Ok (x:Sh):Prop where
 w: ∀ j,j<8->0<=x.W j/\x.W j<=4294967295
 b: ∀ j,j<64->0<=x.B j/\x.B j<=255
def Yy (n:Int):Bool:=Q (n=2)||(Q (n=6)||(Q (n=7)||(Q (n=11)||(Q (n=13)||(Q (n=17)||(Q (n=18)||(Q (n=19)||(Q (n=22)||decide (n=25)))))))))
def xZ:List SV->Option (Prop×SV)
 | [.int .u32 A x,.int .i64 A n]=>(match Yy n with
   | true=>C (0<=x/\x<=4294967295,.int .u32 A (bU x n))
   | false=>O)
 | _=>O
noncomputable def OS (b:Nat->Int):aX :=
 {α:=Nat,pre:=λ_ n=>n<=48,jx:=λ_ n=>48 - n,fresh:=0,slots:=λ_ n=>[(6,.int .i64 A (16+(n:Int)))],
  mem:=λ_ n=>[(2,.rows A 64 [.int .u32 (wL b n)] A 64 234)]}
noncomputable def OQ (W B:Nat->Int):aX :=
 {α:=Nat,pre:=λ_ i=>i<=64,jx:=λ_ i=>64 - i,fresh:=0,slots:=λ_ i=>[(18,.int .i64 A i)],
  mem:=λ_ i=>[(1,.rows A 64 [.int .u32 (wL B 48)] A 64 234),(2,.cells [.int .u32 A (cj W B i 0),.int .u32 A (cj W B i 1),.int .u32 A (cj W B i 2),.int .u32 A (cj W B i 3),.int .u32 A (cj W B i 4),.int .u32 A (cj W B i 5),.int .u32 A (cj W B i 6),.int .u32 A (cj W B i 7)] 8 168)]}
noncomputable def abi (W B:Nat->Int):aX :={α:=Nat,pre:=λst i=>slot st.tmps 18=C (.int .i64 A (i:Int)),jx:=λ_ _=>0,fresh:=0,slots:=λ_ i=>[(9,.int .u32 A (RL (cj W B i) (ER i) (wL B 48 i)))],mem:=λ_ _=>[]}
noncomputable def abj (W B:Nat->Int):aX :={α:=Nat,pre:=λst i=>slot st.tmps 18=C (.int .i64 A (i:Int)),jx:=λ_ _=>0,fresh:=0,slots:=λ_ i=>[(10,.int .u32 A (ZZ (cj W B i)))],mem:=λ_ _=>[]}
noncomputable def LJ:List (FuncId×PT):=(149,aM xZ)::dW
noncomputable def Nu (b:Nat->Int):dK:={bE with cm:=λf=>ay f LJ,bh:=λf=>if f=148 then [(9,always (OS b))] else []}
def vX (b:Nat->Int):SV:=.agg [.int .u32 A (wL b 48 0),.int .u32 A (wL b 48 1),.int .u32 A (wL b 48 2),.int .u32 A (wL b 48 3),.int .u32 A (wL b 48 4),.int .u32 A (wL b 48 5),.int .u32 A (wL b 48 6),.int .u32 A (wL b 48 7),.int .u32 A (wL b 48 8),.int .u32 A (wL b 48 9),.int .u32 A (wL b 48 10),.int .u32 A (wL b 48 11),.int .u32 A (wL b 48 12),.int .u32 A (wL b 48 13),.int .u32 A (wL b 48 14),.int .u32 A (wL b 48 15),.int .u32 A (wL b 48 16),.int .u32 A (wL b 48 17),.int .u32 A (wL b 48 18),.int .u32 A (wL b 48 19),.int .u32 A (wL b 48 20),.int .u32 A (wL b 48 21),.int .u32 A (wL b 48 22),.int .u32 A (wL b 48 23),.int .u32 A (wL b 48 24),.int .u32 A (wL b 48 25),.int .u32 A (wL b 48 26),.int .u32 A (wL b 48 27),.int .u32 A (wL b 48 28),.int .u32 A (wL b 48 29),.int .u32 A (wL b 48 30),.int .u32 A (wL b 48 31),.int .u32 A (wL b 48 32),.int .u32 A (wL b 48 33),.int .u32 A (wL b 48 34),.int .u32 A (wL b 48 35),.int .u32 A (wL b 48 36),.int .u32 A (wL b 48 37),.int .u32 A (wL b 48 38),.int .u32 A (wL b 48 39),.int .u32 A (wL b 48 40),.int .u32 A (wL b 48 41),.int .u32 A (wL b 48 42),.int .u32 A (wL b 48 43),.int .u32 A (wL b 48 44),.int .u32 A (wL b 48 45),.int .u32 A (wL b 48 46),.int .u32 A (wL b 48 47),.int .u32 A (wL b 48 48),.int .u32 A (wL b 48 49),.int .u32 A (wL b 48 50),.int .u32 A (wL b 48 51),.int .u32 A (wL b 48 52),.int .u32 A (wL b 48 53),.int .u32 A (wL b 48 54),.int .u32 A (wL b 48 55),.int .u32 A (wL b 48 56),.int .u32 A (wL b 48 57),.int .u32 A (wL b 48 58),.int .u32 A (wL b 48 59),.int .u32 A (wL b 48 60),.int .u32 A (wL b 48 61),.int .u32 A (wL b 48 62),.int .u32 A (wL b 48 63)]
def uv:List SV->Option (Sh->Prop×(Unit->Prop×SV×Sh))
 | [.slc 0 8 64 _ 64]=>C λx=>(x.Ok,λ_=>(True,vX x.B,x))
 | _=>O
noncomputable def Uv:List (FuncId×PT):=(148,pS Sh.sb uv)::LJ
noncomputable def EL (W B:Nat->Int):dK:={bE with cm:=λf=>ay f Uv,bh:=λf=>if f=97 then [(3,always (OQ W B)),(1006,always (abi W B)),(1007,always (abj W B))] else []}
def F0:List SV->Option (Sh->Prop×(Unit->Prop×SV×Sh))
 | [.ptr 0 F 0,.slc 0 8 64 _ 64]=>C λx=>(x.Ok,λ_=>(True,.aD [],{x with W:=kz x.W x.B}))
 | _=>O
noncomputable def q7 (cfg:dK)(f:Nat)(fn:Func)(args:List SV)(sb:G->SB)(x:G)(g:H->Prop×SV×G):VC:=fL S (calling S cfg 20) [] zq (cfg.bh f) cfg.rounds fn args [(0,sb x)] 1 (λv m _=>Kn sb g v m)
theorem Wv (x:Int)(R:SV->Prop):VC.holds (cA bE 149 V [.int .u32 A x,.int .i64 F 2] R)=(((0<=x*1073741824% 4294967296/\x*1073741824% 4294967296<=(4294967295:Int)/\0<=x / 4/\x / 4<=(4294967295:Int))/\R (SV.int .u32 A (bitsOf M (x*1073741824% 4294967296) (x / 4))))):=by kernel_rfl
theorem Ww (x:Int)(R:SV->Prop):VC.holds (cA bE 149 V [.int .u32 A x,.int .i64 F 6] R)=(((0<=x*67108864% 4294967296/\x*67108864% 4294967296<=(4294967295:Int)/\0<=x / 64/\x / 64<=(4294967295:Int))/\R (SV.int .u32 A (bitsOf M (x*67108864% 4294967296) (x / 64))))):=by kernel_rfl
theorem Wx (x:Int)(R:SV->Prop):VC.holds (cA bE 149 V [.int .u32 A x,.int .i64 F 7] R)=(((0<=x*33554432% 4294967296/\x*33554432% 4294967296<=(4294967295:Int)/\0<=x / 128/\x / 128<=(4294967295:Int))/\R (SV.int .u32 A (bitsOf M (x*33554432% 4294967296) (x / 128))))):=by kernel_rfl
theorem Ru (x:Int)(R:SV->Prop):VC.holds (cA bE 149 V [.int .u32 A x,.int .i64 F 11] R)=(((0<=x*2097152% 4294967296/\x*2097152% 4294967296<=(4294967295:Int)/\0<=x / 2048/\x / 2048<=(4294967295:Int))/\R (SV.int .u32 A (bitsOf M (x*2097152% 4294967296) (x / 2048))))):=by kernel_rfl
theorem Rv (x:Int)(R:SV->Prop):VC.holds (cA bE 149 V [.int .u32 A x,.int .i64 F 13] R)=(((0<=x*524288% 4294967296/\x*524288% 4294967296<=(4294967295:Int)/\0<=x / 8192/\x / 8192<=(4294967295:Int))/\R (SV.int .u32 A (bitsOf M (x*524288% 4294967296) (x / 8192))))):=by kernel_rfl
theorem Rw (x:Int)(R:SV->Prop):VC.holds (cA bE 149 V [.int .u32 A x,.int .i64 F 17] R)=(((0<=x*32768% 4294967296/\x*32768% 4294967296<=(4294967295:Int)/\0<=x / 131072/\x / 131072<=(4294967295:Int))/\R (SV.int .u32 A (bitsOf M (x*32768% 4294967296) (x / 131072))))):=by kernel_rfl
theorem Rx (x:Int)(R:SV->Prop):VC.holds (cA bE 149 V [.int .u32 A x,.int .i64 F 18] R)=(((0<=x*16384% 4294967296/\x*16384% 4294967296<=(4294967295:Int)/\0<=x / 262144/\x / 262144<=(4294967295:Int))/\R (SV.int .u32 A (bitsOf M (x*16384% 4294967296) (x / 262144))))):=by kernel_rfl
theorem Ry (x:Int)(R:SV->Prop):VC.holds (cA bE 149 V [.int .u32 A x,.int .i64 F 19] R)=(((0<=x*8192% 4294967296/\x*8192% 4294967296<=(4294967295:Int)/\0<=x / 524288/\x / 524288<=(4294967295:Int))/\R (SV.int .u32 A (bitsOf M (x*8192% 4294967296) (x / 524288))))):=by kernel_rfl
theorem Rz (x:Int)(R:SV->Prop):VC.holds (cA bE 149 V [.int .u32 A x,.int .i64 F 22] R)=(((0<=x*1024% 4294967296/\x*1024% 4294967296<=(4294967295:Int)/\0<=x / 4194304/\x / 4194304<=(4294967295:Int))/\R (SV.int .u32 A (bitsOf M (x*1024% 4294967296) (x / 4194304))))):=by kernel_rfl
theorem RA (x:Int)(R:SV->Prop):VC.holds (cA bE 149 V [.int .u32 A x,.int .i64 F 25] R)=(((0<=x*128% 4294967296/\x*128% 4294967296<=(4294967295:Int)/\0<=x / 33554432/\x / 33554432<=(4294967295:Int))/\R (SV.int .u32 A (bitsOf M (x*128% 4294967296) (x / 33554432))))):=by kernel_rfl
theorem WC (x:Sh):VC.holds (q7 (Nu x.B) 148 az [.slc 0 8 64 F 64] Sh.sb x (λ_:Unit=>(True,vX x.B,x)))=((λd:SB=>((λb:Nat->Int=>((λc:Nat->Int=>((wO (λi r=>(0<=x.B (4*i)/\x.B (4*i)<=4294967295)/\(0<=x.B (4*i+1)/\x.B (4*i+1)<=4294967295)/\(0<=x.B (4*i)*16777216% 4294967296/\x.B (4*i)*16777216% 4294967296<=(4294967295:Int)/\0<=x.B (4*i+1)*65536% 4294967296/\x.B (4*i+1)*65536% 4294967296<=(4294967295:Int))/\(0<=x.B (4*i+2)/\x.B (4*i+2)<=4294967295)/\(0<=bitsOf M (x.B (4*i)*16777216% 4294967296) (x.B (4*i+1)*65536% 4294967296)/\bitsOf M (x.B (4*i)*16777216% 4294967296) (x.B (4*i+1)*65536% 4294967296)<=4294967295/\0<=x.B (4*i+2)*256% 4294967296/\x.B (4*i+2)*256% 4294967296<=(4294967295:Int))/\(0<=x.B (4*i+3)/\x.B (4*i+3)<=4294967295)/\(0<=bitsOf M (bitsOf M (x.B (4*i)*16777216% 4294967296) (x.B (4*i+1)*65536% 4294967296)) (x.B (4*i+2)*256% 4294967296)/\bitsOf M (bitsOf M (x.B (4*i)*16777216% 4294967296) (x.B (4*i+1)*65536% 4294967296)) (x.B (4*i+2)*256% 4294967296)<=4294967295/\0<=x.B (4*i+3)/\x.B (4*i+3)<=4294967295)/\r) 0 16 ((∃(e:Nat),e<=48/\(16:Int)=16+(e:Int)/\ah (SB.cells (bG (λi=>SV.int .u32 A (bitsOf M (bitsOf M (bitsOf M (x.B (4*i)*16777216% 4294967296) (x.B (4*i+1)*65536% 4294967296)) (x.B (4*i+2)*256% 4294967296)) (x.B (4*i+3)))) (Zp (λ_=>SV.int .u32 F 0) (Zp (λ_=>SV.int .u32 F 0) (K14 (λ_=>SV.int .u32 F 0) [])))) 64 234) (SB.rows A 64 [aE.int ag (wL x.B e)] A 64 234)/\ah d d/\ah x.sb x.sb/\True)/\∀(a:Nat),a<=48->(Q (16+(a:Int)<64)=F->I6 (16+(a:Int) - 15)/\((0:Int)<=16+(a:Int) - 15/\16+(a:Int) - 15<(64:Int))/\((16+(a:Int) - 15).toNat<64/\0+(16+(a:Int) - 15).toNat<64)/\I6 (16+(a:Int) - 2)/\((0:Int)<=16+(a:Int) - 2/\16+(a:Int) - 2<(64:Int))/\((16+(a:Int) - 2).toNat<64/\0+(16+(a:Int) - 2).toNat<64)/\(0<=wL x.B a (0+(16+(a:Int) - 15).toNat)/\wL x.B a (0+(16+(a:Int) - 15).toNat)<=4294967295)/\(0<=wL x.B a (0+(16+(a:Int) - 15).toNat)/\wL x.B a (0+(16+(a:Int) - 15).toNat)<=4294967295)/\(0<=bU (b a) 7/\bU (b a) 7<=(4294967295:Int)/\0<=bU (b a) 18/\bU (b a) 18<=(4294967295:Int))/\(0<=bitsOf J (bU (b a) 7) (bU (b a) 18)/\bitsOf J (bU (b a) 7) (bU (b a) 18)<=4294967295/\0<=wL x.B a (0+(16+(a:Int) - 15).toNat) / 8/\wL x.B a (0+(16+(a:Int) - 15).toNat) / 8<=(4294967295:Int))/\(0<=wL x.B a (0+(16+(a:Int) - 2).toNat)/\wL x.B a (0+(16+(a:Int) - 2).toNat)<=4294967295)/\(0<=wL x.B a (0+(16+(a:Int) - 2).toNat)/\wL x.B a (0+(16+(a:Int) - 2).toNat)<=4294967295)/\(0<=bU (c a) 17/\bU (c a) 17<=(4294967295:Int)/\0<=bU (c a) 19/\bU (c a) 19<=(4294967295:Int))/\(0<=bitsOf J (bU (c a) 17) (bU (c a) 19)/\bitsOf J (bU (c a) 17) (bU (c a) 19)<=4294967295/\0<=wL x.B a (0+(16+(a:Int) - 2).toNat) / 1024/\wL x.B a (0+(16+(a:Int) - 2).toNat) / 1024<=(4294967295:Int))/\I6 (16+(a:Int) - 16)/\((0:Int)<=16+(a:Int) - 16/\16+(a:Int) - 16<(64:Int))/\((16+(a:Int) - 16).toNat<64/\0+(16+(a:Int) - 16).toNat<64)/\I6 (16+(a:Int) - 7)/\((0:Int)<=16+(a:Int) - 7/\16+(a:Int) - 7<(64:Int))/\((16+(a:Int) - 7).toNat<64/\0+(16+(a:Int) - 7).toNat<64)/\((0:Int)<=16+(a:Int)/\16+(a:Int)<64)/\((16+(a:Int)).toNat<64/\0+(16+(a:Int)).toNat<64)/\I6 (16+(a:Int)+1)/\∃(u2:Nat),(u2<=48/\48 - u2<48 - a)/\16+(a:Int)+1=16+(u2:Int)/\ah (SB.rows A 64 [aE.int ag fun(f:Nat)=>if f=0+(16+(a:Int)).toNat then(((wL x.B a (0+(16+(a:Int) - 16).toNat)+bitsOf J (bitsOf J (bU (b a) 7) (bU (b a) 18)) (wL x.B a (0+(16+(a:Int) - 15).toNat) / 8))% 4294967296+wL x.B a (0+(16+(a:Int) - 7).toNat))% 4294967296+bitsOf J (bitsOf J (bU (c a) 17) (bU (c a) 19)) (wL x.B a (0+(16+(a:Int) - 2).toNat) / 1024))% 4294967296 else wL x.B a f] A 64 234) (SB.rows A 64 [aE.int ag (wL x.B u2)] A 64 234)/\ah d d/\ah x.sb x.sb/\True)/\(Q (16+(a:Int)<64)=A->(64:Nat)<=(64:Nat)/\∃(_u0:Unit),True/\ah x.sb x.sb/\aa (SV.agg (uD (λi=>aE.at i (aE.int ag (wL x.B a))) [])) (vX x.B)))))) (fun(a:Nat)=>(wL x.B a (0+(16+(a:Int) - 2).toNat))))) (fun(a:Nat)=>(wL x.B a (0+(16+(a:Int) - 15).toNat))))) (SB.cells (SV.agg (uD (λ_=>SV.int .u32 F 0) [])).cells 64 234)):=by kernel_rfl
theorem ads (x:Sh):VC.holds (q7 (EL x.W x.B) 97 aK [.ptr 0 F 0,.slc 0 8 64 F 64] Sh.sb x (λ_:Unit=>(True,.aD [],{x with W:=kz x.W x.B})))=((λf:Nat->SV=>((λn:Nat->SV=>((λe:Nat->(Sh)->SV=>((λo:Nat->(Sh)->SV=>((λq:Nat->(Sh)->SV=>((λr:Nat->(Nat)->SV=>((λs:Nat->(Nat)->SV=>((λt:Nat->(Nat)->SV=>((λg:Nat->(Sh)->(Nat)->SV=>((λh:Nat->SV=>((λb:Nat->SB=>((λd:SB=>((∃(c:Sh),ah (SB.cells (f 0::f 1::f 2::f 3::f 4::f 5::f 6::f 7::uD n [SV.int .i64 A x.held,SV.int .u64 A x.size]) 74 171) (SB.cells (e 0 c::e 1 c::e 2 c::e 3 c::e 4 c::e 5 c::e 6 c::e 7 c::uD (λi=>o i c) [SV.int .i64 A c.held,SV.int .u64 A c.size]) 74 171) /\c.Ok/\∀(_u8:Unit),True->(∃(l:Nat),l<=64/\0=(l:Int)/\ah (SB.cells (uD (λi=>q i c) []) 64 234) d/\ah (SB.cells (K8 (λi=>e i c) []) 8 168) (SB.cells (K8 (λi=>r i l) []) 8 168)/\ah c.sb c.sb/\True)/\∀(a:Nat),a<=64->(Q ((a:Int)<64)=F->((0<=cj x.W x.B a 4/\cj x.W x.B a 4<=4294967295/\0<=cj x.W x.B a 5/\cj x.W x.B a 5<=4294967295)/\((0:Int)<=(4294967295:Int)/\(4294967295:Int)<=(4294967295:Int) /\0<=cj x.W x.B a 4/\cj x.W x.B a 4<=4294967295)/\(0<=bitsOf J 4294967295 (cj x.W x.B a 4)/\bitsOf J 4294967295 (cj x.W x.B a 4)<=4294967295/\0<=cj x.W x.B a 6/\cj x.W x.B a 6<=4294967295)/\(0<=bitsOf L (cj x.W x.B a 4) (cj x.W x.B a 5)/\bitsOf L (cj x.W x.B a 4) (cj x.W x.B a 5)<=4294967295/\0<=bitsOf L (bitsOf J 4294967295 (cj x.W x.B a 4)) (cj x.W x.B a 6)/\bitsOf L (bitsOf J 4294967295 (cj x.W x.B a 4)) (cj x.W x.B a 6)<=4294967295)/\(0<=(a:Int)/\(a:Int)<64)/\(a:Int).toNat<64/\(0<=(a:Int)/\(a:Int)<64)/\((a:Int).toNat<64/\0+(a:Int).toNat<64)/\(0<=cj x.W x.B a 4/\cj x.W x.B a 4<=4294967295)/\C d=C d/\C (b a)=C (b a)/\C (b a)=C (b a)/\C (b a)=C (b a)/\(0<=cj x.W x.B a 4/\cj x.W x.B a 4<=4294967295)/\C d=C d/\C (b a)=C (b a)/\C (b a)=C (b a)/\C (b a)=C (b a)/\(0<=bU (cj x.W x.B a 4) 6/\bU (cj x.W x.B a 4) 6<=(4294967295:Int)/\0<=bU (cj x.W x.B a 4) 11 /\bU (cj x.W x.B a 4) 11<=(4294967295:Int))/\(0<=cj x.W x.B a 4/\cj x.W x.B a 4<=4294967295)/\C d=C d/\C (b a)=C (b a)/\C (b a)=C (b a)/\C (b a)=C (b a)/\(0<=bitsOf J (bU (cj x.W x.B a 4) 6) (bU (cj x.W x.B a 4) 11)/\bitsOf J (bU (cj x.W x.B a 4) 6) (bU (cj x.W x.B a 4) 11)<=4294967295/\0<=bU (cj x.W x.B a 4) 25/\bU (cj x.W x.B a 4) 25<=(4294967295:Int))/\∃(m:Nat),C (SV.int .i64 A (a:Int))=C (SV.int .i64 A (m:Int)) /\((((cj x.W x.B a 7+bitsOf J (bitsOf J (bU (cj x.W x.B a 4) 6) (bU (cj x.W x.B a 4) 11)) (bU (cj x.W x.B a 4) 25))% 4294967296+bitsOf J (bitsOf L (cj x.W x.B a 4) (cj x.W x.B a 5)) (bitsOf L (bitsOf J 4294967295 (cj x.W x.B a 4)) (cj x.W x.B a 6)))% 4294967296+zu Hl (a:Int).toNat)% 4294967296+wL x.B 48 (0+(a:Int).toNat))% 4294967296=RL (cj x.W x.B m) (ER m) (wL x.B 48 m) /\ah d d/\ah (b a) (b a)/\ah c.sb c.sb/\True)/\∀(j:Nat),C (SV.int .i64 A (a:Int))=C (SV.int .i64 A (j:Int))->((0<=cj x.W x.B a 0/\cj x.W x.B a 0<=4294967295/\0<=cj x.W x.B a 1/\cj x.W x.B a 1<=4294967295)/\(0<=cj x.W x.B a 0/\cj x.W x.B a 0<=4294967295/\0<=cj x.W x.B a 2/\cj x.W x.B a 2<=4294967295)/\(0<=bitsOf L (cj x.W x.B a 0) (cj x.W x.B a 1)/\bitsOf L (cj x.W x.B a 0) (cj x.W x.B a 1)<=4294967295/\0<=bitsOf L (cj x.W x.B a 0) (cj x.W x.B a 2)/\bitsOf L (cj x.W x.B a 0) (cj x.W x.B a 2)<=4294967295)/\(0<=cj x.W x.B a 1/\cj x.W x.B a 1<=4294967295/\0<=cj x.W x.B a 2/\cj x.W x.B a 2<=4294967295)/\(0<=bitsOf J (bitsOf L (cj x.W x.B a 0) (cj x.W x.B a 1)) (bitsOf L (cj x.W x.B a 0) (cj x.W x.B a 2))/\bitsOf J (bitsOf L (cj x.W x.B a 0) (cj x.W x.B a 1)) (bitsOf L (cj x.W x.B a 0) (cj x.W x.B a 2))<=4294967295/\0<=bitsOf L (cj x.W x.B a 1) (cj x.W x.B a 2)/\bitsOf L (cj x.W x.B a 1) (cj x.W x.B a 2)<=4294967295)/\(0<=cj x.W x.B a 0 /\cj x.W x.B a 0<=4294967295)/\C (b a)=C (b a)/\C (b a)=C (b a)/\C (b a)=C (b a)/\C (b a)=C (b a)/\(0<=cj x.W x.B a 0/\cj x.W x.B a 0<=4294967295)/\C (b a)=C (b a)/\C (b a)=C (b a)/\C (b a)=C (b a)/\C (b a)=C (b a)/\(0<=bU (cj x.W x.B a 0) 2/\bU (cj x.W x.B a 0) 2<=(4294967295:Int)/\0<=bU (cj x.W x.B a 0) 13/\bU (cj x.W x.B a 0) 13<=(4294967295:Int))/\(0<=cj x.W x.B a 0/\cj x.W x.B a 0<=4294967295)/\C (b a)=C (b a)/\C (b a)=C (b a)/\C (b a)=C (b a)/\C (b a)=C (b a)/\(0<=bitsOf J (bU (cj x.W x.B a 0) 2) (bU (cj x.W x.B a 0) 13)/\bitsOf J (bU (cj x.W x.B a 0) 2) (bU (cj x.W x.B a 0) 13)<=4294967295/\0<=bU (cj x.W x.B a 0) 22/\bU (cj x.W x.B a 0) 22<=(4294967295:Int))/\∃(p:Nat),C (SV.int .i64 A (a:Int))=C (SV.int .i64 A (p:Int)) /\(bitsOf J (bitsOf J (bU (cj x.W x.B a 0) 2) (bU (cj x.W x.B a 0) 13)) (bU (cj x.W x.B a 0) 22)+bitsOf J (bitsOf J (bitsOf L (cj x.W x.B a 0) (cj x.W x.B a 1)) (bitsOf L (cj x.W x.B a 0) (cj x.W x.B a 2))) (bitsOf L (cj x.W x.B a 1) (cj x.W x.B a 2)))% 4294967296=ZZ (cj x.W x.B p)/\ah d d/\ah (b a) (b a)/\ah c.sb c.sb/\True)/\∀(u2:Nat),C (SV.int .i64 A (a:Int))=C (SV.int .i64 A (u2:Int))->I6 ((a:Int)+1)/\∃(k:Nat),(k<=64/\64 - k<64 - a)/\(a:Int)+1=(k:Int)/\ah d d /\ah (SB.cells [SV.int .u32 A ((RL (cj x.W x.B j) (ER j) (wL x.B 48 j)+ZZ (cj x.W x.B u2))% 4294967296),SV.int .u32 A (cj x.W x.B a 0),SV.int .u32 A (cj x.W x.B a 1),SV.int .u32 A (cj x.W x.B a 2),SV.int .u32 A ((cj x.W x.B a 3+RL (cj x.W x.B j) (ER j) (wL x.B 48 j))% 4294967296),SV.int .u32 A (cj x.W x.B a 4),SV.int .u32 A (cj x.W x.B a 5),SV.int .u32 A (cj x.W x.B a 6)] 8 168) (SB.cells (K8 (λi=>t i k) []) 8 168)/\ah c.sb c.sb/\True)/\(Q ((a:Int)<64)=A->∃(_u0:Unit),True /\ah (SB.cells (g 0 c a::g 1 c a::g 2 c a::g 3 c a::g 4 c a::g 5 c a::g 6 c a::g 7 c a::uD (λi=>o i c) [SV.int .i64 A c.held,SV.int .u64 A c.size]) 74 171) (SB.cells (h 0::h 1::h 2::h 3::h 4::h 5::h 6::h 7::uD n [SV.int .i64 A x.held,SV.int .u64 A x.size]) 74 171) /\aa (SV.aD []) (SV.aD []))))) (SB.rows A 64 [aE.int ag (wL x.B 48)] A 64 234))) (fun(a:Nat)=>(SB.cells (K8 (λi=>s i a) []) 8 168)))) (fun(n0:Nat)=>SV.int .u32 A (kz x.W x.B n0)))) (fun(n0:Nat) (c:Sh) (a:Nat)=>SV.int .u32 A ((c.W n0+cj x.W x.B a n0)% 4294967296)))) (fun(n0:Nat) (k:Nat)=>SV.int .u32 A (cj x.W x.B k n0)))) (fun(n0:Nat) (a:Nat)=>SV.int .u32 A (cj x.W x.B a n0)))) (fun(n0:Nat) (l:Nat)=>SV.int .u32 A (cj x.W x.B l n0)))) (fun(n0:Nat) (c:Sh)=>SV.int .u32 A (wL c.B 48 n0)))) (fun(n0:Nat) (c:Sh)=>SV.int .u8 A (c.B n0)))) (fun(n0:Nat) (c:Sh)=>SV.int .u32 A (c.W n0)))) (fun(n0:Nat)=>SV.int .u8 A (x.B n0)))) (fun(n0:Nat)=>SV.int .u32 A (x.W n0))):=by kernel_rfl
def U (a:Int):Prop:=0<=a/\a<=4294967295
theorem u2 (h:U a)(h':U b):0<=a/\a<=4294967295/\0<=b/\b<=4294967295:=⟨h.1,h.2,h'.1,h'.2⟩
theorem um (a:Int):U (a% 4294967296):=⟨by omega,by omega⟩
theorem ud (h:U a)(k:Nat)(hk:0<k):U (a / (k:Int)):=by obtain⟨h0,h1⟩:=h;have:=Int.ediv_le_self (b:=(k:Int)) h0;exact⟨Int.ediv_nonneg h0 (by omega),by omega⟩
theorem uM:U 4294967295:=⟨by decide,by decide⟩
theorem tc {op:BinOp}(hop:op=.and∨op=.or∨op=.xor)(ha:U a)(hb:U b):U (bitsOf op a b):=by
 obtain⟨a0,a1⟩:=ha;obtain⟨b0,b1⟩:=hb;have la:a.toNat<2^ 32:=by omega
 have lb:b.toNat<2^ 32:=by omega
 have h1:=Nat.and_lt_two_pow (n:=32) a.toNat lb;have h2:=Nat.or_lt_two_pow (n:=32) la lb;have h3:=Nat.xor_lt_two_pow (n:=32) la lb;rcases hop with rfl | rfl | rfl
 ·refine⟨aS _,?_⟩;show((a.toNat &&& b.toNat:Nat):Int)<=_;omega
 ·refine⟨aS _,?_⟩;show((a.toNat ||| b.toNat:Nat):Int)<=_;omega
 ·refine⟨aS _,?_⟩;show((a.toNat ^^^ b.toNat:Nat):Int)<=_;omega
theorem wg (ha:U a)(hb:U b):U (bitsOf .and a b):=tc (.inl rfl) ha hb
theorem wm (ha:U a)(hb:U b):U (bitsOf .xor a b):=tc (.inr (.inr rfl)) ha hb
theorem pZ {x:Int}(h:U x)(n:Int):U (bU x n):=tc (.inr (.inl rfl)) (um _) (ud h _ (Nat.pow_pos (by decide)))
theorem D6 {n:Int}(h:Yy n=F):n=2∨n=6∨n=7∨n=11∨n=13∨n=17∨n=18∨n=19∨n=22∨n=25:=by simpa [Yy] using h
theorem Vs:ax S 149 (aM xZ):=by
 refine cM (Eu (n:=20) (fn:=V) Tryz.func149 (by kernel_rfl) (by kernel_rfl) ?_);intro args p a h hp;unfold xZ at h;split at h
 ·rename_i x n;split at h
  ·rename_i hn;cases h;have hx:U x:=hp;rcases D6 hn with rfl | rfl | rfl | rfl | rfl | rfl | rfl | rfl | rfl | rfl
   ·exact⟨bE,[.int .u32 A x,.int .i64 F 2],fZ,λE=>rfl,rfl,rfl,av.of_eq (Wv x _) ⟨u2 (um _) (ud hx 4 (by decide)),λ_=>rfl⟩⟩
   ·exact⟨bE,[.int .u32 A x,.int .i64 F 6],fZ,λE=>rfl,rfl,rfl,av.of_eq (Ww x _) ⟨u2 (um _) (ud hx 64 (by decide)),λ_=>rfl⟩⟩
   ·exact⟨bE,[.int .u32 A x,.int .i64 F 7],fZ,λE=>rfl,rfl,rfl,av.of_eq (Wx x _) ⟨u2 (um _) (ud hx 128 (by decide)),λ_=>rfl⟩⟩
   ·exact⟨bE,[.int .u32 A x,.int .i64 F 11],fZ,λE=>rfl,rfl,rfl,av.of_eq (Ru x _) ⟨u2 (um _) (ud hx 2048 (by decide)),λ_=>rfl⟩⟩
   ·exact⟨bE,[.int .u32 A x,.int .i64 F 13],fZ,λE=>rfl,rfl,rfl,av.of_eq (Rv x _) ⟨u2 (um _) (ud hx 8192 (by decide)),λ_=>rfl⟩⟩
   ·exact⟨bE,[.int .u32 A x,.int .i64 F 17],fZ,λE=>rfl,rfl,rfl,av.of_eq (Rw x _) ⟨u2 (um _) (ud hx 131072 (by decide)),λ_=>rfl⟩⟩
   ·exact⟨bE,[.int .u32 A x,.int .i64 F 18],fZ,λE=>rfl,rfl,rfl,av.of_eq (Rx x _) ⟨u2 (um _) (ud hx 262144 (by decide)),λ_=>rfl⟩⟩
   ·exact⟨bE,[.int .u32 A x,.int .i64 F 19],fZ,λE=>rfl,rfl,rfl,av.of_eq (Ry x _) ⟨u2 (um _) (ud hx 524288 (by decide)),λ_=>rfl⟩⟩
   ·exact⟨bE,[.int .u32 A x,.int .i64 F 22],fZ,λE=>rfl,rfl,rfl,av.of_eq (Rz x _) ⟨u2 (um _) (ud hx 4194304 (by decide)),λ_=>rfl⟩⟩
   ·exact⟨bE,[.int .u32 A x,.int .i64 F 25],fZ,λE=>rfl,rfl,rfl,av.of_eq (RA x _) ⟨u2 (um _) (ud hx 33554432 (by decide)),λ_=>rfl⟩⟩
  ·cases h
 ·cases h
theorem DA:aQ S (λf=>ay f LJ):=.cons Vs (aG _) cW
theorem aa7 (b:Nat->Int):Sx.Good S (Nu b):=.of bz DA aU
theorem Sx.ah.VS {c:aE}{tot:Nat}{ty:TypeId}:ah (.cells (fU c 0 n) tot ty) (.rows A n [c] A tot ty):=by
 refine ah.of rfl rfl λ_=> ?_;refine⟨rfl,λE o ⟨cs,fr,h1,h2,h3,h4⟩=>⟨cs,fr,h1,λ_=>h2,?_,h4,λi k col hi hk=> ?_⟩,λ_=>rfl⟩
 ·cases n with
  | zero=>simp
  | succ m =>
    have hl:m<(fU c 0 (m+1)).length:=by rw[mK];omega
    have:=h3 m _ (a! hl);have:=(Array.getElem?_eq_some_iff.1 this).1;simp only[List.length_cons,List.length_nil];omega
 ·match k,hk with
  | 0,hk =>
    simp only[b5,Option.some.injEq] at hk;subst hk;have hl:i<(fU c 0 n).length:=by rw[mK];omega
    have h5:=h3 i _ (a! hl);have h6:=(qj c n 0 i _ (a! hl)).2;rw[h6,b_] at h5;simpa using h5
theorem Sx.ah.NP {z:Bool}{q:IntKind}{f g:Nat->Int}{tot:Nat}{ty:TypeId}(h: ∀ i,i<n->f i=g i):ah (.rows z n [.int q f] A tot ty) (.rows z n [.int q g] A tot ty):=by
 refine ah.of rfl rfl λhno=> ?_;refine⟨hno,λE o ⟨c,fr,h1,h2,h3,h4,h5⟩=>⟨c,fr,h1,h2,h3,h4,λi k col hi hk=> ?_⟩,λ_=>rfl⟩
 match k,hk with
 | 0,hk =>simp only[b5,Option.some.injEq] at hk;subst hk;have:=h5 i 0 (.int q f) hi rfl;simp only[aE.at,h i hi] at this;exact this
theorem Zl {b:Nat->Int}(hb: ∀ j,j<64->U (b j))(hj:j<16):U (El b j):=tc (.inr (.inl rfl)) (tc (.inr (.inl rfl)) (tc (.inr (.inl rfl)) (um _) (um _)) (um _)) (hb _ (by omega))
theorem wu (b:Nat->Int)(n j:Nat):wL b (n+1) j=if j=16+n then UO (wL b n (16+n - 16)) (wL b n (16+n - 15)) (wL b n (16+n - 7)) (wL b n (16+n - 2))else wL b n j:=rfl
theorem acy {b:Nat->Int}(hb: ∀ j,j<64->U (b j)): ∀(n j:Nat),U (wL b n j)
 | 0,j=>by
   unfold wL;split
   ·exact Zl hb (by assumption)
   ·exact⟨by decide,by decide⟩
 | n+1,j=>by
   unfold wL;split
   ·exact um _
   ·exact acy hb n j
theorem VY {W B:Nat->Int}(hW: ∀ j,j<8->U (W j)): ∀(i j:Nat),j<8->U (cj W B i j)
 | 0,j,hj=>hW j hj
 | i+1,j,hj=>by
   have ih:=VY (B:=B) hW i;unfold cj x5
   match j,hj with
   | 0,_=>exact um _
   | 1,_=>exact ih 0 (by decide)
   | 2,_=>exact ih 1 (by decide)
   | 3,_=>exact ih 2 (by decide)
   | 4,_=>exact um _
   | 5,_=>exact ih 4 (by decide)
   | 6,_=>exact ih 5 (by decide)
   | 7,_=>exact ih 6 (by decide)
theorem Sh.Ok.bu {x:Sh}(h:x.Ok)(j:Nat)(hj:j<64):U (x.B j):=by have:=h.b j hj;exact⟨this.1,by omega⟩
theorem GH {x:Sh}(hx:x.Ok):av (q7 (Nu x.B) 148 az [.slc 0 8 64 F 64] Sh.sb x (λ_:Unit=>(True,vX x.B,x))):=by
 refine av.of_eq (WC x) ?_;dsimp only;have hb:=hx.bu;have b: ∀ j,j<64->U (x.B j):=hb;refine wO.of (N:=16) (λi r hi hr=>⟨b _ (by omega),b _ (by omega),u2 (um _) (um _),b _ (by omega),u2 (tc (.inr (.inl rfl)) (um _) (um _)) (um _),b _ (by omega),u2 (tc (.inr (.inl rfl)) (tc (.inr (.inl rfl)) (um _) (um _)) (um _)) (b _ (by omega)),hr⟩) ⟨⟨0,by omega,rfl,Sx.ah.trans (Sx.ah.cells (cs':=fU (.int .u32 (wL x.B 0)) 0 64) (λE=>rfl) rfl) Sx.ah.VS,ah.refl _,ah.refl _,trivial⟩,λn hn=>⟨λa=> ?_,λa=> ?_⟩⟩ 16 0 (by decide)
 ·have a:=of_decide_eq_true a;have e15:0+(16+(n:Int) - 15).toNat=16+n - 15:=by omega
  have e2:0+(16+(n:Int) - 2).toNat=16+n - 2:=by omega
  have e7:0+(16+(n:Int) - 7).toNat=16+n - 7:=by omega
  have e16:0+(16+(n:Int) - 16).toNat=16+n - 16:=by omega
  have e0:0+(16+(n:Int)).toNat=16+n:=by omega
  have u:=acy hb n
  refine⟨by omega,by omega,by omega,by omega,by omega,by omega,u _,u _,u2 (pZ (u _) _) (pZ (u _) _),u2 (wm (pZ (u _) _) (pZ (u _) _)) (ud (u _) 8 (by decide)),u _,u _,u2 (pZ (u _) _) (pZ (u _) _),u2 (wm (pZ (u _) _) (pZ (u _) _)) (ud (u _) 1024 (by decide)),
   by omega,by omega,by omega,by omega,by omega,by omega,by omega,by omega,by omega,n+1,by omega,by omega,?_,ah.refl _,ah.refl _,trivial⟩
  refine Sx.ah.NP λj hj=> ?_;rw[e0];show _=wL x.B (n+1) j;by_cases ej:j=16+n
  ·rw[if_pos ej,wu,if_pos ej,e15,e2,e7,e16];rfl
  ·rw[if_neg ej,wu,if_neg ej]
 ·have a:=of_decide_eq_false a;have e:n=48:=by omega
  subst e;exact⟨by omega,(),trivial,ah.refl _,λ_=>rfl⟩
theorem Sh.ZU (x:Sh):(Sh.sb x).wf 0=F/\(Sh.sb x).ro=A/\(Sh.sb x).no=false:=⟨rfl,rfl,rfl⟩
theorem Q7:ax S 148 (pS Sh.sb uv):=by
 refine EB (n:=20) (fn:=az) Tryz.func148 (by kernel_rfl) (by kernel_rfl) Sh.ZU ?_;intro args g x h hp;unfold uv at h;split at h
 ·cases h;exact⟨Nu x.B,[.slc 0 8 64 F 64],aa7 _,λE=>rfl,rfl,λ_=>rfl,GH hp⟩
 ·cases h
theorem PO:aQ S (λf=>ay f Uv):=.cons Q7 (oD _ _) DA
theorem XG (W B:Nat->Int):Sx.Good S (EL W B):=.of bz PO aU
theorem PZ {x:Sh}(hx:x.Ok):av (q7 (EL x.W x.B) 97 aK [.ptr 0 F 0,.slc 0 8 64 F 64] Sh.sb x (λ_:Unit=>(True,.aD [],{x with W:=kz x.W x.B}))):=by
 refine av.of_eq (ads x) ?_;dsimp only;refine⟨x,ah.refl _,hx,λ_ _=>⟨⟨0,by omega,rfl,Sx.ah.trans (Sx.ah.cells (cs':=fU (.int .u32 (wL x.B 48)) 0 64) (λE=>rfl) rfl) Sx.ah.VS,ah.refl _,ah.refl _,trivial⟩,λi hi=>⟨λa=> ?_,λa=> ?_⟩⟩⟩
 ·have a:=of_decide_eq_true a;have u:=VY (B:=x.B) hx.w i;have u0:=u 0 (by decide);have u1:=u 1 (by decide);have u2':=u 2 (by decide);have u4:=u 4 (by decide);have u5:=u 5 (by decide);have u6:=u 6 (by decide);have r: ∀ {y:Int} (n:Int),U y->U (bU y n):=λn h=>pZ h n;refine⟨⟨u2 u4 u5,u2 uM u4,u2 (wm uM u4) u6,u2 (wg u4 u5) (wg (wm uM u4) u6),by omega,by omega,by omega,by omega,u4,rfl,rfl,rfl,rfl,u4,rfl,rfl,rfl,rfl,u2 (r _ u4) (r _ u4),u4,rfl,rfl,rfl,rfl,u2 (wm (r _ u4) (r _ u4)) (r _ u4),i,rfl,?_,ah.refl _,ah.refl _,ah.refl _,trivial⟩,λi1 h1 =>⟨⟨u2 u0 u1,u2 u0 u2',u2 (wg u0 u1) (wg u0 u2'),u2 u1 u2',u2 (wm (wg u0 u1) (wg u0 u2')) (wg u1 u2'),u0,rfl,rfl,rfl,rfl,u0,rfl,rfl,rfl,rfl,u2 (r _ u0) (r _ u0),u0,rfl,rfl,rfl,rfl,u2 (wm (r _ u0) (r _ u0)) (r _ u0),i,rfl,rfl,ah.refl _,ah.refl _,ah.refl _,trivial⟩,λi2 h2=>⟨by omega,i+1,by omega,by omega,ah.refl _,?_,ah.refl _,trivial⟩⟩⟩
  ·rw[a_,b_];rfl
  ·injection h1 with h1;injection h1 with _ _ h1;injection h2 with h2;injection h2 with _ _ h2;have e1:i1=i:=by omega
   have e2:i2=i:=by omega
   subst e1;subst e2;exact ah.refl _
 ·have a:=of_decide_eq_false a;have e:i=64:=by omega
  subst e;exact⟨(),trivial,ah.refl _,λ_=>rfl⟩
theorem abz:ax S 97 (pS Sh.sb F0):=by
 refine EB (n:=20) (fn:=aK) Tryz.func97 (by kernel_rfl) (by kernel_rfl) Sh.ZU ?_;intro args g x h hp;unfold F0 at h;split at h
 ·cases h;exact⟨EL x.W x.B,[.ptr 0 F 0,.slc 0 8 64 F 64],XG _ _,λE=>rfl,rfl,λ_=>rfl,PZ hp⟩
 ·cases h
noncomputable def Uw:List (FuncId×PT):=(97,pS Sh.sb F0)::dW
theorem PR:aQ S (λf=>ay f Uw):=.cons abz (oD _ _) cW
def HL (j:Nat):Int:=zu [1779033703,3144134277,1013904242,2773480762,1359893119,2600822924,528734635,1541459225] j
def uJ (T:e_)(q j:Nat):Int:=ai T ((64*q+j:Nat):Int)
def aC (T:e_):Nat->Nat->Int
 | 0=>HL
 | q+1=>kz (aC T q) (uJ T q)
structure p5 (x:Sh)(T:e_):Prop where
 ok:x.Ok
 w: ∀ j,j<8->x.W j=aC T (T.length / 64) j
 b: ∀ j,j<T.length% 64->x.B j=uJ T (T.length / 64) j
 h:x.held=((T.length% 64:Nat):Int)
def CE (x:Sh)(T:e_):Prop:=p5 x T/\x.size=(T.length:Int)% 18446744073709551616
noncomputable def Sf (T s:e_)(z:Int):aX :=
 {α:=Nat×Sh,pre:=λ_ x=>x.1<=s.length/\p5 x.2 (T++s.take x.1)/\x.2.size=z,jx:=λ_ x=>s.length - x.1,fresh:=0,slots:=λ_ x=>[(1,.str A (s.drop x.1))],
  mem:=λ_ x=>[(0,x.2.sb)]}
noncomputable def Nv (T s:e_)(z:Int):dK:={bE with cm:=λf=>ay f Uw,bh:=λf=>if f=60 then [(2,always (Sf T s z))] else []}
theorem aba (T s:e_)(z:Int):Sx.Good S (Nv T s z):=.of bz PR aU
def x9 (g:Sh×e_):SB:=g.1.sb
def ym:List SV->Option (Sh×e_->Prop×(Sh->Prop×SV×(Sh×e_)))
 | [.ptr 0 F 0,.str A s]=>C λg=>(CE g.1 g.2/\s.length<1152921504606846976,λy=>(CE y (g.2++s),.ptr 0 F 0,(y,g.2++s)))
 | _=>O
def mc (x:Sh)(D:e_):Sh :=⟨x.W,λj=>if 8+x.held.toNat - 8<=j/\j<8+x.held.toNat - 8+min D.length (64 - x.held.toNat)then((D.getD (j - (8+x.held.toNat - 8)) 0).toNat:Int)else x.B j,x.held+((min D.length (64 - x.held.toNat):Nat):Int),x.size⟩
theorem Zj (x:Sh)(T s:e_)(z:Int):VC.holds (q7 (Nv T s z) 60 aA [.ptr 0 F 0,.str A s] x9 (x,T) (λy:Sh=>(CE y (T++s),.ptr 0 F 0,(y,T++s))))=((λk:Nat->SV=>((λH:Nat->SV=>((λl:Nat->(Nat×Sh)->SV=>((λJ:Nat->(Nat×Sh)->SV=>((λd:Nat->(Nat×Sh)->SV=>((λK:Nat->(Nat×Sh)->SV=>((λm:Nat->(Sh)->SV=>((λw:Nat->(Sh)->SV=>((λn:Nat->(Sh)->SV=>((λo:Nat->(Nat×Sh)->SV=>((λL:Nat->(Nat×Sh)->SV=>((λp:Nat->(Nat×Sh)->SV=>((λM:Nat->(Nat×Sh)->SV=>((λN:Nat->(Nat×Sh)->SV=>((λq:Nat->(Sh)->SV=>((λD:Nat->(Sh)->SV=>((λr:Nat->(Sh)->SV=>((λt:Nat->(Nat×Sh)->SV=>((λP:Nat->(Nat×Sh)->SV=>((λu:Nat->(Nat×Sh)->SV=>((λQ:Nat->(Nat×Sh)->SV=>((λR:Nat->(Nat×Sh)->SV=>((λv:Nat->(Sh)->SV=>((λS:Nat->(Sh)->SV=>((λE:(Nat×Sh)->SB=>((λG:(Nat×Sh)->SB=>(((∃(h:Nat×Sh),(h.1<=s.length/\p5 h.2 (T++Z h.1 s)/\h.2.size=z)/\s=I h.1 s /\ah (SB.cells (k 0::k 1::k 2::k 3::k 4::k 5::k 6::k 7::uD H [SV.int .i64 A x.held,SV.int .u64 A ((x.size+(s.length:Int)% 18446744073709551616)% 18446744073709551616)]) 74 171) (SB.cells (l 0 h::l 1 h::l 2 h::l 3 h::l 4 h::l 5 h::l 6 h::l 7 h::uD (λi=>J i h) [SV.int .i64 A h.2.held,SV.int .u64 A h.2.size]) 74 171) /\True)/\∀(a:Nat×Sh),a.1<=s.length/\p5 a.2 (T++Z a.1 s)/\a.2.size=z->Bk (!decide (I a.1 s=[])) ((0<=a.2.held/\a.2.held<=64/\(64:Int)<=(64:Int))/\Fk (64=a.2.held.toNat) (((8:Nat)<=(8:Nat)/\8+(64 - a.2.held.toNat)<=8+(64:Nat))/\((-9223372036854775808:Int)<=a.2.held+(↑(min (I a.1 s).length (64 - a.2.held.toNat)):Int)/\a.2.held+(↑(min (I a.1 s).length (64 - a.2.held.toNat)):Int)<=9223372036854775807)/\(0<=(↑(min (I a.1 s).length (64 - a.2.held.toNat)):Int)/\(↑(min (I a.1 s).length (64 - a.2.held.toNat)):Int)<=(↑(I a.1 s).length:Int)/\(↑(I a.1 s).length:Int)<=(↑(I a.1 s).length:Int))/\Fk (a.2.held+(↑(min (I a.1 s).length (64 - a.2.held.toNat)):Int)=64) (∃(b:Sh),ah (G a) (SB.cells (m 0 b::m 1 b::m 2 b::m 3 b::m 4 b::m 5 b::m 6 b::m 7 b::uD (λi=>w i b) [SV.int .i64 A b.held,SV.int .u64 A b.size]) 74 171)/\b.Ok/\∀(_:Unit),True->∃(e:Nat×Sh),((e.1<=s.length/\p5 e.2 (T++Z e.1 s)/\e.2.size=z)/\s.length - e.1<s.length - a.1)/\aB (I a.1 s) (C (an 37)) O (↑(min (I a.1 s).length (64 - a.2.held.toNat)):Int) (↑(I a.1 s).length:Int)=I e.1 s /\ah (SB.cells (n 0 b::n 1 b::n 2 b::n 3 b::n 4 b::n 5 b::n 6 b::n 7 b::uD (λi=>w i b) [SV.int .i64 F 0,SV.int .u64 A b.size]) 74 171) (SB.cells (o 0 e::o 1 e::o 2 e::o 3 e::o 4 e::o 5 e::o 6 e::o 7 e::uD (λi=>L i e) [SV.int .i64 A e.2.held,SV.int .u64 A e.2.size]) 74 171) /\True) (∃(f:Nat×Sh),((f.1<=s.length/\p5 f.2 (T++Z f.1 s)/\f.2.size=z)/\s.length - f.1<s.length - a.1)/\aB (I a.1 s) (C (an 37)) O (↑(min (I a.1 s).length (64 - a.2.held.toNat)):Int) (↑(I a.1 s).length:Int)=I f.1 s /\ah (G a) (SB.cells (p 0 f::p 1 f::p 2 f::p 3 f::p 4 f::p 5 f::p 6 f::p 7 f::uD (λi=>M i f) [SV.int .i64 A f.2.held,SV.int .u64 A f.2.size]) 74 171)/\True)) (((8:Nat)<=8+a.2.held.toNat/\8+a.2.held.toNat+(64 - a.2.held.toNat)<=8+(64:Nat))/\((-9223372036854775808:Int)<=a.2.held+(↑(min (I a.1 s).length (64 - a.2.held.toNat)):Int) /\a.2.held+(↑(min (I a.1 s).length (64 - a.2.held.toNat)):Int)<=9223372036854775807)/\(0<=(↑(min (I a.1 s).length (64 - a.2.held.toNat)):Int)/\(↑(min (I a.1 s).length (64 - a.2.held.toNat)):Int)<=(↑(I a.1 s).length:Int)/\(↑(I a.1 s).length:Int)<=(↑(I a.1 s).length:Int))/\Fk (a.2.held+(↑(min (I a.1 s).length (64 - a.2.held.toNat)):Int)=64) (∃(c:Sh),ah (E a) (SB.cells (q 0 c::q 1 c::q 2 c::q 3 c::q 4 c::q 5 c::q 6 c::q 7 c::uD (λi=>D i c) [SV.int .i64 A c.held,SV.int .u64 A c.size]) 74 171)/\c.Ok/\∀(_:Unit),True->∃(u2:Nat×Sh),((u2.1<=s.length/\p5 u2.2 (T++Z u2.1 s)/\u2.2.size=z)/\s.length - u2.1<s.length - a.1) /\aB (I a.1 s) (C (an 37)) O (↑(min (I a.1 s).length (64 - a.2.held.toNat)):Int) (↑(I a.1 s).length:Int)=I u2.1 s /\ah (SB.cells (r 0 c::r 1 c::r 2 c::r 3 c::r 4 c::r 5 c::r 6 c::r 7 c::uD (λi=>D i c) [SV.int .i64 F 0,SV.int .u64 A c.size]) 74 171) (SB.cells (t 0 u2::t 1 u2::t 2 u2::t 3 u2::t 4 u2::t 5 u2::t 6 u2::t 7 u2::uD (λi=>P i u2) [SV.int .i64 A u2.2.held,SV.int .u64 A u2.2.size]) 74 171) /\True) (∃(g:Nat×Sh),((g.1<=s.length/\p5 g.2 (T++Z g.1 s)/\g.2.size=z)/\s.length - g.1<s.length - a.1)/\aB (I a.1 s) (C (an 37)) O (↑(min (I a.1 s).length (64 - a.2.held.toNat)):Int) (↑(I a.1 s).length:Int)=I g.1 s /\ah (E a) (SB.cells (u 0 g::u 1 g::u 2 g::u 3 g::u 4 g::u 5 g::u 6 g::u 7 g::uD (λi=>Q i g) [SV.int .i64 A g.2.held,SV.int .u64 A g.2.size]) 74 171)/\True))) (∃(j:Sh),CE j (T++s) /\ah (SB.cells (d 0 a::d 1 a::d 2 a::d 3 a::d 4 a::d 5 a::d 6 a::d 7 a::uD (λi=>R i a) [SV.int .i64 A a.2.held,SV.int .u64 A a.2.size]) 74 171) (SB.cells (v 0 j::v 1 j::v 2 j::v 3 j::v 4 j::v 5 j::v 6 j::v 7 j::uD (λi=>S i j) [SV.int .i64 A j.held,SV.int .u64 A j.size]) 74 171) /\aa (SV.ptr 0 F 0) (SV.ptr 0 F 0))))) (fun(a:Nat×Sh)=>(SB.cells (d 0 a::d 1 a::d 2 a::d 3 a::d 4 a::d 5 a::d 6 a::d 7 a::uD (λi=>K i a) [SV.int .i64 A (a.2.held+(↑(min (I a.1 s).length (64 - a.2.held.toNat)):Int)),SV.int .u64 A a.2.size]) 74 171)))) (fun(a:Nat×Sh)=>(SB.cells (d 0 a::d 1 a::d 2 a::d 3 a::d 4 a::d 5 a::d 6 a::d 7 a::uD (λi=>N i a) [SV.int .i64 A (a.2.held+(↑(min (I a.1 s).length (64 - a.2.held.toNat)):Int)),SV.int .u64 A a.2.size]) 74 171)))) (fun(n0:Nat) (j:Sh)=>SV.int .u8 A (j.B n0)))) (fun(n0:Nat) (j:Sh)=>SV.int .u32 A (j.W n0)))) (fun(n0:Nat) (a:Nat×Sh)=>SV.int .u8 A (a.2.B n0)))) (fun(n0:Nat) (g:Nat×Sh)=>SV.int .u8 A (g.2.B n0)))) (fun(n0:Nat) (g:Nat×Sh)=>SV.int .u32 A (g.2.W n0)))) (fun(n0:Nat) (u2:Nat×Sh)=>SV.int .u8 A (u2.2.B n0)))) (fun(n0:Nat) (u2:Nat×Sh)=>SV.int .u32 A (u2.2.W n0)))) (fun(n0:Nat) (c:Sh)=>SV.int .u32 A (kz c.W c.B n0)))) (fun(n0:Nat) (c:Sh)=>SV.int .u8 A (c.B n0)))) (fun(n0:Nat) (c:Sh)=>SV.int .u32 A (c.W n0)))) (fun(n0:Nat) (a:Nat×Sh)=>SV.int .u8 A (if 8+a.2.held.toNat - 8<=(n0:Nat)/\(n0:Nat)<8+a.2.held.toNat - 8+min (I a.1 s).length (64 - a.2.held.toNat)then(↑((I a.1 s).getD (n0 - (8+a.2.held.toNat - 8)) (0:UInt8)).toNat:Int)else a.2.B n0)))) (fun(n0:Nat) (f:Nat×Sh)=>SV.int .u8 A (f.2.B n0)))) (fun(n0:Nat) (f:Nat×Sh)=>SV.int .u32 A (f.2.W n0)))) (fun(n0:Nat) (e:Nat×Sh)=>SV.int .u8 A (e.2.B n0)))) (fun(n0:Nat) (e:Nat×Sh)=>SV.int .u32 A (e.2.W n0)))) (fun(n0:Nat) (b:Sh)=>SV.int .u32 A (kz b.W b.B n0)))) (fun(n0:Nat) (b:Sh)=>SV.int .u8 A (b.B n0)))) (fun(n0:Nat) (b:Sh)=>SV.int .u32 A (b.W n0)))) (fun(n0:Nat) (a:Nat×Sh)=>SV.int .u8 A (if(0:Nat)<=(n0:Nat)/\(n0:Nat)<0+min (I a.1 s).length (64 - a.2.held.toNat)then(↑((I a.1 s).getD n0 (0:UInt8)).toNat:Int)else a.2.B n0)))) (fun(n0:Nat) (a:Nat×Sh)=>SV.int .u32 A (a.2.W n0)))) (fun(n0:Nat) (h:Nat×Sh)=>SV.int .u8 A (h.2.B n0)))) (fun(n0:Nat) (h:Nat×Sh)=>SV.int .u32 A (h.2.W n0)))) (fun(n0:Nat)=>SV.int .u8 A (x.B n0)))) (fun(n0:Nat)=>SV.int .u32 A (x.W n0))):=by kernel_rfl
theorem J0 {B B':Nat->Int}(h: ∀ j,j<64->B j=B' j): ∀(n j:Nat),wL B n j=wL B' n j
 | 0,j=>by
   unfold wL;by_cases e:j<16
   ·simp only[e,if_true,El,h (4*j) (by omega),h (4*j+1) (by omega),h (4*j+2) (by omega),h (4*j+3) (by omega)]
   ·simp only[e,if_false]
 | n+1,j=>by simp only[wu,J0 h n]
theorem Gu {v v':Nat->Int}(h: ∀ j,j<8->v j=v' j)(k w:Int): ∀ j,j<8->x5 v k w j=x5 v' k w j:=by
 have h0:=h 0 (by decide);have h1:=h 1 (by decide);have h2:=h 2 (by decide);have h3:=h 3 (by decide);have h4:=h 4 (by decide);have h5:=h 5 (by decide);have h6:=h 6 (by decide);have h7:=h 7 (by decide);intro j hj
 match j,hj with
 | 0,_=>simp only[x5,RL,ZZ,h0,h1,h2,h4,h5,h6,h7]
 | 1,_=>exact h0
 | 2,_=>exact h1
 | 3,_=>exact h2
 | 4,_=>simp only[x5,RL,h3,h4,h5,h6,h7]
 | 5,_=>exact h4
 | 6,_=>exact h5
 | 7,_=>exact h6
theorem yf {W W' B B':Nat->Int}(hW: ∀ j,j<8->W j=W' j)(hB: ∀ j,j<64->B j=B' j): ∀ i j,j<8->cj W B i j=cj W' B' i j
 | 0,j,hj=>hW j hj
 | i+1,j,hj=>by simp only[cj];rw[Gu (yf hW hB i) _ _ j hj,J0 hB]
theorem Bh {W W' B B':Nat->Int}(hW: ∀ j,j<8->W j=W' j)(hB: ∀ j,j<64->B j=B' j)(j:Nat)(hj:j<8):kz W B j=kz W' B' j:=by simp only[kz,hW j hj,yf hW hB 64 j hj]
theorem uK (T:e_)(q j:Nat):uJ T q j=((T.getD (64*q+j) 0).toNat:Int):=by unfold uJ ai;rw[a_]
theorem z8 (D:e_){q:Nat}(h:64*q+j<T.length):uJ (T++D) q j=uJ T q j:=by rw[uK,uK,Y,Y,List.getElem?_append_left h]
theorem G5 (D:e_){q:Nat}(h:T.length<=64*q+j):uJ (T++D) q j=((D.getD (64*q+j - T.length) 0).toNat:Int):=by rw[uK,Y,Y,List.getElem?_append_right h]
theorem pP (T D:e_): ∀ q,64*q<=T.length->∀ j,j<8->aC (T++D) q j=aC T q j
 | 0,_,_,_=>rfl
 | q+1,h,j,hj=>by simp only[aC];exact Bh (pP T D q (by omega)) (λi hi=>z8 D (by omega)) j hj
theorem aby {W B:Nat->Int}(j:Nat):U (kz W B j):=um _
theorem TF (D:e_)(i:Nat):0<=((D.getD i 0).toNat:Int)/\((D.getD i 0).toNat:Int)<=255:=by have:=(D.getD i 0).toNat_lt;omega
theorem getD_take {i:Nat}(h:i<n):(D.take n).getD i 0=D.getD i 0:=by rw[Y,Y,List.getElem?_take_of_lt h]
theorem Mo {x:Sh}(h:p5 x T)(D:e_):(mc x D).Ok:=by
 refine⟨h.ok.w,λj hj=> ?_⟩;unfold mc;simp only;split
 ·exact TF _ _
 ·exact h.ok.b j hj
theorem ZQ {x:Sh}(h:p5 x T)(j:Nat)(hj:j<T.length% 64+min D.length (64 - T.length% 64)):(mc x D).B j=uJ (T++D.take (min D.length (64 - T.length% 64))) (T.length / 64) j:=by
 have hh:=h.h;have e:x.held.toNat=T.length% 64:=by omega
 unfold mc;simp only[e];have hd:=bn T.length 64;by_cases c:j<T.length% 64
 ·rw[if_neg (by omega),h.b j c,z8 _ (by omega)]
 ·rw[if_pos (by omega),G5 _ (by omega),getD_take (by omega)];congr 3;omega
theorem Vc {x:Sh}(h:p5 x T)(hc:T.length% 64+min D.length (64 - T.length% 64)<64):p5 (mc x D) (T++D.take (min D.length (64 - T.length% 64))):=by
 have hl:(T++D.take (min D.length (64 - T.length% 64))).length=T.length+min D.length (64 - T.length% 64):=by rw[bl,b9];omega
 have hd:=bn T.length 64;have e1:(T++D.take (min D.length (64 - T.length% 64))).length / 64=T.length / 64:=by omega
 have e2:(T++D.take (min D.length (64 - T.length% 64))).length% 64=T.length% 64+min D.length (64 - T.length% 64):=by omega
 refine⟨Mo h D,λj hj=> ?_,λj hj=> ?_,?_⟩
 ·rw[e1,pP _ _ _ (by omega) j hj];exact h.w j hj
 ·rw[e2] at hj;rw[e1];exact ZQ h j hj
 ·have hh:=h.h;have e:x.held.toNat=T.length% 64:=by omega
  rw[e2];show x.held+((min D.length (64 - x.held.toNat):Nat):Int)=_;rw[e];omega
theorem Vb {x:Sh}(h:p5 x T)(hc:T.length% 64+min D.length (64 - T.length% 64)=64):p5 ⟨kz (mc x D).W (mc x D).B,(mc x D).B,0,(mc x D).size⟩ (T++D.take (min D.length (64 - T.length% 64))):=by
 have hl:(T++D.take (min D.length (64 - T.length% 64))).length=T.length+min D.length (64 - T.length% 64):=by rw[bl,b9];omega
 have hd:=bn T.length 64;have e1:(T++D.take (min D.length (64 - T.length% 64))).length / 64=T.length / 64+1:=by omega
 have e2:(T++D.take (min D.length (64 - T.length% 64))).length% 64=0:=by omega
 refine⟨⟨λj hj=>aby j,(Mo h D).b⟩,λj hj=> ?_,λj hj=> ?_,?_⟩
 ·rw[e1];simp only[aC];refine Bh (λi hi=> ?_) (λi hi=> ?_) j hj
  ·rw[pP _ _ _ (by omega) i hi];exact h.w i hi
  ·exact ZQ h i (by omega)
 ·rw[e2] at hj;exact absurd hj (Nat.not_lt_zero _)
 ·rw[e2];rfl
theorem Kc {x:Sh}{s:e_}(hx:CE x T)(_hs:s.length<1152921504606846976) :
  av (q7 (Nv T s (((T++s).length:Int)% 18446744073709551616)) 60 aA [.ptr 0 F 0,.str A s] x9 (x,T) (λy:Sh=>(CE y (T++s),.ptr 0 F 0,(y,T++s)))):=by
 refine av.gV (Zj x T s _) (by delta Bk Fk;exact rfl) ?_;dsimp only;obtain⟨hx,hz⟩:=hx;refine⟨⟨(0,⟨x.W,x.B,x.held,(x.size+(s.length:Int)% 18446744073709551616)% 18446744073709551616⟩),⟨b! _,?_,?_⟩,rfl,ah.refl _,trivial⟩,λg hg=>⟨λa=> ?_,λa=> ?_⟩⟩
 ·show p5 _ (T++s.take 0);rw[List.take_zero,List.append_nil];exact⟨⟨hx.ok.w,hx.ok.b⟩,hx.w,hx.b,hx.h⟩
 ·show(x.size+(s.length:Int)% 18446744073709551616)% 18446744073709551616=_;rw[hz,bl];omega
 ·obtain⟨hk,hi,hsz⟩:=hg;have hD:s.drop g.1≠[]:=by simpa using a
  have hh:=hi.h;generalize hT:T++s.take g.1=T' at hi hh;have e:g.2.held.toNat=T'.length% 64:=by omega
  have hlt:T'.length% 64<64:=Nat.mod_lt _ (by decide);have hp:=List.length_pos_iff.2 hD;have hdl:(s.drop g.1).length=s.length - g.1:=b6 ..;have hmin:min (s.drop g.1).length (64 - g.2.held.toNat)=min (s.drop g.1).length (64 - T'.length% 64):=by rw[e]
  generalize hc:min (s.drop g.1).length (64 - g.2.held.toNat)=cnt at hmin ⊢;have hT2:T++s.take (g.1+cnt)=T'++(s.drop g.1).take cnt:=by rw[← hT,List.append_assoc,List.take_add]
  have hsub:aB (s.drop g.1) (C (an 37)) O (cnt:Int) ((s.drop g.1).length:Int)=s.drop (g.1+cnt):=by simp only[aB,a_,List.drop_drop]
  have rest: ∀ {p:Prop},(8<=8+g.2.held.toNat/\8+g.2.held.toNat+(64 - g.2.held.toNat)<=8+64->(-9223372036854775808<=g.2.held+(cnt:Int)/\g.2.held+(cnt:Int)<=9223372036854775807)->(0<=(cnt:Int)/\(cnt:Int)<=((s.drop g.1).length:Int)/\((s.drop g.1).length:Int)<=((s.drop g.1).length:Int))->p)->p:=λh=>h (by omega) (by omega) (by omega);refine⟨by omega,λb=>absurd (of_decide_eq_true b) (by omega),λ_=>rest λr1 r2 r3=>⟨r1,r2,r3,λb=> ?_,λb=> ?_⟩⟩
  ·have b:=of_decide_eq_true b;refine⟨mc g.2 (s.drop g.1),?_,Mo hi _,λ_ _=>⟨(g.1+cnt,⟨kz (mc g.2 (s.drop g.1)).W (mc g.2 (s.drop g.1)).B,(mc g.2 (s.drop g.1)).B,0,(mc g.2 (s.drop g.1)).size⟩),⟨⟨?_,?_,hsz⟩,?_⟩,hsub,Sx.ah.cells (λE=>rfl) rfl,trivial⟩⟩
   ·subst hc;exact ah.refl _
   ·show g.1+cnt<=s.length;omega
   ·show p5 _ (T++s.take (g.1+cnt));rw[hT2,hmin];exact Vb hi (by omega)
   ·show s.length - (g.1+cnt)<s.length - g.1;omega
  ·have b:=of_decide_eq_false b;refine⟨(g.1+cnt,mc g.2 (s.drop g.1)),⟨⟨?_,?_,hsz⟩,?_⟩,hsub,?_,trivial⟩
   ·show g.1+cnt<=s.length;omega
   ·show p5 _ (T++s.take (g.1+cnt));rw[hT2,hmin];exact Vc hi (by omega)
   ·show s.length - (g.1+cnt)<s.length - g.1;omega
   ·subst hc;exact ah.refl _
 ·obtain⟨hk,hi,hsz⟩:=hg;have hD:s.drop g.1=[]:=by simpa using a
  have hl:(s.drop g.1).length=0:=by rw[hD];rfl
  rw[b6] at hl;rw[List.take_of_length_le (by omega)] at hi;exact⟨g.2,⟨hi,hsz⟩,ah.refl _,λ_=>rfl⟩
theorem Ou (x:Sh×e_):(x9 x).wf 0=F/\(x9 x).ro=A/\(x9 x).no=false:=⟨rfl,rfl,rfl⟩
theorem W3:ax S 60 (pS x9 ym):=by
 refine EB (n:=20) (fn:=aA) Tryz.func60 (by kernel_rfl) (by kernel_rfl) Ou ?_;intro args g x h hp;unfold ym at h;split at h
 ·rename_i s;cases h;obtain⟨x,T⟩:=x;exact⟨Nv T s (((T++s).length:Int)% 18446744073709551616),[.ptr 0 F 0,.str A s],aba _ _ _,λE=>rfl,rfl,λ_=>rfl,Kc hp.1 hp.2⟩
 ·cases h
end
end Go.Proofs.YtoibaecagklkaaaGreatDoor
