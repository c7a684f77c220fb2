/-
  The framework's part 29: contracts of functions that reach one block of their caller's.
-/
import Derived.Test.YtoibaecagklkaaaGreatDoorMj
import Derived.Test.YtoibaecagklkaaaGreatDoorMl
open Bool renaming false->A,true->F
open Decidable renaming decide->L
open Go.BinOp renaming and->M,or->O,xor->J
open Go.IntKind renaming u32->ag
open Go.Operand renaming tmp->an
open Go.Proofs.Tryz renaming f148->ax,f149->V,f60->ay,f97->aP,prog->S
open Int renaming natCast_nonneg->a_,toNat_natCast->a!
open List renaming drop->I,getD_eq_getElem?_getD->Y,getElem?_cons_zero->b7,getElem?_eq_getElem->bf,length_append->bx,length_drop->b_,length_take->b!,take->Z
open Nat renaming div_add_mod->bH,eq_of_beq_eq_true->bW,zero_add->cl,zero_le->ct
open Option renaming none->Q,some->C
namespace Go.Proofs.YtoibaecagklkaaaGreatDoor
open Go Sx
variable {a b:Int}{D T:List UInt8}{j n:Nat}{G H:Type}
namespace Sx
open Go
def U7 (k:Nat):SV->Option SV
 | .ptr j l o=>(match Nat.beq j k with
   | true=>C (.ptr 0 l o)
   | false=>Q)
 | .slc j o n l c=>(match Nat.beq j k with
   | true=>C (.slc 0 o n l c)
   | false=>Q)
 | .int a _ n=>C (.int a A n)
 | .bool _ b=>C (.bool A b)
 | .str _ s=>C (.str A s)
 | _=>Q
def GK (k:Nat):List SV->Option (List SV)
 | []=>C []
 | v::r=>(match U7 k v,GK k r with
   | some x,C l=>C (x::l)
   | _,_=>Q)
theorem Qv {k:Nat}{E:Nat->Nat}{v u:SV}(h:U7 k v=C u):u.val (λ_=>E k)=v.val E/\u.wf 1=true:=by
 unfold U7 at h
 split at h<;>first
  | cases h;done
  | (injection h with h;subst h;exact⟨rfl,rfl⟩)
  | skip
 ·split at h
  ·rename_i e;injection h with h;subst h;have e:=bW e;subst e;exact⟨rfl,rfl⟩
  ·cases h
 ·split at h
  ·rename_i e;injection h with h;subst h;have e:=bW e;subst e;exact⟨rfl,rfl⟩
  ·cases h
theorem Cc {k:Nat}{E:Nat->Nat}: ∀ {l r:List SV},GK k l=C r->SV.vals (λ_=>E k) r=SV.vals E l/\SV.fO 1 r=F
 | [],r,h=>by injection h with h;subst h;exact⟨rfl,rfl⟩
 | v::l,r,h=>by
   unfold GK at h;split at h
   ·rename_i x l' hx hl;injection h with h;subst h;obtain⟨g1,g2⟩:=Qv (E:=E) hx;obtain⟨g3,g4⟩:=Cc (E:=E) hl;exact⟨by simp only[SV.vals,g1,g3],by simp only[SV.fO,g2,g4,Bool.and_self]⟩
   ·cases h
def RS:List SV->Option Nat
 | []=>Q
 | .ptr j _ _::_=>C j
 | .slc j _ _ _ _::_=>C j
 | _::r=>RS r
def Kh (k:Nat):SV->SV
 | .ptr _ l o=>.ptr k l o
 | v=>v
def RO:SV->Bool
 | .ptr j _ _=>Nat.beq j 0
 | v=>v.wf 0
theorem Q6 {v:SV}(h:RO v=F){k:Nat}{E E':Nat->Nat}(he:E' 0=E k):(Kh k v).val E=v.val E':=by
 cases v
 case ptr j l o =>have e:=bW h;subst e;simp only[Kh,SV.val,he]
 all_goals exact SV.wI (by exact h) _ _
noncomputable def qg (sb:G->SB)(sp:List SV->Option (G->Prop×(H->Prop×SV×G))):PT:=λargs m nx K=>match RS args with
 | some k=>(match GK k args with
   | some l=>(match sp l with
     | some g=>(match m.get k with
       | some B=>.ex G λx=>.and (.atom (aa B (sb x))) (.and (.atom (g x).1) (.all H λy=>.imp ((g x).2 y).1 (K (Kh k ((g x).2 y).2.1) (m.put k (sb ((g x).2 y).2.2)) nx)))
       | none=>.fail "a call's block")
     | none=>.fail "a call's arguments")
   | none=>.fail "a call's arguments")
 | none=>.fail "a call's arguments"
theorem oS (sb:G->SB)(sp:List SV->Option (G->Prop×(H->Prop×SV×G))):aT (qg sb sp):=by
 intro args m nx K K' hK h;unfold qg at h ⊢;split at h
 ·split at h
  ·split at h
   ·split at h
    ·obtain⟨x,h1,h2,h3⟩:=h;exact⟨x,h1,h2,λy hy=>hK _ _ _ (h3 y hy)⟩
    ·exact h.elim
   ·exact h.elim
  ·exact h.elim
 ·exact h.elim
def KD (sb:G->SB)(g:H->Prop×SV×G)(v:SV)(m:Mem):VC:=match m.get 0 with
 | some X=>.ex H λy=>.and (.atom (g y).1) (.and (leA X (sb (g y).2.2)) (svA v (g y).2.1))
 | none=>.fail "no block"
theorem Fk {P:Program}{f:FuncId}{fn:Func}(hf:P.funcs[f]?=C fn) (hn:(fn.name== "runtime.NumGoroutine")=A) (hb:fn.body.isSome=F)   {sb:G->SB} {sp:List SV->Option (G->Prop×(H->Prop×SV×G))}
  (hsb: ∀ x,(sb x).wf 0=F/\(sb x).ro=A/\(sb x).no=A)
  (h: ∀ args g x,sp args=C g->(g x).1->∃ cfg args',Good P cfg/\(∀ E,SV.vals E args'=SV.vals E args)/\SV.fO 1 args'=F/\(∀ y,RO ((g x).2 y).2.1=F) /\
    az (fN P (calling P cfg n) [] Aa (cfg.bD f) cfg.rounds fn args' [(0,sb x)] 1 (λv m _=>KD sb (g x).2 v m))):av P f (qg sb sp):=by
 intro args m nx K hk hwf hargs Γ E w hs;unfold qg at hk;split at hk
 ·rename_i k hkey;split at hk
  ·rename_i l hl;split at hk
   ·rename_i g hg;split at hk
    ·rename_i B hB;obtain⟨x,h1,h2,h3⟩:=hk;have h1:aa B (sb x):=h1;obtain⟨cfg,args',c1,c2,c3,c4,c5⟩:=h _ _ x hg h2;obtain⟨s1,s2,s3⟩:=hsb x;have hone:=hs.one hB h1 s3 s2 s1;have hc:=fc c1 hf hn hb c5 (by simp only[Mem.wf,Bool.and_true];exact SB.iw (ct _) s1) c3 hone;rw[c2,(Cc (E:=E) hl).1] at hc;refine gy hf hn hb (hc.mono ?_);rintro e w' ⟨v,rfl,E1,u,m1,nx1,g1,g2,g3,g4,g5⟩;refine⟨v,rfl,?_⟩;cases u with
     | none=>exact g5.elim
     | some u =>
       simp only[lift,KD] at g5;split at g5
       ·rename_i X hX;obtain⟨y,y1,y2,y3⟩:=g5;have y2:aa X (sb ((g x).2 y).2.2):=y2;have y3:af u ((g x).2 y).2.1:=y3;obtain⟨t1,t2,t3⟩:=hsb ((g x).2 y).2.2;have hsw:=g4.swap hX y2;have hE0:E1 0=E k:=g1 0 (by omega);have hfr:=hs.frame hB (h1.old s3).1 ((h1.old s3).2.2 s2) hsw hE0 (Mem.DM hX) t3 t2 t1;refine⟨E,C (Kh k ((g x).2 y).2.1),_,nx,λ_ _=>rfl,Nat.le_refl _,λz hz=> ?_,hfr,h3 y y1⟩;injection hz with hz;subst hz;rw[g3 u rfl,y3 E1];exact(Q6 (c4 y) hE0).symm
       ·exact g5.elim
    ·exact hk.elim
   ·exact hk.elim
  ·exact hk.elim
 ·exact hk.elim
end Sx
section
open Go Sx
set_option maxRecDepth 20000
def xe (f:Nat->Prop->Prop):Nat->Nat->Prop->Prop
 | _,0,t=>t
 | i,n+1,t=>f i (xe f (i+1) n t)
theorem xe.of {f:Nat->Prop->Prop}{t:Prop}{N:Nat}(h: ∀ i r,i<N->r->f i r)(ht:t): ∀ n i,i+n<=N->xe f i n t
 | 0,_,_=>ht
 | n+1,i,hn=>h i _ (by omega) (xe.of h ht n (i+1) (by omega))
def Wo (a b c:Int):Int:=bitsOf .xor (bitsOf .xor a b) c
def dJ (x n:Int):Int:=bitsOf .or (x*(2^ (32 - n).toNat:Nat)% 4294967296) (x / (2^ n.toNat:Nat))
def aci (a:Int):Int:=Wo (dJ a 2) (dJ a 13) (dJ a 22)
def acj (e:Int):Int:=Wo (dJ e 6) (dJ e 11) (dJ e 25)
def ady (x:Int):Int:=Wo (dJ x 7) (dJ x 18) (x / 8)
def adz (y:Int):Int:=Wo (dJ y 17) (dJ y 19) (y / 1024)
def chF (e f g:Int):Int:=bitsOf .xor (bitsOf .and e f) (bitsOf .and (bitsOf .xor 4294967295 e) g)
def adp (a b c:Int):Int:=Wo (bitsOf .and a b) (bitsOf .and a c) (bitsOf .and b c)
def HD:List Int:=[1116352408,1899447441,3049323471,3921009573,961987163,1508970993,2453635748,2870763221,3624381080,310598401,607225278,1426881987,1925078388,2162078206,2614888103,3248222580,3835390401,4022224774,264347078,604807628,770255983,1249150122,1555081692,1996064986,2554220882,2821834349,2952996808,3210313671,3336571891,3584528711,113926993,338241895,666307205,773529912,1294757372,1396182291,1695183700,1986661051,2177026350,2456956037,2730485921,2820302411,3259730800,3345764771,3516065817,3600352804,4094571909,275423344,430227734,506948616,659060556,883997877,958139571,1322822218,1537002063,1747873779,1955562222,2024104815,2227730452,2361852424,2428436474,2756734187,3204031479,3329325298]
def SR (i:Nat):Int:=De HD i
def Wg (b:Nat->Int)(j:Nat):Int:=bitsOf .or (bitsOf .or (bitsOf .or (b (4*j)*16777216% 4294967296) (b (4*j+1)*65536% 4294967296)) (b (4*j+2)*256% 4294967296)) (b (4*j+3))
def Zb (a b c d:Int):Int:=(((a+ady b)% 4294967296+c)% 4294967296+adz d)% 4294967296
def wL (b:Nat->Int):Nat->Nat->Int
 | 0=>λj=>if j<16 then Wg b j else 0
 | n+1=>λj=>if j=16+n then Zb (wL b n (16+n - 16)) (wL b n (16+n - 15)) (wL b n (16+n - 7)) (wL b n (16+n - 2))else wL b n j
def Zn (v:Nat->Int)(k w:Int):Int:=((((v 7+acj (v 4))% 4294967296+chF (v 4) (v 5) (v 6))% 4294967296+k)% 4294967296+w)% 4294967296
def t2F (v:Nat->Int):Int:=(aci (v 0)+adp (v 0) (v 1) (v 2))% 4294967296
def yd (v:Nat->Int)(k w:Int)(j:Nat):Int:=match j with
 | 0=>(Zn v k w+t2F v)% 4294967296
 | 1=>v 0
 | 2=>v 1
 | 3=>v 2
 | 4=>(v 3+Zn v k w)% 4294967296
 | 5=>v 4
 | 6=>v 5
 | 7=>v 6
 | _=>0
def dh (W B:Nat->Int):Nat->Nat->Int
 | 0=>W
 | i+1=>yd (dh W B i) (SR i) (wL B 48 i)
def lJ (W B:Nat->Int)(j:Nat):Int:=(W j+dh W B 64 j)% 4294967296
structure Sh where
 W:Nat->Int
 B:Nat->Int
 held:Int
 size:Int
def Sh.cs (x:Sh):List SV:=[.int .u32 A (x.W 0),.int .u32 A (x.W 1),.int .u32 A (x.W 2),.int .u32 A (x.W 3),.int .u32 A (x.W 4),.int .u32 A (x.W 5),.int .u32 A (x.W 6),.int .u32 A (x.W 7),.int .u8 A (x.B 0),.int .u8 A (x.B 1),.int .u8 A (x.B 2),.int .u8 A (x.B 3),.int .u8 A (x.B 4),.int .u8 A (x.B 5),.int .u8 A (x.B 6),.int .u8 A (x.B 7),.int .u8 A (x.B 8),.int .u8 A (x.B 9),.int .u8 A (x.B 10),.int .u8 A (x.B 11),.int .u8 A (x.B 12),.int .u8 A (x.B 13),.int .u8 A (x.B 14),.int .u8 A (x.B 15),.int .u8 A (x.B 16),.int .u8 A (x.B 17),.int .u8 A (x.B 18),.int .u8 A (x.B 19),.int .u8 A (x.B 20),.int .u8 A (x.B 21),.int .u8 A (x.B 22),.int .u8 A (x.B 23),.int .u8 A (x.B 24),.int .u8 A (x.B 25),.int .u8 A (x.B 26),.int .u8 A (x.B 27),.int .u8 A (x.B 28),.int .u8 A (x.B 29),.int .u8 A (x.B 30),.int .u8 A (x.B 31),.int .u8 A (x.B 32),.int .u8 A (x.B 33),.int .u8 A (x.B 34),.int .u8 A (x.B 35),.int .u8 A (x.B 36),.int .u8 A (x.B 37),.int .u8 A (x.B 38),.int .u8 A (x.B 39),.int .u8 A (x.B 40),.int .u8 A (x.B 41),.int .u8 A (x.B 42),.int .u8 A (x.B 43),.int .u8 A (x.B 44),.int .u8 A (x.B 45),.int .u8 A (x.B 46),.int .u8 A (x.B 47),.int .u8 A (x.B 48),.int .u8 A (x.B 49),.int .u8 A (x.B 50),.int .u8 A (x.B 51),.int .u8 A (x.B 52),.int .u8 A (x.B 53),.int .u8 A (x.B 54),.int .u8 A (x.B 55),.int .u8 A (x.B 56),.int .u8 A (x.B 57),.int .u8 A (x.B 58),.int .u8 A (x.B 59),.int .u8 A (x.B 60),.int .u8 A (x.B 61),.int .u8 A (x.B 62),.int .u8 A (x.B 63),.int .i64 A x.held,.int .u64 A x.size]
def Sh.sb (x:Sh):SB:=.cells x.cs 74 171
structure Sh.Ok (x:Sh):Prop where
 w: ∀ j,j<8->0<=x.W j/\x.W j<=4294967295
 b: ∀ j,j<64->0<=x.B j/\x.B j<=255
def abr (n:Int):Bool:=L (n=2)||(L (n=6)||(L (n=7)||(L (n=11)||(L (n=13)||(L (n=17)||(L (n=18)||(L (n=19)||(L (n=22)||decide (n=25)))))))))
def ya:List SV->Option (Prop×SV)
 | [.int .u32 A x,.int .i64 A n]=>(match abr n with
   | true=>C (0<=x/\x<=4294967295,.int .u32 A (dJ x n))
   | false=>Q)
 | _=>Q
noncomputable def OW (b:Nat->Int):bg :=
 {α:=Nat,pre:=λ_ n=>n<=48,kY:=λ_ n=>48 - n,fresh:=0,slots:=λ_ n=>[(6,.int .i64 A (16+(n:Int)))],
  mem:=λ_ n=>[(2,.rows A 64 [.int .u32 (wL b n)] A 64 234)]}
noncomputable def OV (W B:Nat->Int):bg :=
 {α:=Nat,pre:=λ_ i=>i<=64,kY:=λ_ i=>64 - i,fresh:=0,slots:=λ_ i=>[(18,.int .i64 A i)],
  mem:=λ_ i=>[(1,.rows A 64 [.int .u32 (wL B 48)] A 64 234),(2,.cells [.int .u32 A (dh W B i 0),.int .u32 A (dh W B i 1),.int .u32 A (dh W B i 2),.int .u32 A (dh W B i 3),.int .u32 A (dh W B i 4),.int .u32 A (dh W B i 5),.int .u32 A (dh W B i 6),.int .u32 A (dh W B i 7)] 8 168)]}
noncomputable def aaT (W B:Nat->Int):bg :={α:=Nat,pre:=λst i=>slot st.tmps 18=C (.int .i64 A (i:Int)),kY:=λ_ _=>0,fresh:=0,slots:=λ_ i=>[(9,.int .u32 A (Zn (dh W B i) (SR i) (wL B 48 i)))],mem:=λ_ _=>[]}
noncomputable def aaU (W B:Nat->Int):bg :={α:=Nat,pre:=λst i=>slot st.tmps 18=C (.int .i64 A (i:Int)),kY:=λ_ _=>0,fresh:=0,slots:=λ_ i=>[(10,.int .u32 A (t2F (dh W B i)))],mem:=λ_ _=>[]}
noncomputable def LI:List (FuncId×PT):=(149,bh ya)::gX
noncomputable def No (b:Nat->Int):fQ:={cv with cQ:=λf=>aD f LI,bD:=λf=>if f=148 then [(9,always (OW b))] else []}
def wm (b:Nat->Int):SV:=.agg [.int .u32 A (wL b 48 0),.int .u32 A (wL b 48 1),.int .u32 A (wL b 48 2),.int .u32 A (wL b 48 3),.int .u32 A (wL b 48 4),.int .u32 A (wL b 48 5),.int .u32 A (wL b 48 6),.int .u32 A (wL b 48 7),.int .u32 A (wL b 48 8),.int .u32 A (wL b 48 9),.int .u32 A (wL b 48 10),.int .u32 A (wL b 48 11),.int .u32 A (wL b 48 12),.int .u32 A (wL b 48 13),.int .u32 A (wL b 48 14),.int .u32 A (wL b 48 15),.int .u32 A (wL b 48 16),.int .u32 A (wL b 48 17),.int .u32 A (wL b 48 18),.int .u32 A (wL b 48 19),.int .u32 A (wL b 48 20),.int .u32 A (wL b 48 21),.int .u32 A (wL b 48 22),.int .u32 A (wL b 48 23),.int .u32 A (wL b 48 24),.int .u32 A (wL b 48 25),.int .u32 A (wL b 48 26),.int .u32 A (wL b 48 27),.int .u32 A (wL b 48 28),.int .u32 A (wL b 48 29),.int .u32 A (wL b 48 30),.int .u32 A (wL b 48 31),.int .u32 A (wL b 48 32),.int .u32 A (wL b 48 33),.int .u32 A (wL b 48 34),.int .u32 A (wL b 48 35),.int .u32 A (wL b 48 36),.int .u32 A (wL b 48 37),.int .u32 A (wL b 48 38),.int .u32 A (wL b 48 39),.int .u32 A (wL b 48 40),.int .u32 A (wL b 48 41),.int .u32 A (wL b 48 42),.int .u32 A (wL b 48 43),.int .u32 A (wL b 48 44),.int .u32 A (wL b 48 45),.int .u32 A (wL b 48 46),.int .u32 A (wL b 48 47),.int .u32 A (wL b 48 48),.int .u32 A (wL b 48 49),.int .u32 A (wL b 48 50),.int .u32 A (wL b 48 51),.int .u32 A (wL b 48 52),.int .u32 A (wL b 48 53),.int .u32 A (wL b 48 54),.int .u32 A (wL b 48 55),.int .u32 A (wL b 48 56),.int .u32 A (wL b 48 57),.int .u32 A (wL b 48 58),.int .u32 A (wL b 48 59),.int .u32 A (wL b 48 60),.int .u32 A (wL b 48 61),.int .u32 A (wL b 48 62),.int .u32 A (wL b 48 63)]
def uN:List SV->Option (Sh->Prop×(Unit->Prop×SV×Sh))
 | [.slc 0 8 64 _ 64]=>C λx=>(x.Ok,λ_=>(True,wm x.B,x))
 | _=>Q
noncomputable def T6:List (FuncId×PT):=(148,qg Sh.sb uN)::LI
noncomputable def Ft (W B:Nat->Int):fQ:={cv with cQ:=λf=>aD f T6,bD:=λf=>if f=97 then [(3,always (OV W B)),(1006,always (aaT W B)),(1007,always (aaU W B))] else []}
def Gm:List SV->Option (Sh->Prop×(Unit->Prop×SV×Sh))
 | [.ptr 0 F 0,.slc 0 8 64 _ 64]=>C λx=>(x.Ok,λ_=>(True,.aO [],{x with W:=lJ x.W x.B}))
 | _=>Q
noncomputable def rD (cfg:fQ)(f:Nat)(fn:Func)(args:List SV)(sb:G->SB)(x:G)(g:H->Prop×SV×G):VC:=fN S (calling S cfg 20) [] Aa (cfg.bD f) cfg.rounds fn args [(0,sb x)] 1 (λv m _=>KD sb g v m)
theorem VU (x:Int)(R:SV->Prop):VC.holds (eO cv 149 V [.int .u32 A x,.int .i64 F 2] R)=(((0<=x*1073741824% 4294967296/\x*1073741824% 4294967296<=(4294967295:Int)/\0<=x / 4/\x / 4<=(4294967295:Int))/\R (SV.int .u32 A (bitsOf O (x*1073741824% 4294967296) (x / 4))))):=by kernel_rfl
theorem VV (x:Int)(R:SV->Prop):VC.holds (eO cv 149 V [.int .u32 A x,.int .i64 F 6] R)=(((0<=x*67108864% 4294967296/\x*67108864% 4294967296<=(4294967295:Int)/\0<=x / 64/\x / 64<=(4294967295:Int))/\R (SV.int .u32 A (bitsOf O (x*67108864% 4294967296) (x / 64))))):=by kernel_rfl
theorem VW (x:Int)(R:SV->Prop):VC.holds (eO cv 149 V [.int .u32 A x,.int .i64 F 7] R)=(((0<=x*33554432% 4294967296/\x*33554432% 4294967296<=(4294967295:Int)/\0<=x / 128/\x / 128<=(4294967295:Int))/\R (SV.int .u32 A (bitsOf O (x*33554432% 4294967296) (x / 128))))):=by kernel_rfl
theorem Rf (x:Int)(R:SV->Prop):VC.holds (eO cv 149 V [.int .u32 A x,.int .i64 F 11] R)=(((0<=x*2097152% 4294967296/\x*2097152% 4294967296<=(4294967295:Int)/\0<=x / 2048/\x / 2048<=(4294967295:Int))/\R (SV.int .u32 A (bitsOf O (x*2097152% 4294967296) (x / 2048))))):=by kernel_rfl
theorem Rg (x:Int)(R:SV->Prop):VC.holds (eO cv 149 V [.int .u32 A x,.int .i64 F 13] R)=(((0<=x*524288% 4294967296/\x*524288% 4294967296<=(4294967295:Int)/\0<=x / 8192/\x / 8192<=(4294967295:Int))/\R (SV.int .u32 A (bitsOf O (x*524288% 4294967296) (x / 8192))))):=by kernel_rfl
theorem Rh (x:Int)(R:SV->Prop):VC.holds (eO cv 149 V [.int .u32 A x,.int .i64 F 17] R)=(((0<=x*32768% 4294967296/\x*32768% 4294967296<=(4294967295:Int)/\0<=x / 131072/\x / 131072<=(4294967295:Int))/\R (SV.int .u32 A (bitsOf O (x*32768% 4294967296) (x / 131072))))):=by kernel_rfl
theorem Ri (x:Int)(R:SV->Prop):VC.holds (eO cv 149 V [.int .u32 A x,.int .i64 F 18] R)=(((0<=x*16384% 4294967296/\x*16384% 4294967296<=(4294967295:Int)/\0<=x / 262144/\x / 262144<=(4294967295:Int))/\R (SV.int .u32 A (bitsOf O (x*16384% 4294967296) (x / 262144))))):=by kernel_rfl
theorem Rj (x:Int)(R:SV->Prop):VC.holds (eO cv 149 V [.int .u32 A x,.int .i64 F 19] R)=(((0<=x*8192% 4294967296/\x*8192% 4294967296<=(4294967295:Int)/\0<=x / 524288/\x / 524288<=(4294967295:Int))/\R (SV.int .u32 A (bitsOf O (x*8192% 4294967296) (x / 524288))))):=by kernel_rfl
theorem Rk (x:Int)(R:SV->Prop):VC.holds (eO cv 149 V [.int .u32 A x,.int .i64 F 22] R)=(((0<=x*1024% 4294967296/\x*1024% 4294967296<=(4294967295:Int)/\0<=x / 4194304/\x / 4194304<=(4294967295:Int))/\R (SV.int .u32 A (bitsOf O (x*1024% 4294967296) (x / 4194304))))):=by kernel_rfl
theorem Rl (x:Int)(R:SV->Prop):VC.holds (eO cv 149 V [.int .u32 A x,.int .i64 F 25] R)=(((0<=x*128% 4294967296/\x*128% 4294967296<=(4294967295:Int)/\0<=x / 33554432/\x / 33554432<=(4294967295:Int))/\R (SV.int .u32 A (bitsOf O (x*128% 4294967296) (x / 33554432))))):=by kernel_rfl
theorem V0 (x:Sh):VC.holds (rD (No x.B) 148 ax [.slc 0 8 64 F 64] Sh.sb x (λ_:Unit=>(True,wm x.B,x)))=((λP0:SB=>((λP1:Nat->Int=>((λP2:Nat->Int=>((xe (λi r=>(0<=x.B (4*i)/\x.B (4*i)<=4294967295)/\(0<=x.B (4*i+1)/\x.B (4*i+1)<=4294967295)/\(0<=x.B (4*i)*16777216% 4294967296/\x.B (4*i)*16777216% 4294967296<=(4294967295:Int)/\0<=x.B (4*i+1)*65536% 4294967296/\x.B (4*i+1)*65536% 4294967296<=(4294967295:Int))/\(0<=x.B (4*i+2)/\x.B (4*i+2)<=4294967295)/\(0<=bitsOf O (x.B (4*i)*16777216% 4294967296) (x.B (4*i+1)*65536% 4294967296)/\bitsOf O (x.B (4*i)*16777216% 4294967296) (x.B (4*i+1)*65536% 4294967296)<=4294967295/\0<=x.B (4*i+2)*256% 4294967296/\x.B (4*i+2)*256% 4294967296<=(4294967295:Int))/\(0<=x.B (4*i+3)/\x.B (4*i+3)<=4294967295)/\(0<=bitsOf O (bitsOf O (x.B (4*i)*16777216% 4294967296) (x.B (4*i+1)*65536% 4294967296)) (x.B (4*i+2)*256% 4294967296)/\bitsOf O (bitsOf O (x.B (4*i)*16777216% 4294967296) (x.B (4*i+1)*65536% 4294967296)) (x.B (4*i+2)*256% 4294967296)<=4294967295/\0<=x.B (4*i+3)/\x.B (4*i+3)<=4294967295)/\r) 0 16 ((∃(u4:Nat),u4<=48/\(16:Int)=16+(u4:Int)/\aa (SB.cells (cK (λi=>SV.int .u32 A (bitsOf O (bitsOf O (bitsOf O (x.B (4*i)*16777216% 4294967296) (x.B (4*i+1)*65536% 4294967296)) (x.B (4*i+2)*256% 4294967296)) (x.B (4*i+3)))) (YR (λ_=>SV.int .u32 F 0) (YR (λ_=>SV.int .u32 F 0) (K14 (λ_=>SV.int .u32 F 0) [])))) 64 234) (SB.rows A 64 [ak.int ag (wL x.B u4)] A 64 234)/\aa P0 P0/\aa x.sb x.sb/\True)/\∀(u3:Nat),u3<=48->(L (16+(u3:Int)<64)=F->I6 (16+(u3:Int) - 15)/\((0:Int)<=16+(u3:Int) - 15/\16+(u3:Int) - 15<(64:Int))/\((16+(u3:Int) - 15).toNat<64/\0+(16+(u3:Int) - 15).toNat<64)/\I6 (16+(u3:Int) - 2)/\((0:Int)<=16+(u3:Int) - 2/\16+(u3:Int) - 2<(64:Int))/\((16+(u3:Int) - 2).toNat<64/\0+(16+(u3:Int) - 2).toNat<64)/\(0<=wL x.B u3 (0+(16+(u3:Int) - 15).toNat)/\wL x.B u3 (0+(16+(u3:Int) - 15).toNat)<=4294967295)/\(0<=wL x.B u3 (0+(16+(u3:Int) - 15).toNat)/\wL x.B u3 (0+(16+(u3:Int) - 15).toNat)<=4294967295)/\(0<=dJ (P1 u3) 7/\dJ (P1 u3) 7<=(4294967295:Int)/\0<=dJ (P1 u3) 18/\dJ (P1 u3) 18<=(4294967295:Int))/\(0<=bitsOf J (dJ (P1 u3) 7) (dJ (P1 u3) 18)/\bitsOf J (dJ (P1 u3) 7) (dJ (P1 u3) 18)<=4294967295/\0<=wL x.B u3 (0+(16+(u3:Int) - 15).toNat) / 8/\wL x.B u3 (0+(16+(u3:Int) - 15).toNat) / 8<=(4294967295:Int))/\(0<=wL x.B u3 (0+(16+(u3:Int) - 2).toNat)/\wL x.B u3 (0+(16+(u3:Int) - 2).toNat)<=4294967295)/\(0<=wL x.B u3 (0+(16+(u3:Int) - 2).toNat)/\wL x.B u3 (0+(16+(u3:Int) - 2).toNat)<=4294967295)/\(0<=dJ (P2 u3) 17/\dJ (P2 u3) 17<=(4294967295:Int)/\0<=dJ (P2 u3) 19/\dJ (P2 u3) 19<=(4294967295:Int))/\(0<=bitsOf J (dJ (P2 u3) 17) (dJ (P2 u3) 19)/\bitsOf J (dJ (P2 u3) 17) (dJ (P2 u3) 19)<=4294967295/\0<=wL x.B u3 (0+(16+(u3:Int) - 2).toNat) / 1024/\wL x.B u3 (0+(16+(u3:Int) - 2).toNat) / 1024<=(4294967295:Int))/\I6 (16+(u3:Int) - 16)/\((0:Int)<=16+(u3:Int) - 16/\16+(u3:Int) - 16<(64:Int))/\((16+(u3:Int) - 16).toNat<64/\0+(16+(u3:Int) - 16).toNat<64)/\I6 (16+(u3:Int) - 7)/\((0:Int)<=16+(u3:Int) - 7/\16+(u3:Int) - 7<(64:Int))/\((16+(u3:Int) - 7).toNat<64/\0+(16+(u3:Int) - 7).toNat<64)/\((0:Int)<=16+(u3:Int)/\16+(u3:Int)<64)/\((16+(u3:Int)).toNat<64/\0+(16+(u3:Int)).toNat<64)/\I6 (16+(u3:Int)+1)/\∃(u2:Nat),(u2<=48/\48 - u2<48 - u3)/\16+(u3:Int)+1=16+(u2:Int)/\aa (SB.rows A 64 [ak.int ag fun(u1:Nat)=>if u1=0+(16+(u3:Int)).toNat then(((wL x.B u3 (0+(16+(u3:Int) - 16).toNat)+bitsOf J (bitsOf J (dJ (P1 u3) 7) (dJ (P1 u3) 18)) (wL x.B u3 (0+(16+(u3:Int) - 15).toNat) / 8))% 4294967296+wL x.B u3 (0+(16+(u3:Int) - 7).toNat))% 4294967296+bitsOf J (bitsOf J (dJ (P2 u3) 17) (dJ (P2 u3) 19)) (wL x.B u3 (0+(16+(u3:Int) - 2).toNat) / 1024))% 4294967296 else wL x.B u3 u1] A 64 234) (SB.rows A 64 [ak.int ag (wL x.B u2)] A 64 234)/\aa P0 P0/\aa x.sb x.sb/\True)/\(L (16+(u3:Int)<64)=A->(64:Nat)<=(64:Nat)/\∃(_u0:Unit),True/\aa x.sb x.sb/\af (SV.agg (uS (λi=>ak.at i (ak.int ag (wL x.B u3))) [])) (wm x.B)))))) (fun(u3:Nat)=>(wL x.B u3 (0+(16+(u3:Int) - 2).toNat))))) (fun(u3:Nat)=>(wL x.B u3 (0+(16+(u3:Int) - 15).toNat))))) (SB.cells (SV.agg (uS (λ_=>SV.int .u32 F 0) [])).cells 64 234)):=by kernel_rfl
theorem acV (x:Sh):VC.holds (rD (Ft x.W x.B) 97 aP [.ptr 0 F 0,.slc 0 8 64 F 64] Sh.sb x (λ_:Unit=>(True,.aO [],{x with W:=lJ x.W x.B})))=((λR0:Nat->SV=>((λR1:Nat->SV=>((λR2:Nat->(Sh)->SV=>((λR3:Nat->(Sh)->SV=>((λR4:Nat->(Sh)->SV=>((λR5:Nat->(Nat)->SV=>((λR6:Nat->(Nat)->SV=>((λR7:Nat->(Nat)->SV=>((λR8:Nat->(Sh)->(Nat)->SV=>((λR9:Nat->SV=>((λP0:Nat->SB=>((λP1:SB=>((∃(u9:Sh),aa (SB.cells (R0 0::R0 1::R0 2::R0 3::R0 4::R0 5::R0 6::R0 7::uS R1 [SV.int .i64 A x.held,SV.int .u64 A x.size]) 74 171) (SB.cells (R2 0 u9::R2 1 u9::R2 2 u9::R2 3 u9::R2 4 u9::R2 5 u9::R2 6 u9::R2 7 u9::uS (λi=>R3 i u9) [SV.int .i64 A u9.held,SV.int .u64 A u9.size]) 74 171) /\u9.Ok/\∀(_u8:Unit),True->(∃(u7:Nat),u7<=64/\0=(u7:Int)/\aa (SB.cells (uS (λi=>R4 i u9) []) 64 234) P1/\aa (SB.cells (K8 (λi=>R2 i u9) []) 8 168) (SB.cells (K8 (λi=>R5 i u7) []) 8 168)/\aa u9.sb u9.sb/\True)/\∀(u6:Nat),u6<=64->(L ((u6:Int)<64)=F->((0<=dh x.W x.B u6 4/\dh x.W x.B u6 4<=4294967295/\0<=dh x.W x.B u6 5/\dh x.W x.B u6 5<=4294967295)/\((0:Int)<=(4294967295:Int)/\(4294967295:Int)<=(4294967295:Int) /\0<=dh x.W x.B u6 4/\dh x.W x.B u6 4<=4294967295)/\(0<=bitsOf J 4294967295 (dh x.W x.B u6 4)/\bitsOf J 4294967295 (dh x.W x.B u6 4)<=4294967295/\0<=dh x.W x.B u6 6/\dh x.W x.B u6 6<=4294967295)/\(0<=bitsOf M (dh x.W x.B u6 4) (dh x.W x.B u6 5)/\bitsOf M (dh x.W x.B u6 4) (dh x.W x.B u6 5)<=4294967295/\0<=bitsOf M (bitsOf J 4294967295 (dh x.W x.B u6 4)) (dh x.W x.B u6 6)/\bitsOf M (bitsOf J 4294967295 (dh x.W x.B u6 4)) (dh x.W x.B u6 6)<=4294967295)/\(0<=(u6:Int)/\(u6:Int)<64)/\(u6:Int).toNat<64/\(0<=(u6:Int)/\(u6:Int)<64)/\((u6:Int).toNat<64/\0+(u6:Int).toNat<64)/\(0<=dh x.W x.B u6 4/\dh x.W x.B u6 4<=4294967295)/\C P1=C P1/\C (P0 u6)=C (P0 u6)/\C (P0 u6)=C (P0 u6)/\C (P0 u6)=C (P0 u6)/\(0<=dh x.W x.B u6 4/\dh x.W x.B u6 4<=4294967295)/\C P1=C P1/\C (P0 u6)=C (P0 u6)/\C (P0 u6)=C (P0 u6)/\C (P0 u6)=C (P0 u6)/\(0<=dJ (dh x.W x.B u6 4) 6/\dJ (dh x.W x.B u6 4) 6<=(4294967295:Int)/\0<=dJ (dh x.W x.B u6 4) 11 /\dJ (dh x.W x.B u6 4) 11<=(4294967295:Int))/\(0<=dh x.W x.B u6 4/\dh x.W x.B u6 4<=4294967295)/\C P1=C P1/\C (P0 u6)=C (P0 u6)/\C (P0 u6)=C (P0 u6)/\C (P0 u6)=C (P0 u6)/\(0<=bitsOf J (dJ (dh x.W x.B u6 4) 6) (dJ (dh x.W x.B u6 4) 11)/\bitsOf J (dJ (dh x.W x.B u6 4) 6) (dJ (dh x.W x.B u6 4) 11)<=4294967295/\0<=dJ (dh x.W x.B u6 4) 25/\dJ (dh x.W x.B u6 4) 25<=(4294967295:Int))/\∃(u5:Nat),C (SV.int .i64 A (u6:Int))=C (SV.int .i64 A (u5:Int)) /\((((dh x.W x.B u6 7+bitsOf J (bitsOf J (dJ (dh x.W x.B u6 4) 6) (dJ (dh x.W x.B u6 4) 11)) (dJ (dh x.W x.B u6 4) 25))% 4294967296+bitsOf J (bitsOf M (dh x.W x.B u6 4) (dh x.W x.B u6 5)) (bitsOf M (bitsOf J 4294967295 (dh x.W x.B u6 4)) (dh x.W x.B u6 6)))% 4294967296+De HD (u6:Int).toNat)% 4294967296+wL x.B 48 (0+(u6:Int).toNat))% 4294967296=Zn (dh x.W x.B u5) (SR u5) (wL x.B 48 u5) /\aa P1 P1/\aa (P0 u6) (P0 u6)/\aa u9.sb u9.sb/\True)/\∀(u4:Nat),C (SV.int .i64 A (u6:Int))=C (SV.int .i64 A (u4:Int))->((0<=dh x.W x.B u6 0/\dh x.W x.B u6 0<=4294967295/\0<=dh x.W x.B u6 1/\dh x.W x.B u6 1<=4294967295)/\(0<=dh x.W x.B u6 0/\dh x.W x.B u6 0<=4294967295/\0<=dh x.W x.B u6 2/\dh x.W x.B u6 2<=4294967295)/\(0<=bitsOf M (dh x.W x.B u6 0) (dh x.W x.B u6 1)/\bitsOf M (dh x.W x.B u6 0) (dh x.W x.B u6 1)<=4294967295/\0<=bitsOf M (dh x.W x.B u6 0) (dh x.W x.B u6 2)/\bitsOf M (dh x.W x.B u6 0) (dh x.W x.B u6 2)<=4294967295)/\(0<=dh x.W x.B u6 1/\dh x.W x.B u6 1<=4294967295/\0<=dh x.W x.B u6 2/\dh x.W x.B u6 2<=4294967295)/\(0<=bitsOf J (bitsOf M (dh x.W x.B u6 0) (dh x.W x.B u6 1)) (bitsOf M (dh x.W x.B u6 0) (dh x.W x.B u6 2))/\bitsOf J (bitsOf M (dh x.W x.B u6 0) (dh x.W x.B u6 1)) (bitsOf M (dh x.W x.B u6 0) (dh x.W x.B u6 2))<=4294967295/\0<=bitsOf M (dh x.W x.B u6 1) (dh x.W x.B u6 2)/\bitsOf M (dh x.W x.B u6 1) (dh x.W x.B u6 2)<=4294967295)/\(0<=dh x.W x.B u6 0 /\dh x.W x.B u6 0<=4294967295)/\C (P0 u6)=C (P0 u6)/\C (P0 u6)=C (P0 u6)/\C (P0 u6)=C (P0 u6)/\C (P0 u6)=C (P0 u6)/\(0<=dh x.W x.B u6 0/\dh x.W x.B u6 0<=4294967295)/\C (P0 u6)=C (P0 u6)/\C (P0 u6)=C (P0 u6)/\C (P0 u6)=C (P0 u6)/\C (P0 u6)=C (P0 u6)/\(0<=dJ (dh x.W x.B u6 0) 2/\dJ (dh x.W x.B u6 0) 2<=(4294967295:Int)/\0<=dJ (dh x.W x.B u6 0) 13/\dJ (dh x.W x.B u6 0) 13<=(4294967295:Int))/\(0<=dh x.W x.B u6 0/\dh x.W x.B u6 0<=4294967295)/\C (P0 u6)=C (P0 u6)/\C (P0 u6)=C (P0 u6)/\C (P0 u6)=C (P0 u6)/\C (P0 u6)=C (P0 u6)/\(0<=bitsOf J (dJ (dh x.W x.B u6 0) 2) (dJ (dh x.W x.B u6 0) 13)/\bitsOf J (dJ (dh x.W x.B u6 0) 2) (dJ (dh x.W x.B u6 0) 13)<=4294967295/\0<=dJ (dh x.W x.B u6 0) 22/\dJ (dh x.W x.B u6 0) 22<=(4294967295:Int))/\∃(u3:Nat),C (SV.int .i64 A (u6:Int))=C (SV.int .i64 A (u3:Int)) /\(bitsOf J (bitsOf J (dJ (dh x.W x.B u6 0) 2) (dJ (dh x.W x.B u6 0) 13)) (dJ (dh x.W x.B u6 0) 22)+bitsOf J (bitsOf J (bitsOf M (dh x.W x.B u6 0) (dh x.W x.B u6 1)) (bitsOf M (dh x.W x.B u6 0) (dh x.W x.B u6 2))) (bitsOf M (dh x.W x.B u6 1) (dh x.W x.B u6 2)))% 4294967296=t2F (dh x.W x.B u3)/\aa P1 P1/\aa (P0 u6) (P0 u6)/\aa u9.sb u9.sb/\True)/\∀(u2:Nat),C (SV.int .i64 A (u6:Int))=C (SV.int .i64 A (u2:Int))->I6 ((u6:Int)+1)/\∃(u1:Nat),(u1<=64/\64 - u1<64 - u6)/\(u6:Int)+1=(u1:Int)/\aa P1 P1 /\aa (SB.cells [SV.int .u32 A ((Zn (dh x.W x.B u4) (SR u4) (wL x.B 48 u4)+t2F (dh x.W x.B u2))% 4294967296),SV.int .u32 A (dh x.W x.B u6 0),SV.int .u32 A (dh x.W x.B u6 1),SV.int .u32 A (dh x.W x.B u6 2),SV.int .u32 A ((dh x.W x.B u6 3+Zn (dh x.W x.B u4) (SR u4) (wL x.B 48 u4))% 4294967296),SV.int .u32 A (dh x.W x.B u6 4),SV.int .u32 A (dh x.W x.B u6 5),SV.int .u32 A (dh x.W x.B u6 6)] 8 168) (SB.cells (K8 (λi=>R7 i u1) []) 8 168)/\aa u9.sb u9.sb/\True)/\(L ((u6:Int)<64)=A->∃(_u0:Unit),True /\aa (SB.cells (R8 0 u9 u6::R8 1 u9 u6::R8 2 u9 u6::R8 3 u9 u6::R8 4 u9 u6::R8 5 u9 u6::R8 6 u9 u6::R8 7 u9 u6::uS (λi=>R3 i u9) [SV.int .i64 A u9.held,SV.int .u64 A u9.size]) 74 171) (SB.cells (R9 0::R9 1::R9 2::R9 3::R9 4::R9 5::R9 6::R9 7::uS R1 [SV.int .i64 A x.held,SV.int .u64 A x.size]) 74 171) /\af (SV.aO []) (SV.aO []))))) (SB.rows A 64 [ak.int ag (wL x.B 48)] A 64 234))) (fun(u6:Nat)=>(SB.cells (K8 (λi=>R6 i u6) []) 8 168)))) (fun(n0:Nat)=>SV.int .u32 A (lJ x.W x.B n0)))) (fun(n0:Nat) (u9:Sh) (u6:Nat)=>SV.int .u32 A ((u9.W n0+dh x.W x.B u6 n0)% 4294967296)))) (fun(n0:Nat) (u1:Nat)=>SV.int .u32 A (dh x.W x.B u1 n0)))) (fun(n0:Nat) (u6:Nat)=>SV.int .u32 A (dh x.W x.B u6 n0)))) (fun(n0:Nat) (u7:Nat)=>SV.int .u32 A (dh x.W x.B u7 n0)))) (fun(n0:Nat) (u9:Sh)=>SV.int .u32 A (wL u9.B 48 n0)))) (fun(n0:Nat) (u9:Sh)=>SV.int .u8 A (u9.B n0)))) (fun(n0:Nat) (u9:Sh)=>SV.int .u32 A (u9.W n0)))) (fun(n0:Nat)=>SV.int .u8 A (x.B n0)))) (fun(n0:Nat)=>SV.int .u32 A (x.W n0))):=by kernel_rfl
def U (a:Int):Prop:=0<=a/\a<=4294967295
theorem u2 (h:U a)(h':U b):0<=a/\a<=4294967295/\0<=b/\b<=4294967295:=⟨h.1,h.2,h'.1,h'.2⟩
theorem um (a:Int):U (a% 4294967296):=⟨by omega,by omega⟩
theorem ud (h:U a)(k:Nat)(hk:0<k):U (a / (k:Int)):=by obtain⟨h0,h1⟩:=h;have:=Int.ediv_le_self (b:=(k:Int)) h0;exact⟨Int.ediv_nonneg h0 (by omega),by omega⟩
theorem uM:U 4294967295:=⟨by decide,by decide⟩
theorem wC {op:BinOp}(hop:op=.and∨op=.or∨op=.xor)(ha:U a)(hb:U b):U (bitsOf op a b):=by
 obtain⟨a0,a1⟩:=ha;obtain⟨b0,b1⟩:=hb;have la:a.toNat<2^ 32:=by omega
 have lb:b.toNat<2^ 32:=by omega
 have h1:=Nat.and_lt_two_pow (n:=32) a.toNat lb;have h2:=Nat.or_lt_two_pow (n:=32) la lb;have h3:=Nat.xor_lt_two_pow (n:=32) la lb;rcases hop with rfl | rfl | rfl
 ·refine⟨a_ _,?_⟩;show((a.toNat &&& b.toNat:Nat):Int)<=_;omega
 ·refine⟨a_ _,?_⟩;show((a.toNat ||| b.toNat:Nat):Int)<=_;omega
 ·refine⟨a_ _,?_⟩;show((a.toNat ^^^ b.toNat:Nat):Int)<=_;omega
theorem MM (ha:U a)(hb:U b):U (bitsOf .and a b):=wC (.inl rfl) ha hb
theorem MQ (ha:U a)(hb:U b):U (bitsOf .xor a b):=wC (.inr (.inr rfl)) ha hb
theorem G2 {x:Int}(h:U x)(n:Int):U (dJ x n):=wC (.inr (.inl rfl)) (um _) (ud h _ (Nat.pow_pos (by decide)))
theorem Qy {n:Int}(h:abr n=F):n=2∨n=6∨n=7∨n=11∨n=13∨n=17∨n=18∨n=19∨n=22∨n=25:=by simpa [abr] using h
theorem U':av S 149 (bh ya):=by
 refine eX (Nb (n:=20) (fn:=V) Tryz.func149 (by kernel_rfl) (by kernel_rfl) ?_);intro args p a h hp;unfold ya at h;split at h
 ·rename_i x n;split at h
  ·rename_i hn;injection h with h;injection h with h1 h2;subst h1;subst h2;have hx:U x:=hp;rcases Qy hn with rfl | rfl | rfl | rfl | rfl | rfl | rfl | rfl | rfl | rfl
   ·exact⟨cv,[.int .u32 A x,.int .i64 F 2],me,λE=>rfl,rfl,rfl,az.of_eq (VU x _) ⟨u2 (um _) (ud hx 4 (by decide)),λ_=>rfl⟩⟩
   ·exact⟨cv,[.int .u32 A x,.int .i64 F 6],me,λE=>rfl,rfl,rfl,az.of_eq (VV x _) ⟨u2 (um _) (ud hx 64 (by decide)),λ_=>rfl⟩⟩
   ·exact⟨cv,[.int .u32 A x,.int .i64 F 7],me,λE=>rfl,rfl,rfl,az.of_eq (VW x _) ⟨u2 (um _) (ud hx 128 (by decide)),λ_=>rfl⟩⟩
   ·exact⟨cv,[.int .u32 A x,.int .i64 F 11],me,λE=>rfl,rfl,rfl,az.of_eq (Rf x _) ⟨u2 (um _) (ud hx 2048 (by decide)),λ_=>rfl⟩⟩
   ·exact⟨cv,[.int .u32 A x,.int .i64 F 13],me,λE=>rfl,rfl,rfl,az.of_eq (Rg x _) ⟨u2 (um _) (ud hx 8192 (by decide)),λ_=>rfl⟩⟩
   ·exact⟨cv,[.int .u32 A x,.int .i64 F 17],me,λE=>rfl,rfl,rfl,az.of_eq (Rh x _) ⟨u2 (um _) (ud hx 131072 (by decide)),λ_=>rfl⟩⟩
   ·exact⟨cv,[.int .u32 A x,.int .i64 F 18],me,λE=>rfl,rfl,rfl,az.of_eq (Ri x _) ⟨u2 (um _) (ud hx 262144 (by decide)),λ_=>rfl⟩⟩
   ·exact⟨cv,[.int .u32 A x,.int .i64 F 19],me,λE=>rfl,rfl,rfl,az.of_eq (Rj x _) ⟨u2 (um _) (ud hx 524288 (by decide)),λ_=>rfl⟩⟩
   ·exact⟨cv,[.int .u32 A x,.int .i64 F 22],me,λE=>rfl,rfl,rfl,az.of_eq (Rk x _) ⟨u2 (um _) (ud hx 4194304 (by decide)),λ_=>rfl⟩⟩
   ·exact⟨cv,[.int .u32 A x,.int .i64 F 25],me,λE=>rfl,rfl,rfl,az.of_eq (Rl x _) ⟨u2 (um _) (ud hx 33554432 (by decide)),λ_=>rfl⟩⟩
  ·cases h
 ·cases h
theorem D4:bt S (λf=>aD f LI):=.cons U' (aS _) eZ
theorem aaF (b:Nat->Int):Sx.Good S (No b):=.of bX D4 bw
theorem Sx.aa.Vx {c:ak}{tot:Nat}{ty:TypeId}:aa (.cells (gq c 0 n) tot ty) (.rows A n [c] A tot ty):=by
 refine aa.of rfl rfl λ_=> ?_;refine⟨rfl,λE o ⟨cs,fr,h1,h2,h3,h4⟩=>⟨cs,fr,h1,λ_=>h2,?_,h4,λi k col hi hk=> ?_⟩,λ_=>rfl⟩
 ·cases n with
  | zero=>simp
  | succ m =>
    have hl:m<(gq c 0 (m+1)).length:=by rw[mW];omega
    have:=h3 m _ (bf hl);have:=(Array.getElem?_eq_some_iff.1 this).1;simp only[List.length_cons,List.length_nil];omega
 ·match k,hk with
  | 0,hk =>
    simp only[b7,Option.some.injEq] at hk;subst hk;have hl:i<(gq c 0 n).length:=by rw[mW];omega
    have h5:=h3 i _ (bf hl);have h6:=(qG c n 0 i _ (bf hl)).2;rw[h6,cl] at h5;simpa using h5
theorem Sx.aa.Xk {z:Bool}{q:IntKind}{f g:Nat->Int}{tot:Nat}{ty:TypeId}(h: ∀ i,i<n->f i=g i):aa (.rows z n [.int q f] A tot ty) (.rows z n [.int q g] A tot ty):=by
 refine aa.of rfl rfl λhno=> ?_;refine⟨hno,λE o ⟨c,fr,h1,h2,h3,h4,h5⟩=>⟨c,fr,h1,h2,h3,h4,λi k col hi hk=> ?_⟩,λ_=>rfl⟩
 match k,hk with
 | 0,hk =>simp only[b7,Option.some.injEq] at hk;subst hk;have:=h5 i 0 (.int q f) hi rfl;simp only[ak.at,h i hi] at this;exact this
theorem YO {b:Nat->Int}(hb: ∀ j,j<64->U (b j))(hj:j<16):U (Wg b j):=wC (.inr (.inl rfl)) (wC (.inr (.inl rfl)) (wC (.inr (.inl rfl)) (um _) (um _)) (um _)) (hb _ (by omega))
theorem G4 (b:Nat->Int)(n j:Nat):wL b (n+1) j=if j=16+n then Zb (wL b n (16+n - 16)) (wL b n (16+n - 15)) (wL b n (16+n - 7)) (wL b n (16+n - 2))else wL b n j:=rfl
theorem acZ {b:Nat->Int}(hb: ∀ j,j<64->U (b j)): ∀(n j:Nat),U (wL b n j)
 | 0,j=>by
   unfold wL;split
   ·exact YO hb (by assumption)
   ·exact⟨by decide,by decide⟩
 | n+1,j=>by
   unfold wL;split
   ·exact um _
   ·exact acZ hb n j
theorem Zs {W B:Nat->Int}(hW: ∀ j,j<8->U (W j)): ∀(i j:Nat),j<8->U (dh W B i j)
 | 0,j,hj=>hW j hj
 | i+1,j,hj=>by
   have ih:=Zs (B:=B) hW i;unfold dh yd
   match j,hj with
   | 0,_=>exact um _
   | 1,_=>exact ih 0 (by decide)
   | 2,_=>exact ih 1 (by decide)
   | 3,_=>exact ih 2 (by decide)
   | 4,_=>exact um _
   | 5,_=>exact ih 4 (by decide)
   | 6,_=>exact ih 5 (by decide)
   | 7,_=>exact ih 6 (by decide)
theorem Sh.Ok.bu {x:Sh}(h:x.Ok)(j:Nat)(hj:j<64):U (x.B j):=by have:=h.b j hj;exact⟨this.1,by omega⟩
theorem GU {x:Sh}(hx:x.Ok):az (rD (No x.B) 148 ax [.slc 0 8 64 F 64] Sh.sb x (λ_:Unit=>(True,wm x.B,x))):=by
 refine az.of_eq (V0 x) ?_;dsimp only;have hb:=hx.bu;have b: ∀ j,j<64->U (x.B j):=hb;refine xe.of (N:=16) (λi r hi hr=>⟨b _ (by omega),b _ (by omega),u2 (um _) (um _),b _ (by omega),u2 (wC (.inr (.inl rfl)) (um _) (um _)) (um _),b _ (by omega),u2 (wC (.inr (.inl rfl)) (wC (.inr (.inl rfl)) (um _) (um _)) (um _)) (b _ (by omega)),hr⟩) ⟨⟨0,by omega,rfl,Sx.aa.trans (Sx.aa.cells (cs':=gq (.int .u32 (wL x.B 0)) 0 64) (λE=>rfl) rfl) Sx.aa.Vx,aa.refl _,aa.refl _,trivial⟩,λn hn=>⟨λa=> ?_,λa=> ?_⟩⟩ 16 0 (by decide)
 ·have a:=of_decide_eq_true a;have e15:0+(16+(n:Int) - 15).toNat=16+n - 15:=by omega
  have e2:0+(16+(n:Int) - 2).toNat=16+n - 2:=by omega
  have e7:0+(16+(n:Int) - 7).toNat=16+n - 7:=by omega
  have e16:0+(16+(n:Int) - 16).toNat=16+n - 16:=by omega
  have e0:0+(16+(n:Int)).toNat=16+n:=by omega
  have u:=acZ hb n
  refine⟨by omega,by omega,by omega,by omega,by omega,by omega,u _,u _,u2 (G2 (u _) _) (G2 (u _) _),u2 (MQ (G2 (u _) _) (G2 (u _) _)) (ud (u _) 8 (by decide)),u _,u _,u2 (G2 (u _) _) (G2 (u _) _),u2 (MQ (G2 (u _) _) (G2 (u _) _)) (ud (u _) 1024 (by decide)),
   by omega,by omega,by omega,by omega,by omega,by omega,by omega,by omega,by omega,n+1,by omega,by omega,?_,aa.refl _,aa.refl _,trivial⟩
  refine Sx.aa.Xk λj hj=> ?_;rw[e0];show _=wL x.B (n+1) j;by_cases ej:j=16+n
  ·rw[if_pos ej,G4,if_pos ej,e15,e2,e7,e16];rfl
  ·rw[if_neg ej,G4,if_neg ej]
 ·have a:=of_decide_eq_false a;have e:n=48:=by omega
  subst e;exact⟨by omega,(),trivial,aa.refl _,λ_=>rfl⟩
theorem Sh.Zi (x:Sh):(Sh.sb x).wf 0=F/\(Sh.sb x).ro=A/\(Sh.sb x).no=false:=⟨rfl,rfl,rfl⟩
theorem QS:av S 148 (qg Sh.sb uN):=by
 refine Fk (n:=20) (fn:=ax) Tryz.func148 (by kernel_rfl) (by kernel_rfl) Sh.Zi ?_;intro args g x h hp;unfold uN at h;split at h
 ·injection h with h;subst h;exact⟨No x.B,[.slc 0 8 64 F 64],aaF _,λE=>rfl,rfl,λ_=>rfl,GU hp⟩
 ·cases h
theorem PM:bt S (λf=>aD f T6):=.cons QS (oS _ _) D4
theorem Xf (W B:Nat->Int):Sx.Good S (Ft W B):=.of bX PM bw
theorem Qa {x:Sh}(hx:x.Ok):az (rD (Ft x.W x.B) 97 aP [.ptr 0 F 0,.slc 0 8 64 F 64] Sh.sb x (λ_:Unit=>(True,.aO [],{x with W:=lJ x.W x.B}))):=by
 refine az.of_eq (acV x) ?_;dsimp only;refine⟨x,aa.refl _,hx,λ_ _=>⟨⟨0,by omega,rfl,Sx.aa.trans (Sx.aa.cells (cs':=gq (.int .u32 (wL x.B 48)) 0 64) (λE=>rfl) rfl) Sx.aa.Vx,aa.refl _,aa.refl _,trivial⟩,λi hi=>⟨λa=> ?_,λa=> ?_⟩⟩⟩
 ·have a:=of_decide_eq_true a;have u:=Zs (B:=x.B) hx.w i;have u0:=u 0 (by decide);have u1:=u 1 (by decide);have u2':=u 2 (by decide);have u4:=u 4 (by decide);have u5:=u 5 (by decide);have u6:=u 6 (by decide);have r: ∀ {y:Int} (n:Int),U y->U (dJ y n):=λn h=>G2 h n;refine⟨⟨u2 u4 u5,u2 uM u4,u2 (MQ uM u4) u6,u2 (MM u4 u5) (MM (MQ uM u4) u6),by omega,by omega,by omega,by omega,u4,rfl,rfl,rfl,rfl,u4,rfl,rfl,rfl,rfl,u2 (r _ u4) (r _ u4),u4,rfl,rfl,rfl,rfl,u2 (MQ (r _ u4) (r _ u4)) (r _ u4),i,rfl,?_,aa.refl _,aa.refl _,aa.refl _,trivial⟩,λi1 h1 =>⟨⟨u2 u0 u1,u2 u0 u2',u2 (MM u0 u1) (MM u0 u2'),u2 u1 u2',u2 (MQ (MM u0 u1) (MM u0 u2')) (MM u1 u2'),u0,rfl,rfl,rfl,rfl,u0,rfl,rfl,rfl,rfl,u2 (r _ u0) (r _ u0),u0,rfl,rfl,rfl,rfl,u2 (MQ (r _ u0) (r _ u0)) (r _ u0),i,rfl,rfl,aa.refl _,aa.refl _,aa.refl _,trivial⟩,λi2 h2=>⟨by omega,i+1,by omega,by omega,aa.refl _,?_,aa.refl _,trivial⟩⟩⟩
  ·rw[a!,cl];rfl
  ·injection h1 with h1;injection h1 with _ _ h1;injection h2 with h2;injection h2 with _ _ h2;have e1:i1=i:=by omega
   have e2:i2=i:=by omega
   subst e1;subst e2;exact aa.refl _
 ·have a:=of_decide_eq_false a;have e:i=64:=by omega
  subst e;exact⟨(),trivial,aa.refl _,λ_=>rfl⟩
theorem aa8:av S 97 (qg Sh.sb Gm):=by
 refine Fk (n:=20) (fn:=aP) Tryz.func97 (by kernel_rfl) (by kernel_rfl) Sh.Zi ?_;intro args g x h hp;unfold Gm at h;split at h
 ·injection h with h;subst h;exact⟨Ft x.W x.B,[.ptr 0 F 0,.slc 0 8 64 F 64],Xf _ _,λE=>rfl,rfl,λ_=>rfl,Qa hp⟩
 ·cases h
noncomputable def T7:List (FuncId×PT):=(97,qg Sh.sb Gm)::gX
theorem PN:bt S (λf=>aD f T7):=.cons aa8 (oS _ _) eZ
def Ts (j:Nat):Int:=De [1779033703,3144134277,1013904242,2773480762,1359893119,2600822924,528734635,1541459225] j
def yO (T:List UInt8)(q j:Nat):Int:=ah T ((64*q+j:Nat):Int)
def qc (T:List UInt8):Nat->Nat->Int
 | 0=>Ts
 | q+1=>lJ (qc T q) (yO T q)
structure qu (x:Sh)(T:List UInt8):Prop where
 ok:x.Ok
 w: ∀ j,j<8->x.W j=qc T (T.length / 64) j
 b: ∀ j,j<T.length% 64->x.B j=yO T (T.length / 64) j
 h:x.held=((T.length% 64:Nat):Int)
def Dl (x:Sh)(T:List UInt8):Prop:=qu x T/\x.size=(T.length:Int)% 18446744073709551616
noncomputable def RJ (T s:List UInt8)(z:Int):bg :=
 {α:=Nat×Sh,pre:=λ_ x=>x.1<=s.length/\qu x.2 (T++s.take x.1)/\x.2.size=z,kY:=λ_ x=>s.length - x.1,fresh:=0,slots:=λ_ x=>[(1,.str A (s.drop x.1))],
  mem:=λ_ x=>[(0,x.2.sb)]}
noncomputable def Np (T s:List UInt8)(z:Int):fQ:={cv with cQ:=λf=>aD f T7,bD:=λf=>if f=60 then [(2,always (RJ T s z))] else []}
theorem aaK (T s:List UInt8)(z:Int):Sx.Good S (Np T s z):=.of bX PN bw
def yf (g:Sh×List UInt8):SB:=g.1.sb
def yF:List SV->Option (Sh×List UInt8->Prop×(Sh->Prop×SV×(Sh×List UInt8)))
 | [.ptr 0 F 0,.str A s]=>C λg=>(Dl g.1 g.2/\s.length<1152921504606846976,λy=>(Dl y (g.2++s),.ptr 0 F 0,(y,g.2++s)))
 | _=>Q
def mC (x:Sh)(D:List UInt8):Sh :=⟨x.W,λj=>if 8+x.held.toNat - 8<=j/\j<8+x.held.toNat - 8+min D.length (64 - x.held.toNat)then((D.getD (j - (8+x.held.toNat - 8)) 0).toNat:Int)else x.B j,x.held+((min D.length (64 - x.held.toNat):Nat):Int),x.size⟩
theorem YI (x:Sh)(T s:List UInt8)(z:Int):VC.holds (rD (Np T s z) 60 ay [.ptr 0 F 0,.str A s] yf (x,T) (λy:Sh=>(Dl y (T++s),.ptr 0 F 0,(y,T++s))))=((λR0:Nat->SV=>((λR1:Nat->SV=>((λR2:Nat->(Nat×Sh)->SV=>((λR3:Nat->(Nat×Sh)->SV=>((λR4:Nat->(Nat×Sh)->SV=>((λR5:Nat->(Nat×Sh)->SV=>((λR6:Nat->(Sh)->SV=>((λR7:Nat->(Sh)->SV=>((λR8:Nat->(Sh)->SV=>((λR9:Nat->(Nat×Sh)->SV=>((λR10:Nat->(Nat×Sh)->SV=>((λR11:Nat->(Nat×Sh)->SV=>((λR12:Nat->(Nat×Sh)->SV=>((λR13:Nat->(Nat×Sh)->SV=>((λR14:Nat->(Sh)->SV=>((λR15:Nat->(Sh)->SV=>((λR16:Nat->(Sh)->SV=>((λR17:Nat->(Nat×Sh)->SV=>((λR18:Nat->(Nat×Sh)->SV=>((λR19:Nat->(Nat×Sh)->SV=>((λR20:Nat->(Nat×Sh)->SV=>((λR21:Nat->(Nat×Sh)->SV=>((λR22:Nat->(Sh)->SV=>((λR23:Nat->(Sh)->SV=>((λP0:(Nat×Sh)->SB=>((λP1:(Nat×Sh)->SB=>(((∃(u10:Nat×Sh),(u10.1<=s.length/\qu u10.2 (T++Z u10.1 s)/\u10.2.size=z)/\s=I u10.1 s /\aa (SB.cells (R0 0::R0 1::R0 2::R0 3::R0 4::R0 5::R0 6::R0 7::uS R1 [SV.int .i64 A x.held,SV.int .u64 A ((x.size+(s.length:Int)% 18446744073709551616)% 18446744073709551616)]) 74 171) (SB.cells (R2 0 u10::R2 1 u10::R2 2 u10::R2 3 u10::R2 4 u10::R2 5 u10::R2 6 u10::R2 7 u10::uS (λi=>R3 i u10) [SV.int .i64 A u10.2.held,SV.int .u64 A u10.2.size]) 74 171) /\True)/\∀(u9:Nat×Sh),u9.1<=s.length/\qu u9.2 (T++Z u9.1 s)/\u9.2.size=z->((!decide (I u9.1 s=[]))=F->(0<=u9.2.held/\u9.2.held<=64/\(64:Int)<=(64:Int))/\(L (64=u9.2.held.toNat)=F->((8:Nat)<=(8:Nat)/\8+(64 - u9.2.held.toNat)<=8+(64:Nat))/\((-9223372036854775808:Int)<=u9.2.held+(↑(min (I u9.1 s).length (64 - u9.2.held.toNat)):Int)/\u9.2.held+(↑(min (I u9.1 s).length (64 - u9.2.held.toNat)):Int)<=9223372036854775807)/\(0<=(↑(min (I u9.1 s).length (64 - u9.2.held.toNat)):Int)/\(↑(min (I u9.1 s).length (64 - u9.2.held.toNat)):Int)<=(↑(I u9.1 s).length:Int)/\(↑(I u9.1 s).length:Int)<=(↑(I u9.1 s).length:Int))/\(L (u9.2.held+(↑(min (I u9.1 s).length (64 - u9.2.held.toNat)):Int)=64)=F ->∃(u8:Sh),aa (P1 u9) (SB.cells (R6 0 u8::R6 1 u8::R6 2 u8::R6 3 u8::R6 4 u8::R6 5 u8::R6 6 u8::R6 7 u8::uS (λi=>R7 i u8) [SV.int .i64 A u8.held,SV.int .u64 A u8.size]) 74 171)/\u8.Ok/\∀(_:Unit),True->∃(u6:Nat×Sh),((u6.1<=s.length/\qu u6.2 (T++Z u6.1 s)/\u6.2.size=z)/\s.length - u6.1<s.length - u9.1)/\bO (I u9.1 s) (C (an 37)) Q (↑(min (I u9.1 s).length (64 - u9.2.held.toNat)):Int) (↑(I u9.1 s).length:Int)=I u6.1 s /\aa (SB.cells (R8 0 u8::R8 1 u8::R8 2 u8::R8 3 u8::R8 4 u8::R8 5 u8::R8 6 u8::R8 7 u8::uS (λi=>R7 i u8) [SV.int .i64 F 0,SV.int .u64 A u8.size]) 74 171) (SB.cells (R9 0 u6::R9 1 u6::R9 2 u6::R9 3 u6::R9 4 u6::R9 5 u6::R9 6 u6::R9 7 u6::uS (λi=>R10 i u6) [SV.int .i64 A u6.2.held,SV.int .u64 A u6.2.size]) 74 171) /\True)/\(L (u9.2.held+(↑(min (I u9.1 s).length (64 - u9.2.held.toNat)):Int)=64)=A->∃(u5:Nat×Sh),((u5.1<=s.length/\qu u5.2 (T++Z u5.1 s)/\u5.2.size=z)/\s.length - u5.1<s.length - u9.1)/\bO (I u9.1 s) (C (an 37)) Q (↑(min (I u9.1 s).length (64 - u9.2.held.toNat)):Int) (↑(I u9.1 s).length:Int)=I u5.1 s /\aa (P1 u9) (SB.cells (R11 0 u5::R11 1 u5::R11 2 u5::R11 3 u5::R11 4 u5::R11 5 u5::R11 6 u5::R11 7 u5::uS (λi=>R12 i u5) [SV.int .i64 A u5.2.held,SV.int .u64 A u5.2.size]) 74 171)/\True))/\(L (64=u9.2.held.toNat)=A->((8:Nat)<=8+u9.2.held.toNat/\8+u9.2.held.toNat+(64 - u9.2.held.toNat)<=8+(64:Nat))/\((-9223372036854775808:Int)<=u9.2.held+(↑(min (I u9.1 s).length (64 - u9.2.held.toNat)):Int) /\u9.2.held+(↑(min (I u9.1 s).length (64 - u9.2.held.toNat)):Int)<=9223372036854775807)/\(0<=(↑(min (I u9.1 s).length (64 - u9.2.held.toNat)):Int)/\(↑(min (I u9.1 s).length (64 - u9.2.held.toNat)):Int)<=(↑(I u9.1 s).length:Int)/\(↑(I u9.1 s).length:Int)<=(↑(I u9.1 s).length:Int))/\(L (u9.2.held+(↑(min (I u9.1 s).length (64 - u9.2.held.toNat)):Int)=64)=F ->∃(u4:Sh),aa (P0 u9) (SB.cells (R14 0 u4::R14 1 u4::R14 2 u4::R14 3 u4::R14 4 u4::R14 5 u4::R14 6 u4::R14 7 u4::uS (λi=>R15 i u4) [SV.int .i64 A u4.held,SV.int .u64 A u4.size]) 74 171)/\u4.Ok/\∀(_:Unit),True->∃(u2:Nat×Sh),((u2.1<=s.length/\qu u2.2 (T++Z u2.1 s)/\u2.2.size=z)/\s.length - u2.1<s.length - u9.1) /\bO (I u9.1 s) (C (an 37)) Q (↑(min (I u9.1 s).length (64 - u9.2.held.toNat)):Int) (↑(I u9.1 s).length:Int)=I u2.1 s /\aa (SB.cells (R16 0 u4::R16 1 u4::R16 2 u4::R16 3 u4::R16 4 u4::R16 5 u4::R16 6 u4::R16 7 u4::uS (λi=>R15 i u4) [SV.int .i64 F 0,SV.int .u64 A u4.size]) 74 171) (SB.cells (R17 0 u2::R17 1 u2::R17 2 u2::R17 3 u2::R17 4 u2::R17 5 u2::R17 6 u2::R17 7 u2::uS (λi=>R18 i u2) [SV.int .i64 A u2.2.held,SV.int .u64 A u2.2.size]) 74 171) /\True)/\(L (u9.2.held+(↑(min (I u9.1 s).length (64 - u9.2.held.toNat)):Int)=64)=A->∃(u1:Nat×Sh),((u1.1<=s.length/\qu u1.2 (T++Z u1.1 s)/\u1.2.size=z)/\s.length - u1.1<s.length - u9.1)/\bO (I u9.1 s) (C (an 37)) Q (↑(min (I u9.1 s).length (64 - u9.2.held.toNat)):Int) (↑(I u9.1 s).length:Int)=I u1.1 s /\aa (P0 u9) (SB.cells (R19 0 u1::R19 1 u1::R19 2 u1::R19 3 u1::R19 4 u1::R19 5 u1::R19 6 u1::R19 7 u1::uS (λi=>R20 i u1) [SV.int .i64 A u1.2.held,SV.int .u64 A u1.2.size]) 74 171)/\True)))/\((!decide (I u9.1 s=[]))=A->∃(u0:Sh),Dl u0 (T++s) /\aa (SB.cells (R4 0 u9::R4 1 u9::R4 2 u9::R4 3 u9::R4 4 u9::R4 5 u9::R4 6 u9::R4 7 u9::uS (λi=>R21 i u9) [SV.int .i64 A u9.2.held,SV.int .u64 A u9.2.size]) 74 171) (SB.cells (R22 0 u0::R22 1 u0::R22 2 u0::R22 3 u0::R22 4 u0::R22 5 u0::R22 6 u0::R22 7 u0::uS (λi=>R23 i u0) [SV.int .i64 A u0.held,SV.int .u64 A u0.size]) 74 171) /\af (SV.ptr 0 F 0) (SV.ptr 0 F 0))))) (fun(u9:Nat×Sh)=>(SB.cells (R4 0 u9::R4 1 u9::R4 2 u9::R4 3 u9::R4 4 u9::R4 5 u9::R4 6 u9::R4 7 u9::uS (λi=>R5 i u9) [SV.int .i64 A (u9.2.held+(↑(min (I u9.1 s).length (64 - u9.2.held.toNat)):Int)),SV.int .u64 A u9.2.size]) 74 171)))) (fun(u9:Nat×Sh)=>(SB.cells (R4 0 u9::R4 1 u9::R4 2 u9::R4 3 u9::R4 4 u9::R4 5 u9::R4 6 u9::R4 7 u9::uS (λi=>R13 i u9) [SV.int .i64 A (u9.2.held+(↑(min (I u9.1 s).length (64 - u9.2.held.toNat)):Int)),SV.int .u64 A u9.2.size]) 74 171)))) (fun(n0:Nat) (u0:Sh)=>SV.int .u8 A (u0.B n0)))) (fun(n0:Nat) (u0:Sh)=>SV.int .u32 A (u0.W n0)))) (fun(n0:Nat) (u9:Nat×Sh)=>SV.int .u8 A (u9.2.B n0)))) (fun(n0:Nat) (u1:Nat×Sh)=>SV.int .u8 A (u1.2.B n0)))) (fun(n0:Nat) (u1:Nat×Sh)=>SV.int .u32 A (u1.2.W n0)))) (fun(n0:Nat) (u2:Nat×Sh)=>SV.int .u8 A (u2.2.B n0)))) (fun(n0:Nat) (u2:Nat×Sh)=>SV.int .u32 A (u2.2.W n0)))) (fun(n0:Nat) (u4:Sh)=>SV.int .u32 A (lJ u4.W u4.B n0)))) (fun(n0:Nat) (u4:Sh)=>SV.int .u8 A (u4.B n0)))) (fun(n0:Nat) (u4:Sh)=>SV.int .u32 A (u4.W n0)))) (fun(n0:Nat) (u9:Nat×Sh)=>SV.int .u8 A (if 8+u9.2.held.toNat - 8<=(n0:Nat)/\(n0:Nat)<8+u9.2.held.toNat - 8+min (I u9.1 s).length (64 - u9.2.held.toNat)then(↑((I u9.1 s).getD (n0 - (8+u9.2.held.toNat - 8)) (0:UInt8)).toNat:Int)else u9.2.B n0)))) (fun(n0:Nat) (u5:Nat×Sh)=>SV.int .u8 A (u5.2.B n0)))) (fun(n0:Nat) (u5:Nat×Sh)=>SV.int .u32 A (u5.2.W n0)))) (fun(n0:Nat) (u6:Nat×Sh)=>SV.int .u8 A (u6.2.B n0)))) (fun(n0:Nat) (u6:Nat×Sh)=>SV.int .u32 A (u6.2.W n0)))) (fun(n0:Nat) (u8:Sh)=>SV.int .u32 A (lJ u8.W u8.B n0)))) (fun(n0:Nat) (u8:Sh)=>SV.int .u8 A (u8.B n0)))) (fun(n0:Nat) (u8:Sh)=>SV.int .u32 A (u8.W n0)))) (fun(n0:Nat) (u9:Nat×Sh)=>SV.int .u8 A (if(0:Nat)<=(n0:Nat)/\(n0:Nat)<0+min (I u9.1 s).length (64 - u9.2.held.toNat)then(↑((I u9.1 s).getD n0 (0:UInt8)).toNat:Int)else u9.2.B n0)))) (fun(n0:Nat) (u9:Nat×Sh)=>SV.int .u32 A (u9.2.W n0)))) (fun(n0:Nat) (u10:Nat×Sh)=>SV.int .u8 A (u10.2.B n0)))) (fun(n0:Nat) (u10:Nat×Sh)=>SV.int .u32 A (u10.2.W n0)))) (fun(n0:Nat)=>SV.int .u8 A (x.B n0)))) (fun(n0:Nat)=>SV.int .u32 A (x.W n0))):=by kernel_rfl
theorem Kn {B B':Nat->Int}(h: ∀ j,j<64->B j=B' j): ∀(n j:Nat),wL B n j=wL B' n j
 | 0,j=>by
   unfold wL;by_cases e:j<16
   ·simp only[e,if_true,Wg,h (4*j) (by omega),h (4*j+1) (by omega),h (4*j+2) (by omega),h (4*j+3) (by omega)]
   ·simp only[e,if_false]
 | n+1,j=>by simp only[G4,Kn h n]
theorem GN {v v':Nat->Int}(h: ∀ j,j<8->v j=v' j)(k w:Int): ∀ j,j<8->yd v k w j=yd v' k w j:=by
 have h0:=h 0 (by decide);have h1:=h 1 (by decide);have h2:=h 2 (by decide);have h3:=h 3 (by decide);have h4:=h 4 (by decide);have h5:=h 5 (by decide);have h6:=h 6 (by decide);have h7:=h 7 (by decide);intro j hj
 match j,hj with
 | 0,_=>simp only[yd,Zn,t2F,h0,h1,h2,h4,h5,h6,h7]
 | 1,_=>exact h0
 | 2,_=>exact h1
 | 3,_=>exact h2
 | 4,_=>simp only[yd,Zn,h3,h4,h5,h6,h7]
 | 5,_=>exact h4
 | 6,_=>exact h5
 | 7,_=>exact h6
theorem EX {W W' B B':Nat->Int}(hW: ∀ j,j<8->W j=W' j)(hB: ∀ j,j<64->B j=B' j): ∀ i j,j<8->dh W B i j=dh W' B' i j
 | 0,j,hj=>hW j hj
 | i+1,j,hj=>by simp only[dh];rw[GN (EX hW hB i) _ _ j hj,Kn hB]
theorem BJ {W W' B B':Nat->Int}(hW: ∀ j,j<8->W j=W' j)(hB: ∀ j,j<64->B j=B' j)(j:Nat)(hj:j<8):lJ W B j=lJ W' B' j:=by simp only[lJ,hW j hj,EX hW hB 64 j hj]
theorem Aw (T:List UInt8)(q j:Nat):yO T q j=((T.getD (64*q+j) 0).toNat:Int):=by unfold yO ah;rw[a!]
theorem Ax (D:List UInt8){q:Nat}(h:64*q+j<T.length):yO (T++D) q j=yO T q j:=by rw[Aw,Aw,Y,Y,List.getElem?_append_left h]
theorem Hq (D:List UInt8){q:Nat}(h:T.length<=64*q+j):yO (T++D) q j=((D.getD (64*q+j - T.length) 0).toNat:Int):=by rw[Aw,Y,Y,List.getElem?_append_right h]
theorem qd (T D:List UInt8): ∀ q,64*q<=T.length->∀ j,j<8->qc (T++D) q j=qc T q j
 | 0,_,_,_=>rfl
 | q+1,h,j,hj=>by simp only[qc];exact BJ (qd T D q (by omega)) (λi hi=>Ax D (by omega)) j hj
theorem aa7 {W B:Nat->Int}(j:Nat):U (lJ W B j):=um _
theorem Tf (D:List UInt8)(i:Nat):0<=((D.getD i 0).toNat:Int)/\((D.getD i 0).toNat:Int)<=255:=by have:=(D.getD i 0).toNat_lt;omega
theorem getD_take {i:Nat}(h:i<n):(D.take n).getD i 0=D.getD i 0:=by rw[Y,Y,List.getElem?_take_of_lt h]
theorem Mc {x:Sh}(h:qu x T)(D:List UInt8):(mC x D).Ok:=by
 refine⟨h.ok.w,λj hj=> ?_⟩;unfold mC;simp only;split
 ·exact Tf _ _
 ·exact h.ok.b j hj
theorem Ze {x:Sh}(h:qu x T)(j:Nat)(hj:j<T.length% 64+min D.length (64 - T.length% 64)):(mC x D).B j=yO (T++D.take (min D.length (64 - T.length% 64))) (T.length / 64) j:=by
 have hh:=h.h;have e:x.held.toNat=T.length% 64:=by omega
 unfold mC;simp only[e];have hd:=bH T.length 64;by_cases c:j<T.length% 64
 ·rw[if_neg (by omega),h.b j c,Ax _ (by omega)]
 ·rw[if_pos (by omega),Hq _ (by omega),getD_take (by omega)];congr 3;omega
theorem US {x:Sh}(h:qu x T)(hc:T.length% 64+min D.length (64 - T.length% 64)<64):qu (mC x D) (T++D.take (min D.length (64 - T.length% 64))):=by
 have hl:(T++D.take (min D.length (64 - T.length% 64))).length=T.length+min D.length (64 - T.length% 64):=by rw[bx,b!];omega
 have hd:=bH T.length 64;have e1:(T++D.take (min D.length (64 - T.length% 64))).length / 64=T.length / 64:=by omega
 have e2:(T++D.take (min D.length (64 - T.length% 64))).length% 64=T.length% 64+min D.length (64 - T.length% 64):=by omega
 refine⟨Mc h D,λj hj=> ?_,λj hj=> ?_,?_⟩
 ·rw[e1,qd _ _ _ (by omega) j hj];exact h.w j hj
 ·rw[e2] at hj;rw[e1];exact Ze h j hj
 ·have hh:=h.h;have e:x.held.toNat=T.length% 64:=by omega
  rw[e2];show x.held+((min D.length (64 - x.held.toNat):Nat):Int)=_;rw[e];omega
theorem UR {x:Sh}(h:qu x T)(hc:T.length% 64+min D.length (64 - T.length% 64)=64):qu ⟨lJ (mC x D).W (mC x D).B,(mC x D).B,0,(mC x D).size⟩ (T++D.take (min D.length (64 - T.length% 64))):=by
 have hl:(T++D.take (min D.length (64 - T.length% 64))).length=T.length+min D.length (64 - T.length% 64):=by rw[bx,b!];omega
 have hd:=bH T.length 64;have e1:(T++D.take (min D.length (64 - T.length% 64))).length / 64=T.length / 64+1:=by omega
 have e2:(T++D.take (min D.length (64 - T.length% 64))).length% 64=0:=by omega
 refine⟨⟨λj hj=>aa7 j,(Mc h D).b⟩,λj hj=> ?_,λj hj=> ?_,?_⟩
 ·rw[e1];simp only[qc];refine BJ (λi hi=> ?_) (λi hi=> ?_) j hj
  ·rw[qd _ _ _ (by omega) i hi];exact h.w i hi
  ·exact Ze h i (by omega)
 ·rw[e2] at hj;exact absurd hj (Nat.not_lt_zero _)
 ·rw[e2];rfl
theorem Kt {x:Sh}{s:List UInt8}(hx:Dl x T)(_hs:s.length<1152921504606846976) :
  az (rD (Np T s (((T++s).length:Int)% 18446744073709551616)) 60 ay [.ptr 0 F 0,.str A s] yf (x,T) (λy:Sh=>(Dl y (T++s),.ptr 0 F 0,(y,T++s)))):=by
 refine az.of_eq (YI x T s _) ?_;dsimp only;obtain⟨hx,hz⟩:=hx;refine⟨⟨(0,⟨x.W,x.B,x.held,(x.size+(s.length:Int)% 18446744073709551616)% 18446744073709551616⟩),⟨ct _,?_,?_⟩,rfl,aa.refl _,trivial⟩,λg hg=>⟨λa=> ?_,λa=> ?_⟩⟩
 ·show qu _ (T++s.take 0);rw[List.take_zero,List.append_nil];exact⟨⟨hx.ok.w,hx.ok.b⟩,hx.w,hx.b,hx.h⟩
 ·show(x.size+(s.length:Int)% 18446744073709551616)% 18446744073709551616=_;rw[hz,bx];omega
 ·obtain⟨hk,hi,hsz⟩:=hg;have hD:s.drop g.1≠[]:=by simpa using a
  have hh:=hi.h;generalize hT:T++s.take g.1=T' at hi hh;have e:g.2.held.toNat=T'.length% 64:=by omega
  have hlt:T'.length% 64<64:=Nat.mod_lt _ (by decide);have hp:=List.length_pos_iff.2 hD;have hdl:(s.drop g.1).length=s.length - g.1:=b_ ..;have hmin:min (s.drop g.1).length (64 - g.2.held.toNat)=min (s.drop g.1).length (64 - T'.length% 64):=by rw[e]
  generalize hc:min (s.drop g.1).length (64 - g.2.held.toNat)=cnt at hmin ⊢;have hT2:T++s.take (g.1+cnt)=T'++(s.drop g.1).take cnt:=by rw[← hT,List.append_assoc,List.take_add]
  have hsub:bO (s.drop g.1) (C (an 37)) Q (cnt:Int) ((s.drop g.1).length:Int)=s.drop (g.1+cnt):=by simp only[bO,a!,List.drop_drop]
  have rest: ∀ {p:Prop},(8<=8+g.2.held.toNat/\8+g.2.held.toNat+(64 - g.2.held.toNat)<=8+64->(-9223372036854775808<=g.2.held+(cnt:Int)/\g.2.held+(cnt:Int)<=9223372036854775807)->(0<=(cnt:Int)/\(cnt:Int)<=((s.drop g.1).length:Int)/\((s.drop g.1).length:Int)<=((s.drop g.1).length:Int))->p)->p:=λh=>h (by omega) (by omega) (by omega);refine⟨by omega,λb=>absurd (of_decide_eq_true b) (by omega),λ_=>rest λr1 r2 r3=>⟨r1,r2,r3,λb=> ?_,λb=> ?_⟩⟩
  ·have b:=of_decide_eq_true b;refine⟨mC g.2 (s.drop g.1),?_,Mc hi _,λ_ _=>⟨(g.1+cnt,⟨lJ (mC g.2 (s.drop g.1)).W (mC g.2 (s.drop g.1)).B,(mC g.2 (s.drop g.1)).B,0,(mC g.2 (s.drop g.1)).size⟩),⟨⟨?_,?_,hsz⟩,?_⟩,hsub,Sx.aa.cells (λE=>rfl) rfl,trivial⟩⟩
   ·subst hc;exact aa.refl _
   ·show g.1+cnt<=s.length;omega
   ·show qu _ (T++s.take (g.1+cnt));rw[hT2,hmin];exact UR hi (by omega)
   ·show s.length - (g.1+cnt)<s.length - g.1;omega
  ·have b:=of_decide_eq_false b;refine⟨(g.1+cnt,mC g.2 (s.drop g.1)),⟨⟨?_,?_,hsz⟩,?_⟩,hsub,?_,trivial⟩
   ·show g.1+cnt<=s.length;omega
   ·show qu _ (T++s.take (g.1+cnt));rw[hT2,hmin];exact US hi (by omega)
   ·show s.length - (g.1+cnt)<s.length - g.1;omega
   ·subst hc;exact aa.refl _
 ·obtain⟨hk,hi,hsz⟩:=hg;have hD:s.drop g.1=[]:=by simpa using a
  have hl:(s.drop g.1).length=0:=by rw[hD];rfl
  rw[b_] at hl;rw[List.take_of_length_le (by omega)] at hi;exact⟨g.2,⟨hi,hsz⟩,aa.refl _,λ_=>rfl⟩
theorem Ow (x:Sh×List UInt8):(yf x).wf 0=F/\(yf x).ro=A/\(yf x).no=false:=⟨rfl,rfl,rfl⟩
theorem Wl:av S 60 (qg yf yF):=by
 refine Fk (n:=20) (fn:=ay) Tryz.func60 (by kernel_rfl) (by kernel_rfl) Ow ?_;intro args g x h hp;unfold yF at h;split at h
 ·rename_i s;injection h with h;subst h;obtain⟨x,T⟩:=x;exact⟨Np T s (((T++s).length:Int)% 18446744073709551616),[.ptr 0 F 0,.str A s],aaK _ _ _,λE=>rfl,rfl,λ_=>rfl,Kt hp.1 hp.2⟩
 ·cases h
end
end Go.Proofs.YtoibaecagklkaaaGreatDoor
