/-
  The framework's part 29: contracts of functions that reach one block of their caller's.
-/
import Derived.Test.YtoibaecagklkaaaGreatDoorMj
import Derived.Test.YtoibaecagklkaaaGreatDoorMl
open Bool renaming false->t,true->A
open Decidable renaming decide->L
open Go.BinOp renaming and->M,or->C,xor->J
open Go.IntKind renaming u32->V
open Go.Operand renaming tmp->Y
open Go.Proofs.Tryz renaming f148->Z,f149->O,f97->ag,prog->Q
open Int renaming natCast_nonneg->an
open List renaming drop->I,getElem?_cons_zero->aM,getElem?_eq_getElem->ay,take->S
open Nat renaming eq_of_beq_eq_true->aK,zero_add->aZ
open Option renaming none->N,some->F
namespace Go.Proofs.YtoibaecagklkaaaGreatDoor.Sx
open Go
def Uv (k:Nat):SV->Option SV
 | .ptr j l o=>(match Nat.beq j k with
   | true=>F (.ptr 0 l o)
   | false=>N)
 | .slc j o n l c=>(match Nat.beq j k with
   | true=>F (.slc 0 o n l c)
   | false=>N)
 | .int a _ n=>F (.int a t n)
 | .bool _ b=>F (.bool t b)
 | .str _ s=>F (.str t s)
 | _=>N
def Gs (k:Nat):List SV->Option (List SV)
 | []=>F []
 | v::r=>(match Uv k v,Gs k r with
   | some x,F l=>F (x::l)
   | _,_=>N)
theorem PX {k:Nat}{E:Nat->Nat}{v u:SV}(h:Uv k v=F u):u.val (λ_=>E k)=v.val E/\u.wf 1=true:=by
 unfold Uv at h
 split at h<;>first
  | cases h;done
  | (injection h with h;subst h;exact⟨rfl,rfl⟩)
  | skip
 ·split at h
  ·rename_i e;injection h with h;subst h;have e:=aK e;subst e;exact⟨rfl,rfl⟩
  ·cases h
 ·split at h
  ·rename_i e;injection h with h;subst h;have e:=aK e;subst e;exact⟨rfl,rfl⟩
  ·cases h
theorem Cd {k:Nat}{E:Nat->Nat}: ∀ {l r:List SV},Gs k l=F r->SV.vals (λ_=>E k) r=SV.vals E l/\SV.fH 1 r=A
 | [],r,h=>by injection h with h;subst h;exact⟨rfl,rfl⟩
 | v::l,r,h=>by
   unfold Gs at h;split at h
   ·rename_i x l' hx hl;injection h with h;subst h;obtain⟨g1,g2⟩:=PX (E:=E) hx;obtain⟨g3,g4⟩:=Cd (E:=E) hl;exact⟨by simp only[SV.vals,g1,g3],by simp only[SV.fH,g2,g4,Bool.and_self]⟩
   ·cases h
def Ro:List SV->Option Nat
 | []=>N
 | .ptr j _ _::_=>F j
 | .slc j _ _ _ _::_=>F j
 | _::r=>Ro r
def J2 (k:Nat):SV->SV
 | .ptr _ l o=>.ptr k l o
 | v=>v
def Rm:SV->Bool
 | .ptr j _ _=>Nat.beq j 0
 | v=>v.wf 0
theorem QE {v:SV}(h:Rm v=A){k:Nat}{E E':Nat->Nat}(he:E' 0=E k):(J2 k v).val E=v.val E':=by
 cases v
 case ptr j l o =>have e:=aK h;subst e;simp only[J2,SV.val,he]
 all_goals exact SV.wG (by exact h) _ _
noncomputable def qa {G H:Type}(sb:G->SB)(sp:List SV->Option (G->Prop×(H->Prop×SV×G))):PT:=λargs m nx K=>match Ro args with
 | some k=>(match Gs k args with
   | some l=>(match sp l with
     | some g=>(match m.get k with
       | some B=>.ex G λx=>.and (.atom (aa B (sb x))) (.and (.atom (g x).1) (.all H λy=>.imp ((g x).2 y).1 (K (J2 k ((g x).2 y).2.1) (m.put k (sb ((g x).2 y).2.2)) nx)))
       | none=>.fail "a call's block")
     | none=>.fail "a call's arguments")
   | none=>.fail "a call's arguments")
 | none=>.fail "a call's arguments"
theorem oF {G H:Type}(sb:G->SB)(sp:List SV->Option (G->Prop×(H->Prop×SV×G))):aQ (qa sb sp):=by
 intro args m nx K K' hK h;unfold qa at h ⊢;split at h
 ·split at h
  ·split at h
   ·split at h
    ·obtain⟨x,h1,h2,h3⟩:=h;exact⟨x,h1,h2,λy hy=>hK _ _ _ (h3 y hy)⟩
    ·exact h.elim
   ·exact h.elim
  ·exact h.elim
 ·exact h.elim
def Kn {G H:Type}(sb:G->SB)(g:H->Prop×SV×G)(v:SV)(m:Mem):VC:=match m.get 0 with
 | some X=>.ex H λy=>.and (.atom (g y).1) (.and (leA X (sb (g y).2.2)) (svA v (g y).2.1))
 | none=>.fail "no block"
theorem E8 {P:Program}{f:FuncId}{fn:Func}(hf:P.funcs[f]?=F fn) (hn:(fn.name== "runtime.NumGoroutine")=t) (hb:fn.body.isSome=A) {n:Nat} {G H:Type} {sb:G->SB} {sp:List SV->Option (G->Prop×(H->Prop×SV×G))}
  (hsb: ∀ x,(sb x).wf 0=A/\(sb x).ro=t/\(sb x).no=t)
  (h: ∀ args g x,sp args=F g->(g x).1->∃ cfg args',Good P cfg/\(∀ E,SV.vals E args'=SV.vals E args)/\SV.fH 1 args'=A/\(∀ y,Rm ((g x).2 y).2.1=A) /\
    aB (fG P (calling P cfg n) [] Ad (cfg.bx f) cfg.rounds fn args' [(0,sb x)] 1 (λv m _=>Kn sb (g x).2 v m))):az P f (qa sb sp):=by
 intro args m nx K hk hwf hargs Γ E w hs;unfold qa at hk;split at hk
 ·rename_i k hkey;split at hk
  ·rename_i l hl;split at hk
   ·rename_i g hg;split at hk
    ·rename_i B hB;obtain⟨x,h1,h2,h3⟩:=hk;have h1:aa B (sb x):=h1;obtain⟨cfg,args',c1,c2,c3,c4,c5⟩:=h _ _ x hg h2;obtain⟨s1,s2,s3⟩:=hsb x;have hone:=hs.one hB h1 s3 s2 s1;have hc:=eV c1 hf hn hb c5 (by simp only[Mem.wf,Bool.and_true];exact SB.ig (Nat.zero_le _) s1) c3 hone;rw[c2,(Cd (E:=E) hl).1] at hc;refine fV hf hn hb (hc.mono ?_);rintro e w' ⟨v,rfl,E1,u,m1,nx1,g1,g2,g3,g4,g5⟩;refine⟨v,rfl,?_⟩;cases u with
     | none=>exact g5.elim
     | some u =>
       simp only[lift,Kn] at g5;split at g5
       ·rename_i X hX;obtain⟨y,y1,y2,y3⟩:=g5;have y2:aa X (sb ((g x).2 y).2.2):=y2;have y3:af u ((g x).2 y).2.1:=y3;obtain⟨t1,t2,t3⟩:=hsb ((g x).2 y).2.2;have hsw:=g4.swap hX y2;have hE0:E1 0=E k:=g1 0 (by omega);have hfr:=hs.frame hB (h1.old s3).1 ((h1.old s3).2.2 s2) hsw hE0 (Mem.DJ hX) t3 t2 t1;refine⟨E,F (J2 k ((g x).2 y).2.1),_,nx,λ_ _=>rfl,Nat.le_refl _,λz hz=> ?_,hfr,h3 y y1⟩;injection hz with hz;subst hz;rw[g3 u rfl,y3 E1];exact(QE (c4 y) hE0).symm
       ·exact g5.elim
    ·exact hk.elim
   ·exact hk.elim
  ·exact hk.elim
 ·exact hk.elim
end Go.Proofs.YtoibaecagklkaaaGreatDoor.Sx
namespace Go.Proofs.YtoibaecagklkaaaGreatDoor
open Go Sx
set_option maxRecDepth 20000
def VH (a b c:Int):Int:=bitsOf .xor (bitsOf .xor a b) c
def dH (x n:Int):Int:=bitsOf .or (x*(2^ (32 - n).toNat:Nat)% 4294967296) (x / (2^ n.toNat:Nat))
def aa7 (a:Int):Int:=VH (dH a 2) (dH a 13) (dH a 22)
def aa8 (e:Int):Int:=VH (dH e 6) (dH e 11) (dH e 25)
def acj (x:Int):Int:=VH (dH x 7) (dH x 18) (x / 8)
def ack (y:Int):Int:=VH (dH y 17) (dH y 19) (y / 1024)
def chF (e f g:Int):Int:=bitsOf .xor (bitsOf .and e f) (bitsOf .and (bitsOf .xor 4294967295 e) g)
def ab7 (a b c:Int):Int:=VH (bitsOf .and a b) (bitsOf .and a c) (bitsOf .and b c)
def Nc:List Int:=[1116352408,1899447441,3049323471,3921009573,961987163,1508970993,2453635748,2870763221,3624381080,310598401,607225278,1426881987,1925078388,2162078206,2614888103,3248222580,3835390401,4022224774,264347078,604807628,770255983,1249150122,1555081692,1996064986,2554220882,2821834349,2952996808,3210313671,3336571891,3584528711,113926993,338241895,666307205,773529912,1294757372,1396182291,1695183700,1986661051,2177026350,2456956037,2730485921,2820302411,3259730800,3345764771,3516065817,3600352804,4094571909,275423344,430227734,506948616,659060556,883997877,958139571,1322822218,1537002063,1747873779,1955562222,2024104815,2227730452,2361852424,2428436474,2756734187,3204031479,3329325298]
def Sl (i:Nat):Int:=Db Nc i
def VD (b:Nat->Int)(j:Nat):Int:=bitsOf .or (bitsOf .or (bitsOf .or (b (4*j)*16777216% 4294967296) (b (4*j+1)*65536% 4294967296)) (b (4*j+2)*256% 4294967296)) (b (4*j+3))
def Ye (a b c d:Int):Int:=(((a+acj b)% 4294967296+c)% 4294967296+ack d)% 4294967296
def wL (b:Nat->Int):Nat->Nat->Int
 | 0=>λj=>if j<16 then VD b j else 0
 | n+1=>λj=>if j=16+n then Ye (wL b n (16+n - 16)) (wL b n (16+n - 15)) (wL b n (16+n - 7)) (wL b n (16+n - 2))else wL b n j
def Yq (v:Nat->Int)(k w:Int):Int:=((((v 7+aa8 (v 4))% 4294967296+chF (v 4) (v 5) (v 6))% 4294967296+k)% 4294967296+w)% 4294967296
def t2F (v:Nat->Int):Int:=(aa7 (v 0)+ab7 (v 0) (v 1) (v 2))% 4294967296
def yd (v:Nat->Int)(k w:Int)(j:Nat):Int:=match j with
 | 0=>(Yq v k w+t2F v)% 4294967296
 | 1=>v 0
 | 2=>v 1
 | 3=>v 2
 | 4=>(v 3+Yq v k w)% 4294967296
 | 5=>v 4
 | 6=>v 5
 | 7=>v 6
 | _=>0
def cW (W B:Nat->Int):Nat->Nat->Int
 | 0=>W
 | i+1=>yd (cW W B i) (Sl i) (wL B 48 i)
def lq (W B:Nat->Int)(j:Nat):Int:=(W j+cW W B 64 j)% 4294967296
structure Sh where
 W:Nat->Int
 B:Nat->Int
 held:Int
 size:Int
def Sh.cs (x:Sh):List SV:=[.int .u32 t (x.W 0),.int .u32 t (x.W 1),.int .u32 t (x.W 2),.int .u32 t (x.W 3),.int .u32 t (x.W 4),.int .u32 t (x.W 5),.int .u32 t (x.W 6),.int .u32 t (x.W 7),.int .u8 t (x.B 0),.int .u8 t (x.B 1),.int .u8 t (x.B 2),.int .u8 t (x.B 3),.int .u8 t (x.B 4),.int .u8 t (x.B 5),.int .u8 t (x.B 6),.int .u8 t (x.B 7),.int .u8 t (x.B 8),.int .u8 t (x.B 9),.int .u8 t (x.B 10),.int .u8 t (x.B 11),.int .u8 t (x.B 12),.int .u8 t (x.B 13),.int .u8 t (x.B 14),.int .u8 t (x.B 15),.int .u8 t (x.B 16),.int .u8 t (x.B 17),.int .u8 t (x.B 18),.int .u8 t (x.B 19),.int .u8 t (x.B 20),.int .u8 t (x.B 21),.int .u8 t (x.B 22),.int .u8 t (x.B 23),.int .u8 t (x.B 24),.int .u8 t (x.B 25),.int .u8 t (x.B 26),.int .u8 t (x.B 27),.int .u8 t (x.B 28),.int .u8 t (x.B 29),.int .u8 t (x.B 30),.int .u8 t (x.B 31),.int .u8 t (x.B 32),.int .u8 t (x.B 33),.int .u8 t (x.B 34),.int .u8 t (x.B 35),.int .u8 t (x.B 36),.int .u8 t (x.B 37),.int .u8 t (x.B 38),.int .u8 t (x.B 39),.int .u8 t (x.B 40),.int .u8 t (x.B 41),.int .u8 t (x.B 42),.int .u8 t (x.B 43),.int .u8 t (x.B 44),.int .u8 t (x.B 45),.int .u8 t (x.B 46),.int .u8 t (x.B 47),.int .u8 t (x.B 48),.int .u8 t (x.B 49),.int .u8 t (x.B 50),.int .u8 t (x.B 51),.int .u8 t (x.B 52),.int .u8 t (x.B 53),.int .u8 t (x.B 54),.int .u8 t (x.B 55),.int .u8 t (x.B 56),.int .u8 t (x.B 57),.int .u8 t (x.B 58),.int .u8 t (x.B 59),.int .u8 t (x.B 60),.int .u8 t (x.B 61),.int .u8 t (x.B 62),.int .u8 t (x.B 63),.int .i64 t x.held,.int .u64 t x.size]
def Sh.sb (x:Sh):SB:=.cells x.cs 74 171
structure Sh.Ok (x:Sh):Prop where
 w: ∀ j,j<8->0<=x.W j/\x.W j<=4294967295
 b: ∀ j,j<64->0<=x.B j/\x.B j<=255
def aao (n:Int):Bool:=L (n=2)||(L (n=6)||(L (n=7)||(L (n=11)||(L (n=13)||(L (n=17)||(L (n=18)||(L (n=19)||(L (n=22)||decide (n=25)))))))))
def ya:List SV->Option (Prop×SV)
 | [.int .u32 t x,.int .i64 t n]=>(match aao n with
   | true=>F (0<=x/\x<=4294967295,.int .u32 t (dH x n))
   | false=>N)
 | _=>N
noncomputable def OB (b:Nat->Int):aV :=
 {α:=Nat,pre:=λ_ n=>n<=48,kT:=λ_ n=>48 - n,fresh:=0,slots:=λ_ n=>[(6,.int .i64 t (16+(n:Int)))],
  mem:=λ_ n=>[(2,.rows t 64 [.int .u32 (wL b n)] t 64 234)]}
noncomputable def OA (W B:Nat->Int):aV :=
 {α:=Nat,pre:=λ_ i=>i<=64,kT:=λ_ i=>64 - i,fresh:=0,slots:=λ_ i=>[(18,.int .i64 t i)],
  mem:=λ_ i=>[(1,.rows t 64 [.int .u32 (wL B 48)] t 64 234),(2,.cells [.int .u32 t (cW W B i 0),.int .u32 t (cW W B i 1),.int .u32 t (cW W B i 2),.int .u32 t (cW W B i 3),.int .u32 t (cW W B i 4),.int .u32 t (cW W B i 5),.int .u32 t (cW W B i 6),.int .u32 t (cW W B i 7)] 8 168)]}
noncomputable def ZR (W B:Nat->Int):aV :={α:=Nat,pre:=λst i=>slot st.tmps 18=F (.int .i64 t (i:Int)),kT:=λ_ _=>0,fresh:=0,slots:=λ_ i=>[(9,.int .u32 t (Yq (cW W B i) (Sl i) (wL B 48 i)))],mem:=λ_ _=>[]}
noncomputable def ZS (W B:Nat->Int):aV :={α:=Nat,pre:=λst i=>slot st.tmps 18=F (.int .i64 t (i:Int)),kT:=λ_ _=>0,fresh:=0,slots:=λ_ i=>[(10,.int .u32 t (t2F (cW W B i)))],mem:=λ_ _=>[]}
noncomputable def Lw:List (FuncId×PT):=(149,aY ya)::gd
noncomputable def M7 (b:Nat->Int):fJ:={cm with cG:=λf=>aE f Lw,bx:=λf=>if f=148 then [(9,always (OB b))] else []}
def wm (b:Nat->Int):SV:=.agg [.int .u32 t (wL b 48 0),.int .u32 t (wL b 48 1),.int .u32 t (wL b 48 2),.int .u32 t (wL b 48 3),.int .u32 t (wL b 48 4),.int .u32 t (wL b 48 5),.int .u32 t (wL b 48 6),.int .u32 t (wL b 48 7),.int .u32 t (wL b 48 8),.int .u32 t (wL b 48 9),.int .u32 t (wL b 48 10),.int .u32 t (wL b 48 11),.int .u32 t (wL b 48 12),.int .u32 t (wL b 48 13),.int .u32 t (wL b 48 14),.int .u32 t (wL b 48 15),.int .u32 t (wL b 48 16),.int .u32 t (wL b 48 17),.int .u32 t (wL b 48 18),.int .u32 t (wL b 48 19),.int .u32 t (wL b 48 20),.int .u32 t (wL b 48 21),.int .u32 t (wL b 48 22),.int .u32 t (wL b 48 23),.int .u32 t (wL b 48 24),.int .u32 t (wL b 48 25),.int .u32 t (wL b 48 26),.int .u32 t (wL b 48 27),.int .u32 t (wL b 48 28),.int .u32 t (wL b 48 29),.int .u32 t (wL b 48 30),.int .u32 t (wL b 48 31),.int .u32 t (wL b 48 32),.int .u32 t (wL b 48 33),.int .u32 t (wL b 48 34),.int .u32 t (wL b 48 35),.int .u32 t (wL b 48 36),.int .u32 t (wL b 48 37),.int .u32 t (wL b 48 38),.int .u32 t (wL b 48 39),.int .u32 t (wL b 48 40),.int .u32 t (wL b 48 41),.int .u32 t (wL b 48 42),.int .u32 t (wL b 48 43),.int .u32 t (wL b 48 44),.int .u32 t (wL b 48 45),.int .u32 t (wL b 48 46),.int .u32 t (wL b 48 47),.int .u32 t (wL b 48 48),.int .u32 t (wL b 48 49),.int .u32 t (wL b 48 50),.int .u32 t (wL b 48 51),.int .u32 t (wL b 48 52),.int .u32 t (wL b 48 53),.int .u32 t (wL b 48 54),.int .u32 t (wL b 48 55),.int .u32 t (wL b 48 56),.int .u32 t (wL b 48 57),.int .u32 t (wL b 48 58),.int .u32 t (wL b 48 59),.int .u32 t (wL b 48 60),.int .u32 t (wL b 48 61),.int .u32 t (wL b 48 62),.int .u32 t (wL b 48 63)]
def uI:List SV->Option (Sh->Prop×(Unit->Prop×SV×Sh))
 | [.slc 0 8 64 _ 64]=>F λx=>(x.Ok,λ_=>(True,wm x.B,x))
 | _=>N
noncomputable def Tv:List (FuncId×PT):=(148,qa Sh.sb uI)::Lw
noncomputable def Ff (W B:Nat->Int):fJ:={cm with cG:=λf=>aE f Tv,bx:=λf=>if f=97 then [(3,always (OA W B)),(1006,always (ZR W B)),(1007,always (ZS W B))] else []}
def F6:List SV->Option (Sh->Prop×(Unit->Prop×SV×Sh))
 | [.ptr 0 A 0,.slc 0 8 64 _ 64]=>F λx=>(x.Ok,λ_=>(True,.aN [],{x with W:=lq x.W x.B}))
 | _=>N
noncomputable def ry {G H:Type}(cfg:fJ)(f:Nat)(fn:Func)(args:List SV)(sb:G->SB)(x:G)(g:H->Prop×SV×G):VC:=fG Q (calling Q cfg 20) [] Ad (cfg.bx f) cfg.rounds fn args [(0,sb x)] 1 (λv m _=>Kn sb g v m)
theorem Vh (x:Int)(R:SV->Prop):VC.holds (eD cm 149 O [.int .u32 t x,.int .i64 A 2] R)=(((0<=x*1073741824% 4294967296/\x*1073741824% 4294967296<=(4294967295:Int)/\0<=x / 4/\x / 4<=(4294967295:Int))/\R (SV.int .u32 t (bitsOf C (x*1073741824% 4294967296) (x / 4))))):=by kernel_rfl
theorem Vi (x:Int)(R:SV->Prop):VC.holds (eD cm 149 O [.int .u32 t x,.int .i64 A 6] R)=(((0<=x*67108864% 4294967296/\x*67108864% 4294967296<=(4294967295:Int)/\0<=x / 64/\x / 64<=(4294967295:Int))/\R (SV.int .u32 t (bitsOf C (x*67108864% 4294967296) (x / 64))))):=by kernel_rfl
theorem Vj (x:Int)(R:SV->Prop):VC.holds (eD cm 149 O [.int .u32 t x,.int .i64 A 7] R)=(((0<=x*33554432% 4294967296/\x*33554432% 4294967296<=(4294967295:Int)/\0<=x / 128/\x / 128<=(4294967295:Int))/\R (SV.int .u32 t (bitsOf C (x*33554432% 4294967296) (x / 128))))):=by kernel_rfl
theorem QM (x:Int)(R:SV->Prop):VC.holds (eD cm 149 O [.int .u32 t x,.int .i64 A 11] R)=(((0<=x*2097152% 4294967296/\x*2097152% 4294967296<=(4294967295:Int)/\0<=x / 2048/\x / 2048<=(4294967295:Int))/\R (SV.int .u32 t (bitsOf C (x*2097152% 4294967296) (x / 2048))))):=by kernel_rfl
theorem QN (x:Int)(R:SV->Prop):VC.holds (eD cm 149 O [.int .u32 t x,.int .i64 A 13] R)=(((0<=x*524288% 4294967296/\x*524288% 4294967296<=(4294967295:Int)/\0<=x / 8192/\x / 8192<=(4294967295:Int))/\R (SV.int .u32 t (bitsOf C (x*524288% 4294967296) (x / 8192))))):=by kernel_rfl
theorem QO (x:Int)(R:SV->Prop):VC.holds (eD cm 149 O [.int .u32 t x,.int .i64 A 17] R)=(((0<=x*32768% 4294967296/\x*32768% 4294967296<=(4294967295:Int)/\0<=x / 131072/\x / 131072<=(4294967295:Int))/\R (SV.int .u32 t (bitsOf C (x*32768% 4294967296) (x / 131072))))):=by kernel_rfl
theorem QS (x:Int)(R:SV->Prop):VC.holds (eD cm 149 O [.int .u32 t x,.int .i64 A 18] R)=(((0<=x*16384% 4294967296/\x*16384% 4294967296<=(4294967295:Int)/\0<=x / 262144/\x / 262144<=(4294967295:Int))/\R (SV.int .u32 t (bitsOf C (x*16384% 4294967296) (x / 262144))))):=by kernel_rfl
theorem QU (x:Int)(R:SV->Prop):VC.holds (eD cm 149 O [.int .u32 t x,.int .i64 A 19] R)=(((0<=x*8192% 4294967296/\x*8192% 4294967296<=(4294967295:Int)/\0<=x / 524288/\x / 524288<=(4294967295:Int))/\R (SV.int .u32 t (bitsOf C (x*8192% 4294967296) (x / 524288))))):=by kernel_rfl
theorem QV (x:Int)(R:SV->Prop):VC.holds (eD cm 149 O [.int .u32 t x,.int .i64 A 22] R)=(((0<=x*1024% 4294967296/\x*1024% 4294967296<=(4294967295:Int)/\0<=x / 4194304/\x / 4194304<=(4294967295:Int))/\R (SV.int .u32 t (bitsOf C (x*1024% 4294967296) (x / 4194304))))):=by kernel_rfl
theorem QW (x:Int)(R:SV->Prop):VC.holds (eD cm 149 O [.int .u32 t x,.int .i64 A 25] R)=(((0<=x*128% 4294967296/\x*128% 4294967296<=(4294967295:Int)/\0<=x / 33554432/\x / 33554432<=(4294967295:Int))/\R (SV.int .u32 t (bitsOf C (x*128% 4294967296) (x / 33554432))))):=by kernel_rfl
theorem Vo (x:Sh):VC.holds (ry (M7 x.B) 148 Z [.slc 0 8 64 A 64] Sh.sb x (λ_:Unit=>(True,wm x.B,x)))=((λP0:SB=>((λP1:Nat->Int=>((λP2:Nat->Int=>(((0<=x.B 0/\x.B 0<=4294967295)/\(0<=x.B 1/\x.B 1<=4294967295)/\(0<=x.B 0*16777216% 4294967296/\x.B 0*16777216% 4294967296<=(4294967295:Int)/\0<=x.B 1*65536% 4294967296/\x.B 1*65536% 4294967296<=(4294967295:Int))/\(0<=x.B 2/\x.B 2<=4294967295)/\(0<=bitsOf C (x.B 0*16777216% 4294967296) (x.B 1*65536% 4294967296)/\bitsOf C (x.B 0*16777216% 4294967296) (x.B 1*65536% 4294967296)<=4294967295/\0<=x.B 2*256% 4294967296/\x.B 2*256% 4294967296<=(4294967295:Int))/\(0<=x.B 3/\x.B 3<=4294967295)/\(0<=bitsOf C (bitsOf C (x.B 0*16777216% 4294967296) (x.B 1*65536% 4294967296)) (x.B 2*256% 4294967296)/\bitsOf C (bitsOf C (x.B 0*16777216% 4294967296) (x.B 1*65536% 4294967296)) (x.B 2*256% 4294967296)<=4294967295/\0<=x.B 3/\x.B 3<=4294967295)/\(0<=x.B 4/\x.B 4<=4294967295)/\(0<=x.B 5/\x.B 5<=4294967295)/\(0<=x.B 4*16777216% 4294967296/\x.B 4*16777216% 4294967296<=(4294967295:Int) /\0<=x.B 5*65536% 4294967296/\x.B 5*65536% 4294967296<=(4294967295:Int))/\(0<=x.B 6/\x.B 6<=4294967295)/\(0<=bitsOf C (x.B 4*16777216% 4294967296) (x.B 5*65536% 4294967296)/\bitsOf C (x.B 4*16777216% 4294967296) (x.B 5*65536% 4294967296)<=4294967295/\0<=x.B 6*256% 4294967296/\x.B 6*256% 4294967296<=(4294967295:Int))/\(0<=x.B 7/\x.B 7<=4294967295)/\(0<=bitsOf C (bitsOf C (x.B 4*16777216% 4294967296) (x.B 5*65536% 4294967296)) (x.B 6*256% 4294967296)/\bitsOf C (bitsOf C (x.B 4*16777216% 4294967296) (x.B 5*65536% 4294967296)) (x.B 6*256% 4294967296)<=4294967295/\0<=x.B 7/\x.B 7<=4294967295)/\(0<=x.B 8/\x.B 8<=4294967295)/\(0<=x.B 9/\x.B 9<=4294967295)/\(0<=x.B 8*16777216% 4294967296/\x.B 8*16777216% 4294967296<=(4294967295:Int)/\0<=x.B 9*65536% 4294967296/\x.B 9*65536% 4294967296<=(4294967295:Int))/\(0<=x.B 10/\x.B 10<=4294967295) /\(0<=bitsOf C (x.B 8*16777216% 4294967296) (x.B 9*65536% 4294967296)/\bitsOf C (x.B 8*16777216% 4294967296) (x.B 9*65536% 4294967296)<=4294967295/\0<=x.B 10*256% 4294967296/\x.B 10*256% 4294967296<=(4294967295:Int))/\(0<=x.B 11/\x.B 11<=4294967295)/\(0<=bitsOf C (bitsOf C (x.B 8*16777216% 4294967296) (x.B 9*65536% 4294967296)) (x.B 10*256% 4294967296)/\bitsOf C (bitsOf C (x.B 8*16777216% 4294967296) (x.B 9*65536% 4294967296)) (x.B 10*256% 4294967296)<=4294967295/\0<=x.B 11/\x.B 11<=4294967295)/\(0<=x.B 12/\x.B 12<=4294967295)/\(0<=x.B 13/\x.B 13<=4294967295)/\(0<=x.B 12*16777216% 4294967296/\x.B 12*16777216% 4294967296<=(4294967295:Int)/\0<=x.B 13*65536% 4294967296/\x.B 13*65536% 4294967296<=(4294967295:Int))/\(0<=x.B 14/\x.B 14<=4294967295)/\(0<=bitsOf C (x.B 12*16777216% 4294967296) (x.B 13*65536% 4294967296) /\bitsOf C (x.B 12*16777216% 4294967296) (x.B 13*65536% 4294967296)<=4294967295/\0<=x.B 14*256% 4294967296/\x.B 14*256% 4294967296<=(4294967295:Int))/\(0<=x.B 15/\x.B 15<=4294967295)/\(0<=bitsOf C (bitsOf C (x.B 12*16777216% 4294967296) (x.B 13*65536% 4294967296)) (x.B 14*256% 4294967296)/\bitsOf C (bitsOf C (x.B 12*16777216% 4294967296) (x.B 13*65536% 4294967296)) (x.B 14*256% 4294967296)<=4294967295/\0<=x.B 15/\x.B 15<=4294967295)/\(0<=x.B 16/\x.B 16<=4294967295)/\(0<=x.B 17/\x.B 17<=4294967295)/\(0<=x.B 16*16777216% 4294967296/\x.B 16*16777216% 4294967296<=(4294967295:Int)/\0<=x.B 17*65536% 4294967296/\x.B 17*65536% 4294967296<=(4294967295:Int))/\(0<=x.B 18/\x.B 18<=4294967295)/\(0<=bitsOf C (x.B 16*16777216% 4294967296) (x.B 17*65536% 4294967296)/\bitsOf C (x.B 16*16777216% 4294967296) (x.B 17*65536% 4294967296)<=4294967295/\0<=x.B 18*256% 4294967296 /\x.B 18*256% 4294967296<=(4294967295:Int))/\(0<=x.B 19/\x.B 19<=4294967295)/\(0<=bitsOf C (bitsOf C (x.B 16*16777216% 4294967296) (x.B 17*65536% 4294967296)) (x.B 18*256% 4294967296)/\bitsOf C (bitsOf C (x.B 16*16777216% 4294967296) (x.B 17*65536% 4294967296)) (x.B 18*256% 4294967296)<=4294967295/\0<=x.B 19/\x.B 19<=4294967295)/\(0<=x.B 20/\x.B 20<=4294967295)/\(0<=x.B 21/\x.B 21<=4294967295)/\(0<=x.B 20*16777216% 4294967296/\x.B 20*16777216% 4294967296<=(4294967295:Int)/\0<=x.B 21*65536% 4294967296/\x.B 21*65536% 4294967296<=(4294967295:Int))/\(0<=x.B 22/\x.B 22<=4294967295)/\(0<=bitsOf C (x.B 20*16777216% 4294967296) (x.B 21*65536% 4294967296)/\bitsOf C (x.B 20*16777216% 4294967296) (x.B 21*65536% 4294967296)<=4294967295/\0<=x.B 22*256% 4294967296/\x.B 22*256% 4294967296<=(4294967295:Int))/\(0<=x.B 23/\x.B 23<=4294967295) /\(0<=bitsOf C (bitsOf C (x.B 20*16777216% 4294967296) (x.B 21*65536% 4294967296)) (x.B 22*256% 4294967296)/\bitsOf C (bitsOf C (x.B 20*16777216% 4294967296) (x.B 21*65536% 4294967296)) (x.B 22*256% 4294967296)<=4294967295/\0<=x.B 23/\x.B 23<=4294967295)/\(0<=x.B 24/\x.B 24<=4294967295)/\(0<=x.B 25/\x.B 25<=4294967295)/\(0<=x.B 24*16777216% 4294967296/\x.B 24*16777216% 4294967296<=(4294967295:Int)/\0<=x.B 25*65536% 4294967296/\x.B 25*65536% 4294967296<=(4294967295:Int))/\(0<=x.B 26/\x.B 26<=4294967295)/\(0<=bitsOf C (x.B 24*16777216% 4294967296) (x.B 25*65536% 4294967296)/\bitsOf C (x.B 24*16777216% 4294967296) (x.B 25*65536% 4294967296)<=4294967295/\0<=x.B 26*256% 4294967296/\x.B 26*256% 4294967296<=(4294967295:Int))/\(0<=x.B 27/\x.B 27<=4294967295)/\(0<=bitsOf C (bitsOf C (x.B 24*16777216% 4294967296) (x.B 25*65536% 4294967296)) (x.B 26*256% 4294967296) /\bitsOf C (bitsOf C (x.B 24*16777216% 4294967296) (x.B 25*65536% 4294967296)) (x.B 26*256% 4294967296)<=4294967295/\0<=x.B 27/\x.B 27<=4294967295)/\(0<=x.B 28/\x.B 28<=4294967295)/\(0<=x.B 29/\x.B 29<=4294967295)/\(0<=x.B 28*16777216% 4294967296/\x.B 28*16777216% 4294967296<=(4294967295:Int)/\0<=x.B 29*65536% 4294967296/\x.B 29*65536% 4294967296<=(4294967295:Int))/\(0<=x.B 30/\x.B 30<=4294967295)/\(0<=bitsOf C (x.B 28*16777216% 4294967296) (x.B 29*65536% 4294967296)/\bitsOf C (x.B 28*16777216% 4294967296) (x.B 29*65536% 4294967296)<=4294967295/\0<=x.B 30*256% 4294967296/\x.B 30*256% 4294967296<=(4294967295:Int))/\(0<=x.B 31/\x.B 31<=4294967295)/\(0<=bitsOf C (bitsOf C (x.B 28*16777216% 4294967296) (x.B 29*65536% 4294967296)) (x.B 30*256% 4294967296)/\bitsOf C (bitsOf C (x.B 28*16777216% 4294967296) (x.B 29*65536% 4294967296)) (x.B 30*256% 4294967296)<=4294967295 /\0<=x.B 31/\x.B 31<=4294967295)/\(0<=x.B 32/\x.B 32<=4294967295)/\(0<=x.B 33/\x.B 33<=4294967295)/\(0<=x.B 32*16777216% 4294967296/\x.B 32*16777216% 4294967296<=(4294967295:Int)/\0<=x.B 33*65536% 4294967296/\x.B 33*65536% 4294967296<=(4294967295:Int))/\(0<=x.B 34/\x.B 34<=4294967295)/\(0<=bitsOf C (x.B 32*16777216% 4294967296) (x.B 33*65536% 4294967296)/\bitsOf C (x.B 32*16777216% 4294967296) (x.B 33*65536% 4294967296)<=4294967295/\0<=x.B 34*256% 4294967296/\x.B 34*256% 4294967296<=(4294967295:Int))/\(0<=x.B 35/\x.B 35<=4294967295)/\(0<=bitsOf C (bitsOf C (x.B 32*16777216% 4294967296) (x.B 33*65536% 4294967296)) (x.B 34*256% 4294967296)/\bitsOf C (bitsOf C (x.B 32*16777216% 4294967296) (x.B 33*65536% 4294967296)) (x.B 34*256% 4294967296)<=4294967295/\0<=x.B 35/\x.B 35<=4294967295)/\(0<=x.B 36/\x.B 36<=4294967295)/\(0<=x.B 37/\x.B 37<=4294967295)/\(0<=x.B 36*16777216% 4294967296 /\x.B 36*16777216% 4294967296<=(4294967295:Int)/\0<=x.B 37*65536% 4294967296/\x.B 37*65536% 4294967296<=(4294967295:Int))/\(0<=x.B 38/\x.B 38<=4294967295)/\(0<=bitsOf C (x.B 36*16777216% 4294967296) (x.B 37*65536% 4294967296)/\bitsOf C (x.B 36*16777216% 4294967296) (x.B 37*65536% 4294967296)<=4294967295/\0<=x.B 38*256% 4294967296/\x.B 38*256% 4294967296<=(4294967295:Int))/\(0<=x.B 39/\x.B 39<=4294967295)/\(0<=bitsOf C (bitsOf C (x.B 36*16777216% 4294967296) (x.B 37*65536% 4294967296)) (x.B 38*256% 4294967296)/\bitsOf C (bitsOf C (x.B 36*16777216% 4294967296) (x.B 37*65536% 4294967296)) (x.B 38*256% 4294967296)<=4294967295/\0<=x.B 39/\x.B 39<=4294967295)/\(0<=x.B 40/\x.B 40<=4294967295)/\(0<=x.B 41/\x.B 41<=4294967295)/\(0<=x.B 40*16777216% 4294967296/\x.B 40*16777216% 4294967296<=(4294967295:Int)/\0<=x.B 41*65536% 4294967296/\x.B 41*65536% 4294967296<=(4294967295:Int)) /\(0<=x.B 42/\x.B 42<=4294967295)/\(0<=bitsOf C (x.B 40*16777216% 4294967296) (x.B 41*65536% 4294967296)/\bitsOf C (x.B 40*16777216% 4294967296) (x.B 41*65536% 4294967296)<=4294967295/\0<=x.B 42*256% 4294967296/\x.B 42*256% 4294967296<=(4294967295:Int))/\(0<=x.B 43/\x.B 43<=4294967295)/\(0<=bitsOf C (bitsOf C (x.B 40*16777216% 4294967296) (x.B 41*65536% 4294967296)) (x.B 42*256% 4294967296)/\bitsOf C (bitsOf C (x.B 40*16777216% 4294967296) (x.B 41*65536% 4294967296)) (x.B 42*256% 4294967296)<=4294967295/\0<=x.B 43/\x.B 43<=4294967295)/\(0<=x.B 44/\x.B 44<=4294967295)/\(0<=x.B 45/\x.B 45<=4294967295)/\(0<=x.B 44*16777216% 4294967296/\x.B 44*16777216% 4294967296<=(4294967295:Int)/\0<=x.B 45*65536% 4294967296/\x.B 45*65536% 4294967296<=(4294967295:Int))/\(0<=x.B 46/\x.B 46<=4294967295)/\(0<=bitsOf C (x.B 44*16777216% 4294967296) (x.B 45*65536% 4294967296) /\bitsOf C (x.B 44*16777216% 4294967296) (x.B 45*65536% 4294967296)<=4294967295/\0<=x.B 46*256% 4294967296/\x.B 46*256% 4294967296<=(4294967295:Int))/\(0<=x.B 47/\x.B 47<=4294967295)/\(0<=bitsOf C (bitsOf C (x.B 44*16777216% 4294967296) (x.B 45*65536% 4294967296)) (x.B 46*256% 4294967296)/\bitsOf C (bitsOf C (x.B 44*16777216% 4294967296) (x.B 45*65536% 4294967296)) (x.B 46*256% 4294967296)<=4294967295/\0<=x.B 47/\x.B 47<=4294967295)/\(0<=x.B 48/\x.B 48<=4294967295)/\(0<=x.B 49/\x.B 49<=4294967295)/\(0<=x.B 48*16777216% 4294967296/\x.B 48*16777216% 4294967296<=(4294967295:Int)/\0<=x.B 49*65536% 4294967296/\x.B 49*65536% 4294967296<=(4294967295:Int))/\(0<=x.B 50/\x.B 50<=4294967295)/\(0<=bitsOf C (x.B 48*16777216% 4294967296) (x.B 49*65536% 4294967296)/\bitsOf C (x.B 48*16777216% 4294967296) (x.B 49*65536% 4294967296)<=4294967295/\0<=x.B 50*256% 4294967296 /\x.B 50*256% 4294967296<=(4294967295:Int))/\(0<=x.B 51/\x.B 51<=4294967295)/\(0<=bitsOf C (bitsOf C (x.B 48*16777216% 4294967296) (x.B 49*65536% 4294967296)) (x.B 50*256% 4294967296)/\bitsOf C (bitsOf C (x.B 48*16777216% 4294967296) (x.B 49*65536% 4294967296)) (x.B 50*256% 4294967296)<=4294967295/\0<=x.B 51/\x.B 51<=4294967295)/\(0<=x.B 52/\x.B 52<=4294967295)/\(0<=x.B 53/\x.B 53<=4294967295)/\(0<=x.B 52*16777216% 4294967296/\x.B 52*16777216% 4294967296<=(4294967295:Int)/\0<=x.B 53*65536% 4294967296/\x.B 53*65536% 4294967296<=(4294967295:Int))/\(0<=x.B 54/\x.B 54<=4294967295)/\(0<=bitsOf C (x.B 52*16777216% 4294967296) (x.B 53*65536% 4294967296)/\bitsOf C (x.B 52*16777216% 4294967296) (x.B 53*65536% 4294967296)<=4294967295/\0<=x.B 54*256% 4294967296/\x.B 54*256% 4294967296<=(4294967295:Int))/\(0<=x.B 55/\x.B 55<=4294967295) /\(0<=bitsOf C (bitsOf C (x.B 52*16777216% 4294967296) (x.B 53*65536% 4294967296)) (x.B 54*256% 4294967296)/\bitsOf C (bitsOf C (x.B 52*16777216% 4294967296) (x.B 53*65536% 4294967296)) (x.B 54*256% 4294967296)<=4294967295/\0<=x.B 55/\x.B 55<=4294967295)/\(0<=x.B 56/\x.B 56<=4294967295)/\(0<=x.B 57/\x.B 57<=4294967295)/\(0<=x.B 56*16777216% 4294967296/\x.B 56*16777216% 4294967296<=(4294967295:Int)/\0<=x.B 57*65536% 4294967296/\x.B 57*65536% 4294967296<=(4294967295:Int))/\(0<=x.B 58/\x.B 58<=4294967295)/\(0<=bitsOf C (x.B 56*16777216% 4294967296) (x.B 57*65536% 4294967296)/\bitsOf C (x.B 56*16777216% 4294967296) (x.B 57*65536% 4294967296)<=4294967295/\0<=x.B 58*256% 4294967296/\x.B 58*256% 4294967296<=(4294967295:Int))/\(0<=x.B 59/\x.B 59<=4294967295)/\(0<=bitsOf C (bitsOf C (x.B 56*16777216% 4294967296) (x.B 57*65536% 4294967296)) (x.B 58*256% 4294967296) /\bitsOf C (bitsOf C (x.B 56*16777216% 4294967296) (x.B 57*65536% 4294967296)) (x.B 58*256% 4294967296)<=4294967295/\0<=x.B 59/\x.B 59<=4294967295)/\(0<=x.B 60/\x.B 60<=4294967295)/\(0<=x.B 61/\x.B 61<=4294967295)/\(0<=x.B 60*16777216% 4294967296/\x.B 60*16777216% 4294967296<=(4294967295:Int)/\0<=x.B 61*65536% 4294967296/\x.B 61*65536% 4294967296<=(4294967295:Int))/\(0<=x.B 62/\x.B 62<=4294967295)/\(0<=bitsOf C (x.B 60*16777216% 4294967296) (x.B 61*65536% 4294967296)/\bitsOf C (x.B 60*16777216% 4294967296) (x.B 61*65536% 4294967296)<=4294967295/\0<=x.B 62*256% 4294967296/\x.B 62*256% 4294967296<=(4294967295:Int))/\(0<=x.B 63/\x.B 63<=4294967295)/\(0<=bitsOf C (bitsOf C (x.B 60*16777216% 4294967296) (x.B 61*65536% 4294967296)) (x.B 62*256% 4294967296)/\bitsOf C (bitsOf C (x.B 60*16777216% 4294967296) (x.B 61*65536% 4294967296)) (x.B 62*256% 4294967296)<=4294967295 /\0<=x.B 63/\x.B 63<=4294967295)/\(∃(u4:Nat),u4<=48/\(16:Int)=16+(u4:Int) /\aa (SB.cells [SV.int .u32 t (bitsOf C (bitsOf C (bitsOf C (x.B 0*16777216% 4294967296) (x.B 1*65536% 4294967296)) (x.B 2*256% 4294967296)) (x.B 3)),SV.int .u32 t (bitsOf C (bitsOf C (bitsOf C (x.B 4*16777216% 4294967296) (x.B 5*65536% 4294967296)) (x.B 6*256% 4294967296)) (x.B 7)),SV.int .u32 t (bitsOf C (bitsOf C (bitsOf C (x.B 8*16777216% 4294967296) (x.B 9*65536% 4294967296)) (x.B 10*256% 4294967296)) (x.B 11)),SV.int .u32 t (bitsOf C (bitsOf C (bitsOf C (x.B 12*16777216% 4294967296) (x.B 13*65536% 4294967296)) (x.B 14*256% 4294967296)) (x.B 15)),SV.int .u32 t (bitsOf C (bitsOf C (bitsOf C (x.B 16*16777216% 4294967296) (x.B 17*65536% 4294967296)) (x.B 18*256% 4294967296)) (x.B 19)),SV.int .u32 t (bitsOf C (bitsOf C (bitsOf C (x.B 20*16777216% 4294967296) (x.B 21*65536% 4294967296)) (x.B 22*256% 4294967296)) (x.B 23)),SV.int .u32 t (bitsOf C (bitsOf C (bitsOf C (x.B 24*16777216% 4294967296) (x.B 25*65536% 4294967296)) (x.B 26*256% 4294967296)) (x.B 27)),SV.int .u32 t (bitsOf C (bitsOf C (bitsOf C (x.B 28*16777216% 4294967296) (x.B 29*65536% 4294967296)) (x.B 30*256% 4294967296)) (x.B 31)),SV.int .u32 t (bitsOf C (bitsOf C (bitsOf C (x.B 32*16777216% 4294967296) (x.B 33*65536% 4294967296)) (x.B 34*256% 4294967296)) (x.B 35)),SV.int .u32 t (bitsOf C (bitsOf C (bitsOf C (x.B 36*16777216% 4294967296) (x.B 37*65536% 4294967296)) (x.B 38*256% 4294967296)) (x.B 39)),SV.int .u32 t (bitsOf C (bitsOf C (bitsOf C (x.B 40*16777216% 4294967296) (x.B 41*65536% 4294967296)) (x.B 42*256% 4294967296)) (x.B 43)),SV.int .u32 t (bitsOf C (bitsOf C (bitsOf C (x.B 44*16777216% 4294967296) (x.B 45*65536% 4294967296)) (x.B 46*256% 4294967296)) (x.B 47)),SV.int .u32 t (bitsOf C (bitsOf C (bitsOf C (x.B 48*16777216% 4294967296) (x.B 49*65536% 4294967296)) (x.B 50*256% 4294967296)) (x.B 51)),SV.int .u32 t (bitsOf C (bitsOf C (bitsOf C (x.B 52*16777216% 4294967296) (x.B 53*65536% 4294967296)) (x.B 54*256% 4294967296)) (x.B 55)),SV.int .u32 t (bitsOf C (bitsOf C (bitsOf C (x.B 56*16777216% 4294967296) (x.B 57*65536% 4294967296)) (x.B 58*256% 4294967296)) (x.B 59)),SV.int .u32 t (bitsOf C (bitsOf C (bitsOf C (x.B 60*16777216% 4294967296) (x.B 61*65536% 4294967296)) (x.B 62*256% 4294967296)) (x.B 63)),SV.int .u32 A 0,SV.int .u32 A 0,SV.int .u32 A 0,SV.int .u32 A 0,SV.int .u32 A 0,SV.int .u32 A 0,SV.int .u32 A 0,SV.int .u32 A 0,SV.int .u32 A 0,SV.int .u32 A 0,SV.int .u32 A 0,SV.int .u32 A 0,SV.int .u32 A 0,SV.int .u32 A 0,SV.int .u32 A 0,SV.int .u32 A 0,SV.int .u32 A 0,SV.int .u32 A 0,SV.int .u32 A 0,SV.int .u32 A 0,SV.int .u32 A 0,SV.int .u32 A 0,SV.int .u32 A 0,SV.int .u32 A 0,SV.int .u32 A 0,SV.int .u32 A 0,SV.int .u32 A 0,SV.int .u32 A 0,SV.int .u32 A 0,SV.int .u32 A 0,SV.int .u32 A 0,SV.int .u32 A 0,SV.int .u32 A 0,SV.int .u32 A 0,SV.int .u32 A 0,SV.int .u32 A 0,SV.int .u32 A 0,SV.int .u32 A 0,SV.int .u32 A 0,SV.int .u32 A 0,SV.int .u32 A 0,SV.int .u32 A 0,SV.int .u32 A 0,SV.int .u32 A 0,SV.int .u32 A 0,SV.int .u32 A 0,SV.int .u32 A 0,SV.int .u32 A 0] 64 234) (SB.rows t 64 [aq.int V (wL x.B u4)] t 64 234) /\aa P0 P0/\aa x.sb x.sb/\True)/\∀(u3:Nat),u3<=48->(L (16+(u3:Int)<64)=A->I6 (16+(u3:Int) - 15)/\((0:Int)<=16+(u3:Int) - 15/\16+(u3:Int) - 15<(64:Int))/\((16+(u3:Int) - 15).toNat<64/\0+(16+(u3:Int) - 15).toNat<64)/\I6 (16+(u3:Int) - 2)/\((0:Int)<=16+(u3:Int) - 2/\16+(u3:Int) - 2<(64:Int))/\((16+(u3:Int) - 2).toNat<64/\0+(16+(u3:Int) - 2).toNat<64)/\(0<=wL x.B u3 (0+(16+(u3:Int) - 15).toNat)/\wL x.B u3 (0+(16+(u3:Int) - 15).toNat)<=4294967295)/\(0<=wL x.B u3 (0+(16+(u3:Int) - 15).toNat)/\wL x.B u3 (0+(16+(u3:Int) - 15).toNat)<=4294967295)/\(0<=dH (P1 u3) 7/\dH (P1 u3) 7<=(4294967295:Int)/\0<=dH (P1 u3) 18/\dH (P1 u3) 18<=(4294967295:Int))/\(0<=bitsOf J (dH (P1 u3) 7) (dH (P1 u3) 18)/\bitsOf J (dH (P1 u3) 7) (dH (P1 u3) 18)<=4294967295/\0<=wL x.B u3 (0+(16+(u3:Int) - 15).toNat) / 8 /\wL x.B u3 (0+(16+(u3:Int) - 15).toNat) / 8<=(4294967295:Int))/\(0<=wL x.B u3 (0+(16+(u3:Int) - 2).toNat)/\wL x.B u3 (0+(16+(u3:Int) - 2).toNat)<=4294967295)/\(0<=wL x.B u3 (0+(16+(u3:Int) - 2).toNat)/\wL x.B u3 (0+(16+(u3:Int) - 2).toNat)<=4294967295)/\(0<=dH (P2 u3) 17/\dH (P2 u3) 17<=(4294967295:Int)/\0<=dH (P2 u3) 19/\dH (P2 u3) 19<=(4294967295:Int))/\(0<=bitsOf J (dH (P2 u3) 17) (dH (P2 u3) 19)/\bitsOf J (dH (P2 u3) 17) (dH (P2 u3) 19)<=4294967295/\0<=wL x.B u3 (0+(16+(u3:Int) - 2).toNat) / 1024/\wL x.B u3 (0+(16+(u3:Int) - 2).toNat) / 1024<=(4294967295:Int))/\I6 (16+(u3:Int) - 16)/\((0:Int)<=16+(u3:Int) - 16/\16+(u3:Int) - 16<(64:Int))/\((16+(u3:Int) - 16).toNat<64/\0+(16+(u3:Int) - 16).toNat<64)/\I6 (16+(u3:Int) - 7)/\((0:Int)<=16+(u3:Int) - 7/\16+(u3:Int) - 7<(64:Int))/\((16+(u3:Int) - 7).toNat<64/\0+(16+(u3:Int) - 7).toNat<64) /\((0:Int)<=16+(u3:Int)/\16+(u3:Int)<64)/\((16+(u3:Int)).toNat<64/\0+(16+(u3:Int)).toNat<64)/\I6 (16+(u3:Int)+1)/\∃(u2:Nat),(u2<=48/\48 - u2<48 - u3)/\16+(u3:Int)+1=16+(u2:Int)/\aa (SB.rows t 64 [aq.int V fun(u1:Nat)=>if u1=0+(16+(u3:Int)).toNat then(((wL x.B u3 (0+(16+(u3:Int) - 16).toNat)+bitsOf J (bitsOf J (dH (P1 u3) 7) (dH (P1 u3) 18)) (wL x.B u3 (0+(16+(u3:Int) - 15).toNat) / 8))% 4294967296+wL x.B u3 (0+(16+(u3:Int) - 7).toNat))% 4294967296+bitsOf J (bitsOf J (dH (P2 u3) 17) (dH (P2 u3) 19)) (wL x.B u3 (0+(16+(u3:Int) - 2).toNat) / 1024))% 4294967296 else wL x.B u3 u1] t 64 234) (SB.rows t 64 [aq.int V (wL x.B u2)] t 64 234)/\aa P0 P0/\aa x.sb x.sb/\True)/\(L (16+(u3:Int)<64)=t->(64:Nat)<=(64:Nat)/\∃(_:Unit),True/\aa x.sb x.sb /\af (SV.agg (wO (λi=>aq.at i (aq.int V (wL x.B u3))) [])) (wm x.B))))) (fun(u3:Nat)=>(wL x.B u3 (0+(16+(u3:Int) - 2).toNat))))) (fun(u3:Nat)=>(wL x.B u3 (0+(16+(u3:Int) - 15).toNat))))) (SB.cells (SV.agg [SV.int .u32 A 0,SV.int .u32 A 0,SV.int .u32 A 0,SV.int .u32 A 0,SV.int .u32 A 0,SV.int .u32 A 0,SV.int .u32 A 0,SV.int .u32 A 0,SV.int .u32 A 0,SV.int .u32 A 0,SV.int .u32 A 0,SV.int .u32 A 0,SV.int .u32 A 0,SV.int .u32 A 0,SV.int .u32 A 0,SV.int .u32 A 0,SV.int .u32 A 0,SV.int .u32 A 0,SV.int .u32 A 0,SV.int .u32 A 0,SV.int .u32 A 0,SV.int .u32 A 0,SV.int .u32 A 0,SV.int .u32 A 0,SV.int .u32 A 0,SV.int .u32 A 0,SV.int .u32 A 0,SV.int .u32 A 0,SV.int .u32 A 0,SV.int .u32 A 0,SV.int .u32 A 0,SV.int .u32 A 0,SV.int .u32 A 0,SV.int .u32 A 0,SV.int .u32 A 0,SV.int .u32 A 0,SV.int .u32 A 0,SV.int .u32 A 0,SV.int .u32 A 0,SV.int .u32 A 0,SV.int .u32 A 0,SV.int .u32 A 0,SV.int .u32 A 0,SV.int .u32 A 0,SV.int .u32 A 0,SV.int .u32 A 0,SV.int .u32 A 0,SV.int .u32 A 0,SV.int .u32 A 0,SV.int .u32 A 0,SV.int .u32 A 0,SV.int .u32 A 0,SV.int .u32 A 0,SV.int .u32 A 0,SV.int .u32 A 0,SV.int .u32 A 0,SV.int .u32 A 0,SV.int .u32 A 0,SV.int .u32 A 0,SV.int .u32 A 0,SV.int .u32 A 0,SV.int .u32 A 0,SV.int .u32 A 0,SV.int .u32 A 0]).cells 64 234)):=by kernel_rfl
theorem abL (x:Sh):VC.holds (ry (Ff x.W x.B) 97 ag [.ptr 0 A 0,.slc 0 8 64 A 64] Sh.sb x (λ_:Unit=>(True,.aN [],{x with W:=lq x.W x.B})))=((λR0:Nat->SV=>((λR1:Nat->SV=>((λR2:Nat->(Sh)->SV=>((λR3:Nat->(Sh)->SV=>((λR4:Nat->(Sh)->SV=>((λR5:Nat->(Nat)->SV=>((λR6:Nat->(Nat)->SV=>((λR7:Nat->(Nat)->SV=>((λR8:Nat->(Sh)->(Nat)->SV=>((λR9:Nat->SV=>((λP0:Nat->SB=>((λP1:SB=>((∃(u9:Sh),aa (SB.cells (K8 R0 (wO R1 [SV.int .i64 t x.held,SV.int .u64 t x.size])) 74 171) (SB.cells (K8 (λi=>R2 i u9) (wO (λi=>R3 i u9) [SV.int .i64 t u9.held,SV.int .u64 t u9.size])) 74 171) /\u9.Ok/\∀(_:Unit),True->(∃(u7:Nat),u7<=64/\0=(u7:Int)/\aa (SB.cells (wO (λi=>R4 i u9) []) 64 234) P1/\aa (SB.cells (K8 (λi=>R2 i u9) []) 8 168) (SB.cells (K8 (λi=>R5 i u7) []) 8 168)/\aa u9.sb u9.sb/\True)/\∀(u6:Nat),u6<=64->(L ((u6:Int)<64)=A->((0<=cW x.W x.B u6 4/\cW x.W x.B u6 4<=4294967295/\0<=cW x.W x.B u6 5/\cW x.W x.B u6 5<=4294967295)/\((0:Int)<=(4294967295:Int)/\(4294967295:Int)<=(4294967295:Int) /\0<=cW x.W x.B u6 4/\cW x.W x.B u6 4<=4294967295)/\(0<=bitsOf J 4294967295 (cW x.W x.B u6 4)/\bitsOf J 4294967295 (cW x.W x.B u6 4)<=4294967295/\0<=cW x.W x.B u6 6/\cW x.W x.B u6 6<=4294967295)/\(0<=bitsOf M (cW x.W x.B u6 4) (cW x.W x.B u6 5)/\bitsOf M (cW x.W x.B u6 4) (cW x.W x.B u6 5)<=4294967295/\0<=bitsOf M (bitsOf J 4294967295 (cW x.W x.B u6 4)) (cW x.W x.B u6 6)/\bitsOf M (bitsOf J 4294967295 (cW x.W x.B u6 4)) (cW x.W x.B u6 6)<=4294967295)/\(0<=(u6:Int)/\(u6:Int)<64)/\(u6:Int).toNat<64/\(0<=(u6:Int)/\(u6:Int)<64)/\((u6:Int).toNat<64/\0+(u6:Int).toNat<64)/\(0<=cW x.W x.B u6 4/\cW x.W x.B u6 4<=4294967295)/\F P1=F P1/\F (P0 u6)=F (P0 u6)/\F (P0 u6)=F (P0 u6)/\F (P0 u6)=F (P0 u6)/\(0<=cW x.W x.B u6 4/\cW x.W x.B u6 4<=4294967295)/\F P1=F P1/\F (P0 u6)=F (P0 u6)/\F (P0 u6)=F (P0 u6)/\F (P0 u6)=F (P0 u6)/\(0<=dH (cW x.W x.B u6 4) 6/\dH (cW x.W x.B u6 4) 6<=(4294967295:Int)/\0<=dH (cW x.W x.B u6 4) 11 /\dH (cW x.W x.B u6 4) 11<=(4294967295:Int))/\(0<=cW x.W x.B u6 4/\cW x.W x.B u6 4<=4294967295)/\F P1=F P1/\F (P0 u6)=F (P0 u6)/\F (P0 u6)=F (P0 u6)/\F (P0 u6)=F (P0 u6)/\(0<=bitsOf J (dH (cW x.W x.B u6 4) 6) (dH (cW x.W x.B u6 4) 11)/\bitsOf J (dH (cW x.W x.B u6 4) 6) (dH (cW x.W x.B u6 4) 11)<=4294967295/\0<=dH (cW x.W x.B u6 4) 25/\dH (cW x.W x.B u6 4) 25<=(4294967295:Int))/\∃(u5:Nat),F (SV.int .i64 t (u6:Int))=F (SV.int .i64 t (u5:Int)) /\((((cW x.W x.B u6 7+bitsOf J (bitsOf J (dH (cW x.W x.B u6 4) 6) (dH (cW x.W x.B u6 4) 11)) (dH (cW x.W x.B u6 4) 25))% 4294967296+bitsOf J (bitsOf M (cW x.W x.B u6 4) (cW x.W x.B u6 5)) (bitsOf M (bitsOf J 4294967295 (cW x.W x.B u6 4)) (cW x.W x.B u6 6)))% 4294967296+Db [(1116352408:Int),(1899447441:Int),(3049323471:Int),(3921009573:Int),(961987163:Int),(1508970993:Int),(2453635748:Int),(2870763221:Int),(3624381080:Int),(310598401:Int),(607225278:Int),(1426881987:Int),(1925078388:Int),(2162078206:Int),(2614888103:Int),(3248222580:Int),(3835390401:Int),(4022224774:Int),(264347078:Int),(604807628:Int),(770255983:Int),(1249150122:Int),(1555081692:Int),(1996064986:Int),(2554220882:Int),(2821834349:Int),(2952996808:Int),(3210313671:Int),(3336571891:Int),(3584528711:Int),(113926993:Int),(338241895:Int),(666307205:Int),(773529912:Int),(1294757372:Int),(1396182291:Int),(1695183700:Int),(1986661051:Int),(2177026350:Int),(2456956037:Int),(2730485921:Int),(2820302411:Int),(3259730800:Int),(3345764771:Int),(3516065817:Int),(3600352804:Int),(4094571909:Int),(275423344:Int),(430227734:Int),(506948616:Int),(659060556:Int),(883997877:Int),(958139571:Int),(1322822218:Int),(1537002063:Int),(1747873779:Int),(1955562222:Int),(2024104815:Int),(2227730452:Int),(2361852424:Int),(2428436474:Int),(2756734187:Int),(3204031479:Int),(3329325298:Int)] (u6:Int).toNat)% 4294967296+wL x.B 48 (0+(u6:Int).toNat))% 4294967296=Yq (cW x.W x.B u5) (Sl u5) (wL x.B 48 u5) /\aa P1 P1/\aa (P0 u6) (P0 u6)/\aa u9.sb u9.sb/\True)/\∀(u4:Nat),F (SV.int .i64 t (u6:Int))=F (SV.int .i64 t (u4:Int))->((0<=cW x.W x.B u6 0/\cW x.W x.B u6 0<=4294967295/\0<=cW x.W x.B u6 1/\cW x.W x.B u6 1<=4294967295)/\(0<=cW x.W x.B u6 0/\cW x.W x.B u6 0<=4294967295/\0<=cW x.W x.B u6 2/\cW x.W x.B u6 2<=4294967295)/\(0<=bitsOf M (cW x.W x.B u6 0) (cW x.W x.B u6 1)/\bitsOf M (cW x.W x.B u6 0) (cW x.W x.B u6 1)<=4294967295/\0<=bitsOf M (cW x.W x.B u6 0) (cW x.W x.B u6 2)/\bitsOf M (cW x.W x.B u6 0) (cW x.W x.B u6 2)<=4294967295)/\(0<=cW x.W x.B u6 1/\cW x.W x.B u6 1<=4294967295/\0<=cW x.W x.B u6 2/\cW x.W x.B u6 2<=4294967295)/\(0<=bitsOf J (bitsOf M (cW x.W x.B u6 0) (cW x.W x.B u6 1)) (bitsOf M (cW x.W x.B u6 0) (cW x.W x.B u6 2))/\bitsOf J (bitsOf M (cW x.W x.B u6 0) (cW x.W x.B u6 1)) (bitsOf M (cW x.W x.B u6 0) (cW x.W x.B u6 2))<=4294967295/\0<=bitsOf M (cW x.W x.B u6 1) (cW x.W x.B u6 2)/\bitsOf M (cW x.W x.B u6 1) (cW x.W x.B u6 2)<=4294967295)/\(0<=cW x.W x.B u6 0 /\cW x.W x.B u6 0<=4294967295)/\F (P0 u6)=F (P0 u6)/\F (P0 u6)=F (P0 u6)/\F (P0 u6)=F (P0 u6)/\F (P0 u6)=F (P0 u6)/\(0<=cW x.W x.B u6 0/\cW x.W x.B u6 0<=4294967295)/\F (P0 u6)=F (P0 u6)/\F (P0 u6)=F (P0 u6)/\F (P0 u6)=F (P0 u6)/\F (P0 u6)=F (P0 u6)/\(0<=dH (cW x.W x.B u6 0) 2/\dH (cW x.W x.B u6 0) 2<=(4294967295:Int)/\0<=dH (cW x.W x.B u6 0) 13/\dH (cW x.W x.B u6 0) 13<=(4294967295:Int))/\(0<=cW x.W x.B u6 0/\cW x.W x.B u6 0<=4294967295)/\F (P0 u6)=F (P0 u6)/\F (P0 u6)=F (P0 u6)/\F (P0 u6)=F (P0 u6)/\F (P0 u6)=F (P0 u6)/\(0<=bitsOf J (dH (cW x.W x.B u6 0) 2) (dH (cW x.W x.B u6 0) 13)/\bitsOf J (dH (cW x.W x.B u6 0) 2) (dH (cW x.W x.B u6 0) 13)<=4294967295/\0<=dH (cW x.W x.B u6 0) 22/\dH (cW x.W x.B u6 0) 22<=(4294967295:Int))/\∃(u3:Nat),F (SV.int .i64 t (u6:Int))=F (SV.int .i64 t (u3:Int)) /\(bitsOf J (bitsOf J (dH (cW x.W x.B u6 0) 2) (dH (cW x.W x.B u6 0) 13)) (dH (cW x.W x.B u6 0) 22)+bitsOf J (bitsOf J (bitsOf M (cW x.W x.B u6 0) (cW x.W x.B u6 1)) (bitsOf M (cW x.W x.B u6 0) (cW x.W x.B u6 2))) (bitsOf M (cW x.W x.B u6 1) (cW x.W x.B u6 2)))% 4294967296=t2F (cW x.W x.B u3)/\aa P1 P1/\aa (P0 u6) (P0 u6)/\aa u9.sb u9.sb/\True)/\∀(u2:Nat),F (SV.int .i64 t (u6:Int))=F (SV.int .i64 t (u2:Int))->I6 ((u6:Int)+1)/\∃(u1:Nat),(u1<=64/\64 - u1<64 - u6)/\(u6:Int)+1=(u1:Int)/\aa P1 P1 /\aa (SB.cells [SV.int .u32 t ((Yq (cW x.W x.B u4) (Sl u4) (wL x.B 48 u4)+t2F (cW x.W x.B u2))% 4294967296),SV.int .u32 t (cW x.W x.B u6 0),SV.int .u32 t (cW x.W x.B u6 1),SV.int .u32 t (cW x.W x.B u6 2),SV.int .u32 t ((cW x.W x.B u6 3+Yq (cW x.W x.B u4) (Sl u4) (wL x.B 48 u4))% 4294967296),SV.int .u32 t (cW x.W x.B u6 4),SV.int .u32 t (cW x.W x.B u6 5),SV.int .u32 t (cW x.W x.B u6 6)] 8 168) (SB.cells (K8 (λi=>R7 i u1) []) 8 168)/\aa u9.sb u9.sb/\True)/\(L ((u6:Int)<64)=t->∃(_:Unit),True /\aa (SB.cells (K8 (λi=>R8 i u9 u6) (wO (λi=>R3 i u9) [SV.int .i64 t u9.held,SV.int .u64 t u9.size])) 74 171) (SB.cells (K8 R9 (wO R1 [SV.int .i64 t x.held,SV.int .u64 t x.size])) 74 171) /\af (SV.aN []) (SV.aN []))))) (SB.rows t 64 [aq.int V (wL x.B 48)] t 64 234))) (fun(u6:Nat)=>(SB.cells (K8 (λi=>R6 i u6) []) 8 168)))) (fun(n0:Nat)=>SV.int .u32 t (lq x.W x.B n0)))) (fun(n0:Nat) (u9:Sh) (u6:Nat)=>SV.int .u32 t ((u9.W n0+cW x.W x.B u6 n0)% 4294967296)))) (fun(n0:Nat) (u1:Nat)=>SV.int .u32 t (cW x.W x.B u1 n0)))) (fun(n0:Nat) (u6:Nat)=>SV.int .u32 t (cW x.W x.B u6 n0)))) (fun(n0:Nat) (u7:Nat)=>SV.int .u32 t (cW x.W x.B u7 n0)))) (fun(n0:Nat) (u9:Sh)=>SV.int .u32 t (wL u9.B 48 n0)))) (fun(n0:Nat) (u9:Sh)=>SV.int .u8 t (u9.B n0)))) (fun(n0:Nat) (u9:Sh)=>SV.int .u32 t (u9.W n0)))) (fun(n0:Nat)=>SV.int .u8 t (x.B n0)))) (fun(n0:Nat)=>SV.int .u32 t (x.W n0))):=by kernel_rfl
def U (a:Int):Prop:=0<=a/\a<=4294967295
theorem u2 {a b:Int}(h:U a)(h':U b):0<=a/\a<=4294967295/\0<=b/\b<=4294967295:=⟨h.1,h.2,h'.1,h'.2⟩
theorem um (a:Int):U (a% 4294967296):=⟨by omega,by omega⟩
theorem ud {a:Int}(h:U a)(k:Nat)(hk:0<k):U (a / (k:Int)):=by obtain⟨h0,h1⟩:=h;have:=Int.ediv_le_self (b:=(k:Int)) h0;exact⟨Int.ediv_nonneg h0 (by omega),by omega⟩
theorem uM:U 4294967295:=⟨by decide,by decide⟩
theorem cv {op:BinOp}(hop:op=.and∨op=.or∨op=.xor){a b:Int}(ha:U a)(hb:U b):U (bitsOf op a b):=by
 obtain⟨a0,a1⟩:=ha;obtain⟨b0,b1⟩:=hb;have la:a.toNat<2^ 32:=by omega
 have lb:b.toNat<2^ 32:=by omega
 have h1:=Nat.and_lt_two_pow (n:=32) a.toNat lb;have h2:=Nat.or_lt_two_pow (n:=32) la lb;have h3:=Nat.xor_lt_two_pow (n:=32) la lb;rcases hop with rfl | rfl | rfl
 ·refine⟨an _,?_⟩;show((a.toNat &&& b.toNat:Nat):Int)<=_;omega
 ·refine⟨an _,?_⟩;show((a.toNat ||| b.toNat:Nat):Int)<=_;omega
 ·refine⟨an _,?_⟩;show((a.toNat ^^^ b.toNat:Nat):Int)<=_;omega
theorem MC {a b:Int}(ha:U a)(hb:U b):U (bitsOf .and a b):=cv (.inl rfl) ha hb
theorem MG {a b:Int}(ha:U a)(hb:U b):U (bitsOf .xor a b):=cv (.inr (.inr rfl)) ha hb
theorem GK {x:Int}(h:U x)(n:Int):U (dH x n):=cv (.inr (.inl rfl)) (um _) (ud h _ (Nat.pow_pos (by decide)))
theorem Qa {n:Int}(h:aao n=A):n=2∨n=6∨n=7∨n=11∨n=13∨n=17∨n=18∨n=19∨n=22∨n=25:=by simpa [aao] using h
theorem Uy:az Q 149 (aY ya):=by
 refine eJ (MU (n:=20) (fn:=O) Tryz.func149 (by kernel_rfl) (by kernel_rfl) ?_);intro args p a h hp;unfold ya at h;split at h
 ·rename_i x n;split at h
  ·rename_i hn;injection h with h;injection h with h1 h2;subst h1;subst h2;have hx:U x:=hp;rcases Qa hn with rfl | rfl | rfl | rfl | rfl | rfl | rfl | rfl | rfl | rfl
   ·exact⟨cm,[.int .u32 t x,.int .i64 A 2],tw,λE=>rfl,rfl,rfl,aB.of_eq (Vh x _) ⟨u2 (um _) (ud hx 4 (by decide)),λ_=>rfl⟩⟩
   ·exact⟨cm,[.int .u32 t x,.int .i64 A 6],tw,λE=>rfl,rfl,rfl,aB.of_eq (Vi x _) ⟨u2 (um _) (ud hx 64 (by decide)),λ_=>rfl⟩⟩
   ·exact⟨cm,[.int .u32 t x,.int .i64 A 7],tw,λE=>rfl,rfl,rfl,aB.of_eq (Vj x _) ⟨u2 (um _) (ud hx 128 (by decide)),λ_=>rfl⟩⟩
   ·exact⟨cm,[.int .u32 t x,.int .i64 A 11],tw,λE=>rfl,rfl,rfl,aB.of_eq (QM x _) ⟨u2 (um _) (ud hx 2048 (by decide)),λ_=>rfl⟩⟩
   ·exact⟨cm,[.int .u32 t x,.int .i64 A 13],tw,λE=>rfl,rfl,rfl,aB.of_eq (QN x _) ⟨u2 (um _) (ud hx 8192 (by decide)),λ_=>rfl⟩⟩
   ·exact⟨cm,[.int .u32 t x,.int .i64 A 17],tw,λE=>rfl,rfl,rfl,aB.of_eq (QO x _) ⟨u2 (um _) (ud hx 131072 (by decide)),λ_=>rfl⟩⟩
   ·exact⟨cm,[.int .u32 t x,.int .i64 A 18],tw,λE=>rfl,rfl,rfl,aB.of_eq (QS x _) ⟨u2 (um _) (ud hx 262144 (by decide)),λ_=>rfl⟩⟩
   ·exact⟨cm,[.int .u32 t x,.int .i64 A 19],tw,λE=>rfl,rfl,rfl,aB.of_eq (QU x _) ⟨u2 (um _) (ud hx 524288 (by decide)),λ_=>rfl⟩⟩
   ·exact⟨cm,[.int .u32 t x,.int .i64 A 22],tw,λE=>rfl,rfl,rfl,aB.of_eq (QV x _) ⟨u2 (um _) (ud hx 4194304 (by decide)),λ_=>rfl⟩⟩
   ·exact⟨cm,[.int .u32 t x,.int .i64 A 25],tw,λE=>rfl,rfl,rfl,aB.of_eq (QW x _) ⟨u2 (um _) (ud hx 33554432 (by decide)),λ_=>rfl⟩⟩
  ·cases h
 ·cases h
theorem DZ:bn Q (λf=>aE f Lw):=.cons Uy (aR _) dU
theorem ZC (b:Nat->Int):Sx.Good Q (M7 b):=.of bR DZ bl
theorem Sx.aa.UX {c:aq}{n tot:Nat}{ty:TypeId}:aa (.cells (fU c 0 n) tot ty) (.rows t n [c] t tot ty):=by
 refine aa.of rfl rfl λ_=> ?_;refine⟨rfl,λE o ⟨cs,fr,h1,h2,h3,h4⟩=>⟨cs,fr,h1,λ_=>h2,?_,h4,λi k col hi hk=> ?_⟩,λ_=>rfl⟩
 ·cases n with
  | zero=>simp
  | succ m =>
    have hl:m<(fU c 0 (m+1)).length:=by rw[mK];omega
    have:=h3 m _ (ay hl);have:=(Array.getElem?_eq_some_iff.1 this).1;simp only[List.length_cons,List.length_nil];omega
 ·match k,hk with
  | 0,hk =>
    simp only[aM,Option.some.injEq] at hk;subst hk;have hl:i<(fU c 0 n).length:=by rw[mK];omega
    have h5:=h3 i _ (ay hl);have h6:=(qB c n 0 i _ (ay hl)).2;rw[h6,aZ] at h5;simpa using h5
theorem Sx.aa.Wq {z:Bool}{n:Nat}{q:IntKind}{f g:Nat->Int}{tot:Nat}{ty:TypeId}(h: ∀ i,i<n->f i=g i):aa (.rows z n [.int q f] t tot ty) (.rows z n [.int q g] t tot ty):=by
 refine aa.of rfl rfl λhno=> ?_;refine⟨hno,λE o ⟨c,fr,h1,h2,h3,h4,h5⟩=>⟨c,fr,h1,h2,h3,h4,λi k col hi hk=> ?_⟩,λ_=>rfl⟩
 match k,hk with
 | 0,hk =>simp only[aM,Option.some.injEq] at hk;subst hk;have:=h5 i 0 (.int q f) hi rfl;simp only[aq.at,h i hi] at this;exact this
theorem XQ {b:Nat->Int}(hb: ∀ j,j<64->U (b j)){j:Nat}(hj:j<16):U (VD b j):=cv (.inr (.inl rfl)) (cv (.inr (.inl rfl)) (cv (.inr (.inl rfl)) (um _) (um _)) (um _)) (hb _ (by omega))
theorem GN (b:Nat->Int)(n j:Nat):wL b (n+1) j=if j=16+n then Ye (wL b n (16+n - 16)) (wL b n (16+n - 15)) (wL b n (16+n - 7)) (wL b n (16+n - 2))else wL b n j:=rfl
theorem abP {b:Nat->Int}(hb: ∀ j,j<64->U (b j)): ∀(n j:Nat),U (wL b n j)
 | 0,j=>by
   unfold wL;split
   ·exact XQ hb (by assumption)
   ·exact⟨by decide,by decide⟩
 | n+1,j=>by
   unfold wL;split
   ·exact um _
   ·exact abP hb n j
theorem Yt {W B:Nat->Int}(hW: ∀ j,j<8->U (W j)): ∀(i j:Nat),j<8->U (cW W B i j)
 | 0,j,hj=>hW j hj
 | i+1,j,hj=>by
   have ih:=Yt (B:=B) hW i;unfold cW yd
   match j,hj with
   | 0,_=>exact um _
   | 1,_=>exact ih 0 (by decide)
   | 2,_=>exact ih 1 (by decide)
   | 3,_=>exact ih 2 (by decide)
   | 4,_=>exact um _
   | 5,_=>exact ih 4 (by decide)
   | 6,_=>exact ih 5 (by decide)
   | 7,_=>exact ih 6 (by decide)
theorem Sh.Ok.bu {x:Sh}(h:x.Ok)(j:Nat)(hj:j<64):U (x.B j):=by have:=h.b j hj;exact⟨this.1,by omega⟩
theorem GC {x:Sh}(hx:x.Ok):aB (ry (M7 x.B) 148 Z [.slc 0 8 64 A 64] Sh.sb x (λ_:Unit=>(True,wm x.B,x))):=by
 refine aB.of_eq (Vo x) ?_;dsimp only;have hb:=hx.bu;have b: ∀ j,j<64->U (x.B j):=hb;refine⟨b 0 (by decide),b 1 (by decide),u2 (um _) (um _),b 2 (by decide),u2 (cv (.inr (.inl rfl)) (um _) (um _)) (um _),b 3 (by decide),u2 (cv (.inr (.inl rfl)) (cv (.inr (.inl rfl)) (um _) (um _)) (um _)) (b 3 (by decide)),b 4 (by decide),b 5 (by decide),u2 (um _) (um _),b 6 (by decide),u2 (cv (.inr (.inl rfl)) (um _) (um _)) (um _),b 7 (by decide),u2 (cv (.inr (.inl rfl)) (cv (.inr (.inl rfl)) (um _) (um _)) (um _)) (b 7 (by decide)),b 8 (by decide),b 9 (by decide),u2 (um _) (um _),b 10 (by decide),u2 (cv (.inr (.inl rfl)) (um _) (um _)) (um _),b 11 (by decide),u2 (cv (.inr (.inl rfl)) (cv (.inr (.inl rfl)) (um _) (um _)) (um _)) (b 11 (by decide)),b 12 (by decide),b 13 (by decide),u2 (um _) (um _),b 14 (by decide),u2 (cv (.inr (.inl rfl)) (um _) (um _)) (um _),b 15 (by decide),u2 (cv (.inr (.inl rfl)) (cv (.inr (.inl rfl)) (um _) (um _)) (um _)) (b 15 (by decide)),b 16 (by decide),b 17 (by decide),u2 (um _) (um _),b 18 (by decide),u2 (cv (.inr (.inl rfl)) (um _) (um _)) (um _),b 19 (by decide),u2 (cv (.inr (.inl rfl)) (cv (.inr (.inl rfl)) (um _) (um _)) (um _)) (b 19 (by decide)),b 20 (by decide),b 21 (by decide),u2 (um _) (um _),b 22 (by decide),u2 (cv (.inr (.inl rfl)) (um _) (um _)) (um _),b 23 (by decide),u2 (cv (.inr (.inl rfl)) (cv (.inr (.inl rfl)) (um _) (um _)) (um _)) (b 23 (by decide)),b 24 (by decide),b 25 (by decide),u2 (um _) (um _),b 26 (by decide),u2 (cv (.inr (.inl rfl)) (um _) (um _)) (um _),b 27 (by decide),u2 (cv (.inr (.inl rfl)) (cv (.inr (.inl rfl)) (um _) (um _)) (um _)) (b 27 (by decide)),b 28 (by decide),b 29 (by decide),u2 (um _) (um _),b 30 (by decide),u2 (cv (.inr (.inl rfl)) (um _) (um _)) (um _),b 31 (by decide),u2 (cv (.inr (.inl rfl)) (cv (.inr (.inl rfl)) (um _) (um _)) (um _)) (b 31 (by decide)),b 32 (by decide),b 33 (by decide),u2 (um _) (um _),b 34 (by decide),u2 (cv (.inr (.inl rfl)) (um _) (um _)) (um _),b 35 (by decide),u2 (cv (.inr (.inl rfl)) (cv (.inr (.inl rfl)) (um _) (um _)) (um _)) (b 35 (by decide)),b 36 (by decide),b 37 (by decide),u2 (um _) (um _),b 38 (by decide),u2 (cv (.inr (.inl rfl)) (um _) (um _)) (um _),b 39 (by decide),u2 (cv (.inr (.inl rfl)) (cv (.inr (.inl rfl)) (um _) (um _)) (um _)) (b 39 (by decide)),b 40 (by decide),b 41 (by decide),u2 (um _) (um _),b 42 (by decide),u2 (cv (.inr (.inl rfl)) (um _) (um _)) (um _),b 43 (by decide),u2 (cv (.inr (.inl rfl)) (cv (.inr (.inl rfl)) (um _) (um _)) (um _)) (b 43 (by decide)),b 44 (by decide),b 45 (by decide),u2 (um _) (um _),b 46 (by decide),u2 (cv (.inr (.inl rfl)) (um _) (um _)) (um _),b 47 (by decide),u2 (cv (.inr (.inl rfl)) (cv (.inr (.inl rfl)) (um _) (um _)) (um _)) (b 47 (by decide)),b 48 (by decide),b 49 (by decide),u2 (um _) (um _),b 50 (by decide),u2 (cv (.inr (.inl rfl)) (um _) (um _)) (um _),b 51 (by decide),u2 (cv (.inr (.inl rfl)) (cv (.inr (.inl rfl)) (um _) (um _)) (um _)) (b 51 (by decide)),b 52 (by decide),b 53 (by decide),u2 (um _) (um _),b 54 (by decide),u2 (cv (.inr (.inl rfl)) (um _) (um _)) (um _),b 55 (by decide),u2 (cv (.inr (.inl rfl)) (cv (.inr (.inl rfl)) (um _) (um _)) (um _)) (b 55 (by decide)),b 56 (by decide),b 57 (by decide),u2 (um _) (um _),b 58 (by decide),u2 (cv (.inr (.inl rfl)) (um _) (um _)) (um _),b 59 (by decide),u2 (cv (.inr (.inl rfl)) (cv (.inr (.inl rfl)) (um _) (um _)) (um _)) (b 59 (by decide)),b 60 (by decide),b 61 (by decide),u2 (um _) (um _),b 62 (by decide),u2 (cv (.inr (.inl rfl)) (um _) (um _)) (um _),b 63 (by decide),u2 (cv (.inr (.inl rfl)) (cv (.inr (.inl rfl)) (um _) (um _)) (um _)) (b 63 (by decide)),⟨0,by omega,rfl,Sx.aa.trans (Sx.aa.cells (cs':=fU (.int .u32 (wL x.B 0)) 0 64) (λE=>rfl) rfl) Sx.aa.UX,aa.refl _,aa.refl _,trivial⟩,λn hn=>⟨λa=> ?_,λa=> ?_⟩⟩
 ·have a:=of_decide_eq_true a;have e15:0+(16+(n:Int) - 15).toNat=16+n - 15:=by omega
  have e2:0+(16+(n:Int) - 2).toNat=16+n - 2:=by omega
  have e7:0+(16+(n:Int) - 7).toNat=16+n - 7:=by omega
  have e16:0+(16+(n:Int) - 16).toNat=16+n - 16:=by omega
  have e0:0+(16+(n:Int)).toNat=16+n:=by omega
  have u:=abP hb n
  refine⟨by omega,by omega,by omega,by omega,by omega,by omega,u _,u _,u2 (GK (u _) _) (GK (u _) _),u2 (MG (GK (u _) _) (GK (u _) _)) (ud (u _) 8 (by decide)),u _,u _,u2 (GK (u _) _) (GK (u _) _),u2 (MG (GK (u _) _) (GK (u _) _)) (ud (u _) 1024 (by decide)),
   by omega,by omega,by omega,by omega,by omega,by omega,by omega,by omega,by omega,n+1,by omega,by omega,?_,aa.refl _,aa.refl _,trivial⟩
  refine Sx.aa.Wq λj hj=> ?_;rw[e0];show _=wL x.B (n+1) j;by_cases ej:j=16+n
  ·rw[if_pos ej,GN,if_pos ej,e15,e2,e7,e16];rfl
  ·rw[if_neg ej,GN,if_neg ej]
 ·have a:=of_decide_eq_false a;have e:n=48:=by omega
  subst e;exact⟨by omega,(),trivial,aa.refl _,λ_=>rfl⟩
theorem Sh.Yl (x:Sh):(Sh.sb x).wf 0=A/\(Sh.sb x).ro=t/\(Sh.sb x).no=false:=⟨rfl,rfl,rfl⟩
theorem Qt:az Q 148 (qa Sh.sb uI):=by
 refine E8 (n:=20) (fn:=Z) Tryz.func148 (by kernel_rfl) (by kernel_rfl) Sh.Yl ?_;intro args g x h hp;unfold uI at h;split at h
 ·injection h with h;subst h;exact⟨M7 x.B,[.slc 0 8 64 A 64],ZC _,λE=>rfl,rfl,λ_=>rfl,GC hp⟩
 ·cases h
theorem Pf:bn Q (λf=>aE f Tv):=.cons Qt (oF _ _) DZ
theorem Wj (W B:Nat->Int):Sx.Good Q (Ff W B):=.of bR Pf bl
theorem Pz {x:Sh}(hx:x.Ok):aB (ry (Ff x.W x.B) 97 ag [.ptr 0 A 0,.slc 0 8 64 A 64] Sh.sb x (λ_:Unit=>(True,.aN [],{x with W:=lq x.W x.B}))):=by
 refine aB.of_eq (abL x) ?_;dsimp only;refine⟨x,aa.refl _,hx,λ_ _=>⟨⟨0,by omega,rfl,Sx.aa.trans (Sx.aa.cells (cs':=fU (.int .u32 (wL x.B 48)) 0 64) (λE=>rfl) rfl) Sx.aa.UX,aa.refl _,aa.refl _,trivial⟩,λi hi=>⟨λa=> ?_,λa=> ?_⟩⟩⟩
 ·have a:=of_decide_eq_true a;have u:=Yt (B:=x.B) hx.w i;have u0:=u 0 (by decide);have u1:=u 1 (by decide);have u2':=u 2 (by decide);have u4:=u 4 (by decide);have u5:=u 5 (by decide);have u6:=u 6 (by decide);have r: ∀ {y:Int} (n:Int),U y->U (dH y n):=λn h=>GK h n;refine⟨⟨u2 u4 u5,u2 uM u4,u2 (MG uM u4) u6,u2 (MC u4 u5) (MC (MG uM u4) u6),by omega,by omega,by omega,by omega,u4,rfl,rfl,rfl,rfl,u4,rfl,rfl,rfl,rfl,u2 (r _ u4) (r _ u4),u4,rfl,rfl,rfl,rfl,u2 (MG (r _ u4) (r _ u4)) (r _ u4),i,rfl,?_,aa.refl _,aa.refl _,aa.refl _,trivial⟩,λi1 h1 =>⟨⟨u2 u0 u1,u2 u0 u2',u2 (MC u0 u1) (MC u0 u2'),u2 u1 u2',u2 (MG (MC u0 u1) (MC u0 u2')) (MC u1 u2'),u0,rfl,rfl,rfl,rfl,u0,rfl,rfl,rfl,rfl,u2 (r _ u0) (r _ u0),u0,rfl,rfl,rfl,rfl,u2 (MG (r _ u0) (r _ u0)) (r _ u0),i,rfl,rfl,aa.refl _,aa.refl _,aa.refl _,trivial⟩,λi2 h2=>⟨by omega,i+1,by omega,by omega,aa.refl _,?_,aa.refl _,trivial⟩⟩⟩
  ·rw[Int.toNat_natCast,aZ];rfl
  ·injection h1 with h1;injection h1 with _ _ h1;injection h2 with h2;injection h2 with _ _ h2;have e1:i1=i:=by omega
   have e2:i2=i:=by omega
   subst e1;subst e2;exact aa.refl _
 ·have a:=of_decide_eq_false a;have e:i=64:=by omega
  subst e;exact⟨(),trivial,aa.refl _,λ_=>rfl⟩
theorem Z5:az Q 97 (qa Sh.sb F6):=by
 refine E8 (n:=20) (fn:=ag) Tryz.func97 (by kernel_rfl) (by kernel_rfl) Sh.Yl ?_;intro args g x h hp;unfold F6 at h;split at h
 ·injection h with h;subst h;exact⟨Ff x.W x.B,[.ptr 0 A 0,.slc 0 8 64 A 64],Wj _ _,λE=>rfl,rfl,λ_=>rfl,Pz hp⟩
 ·cases h
noncomputable def Tw:List (FuncId×PT):=(97,qa Sh.sb F6)::gd
theorem Pg:bn Q (λf=>aE f Tw):=.cons Z5 (oF _ _) dU
def SY (j:Nat):Int:=Db [1779033703,3144134277,1013904242,2773480762,1359893119,2600822924,528734635,1541459225] j
def yR (T:List UInt8)(q j:Nat):Int:=ai T ((64*q+j:Nat):Int)
def p6 (T:List UInt8):Nat->Nat->Int
 | 0=>SY
 | q+1=>lq (p6 T q) (yR T q)
structure qm (x:Sh)(T:List UInt8):Prop where
 ok:x.Ok
 w: ∀ j,j<8->x.W j=p6 T (T.length / 64) j
 b: ∀ j,j<T.length% 64->x.B j=yR T (T.length / 64) j
 h:x.held=((T.length% 64:Nat):Int)
def Dj (x:Sh)(T:List UInt8):Prop:=qm x T/\x.size=(T.length:Int)% 18446744073709551616
noncomputable def Ri (T s:List UInt8)(z:Int):aV :=
 {α:=Nat×Sh,pre:=λ_ x=>x.1<=s.length/\qm x.2 (T++s.take x.1)/\x.2.size=z,kT:=λ_ x=>s.length - x.1,fresh:=0,slots:=λ_ x=>[(1,.str t (s.drop x.1))],
  mem:=λ_ x=>[(0,x.2.sb)]}
noncomputable def M8 (T s:List UInt8)(z:Int):fJ:={cm with cG:=λf=>aE f Tw,bx:=λf=>if f=60 then [(2,always (Ri T s z))] else []}
theorem ZI (T s:List UInt8)(z:Int):Sx.Good Q (M8 T s z):=.of bR Pg bl
def yg (g:Sh×List UInt8):SB:=g.1.sb
def yI:List SV->Option (Sh×List UInt8->Prop×(Sh->Prop×SV×(Sh×List UInt8)))
 | [.ptr 0 A 0,.str t s]=>F λg=>(Dj g.1 g.2/\s.length<1152921504606846976,λy=>(Dj y (g.2++s),.ptr 0 A 0,(y,g.2++s)))
 | _=>N
def mc (x:Sh)(D:List UInt8):Sh :=⟨x.W,λj=>if 8+x.held.toNat - 8<=j/\j<8+x.held.toNat - 8+min D.length (64 - x.held.toNat)then((D.getD (j - (8+x.held.toNat - 8)) 0).toNat:Int)else x.B j,x.held+((min D.length (64 - x.held.toNat):Nat):Int),x.size⟩
theorem XM (x:Sh)(T s:List UInt8)(z:Int):VC.holds (ry (M8 T s z) 60 Tryz.f60 [.ptr 0 A 0,.str t s] yg (x,T) (λy:Sh=>(Dj y (T++s),.ptr 0 A 0,(y,T++s))))=((λR0:Nat->SV=>((λR1:Nat->SV=>((λR2:Nat->(Nat×Sh)->SV=>((λR3:Nat->(Nat×Sh)->SV=>((λR4:Nat->(Nat×Sh)->SV=>((λR5:Nat->(Nat×Sh)->SV=>((λR6:Nat->(Sh)->SV=>((λR7:Nat->(Sh)->SV=>((λR8:Nat->(Sh)->SV=>((λR9:Nat->(Nat×Sh)->SV=>((λR10:Nat->(Nat×Sh)->SV=>((λR11:Nat->(Nat×Sh)->SV=>((λR12:Nat->(Nat×Sh)->SV=>((λR13:Nat->(Nat×Sh)->SV=>((λR14:Nat->(Sh)->SV=>((λR15:Nat->(Sh)->SV=>((λR16:Nat->(Sh)->SV=>((λR17:Nat->(Nat×Sh)->SV=>((λR18:Nat->(Nat×Sh)->SV=>((λR19:Nat->(Nat×Sh)->SV=>((λR20:Nat->(Nat×Sh)->SV=>((λR21:Nat->(Nat×Sh)->SV=>((λR22:Nat->(Sh)->SV=>((λR23:Nat->(Sh)->SV=>((λP0:(Nat×Sh)->SB=>((λP1:(Nat×Sh)->SB=>(((∃(u10:Nat×Sh),(u10.1<=s.length/\qm u10.2 (T++S u10.1 s)/\u10.2.size=z)/\s=I u10.1 s /\aa (SB.cells (K8 R0 (wO R1 [SV.int .i64 t x.held,SV.int .u64 t ((x.size+(s.length:Int)% 18446744073709551616)% 18446744073709551616)])) 74 171) (SB.cells (K8 (λi=>R2 i u10) (wO (λi=>R3 i u10) [SV.int .i64 t u10.2.held,SV.int .u64 t u10.2.size])) 74 171) /\True)/\∀(u9:Nat×Sh),u9.1<=s.length/\qm u9.2 (T++S u9.1 s)/\u9.2.size=z->((!decide (I u9.1 s=[]))=A->(0<=u9.2.held/\u9.2.held<=64/\(64:Int)<=(64:Int))/\(L (64=u9.2.held.toNat)=A->((8:Nat)<=(8:Nat)/\8+(64 - u9.2.held.toNat)<=8+(64:Nat))/\((-9223372036854775808:Int)<=u9.2.held+(↑(min (I u9.1 s).length (64 - u9.2.held.toNat)):Int)/\u9.2.held+(↑(min (I u9.1 s).length (64 - u9.2.held.toNat)):Int)<=9223372036854775807)/\(0<=(↑(min (I u9.1 s).length (64 - u9.2.held.toNat)):Int)/\(↑(min (I u9.1 s).length (64 - u9.2.held.toNat)):Int)<=(↑(I u9.1 s).length:Int)/\(↑(I u9.1 s).length:Int)<=(↑(I u9.1 s).length:Int))/\(L (u9.2.held+(↑(min (I u9.1 s).length (64 - u9.2.held.toNat)):Int)=64)=A ->∃(u8:Sh),aa (P1 u9) (SB.cells (K8 (λi=>R6 i u8) (wO (λi=>R7 i u8) [SV.int .i64 t u8.held,SV.int .u64 t u8.size])) 74 171)/\u8.Ok/\∀(_:Unit),True->∃(u6:Nat×Sh),((u6.1<=s.length/\qm u6.2 (T++S u6.1 s)/\u6.2.size=z)/\s.length - u6.1<s.length - u9.1)/\cj (I u9.1 s) (F (Y 37)) N (↑(min (I u9.1 s).length (64 - u9.2.held.toNat)):Int) (↑(I u9.1 s).length:Int)=I u6.1 s /\aa (SB.cells (K8 (λi=>R8 i u8) (wO (λi=>R7 i u8) [SV.int .i64 A 0,SV.int .u64 t u8.size])) 74 171) (SB.cells (K8 (λi=>R9 i u6) (wO (λi=>R10 i u6) [SV.int .i64 t u6.2.held,SV.int .u64 t u6.2.size])) 74 171) /\True)/\(L (u9.2.held+(↑(min (I u9.1 s).length (64 - u9.2.held.toNat)):Int)=64)=t->∃(u5:Nat×Sh),((u5.1<=s.length/\qm u5.2 (T++S u5.1 s)/\u5.2.size=z)/\s.length - u5.1<s.length - u9.1)/\cj (I u9.1 s) (F (Y 37)) N (↑(min (I u9.1 s).length (64 - u9.2.held.toNat)):Int) (↑(I u9.1 s).length:Int)=I u5.1 s /\aa (P1 u9) (SB.cells (K8 (λi=>R11 i u5) (wO (λi=>R12 i u5) [SV.int .i64 t u5.2.held,SV.int .u64 t u5.2.size])) 74 171)/\True))/\(L (64=u9.2.held.toNat)=t->((8:Nat)<=8+u9.2.held.toNat/\8+u9.2.held.toNat+(64 - u9.2.held.toNat)<=8+(64:Nat))/\((-9223372036854775808:Int)<=u9.2.held+(↑(min (I u9.1 s).length (64 - u9.2.held.toNat)):Int) /\u9.2.held+(↑(min (I u9.1 s).length (64 - u9.2.held.toNat)):Int)<=9223372036854775807)/\(0<=(↑(min (I u9.1 s).length (64 - u9.2.held.toNat)):Int)/\(↑(min (I u9.1 s).length (64 - u9.2.held.toNat)):Int)<=(↑(I u9.1 s).length:Int)/\(↑(I u9.1 s).length:Int)<=(↑(I u9.1 s).length:Int))/\(L (u9.2.held+(↑(min (I u9.1 s).length (64 - u9.2.held.toNat)):Int)=64)=A ->∃(u4:Sh),aa (P0 u9) (SB.cells (K8 (λi=>R14 i u4) (wO (λi=>R15 i u4) [SV.int .i64 t u4.held,SV.int .u64 t u4.size])) 74 171)/\u4.Ok/\∀(_:Unit),True->∃(u2:Nat×Sh),((u2.1<=s.length/\qm u2.2 (T++S u2.1 s)/\u2.2.size=z)/\s.length - u2.1<s.length - u9.1) /\cj (I u9.1 s) (F (Y 37)) N (↑(min (I u9.1 s).length (64 - u9.2.held.toNat)):Int) (↑(I u9.1 s).length:Int)=I u2.1 s /\aa (SB.cells (K8 (λi=>R16 i u4) (wO (λi=>R15 i u4) [SV.int .i64 A 0,SV.int .u64 t u4.size])) 74 171) (SB.cells (K8 (λi=>R17 i u2) (wO (λi=>R18 i u2) [SV.int .i64 t u2.2.held,SV.int .u64 t u2.2.size])) 74 171) /\True)/\(L (u9.2.held+(↑(min (I u9.1 s).length (64 - u9.2.held.toNat)):Int)=64)=t->∃(u1:Nat×Sh),((u1.1<=s.length/\qm u1.2 (T++S u1.1 s)/\u1.2.size=z)/\s.length - u1.1<s.length - u9.1)/\cj (I u9.1 s) (F (Y 37)) N (↑(min (I u9.1 s).length (64 - u9.2.held.toNat)):Int) (↑(I u9.1 s).length:Int)=I u1.1 s /\aa (P0 u9) (SB.cells (K8 (λi=>R19 i u1) (wO (λi=>R20 i u1) [SV.int .i64 t u1.2.held,SV.int .u64 t u1.2.size])) 74 171)/\True)))/\((!decide (I u9.1 s=[]))=t->∃(u0:Sh),Dj u0 (T++s) /\aa (SB.cells (K8 (λi=>R4 i u9) (wO (λi=>R21 i u9) [SV.int .i64 t u9.2.held,SV.int .u64 t u9.2.size])) 74 171) (SB.cells (K8 (λi=>R22 i u0) (wO (λi=>R23 i u0) [SV.int .i64 t u0.held,SV.int .u64 t u0.size])) 74 171) /\af (SV.ptr 0 A 0) (SV.ptr 0 A 0))))) (fun(u9:Nat×Sh)=>(SB.cells (K8 (λi=>R4 i u9) (wO (λi=>R5 i u9) [SV.int .i64 t (u9.2.held+(↑(min (I u9.1 s).length (64 - u9.2.held.toNat)):Int)),SV.int .u64 t u9.2.size])) 74 171)))) (fun(u9:Nat×Sh)=>(SB.cells (K8 (λi=>R4 i u9) (wO (λi=>R13 i u9) [SV.int .i64 t (u9.2.held+(↑(min (I u9.1 s).length (64 - u9.2.held.toNat)):Int)),SV.int .u64 t u9.2.size])) 74 171)))) (fun(n0:Nat) (u0:Sh)=>SV.int .u8 t (u0.B n0)))) (fun(n0:Nat) (u0:Sh)=>SV.int .u32 t (u0.W n0)))) (fun(n0:Nat) (u9:Nat×Sh)=>SV.int .u8 t (u9.2.B n0)))) (fun(n0:Nat) (u1:Nat×Sh)=>SV.int .u8 t (u1.2.B n0)))) (fun(n0:Nat) (u1:Nat×Sh)=>SV.int .u32 t (u1.2.W n0)))) (fun(n0:Nat) (u2:Nat×Sh)=>SV.int .u8 t (u2.2.B n0)))) (fun(n0:Nat) (u2:Nat×Sh)=>SV.int .u32 t (u2.2.W n0)))) (fun(n0:Nat) (u4:Sh)=>SV.int .u32 t (lq u4.W u4.B n0)))) (fun(n0:Nat) (u4:Sh)=>SV.int .u8 t (u4.B n0)))) (fun(n0:Nat) (u4:Sh)=>SV.int .u32 t (u4.W n0)))) (fun(n0:Nat) (u9:Nat×Sh)=>SV.int .u8 t (if 8+u9.2.held.toNat - 8<=(n0:Nat)/\(n0:Nat)<8+u9.2.held.toNat - 8+min (I u9.1 s).length (64 - u9.2.held.toNat)then(↑((I u9.1 s).getD (n0 - (8+u9.2.held.toNat - 8)) (0:UInt8)).toNat:Int)else u9.2.B n0)))) (fun(n0:Nat) (u5:Nat×Sh)=>SV.int .u8 t (u5.2.B n0)))) (fun(n0:Nat) (u5:Nat×Sh)=>SV.int .u32 t (u5.2.W n0)))) (fun(n0:Nat) (u6:Nat×Sh)=>SV.int .u8 t (u6.2.B n0)))) (fun(n0:Nat) (u6:Nat×Sh)=>SV.int .u32 t (u6.2.W n0)))) (fun(n0:Nat) (u8:Sh)=>SV.int .u32 t (lq u8.W u8.B n0)))) (fun(n0:Nat) (u8:Sh)=>SV.int .u8 t (u8.B n0)))) (fun(n0:Nat) (u8:Sh)=>SV.int .u32 t (u8.W n0)))) (fun(n0:Nat) (u9:Nat×Sh)=>SV.int .u8 t (if(0:Nat)<=(n0:Nat)/\(n0:Nat)<0+min (I u9.1 s).length (64 - u9.2.held.toNat)then(↑((I u9.1 s).getD n0 (0:UInt8)).toNat:Int)else u9.2.B n0)))) (fun(n0:Nat) (u9:Nat×Sh)=>SV.int .u32 t (u9.2.W n0)))) (fun(n0:Nat) (u10:Nat×Sh)=>SV.int .u8 t (u10.2.B n0)))) (fun(n0:Nat) (u10:Nat×Sh)=>SV.int .u32 t (u10.2.W n0)))) (fun(n0:Nat)=>SV.int .u8 t (x.B n0)))) (fun(n0:Nat)=>SV.int .u32 t (x.W n0))):=by kernel_rfl
end Go.Proofs.YtoibaecagklkaaaGreatDoor
