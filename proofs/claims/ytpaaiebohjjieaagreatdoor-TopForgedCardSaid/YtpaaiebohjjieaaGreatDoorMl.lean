/-
  The framework's part 29: contracts of functions that reach one block of their caller's.
-/
import Derived.Test.YtpaaiebohjjieaaGreatDoorMi
import Derived.Test.YtpaaiebohjjieaaGreatDoorMj
import Derived.Test.YtpaaiebohjjieaaGreatDoorMk
namespace Go.Proofs.YtpaaiebohjjieaaGreatDoor.Sx
open Go
def ah7 (k:Nat):SV->Option SV
 | .ptr j l o=>(match Nat.beq j k with
   | true=>some (.ptr 0 l o)
   | false=>none)
 | .slc j o n l c=>(match Nat.beq j k with
   | true=>some (.slc 0 o n l c)
   | false=>none)
 | .int a _ n=>some (.int a false n)
 | .bool _ b=>some (.bool false b)
 | .str _ s=>some (.str false s)
 | _=>none
def QS (k:Nat):List SV->Option (List SV)
 | []=>some []
 | v::r=>(match ah7 k v,QS k r with
   | some x,some l=>some (x::l)
   | _,_=>none)
theorem acs {k:Nat}{E:Nat->Nat}{v u:SV}(h:ah7 k v=some u):u.val (fun _=>E k)=v.val E/\u.wf 1=true:=by
 unfold ah7 at h
 split at h<;>first
  | cases h;done
  | (injection h with h;subst h;exact⟨rfl,rfl⟩)
  | skip
 ·split at h
  ·rename_i e;injection h with h;subst h;have e:=Nat.eq_of_beq_eq_true e;subst e;exact⟨rfl,rfl⟩
  ·cases h
 ·split at h
  ·rename_i e;injection h with h;subst h;have e:=Nat.eq_of_beq_eq_true e;subst e;exact⟨rfl,rfl⟩
  ·cases h
theorem KH {k:Nat}{E:Nat->Nat}: ∀ {l r:List SV},QS k l=some r->SV.vals (fun _=>E k) r=SV.vals E l/\SV.gM 1 r=true
 | [],r,h=>by injection h with h;subst h;exact⟨rfl,rfl⟩
 | v::l,r,h=>by
   unfold QS at h;split at h
   ·rename_i x l' hx hl;injection h with h;subst h;obtain⟨g1,g2⟩:=acs (E:=E) hx;obtain⟨g3,g4⟩:=KH (E:=E) hl;exact⟨by simp only[SV.vals,g1,g3],by simp only[SV.gM,g2,g4,Bool.and_self]⟩
   ·cases h
def adN:List SV->Option Nat
 | []=>none
 | .ptr j _ _::_=>some j
 | .slc j _ _ _ _::_=>some j
 | _::r=>adN r
def Vj (k:Nat):SV->SV
 | .ptr _ l o=>.ptr k l o
 | v=>v
def adM:SV->Bool
 | .ptr j _ _=>Nat.beq j 0
 | v=>v.wf 0
theorem acY {v:SV}(h:adM v=true){k:Nat}{E E':Nat->Nat}(he:E' 0=E k):(Vj k v).val E=v.val E':=by
 cases v
 case ptr j l o =>
  have e:=Nat.eq_of_beq_eq_true h
  grind [Vj,SV.val]
 all_goals exact SV.DP (by exact h) _ _
noncomputable def wu {G H:Type}(sb:G->SB)(sp:List SV->Option (G->Prop×(H->Prop×SV×G))):PT:=fun args m nx K=>match adN args with
 | some k=>(match QS k args with
   | some l=>(match sp l with
     | some g=>(match m.get k with
       | some B=>.ex G fun x=>.and (.atom (af B (sb x))) (.and (.atom (g x).1) (.all H fun y=>.imp ((g x).2 y).1 (K (Vj k ((g x).2 y).2.1) (m.put k (sb ((g x).2 y).2.2)) nx)))
       | none=>.fail "a call's block")
     | none=>.fail "a call's arguments")
   | none=>.fail "a call's arguments")
 | none=>.fail "a call's arguments"
theorem vh {G H:Type}(sb:G->SB)(sp:List SV->Option (G->Prop×(H->Prop×SV×G))):aJ (wu sb sp):=by
 intro args m nx K K' hK h;unfold wu at h ⊢;split at h
 ·split at h
  ·split at h
   ·split at h
    ·obtain⟨x,h1,h2,h3⟩:=h;exact⟨x,h1,h2,fun y hy=>hK _ _ _ (h3 y hy)⟩
    ·exact h.elim
   ·exact h.elim
  ·exact h.elim
 ·exact h.elim
def VH {G H:Type}(sb:G->SB)(g:H->Prop×SV×G)(v:SV)(m:Mem):VC:=match m.get 0 with
 | some X=>.ex H fun y=>.and (.atom (g y).1) (.and (leA X (sb (g y).2.2)) (svA v (g y).2.1))
 | none=>.fail "no block"
theorem OX {P:Program}{f:FuncId}{fn:Func}(hf:P.funcs[f]?=some fn) (hn:(fn.name== "runtime.NumGoroutine")=false) (hb:fn.body.isSome=true) {n:Nat} {G H:Type} {sb:G->SB} {sp:List SV->Option (G->Prop×(H->Prop×SV×G))}
  (hsb: ∀ x,(sb x).wf 0=true/\(sb x).ro=false/\(sb x).no=false)
  (h: ∀ args g x,sp args=some g->(g x).1->∃ cfg args',Good P cfg/\(∀ E,SV.vals E args'=SV.vals E args)/\SV.gM 1 args'=true/\(∀ y,adM ((g x).2 y).2.1=true) /\
    aq (gR P (calling P cfg n) [] Al (cfg.aR f) cfg.rounds fn args' [(0,sb x)] 1 (fun v m _=>VH sb (g x).2 v m))):au P f (wu sb sp):=by
 intro args m nx K hk hwf hargs Γ E w hs;unfold wu at hk;split at hk
 ·rename_i k hkey;split at hk
  ·rename_i l hl;split at hk
   ·rename_i g hg;split at hk
    ·rename_i B hB;obtain⟨x,h1,h2,h3⟩:=hk;have h1:af B (sb x):=h1;obtain⟨cfg,args',c1,c2,c3,c4,c5⟩:=h _ _ x hg h2;obtain⟨s1,s2,s3⟩:=hsb x;have hone:=hs.one hB h1 s3 s2 s1;have hc:=gG c1 hf hn hb c5 (by simp only[Mem.wf,Bool.and_true];exact SB.j0 (Nat.zero_le _) s1) c3 hone;rw[c2,(KH (E:=E) hl).1] at hc;refine ic hf hn hb (hc.mono ?_);rintro e w' ⟨v,rfl,E1,u,m1,nx1,g1,g2,g3,g4,g5⟩;refine⟨v,rfl,?_⟩;cases u with
     | none=>exact g5.elim
     | some u =>
       simp only[lift,VH] at g5;split at g5
       ·rename_i X hX;obtain⟨y,y1,y2,y3⟩:=g5;have y2:af X (sb ((g x).2 y).2.2):=y2;have y3:ah u ((g x).2 y).2.1:=y3;obtain⟨t1,t2,t3⟩:=hsb ((g x).2 y).2.2;have hsw:=g4.swap hX y2;have hE0:E1 0=E k:=g1 0 (by omega);have hfr:=hs.frame hB (h1.old s3).1 ((h1.old s3).2.2 s2) hsw hE0 (Mem.Mz hX) t3 t2 t1;refine⟨E,some (Vj k ((g x).2 y).2.1),_,nx,fun _ _=>rfl,Nat.le_refl _,fun z hz=> ?_,hfr,h3 y y1⟩;injection hz with hz;subst hz;rw[g3 u rfl,y3 E1]
        grind [acY]
       ·exact g5.elim
    ·exact hk.elim
   ·exact hk.elim
  ·exact hk.elim
 ·exact hk.elim
end Go.Proofs.YtpaaiebohjjieaaGreatDoor.Sx
namespace Go.Proofs.YtpaaiebohjjieaaGreatDoor
open Go Sx
set_option maxRecDepth 20000
def D4 (f:Nat->Prop->Prop):Nat->Nat->Prop->Prop
 | _,0,t=>t
 | i,n+1,t=>f i (D4 f (i+1) n t)
theorem D4.of {f:Nat->Prop->Prop}{t:Prop}{N:Nat}(h: ∀ i r,i<N->r->f i r)(ht:t): ∀ n i,i+n<=N->D4 f i n t
 | 0,_,_=>ht
 | n+1,i,hn=>h i _ (by omega) (D4.of h ht n (i+1) (by omega))
def ajB (a b c:Int):Int:=bitsOf .xor (bitsOf .xor a b) c
def iA (x n:Int):Int:=bitsOf .or (x*(2^ (32 - n).toNat:Nat)% 4294967296) (x / (2^ n.toNat:Nat))
def apM (a:Int):Int:=ajB (iA a 2) (iA a 13) (iA a 22)
def apN (e:Int):Int:=ajB (iA e 6) (iA e 11) (iA e 25)
def ara (x:Int):Int:=ajB (iA x 7) (iA x 18) (x / 8)
def arb (y:Int):Int:=ajB (iA y 17) (iA y 19) (y / 1024)
def chF (e f g:Int):Int:=bitsOf .xor (bitsOf .and e f) (bitsOf .and (bitsOf .xor 4294967295 e) g)
def aq4 (a b c:Int):Int:=ajB (bitsOf .and a b) (bitsOf .and a c) (bitsOf .and b c)
def RH:List Int:=[1116352408,1899447441,3049323471,3921009573,961987163,1508970993,2453635748,2870763221,3624381080,310598401,607225278,1426881987,1925078388,2162078206,2614888103,3248222580,3835390401,4022224774,264347078,604807628,770255983,1249150122,1555081692,1996064986,2554220882,2821834349,2952996808,3210313671,3336571891,3584528711,113926993,338241895,666307205,773529912,1294757372,1396182291,1695183700,1986661051,2177026350,2456956037,2730485921,2820302411,3259730800,3345764771,3516065817,3600352804,4094571909,275423344,430227734,506948616,659060556,883997877,958139571,1322822218,1537002063,1747873779,1955562222,2024104815,2227730452,2361852424,2428436474,2756734187,3204031479,3329325298]
def ank (i:Nat):Int:=LR RH i
def ajo (b:Nat->Int)(j:Nat):Int:=bitsOf .or (bitsOf .or (bitsOf .or (b (4*j)*16777216% 4294967296) (b (4*j+1)*65536% 4294967296)) (b (4*j+2)*256% 4294967296)) (b (4*j+3))
def amC (a b c d:Int):Int:=(((a+ara b)% 4294967296+c)% 4294967296+arb d)% 4294967296
def wL (b:Nat->Int):Nat->Nat->Int
 | 0=>fun j=>if j<16 then ajo b j else 0
 | n+1=>fun j=>if j=16+n then amC (wL b n (16+n - 16)) (wL b n (16+n - 15)) (wL b n (16+n - 7)) (wL b n (16+n - 2))else wL b n j
def t1F (v:Nat->Int)(k w:Int):Int:=((((v 7+apN (v 4))% 4294967296+chF (v 4) (v 5) (v 6))% 4294967296+k)% 4294967296+w)% 4294967296
def t2F (v:Nat->Int):Int:=(apM (v 0)+aq4 (v 0) (v 1) (v 2))% 4294967296
def E8 (v:Nat->Int)(k w:Int)(j:Nat):Int:=match j with
 | 0=>(t1F v k w+t2F v)% 4294967296
 | 1=>v 0
 | 2=>v 1
 | 3=>v 2
 | 4=>(v 3+t1F v k w)% 4294967296
 | 5=>v 4
 | 6=>v 5
 | 7=>v 6
 | _=>0
def LW (W B:Nat->Int):Nat->Nat->Int
 | 0=>W
 | i+1=>E8 (LW W B i) (ank i) (wL B 48 i)
def rE (W B:Nat->Int)(j:Nat):Int:=(W j+LW W B 64 j)% 4294967296
structure Sh where
 W:Nat->Int
 B:Nat->Int
 held:Int
 size:Int
def Sh.cs (x:Sh):List SV:=[.int .u32 false (x.W 0),.int .u32 false (x.W 1),.int .u32 false (x.W 2),.int .u32 false (x.W 3),.int .u32 false (x.W 4),.int .u32 false (x.W 5),.int .u32 false (x.W 6),.int .u32 false (x.W 7),.int .u8 false (x.B 0),.int .u8 false (x.B 1),.int .u8 false (x.B 2),.int .u8 false (x.B 3),.int .u8 false (x.B 4),.int .u8 false (x.B 5),.int .u8 false (x.B 6),.int .u8 false (x.B 7),.int .u8 false (x.B 8),.int .u8 false (x.B 9),.int .u8 false (x.B 10),.int .u8 false (x.B 11),.int .u8 false (x.B 12),.int .u8 false (x.B 13),.int .u8 false (x.B 14),.int .u8 false (x.B 15),.int .u8 false (x.B 16),.int .u8 false (x.B 17),.int .u8 false (x.B 18),.int .u8 false (x.B 19),.int .u8 false (x.B 20),.int .u8 false (x.B 21),.int .u8 false (x.B 22),.int .u8 false (x.B 23),.int .u8 false (x.B 24),.int .u8 false (x.B 25),.int .u8 false (x.B 26),.int .u8 false (x.B 27),.int .u8 false (x.B 28),.int .u8 false (x.B 29),.int .u8 false (x.B 30),.int .u8 false (x.B 31),.int .u8 false (x.B 32),.int .u8 false (x.B 33),.int .u8 false (x.B 34),.int .u8 false (x.B 35),.int .u8 false (x.B 36),.int .u8 false (x.B 37),.int .u8 false (x.B 38),.int .u8 false (x.B 39),.int .u8 false (x.B 40),.int .u8 false (x.B 41),.int .u8 false (x.B 42),.int .u8 false (x.B 43),.int .u8 false (x.B 44),.int .u8 false (x.B 45),.int .u8 false (x.B 46),.int .u8 false (x.B 47),.int .u8 false (x.B 48),.int .u8 false (x.B 49),.int .u8 false (x.B 50),.int .u8 false (x.B 51),.int .u8 false (x.B 52),.int .u8 false (x.B 53),.int .u8 false (x.B 54),.int .u8 false (x.B 55),.int .u8 false (x.B 56),.int .u8 false (x.B 57),.int .u8 false (x.B 58),.int .u8 false (x.B 59),.int .u8 false (x.B 60),.int .u8 false (x.B 61),.int .u8 false (x.B 62),.int .u8 false (x.B 63),.int .i64 false x.held,.int .u64 false x.size]
def Sh.sb (x:Sh):SB:=.cells x.cs 74 259
structure Sh.Ok (x:Sh):Prop where
 w: ∀ j,j<8->0<=x.W j/\x.W j<=4294967295
 b: ∀ j,j<64->0<=x.B j/\x.B j<=255
def aoQ (n:Int):Bool:=decide (n=2)||(decide (n=6)||(decide (n=7)||(decide (n=11)||(decide (n=13)||(decide (n=17)||(decide (n=18)||(decide (n=19)||(decide (n=22)||decide (n=25)))))))))
def E7:List SV->Option (Prop×SV)
 | [.int .u32 false x,.int .i64 false n]=>(match aoQ n with
   | true=>some (0<=x/\x<=4294967295,.int .u32 false (iA x n))
   | false=>none)
 | _=>none
noncomputable def aaQ (b:Nat->Int):bp :=
 {α:=Nat,pre:=fun _ n=>n<=48,sM:=fun _ n=>48 - n,fresh:=0,slots:=fun _ n=>[(6,.int .i64 false (16+(n:Int)))],
  mem:=fun _ n=>[(2,.rows false 64 [.int .u32 (wL b n)] false 64 367)]}
noncomputable def aaP (W B:Nat->Int):bp :=
 {α:=Nat,pre:=fun _ i=>i<=64,sM:=fun _ i=>64 - i,fresh:=0,slots:=fun _ i=>[(18,.int .i64 false i)],
  mem:=fun _ i=>[(1,.rows false 64 [.int .u32 (wL B 48)] false 64 367),(2,.cells [.int .u32 false (LW W B i 0),.int .u32 false (LW W B i 1),.int .u32 false (LW W B i 2),.int .u32 false (LW W B i 3),.int .u32 false (LW W B i 4),.int .u32 false (LW W B i 5),.int .u32 false (LW W B i 6),.int .u32 false (LW W B i 7)] 8 256)]}
noncomputable def aob (W B:Nat->Int):bp :={α:=Nat,pre:=fun st i=>slot st.tmps 18=some (.int .i64 false (i:Int)),sM:=fun _ _=>0,fresh:=0,slots:=fun _ i=>[(9,.int .u32 false (t1F (LW W B i) (ank i) (wL B 48 i)))],mem:=fun _ _=>[]}
noncomputable def aoc (W B:Nat->Int):bp :={α:=Nat,pre:=fun st i=>slot st.tmps 18=some (.int .i64 false (i:Int)),sM:=fun _ _=>0,fresh:=0,slots:=fun _ i=>[(10,.int .u32 false (t2F (LW W B i)))],mem:=fun _ _=>[]}
noncomputable def WL:List (FuncId×PT):=(192,aT E7)::kK
noncomputable def Yv (b:Nat->Int):gF:={cF with cM:=fun f=>aA f WL,aR:=fun f=>if f=191 then [(9,always (aaQ b))] else []}
def DA (b:Nat->Int):SV:=.agg [.int .u32 false (wL b 48 0),.int .u32 false (wL b 48 1),.int .u32 false (wL b 48 2),.int .u32 false (wL b 48 3),.int .u32 false (wL b 48 4),.int .u32 false (wL b 48 5),.int .u32 false (wL b 48 6),.int .u32 false (wL b 48 7),.int .u32 false (wL b 48 8),.int .u32 false (wL b 48 9),.int .u32 false (wL b 48 10),.int .u32 false (wL b 48 11),.int .u32 false (wL b 48 12),.int .u32 false (wL b 48 13),.int .u32 false (wL b 48 14),.int .u32 false (wL b 48 15),.int .u32 false (wL b 48 16),.int .u32 false (wL b 48 17),.int .u32 false (wL b 48 18),.int .u32 false (wL b 48 19),.int .u32 false (wL b 48 20),.int .u32 false (wL b 48 21),.int .u32 false (wL b 48 22),.int .u32 false (wL b 48 23),.int .u32 false (wL b 48 24),.int .u32 false (wL b 48 25),.int .u32 false (wL b 48 26),.int .u32 false (wL b 48 27),.int .u32 false (wL b 48 28),.int .u32 false (wL b 48 29),.int .u32 false (wL b 48 30),.int .u32 false (wL b 48 31),.int .u32 false (wL b 48 32),.int .u32 false (wL b 48 33),.int .u32 false (wL b 48 34),.int .u32 false (wL b 48 35),.int .u32 false (wL b 48 36),.int .u32 false (wL b 48 37),.int .u32 false (wL b 48 38),.int .u32 false (wL b 48 39),.int .u32 false (wL b 48 40),.int .u32 false (wL b 48 41),.int .u32 false (wL b 48 42),.int .u32 false (wL b 48 43),.int .u32 false (wL b 48 44),.int .u32 false (wL b 48 45),.int .u32 false (wL b 48 46),.int .u32 false (wL b 48 47),.int .u32 false (wL b 48 48),.int .u32 false (wL b 48 49),.int .u32 false (wL b 48 50),.int .u32 false (wL b 48 51),.int .u32 false (wL b 48 52),.int .u32 false (wL b 48 53),.int .u32 false (wL b 48 54),.int .u32 false (wL b 48 55),.int .u32 false (wL b 48 56),.int .u32 false (wL b 48 57),.int .u32 false (wL b 48 58),.int .u32 false (wL b 48 59),.int .u32 false (wL b 48 60),.int .u32 false (wL b 48 61),.int .u32 false (wL b 48 62),.int .u32 false (wL b 48 63)]
def BM:List SV->Option (Sh->Prop×(Unit->Prop×SV×Sh))
 | [.slc 0 8 64 _ 64]=>some fun x=>(x.Ok,fun _=>(True,DA x.B,x))
 | _=>none
noncomputable def afM:List (FuncId×PT):=(191,wu Sh.sb BM)::WL
noncomputable def O6 (W B:Nat->Int):gF:={cF with cM:=fun f=>aA f afM,aR:=fun f=>if f=134 then [(3,always (aaP W B)),(1006,always (aob W B)),(1007,always (aoc W B))] else []}
def Qp:List SV->Option (Sh->Prop×(Unit->Prop×SV×Sh))
 | [.ptr 0 true 0,.slc 0 8 64 _ 64]=>some fun x=>(x.Ok,fun _=>(True,.bL [],{x with W:=rE x.W x.B}))
 | _=>none
noncomputable def yC {G H:Type}(cfg:gF)(f:Nat)(fn:Func)(args:List SV)(sb:G->SB)(x:G)(g:H->Prop×SV×G):VC:=gR Tryz.prog (calling Tryz.prog cfg 20) [] Al (cfg.aR f) cfg.rounds fn args [(0,sb x)] 1 (fun v m _=>VH sb g v m)
section
variable (n m k i : Nat) (a b c d : Int) (x f B C : Sh) (h o : Nat -> SV) (z A : Nat -> Sh -> SV) (g : Nat -> Nat -> SV) (y : Nat -> Int)
abbrev jU:=a% 4294967296
abbrev ig:=a<=4294967295
abbrev fL:=SV.int IntKind.u32 false a
abbrev di:=jU (a*b)
abbrev lg:=fL (iS a b)
abbrev eD:=aL (0<=a) (ig b) (0<=c) (ig d)
abbrev dL:=SV.int IntKind.u32 true 0
abbrev ak6:=aK.int IntKind.u32 (wL x.B n)
abbrev m5:=16+NI n
abbrev TT:=di (x.B (4*n+2)) 256
abbrev Ga:=c6 (Sr (Sh.sb x))
abbrev qo:=bitsOf BinOp.xor a b
abbrev ZI:=qo (iA (y n) 17) (iA (y n) 19)
abbrev ZJ:=qo (iA (y n) 7) (iA (y n) 18)
abbrev ag2:=gk (ig (x.B (4*n+3))) (x.B (4*n+3))
abbrev aha:=aD dL dL dL dL dL dL dL dL (aD dL dL dL dL dL dL dL dL (aD dL dL dL dL dL dL dL dL (aD dL dL dL dL dL dL dL dL (aD dL dL dL dL dL dL dL dL (aD dL dL dL dL dL dL dL dL List.nil)))))
abbrev C7:=wL x.B n (fM (m5 n - 15))
abbrev C8:=wL x.B n (fM (m5 n - 2))
abbrev Ki:=di (x.B (aP (4*n))) 65536
abbrev Kk:=di (x.B (4*n)) 16777216
abbrev bQ:=aK.at n (ak6 m x)
abbrev pV:=lg (iS (iS (di (x.B n) 16777216) (di (f.B m) 65536)) (di (B.B k) 256)) (C.B i)
abbrev wU:=SV.int IntKind.u8 false a
abbrev qz5:Nat->Sh->SV:=fun a=>fun b=>wU (b.B a)
abbrev qz6:Nat->Sh->SV:=fun a=>fun b=>fL (b.W a)
abbrev agV:=aD (z 0 x) (z 1 x) (z 2 x) (z 3 x) (z 4 x) (z 5 x) (z 6 x) (z 7 x) (aD (z 8 x) (z 9 x) (z 10 x) (z 11 x) (z 12 x) (z 13 x) (z 14 x) (z 15 x) (aD (z 16 x) (z 17 x) (z 18 x) (z 19 x) (z 20 x) (z 21 x) (z 22 x) (z 23 x) (aD (z 24 x) (z 25 x) (z 26 x) (z 27 x) (z 28 x) (z 29 x) (z 30 x) (z 31 x) (aD (z 32 x) (z 33 x) (z 34 x) (z 35 x) (z 36 x) (z 37 x) (z 38 x) (z 39 x) (aD (z 40 x) (z 41 x) (z 42 x) (z 43 x) (z 44 x) (z 45 x) (z 46 x) (z 47 x) (aD (z 48 x) (z 49 x) (z 50 x) (z 51 x) (z 52 x) (z 53 x) (z 54 x) (z 55 x) (aD (z 56 x) (z 57 x) (z 58 x) (z 59 x) (z 60 x) (z 61 x) (z 62 x) (z 63 x) (aF (bC x.held) (rV x.size) List.nil))))))))
abbrev ahe:=SB.cells (aD (h 0) (h 1) (h 2) (h 3) (h 4) (h 5) (h 6) (h 7) (aD (o 0) (o 1) (o 2) (o 3) (o 4) (o 5) (o 6) (o 7) (aD (o 8) (o 9) (o 10) (o 11) (o 12) (o 13) (o 14) (o 15) (aD (o 16) (o 17) (o 18) (o 19) (o 20) (o 21) (o 22) (o 23) (aD (o 24) (o 25) (o 26) (o 27) (o 28) (o 29) (o 30) (o 31) (aD (o 32) (o 33) (o 34) (o 35) (o 36) (o 37) (o 38) (o 39) (aD (o 40) (o 41) (o 42) (o 43) (o 44) (o 45) (o 46) (o 47) (aD (o 48) (o 49) (o 50) (o 51) (o 52) (o 53) (o 54) (o 55) (aD (o 56) (o 57) (o 58) (o 59) (o 60) (o 61) (o 62) (o 63) (aF (bC x.held) (rV x.size) List.nil)))))))))) 74 259
abbrev nN:=LW x.W f.B n m
abbrev oH:=nN n 0 x x
abbrev tw:=nN n 4 x x
abbrev qu:=bC (NI n)
abbrev CX:=some (qu n)
abbrev wD:=nN n 1 x x
abbrev wE:=nN n 2 x x
abbrev Zr:=SB.cells (aD (g 0 n) (g 1 n) (g 2 n) (g 3 n) (g 4 n) (g 5 n) (g 6 n) (g 7 n) List.nil) 8 256
abbrev Zx:Nat->Nat->SV:=fun a=>fun b=>fL (nN b a x x)
abbrev ZD:=t1F (LW x.W x.B n) (ank n) (wL x.B 48 n)
abbrev Ge:=SB.cells (aD (z 0 x) (z 1 x) (z 2 x) (z 3 x) (z 4 x) (z 5 x) (z 6 x) (z 7 x) (agV x A)) 74 259
abbrev ZS:=qo (qn (oH n x) (wD n x)) (qn (oH n x) (wE n x))
abbrev Uk:=gk (ig (tw n x)) (tw n x)
abbrev ZX:=qn (qo 4294967295 (tw n x)) (nN n 6 x x)
abbrev ZY:=qo (iA (oH n x) 2) (iA (oH n x) 13)
abbrev ZZ:=qo (iA (tw n x) 6) (iA (tw n x) 11)
end
theorem ai6 (x:Int)(R:SV->Prop):VC.holds (fS cF 192 Tryz.f192 [.int .u32 false x,.int .i64 true 2] R)=(eD (di x 1073741824) (di x 1073741824) (x / 4) (x / 4)/\R (lg (di x 1073741824) (x / 4))):=by kernel_rfl
theorem ai7 (x:Int)(R:SV->Prop):VC.holds (fS cF 192 Tryz.f192 [.int .u32 false x,.int .i64 true 6] R)=(eD (di x 67108864) (di x 67108864) (x / 64) (x / 64)/\R (lg (di x 67108864) (x / 64))):=by kernel_rfl
theorem ai8 (x:Int)(R:SV->Prop):VC.holds (fS cF 192 Tryz.f192 [.int .u32 false x,.int .i64 true 7] R)=(eD (di x 33554432) (di x 33554432) (x / 128) (x / 128)/\R (lg (di x 33554432) (x / 128))):=by kernel_rfl
theorem ac9 (x:Int)(R:SV->Prop):VC.holds (fS cF 192 Tryz.f192 [.int .u32 false x,.int .i64 true 11] R)=(eD (di x 2097152) (di x 2097152) (x / 2048) (x / 2048)/\R (lg (di x 2097152) (x / 2048))):=by kernel_rfl
theorem ada (x:Int)(R:SV->Prop):VC.holds (fS cF 192 Tryz.f192 [.int .u32 false x,.int .i64 true 13] R)=(eD (di x 524288) (di x 524288) (x / 8192) (x / 8192)/\R (lg (di x 524288) (x / 8192))):=by kernel_rfl
theorem adb (x:Int)(R:SV->Prop):VC.holds (fS cF 192 Tryz.f192 [.int .u32 false x,.int .i64 true 17] R)=(eD (di x 32768) (di x 32768) (x / 131072) (x / 131072)/\R (lg (di x 32768) (x / 131072))):=by kernel_rfl
theorem ade (x:Int)(R:SV->Prop):VC.holds (fS cF 192 Tryz.f192 [.int .u32 false x,.int .i64 true 18] R)=(eD (di x 16384) (di x 16384) (x / 262144) (x / 262144)/\R (lg (di x 16384) (x / 262144))):=by kernel_rfl
theorem adf (x:Int)(R:SV->Prop):VC.holds (fS cF 192 Tryz.f192 [.int .u32 false x,.int .i64 true 19] R)=(eD (di x 8192) (di x 8192) (x / 524288) (x / 524288)/\R (lg (di x 8192) (x / 524288))):=by kernel_rfl
theorem adg (x:Int)(R:SV->Prop):VC.holds (fS cF 192 Tryz.f192 [.int .u32 false x,.int .i64 true 22] R)=(eD (di x 1024) (di x 1024) (x / 4194304) (x / 4194304)/\R (lg (di x 1024) (x / 4194304))):=by kernel_rfl
theorem adh (x:Int)(R:SV->Prop):VC.holds (fS cF 192 Tryz.f192 [.int .u32 false x,.int .i64 true 25] R)=(eD (di x 128) (di x 128) (x / 33554432) (x / 33554432)/\R (lg (di x 128) (x / 33554432))):=by kernel_rfl
theorem ajb (x:Sh):VC.holds (yC (Yv x.B) 191 Tryz.f191 [.slc 0 8 64 true 64] Sh.sb x (fun _:Unit=>(True,DA x.B,x)))=((fun(a:SB)=>(fun(b:Nat->Int)=>(fun(c:Nat->Int)=>D4 (fun a=>fun b=>aL (gk (ig (x.B (4*a))) (x.B (4*a))) (gk (ig (x.B (aP (4*a)))) (x.B (aP (4*a)))) (eD (Kk a x) (Kk a x) (Ki a x) (Ki a x)) (aI (gk (ig (x.B (4*a+2))) (x.B (4*a+2))) (eD (iS (Kk a x) (Ki a x)) (iS (Kk a x) (Ki a x)) (TT a x) (TT a x)) (ag2 a x) (ak (0<=iS (iS (Kk a x) (Ki a x)) (TT a x)) (ig (iS (iS (Kk a x) (Ki a x)) (TT a x))) (ag2 a x)) b)) 0 16 ((∃(b:Nat),aI (b<=48) (16=m5 b) (bH 64 (gB 64 64 367 (cB (ak6 b x))) (aD (pV 0 1 2 3 x x x x) (pV 4 5 6 7 x x x x) (pV 8 9 10 11 x x x x) (pV 12 13 14 15 x x x x) (pV 16 17 18 19 x x x x) (pV 20 21 22 23 x x x x) (pV 24 25 26 27 x x x x) (pV 28 29 30 31 x x x x) (aD (pV 32 33 34 35 x x x x) (pV 36 37 38 39 x x x x) (pV 40 41 42 43 x x x x) (pV 44 45 46 47 x x x x) (pV 48 49 50 51 x x x x) (pV 52 53 54 55 x x x x) (pV 56 57 58 59 x x x x) (pV 60 61 62 63 x x x x) aha)) 367) (Sr a) (Ga x))/\(∀(d:Nat),aX d 48 (bf (aL (I6 (m5 d - 15)) (Ix (m5 d - 15) 64) (yu (m5 d) 15<64/\fM (m5 d - 15)<64) (aI (I6 (m5 d - 2)) (Ix (m5 d - 2) 64) (yu (m5 d) 2<64/\fM (m5 d - 2)<64) (gk (ig (C7 d x)) (C7 d x)) (bl (gk (ig (C7 d x)) (C7 d x)) (eD (iA (b d) 7) (iA (b d) 7) (iA (b d) 18) (iA (b d) 18)) (eD (ZJ d b) (ZJ d b) (C7 d x / 8) (C7 d x / 8)) (gk (ig (C8 d x)) (C8 d x)) (gk (ig (C8 d x)) (C8 d x)) (eD (iA (c d) 17) (iA (c d) 17) (iA (c d) 19) (iA (c d) 19)) (eD (ZI d c) (ZI d c) (C8 d x / 1024) (C8 d x / 1024)) (I6 (m5 d - 16)) (bl (Ix (m5 d - 16) 64) (yu (m5 d) 16<64/\fM (m5 d - 16)<64) (I6 (m5 d - 7)) (Ix (m5 d - 7) 64) (yu (m5 d) 7<64/\fM (m5 d - 7)<64) (Ix (m5 d) 64) (Int.toNat (m5 d)<64/\fM (m5 d)<64) (I6 (m5 d+1)) (∃(e:Nat),aI (bT e 48 (48 - e<48 - d)) (m5 d+1=m5 e) (af (gB 64 64 367 (cB (aK.int IntKind.u32 (fun a=>sV a (fM (m5 d)) (jU (jU (jU (wL x.B d (fM (m5 d - 16))+qo (ZJ d b) (C7 d x / 8))+wL x.B d (fM (m5 d - 7)))+qo (ZI d c) (C8 d x / 1024))) (wL x.B d a))))) (gB 64 64 367 (cB (ak6 e x)))) (Sr a) (Ga x)))))) (bT 64 64 (∃(_:Unit),ak True (Sr (Sh.sb x)) (ah (SV.agg (aD (bQ 0 d x) (bQ 1 d x) (bQ 2 d x) (bQ 3 d x) (bQ 4 d x) (bQ 5 d x) (bQ 6 d x) (bQ 7 d x) (aD (bQ 8 d x) (bQ 9 d x) (bQ 10 d x) (bQ 11 d x) (bQ 12 d x) (bQ 13 d x) (bQ 14 d x) (bQ 15 d x) (aD (bQ 16 d x) (bQ 17 d x) (bQ 18 d x) (bQ 19 d x) (bQ 20 d x) (bQ 21 d x) (bQ 22 d x) (bQ 23 d x) (aD (bQ 24 d x) (bQ 25 d x) (bQ 26 d x) (bQ 27 d x) (bQ 28 d x) (bQ 29 d x) (bQ 30 d x) (bQ 31 d x) (aD (bQ 32 d x) (bQ 33 d x) (bQ 34 d x) (bQ 35 d x) (bQ 36 d x) (bQ 37 d x) (bQ 38 d x) (bQ 39 d x) (aD (bQ 40 d x) (bQ 41 d x) (bQ 42 d x) (bQ 43 d x) (bQ 44 d x) (bQ 45 d x) (bQ 46 d x) (bQ 47 d x) (aD (bQ 48 d x) (bQ 49 d x) (bQ 50 d x) (bQ 51 d x) (bQ 52 d x) (bQ 53 d x) (bQ 54 d x) (bQ 55 d x) (aD (bQ 56 d x) (bQ 57 d x) (bQ 58 d x) (bQ 59 d x) (bQ 60 d x) (bQ 61 d x) (bQ 62 d x) (bQ 63 d x) List.nil))))))))) (DA x.B)))) (m5 d) 64)))) (fun a=>C8 a x)) (fun a=>C7 a x)) (c8 64 (SV.agg (aD dL dL dL dL dL dL dL dL (aD dL dL dL dL dL dL dL dL aha))) 367)):=by kernel_rfl
theorem aqv (x:Sh):VC.holds (yC (O6 x.W x.B) 134 Tryz.f134 [.ptr 0 true 0,.slc 0 8 64 true 64] Sh.sb x (fun _:Unit=>(True,.bL [],{x with W:=rE x.W x.B})))=((fun(a:Nat->SV)=>(fun(b:Nat->SV)=>(fun(c:Nat->Sh->SV)=>(fun(d:Nat->Sh->SV)=>(fun(e:Nat->Sh->SV)=>(fun(f:Nat->Nat->SV)=>(fun(g:Nat->Nat->SV)=>(fun(h:Nat->Nat->SV)=>(fun(i:Nat->Sh->Nat->SV)=>(fun(j:Nat->SV)=>(fun(g:Nat->SB)=>(fun(k:SB)=>∃(l:Sh),ak (af (ahe x a b) (Ge l c d)) (Sh.Ok l) (∀(_:Unit),True->(∃(a:Nat),aI (a<=64) (fh a) (bH 64 k (aD (e 0 l) (e 1 l) (e 2 l) (e 3 l) (e 4 l) (e 5 l) (e 6 l) (e 7 l) (aD (e 8 l) (e 9 l) (e 10 l) (e 11 l) (e 12 l) (e 13 l) (e 14 l) (e 15 l) (aD (e 16 l) (e 17 l) (e 18 l) (e 19 l) (e 20 l) (e 21 l) (e 22 l) (e 23 l) (aD (e 24 l) (e 25 l) (e 26 l) (e 27 l) (e 28 l) (e 29 l) (e 30 l) (e 31 l) (aD (e 32 l) (e 33 l) (e 34 l) (e 35 l) (e 36 l) (e 37 l) (e 38 l) (e 39 l) (aD (e 40 l) (e 41 l) (e 42 l) (e 43 l) (e 44 l) (e 45 l) (e 46 l) (e 47 l) (aD (e 48 l) (e 49 l) (e 50 l) (e 51 l) (e 52 l) (e 53 l) (e 54 l) (e 55 l) (aD (e 56 l) (e 57 l) (e 58 l) (e 59 l) (e 60 l) (e 61 l) (e 62 l) (e 63 l) List.nil)))))))) 367) (bH 8 (Zr a f) (aD (c 0 l) (c 1 l) (c 2 l) (c 3 l) (c 4 l) (c 5 l) (c 6 l) (c 7 l) List.nil) 256) (Ga l))/\(∀(a:Nat),aX a 64 (bf ((eD (tw a x) (tw a x) (nN a 5 x x) (nN a 5 x x)/\bl (ak (ig 0) (ig 4294967295) (Uk a x)) (eD (qo 4294967295 (tw a x)) (qo 4294967295 (tw a x)) (nN a 6 x x) (nN a 6 x x)) (eD (qn (tw a x) (nN a 5 x x)) (qn (tw a x) (nN a 5 x x)) (ZX a x) (ZX a x)) (qq a 64) (lF a<64) (qq a 64) (lF a<64/\bS a<64) (Uk a x) (bl (dK k) (dV a g) (dV a g) (dV a g) (Uk a x) (dK k) (dV a g) (dV a g) (bl (dV a g) (eD (iA (tw a x) 6) (iA (tw a x) 6) (iA (tw a x) 11) (iA (tw a x) 11)) (Uk a x) (dK k) (dV a g) (dV a g) (dV a g) (eD (ZZ a x) (ZZ a x) (iA (tw a x) 25) (iA (tw a x) 25)) (∃(b:Nat),iY (CX a=CX b) (jU (jU (jU (jU (nN a 7 x x+qo (ZZ a x) (iA (tw a x) 25))+qo (qn (tw a x) (nN a 5 x x)) (ZX a x))+LR RH (lF a))+wL x.B 48 (bS a))=ZD b x) (Ga l) k (g a)))))/\(∀(b:Nat),CX a=CX b->ak (eD (oH a x) (oH a x) (wD a x) (wD a x)) (eD (oH a x) (oH a x) (wE a x) (wE a x)) (aI (eD (qn (oH a x) (wD a x)) (qn (oH a x) (wD a x)) (qn (oH a x) (wE a x)) (qn (oH a x) (wE a x))) (eD (wD a x) (wD a x) (wE a x) (wE a x)) (eD (ZS a x) (ZS a x) (qn (wD a x) (wE a x)) (qn (wD a x) (wE a x))) (gk (ig (oH a x)) (oH a x)) (bl (dV a g) (dV a g) (dV a g) (dV a g) (gk (ig (oH a x)) (oH a x)) (dV a g) (dV a g) (dV a g) (bl (dV a g) (eD (iA (oH a x) 2) (iA (oH a x) 2) (iA (oH a x) 13) (iA (oH a x) 13)) (gk (ig (oH a x)) (oH a x)) (dV a g) (dV a g) (dV a g) (dV a g) (eD (ZY a x) (ZY a x) (iA (oH a x) 22) (iA (oH a x) 22)) (∃(b:Nat),iY (CX a=CX b) (jU (qo (ZY a x) (iA (oH a x) 22)+qo (ZS a x) (qn (wD a x) (wE a x)))=t2F (LW x.W x.B b)) (Ga l) k (g a)))))/\(∀(c:Nat),CX a=CX c->fN a (fun d=>aI (bT d 64 (64 - d<64 - a)) (gU a d) (Sr k) (bH 8 (Zr d h) (aD (fL (jU (ZD b x+t2F (LW x.W x.B c)))) (fL (oH a x)) (fL (wD a x)) (fL (wE a x)) (fL (jU (nN a 3 x x+ZD b x))) (fL (tw a x)) (fL (nN a 5 x x)) (fL (nN a 6 x x)) List.nil) 256) (Ga l))))) (∃(_:Unit),ak True (bH 74 (ahe x j b) (aD (i 0 l a) (i 1 l a) (i 2 l a) (i 3 l a) (i 4 l a) (i 5 l a) (i 6 l a) (i 7 l a) (agV l d)) 259) (ah (SV.bL List.nil) (SV.bL List.nil))) (NI a) 64)))) (gB 64 64 367 (cB (aK.int IntKind.u32 (wL x.B 48))))) (fun a=>Zr a g)) (fun a=>fL (rE x.W x.B a))) (fun a=>fun b=>fun c=>fL (jU (b.W a+nN c a x x)))) (Zx x)) (Zx x)) (Zx x)) (fun a=>fun b=>fL (wL b.B 48 a))) qz5) qz6) (fun a=>wU (x.B a))) (fun a=>fL (x.W a))):=by kernel_rfl
def U (a:Int):Prop:=0<=a/\a<=4294967295
theorem u2 {a b:Int}(h:U a)(h':U b):0<=a/\a<=4294967295/\0<=b/\b<=4294967295:=⟨h.1,h.2,h'.1,h'.2⟩
theorem um (a:Int):U (a% 4294967296):=⟨by omega,by omega⟩
theorem ud {a:Int}(h:U a)(k:Nat)(hk:0<k):U (a / (k:Int)):=by obtain⟨h0,h1⟩:=h;have:=Int.ediv_le_self (b:=(k:Int)) h0;exact⟨Int.ediv_nonneg h0 (by omega),by omega⟩
theorem uM:U 4294967295:=⟨by decide,by decide⟩
theorem DI {op:BinOp}(hop:op=.and∨op=.or∨op=.xor){a b:Int}(ha:U a)(hb:U b):U (bitsOf op a b):=by
 obtain⟨a0,a1⟩:=ha;obtain⟨b0,b1⟩:=hb;have la:a.toNat<2^ 32:=by omega
 have lb:b.toNat<2^ 32:=by omega
 have h1:=Nat.and_lt_two_pow (n:=32) a.toNat lb;have h2:=Nat.or_lt_two_pow (n:=32) la lb;have h3:=Nat.xor_lt_two_pow (n:=32) la lb;rcases hop with rfl | rfl | rfl
 ·refine⟨Int.natCast_nonneg _,?_⟩;show((a.toNat &&& b.toNat:Nat):Int)<=_;omega
 ·refine⟨Int.natCast_nonneg _,?_⟩;show((a.toNat ||| b.toNat:Nat):Int)<=_;omega
 ·refine⟨Int.natCast_nonneg _,?_⟩;show((a.toNat ^^^ b.toNat:Nat):Int)<=_;omega
theorem XZ {a b:Int}(ha:U a)(hb:U b):U (bitsOf .and a b):=DI (.inl rfl) ha hb
theorem X4 {a b:Int}(ha:U a)(hb:U b):U (bitsOf .xor a b):=DI (.inr (.inr rfl)) ha hb
theorem Rf {x:Int}(h:U x)(n:Int):U (iA x n):=DI (.inr (.inl rfl)) (um _) (ud h _ (Nat.pow_pos (by decide)))
theorem acu {n:Int}(h:aoQ n=true):n=2∨n=6∨n=7∨n=11∨n=13∨n=17∨n=18∨n=19∨n=22∨n=25:=by simpa [aoQ] using h
theorem aia:au Tryz.prog 192 (aT E7):=by
 refine gz (Yl (n:=20) (fn:=Tryz.f192) Tryz.func192 (by kernel_rfl) (by kernel_rfl) ?_);intro args p a h hp;unfold E7 at h;split at h
 ·rename_i x n;split at h
  ·rename_i hn;injection h with h;injection h with h1 h2;subst h1;subst h2;have hx:U x:=hp;rcases acu hn with rfl | rfl | rfl | rfl | rfl | rfl | rfl | rfl | rfl | rfl
   ·exact⟨cF,[.int .u32 false x,.int .i64 true 2],sH,fun E=>rfl,rfl,rfl,(by refine aq.j7 (ai6 x _) (by delta ak iS aL jU ig fL di lg eD;exact rfl) ?_;exact⟨u2 (um _) (ud hx 4 (by decide)),fun _=>rfl⟩)⟩
   ·exact⟨cF,[.int .u32 false x,.int .i64 true 6],sH,fun E=>rfl,rfl,rfl,(by refine aq.j7 (ai7 x _) (by delta ak iS aL jU ig fL di lg eD;exact rfl) ?_;exact⟨u2 (um _) (ud hx 64 (by decide)),fun _=>rfl⟩)⟩
   ·exact⟨cF,[.int .u32 false x,.int .i64 true 7],sH,fun E=>rfl,rfl,rfl,(by refine aq.j7 (ai8 x _) (by delta ak iS aL jU ig fL di lg eD;exact rfl) ?_;exact⟨u2 (um _) (ud hx 128 (by decide)),fun _=>rfl⟩)⟩
   ·exact⟨cF,[.int .u32 false x,.int .i64 true 11],sH,fun E=>rfl,rfl,rfl,(by refine aq.j7 (ac9 x _) (by delta ak iS aL jU ig fL di lg eD;exact rfl) ?_;exact⟨u2 (um _) (ud hx 2048 (by decide)),fun _=>rfl⟩)⟩
   ·exact⟨cF,[.int .u32 false x,.int .i64 true 13],sH,fun E=>rfl,rfl,rfl,(by refine aq.j7 (ada x _) (by delta ak iS aL jU ig fL di lg eD;exact rfl) ?_;exact⟨u2 (um _) (ud hx 8192 (by decide)),fun _=>rfl⟩)⟩
   ·exact⟨cF,[.int .u32 false x,.int .i64 true 17],sH,fun E=>rfl,rfl,rfl,(by refine aq.j7 (adb x _) (by delta ak iS aL jU ig fL di lg eD;exact rfl) ?_;exact⟨u2 (um _) (ud hx 131072 (by decide)),fun _=>rfl⟩)⟩
   ·exact⟨cF,[.int .u32 false x,.int .i64 true 18],sH,fun E=>rfl,rfl,rfl,(by refine aq.j7 (ade x _) (by delta ak iS aL jU ig fL di lg eD;exact rfl) ?_;exact⟨u2 (um _) (ud hx 262144 (by decide)),fun _=>rfl⟩)⟩
   ·exact⟨cF,[.int .u32 false x,.int .i64 true 19],sH,fun E=>rfl,rfl,rfl,(by refine aq.j7 (adf x _) (by delta ak iS aL jU ig fL di lg eD;exact rfl) ?_;exact⟨u2 (um _) (ud hx 524288 (by decide)),fun _=>rfl⟩)⟩
   ·exact⟨cF,[.int .u32 false x,.int .i64 true 22],sH,fun E=>rfl,rfl,rfl,(by refine aq.j7 (adg x _) (by delta ak iS aL jU ig fL di lg eD;exact rfl) ?_;exact⟨u2 (um _) (ud hx 4194304 (by decide)),fun _=>rfl⟩)⟩
   ·exact⟨cF,[.int .u32 false x,.int .i64 true 25],sH,fun E=>rfl,rfl,rfl,(by refine aq.j7 (adh x _) (by delta ak iS aL jU ig fL di lg eD;exact rfl) ?_;exact⟨u2 (um _) (ud hx 33554432 (by decide)),fun _=>rfl⟩)⟩
  ·cases h
 ·cases h
theorem MY:aU Tryz.prog (fun f=>aA f WL):=.cons aia (aN _) fO
theorem an1 (b:Nat->Int):Sx.Good Tryz.prog (Yv b):=.of bO MY bt
theorem Sx.af.aiI {c:aK}{n tot:Nat}{ty:TypeId}:af (.cells (jn c 0 n) tot ty) (.rows false n [c] false tot ty):=by
 refine af.of rfl rfl fun _=> ?_;refine⟨rfl,fun E o ⟨cs,fr,h1,h2,h3,h4⟩=>⟨cs,fr,h1,fun _=>h2,?_,h4,fun i k col hi hk=> ?_⟩,fun _=>rfl⟩
 ·cases n with
  | zero=>simp
  | succ m =>
    have hl:m<(jn c 0 (m+1)).length:=by rw[sD];omega
    have:=h3 m _ (List.getElem?_eq_getElem hl);have:=(Array.getElem?_eq_some_iff.1 this).1;simp only[List.length_cons,List.length_nil];omega
 ·match k,hk with
  | 0,hk =>
    simp only[List.getElem?_cons_zero,Option.some.injEq] at hk;subst hk;have hl:i<(jn c 0 n).length:=by rw[sD];omega
    have h5:=h3 i _ (List.getElem?_eq_getElem hl);have h6:=(xo c n 0 i _ (List.getElem?_eq_getElem hl)).2;rw[h6,Nat.zero_add] at h5;simpa using h5
theorem Sx.af.akp {z:Bool}{n:Nat}{q:IntKind}{f g:Nat->Int}{tot:Nat}{ty:TypeId}(h: ∀ i,i<n->f i=g i):af (.rows z n [.int q f] false tot ty) (.rows z n [.int q g] false tot ty):=by
 refine af.of rfl rfl fun hno=> ?_;refine⟨hno,fun E o ⟨c,fr,h1,h2,h3,h4,h5⟩=>⟨c,fr,h1,h2,h3,h4,fun i k col hi hk=> ?_⟩,fun _=>rfl⟩
 match k,hk with
 | 0,hk =>simp only[List.getElem?_cons_zero,Option.some.injEq] at hk;subst hk;have:=h5 i 0 (.int q f) hi rfl;simp only[aK.at,h i hi] at this;exact this
theorem amb {b:Nat->Int}(hb: ∀ j,j<64->U (b j)){j:Nat}(hj:j<16):U (ajo b j):=DI (.inr (.inl rfl)) (DI (.inr (.inl rfl)) (DI (.inr (.inl rfl)) (um _) (um _)) (um _)) (hb _ (by omega))
theorem Ri (b:Nat->Int)(n j:Nat):wL b (n+1) j=if j=16+n then amC (wL b n (16+n - 16)) (wL b n (16+n - 15)) (wL b n (16+n - 7)) (wL b n (16+n - 2))else wL b n j:=rfl
theorem aqz {b:Nat->Int}(hb: ∀ j,j<64->U (b j)): ∀(n j:Nat),U (wL b n j)
 | 0,j=>by
   unfold wL;split
   ·exact amb hb (by assumption)
   ·exact⟨by decide,by decide⟩
 | n+1,j=>by
   unfold wL;split
   ·exact um _
   ·exact aqz hb n j
theorem amX {W B:Nat->Int}(hW: ∀ j,j<8->U (W j)): ∀(i j:Nat),j<8->U (LW W B i j)
 | 0,j,hj=>hW j hj
 | i+1,j,hj=>by
   have ih:=amX (B:=B) hW i;unfold LW E8
   match j,hj with
   | 0,_=>exact um _
   | 1,_=>exact ih 0 (by decide)
   | 2,_=>exact ih 1 (by decide)
   | 3,_=>exact ih 2 (by decide)
   | 4,_=>exact um _
   | 5,_=>exact ih 4 (by decide)
   | 6,_=>exact ih 5 (by decide)
   | 7,_=>exact ih 6 (by decide)
theorem Sh.Ok.bu {x:Sh}(h:x.Ok)(j:Nat)(hj:j<64):U (x.B j):=by have:=h.b j hj;exact⟨this.1,by omega⟩
theorem Q8 {x:Sh}(hx:x.Ok):aq (yC (Yv x.B) 191 Tryz.f191 [.slc 0 8 64 true 64] Sh.sb x (fun _:Unit=>(True,DA x.B,x))):=by
 refine aq.j7 (ajb x) (by delta Fk I6 Ix Sr NI bf aX aF ak aI iS aL bH yu gk aP c8 bT cB gB bl sV fM aD c6 jU ig fL di lg eD dL ak6 m5 TT Ga qo ZI ZJ ag2 aha C7 C8 Ki Kk bQ pV;exact rfl) ?_;dsimp only;have hb:=hx.bu;have b: ∀ j,j<64->U (x.B j):=hb;refine D4.of (N:=16) (fun i r hi hr=>⟨b _ (by omega),b _ (by omega),u2 (um _) (um _),b _ (by omega),u2 (DI (.inr (.inl rfl)) (um _) (um _)) (um _),b _ (by omega),u2 (DI (.inr (.inl rfl)) (DI (.inr (.inl rfl)) (um _) (um _)) (um _)) (b _ (by omega)),hr⟩) ⟨⟨0,by omega,rfl,Sx.af.trans (Sx.af.cells (cs':=jn (.int .u32 (wL x.B 0)) 0 64) (fun E=>rfl) rfl) Sx.af.aiI,af.refl _,af.refl _,trivial⟩,fun n hn=>⟨fun a=> ?_,fun a=> ?_⟩⟩ 16 0 (by decide)
 ·have a:=of_decide_eq_true a;have e15:0+(16+(n:Int) - 15).toNat=16+n - 15:=by omega
  have e2:0+(16+(n:Int) - 2).toNat=16+n - 2:=by omega
  have e7:0+(16+(n:Int) - 7).toNat=16+n - 7:=by omega
  have e16:0+(16+(n:Int) - 16).toNat=16+n - 16:=by omega
  have e0:0+(16+(n:Int)).toNat=16+n:=by omega
  have u:=aqz hb n
  refine⟨by omega,by omega,by omega,by omega,by omega,by omega,u _,u _,u2 (Rf (u _) _) (Rf (u _) _),u2 (X4 (Rf (u _) _) (Rf (u _) _)) (ud (u _) 8 (by decide)),u _,u _,u2 (Rf (u _) _) (Rf (u _) _),u2 (X4 (Rf (u _) _) (Rf (u _) _)) (ud (u _) 1024 (by decide)),
   by omega,by omega,by omega,by omega,by omega,by omega,by omega,by omega,by omega,n+1,by omega,by omega,?_,af.refl _,af.refl _,trivial⟩
  refine Sx.af.akp fun j hj=> ?_;rw[e0];show _=wL x.B (n+1) j;by_cases ej:j=16+n
  ·rw[if_pos ej,Ri,if_pos ej,e15,e2,e7,e16];rfl
  ·rw[if_neg ej,Ri,if_neg ej]
 ·have a:=of_decide_eq_false a;have e:n=48:=by omega
  subst e;exact⟨by omega,(),trivial,af.refl _,fun _=>rfl⟩
theorem Sh.amP (x:Sh):(Sh.sb x).wf 0=true/\(Sh.sb x).ro=false/\(Sh.sb x).no=false:=⟨rfl,rfl,rfl⟩
theorem acK:au Tryz.prog 191 (wu Sh.sb BM):=by
 refine OX (n:=20) (fn:=Tryz.f191) Tryz.func191 (by kernel_rfl) (by kernel_rfl) Sh.amP ?_;intro args g x h hp;unfold BM at h;split at h
 ·injection h with h;subst h;exact⟨Yv x.B,[.slc 0 8 64 true 64],an1 _,fun E=>rfl,rfl,fun _=>rfl,Q8 hp⟩
 ·cases h
theorem abL:aU Tryz.prog (fun f=>aA f afM):=.cons acK (vh _ _) MY
theorem akk (W B:Nat->Int):Sx.Good Tryz.prog (O6 W B):=.of bO abL bt
theorem abY {x:Sh}(hx:x.Ok):aq (yC (O6 x.W x.B) 134 Tryz.f134 [.ptr 0 true 0,.slc 0 8 64 true 64] Sh.sb x (fun _:Unit=>(True,.bL [],{x with W:=rE x.W x.B}))):=by
 refine aq.j7 (aqv x) (by delta Fk I6 Ix Sr Er NI bf aX aF bC ak aI aL bH gk rV bT qn cB gB gU fh jb qq fN bl lF aD dW dK dV c6 bS iY jU ig fL eD Ga qo wU qz5 qz6 agV ahe nN oH tw qu CX wD wE Zr Zx ZD Ge ZS Uk ZX ZY ZZ;exact rfl) ?_;dsimp only;refine⟨x,af.refl _,hx,fun _ _=>⟨⟨0,by omega,rfl,Sx.af.trans (Sx.af.cells (cs':=jn (.int .u32 (wL x.B 48)) 0 64) (fun E=>rfl) rfl) Sx.af.aiI,af.refl _,af.refl _,trivial⟩,fun i hi=>⟨fun a=> ?_,fun a=> ?_⟩⟩⟩
 ·have a:=of_decide_eq_true a;have u:=amX (B:=x.B) hx.w i;have u0:=u 0 (by decide);have u1:=u 1 (by decide);have u2':=u 2 (by decide);have u4:=u 4 (by decide);have u5:=u 5 (by decide);have u6:=u 6 (by decide);have r: ∀ {y:Int} (n:Int),U y->U (iA y n):=fun n h=>Rf h n;refine⟨⟨u2 u4 u5,u2 uM u4,u2 (X4 uM u4) u6,u2 (XZ u4 u5) (XZ (X4 uM u4) u6),by omega,by omega,by omega,by omega,u4,rfl,rfl,rfl,rfl,u4,rfl,rfl,rfl,rfl,u2 (r _ u4) (r _ u4),u4,rfl,rfl,rfl,rfl,u2 (X4 (r _ u4) (r _ u4)) (r _ u4),i,rfl,?_,af.refl _,af.refl _,af.refl _,trivial⟩,fun i1 h1 =>⟨⟨u2 u0 u1,u2 u0 u2',u2 (XZ u0 u1) (XZ u0 u2'),u2 u1 u2',u2 (X4 (XZ u0 u1) (XZ u0 u2')) (XZ u1 u2'),u0,rfl,rfl,rfl,rfl,u0,rfl,rfl,rfl,rfl,u2 (r _ u0) (r _ u0),u0,rfl,rfl,rfl,rfl,u2 (X4 (r _ u0) (r _ u0)) (r _ u0),i,rfl,rfl,af.refl _,af.refl _,af.refl _,trivial⟩,fun i2 h2=>⟨by omega,i+1,by omega,by omega,af.refl _,?_,af.refl _,trivial⟩⟩⟩
  ·rw[Int.toNat_natCast,Nat.zero_add];rfl
  ·injection h1 with h1;injection h1 with _ _ h1;injection h2 with h2;injection h2 with _ _ h2;have e1:i1=i:=by omega
   have e2:i2=i:=by omega
   subst e1;subst e2;exact af.refl _
 ·have a:=of_decide_eq_false a;have e:i=64:=by omega
  subst e;exact⟨(),trivial,af.refl _,fun _=>rfl⟩
theorem aop:au Tryz.prog 134 (wu Sh.sb Qp):=by
 refine OX (n:=20) (fn:=Tryz.f134) Tryz.func134 (by kernel_rfl) (by kernel_rfl) Sh.amP ?_;intro args g x h hp;unfold Qp at h;split at h
 ·injection h with h;subst h;exact⟨O6 x.W x.B,[.ptr 0 true 0,.slc 0 8 64 true 64],akk _ _,fun E=>rfl,rfl,fun _=>rfl,abY hp⟩
 ·cases h
noncomputable def afN:List (FuncId×PT):=(134,wu Sh.sb Qp)::kK
theorem abM:aU Tryz.prog (fun f=>aA f afN):=.cons aop (vh _ _) fO
def afa (j:Nat):Int:=LR [1779033703,3144134277,1013904242,2773480762,1359893119,2600822924,528734635,1541459225] j
def FA (T:List UInt8)(q j:Nat):Int:=ai T ((64*q+j:Nat):Int)
def wk (T:List UInt8):Nat->Nat->Int
 | 0=>afa
 | q+1=>rE (wk T q) (FA T q)
structure GZ (x:Sh)(T:List UInt8):Prop where
 ok:x.Ok
 w: ∀ j,j<8->x.W j=wk T (T.length / 64) j
 b: ∀ j,j<T.length% 64->x.B j=FA T (T.length / 64) j
 h:x.held=((T.length% 64:Nat):Int)
def Rn (x:Sh)(T:List UInt8):Prop:=GZ x T/\x.size=(T.length:Int)% 18446744073709551616
noncomputable def adF (T s:List UInt8)(z:Int):bp :=
 {α:=Nat×Sh,pre:=fun _ x=>x.1<=s.length/\GZ x.2 (T++s.take x.1)/\x.2.size=z,sM:=fun _ x=>s.length - x.1,fresh:=0,slots:=fun _ x=>[(1,.str false (s.drop x.1))],
  mem:=fun _ x=>[(0,x.2.sb)]}
noncomputable def Yw (T s:List UInt8)(z:Int):gF:={cF with cM:=fun f=>aA f afN,aR:=fun f=>if f=60 then [(2,always (adF T s z))] else []}
theorem an5 (T s:List UInt8)(z:Int):Sx.Good Tryz.prog (Yw T s z):=.of bO abM bt
def G9 (g:Sh×List UInt8):SB:=g.1.sb
def Fp:List SV->Option (Sh×List UInt8->Prop×(Sh->Prop×SV×(Sh×List UInt8)))
 | [.ptr 0 true 0,.str false s]=>some fun g=>(Rn g.1 g.2/\s.length<1152921504606846976,fun y=>(Rn y (g.2++s),.ptr 0 true 0,(y,g.2++s)))
 | _=>none
def rJ (x:Sh)(D:List UInt8):Sh :=⟨x.W,fun j=>if 8+x.held.toNat - 8<=j/\j<8+x.held.toNat - 8+min D.length (64 - x.held.toNat)then((D.getD (j - (8+x.held.toNat - 8)) 0).toNat:Int)else x.B j,x.held+((min D.length (64 - x.held.toNat):Nat):Int),x.size⟩
section
variable (s t : List UInt8) (a : Int) (o : Sh) (x f : Nat × Sh) (y z : Nat -> Nat × Sh -> SV) (g h : Nat -> Sh -> SV)
abbrev qz3:Nat->Nat×Sh->SV:=fun a=>fun b=>wU (b.2.B a)
abbrev qz4:Nat->Nat×Sh->SV:=fun a=>fun b=>fL (b.2.W a)
abbrev aoK:Nat->Sh->SV:=fun a=>fun b=>fL (rE b.W b.B a)
abbrev uF:=x.2.held
abbrev LL:=SB.cells (aF (y 0 x) (y 1 x) (aD (y 2 x) (y 3 x) (y 4 x) (y 5 x) (y 6 x) (y 7 x) (z 0 x) (z 1 x) (aD (z 2 x) (z 3 x) (z 4 x) (z 5 x) (z 6 x) (z 7 x) (z 8 x) (z 9 x) (aD (z 10 x) (z 11 x) (z 12 x) (z 13 x) (z 14 x) (z 15 x) (z 16 x) (z 17 x) (aD (z 18 x) (z 19 x) (z 20 x) (z 21 x) (z 22 x) (z 23 x) (z 24 x) (z 25 x) (aD (z 26 x) (z 27 x) (z 28 x) (z 29 x) (z 30 x) (z 31 x) (z 32 x) (z 33 x) (aD (z 34 x) (z 35 x) (z 36 x) (z 37 x) (z 38 x) (z 39 x) (z 40 x) (z 41 x) (aD (z 42 x) (z 43 x) (z 44 x) (z 45 x) (z 46 x) (z 47 x) (z 48 x) (z 49 x) (aD (z 50 x) (z 51 x) (z 52 x) (z 53 x) (z 54 x) (z 55 x) (z 56 x) (z 57 x) (aD (z 58 x) (z 59 x) (z 60 x) (z 61 x) (z 62 x) (z 63 x) (bC (uF x)) (rV x.2.size) List.nil)))))))))) 74 259
abbrev aoM:Nat×Sh->SB:=fun a=>SB.cells (aF (y 0 a) (y 1 a) (aD (y 2 a) (y 3 a) (y 4 a) (y 5 a) (y 6 a) (y 7 a) (z 0 a) (z 1 a) (aD (z 2 a) (z 3 a) (z 4 a) (z 5 a) (z 6 a) (z 7 a) (z 8 a) (z 9 a) (aD (z 10 a) (z 11 a) (z 12 a) (z 13 a) (z 14 a) (z 15 a) (z 16 a) (z 17 a) (aD (z 18 a) (z 19 a) (z 20 a) (z 21 a) (z 22 a) (z 23 a) (z 24 a) (z 25 a) (aD (z 26 a) (z 27 a) (z 28 a) (z 29 a) (z 30 a) (z 31 a) (z 32 a) (z 33 a) (aD (z 34 a) (z 35 a) (z 36 a) (z 37 a) (z 38 a) (z 39 a) (z 40 a) (z 41 a) (aD (z 42 a) (z 43 a) (z 44 a) (z 45 a) (z 46 a) (z 47 a) (z 48 a) (z 49 a) (aD (z 50 a) (z 51 a) (z 52 a) (z 53 a) (z 54 a) (z 55 a) (z 56 a) (z 57 a) (aD (z 58 a) (z 59 a) (z 60 a) (z 61 a) (z 62 a) (z 63 a) (bC (uF a+NI (min (List.length (List.drop a.1 s)) (64 - Int.toNat (uF a))))) (rV a.2.size) List.nil)))))))))) 74 259
abbrev G7:=NI (min (List.length (List.drop x.1 s)) (64 - Int.toNat (uF x)))
abbrev ah0:=List.length (List.drop x.1 s)
abbrev x3:=Int.toNat (uF x)
abbrev x7:=List.drop x.1 s
abbrev ND:=gK x.1 (List.length s) (GZ x.2 (t++List.take x.1 s)) (x.2.size=a)
abbrev ZF:=List.length s - x.1<List.length s - f.1
abbrev ag4:=Sh.Ok o/\(∀(_:Unit),True->(∃(b:Nat×Sh),kG (ND s t a b/\ZF s b x) (eK (x7 s x) (iG 37) none (G7 s x) (NI (ah0 s x))=x7 s b) (bH 74 (LL b y z) (aF (g 0 o) (g 1 o) (aD (g 2 o) (g 3 o) (g 4 o) (g 5 o) (g 6 o) (g 7 o) (h 0 o) (h 1 o) (aD (h 2 o) (h 3 o) (h 4 o) (h 5 o) (h 6 o) (h 7 o) (h 8 o) (h 9 o) (aD (h 10 o) (h 11 o) (h 12 o) (h 13 o) (h 14 o) (h 15 o) (h 16 o) (h 17 o) (aD (h 18 o) (h 19 o) (h 20 o) (h 21 o) (h 22 o) (h 23 o) (h 24 o) (h 25 o) (aD (h 26 o) (h 27 o) (h 28 o) (h 29 o) (h 30 o) (h 31 o) (h 32 o) (h 33 o) (aD (h 34 o) (h 35 o) (h 36 o) (h 37 o) (h 38 o) (h 39 o) (h 40 o) (h 41 o) (aD (h 42 o) (h 43 o) (h 44 o) (h 45 o) (h 46 o) (h 47 o) (h 48 o) (h 49 o) (aD (h 50 o) (h 51 o) (h 52 o) (h 53 o) (h 54 o) (h 55 o) (h 56 o) (h 57 o) (aD (h 58 o) (h 59 o) (h 60 o) (h 61 o) (h 62 o) (h 63 o) (bx 0) (rV o.size) List.nil)))))))))) 259)))
abbrev Db:=NI (ah0 s x)
end
theorem al6 (x:Sh)(T s:List UInt8)(z:Int):VC.holds (yC (Yw T s z) 60 Tryz.f60 [.ptr 0 true 0,.str false s] G9 (x,T) (fun y:Sh=>(Rn y (T++s),.ptr 0 true 0,(y,T++s))))=((fun(a:Nat->SV)=>(fun(b:Nat->SV)=>(fun(c:Nat->Nat×Sh->SV)=>(fun(d:Nat->Nat×Sh->SV)=>(fun(e:Nat->Nat×Sh->SV)=>(fun(f:Nat->Nat×Sh->SV)=>(fun(g:Nat->Sh->SV)=>(fun(h:Nat->Sh->SV)=>(fun(i:Nat->Sh->SV)=>(fun(j:Nat->Nat×Sh->SV)=>(fun(k:Nat->Nat×Sh->SV)=>(fun(l:Nat->Nat×Sh->SV)=>(fun(m:Nat->Nat×Sh->SV)=>(fun(n:Nat->Nat×Sh->SV)=>(fun(o:Nat->Sh->SV)=>(fun(p:Nat->Sh->SV)=>(fun(q:Nat->Sh->SV)=>(fun(r:Nat->Nat×Sh->SV)=>(fun(t:Nat->Nat×Sh->SV)=>(fun(u:Nat->Nat×Sh->SV)=>(fun(v:Nat->Nat×Sh->SV)=>(fun(w:Nat->Nat×Sh->SV)=>(fun(y:Nat->Sh->SV)=>(fun(u0:Nat->Sh->SV)=>(fun(n:Nat×Sh->SB)=>(fun(f:Nat×Sh->SB)=>(∃(e:Nat×Sh),kG (ND s T z e) (s=x7 s e) (bH 74 (LL e c d) (aF (a 0) (a 1) (aD (a 2) (a 3) (a 4) (a 5) (a 6) (a 7) (b 0) (b 1) (aD (b 2) (b 3) (b 4) (b 5) (b 6) (b 7) (b 8) (b 9) (aD (b 10) (b 11) (b 12) (b 13) (b 14) (b 15) (b 16) (b 17) (aD (b 18) (b 19) (b 20) (b 21) (b 22) (b 23) (b 24) (b 25) (aD (b 26) (b 27) (b 28) (b 29) (b 30) (b 31) (b 32) (b 33) (aD (b 34) (b 35) (b 36) (b 37) (b 38) (b 39) (b 40) (b 41) (aD (b 42) (b 43) (b 44) (b 45) (b 46) (b 47) (b 48) (b 49) (aD (b 50) (b 51) (b 52) (b 53) (b 54) (b 55) (b 56) (b 57) (aD (b 58) (b 59) (b 60) (b 61) (b 62) (b 63) (bC x.held) (rV (rT (x.size+rT (bP s)))) List.nil)))))))))) 259))/\(∀(a:Nat×Sh),ND s T z a->bn (pU (uF a) (uF a) 64 64 64/\Fk (64=x3 a) (aL (bT 8 8 (8+(64 - x3 a)<=8+64)) (I6 (uF a+G7 s a)) (pU (G7 s a) (G7 s a) (Db s a) (Db s a) (Db s a)) (cS (∃(b:Sh),pW (ag4 s T z b a j k i h) (f a) (Ge b g h)) (∃(b:Nat×Sh),cZ (ND s T z b/\ZF s b a) (eK (x7 s a) (iG 37) none (G7 s a) (Db s a)=x7 s b) True (f a) (LL b l m)) (uF a+G7 s a) 64)) (aL (bT 8 (8+x3 a) (8+x3 a+(64 - x3 a)<=8+64)) (I6 (uF a+G7 s a)) (pU (G7 s a) (G7 s a) (Db s a) (Db s a) (Db s a)) (cS (∃(b:Sh),pW (ag4 s T z b a r t q p) (n a) (Ge b o p)) (∃(b:Nat×Sh),cZ (ND s T z b/\ZF s b a) (eK (x7 s a) (iG 37) none (G7 s a) (Db s a)=x7 s b) True (n a) (LL b u v)) (uF a+G7 s a) 64))) (∃(b:Sh),ak (Rn b (T++s)) (af (LL a e w) (Ge b y u0)) (ah F4 F4)) (dX (x7 s a)))) (aoM s e f)) (aoM s e n)) qz5) qz6) qz3) qz3) qz4) qz3) qz4) aoK) qz5) qz6) (fun a=>fun b=>wU (if bT (8+x3 b - 8) a (a<8+x3 b - 8+min (ah0 s b) (64 - x3 b))then NI (UInt8.toNat (List.getD (x7 s b) (a - (8+x3 b - 8)) (0:UInt8)))else b.2.B a))) qz3) qz4) qz3) qz4) aoK) qz5) qz6) (fun a=>fun b=>wU (if bT 0 a (a<0+min (ah0 s b) (64 - x3 b))then NI (UInt8.toNat (List.getD (x7 s b) a (0:UInt8)))else b.2.B a))) qz4) qz3) qz4) (fun a=>wU (x.B a))) (fun a=>fL (x.W a))):=by kernel_rfl
theorem Vo {B B':Nat->Int}(h: ∀ j,j<64->B j=B' j): ∀(n j:Nat),wL B n j=wL B' n j
 | 0,j=>by
   unfold wL;by_cases e:j<16
   ·simp only[e,if_true,ajo,h (4*j) (by omega),h (4*j+1) (by omega),h (4*j+2) (by omega),h (4*j+3) (by omega)]
   ·simp only[e,if_false]
 | n+1,j=>by simp only[Ri,Vo h n]
theorem QX {v v':Nat->Int}(h: ∀ j,j<8->v j=v' j)(k w:Int): ∀ j,j<8->E8 v k w j=E8 v' k w j:=by
 have h0:=h 0 (by decide);have h1:=h 1 (by decide);have h2:=h 2 (by decide);have h3:=h 3 (by decide);have h4:=h 4 (by decide);have h5:=h 5 (by decide);have h6:=h 6 (by decide);have h7:=h 7 (by decide);intro j hj
 match j,hj with
 | 0,_=>simp only[E8,t1F,t2F,h0,h1,h2,h4,h5,h6,h7]
 | 1,_=>exact h0
 | 2,_=>exact h1
 | 3,_=>exact h2
 | 4,_=>simp only[E8,t1F,h3,h4,h5,h6,h7]
 | 5,_=>exact h4
 | 6,_=>exact h5
 | 7,_=>exact h6
theorem OF {W W' B B':Nat->Int}(hW: ∀ j,j<8->W j=W' j)(hB: ∀ j,j<64->B j=B' j): ∀ i j,j<8->LW W B i j=LW W' B' i j
 | 0,j,hj=>hW j hj
 | i+1,j,hj=>by simp only[LW];rw[QX (OF hW hB i) _ _ j hj,Vo hB]
theorem Jp {W W' B B':Nat->Int}(hW: ∀ j,j<8->W j=W' j)(hB: ∀ j,j<64->B j=B' j)(j:Nat)(hj:j<8):rE W B j=rE W' B' j:=by simp only[rE,hW j hj,OF hW hB 64 j hj]
theorem HU (T:List UInt8)(q j:Nat):FA T q j=((T.getD (64*q+j) 0).toNat:Int):=by unfold FA ai;rw[Int.toNat_natCast]
theorem HV {T:List UInt8}(D:List UInt8){q j:Nat}(h:64*q+j<T.length):FA (T++D) q j=FA T q j:=by rw[HU,HU,List.getD_eq_getElem?_getD,List.getD_eq_getElem?_getD,List.getElem?_append_left h]
theorem Rv {T:List UInt8}(D:List UInt8){q j:Nat}(h:T.length<=64*q+j):FA (T++D) q j=((D.getD (64*q+j - T.length) 0).toNat:Int):=by rw[HU,List.getD_eq_getElem?_getD,List.getD_eq_getElem?_getD,List.getElem?_append_right h]
theorem wm (T D:List UInt8): ∀ q,64*q<=T.length->∀ j,j<8->wk (T++D) q j=wk T q j
 | 0,_,_,_=>rfl
 | q+1,h,j,hj=>by simp only[wk];exact Jp (wm T D q (by omega)) (fun i hi=>HV D (by omega)) j hj
theorem aoo {W B:Nat->Int}(j:Nat):U (rE W B j):=um _
theorem ae0 (D:List UInt8)(i:Nat):0<=((D.getD i 0).toNat:Int)/\((D.getD i 0).toNat:Int)<=255:=by have:=(D.getD i 0).toNat_lt;omega
theorem getD_take {D:List UInt8}{n i:Nat}(h:i<n):(D.take n).getD i 0=D.getD i 0:=by rw[List.getD_eq_getElem?_getD,List.getD_eq_getElem?_getD,List.getElem?_take_of_lt h]
theorem Xj {x:Sh}{T:List UInt8}(h:GZ x T)(D:List UInt8):(rJ x D).Ok:=by
 refine⟨h.ok.w,fun j hj=> ?_⟩;unfold rJ;simp only;split
 ·exact ae0 _ _
 ·exact h.ok.b j hj
theorem amF {x:Sh}{T:List UInt8}(h:GZ x T){D:List UInt8}(j:Nat)(hj:j<T.length% 64+min D.length (64 - T.length% 64)):(rJ x D).B j=FA (T++D.take (min D.length (64 - T.length% 64))) (T.length / 64) j:=by
 have hh:=h.h;have e:x.held.toNat=T.length% 64:=by omega
 unfold rJ;simp only[e];have hd:=Nat.div_add_mod T.length 64;by_cases c:j<T.length% 64
 ·rw[if_neg (by omega),h.b j c,HV _ (by omega)]
 ·rw[if_pos (by omega),Rv _ (by omega),getD_take (by omega)];congr 3;omega
theorem agD {x:Sh}{T D:List UInt8}(h:GZ x T)(hc:T.length% 64+min D.length (64 - T.length% 64)<64):GZ (rJ x D) (T++D.take (min D.length (64 - T.length% 64))):=by
 have hl:(T++D.take (min D.length (64 - T.length% 64))).length=T.length+min D.length (64 - T.length% 64):=by rw[List.length_append,List.length_take];omega
 have hd:=Nat.div_add_mod T.length 64;have e1:(T++D.take (min D.length (64 - T.length% 64))).length / 64=T.length / 64:=by omega
 have e2:(T++D.take (min D.length (64 - T.length% 64))).length% 64=T.length% 64+min D.length (64 - T.length% 64):=by omega
 refine⟨Xj h D,fun j hj=> ?_,fun j hj=> ?_,?_⟩
 ·rw[e1,wm _ _ _ (by omega) j hj];exact h.w j hj
 ·rw[e2] at hj;rw[e1];exact amF h j hj
 ·have hh:=h.h;have e:x.held.toNat=T.length% 64:=by omega
  rw[e2];show x.held+((min D.length (64 - x.held.toNat):Nat):Int)=_;rw[e];omega
theorem agC {x:Sh}{T D:List UInt8}(h:GZ x T)(hc:T.length% 64+min D.length (64 - T.length% 64)=64):GZ ⟨rE (rJ x D).W (rJ x D).B,(rJ x D).B,0,(rJ x D).size⟩ (T++D.take (min D.length (64 - T.length% 64))):=by
 have hl:(T++D.take (min D.length (64 - T.length% 64))).length=T.length+min D.length (64 - T.length% 64):=by rw[List.length_append,List.length_take];omega
 have hd:=Nat.div_add_mod T.length 64;have e1:(T++D.take (min D.length (64 - T.length% 64))).length / 64=T.length / 64+1:=by omega
 have e2:(T++D.take (min D.length (64 - T.length% 64))).length% 64=0:=by omega
 refine⟨⟨fun j hj=>aoo j,(Xj h D).b⟩,fun j hj=> ?_,fun j hj=> ?_,?_⟩
 ·rw[e1];simp only[wk];refine Jp (fun i hi=> ?_) (fun i hi=> ?_) j hj
  ·rw[wm _ _ _ (by omega) i hi];exact h.w i hi
  ·exact amF h i (by omega)
 ·rw[e2] at hj;exact absurd hj (Nat.not_lt_zero _)
 ·rw[e2];rfl
theorem Vw {x:Sh}{T s:List UInt8}(hx:Rn x T)(_hs:s.length<1152921504606846976) :
  aq (yC (Yw T s (((T++s).length:Int)% 18446744073709551616)) 60 Tryz.f60 [.ptr 0 true 0,.str false s] G9 (x,T) (fun y:Sh=>(Rn y (T++s),.ptr 0 true 0,(y,T++s)))):=by
 refine aq.j7 (al6 x T s _) (by delta Fk Bk I6 NI aF bC bx bh bP F4 ak aL bH cS kG pW oe pU iG rT rV bn dX bT gK cZ aD fL wU qz5 qz6 agV Ge qz3 qz4 aoK uF LL aoM G7 ah0 x3 x7 ND ZF ag4 Db;exact rfl) ?_;dsimp only;obtain⟨hx,hz⟩:=hx;refine⟨⟨(0,⟨x.W,x.B,x.held,(x.size+(s.length:Int)% 18446744073709551616)% 18446744073709551616⟩),⟨Nat.zero_le _,?_,?_⟩,rfl,af.refl _,trivial⟩,fun g hg=>⟨fun a=> ?_,fun a=> ?_⟩⟩
 ·show GZ _ (T++s.take 0);rw[List.take_zero,List.append_nil];exact⟨⟨hx.ok.w,hx.ok.b⟩,hx.w,hx.b,hx.h⟩
 ·show(x.size+(s.length:Int)% 18446744073709551616)% 18446744073709551616=_;rw[hz,List.length_append];omega
 ·obtain⟨hk,hi,hsz⟩:=hg;have hD:s.drop g.1≠[]:=by simpa using a
  have hh:=hi.h;generalize hT:T++s.take g.1=T' at hi hh;have e:g.2.held.toNat=T'.length% 64:=by omega
  have hlt:T'.length% 64<64:=Nat.mod_lt _ (by decide);have hp:=List.length_pos_iff.2 hD;have hdl:(s.drop g.1).length=s.length - g.1:=List.length_drop ..;have hmin:min (s.drop g.1).length (64 - g.2.held.toNat)=min (s.drop g.1).length (64 - T'.length% 64):=by rw[e]
  generalize hc:min (s.drop g.1).length (64 - g.2.held.toNat)=cnt at hmin ⊢;have hT2:T++s.take (g.1+cnt)=T'++(s.drop g.1).take cnt:=by rw[← hT,List.append_assoc,List.take_add]
  have hsub:eK (s.drop g.1) (some (Operand.tmp 37)) none (cnt:Int) ((s.drop g.1).length:Int)=s.drop (g.1+cnt):=by simp only[eK,Int.toNat_natCast,List.drop_drop]
  have rest: ∀ {p:Prop},(8<=8+g.2.held.toNat/\8+g.2.held.toNat+(64 - g.2.held.toNat)<=8+64->(-9223372036854775808<=g.2.held+(cnt:Int)/\g.2.held+(cnt:Int)<=9223372036854775807)->(0<=(cnt:Int)/\(cnt:Int)<=((s.drop g.1).length:Int)/\((s.drop g.1).length:Int)<=((s.drop g.1).length:Int))->p)->p:=fun h=>h (by omega) (by omega) (by omega);refine⟨by omega,fun b=>absurd (of_decide_eq_true b) (by omega),fun _=>rest fun r1 r2 r3=>⟨r1,r2,r3,fun b=> ?_,fun b=> ?_⟩⟩
  ·have b:=of_decide_eq_true b;refine⟨rJ g.2 (s.drop g.1),?_,Xj hi _,fun _ _=>⟨(g.1+cnt,⟨rE (rJ g.2 (s.drop g.1)).W (rJ g.2 (s.drop g.1)).B,(rJ g.2 (s.drop g.1)).B,0,(rJ g.2 (s.drop g.1)).size⟩),⟨⟨?_,?_,hsz⟩,?_⟩,hsub,Sx.af.cells (fun E=>rfl) rfl,trivial⟩⟩
   ·subst hc;exact af.refl _
   ·show g.1+cnt<=s.length;omega
   ·show GZ _ (T++s.take (g.1+cnt));rw[hT2,hmin];exact agC hi (by omega)
   ·show s.length - (g.1+cnt)<s.length - g.1;omega
  ·have b:=of_decide_eq_false b;refine⟨(g.1+cnt,rJ g.2 (s.drop g.1)),⟨⟨?_,?_,hsz⟩,?_⟩,hsub,?_,trivial⟩
   ·show g.1+cnt<=s.length;omega
   ·show GZ _ (T++s.take (g.1+cnt));rw[hT2,hmin];exact agD hi (by omega)
   ·show s.length - (g.1+cnt)<s.length - g.1;omega
   ·subst hc;exact af.refl _
 ·obtain⟨hk,hi,hsz⟩:=hg;have hD:s.drop g.1=[]:=by simpa using a
  have hl:(s.drop g.1).length=0:=by rw[hD];rfl
  rw[List.length_drop] at hl;rw[List.take_of_length_le (by omega)] at hi;exact⟨g.2,⟨hi,hsz⟩,af.refl _,fun _=>rfl⟩
theorem aaz (x:Sh×List UInt8):(G9 x).wf 0=true/\(G9 x).ro=false/\(G9 x).no=false:=⟨rfl,rfl,rfl⟩
theorem ajy:au Tryz.prog 60 (wu G9 Fp):=by
 refine OX (n:=20) (fn:=Tryz.f60) Tryz.func60 (by kernel_rfl) (by kernel_rfl) aaz ?_;intro args g x h hp;unfold Fp at h;split at h
 ·rename_i s;injection h with h;subst h;obtain⟨x,T⟩:=x;exact⟨Yw T s (((T++s).length:Int)% 18446744073709551616),[.ptr 0 true 0,.str false s],an5 _ _ _,fun E=>rfl,rfl,fun _=>rfl,Vw hp.1 hp.2⟩
 ·cases h
end Go.Proofs.YtpaaiebohjjieaaGreatDoor
