/- A part of the proof. -/
import Derived.Test.YtoibaecagklkaaaGreatDoorMk
open Bool renaming false->F,true->I
open Decidable renaming decide->S
open Go.BinOp renaming or->V
open Go.IntKind renaming u32->ag
open Go.Proofs.Tryz renaming f148->ay,f149->Q,f60->a_,f97->a!,prog->M
open Int renaming natCast_nonneg->bf,toNat->bl,toNat_natCast->bn
open List renaming drop->an,getD->cj,getD_eq_getElem?_getD->Y,getElem?_cons_zero->cl,getElem?_eq_getElem->bW,length->Z,length_append->bY,length_drop->ct,length_take->cx,nil->O
open Nat renaming div_add_mod->b_,eq_of_beq_eq_true->b!,zero_add->cy,zero_le->cB
open Option renaming none->L,some->J
namespace Go.Proofs.YtoibaecagklkaaaGreatDoor
open Go Sx
variable {a b:Int}{D T:h_}{j n:Nat}{G H:Type}
namespace Sx
open Go
def ar7 (k:Nat):SV->Option SV
 | .ptr j l o=>(match Nat.beq j k with
   | true=>J (.ptr 0 l o)
   | false=>L)
 | .slc j o n l c=>(match Nat.beq j k with
   | true=>J (.slc 0 o n l c)
   | false=>L)
 | .int a _ n=>J (.int a F n)
 | .bool _ b=>J (.bool F b)
 | .str _ s=>J (.str F s)
 | _=>L
def WW (k:Nat):List SV->Option (List SV)
 | []=>J []
 | v::r=>(match ar7 k v,WW k r with
   | some x,J l=>J (x::l)
   | _,_=>L)
theorem ak7 {k:Nat}{E:Nat->Nat}{v u:SV}(h:ar7 k v=J u):u.val (λ_=>E k)=v.val E/\u.wf 1=true:=by
 unfold ar7 at h
 split at h<;>first
  | cases h;done
  | (cases h;exact⟨rfl,rfl⟩)
  | skip
 ·split at h
  ·rename_i e;cases h;have e:=b! e;subst e;exact⟨rfl,rfl⟩
  ·cases h
 ·split at h
  ·rename_i e;cases h;have e:=b! e;subst e;exact⟨rfl,rfl⟩
  ·cases h
theorem QB {k:Nat}{E:Nat->Nat}: ∀ {l r:List SV},WW k l=J r->SV.vals (λ_=>E k) r=SV.vals E l/\SV.lY 1 r=I
 | [],r,h=>by cases h;exact⟨rfl,rfl⟩
 | v::l,r,h=>by
   unfold WW at h;split at h
   ·rename_i x l' hx hl;cases h;obtain⟨g1,g2⟩:=ak7 (E:=E) hx;obtain⟨g3,g4⟩:=QB (E:=E) hl;exact⟨by simp only[SV.vals,g1,g3],by simp only[SV.lY,g2,g4,Bool.and_self]⟩
   ·cases h
def amI:List SV->Option Nat
 | []=>L
 | .ptr j _ _::_=>J j
 | .slc j _ _ _ _::_=>J j
 | _::r=>amI r
def ab0 (k:Nat):SV->SV
 | .ptr _ l o=>.ptr k l o
 | v=>v
def amD:SV->Bool
 | .ptr j _ _=>Nat.beq j 0
 | v=>v.wf 0
theorem alL {v:SV}(h:amD v=I){k:Nat}{E E':Nat->Nat}(he:E' 0=E k):(ab0 k v).val E=v.val E':=by
 cases v
 case ptr j l o =>
  have e:=b! h
  grind [ab0,SV.val]
 all_goals exact SV.Jy (by exact h) _ _
noncomputable def Bu (sb:G->SB)(sp:List SV->Option (G->Prop×(H->Prop×SV×G))):PT:=λargs m nx K=>match amI args with
 | some k=>(match WW k args with
   | some l=>(match sp l with
     | some g=>(match m.get k with
       | some B=>.ex G λx=>.and (.atom (aa B (sb x))) (.and (.atom (g x).1) (.all H λy=>.imp ((g x).2 y).1 (K (ab0 k ((g x).2 y).2.1) (m.put k (sb ((g x).2 y).2.2)) nx)))
       | none=>.fail "a call's block")
     | none=>.fail "a call's arguments")
   | none=>.fail "a call's arguments")
 | none=>.fail "a call's arguments"
theorem At (sb:G->SB)(sp:List SV->Option (G->Prop×(H->Prop×SV×G))):bC (Bu sb sp):=by
 intro args m nx K K' hK h;unfold Bu at h ⊢;split at h
 ·split at h
  ·split at h
   ·split at h
    ·obtain⟨x,h1,h2,h3⟩:=h;exact⟨x,h1,h2,λy hy=>hK _ _ _ (h3 y hy)⟩
    ·exact h.elim
   ·exact h.elim
  ·exact h.elim
 ·exact h.elim
def acA (sb:G->SB)(g:H->Prop×SV×G)(v:SV)(m:Mem):VC:=match m.get 0 with
 | some X=>.ex H λy=>.and (.atom (g y).1) (.and (leA X (sb (g y).2.2)) (svA v (g y).2.1))
 | none=>.fail "no block"
theorem Vc {P:Program}{f:FuncId}{fn:Func}(hf:P.funcs[f]?=J fn) (hn:(fn.name== "runtime.NumGoroutine")=F) (hb:fn.body.isSome=I)   {sb:G->SB} {sp:List SV->Option (G->Prop×(H->Prop×SV×G))}
  (hsb: ∀ x,(sb x).wf 0=I/\(sb x).ro=F/\(sb x).no=F)
  (h: ∀ args g x,sp args=J g->(g x).1->∃ cfg args',Good P cfg/\(∀ E,SV.vals E args'=SV.vals E args)/\SV.lY 1 args'=I/\(∀ y,amD ((g x).2 y).2.1=I)/\
    au (lZ P (calling P cfg n) [] Ny (cfg.bU f) cfg.rounds fn args' [(0,sb x)] 1 (λv m _=>acA sb (g x).2 v m))):aq P f (Bu sb sp):=by
 intro args m nx K hk hwf hargs Γ E w hs;unfold Bu at hk;split at hk
 ·rename_i k hkey;split at hk
  ·rename_i l hl;split at hk
   ·rename_i g hg;split at hk
    ·rename_i B hB;obtain⟨x,h1,h2,h3⟩:=hk;have h1:aa B (sb x):=h1;obtain⟨cfg,args',c1,c2,c3,c4,c5⟩:=h _ _ x hg h2;obtain⟨s1,s2,s3⟩:=hsb x;have hone:=hs.one hB h1 s3 s2 s1;have hc:=kC c1 hf hn hb c5 (by simp only[Mem.wf,Bool.and_true];exact SB.pz (cB _) s1) c3 hone;rw[c2,(QB (E:=E) hl).1] at hc;refine mY hf hn hb (hc.mono ?_);rintro e w' ⟨v,rfl,E1,u,m1,nx1,g1,g2,g3,g4,g5⟩;refine⟨v,rfl,?_⟩;cases u with
     | none=>exact g5.elim
     | some u =>
       simp only[lift,acA] at g5;split at g5
       ·rename_i X hX;obtain⟨y,y1,y2,y3⟩:=g5;have y2:aa X (sb ((g x).2 y).2.2):=y2;have y3:ai u ((g x).2 y).2.1:=y3;obtain⟨t1,t2,t3⟩:=hsb ((g x).2 y).2.2;have hsw:=g4.swap hX y2;have hE0:E1 0=E k:=g1 0 (by omega);have hfr:=hs.frame hB (h1.old s3).1 ((h1.old s3).2.2 s2) hsw hE0 (Mem.SD hX) t3 t2 t1;refine⟨E,J (ab0 k ((g x).2 y).2.1),_,nx,λ_ _=>rfl,Nat.le_refl _,λz hz=> ?_,hfr,h3 y y1⟩;cases hz;rw[g3 u rfl,y3 E1]
        grind [alL]
       ·exact g5.elim
    ·exact hk.elim
   ·exact hk.elim
  ·exact hk.elim
 ·exact hk.elim
end Sx
section
open Go Sx
set_option maxRecDepth 20000
def uH (f:Nat->Prop->Prop):Nat->Nat->Prop->Prop
 | _,0,t=>t
 | i,n+1,t=>f i (uH f (i+1) n t)
theorem uH.of {f:Nat->Prop->Prop}{t:Prop}{N:Nat}(h: ∀ i r,i<N->r->f i r)(ht:t): ∀ n i,i+n<=N->uH f i n t
 | 0,_,_=>ht
 | n+1,i,hn=>h i _ (by omega) (uH.of h ht n (i+1) (by omega))
def atO (a b c:Int):Int:=bitsOf .xor (bitsOf .xor a b) c
def kV (x n:Int):Int:=bitsOf .or (x*(2^ (32-n).toNat:Nat)%4294967296) (x/(2^ n.toNat:Nat))
def aBa (a:Int):Int:=atO (kV a 2) (kV a 13) (kV a 22)
def aBb (e:Int):Int:=atO (kV e 6) (kV e 11) (kV e 25)
def aCq (x:Int):Int:=atO (kV x 7) (kV x 18) (x/8)
def aCr (y:Int):Int:=atO (kV y 17) (kV y 19) (y/1024)
def chF (e f g:Int):Int:=bitsOf .xor (bitsOf .and e f) (bitsOf .and (bitsOf .xor 4294967295 e) g)
def aCi (a b c:Int):Int:=atO (bitsOf .and a b) (bitsOf .and a c) (bitsOf .and b c)
def X9:List Int:=[1116352408,1899447441,3049323471,3921009573,961987163,1508970993,2453635748,2870763221,3624381080,310598401,607225278,1426881987,1925078388,2162078206,2614888103,3248222580,3835390401,4022224774,264347078,604807628,770255983,1249150122,1555081692,1996064986,2554220882,2821834349,2952996808,3210313671,3336571891,3584528711,113926993,338241895,666307205,773529912,1294757372,1396182291,1695183700,1986661051,2177026350,2456956037,2730485921,2820302411,3259730800,3345764771,3516065817,3600352804,4094571909,275423344,430227734,506948616,659060556,883997877,958139571,1322822218,1537002063,1747873779,1955562222,2024104815,2227730452,2361852424,2428436474,2756734187,3204031479,3329325298]
def acY (i:Nat):Int:=M8 X9 i
def UU (b:Nat->Int)(j:Nat):Int:=bitsOf .or (bitsOf .or (bitsOf .or (b (4*j)*16777216%4294967296) (b (4*j+1)*65536%4294967296)) (b (4*j+2)*256%4294967296)) (b (4*j+3))
def apD (a b c d:Int):Int:=(((a+aCq b)%4294967296+c)%4294967296+aCr d)%4294967296
def wL (b:Nat->Int):Nat->Nat->Int
 | 0=>λj=>if j<16 then UU b j else 0
 | n+1=>λj=>if j=16+n then apD (wL b n (16+n-16)) (wL b n (16+n-15)) (wL b n (16+n-7)) (wL b n (16+n-2))else wL b n j
def t1F (v:Nat->Int)(k w:Int):Int:=((((v 7+aBb (v 4))%4294967296+chF (v 4) (v 5) (v 6))%4294967296+k)%4294967296+w)%4294967296
def t2F (v:Nat->Int):Int:=(aBa (v 0)+aCi (v 0) (v 1) (v 2))%4294967296
def K1 (v:Nat->Int)(k w:Int)(j:Nat):Int:=match j with
 | 0=>(t1F v k w+t2F v)%4294967296
 | 1=>v 0
 | 2=>v 1
 | 3=>v 2
 | 4=>(v 3+t1F v k w)%4294967296
 | 5=>v 4
 | 6=>v 5
 | 7=>v 6
 | _=>0
def yU (W B:Nat->Int):Nat->Nat->Int
 | 0=>W
 | i+1=>K1 (yU W B i) (acY i) (wL B 48 i)
def uK (W B:Nat->Int)(j:Nat):Int:=(W j+yU W B 64 j)%4294967296
structure Sh where
 W:Nat->Int
 B:Nat->Int
 held:Int
 size:Int
def Sh.cs (x:Sh):List SV:=[.int .u32 F (x.W 0),.int .u32 F (x.W 1),.int .u32 F (x.W 2),.int .u32 F (x.W 3),.int .u32 F (x.W 4),.int .u32 F (x.W 5),.int .u32 F (x.W 6),.int .u32 F (x.W 7),.int .u8 F (x.B 0),.int .u8 F (x.B 1),.int .u8 F (x.B 2),.int .u8 F (x.B 3),.int .u8 F (x.B 4),.int .u8 F (x.B 5),.int .u8 F (x.B 6),.int .u8 F (x.B 7),.int .u8 F (x.B 8),.int .u8 F (x.B 9),.int .u8 F (x.B 10),.int .u8 F (x.B 11),.int .u8 F (x.B 12),.int .u8 F (x.B 13),.int .u8 F (x.B 14),.int .u8 F (x.B 15),.int .u8 F (x.B 16),.int .u8 F (x.B 17),.int .u8 F (x.B 18),.int .u8 F (x.B 19),.int .u8 F (x.B 20),.int .u8 F (x.B 21),.int .u8 F (x.B 22),.int .u8 F (x.B 23),.int .u8 F (x.B 24),.int .u8 F (x.B 25),.int .u8 F (x.B 26),.int .u8 F (x.B 27),.int .u8 F (x.B 28),.int .u8 F (x.B 29),.int .u8 F (x.B 30),.int .u8 F (x.B 31),.int .u8 F (x.B 32),.int .u8 F (x.B 33),.int .u8 F (x.B 34),.int .u8 F (x.B 35),.int .u8 F (x.B 36),.int .u8 F (x.B 37),.int .u8 F (x.B 38),.int .u8 F (x.B 39),.int .u8 F (x.B 40),.int .u8 F (x.B 41),.int .u8 F (x.B 42),.int .u8 F (x.B 43),.int .u8 F (x.B 44),.int .u8 F (x.B 45),.int .u8 F (x.B 46),.int .u8 F (x.B 47),.int .u8 F (x.B 48),.int .u8 F (x.B 49),.int .u8 F (x.B 50),.int .u8 F (x.B 51),.int .u8 F (x.B 52),.int .u8 F (x.B 53),.int .u8 F (x.B 54),.int .u8 F (x.B 55),.int .u8 F (x.B 56),.int .u8 F (x.B 57),.int .u8 F (x.B 58),.int .u8 F (x.B 59),.int .u8 F (x.B 60),.int .u8 F (x.B 61),.int .u8 F (x.B 62),.int .u8 F (x.B 63),.int .i64 F x.held,.int .u64 F x.size]
def Sh.sb (x:Sh):SB:=.cells x.cs 74 171
structure Sh.Ok (x:Sh):Prop where
 w: ∀ j,j<8->0<=x.W j/\x.W j<=4294967295
 b: ∀ j,j<64->0<=x.B j/\x.B j<=255
def avN (n:Int):Bool:=S (n=2)||(S (n=6)||(S (n=7)||(S (n=11)||(S (n=13)||(S (n=17)||(S (n=18)||(S (n=19)||(S (n=22)||decide (n=25)))))))))
def KZ:List SV->Option (Prop×SV)
 | [.int .u32 F x,.int .i64 F n]=>(match avN n with
   | true=>J (0<=x/\x<=4294967295,.int .u32 F (kV x n))
   | false=>L)
 | _=>L
noncomputable def ajx (b:Nat->Int):aN :=
 {α:=Nat,pre:=λ_ n=>n<=48,nF:=λ_ n=>48-n,fresh:=0,slots:=λ_ n=>[(6,.int .i64 F (16+(n:Int)))],
  mem:=λ_ n=>[(2,.rows F 64 [.int .u32 (wL b n)] F 64 234)]}
noncomputable def ajw (W B:Nat->Int):aN :=
 {α:=Nat,pre:=λ_ i=>i<=64,nF:=λ_ i=>64-i,fresh:=0,slots:=λ_ i=>[(18,.int .i64 F i)],
  mem:=λ_ i=>[(1,.rows F 64 [.int .u32 (wL B 48)] F 64 234),(2,.cells [.int .u32 F (yU W B i 0),.int .u32 F (yU W B i 1),.int .u32 F (yU W B i 2),.int .u32 F (yU W B i 3),.int .u32 F (yU W B i 4),.int .u32 F (yU W B i 5),.int .u32 F (yU W B i 6),.int .u32 F (yU W B i 7)] 8 168)]}
noncomputable def azn (W B:Nat->Int):aN :={α:=Nat,pre:=λst i=>slot st.tmps 18=J (.int .i64 F (i:Int)),nF:=λ_ _=>0,fresh:=0,slots:=λ_ i=>[(9,.int .u32 F (t1F (yU W B i) (acY i) (wL B 48 i)))],mem:=λ_ _=>[]}
noncomputable def azo (W B:Nat->Int):aN :={α:=Nat,pre:=λst i=>slot st.tmps 18=J (.int .i64 F (i:Int)),nF:=λ_ _=>0,fresh:=0,slots:=λ_ i=>[(10,.int .u32 F (t2F (yU W B i)))],mem:=λ_ _=>[]}
noncomputable def ad6:List (FuncId×PT):=(149,aI KZ)::lM
noncomputable def af8 (b:Nat->Int):iG:={bQ with cO:=λf=>av f ad6,bU:=λf=>if f=148 then [(9,always (ajx b))] else []}
def Jj (b:Nat->Int):SV:=.agg [.int .u32 F (wL b 48 0),.int .u32 F (wL b 48 1),.int .u32 F (wL b 48 2),.int .u32 F (wL b 48 3),.int .u32 F (wL b 48 4),.int .u32 F (wL b 48 5),.int .u32 F (wL b 48 6),.int .u32 F (wL b 48 7),.int .u32 F (wL b 48 8),.int .u32 F (wL b 48 9),.int .u32 F (wL b 48 10),.int .u32 F (wL b 48 11),.int .u32 F (wL b 48 12),.int .u32 F (wL b 48 13),.int .u32 F (wL b 48 14),.int .u32 F (wL b 48 15),.int .u32 F (wL b 48 16),.int .u32 F (wL b 48 17),.int .u32 F (wL b 48 18),.int .u32 F (wL b 48 19),.int .u32 F (wL b 48 20),.int .u32 F (wL b 48 21),.int .u32 F (wL b 48 22),.int .u32 F (wL b 48 23),.int .u32 F (wL b 48 24),.int .u32 F (wL b 48 25),.int .u32 F (wL b 48 26),.int .u32 F (wL b 48 27),.int .u32 F (wL b 48 28),.int .u32 F (wL b 48 29),.int .u32 F (wL b 48 30),.int .u32 F (wL b 48 31),.int .u32 F (wL b 48 32),.int .u32 F (wL b 48 33),.int .u32 F (wL b 48 34),.int .u32 F (wL b 48 35),.int .u32 F (wL b 48 36),.int .u32 F (wL b 48 37),.int .u32 F (wL b 48 38),.int .u32 F (wL b 48 39),.int .u32 F (wL b 48 40),.int .u32 F (wL b 48 41),.int .u32 F (wL b 48 42),.int .u32 F (wL b 48 43),.int .u32 F (wL b 48 44),.int .u32 F (wL b 48 45),.int .u32 F (wL b 48 46),.int .u32 F (wL b 48 47),.int .u32 F (wL b 48 48),.int .u32 F (wL b 48 49),.int .u32 F (wL b 48 50),.int .u32 F (wL b 48 51),.int .u32 F (wL b 48 52),.int .u32 F (wL b 48 53),.int .u32 F (wL b 48 54),.int .u32 F (wL b 48 55),.int .u32 F (wL b 48 56),.int .u32 F (wL b 48 57),.int .u32 F (wL b 48 58),.int .u32 F (wL b 48 59),.int .u32 F (wL b 48 60),.int .u32 F (wL b 48 61),.int .u32 F (wL b 48 62),.int .u32 F (wL b 48 63)]
def GR:List SV->Option (Sh->Prop×(Unit->Prop×SV×Sh))
 | [.slc 0 8 64 _ 64]=>J λx=>(x.Ok,λ_=>(True,Jj x.B,x))
 | _=>L
noncomputable def apc:List (FuncId×PT):=(148,Bu Sh.sb GR)::ad6
noncomputable def Vk (W B:Nat->Int):iG:={bQ with cO:=λf=>av f apc,bU:=λf=>if f=97 then [(3,always (ajw W B)),(1006,always (azn W B)),(1007,always (azo W B))] else []}
def Wn:List SV->Option (Sh->Prop×(Unit->Prop×SV×Sh))
 | [.ptr 0 I 0,.slc 0 8 64 _ 64]=>J λx=>(x.Ok,λ_=>(True,.dr [],{x with W:=uK x.W x.B}))
 | _=>L
noncomputable def DO (cfg:iG)(f:Nat)(fn:Func)(args:List SV)(sb:G->SB)(x:G)(g:H->Prop×SV×G):VC:=lZ M (calling M cfg 20) [] Ny (cfg.bU f) cfg.rounds fn args [(0,sb x)] 1 (λv m _=>acA sb g v m)
section
variable (n m k i : Nat) (a b c d : Int) (p : Prop) (x f B C : Sh) (g : Nat-> Nat-> SV) (h o : Nat-> SV) (y : Nat-> Int) (z A : Nat-> Sh-> SV)
abbrev iN:=a%4294967296
abbrev L2:=iN (a*33554432)
abbrev j9:=a<=4294967295
abbrev cr:=SV.int ag F a
abbrev cz:=az (0<=a) (j9 b) (0<=c) (j9 d)
abbrev fe:=cr (bitsOf V a b)
abbrev fG:=cz a b c d/\p
abbrev L6:=iN (a*524288)
abbrev Mb:=iN (a*8192)
abbrev L3:=iN (a*67108864)
abbrev ic:=SV.int ag I 0
abbrev avE:=bh.int ag (wL x.B n)
abbrev kX:=16+NI n
abbrev aic:=iN (x.B (4*n)*16777216)
abbrev aib:=iN (x.B (aB (4*n))*65536)
abbrev Z8:=bitsOf V (aic n x) (aib n x)
abbrev aak:=iN (x.B (4*n+2)*256)
abbrev Me:=Sr (Sh.sb x)/\True
abbrev fL:=bitsOf BinOp.xor a b
abbrev ahB:=fL (kV (y n) 17) (kV (y n) 19)
abbrev ahC:=fL (kV (y n) 7) (kV (y n) 18)
abbrev aqP:=aG ic ic ic ic ic ic ic ic (aG ic ic ic ic ic ic ic ic (aG ic ic ic ic ic ic ic ic (aG ic ic ic ic ic ic ic ic (aG ic ic ic ic ic ic ic ic (aG ic ic ic ic ic ic ic ic O)))))
abbrev ID:=wL x.B n (dR (kX n-15))
abbrev IE:=wL x.B n (dR (kX n-2))
abbrev b6:=bh.at n (avE m x)
abbrev fO:=dR a<n
abbrev jI:=iN (a+b)
abbrev jv:=0<=a/\j9 b
abbrev oG:=fe (bitsOf V (bitsOf V (iN (x.B n*16777216)) (iN (f.B m*65536))) (iN (B.B k*256))) (C.B i)
abbrev Md:=iN (a*128)
abbrev Db:=a/33554432
abbrev L1:=iN (a*1073741824)
abbrev L5:=iN (a*2097152)
abbrev qz4:Nat->Sh->SV:=λa=>λb=>kG (b.B a) F
abbrev qz5:Nat->Sh->SV:=λa=>λb=>cr (b.W a)
abbrev aqp:=aG (z 0 x) (z 1 x) (z 2 x) (z 3 x) (z 4 x) (z 5 x) (z 6 x) (z 7 x) (aG (z 8 x) (z 9 x) (z 10 x) (z 11 x) (z 12 x) (z 13 x) (z 14 x) (z 15 x) (aG (z 16 x) (z 17 x) (z 18 x) (z 19 x) (z 20 x) (z 21 x) (z 22 x) (z 23 x) (aG (z 24 x) (z 25 x) (z 26 x) (z 27 x) (z 28 x) (z 29 x) (z 30 x) (z 31 x) (aG (z 32 x) (z 33 x) (z 34 x) (z 35 x) (z 36 x) (z 37 x) (z 38 x) (z 39 x) (aG (z 40 x) (z 41 x) (z 42 x) (z 43 x) (z 44 x) (z 45 x) (z 46 x) (z 47 x) (aG (z 48 x) (z 49 x) (z 50 x) (z 51 x) (z 52 x) (z 53 x) (z 54 x) (z 55 x) (aG (z 56 x) (z 57 x) (z 58 x) (z 59 x) (z 60 x) (z 61 x) (z 62 x) (z 63 x) (eC (bF x.held) (jJ x.size)))))))))
abbrev aqV:=SB.cells (aG (h 0) (h 1) (h 2) (h 3) (h 4) (h 5) (h 6) (h 7) (aG (o 0) (o 1) (o 2) (o 3) (o 4) (o 5) (o 6) (o 7) (aG (o 8) (o 9) (o 10) (o 11) (o 12) (o 13) (o 14) (o 15) (aG (o 16) (o 17) (o 18) (o 19) (o 20) (o 21) (o 22) (o 23) (aG (o 24) (o 25) (o 26) (o 27) (o 28) (o 29) (o 30) (o 31) (aG (o 32) (o 33) (o 34) (o 35) (o 36) (o 37) (o 38) (o 39) (aG (o 40) (o 41) (o 42) (o 43) (o 44) (o 45) (o 46) (o 47) (aG (o 48) (o 49) (o 50) (o 51) (o 52) (o 53) (o 54) (o 55) (aG (o 56) (o 57) (o 58) (o 59) (o 60) (o 61) (o 62) (o 63) (eC (bF x.held) (jJ x.size))))))))))) 74 171
abbrev m6:=yU x.W f.B n m
abbrev mE:=m6 n 0 x x
abbrev mH:=m6 n 4 x x
abbrev Df:=J (bF (NI n))
abbrev BD:=m6 n 1 x x
abbrev BE:=m6 n 2 x x
abbrev ahe:=SB.cells (aG (g 0 n) (g 1 n) (g 2 n) (g 3 n) (g 4 n) (g 5 n) (g 6 n) (g 7 n) O) 8 168
abbrev ahm:Nat->Nat->SV:=λa=>λb=>cr (m6 b a x x)
abbrev ahu:=t1F (yU x.W x.B n) (acY n) (wL x.B 48 n)
abbrev Mi:=SB.cells (aG (z 0 x) (z 1 x) (z 2 x) (z 3 x) (z 4 x) (z 5 x) (z 6 x) (z 7 x) (aqp x A)) 74 171
abbrev ahW:=fL (jU (mE n x) (BD n x)) (jU (mE n x) (BE n x))
abbrev ah3:=jU (fL 4294967295 (mH n x)) (m6 n 6 x x)
abbrev ah7:=fL (kV (mE n x) 2) (kV (mE n x) 13)
abbrev ah8:=fL (kV (mH n x) 6) (kV (mH n x) 11)
abbrev L8:=iN (a*16384)
abbrev L9:=iN (a*32768)
abbrev Ma:=iN (a*1024)
end
theorem atl (x:Int)(R:SV->Prop):VC.holds (eS bQ 149 Q [.int .u32 F x,.int .i64 I 2] R)=(fG (L1 x) (L1 x) (x/4) (x/4) (R (fe (L1 x) (x/4)))):=by kernel_rfl
theorem atm (x:Int)(R:SV->Prop):VC.holds (eS bQ 149 Q [.int .u32 F x,.int .i64 I 6] R)=(fG (L3 x) (L3 x) (x/64) (x/64) (R (fe (L3 x) (x/64)))):=by kernel_rfl
theorem atn (x:Int)(R:SV->Prop):VC.holds (eS bQ 149 Q [.int .u32 F x,.int .i64 I 7] R)=(fG (L2 x) (L2 x) (x/128) (x/128) (R (fe (L2 x) (x/128)))):=by kernel_rfl
theorem alZ (x:Int)(R:SV->Prop):VC.holds (eS bQ 149 Q [.int .u32 F x,.int .i64 I 11] R)=(fG (L5 x) (L5 x) (x/2048) (x/2048) (R (fe (L5 x) (x/2048)))):=by kernel_rfl
theorem al0 (x:Int)(R:SV->Prop):VC.holds (eS bQ 149 Q [.int .u32 F x,.int .i64 I 13] R)=(fG (L6 x) (L6 x) (x/8192) (x/8192) (R (fe (L6 x) (x/8192)))):=by kernel_rfl
theorem al1 (x:Int)(R:SV->Prop):VC.holds (eS bQ 149 Q [.int .u32 F x,.int .i64 I 17] R)=(fG (L9 x) (L9 x) (x/131072) (x/131072) (R (fe (L9 x) (x/131072)))):=by kernel_rfl
theorem al2 (x:Int)(R:SV->Prop):VC.holds (eS bQ 149 Q [.int .u32 F x,.int .i64 I 18] R)=(fG (L8 x) (L8 x) (x/262144) (x/262144) (R (fe (L8 x) (x/262144)))):=by kernel_rfl
theorem al3 (x:Int)(R:SV->Prop):VC.holds (eS bQ 149 Q [.int .u32 F x,.int .i64 I 19] R)=(fG (Mb x) (Mb x) (x/524288) (x/524288) (R (fe (Mb x) (x/524288)))):=by kernel_rfl
theorem al4 (x:Int)(R:SV->Prop):VC.holds (eS bQ 149 Q [.int .u32 F x,.int .i64 I 22] R)=(fG (Ma x) (Ma x) (x/4194304) (x/4194304) (R (fe (Ma x) (x/4194304)))):=by kernel_rfl
theorem al5 (x:Int)(R:SV->Prop):VC.holds (eS bQ 149 Q [.int .u32 F x,.int .i64 I 25] R)=(fG (Md x) (Md x) (Db x) (Db x) (R (fe (Md x) (Db x)))):=by kernel_rfl
theorem atu (x:Sh):VC.holds (DO (af8 x.B) 148 ay [.slc 0 8 64 I 64] Sh.sb x (λ_:Unit=>(True,Jj x.B,x)))=((fun(a:SB)=>(fun(b:Nat->Int)=>(fun(c:Nat->Int)=>uH (λa=>λb=>cM (0<=x.B (4*a)) (j9 (x.B (4*a))) (jv (x.B (aB (4*a))) (x.B (aB (4*a)))) (cz (aic a x) (aic a x) (aib a x) (aib a x)) (aC (jv (x.B (4*a+2)) (x.B (4*a+2))) (cz (Z8 a x) (Z8 a x) (aak a x) (aak a x)) (jv (x.B (4*a+3)) (x.B (4*a+3))) (dU (bitsOf V (Z8 a x) (aak a x)) (j9 (bitsOf V (Z8 a x) (aak a x))) (jv (x.B (4*a+3)) (x.B (4*a+3)))) b)) 0 16 (cR (∀(d:Nat),aJ d 48 (aM (kX d) 64 (az (iJ (kX d) 15) (Ix (kX d-15) 64) (mu 64 (kX d-15)/\fO 64 (kX d-15)) (aC (iJ (kX d) 2) (Ix (kX d-2) 64) (mu 64 (kX d-2)/\fO 64 (kX d-2)) (jv (ID d x) (ID d x)) (aT (jv (ID d x) (ID d x)) (cz (kV (b d) 7) (kV (b d) 7) (kV (b d) 18) (kV (b d) 18)) (cz (ahC d b) (ahC d b) (ID d x/8) (ID d x/8)) (jv (IE d x) (IE d x)) (jv (IE d x) (IE d x)) (cz (kV (c d) 17) (kV (c d) 17) (kV (c d) 19) (kV (c d) 19)) (cz (ahB d c) (ahB d c) (IE d x/1024) (IE d x/1024)) (iJ (kX d) 16) (aT (Ix (kX d-16) 64) (mu 64 (kX d-16)/\fO 64 (kX d-16)) (iJ (kX d) 7) (Ix (kX d-7) 64) (mu 64 (kX d-7)/\fO 64 (kX d-7)) (Ix (kX d) 64) (mu 64 (kX d)/\fO 64 (kX d)) (dD (kX d)) (∃(e:Nat),aC (br e 48 (aP 48 e 48 d)) (bt (kX d) (kX e)) (aa (gY 64 64 234 (wH (λa=>og a (dR (kX d)) (jI (jI (jI (wL x.B d (dR (kX d-16))) (fL (ahC d b) (ID d x/8))) (wL x.B d (dR (kX d-7)))) (fL (ahB d c) (IE d x/1024))) (wL x.B d a)) ag)) (gY 64 64 234 [avE e x])) (Sr a) (Me x)))))) (br 64 64 (∃(_:Unit),dx True (Sr (Sh.sb x)) (SV.agg (aG (b6 0 d x) (b6 1 d x) (b6 2 d x) (b6 3 d x) (b6 4 d x) (b6 5 d x) (b6 6 d x) (b6 7 d x) (aG (b6 8 d x) (b6 9 d x) (b6 10 d x) (b6 11 d x) (b6 12 d x) (b6 13 d x) (b6 14 d x) (b6 15 d x) (aG (b6 16 d x) (b6 17 d x) (b6 18 d x) (b6 19 d x) (b6 20 d x) (b6 21 d x) (b6 22 d x) (b6 23 d x) (aG (b6 24 d x) (b6 25 d x) (b6 26 d x) (b6 27 d x) (b6 28 d x) (b6 29 d x) (b6 30 d x) (b6 31 d x) (aG (b6 32 d x) (b6 33 d x) (b6 34 d x) (b6 35 d x) (b6 36 d x) (b6 37 d x) (b6 38 d x) (b6 39 d x) (aG (b6 40 d x) (b6 41 d x) (b6 42 d x) (b6 43 d x) (b6 44 d x) (b6 45 d x) (b6 46 d x) (b6 47 d x) (aG (b6 48 d x) (b6 49 d x) (b6 50 d x) (b6 51 d x) (b6 52 d x) (b6 53 d x) (b6 54 d x) (b6 55 d x) (aG (b6 56 d x) (b6 57 d x) (b6 58 d x) (b6 59 d x) (b6 60 d x) (b6 61 d x) (b6 62 d x) (b6 63 d x) O))))))))) (Jj x.B))))) (λb=>aC (b<=48) (16=kX b) (bH 64 (gY 64 64 234 [avE b x]) (aG (oG 0 1 2 3 x x x x) (oG 4 5 6 7 x x x x) (oG 8 9 10 11 x x x x) (oG 12 13 14 15 x x x x) (oG 16 17 18 19 x x x x) (oG 20 21 22 23 x x x x) (oG 24 25 26 27 x x x x) (oG 28 29 30 31 x x x x) (aG (oG 32 33 34 35 x x x x) (oG 36 37 38 39 x x x x) (oG 40 41 42 43 x x x x) (oG 44 45 46 47 x x x x) (oG 48 49 50 51 x x x x) (oG 52 53 54 55 x x x x) (oG 56 57 58 59 x x x x) (oG 60 61 62 63 x x x x) aqP)) 234) (Sr a) (Me x)))) (λa=>IE a x)) (λa=>ID a x)) (gW 64 (SV.agg (aG ic ic ic ic ic ic ic ic (aG ic ic ic ic ic ic ic ic aqP))) 234)):=by kernel_rfl
theorem aBO (x:Sh):VC.holds (DO (Vk x.W x.B) 97 a! [.ptr 0 I 0,.slc 0 8 64 I 64] Sh.sb x (λ_:Unit=>(True,.dr [],{x with W:=uK x.W x.B})))=((fun(a:Nat->SV)=>(fun(b:Nat->SV)=>(fun(c:Nat->Sh->SV)=>(fun(d:Nat->Sh->SV)=>(fun(e:Nat->Sh->SV)=>(fun(f:Nat->Nat->SV)=>(fun(g:Nat->Nat->SV)=>(fun(h:Nat->Nat->SV)=>(fun(i:Nat->Sh->Nat->SV)=>(fun(j:Nat->SV)=>(fun(g:Nat->SB)=>(fun(k:SB)=>∃(l:Sh),aj (aa (aqV x a b) (Mi l c d)) (Sh.Ok l) (∀(_:Unit),True->cR (∀(a:Nat),aJ a 64 (jH a 64 (aD (cz (mH a x) (mH a x) (m6 a 5 x x) (m6 a 5 x x)) (aT (aj (j9 0) (j9 4294967295) (jv (mH a x) (mH a x))) (cz (fL 4294967295 (mH a x)) (fL 4294967295 (mH a x)) (m6 a 6 x x) (m6 a 6 x x)) (cz (jU (mH a x) (m6 a 5 x x)) (jU (mH a x) (m6 a 5 x x)) (ah3 a x) (ah3 a x)) (fE a 64) (lu a<64) (fE a 64) (lu a<64/\iD a<64) (jv (mH a x) (mH a x)) (aT (gG k) (mT a g) (mT a g) (mT a g) (jv (mH a x) (mH a x)) (gG k) (mT a g) (mT a g) (aT (mT a g) (cz (kV (mH a x) 6) (kV (mH a x) 6) (kV (mH a x) 11) (kV (mH a x) 11)) (jv (mH a x) (mH a x)) (gG k) (mT a g) (mT a g) (mT a g) (cz (ah8 a x) (ah8 a x) (kV (mH a x) 25) (kV (mH a x) 25)) (∃(b:Nat),aC (Df a=Df b) (jI (jI (jI (jI (m6 a 7 x x) (fL (ah8 a x) (kV (mH a x) 25))) (fL (jU (mH a x) (m6 a 5 x x)) (ah3 a x))) (M8 X9 (lu a))) (wL x.B 48 (iD a))=ahu b x) (Sr k) (Sr (g a)) (Me l))))) (∀(b:Nat),Df a=Df b->cI (cz (mE a x) (mE a x) (BD a x) (BD a x)) (cz (mE a x) (mE a x) (BE a x) (BE a x)) (cz (jU (mE a x) (BD a x)) (jU (mE a x) (BD a x)) (jU (mE a x) (BE a x)) (jU (mE a x) (BE a x))) (cz (BD a x) (BD a x) (BE a x) (BE a x)) (cz (ahW a x) (ahW a x) (jU (BD a x) (BE a x)) (jU (BD a x) (BE a x))) (jv (mE a x) (mE a x)) (aT (mT a g) (mT a g) (mT a g) (mT a g) (jv (mE a x) (mE a x)) (mT a g) (mT a g) (mT a g) (aT (mT a g) (cz (kV (mE a x) 2) (kV (mE a x) 2) (kV (mE a x) 13) (kV (mE a x) 13)) (jv (mE a x) (mE a x)) (mT a g) (mT a g) (mT a g) (mT a g) (cz (ah7 a x) (ah7 a x) (kV (mE a x) 22) (kV (mE a x) 22)) (∃(b:Nat),aC (Df a=Df b) (jI (fL (ah7 a x) (kV (mE a x) 22)) (fL (ahW a x) (jU (BD a x) (BE a x)))=t2F (yU x.W x.B b)) (Sr k) (Sr (g a)) (Me l))))/\(∀(c:Nat),Df a=Df c->dF a (λd=>aC (br d 64 (aP 64 d 64 a)) (gS a d) (Sr k) (bH 8 (ahe d h) (aG (cr (jI (ahu b x) (t2F (yU x.W x.B c)))) (cr (mE a x)) (cr (BD a x)) (cr (BE a x)) (cr (jI (m6 a 3 x x) (ahu b x))) (cr (mH a x)) (cr (m6 a 5 x x)) (cr (m6 a 6 x x)) O) 168) (Me l))))) (∃(_:Unit),dx True (bH 74 (aqV x j b) (aG (i 0 l a) (i 1 l a) (i 2 l a) (i 3 l a) (i 4 l a) (i 5 l a) (i 6 l a) (i 7 l a) (aqp l d)) 171) (SV.dr O) (SV.dr O)))) (λa=>aC (a<=64) (fy a) (bH 64 k (aG (e 0 l) (e 1 l) (e 2 l) (e 3 l) (e 4 l) (e 5 l) (e 6 l) (e 7 l) (aG (e 8 l) (e 9 l) (e 10 l) (e 11 l) (e 12 l) (e 13 l) (e 14 l) (e 15 l) (aG (e 16 l) (e 17 l) (e 18 l) (e 19 l) (e 20 l) (e 21 l) (e 22 l) (e 23 l) (aG (e 24 l) (e 25 l) (e 26 l) (e 27 l) (e 28 l) (e 29 l) (e 30 l) (e 31 l) (aG (e 32 l) (e 33 l) (e 34 l) (e 35 l) (e 36 l) (e 37 l) (e 38 l) (e 39 l) (aG (e 40 l) (e 41 l) (e 42 l) (e 43 l) (e 44 l) (e 45 l) (e 46 l) (e 47 l) (aG (e 48 l) (e 49 l) (e 50 l) (e 51 l) (e 52 l) (e 53 l) (e 54 l) (e 55 l) (aG (e 56 l) (e 57 l) (e 58 l) (e 59 l) (e 60 l) (e 61 l) (e 62 l) (e 63 l) O)))))))) 234) (bH 8 (ahe a f) (aG (c 0 l) (c 1 l) (c 2 l) (c 3 l) (c 4 l) (c 5 l) (c 6 l) (c 7 l) O) 168) (Me l)))) (gY 64 64 234 (wH (wL x.B 48) ag))) (λa=>ahe a g)) (λa=>cr (uK x.W x.B a))) (λa=>λb=>λc=>cr (jI (b.W a) (m6 c a x x)))) (ahm x)) (ahm x)) (ahm x)) (λa=>λb=>cr (wL b.B 48 a))) qz4) qz5) (λa=>kG (x.B a) F)) (λa=>cr (x.W a))):=by kernel_rfl
def U (a:Int):Prop:=0<=a/\a<=4294967295
theorem u2 (h:U a)(h':U b):0<=a/\a<=4294967295/\0<=b/\b<=4294967295:=⟨h.1,h.2,h'.1,h'.2⟩
theorem um (a:Int):U (a%4294967296):=⟨by omega,by omega⟩
theorem ud (h:U a)(k:Nat)(hk:0<k):U (a/(k:Int)):=by obtain⟨h0,h1⟩:=h;have:=Int.ediv_le_self (b:=(k:Int)) h0;exact⟨Int.ediv_nonneg h0 (by omega),by omega⟩
theorem uM:U 4294967295:=⟨by decide,by decide⟩
theorem F1 {op:BinOp}(hop:op=.and∨op=.or∨op=.xor)(ha:U a)(hb:U b):U (bitsOf op a b):=by
 obtain⟨a0,a1⟩:=ha;obtain⟨b0,b1⟩:=hb;have la:a.toNat<2^ 32:=by omega
 have lb:b.toNat<2^ 32:=by omega
 have h1:=Nat.and_lt_two_pow (n:=32) a.toNat lb;have h2:=Nat.or_lt_two_pow (n:=32) la lb;have h3:=Nat.xor_lt_two_pow (n:=32) la lb;rcases hop with rfl | rfl | rfl
 ·refine⟨bf _,?_⟩;show((a.toNat &&& b.toNat:Nat):Int)<=_;omega
 ·refine⟨bf _,?_⟩;show((a.toNat ||| b.toNat:Nat):Int)<=_;omega
 ·refine⟨bf _,?_⟩;show((a.toNat ^^^ b.toNat:Nat):Int)<=_;omega
theorem Jr (ha:U a)(hb:U b):U (bitsOf .and a b):=F1 (.inl rfl) ha hb
theorem Jw (ha:U a)(hb:U b):U (bitsOf .xor a b):=F1 (.inr (.inr rfl)) ha hb
theorem Cc {x:Int}(h:U x)(n:Int):U (kV x n):=F1 (.inr (.inl rfl)) (um _) (ud h _ (Nat.pow_pos (by decide)))
theorem UA {n:Int}(h:avN n=I):n=2∨n=6∨n=7∨n=11∨n=13∨n=17∨n=18∨n=19∨n=22∨n=25:=by simpa [avN] using h
theorem asb:aq M 149 (aI KZ):=by
 refine fh (U4 (n:=20) Tryz.func149 (by kernel_rfl) (by kernel_rfl) ?_);intro args p a h hp;unfold KZ at h;split at h
 ·rename_i x n;split at h
  ·rename_i hn;cases h;have hx:U x:=hp;rcases UA hn with rfl | rfl | rfl | rfl | rfl | rfl | rfl | rfl | rfl | rfl
   ·exact⟨bQ,[.int .u32 F x,.int .i64 I 2],p8,λE=>rfl,rfl,rfl,(by refine au.j7 (atl x _) (by delta aj az iN j9 cr cz fe fG L1;exact rfl) ?_;exact⟨u2 (um _) (ud hx 4 (by decide)),λ_=>rfl⟩)⟩
   ·exact⟨bQ,[.int .u32 F x,.int .i64 I 6],p8,λE=>rfl,rfl,rfl,(by refine au.j7 (atm x _) (by delta aj az iN j9 cr cz fe fG L3;exact rfl) ?_;exact⟨u2 (um _) (ud hx 64 (by decide)),λ_=>rfl⟩)⟩
   ·exact⟨bQ,[.int .u32 F x,.int .i64 I 7],p8,λE=>rfl,rfl,rfl,(by refine au.j7 (atn x _) (by delta aj az iN L2 j9 cr cz fe fG;exact rfl) ?_;exact⟨u2 (um _) (ud hx 128 (by decide)),λ_=>rfl⟩)⟩
   ·exact⟨bQ,[.int .u32 F x,.int .i64 I 11],p8,λE=>rfl,rfl,rfl,(by refine au.j7 (alZ x _) (by delta aj az iN j9 cr cz fe fG L5;exact rfl) ?_;exact⟨u2 (um _) (ud hx 2048 (by decide)),λ_=>rfl⟩)⟩
   ·exact⟨bQ,[.int .u32 F x,.int .i64 I 13],p8,λE=>rfl,rfl,rfl,(by refine au.j7 (al0 x _) (by delta aj az iN j9 cr cz fe fG L6;exact rfl) ?_;exact⟨u2 (um _) (ud hx 8192 (by decide)),λ_=>rfl⟩)⟩
   ·exact⟨bQ,[.int .u32 F x,.int .i64 I 17],p8,λE=>rfl,rfl,rfl,(by refine au.j7 (al1 x _) (by delta aj az iN j9 cr cz fe fG L9;exact rfl) ?_;exact⟨u2 (um _) (ud hx 131072 (by decide)),λ_=>rfl⟩)⟩
   ·exact⟨bQ,[.int .u32 F x,.int .i64 I 18],p8,λE=>rfl,rfl,rfl,(by refine au.j7 (al2 x _) (by delta aj az iN j9 cr cz fe fG L8;exact rfl) ?_;exact⟨u2 (um _) (ud hx 262144 (by decide)),λ_=>rfl⟩)⟩
   ·exact⟨bQ,[.int .u32 F x,.int .i64 I 19],p8,λE=>rfl,rfl,rfl,(by refine au.j7 (al3 x _) (by delta aj az iN j9 cr cz fe fG Mb;exact rfl) ?_;exact⟨u2 (um _) (ud hx 524288 (by decide)),λ_=>rfl⟩)⟩
   ·exact⟨bQ,[.int .u32 F x,.int .i64 I 22],p8,λE=>rfl,rfl,rfl,(by refine au.j7 (al4 x _) (by delta aj az iN j9 cr cz fe fG Ma;exact rfl) ?_;exact⟨u2 (um _) (ud hx 4194304 (by decide)),λ_=>rfl⟩)⟩
   ·exact⟨bQ,[.int .u32 F x,.int .i64 I 25],p8,λE=>rfl,rfl,rfl,(by refine au.j7 (al5 x _) (by delta aj az iN j9 cr cz fe fG Md Db;exact rfl) ?_;exact⟨u2 (um _) (ud hx 33554432 (by decide)),λ_=>rfl⟩)⟩
  ·cases h
 ·cases h
theorem S5:aR M (λf=>av f ad6):=.cons asb (aE _) iF
theorem ay6 (b:Nat->Int):Sx.Good M (af8 b):=.of bI S5 aO
theorem Sx.aa.afq {c:bh}{tot:Nat}{ty:TypeId}:aa (.cells (me c 0 n) tot ty) (.rows F n [c] F tot ty):=by
 refine aa.of rfl rfl λ_=> ?_;refine⟨rfl,λE o ⟨cs,fr,h1,h2,h3,h4⟩=>⟨cs,fr,h1,λ_=>h2,?_,h4,λi k col hi hk=> ?_⟩,λ_=>rfl⟩
 ·cases n with
  | zero=>simp
  | succ m =>
    have hl:m<(me c 0 (m+1)).length:=by rw[xO];omega
    have:=h3 m _ (bW hl);have:=(Array.getElem?_eq_some_iff.1 this).1;simp only[List.length_cons,List.length_nil];omega
 ·match k,hk with
  | 0,hk =>
    simp only[cl,Option.some.injEq] at hk;subst hk;have hl:i<(me c 0 n).length:=by rw[xO];omega
    have h5:=h3 i _ (bW hl);have h6:=(Cv c n 0 i _ (bW hl)).2;rw[h6,cy] at h5;simpa using h5
theorem Sx.aa.agD {z:Bool}{q:IntKind}{f g:Nat->Int}{tot:Nat}{ty:TypeId}(h: ∀ i,i<n->f i=g i):aa (.rows z n [.int q f] F tot ty) (.rows z n [.int q g] F tot ty):=by
 refine aa.of rfl rfl λhno=> ?_;refine⟨hno,λE o ⟨c,fr,h1,h2,h3,h4,h5⟩=>⟨c,fr,h1,h2,h3,h4,λi k col hi hk=> ?_⟩,λ_=>rfl⟩
 match k,hk with
 | 0,hk =>simp only[cl,Option.some.injEq] at hk;subst hk;have:=h5 i 0 (.int q f) hi rfl;simp only[bh.at,h i hi] at this;exact this
theorem awR {b:Nat->Int}(hb: ∀ j,j<64->U (b j))(hj:j<16):U (UU b j):=F1 (.inr (.inl rfl)) (F1 (.inr (.inl rfl)) (F1 (.inr (.inl rfl)) (um _) (um _)) (um _)) (hb _ (by omega))
theorem JB (b:Nat->Int)(n j:Nat):wL b (n+1) j=if j=16+n then apD (wL b n (16+n-16)) (wL b n (16+n-15)) (wL b n (16+n-7)) (wL b n (16+n-2))else wL b n j:=rfl
theorem aAJ {b:Nat->Int}(hb: ∀ j,j<64->U (b j)): ∀(n j:Nat),U (wL b n j)
 | 0,j=>by
   unfold wL;split
   ·exact awR hb (by assumption)
   ·exact⟨by decide,by decide⟩
 | n+1,j=>by
   unfold wL;split
   ·exact um _
   ·exact aAJ hb n j
theorem asS {W B:Nat->Int}(hW: ∀ j,j<8->U (W j)): ∀(i j:Nat),j<8->U (yU W B i j)
 | 0,j,hj=>hW j hj
 | i+1,j,hj=>by
   have ih:=asS (B:=B) hW i;unfold yU K1
   match j,hj with
   | 0,_=>exact um _
   | 1,_=>exact ih 0 (by decide)
   | 2,_=>exact ih 1 (by decide)
   | 3,_=>exact ih 2 (by decide)
   | 4,_=>exact um _
   | 5,_=>exact ih 4 (by decide)
   | 6,_=>exact ih 5 (by decide)
   | 7,_=>exact ih 6 (by decide)
theorem Sh.Ok.bu {x:Sh}(h:x.Ok)(j:Nat)(hj:j<64):U (x.B j):=by have:=h.b j hj;exact⟨this.1,by omega⟩
theorem Xc {x:Sh}(hx:x.Ok):au (DO (af8 x.B) 148 ay [.slc 0 8 64 I 64] Sh.sb x (λ_:Unit=>(True,Jj x.B,x))):=by
 refine au.j7 (atu x) (by delta Fk I6 Ix Sr NI aM aJ aj bH aC az dK mu dD cM bt dU iJ fz aB gW br dx wH aP gY cR aT og dR aG iN j9 cr cz fe ic avE kX aic aib Z8 aak Me fL ahB ahC aqP ID IE b6 fO jI jv oG;exact rfl) ?_;dsimp only;have hb:=hx.bu;have b: ∀ j,j<64->U (x.B j):=hb;refine uH.of (N:=16) (λi r hi hr=>⟨b _ (by omega),b _ (by omega),u2 (um _) (um _),b _ (by omega),u2 (F1 (.inr (.inl rfl)) (um _) (um _)) (um _),b _ (by omega),u2 (F1 (.inr (.inl rfl)) (F1 (.inr (.inl rfl)) (um _) (um _)) (um _)) (b _ (by omega)),hr⟩) ⟨⟨0,by omega,rfl,Sx.aa.trans (Sx.aa.cells (cs':=me (.int .u32 (wL x.B 0)) 0 64) (λE=>rfl) rfl) Sx.aa.afq,aa.refl _,aa.refl _,trivial⟩,λn hn=>⟨λa=> ?_,λa=> ?_⟩⟩ 16 0 (by decide)
 ·have a:=i_ a;have e15:0+(16+(n:Int)-15).toNat=16+n-15:=by omega
  have e2:0+(16+(n:Int)-2).toNat=16+n-2:=by omega
  have e7:0+(16+(n:Int)-7).toNat=16+n-7:=by omega
  have e16:0+(16+(n:Int)-16).toNat=16+n-16:=by omega
  have e0:0+(16+(n:Int)).toNat=16+n:=by omega
  have u:=aAJ hb n
  refine⟨by omega,by omega,by omega,by omega,by omega,by omega,u _,u _,u2 (Cc (u _) _) (Cc (u _) _),u2 (Jw (Cc (u _) _) (Cc (u _) _)) (ud (u _) 8 (by decide)),u _,u _,u2 (Cc (u _) _) (Cc (u _) _),u2 (Jw (Cc (u _) _) (Cc (u _) _)) (ud (u _) 1024 (by decide)),
   by omega,by omega,by omega,by omega,by omega,by omega,by omega,by omega,by omega,n+1,by omega,by omega,?_,aa.refl _,aa.refl _,trivial⟩
  refine Sx.aa.agD λj hj=> ?_;rw[e0];show _=wL x.B (n+1) j;by_cases ej:j=16+n
  ·rw[o_ ej,JB,o_ ej,e15,e2,e7,e16];rfl
  ·rw[p_ ej,JB,p_ ej]
 ·have a:=j_ a;have e:n=48:=by omega
  subst e;exact⟨by omega,(),trivial,aa.refl _,λ_=>rfl⟩
theorem Sh.axz (x:Sh):(Sh.sb x).wf 0=I/\(Sh.sb x).ro=F/\(Sh.sb x).no=false:=⟨rfl,rfl,rfl⟩
theorem alz:aq M 148 (Bu Sh.sb GR):=by
 refine Vc (n:=20) Tryz.func148 (by kernel_rfl) (by kernel_rfl) Sh.axz ?_;intro args g x h hp;unfold GR at h;split at h
 ·cases h;exact⟨af8 x.B,[.slc 0 8 64 I 64],ay6 _,λE=>rfl,rfl,λ_=>rfl,Xc hp⟩
 ·cases h
theorem akm:aR M (λf=>av f apc):=.cons alz (At _ _) S5
theorem auH (W B:Nat->Int):Sx.Good M (Vk W B):=.of bI akm aO
theorem akB {x:Sh}(hx:x.Ok):au (DO (Vk x.W x.B) 97 a! [.ptr 0 I 0,.slc 0 8 64 I 64] Sh.sb x (λ_:Unit=>(True,.dr [],{x with W:=uK x.W x.B}))):=by
 refine au.j7 (aBO x) (by delta Fk I6 Ix Sr Er NI aM aJ eC bF aj bH aC az bt fz aD jJ br cI dx jU wH aP gY kG gS fy i5 cR jH fE dF aT lu aG dB gG mT iD iN j9 cr cz Me fL jI jv qz4 qz5 aqp aqV m6 mE mH Df BD BE ahe ahm ahu Mi ahW ah3 ah7 ah8;exact rfl) ?_;dsimp only;refine⟨x,aa.refl _,hx,λ_ _=>⟨⟨0,by omega,rfl,Sx.aa.trans (Sx.aa.cells (cs':=me (.int .u32 (wL x.B 48)) 0 64) (λE=>rfl) rfl) Sx.aa.afq,aa.refl _,aa.refl _,trivial⟩,λi hi=>⟨λa=> ?_,λa=> ?_⟩⟩⟩
 ·have a:=i_ a;have u:=asS (B:=x.B) hx.w i;have u0:=u 0 (by decide);have u1:=u 1 (by decide);have u2':=u 2 (by decide);have u4:=u 4 (by decide);have u5:=u 5 (by decide);have u6:=u 6 (by decide);have r: ∀ {y:Int} (n:Int),U y->U (kV y n):=λn h=>Cc h n;refine⟨⟨u2 u4 u5,u2 uM u4,u2 (Jw uM u4) u6,u2 (Jr u4 u5) (Jr (Jw uM u4) u6),by omega,by omega,by omega,by omega,u4,rfl,rfl,rfl,rfl,u4,rfl,rfl,rfl,rfl,u2 (r _ u4) (r _ u4),u4,rfl,rfl,rfl,rfl,u2 (Jw (r _ u4) (r _ u4)) (r _ u4),i,rfl,?_,aa.refl _,aa.refl _,aa.refl _,trivial⟩,λi1 h1 =>⟨⟨u2 u0 u1,u2 u0 u2',u2 (Jr u0 u1) (Jr u0 u2'),u2 u1 u2',u2 (Jw (Jr u0 u1) (Jr u0 u2')) (Jr u1 u2'),u0,rfl,rfl,rfl,rfl,u0,rfl,rfl,rfl,rfl,u2 (r _ u0) (r _ u0),u0,rfl,rfl,rfl,rfl,u2 (Jw (r _ u0) (r _ u0)) (r _ u0),i,rfl,rfl,aa.refl _,aa.refl _,aa.refl _,trivial⟩,λi2 h2=>⟨by omega,i+1,by omega,by omega,aa.refl _,?_,aa.refl _,trivial⟩⟩⟩
  ·rw[bn,cy];rfl
  ·injection h1 with h1;injection h1 with _ _ h1;injection h2 with h2;injection h2 with _ _ h2;have e1:i1=i:=by omega
   have e2:i2=i:=by omega
   subst e1;subst e2;exact aa.refl _
 ·have a:=j_ a;have e:i=64:=by omega
  subst e;exact⟨(),trivial,aa.refl _,λ_=>rfl⟩
theorem azH:aq M 97 (Bu Sh.sb Wn):=by
 refine Vc (n:=20) (fn:=a!) Tryz.func97 (by kernel_rfl) (by kernel_rfl) Sh.axz ?_;intro args g x h hp;unfold Wn at h;split at h
 ·cases h;exact⟨Vk x.W x.B,[.ptr 0 I 0,.slc 0 8 64 I 64],auH _ _,λE=>rfl,rfl,λ_=>rfl,akB hp⟩
 ·cases h
noncomputable def apd:List (FuncId×PT):=(97,Bu Sh.sb Wn)::lM
theorem akn:aR M (λf=>av f apd):=.cons azH (At _ _) iF
def YC (j:Nat):Int:=M8 [1779033703,3144134277,1013904242,2773480762,1359893119,2600822924,528734635,1541459225] j
def G8 (T:h_)(q j:Nat):Int:=ah T ((64*q+j:Nat):Int)
def dN (T:h_):Nat->Nat->Int
 | 0=>YC
 | q+1=>uK (dN T q) (G8 T q)
structure MT (x:Sh)(T:h_):Prop where
 ok:x.Ok
 w: ∀ j,j<8->x.W j=dN T (T.length/64) j
 b: ∀ j,j<T.length%64->x.B j=G8 T (T.length/64) j
 h:x.held=((T.length%64:Nat):Int)
def Xv (x:Sh)(T:h_):Prop:=MT x T/\x.size=(T.length:Int)%18446744073709551616
noncomputable def amx (T s:h_)(z:Int):aN :=
 {α:=Nat×Sh,pre:=λ_ x=>x.1<=s.length/\MT x.2 (T++s.take x.1)/\x.2.size=z,nF:=λ_ x=>s.length-x.1,fresh:=0,slots:=λ_ x=>[(1,.str F (s.drop x.1))],
  mem:=λ_ x=>[(0,x.2.sb)]}
noncomputable def af9 (T s:h_)(z:Int):iG:={bQ with cO:=λf=>av f apd,bU:=λf=>if f=60 then [(2,always (amx T s z))] else []}
theorem azc (T s:h_)(z:Int):Sx.Good M (af9 T s z):=.of bI akn aO
def M9 (g:Sh×h_):SB:=g.1.sb
def Lo:List SV->Option (Sh×h_->Prop×(Sh->Prop×SV×(Sh×h_)))
 | [.ptr 0 I 0,.str F s]=>J λg=>(Xv g.1 g.2/\s.length<1152921504606846976,λy=>(Xv y (g.2++s),.ptr 0 I 0,(y,g.2++s)))
 | _=>L
def wF (x:Sh)(D:h_):Sh :=⟨x.W,λj=>if 8+x.held.toNat-8<=j/\j<8+x.held.toNat-8+min D.length (64-x.held.toNat)then((D.getD (j-(8+x.held.toNat-8)) 0).toNat:Int)else x.B j,x.held+((min D.length (64-x.held.toNat):Nat):Int),x.size⟩
section
variable (s t : h_) (a : Int) (o : Sh) (x f : Nat × Sh) (y z : Nat-> Nat × Sh-> SV) (g h : Nat-> Sh-> SV)
abbrev qz2:Nat->Nat×Sh->SV:=λa=>λb=>kG (b.2.B a) F
abbrev qz3:Nat->Nat×Sh->SV:=λa=>λb=>cr (b.2.W a)
abbrev azX:Nat->Sh->SV:=λa=>λb=>cr (uK b.W b.B a)
abbrev zZ:=x.2.held
abbrev RJ:=SB.cells (y 0 x::y 1 x::aG (y 2 x) (y 3 x) (y 4 x) (y 5 x) (y 6 x) (y 7 x) (z 0 x) (z 1 x) (aG (z 2 x) (z 3 x) (z 4 x) (z 5 x) (z 6 x) (z 7 x) (z 8 x) (z 9 x) (aG (z 10 x) (z 11 x) (z 12 x) (z 13 x) (z 14 x) (z 15 x) (z 16 x) (z 17 x) (aG (z 18 x) (z 19 x) (z 20 x) (z 21 x) (z 22 x) (z 23 x) (z 24 x) (z 25 x) (aG (z 26 x) (z 27 x) (z 28 x) (z 29 x) (z 30 x) (z 31 x) (z 32 x) (z 33 x) (aG (z 34 x) (z 35 x) (z 36 x) (z 37 x) (z 38 x) (z 39 x) (z 40 x) (z 41 x) (aG (z 42 x) (z 43 x) (z 44 x) (z 45 x) (z 46 x) (z 47 x) (z 48 x) (z 49 x) (aG (z 50 x) (z 51 x) (z 52 x) (z 53 x) (z 54 x) (z 55 x) (z 56 x) (z 57 x) (aG (z 58 x) (z 59 x) (z 60 x) (z 61 x) (z 62 x) (z 63 x) (bF (zZ x)) (jJ x.2.size) O))))))))) 74 171
abbrev az2:Nat×Sh->SB:=λa=>SB.cells (y 0 a::y 1 a::aG (y 2 a) (y 3 a) (y 4 a) (y 5 a) (y 6 a) (y 7 a) (z 0 a) (z 1 a) (aG (z 2 a) (z 3 a) (z 4 a) (z 5 a) (z 6 a) (z 7 a) (z 8 a) (z 9 a) (aG (z 10 a) (z 11 a) (z 12 a) (z 13 a) (z 14 a) (z 15 a) (z 16 a) (z 17 a) (aG (z 18 a) (z 19 a) (z 20 a) (z 21 a) (z 22 a) (z 23 a) (z 24 a) (z 25 a) (aG (z 26 a) (z 27 a) (z 28 a) (z 29 a) (z 30 a) (z 31 a) (z 32 a) (z 33 a) (aG (z 34 a) (z 35 a) (z 36 a) (z 37 a) (z 38 a) (z 39 a) (z 40 a) (z 41 a) (aG (z 42 a) (z 43 a) (z 44 a) (z 45 a) (z 46 a) (z 47 a) (z 48 a) (z 49 a) (aG (z 50 a) (z 51 a) (z 52 a) (z 53 a) (z 54 a) (z 55 a) (z 56 a) (z 57 a) (aG (z 58 a) (z 59 a) (z 60 a) (z 61 a) (z 62 a) (z 63 a) (bF (zZ a+NI (min (Z (an a.1 s)) (64-bl (zZ a))))) (jJ a.2.size) O))))))))) 74 171
abbrev M5:=NI (min (Z (an x.1 s)) (64-bl (zZ x)))
abbrev Z2:=Z (an x.1 s)
abbrev Dd:=bl (zZ x)
abbrev De:=an x.1 s
abbrev TC:=aj (x.1<=Z s) (MT x.2 (t++List.take x.1 s)) (x.2.size=a)
abbrev ahw:=aP (Z s) x.1 (Z s) f.1
abbrev sK:=i7 (bB s)
abbrev aqI:=Sh.Ok o/\(∀(_:Unit),True->(∃(b:Nat×Sh),cM (TC s t a b) (ahw s b x) (bT (De s x) (cc 37) L (M5 s x) (NI (Z2 s x))=De s b) (bH 74 (RJ b y z) (g 0 o::g 1 o::aG (g 2 o) (g 3 o) (g 4 o) (g 5 o) (g 6 o) (g 7 o) (h 0 o) (h 1 o) (aG (h 2 o) (h 3 o) (h 4 o) (h 5 o) (h 6 o) (h 7 o) (h 8 o) (h 9 o) (aG (h 10 o) (h 11 o) (h 12 o) (h 13 o) (h 14 o) (h 15 o) (h 16 o) (h 17 o) (aG (h 18 o) (h 19 o) (h 20 o) (h 21 o) (h 22 o) (h 23 o) (h 24 o) (h 25 o) (aG (h 26 o) (h 27 o) (h 28 o) (h 29 o) (h 30 o) (h 31 o) (h 32 o) (h 33 o) (aG (h 34 o) (h 35 o) (h 36 o) (h 37 o) (h 38 o) (h 39 o) (h 40 o) (h 41 o) (aG (h 42 o) (h 43 o) (h 44 o) (h 45 o) (h 46 o) (h 47 o) (h 48 o) (h 49 o) (aG (h 50 o) (h 51 o) (h 52 o) (h 53 o) (h 54 o) (h 55 o) (h 56 o) (h 57 o) (aG (h 58 o) (h 59 o) (h 60 o) (h 61 o) (h 62 o) (h 63 o) (bq 0) (jJ o.size) O))))))))) 171) True))
abbrev IS:=NI (Z2 s x)
end
theorem awN (x:Sh)(T s:h_)(z:Int):VC.holds (DO (af9 T s z) 60 a_ [.ptr 0 I 0,.str F s] M9 (x,T) (λy:Sh=>(Xv y (T++s),.ptr 0 I 0,(y,T++s))))=((fun(a:Nat->SV)=>(fun(b:Nat->SV)=>(fun(c:Nat->Nat×Sh->SV)=>(fun(d:Nat->Nat×Sh->SV)=>(fun(e:Nat->Nat×Sh->SV)=>(fun(f:Nat->Nat×Sh->SV)=>(fun(g:Nat->Sh->SV)=>(fun(h:Nat->Sh->SV)=>(fun(i:Nat->Sh->SV)=>(fun(j:Nat->Nat×Sh->SV)=>(fun(k:Nat->Nat×Sh->SV)=>(fun(l:Nat->Nat×Sh->SV)=>(fun(m:Nat->Nat×Sh->SV)=>(fun(n:Nat->Nat×Sh->SV)=>(fun(o:Nat->Sh->SV)=>(fun(p:Nat->Sh->SV)=>(fun(q:Nat->Sh->SV)=>(fun(r:Nat->Nat×Sh->SV)=>(fun(t:Nat->Nat×Sh->SV)=>(fun(u:Nat->Nat×Sh->SV)=>(fun(v:Nat->Nat×Sh->SV)=>(fun(w:Nat->Nat×Sh->SV)=>(fun(y:Nat->Sh->SV)=>(fun(u0:Nat->Sh->SV)=>(fun(n:Nat×Sh->SB)=>(fun(f:Nat×Sh->SB)=>(∃(e:Nat×Sh),gK (TC s T z e) (s=De s e) (bH 74 (RJ e c d) (a 0::a 1::aG (a 2) (a 3) (a 4) (a 5) (a 6) (a 7) (b 0) (b 1) (aG (b 2) (b 3) (b 4) (b 5) (b 6) (b 7) (b 8) (b 9) (aG (b 10) (b 11) (b 12) (b 13) (b 14) (b 15) (b 16) (b 17) (aG (b 18) (b 19) (b 20) (b 21) (b 22) (b 23) (b 24) (b 25) (aG (b 26) (b 27) (b 28) (b 29) (b 30) (b 31) (b 32) (b 33) (aG (b 34) (b 35) (b 36) (b 37) (b 38) (b 39) (b 40) (b 41) (aG (b 42) (b 43) (b 44) (b 45) (b 46) (b 47) (b 48) (b 49) (aG (b 50) (b 51) (b 52) (b 53) (b 54) (b 55) (b 56) (b 57) (aG (b 58) (b 59) (b 60) (b 61) (b 62) (b 63) (bF x.held) (jJ (i7 (x.size+sK s))) O))))))))) 171))/\(∀(a:Nat×Sh),TC s T z a->gE (De s a) (kM (zZ a) (zZ a) 64 ((64:Int)<=64)/\Fk (64=Dd a) (az (br 8 8 (8+(64-Dd a)<=8+64)) (dK (zZ a) (M5 s a)) (kM (M5 s a) (M5 s a) (IS s a) (IS s a<=IS s a)) (bE (zZ a+M5 s a) 64 (∃(b:Sh),aa (f a) (Mi b g h)/\aqI s T z b a j k i h) (∃(b:Nat×Sh),cX (TC s T z b/\ahw s b a) (bT (De s a) (cc 37) L (M5 s a) (IS s a)=De s b) True (f a) (RJ b l m)))) (az (br 8 (8+Dd a) (8+Dd a+(64-Dd a)<=8+64)) (dK (zZ a) (M5 s a)) (kM (M5 s a) (M5 s a) (IS s a) (IS s a<=IS s a)) (bE (zZ a+M5 s a) 64 (∃(b:Sh),aa (n a) (Mi b o p)/\aqI s T z b a r t q p) (∃(b:Nat×Sh),cX (TC s T z b/\ahw s b a) (bT (De s a) (cc 37) L (M5 s a) (IS s a)=De s b) True (n a) (RJ b u v))))) (∃(b:Sh),dx (Xv b (T++s)) (aa (RJ a e w) (Mi b y u0)) (rK 0 0) (rK 0 0)))) (az2 s e f)) (az2 s e n)) qz4) qz5) qz2) qz2) qz3) qz2) qz3) azX) qz4) qz5) (λa=>λb=>kG (if br (8+Dd b-8) a (a<8+Dd b-8+min (Z2 s b) (64-Dd b))then NI (UInt8.toNat (cj (De s b) (a-(8+Dd b-8)) (0:UInt8)))else b.2.B a) F)) qz2) qz3) qz2) qz3) azX) qz4) qz5) (λa=>λb=>kG (if br 0 a (a<0+min (Z2 s b) (64-Dd b))then NI (UInt8.toNat (cj (De s b) a (0:UInt8)))else b.2.B a) F)) qz3) qz2) qz3) (λa=>kG (x.B a) F)) (λa=>cr (x.W a))):=by kernel_rfl
theorem ab7 {B B':Nat->Int}(h: ∀ j,j<64->B j=B' j): ∀(n j:Nat),wL B n j=wL B' n j
 | 0,j=>by
   unfold wL;by_cases e:j<16
   ·simp only[e,if_true,UU,h (4*j) (by omega),h (4*j+1) (by omega),h (4*j+2) (by omega),h (4*j+3) (by omega)]
   ·simp only[e,if_false]
 | n+1,j=>by simp only[JB,ab7 h n]
theorem W1 {v v':Nat->Int}(h: ∀ j,j<8->v j=v' j)(k w:Int): ∀ j,j<8->K1 v k w j=K1 v' k w j:=by
 have h0:=h 0 (by decide);have h1:=h 1 (by decide);have h2:=h 2 (by decide);have h3:=h 3 (by decide);have h4:=h 4 (by decide);have h5:=h 5 (by decide);have h6:=h 6 (by decide);have h7:=h 7 (by decide);intro j hj
 match j,hj with
 | 0,_=>simp only[K1,t1F,t2F,h0,h1,h2,h4,h5,h6,h7]
 | 1,_=>exact h0
 | 2,_=>exact h1
 | 3,_=>exact h2
 | 4,_=>simp only[K1,t1F,h3,h4,h5,h6,h7]
 | 5,_=>exact h4
 | 6,_=>exact h5
 | 7,_=>exact h6
theorem Lg {W W' B B':Nat->Int}(hW: ∀ j,j<8->W j=W' j)(hB: ∀ j,j<64->B j=B' j): ∀ i j,j<8->yU W B i j=yU W' B' i j
 | 0,j,hj=>hW j hj
 | i+1,j,hj=>by simp only[yU];rw[W1 (Lg hW hB i) _ _ j hj,ab7 hB]
theorem Pe {W W' B B':Nat->Int}(hW: ∀ j,j<8->W j=W' j)(hB: ∀ j,j<64->B j=B' j)(j:Nat)(hj:j<8):uK W B j=uK W' B' j:=by simp only[uK,hW j hj,Lg hW hB 64 j hj]
theorem G9 (T:h_)(q j:Nat):G8 T q j=((T.getD (64*q+j) 0).toNat:Int):=by unfold G8 ah;rw[bn]
theorem NW (D:h_){q:Nat}(h:64*q+j<T.length):G8 (T++D) q j=G8 T q j:=by rw[G9,G9,Y,Y,List.getElem?_append_left h]
theorem XQ (D:h_){q:Nat}(h:T.length<=64*q+j):G8 (T++D) q j=((D.getD (64*q+j-T.length) 0).toNat:Int):=by rw[G9,Y,Y,List.getElem?_append_right h]
theorem Bq (T D:h_): ∀ q,64*q<=T.length->∀ j,j<8->dN (T++D) q j=dN T q j
 | 0,_,_,_=>rfl
 | q+1,h,j,hj=>by simp only[dN];exact Pe (Bq T D q (by omega)) (λi hi=>NW D (by omega)) j hj
theorem azG {W B:Nat->Int}(j:Nat):U (uK W B j):=um _
theorem aog (D:h_)(i:Nat):0<=((D.getD i 0).toNat:Int)/\((D.getD i 0).toNat:Int)<=255:=by have:=(D.getD i 0).toNat_lt;omega
theorem getD_take {i:Nat}(h:i<n):(D.take n).getD i 0=D.getD i 0:=by rw[Y,Y,List.getElem?_take_of_lt h]
theorem aeG {x:Sh}(h:MT x T)(D:h_):(wF x D).Ok:=by
 refine⟨h.ok.w,λj hj=> ?_⟩;unfold wF;simp only;split
 ·exact aog _ _
 ·exact h.ok.b j hj
theorem axo {x:Sh}(h:MT x T)(j:Nat)(hj:j<T.length%64+min D.length (64-T.length%64)):(wF x D).B j=G8 (T++D.take (min D.length (64-T.length%64))) (T.length/64) j:=by
 have hh:=h.h;have e:x.held.toNat=T.length%64:=by omega
 unfold wF;simp only[e];have hd:=b_ T.length 64;by_cases c:j<T.length%64
 ·rw[p_ (by omega),h.b j c,NW _ (by omega)]
 ·rw[o_ (by omega),XQ _ (by omega),getD_take (by omega)];congr 3;omega
theorem ap6 {x:Sh}(h:MT x T)(hc:T.length%64+min D.length (64-T.length%64)<64):MT (wF x D) (T++D.take (min D.length (64-T.length%64))):=by
 have hl:(T++D.take (min D.length (64-T.length%64))).length=T.length+min D.length (64-T.length%64):=by rw[bY,cx];omega
 have hd:=b_ T.length 64;have e1:(T++D.take (min D.length (64-T.length%64))).length/64=T.length/64:=by omega
 have e2:(T++D.take (min D.length (64-T.length%64))).length%64=T.length%64+min D.length (64-T.length%64):=by omega
 refine⟨aeG h D,λj hj=> ?_,λj hj=> ?_,?_⟩
 ·rw[e1,Bq _ _ _ (by omega) j hj];exact h.w j hj
 ·rw[e2] at hj;rw[e1];exact axo h j hj
 ·have hh:=h.h;have e:x.held.toNat=T.length%64:=by omega
  rw[e2];show x.held+((min D.length (64-x.held.toNat):Nat):Int)=_;rw[e];omega
theorem ap5 {x:Sh}(h:MT x T)(hc:T.length%64+min D.length (64-T.length%64)=64):MT ⟨uK (wF x D).W (wF x D).B,(wF x D).B,0,(wF x D).size⟩ (T++D.take (min D.length (64-T.length%64))):=by
 have hl:(T++D.take (min D.length (64-T.length%64))).length=T.length+min D.length (64-T.length%64):=by rw[bY,cx];omega
 have hd:=b_ T.length 64;have e1:(T++D.take (min D.length (64-T.length%64))).length/64=T.length/64+1:=by omega
 have e2:(T++D.take (min D.length (64-T.length%64))).length%64=0:=by omega
 refine⟨⟨λj hj=>azG j,(aeG h D).b⟩,λj hj=> ?_,λj hj=> ?_,?_⟩
 ·rw[e1];simp only[dN];refine Pe (λi hi=> ?_) (λi hi=> ?_) j hj
  ·rw[Bq _ _ _ (by omega) i hi];exact h.w i hi
  ·exact axo h i (by omega)
 ·rw[e2] at hj;exact absurd hj (Nat.not_lt_zero _)
 ·rw[e2];rfl
theorem acf {x:Sh}{s:h_}(hx:Xv x T)(_hs:s.length<1152921504606846976) :
  au (DO (af9 T s (((T++s).length:Int)%18446744073709551616)) 60 a_ [.ptr 0 I 0,.str F s] M9 (x,T) (λy:Sh=>(Xv y (T++s),.ptr 0 I 0,(y,T++s)))):=by
 refine au.j7 (awN x T s _) (by delta Fk Bk I6 NI bx bB eC bF bq rK aj bH az bE dK cM gK i7 dU kM cc fz jJ aX gE br dx aP kG cX aG cr qz4 qz5 aqp Mi qz2 qz3 azX zZ RJ az2 M5 Z2 Dd De TC ahw sK aqI IS;exact rfl) ?_;dsimp only;obtain⟨hx,hz⟩:=hx;refine⟨⟨(0,⟨x.W,x.B,x.held,(x.size+(s.length:Int)%18446744073709551616)%18446744073709551616⟩),⟨cB _,?_,?_⟩,rfl,aa.refl _,trivial⟩,λg hg=>⟨λa=> ?_,λa=> ?_⟩⟩
 ·show MT _ (T++s.take 0);rw[List.take_zero,List.append_nil];exact⟨⟨hx.ok.w,hx.ok.b⟩,hx.w,hx.b,hx.h⟩
 ·show(x.size+(s.length:Int)%18446744073709551616)%18446744073709551616=_;rw[hz,bY];omega
 ·obtain⟨hk,hi,hsz⟩:=hg;have hD:s.drop g.1≠[]:=by simpa using a
  have hh:=hi.h;generalize hT:T++s.take g.1=T' at hi hh;have e:g.2.held.toNat=T'.length%64:=by omega
  have hlt:T'.length%64<64:=Nat.mod_lt _ (by decide);have hp:=List.length_pos_iff.2 hD;have hdl:(s.drop g.1).length=s.length-g.1:=ct ..;have hmin:min (s.drop g.1).length (64-g.2.held.toNat)=min (s.drop g.1).length (64-T'.length%64):=by rw[e]
  generalize hc:min (s.drop g.1).length (64-g.2.held.toNat)=cnt at hmin ⊢;have hT2:T++s.take (g.1+cnt)=T'++(s.drop g.1).take cnt:=by rw[← hT,List.append_assoc,List.take_add]
  have hsub:bT (s.drop g.1) (J (Operand.tmp 37)) L (cnt:Int) ((s.drop g.1).length:Int)=s.drop (g.1+cnt):=by simp only[bT,bn,List.drop_drop]
  have rest: ∀ {p:Prop},(8<=8+g.2.held.toNat/\8+g.2.held.toNat+(64-g.2.held.toNat)<=8+64->(-9223372036854775808<=g.2.held+(cnt:Int)/\g.2.held+(cnt:Int)<=9223372036854775807)->(0<=(cnt:Int)/\(cnt:Int)<=((s.drop g.1).length:Int)/\((s.drop g.1).length:Int)<=((s.drop g.1).length:Int))->p)->p:=λh=>h (by omega) (by omega) (by omega);refine⟨by omega,λb=>absurd (i_ b) (by omega),λ_=>rest λr1 r2 r3=>⟨r1,r2,r3,λb=> ?_,λb=> ?_⟩⟩
  ·have b:=i_ b;refine⟨wF g.2 (s.drop g.1),?_,aeG hi _,λ_ _=>⟨(g.1+cnt,⟨uK (wF g.2 (s.drop g.1)).W (wF g.2 (s.drop g.1)).B,(wF g.2 (s.drop g.1)).B,0,(wF g.2 (s.drop g.1)).size⟩),⟨⟨?_,?_,hsz⟩,?_⟩,hsub,Sx.aa.cells (λE=>rfl) rfl,trivial⟩⟩
   ·subst hc;exact aa.refl _
   ·show g.1+cnt<=s.length;omega
   ·show MT _ (T++s.take (g.1+cnt));rw[hT2,hmin];exact ap5 hi (by omega)
   ·show s.length-(g.1+cnt)<s.length-g.1;omega
  ·have b:=j_ b;refine⟨(g.1+cnt,wF g.2 (s.drop g.1)),⟨⟨?_,?_,hsz⟩,?_⟩,hsub,?_,trivial⟩
   ·show g.1+cnt<=s.length;omega
   ·show MT _ (T++s.take (g.1+cnt));rw[hT2,hmin];exact ap6 hi (by omega)
   ·show s.length-(g.1+cnt)<s.length-g.1;omega
   ·subst hc;exact aa.refl _
 ·obtain⟨hk,hi,hsz⟩:=hg;have hD:s.drop g.1=[]:=by simpa using a
  have hl:(s.drop g.1).length=0:=by rw[hD];rfl
  rw[ct] at hl;rw[List.take_of_length_le (by omega)] at hi;exact⟨g.2,⟨hi,hsz⟩,aa.refl _,λ_=>rfl⟩
theorem ai6 (x:Sh×h_):(M9 x).wf 0=I/\(M9 x).ro=F/\(M9 x).no=false:=⟨rfl,rfl,rfl⟩
theorem atN:aq M 60 (Bu M9 Lo):=by
 refine Vc (n:=20) Tryz.func60 (by kernel_rfl) (by kernel_rfl) ai6 ?_;intro args g x h hp;unfold Lo at h;split at h
 ·rename_i s;cases h;obtain⟨x,T⟩:=x;exact⟨af9 T s (((T++s).length:Int)%18446744073709551616),[.ptr 0 I 0,.str F s],azc _ _ _,λE=>rfl,rfl,λ_=>rfl,acf hp.1 hp.2⟩
 ·cases h
end
end Go.Proofs.YtoibaecagklkaaaGreatDoor
