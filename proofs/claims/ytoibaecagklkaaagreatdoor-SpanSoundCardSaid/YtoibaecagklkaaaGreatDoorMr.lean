/-
  Conditions that the executor computes, written out by a program (vcgen.py).
-/
import Derived.Test.YtoibaecagklkaaaGreatDoorMq
import Derived.Test.YtoibaecagklkaaaGreatDoorMn
namespace Go.Proofs.YtoibaecagklkaaaGreatDoor
open Go Sx
set_option maxRecDepth 20000
theorem MP:VC.holds (Us TV 26 Tryz.f26 [.slc 0 0 2 true 2] uw (fun c=>1<=c) tJ tL)=((some (SB.cells [SV.str true [(97:UInt8)],SV.str true [(49:UInt8)]] 2 50)=some (SB.cells [SV.str true [(97:UInt8)],SV.str true [(49:UInt8)]] 2 50)/\some (SB.cells [SV.str true [(98:UInt8)],SV.str true [(50:UInt8)]] 2 50)=some (SB.cells [SV.str true [(98:UInt8)],SV.str true [(50:UInt8)]] 2 50)/\some (SB.cells [SV.int .i64 true 0] 1 3)=some (SB.cells [SV.int .i64 true 0] 1 3)/\some (SB.cells [SV.int .i64 true 0] 1 3)=some (SB.cells [SV.int .i64 true 0] 1 3)/\some (SB.cells [SV.int .i64 true 0] 1 3)=some (SB.cells [SV.int .i64 true 0] 1 3)/\∀(u13:Nat),1<=u13->some (SB.cells [SV.int .i64 true 1] 1 3)=some (SB.cells [SV.int .i64 true 1] 1 3)/\some (SB.cells [SV.int .i64 true 1] 1 3)=some (SB.cells [SV.int .i64 true 1] 1 3)/\Fits {k:=(1:Int),p:=bz (bz [UInt8.ofNat 6,UInt8.ofNat 1] (some (Operand.tmp 20)) none 1 2) (some (Operand.tmp 20)) none 1 1,v:=[(49:UInt8)],r:=fun(u12:Nat)=>[[],[],[],[],[],[],[],[],[],[],[],[],[],[],[],[]].getD u12 []:Nd}/\(3:Nat)<(1152921504606846976:Nat)/\(3:Nat)<(9223372036854775808:Nat) /\some (SB.cells [SV.int .i64 true 1] 1 3)=some (SB.cells [SV.int .i64 true 1] 1 3)/\∀(u11:Nat),1<=u11->some (SB.cells [SV.int .i64 true 2] 1 3)=some (SB.cells [SV.int .i64 true 2] 1 3)/\some (SB.cells [SV.int .i64 true 2] 1 3)=some (SB.cells [SV.int .i64 true 2] 1 3)/\Fits {k:=(1:Int),p:=bz (bz [UInt8.ofNat 6,UInt8.ofNat 2] (some (Operand.tmp 20)) none 1 2) (some (Operand.tmp 20)) none 1 1,v:=[(50:UInt8)],r:=fun(u10:Nat)=>[[],[],[],[],[],[],[],[],[],[],[],[],[],[],[],[]].getD u10 []:Nd}/\(3:Nat)<(1152921504606846976:Nat)/\(3:Nat)<(9223372036854775808:Nat)/\some (SB.cells [SV.int .i64 true 2] 1 3)=some (SB.cells [SV.int .i64 true 2] 1 3)/\some (SB.cells [SV.int .i64 true 3] 1 3)=some (SB.cells [SV.int .i64 true 3] 1 3)/\some (SB.cells [SV.int .i64 true 3] 1 3)=some (SB.cells [SV.int .i64 true 3] 1 3)/\some (SB.cells [SV.int .i64 true 3] 1 3)=some (SB.cells [SV.int .i64 true 3] 1 3)/\some (SB.cells [SV.int .i64 true 4] 1 3)=some (SB.cells [SV.int .i64 true 4] 1 3)/\some (SB.cells [SV.int .i64 true 4] 1 3)=some (SB.cells [SV.int .i64 true 4] 1 3) /\some (SB.cells [SV.int .i64 true 4] 1 3)=some (SB.cells [SV.int .i64 true 4] 1 3)/\some (SB.cells [SV.int .i64 true 5] 1 3)=some (SB.cells [SV.int .i64 true 5] 1 3)/\some (SB.cells [SV.int .i64 true 5] 1 3)=some (SB.cells [SV.int .i64 true 5] 1 3)/\some (SB.cells [SV.int .i64 true 5] 1 3)=some (SB.cells [SV.int .i64 true 5] 1 3)/\some (SB.cells [SV.int .i64 true 6] 1 3)=some (SB.cells [SV.int .i64 true 6] 1 3)/\some (SB.cells [SV.int .i64 true 6] 1 3)=some (SB.cells [SV.int .i64 true 6] 1 3)/\some (SB.cells [SV.int .i64 true 6] 1 3)=some (SB.cells [SV.int .i64 true 6] 1 3)/\some (SB.cells [SV.int .i64 true 7] 1 3)=some (SB.cells [SV.int .i64 true 7] 1 3)/\some (SB.cells [SV.int .i64 true 7] 1 3)=some (SB.cells [SV.int .i64 true 7] 1 3)/\some (SB.cells [SV.int .i64 true 7] 1 3)=some (SB.cells [SV.int .i64 true 7] 1 3)/\some (SB.cells [SV.int .i64 true 8] 1 3)=some (SB.cells [SV.int .i64 true 8] 1 3)/\some (SB.cells [SV.int .i64 true 8] 1 3)=some (SB.cells [SV.int .i64 true 8] 1 3)/\some (SB.cells [SV.int .i64 true 8] 1 3)=some (SB.cells [SV.int .i64 true 8] 1 3) /\some (SB.cells [SV.int .i64 true 9] 1 3)=some (SB.cells [SV.int .i64 true 9] 1 3)/\some (SB.cells [SV.int .i64 true 9] 1 3)=some (SB.cells [SV.int .i64 true 9] 1 3)/\some (SB.cells [SV.int .i64 true 9] 1 3)=some (SB.cells [SV.int .i64 true 9] 1 3)/\some (SB.cells [SV.int .i64 true 10] 1 3)=some (SB.cells [SV.int .i64 true 10] 1 3)/\some (SB.cells [SV.int .i64 true 10] 1 3)=some (SB.cells [SV.int .i64 true 10] 1 3)/\some (SB.cells [SV.int .i64 true 10] 1 3)=some (SB.cells [SV.int .i64 true 10] 1 3)/\some (SB.cells [SV.int .i64 true 11] 1 3)=some (SB.cells [SV.int .i64 true 11] 1 3)/\some (SB.cells [SV.int .i64 true 11] 1 3)=some (SB.cells [SV.int .i64 true 11] 1 3)/\some (SB.cells [SV.int .i64 true 11] 1 3)=some (SB.cells [SV.int .i64 true 11] 1 3)/\some (SB.cells [SV.int .i64 true 12] 1 3)=some (SB.cells [SV.int .i64 true 12] 1 3)/\some (SB.cells [SV.int .i64 true 12] 1 3)=some (SB.cells [SV.int .i64 true 12] 1 3)/\some (SB.cells [SV.int .i64 true 12] 1 3)=some (SB.cells [SV.int .i64 true 12] 1 3)/\some (SB.cells [SV.int .i64 true 13] 1 3)=some (SB.cells [SV.int .i64 true 13] 1 3) /\some (SB.cells [SV.int .i64 true 13] 1 3)=some (SB.cells [SV.int .i64 true 13] 1 3)/\some (SB.cells [SV.int .i64 true 13] 1 3)=some (SB.cells [SV.int .i64 true 13] 1 3)/\some (SB.cells [SV.int .i64 true 14] 1 3)=some (SB.cells [SV.int .i64 true 14] 1 3)/\some (SB.cells [SV.int .i64 true 14] 1 3)=some (SB.cells [SV.int .i64 true 14] 1 3)/\some (SB.cells [SV.int .i64 true 14] 1 3)=some (SB.cells [SV.int .i64 true 14] 1 3)/\some (SB.cells [SV.int .i64 true 15] 1 3)=some (SB.cells [SV.int .i64 true 15] 1 3)/\some (SB.cells [SV.int .i64 true 15] 1 3)=some (SB.cells [SV.int .i64 true 15] 1 3)/\some (SB.cells [SV.int .i64 true 15] 1 3)=some (SB.cells [SV.int .i64 true 15] 1 3) /\Fits {k:=(3:Int),p:=[],v:=[],r:=fun(u9:Nat)=>[[],dx (cu {k:=(1:Int),p:=bz (bz [UInt8.ofNat 6,UInt8.ofNat 1] (some (Operand.tmp 20)) none 1 2) (some (Operand.tmp 20)) none 1 1,v:=[(49:UInt8)],r:=fun(u8:Nat)=>[[],[],[],[],[],[],[],[],[],[],[],[],[],[],[],[]].getD u8 []:Nd}),dx (cu {k:=(1:Int),p:=bz (bz [UInt8.ofNat 6,UInt8.ofNat 2] (some (Operand.tmp 20)) none 1 2) (some (Operand.tmp 20)) none 1 1,v:=[(50:UInt8)],r:=fun(u7:Nat)=>[[],[],[],[],[],[],[],[],[],[],[],[],[],[],[],[]].getD u7 []:Nd}),[],[],[],[],[],[],[],[],[],[],[],[],[]].getD u9 []:Nd}/\(22:Nat)<(1152921504606846976:Nat)/\(22:Nat)<(9223372036854775808:Nat) /\Fits {k:=(2:Int),p:=bz [UInt8.ofNat 6,UInt8.ofNat 1] none (some (Operand.tmp 81)) 0 1,v:=[],r:=fun(u6:Nat)=>[dx (cu {k:=(3:Int),p:=[],v:=[],r:=fun(u5:Nat)=>[[],dx (cu {k:=(1:Int),p:=bz (bz [UInt8.ofNat 6,UInt8.ofNat 1] (some (Operand.tmp 20)) none 1 2) (some (Operand.tmp 20)) none 1 1,v:=[(49:UInt8)],r:=fun(u4:Nat)=>[[],[],[],[],[],[],[],[],[],[],[],[],[],[],[],[]].getD u4 []:Nd}),dx (cu {k:=(1:Int),p:=bz (bz [UInt8.ofNat 6,UInt8.ofNat 2] (some (Operand.tmp 20)) none 1 2) (some (Operand.tmp 20)) none 1 1,v:=[(50:UInt8)],r:=fun(u3:Nat)=>[[],[],[],[],[],[],[],[],[],[],[],[],[],[],[],[]].getD u3 []:Nd}),[],[],[],[],[],[],[],[],[],[],[],[],[]].getD u5 []:Nd}),[],[],[],[],[],[],[],[],[],[],[],[],[],[],[]].getD u6 []:Nd}/\∀(u2:Loop),u2=u2/\∀(u1:Nat),1<=u1->ah uw uw/\∃(u0:Nat),1<=u0 /\ah (SB.cells [SV.str true [UInt8.ofNat 215,UInt8.ofNat 22,UInt8.ofNat 213,(128:UInt8),UInt8.ofNat 194,UInt8.ofNat 32,(49:UInt8),UInt8.ofNat 194,UInt8.ofNat 32,(50:UInt8),(128:UInt8),(128:UInt8),(128:UInt8),(128:UInt8),(128:UInt8),(128:UInt8),(128:UInt8),(128:UInt8),(128:UInt8),(128:UInt8),(128:UInt8),(128:UInt8),(128:UInt8),UInt8.ofNat 128]] (u1*1) 9) (tL u0)/\af (SV.aL [SV.slc ((16:Nat)+(1:Nat)+(1:Nat)+(1:Nat)) 0 1 false u1,SV.int .i64 true 0]) (tJ u0 ((16:Nat)+(1:Nat)+(1:Nat)+(1:Nat))))):=by kernel_rfl
theorem KD {x:Nd}(h:(List.range 16).all (fun j=>decide ((x.r j).length<9223372036854775808))=true):Fits x:=fun j hj=>by
 have:=List.all_eq_true.1 h j (List.mem_range.2 hj)
 simpa using this
theorem I3 {t:List UInt8}{c:Nat}(h:t=cB):ah (SB.cells [SV.str true t] (c*1) 9) (tL c):=by
 subst h
 exact ah.cells (fun E=>rfl) (by omega)
theorem IU:aB Tryz.prog 26 BT:=by
 refine PG Vy (n:=30) (fn:=Tryz.f26) Tryz.func26 (by kernel_rfl) (by kernel_rfl) LM Jc (fun c E E' k k' h=>by simp only[tJ,SV.val,SV.vals,h]) rfl (fun _ _ h E=>HJ h E) (fun _ h=>Ld h) (aA.of_eq MP ?_)
 repeat' first
  | exact trivial
  | exact ah.refl _
  | exact KD (by decide +kernel)
  | exact rfl
  | refine And.intro ?_ ?_
  | omega
  | intro (_:Loop)
  | intro (_:Nat)
  | intro (_:_<=_)
  | refine⟨_,?_,I3 (by decide +kernel),fun _=>rfl⟩
  | fail
def Vv (args:List SV)(m:Mem):Bool:=match args with
 | [x]=>GY m x
 | _=>false
noncomputable def TM (cfg:ff)(f:Nat)(fn:Func)(args:List SV)(a:c6):VC:=dR Tryz.prog (calling Tryz.prog cfg 40) [] vL (cfg.br f) cfg.rounds fn args [] 0 (fun v m _=>a.fit v m)
end Go.Proofs.YtoibaecagklkaaaGreatDoor
namespace Go.Proofs.YtoibaecagklkaaaGreatDoor.Sx
open Go
noncomputable section
mutual
def SV.aH (ρ:Nat->Nat):SV->SV
 | .ptr k l o=>.ptr (ρ k) l o
 | .jz k w i j=>.jz (ρ k) w i j
 | .mR k b n i=>.mR (ρ k) b n i
 | .slc k o n l c=>.slc (ρ k) o n l c
 | .bw k w z i n c=>.bw (ρ k) w z i n c
 | .bP k w z o i n c=>.bP (ρ k) w z o i n c
 | .gu k w o i j=>.gu (ρ k) w o i j
 | .map k=>.map (ρ k)
 | .yield k=>.yield (ρ k)
 | .agg cs=>.agg (SV.iR ρ cs)
 | .aL vs=>.aL (SV.iR ρ vs)
 | .iface t v=>.iface t (v.aH ρ)
 | .func fn a b=>.func fn (SV.iR ρ a) (SV.iR ρ b)
 | .int k l n=>.int k l n
 | .bool l b=>.bool l b
 | .str l s=>.str l s
 | .bD=>.bD
 | .aO=>.aO
 | .aI=>.aI
 | .ee=>.ee
 | .eM=>.eM
 | .raw v=>.raw v
 | .eD k a o=>.eD (ρ k) a o
 | .cn k w z a i n c=>.cn (ρ k) w z a i n c
 | .lJ k w a i j=>.lJ (ρ k) w a i j
def SV.iR (ρ:Nat->Nat):List SV->List SV
 | []=>[]
 | x::r=>x.aH ρ::SV.iR ρ r
end
mutual
theorem SV.gA (ρ E:Nat->Nat):(v:SV)->(v.aH ρ).val E=v.val (fun k=>E (ρ k))
 | .agg cs=>by simp only[SV.aH,SV.val,SV.oB ρ E cs]
 | .aL cs=>by simp only[SV.aH,SV.val,SV.oB ρ E cs]
 | .iface t v=>by simp only[SV.aH,SV.val,SV.gA ρ E v]
 | .func fn a b=>by simp only[SV.aH,SV.val,SV.oB ρ E a,SV.oB ρ E b]
 | .ptr .. =>rfl
 | .jz .. =>rfl
 | .mR .. =>rfl
 | .slc .. =>rfl
 | .bw .. =>rfl
 | .bP .. =>rfl
 | .gu .. =>rfl
 | .map .. =>rfl
 | .yield .. =>rfl
 | .int .. =>rfl
 | .bool .. =>rfl
 | .str .. =>rfl
 | .bD=>rfl
 | .aO=>rfl
 | .aI=>rfl
 | .ee=>rfl
 | .eM=>rfl
 | .raw .. =>rfl
 | .eD .. =>rfl
 | .cn .. =>rfl
 | .lJ .. =>rfl
theorem SV.oB (ρ E:Nat->Nat):(l:List SV)->SV.vals E (SV.iR ρ l)=SV.vals (fun k=>E (ρ k)) l
 | []=>rfl
 | x::r=>by simp only[SV.iR,SV.vals,SV.gA ρ E x,SV.oB ρ E r]
end
theorem SV.kL {ρ:Nat->Nat}: ∀ {l:List SV} {i:Nat} {u:SV},(SV.iR ρ l)[i]?=some u->∃ v,l[i]?=some v/\u=v.aH ρ
 | [],i,u,h=>by simp[SV.iR] at h
 | x::r,0,u,h=>by simp[SV.iR] at h;exact⟨x,rfl,h.symm⟩
 | x::r,i+1,u,h=>by
   simp only[SV.iR,List.getElem?_cons_succ] at h
   obtain⟨v,h1,h2⟩:=SV.kL h
   exact⟨v,by simpa using h1,h2⟩
def Ej (ρ:Nat->Nat):List (Nat×SV×SV)->List (Nat×SV×SV)
 | []=>[]
 | e::r=>(e.1,e.2.1.aH ρ,e.2.2.aH ρ)::Ej ρ r
theorem xR (ρ E:Nat->Nat): ∀ es:List (Nat×SV×SV),b5 E (Ej ρ es)=b5 (fun k=>E (ρ k)) es
 | []=>rfl
 | e::r=>by
   have:=xR ρ E r
   simp only[b5,Ej,List.map_cons] at this ⊢
   rw[SV.gA,SV.gA,this]
def au.aH (ρ:Nat->Nat):au->au
 | .ref k f=>.ref (ρ k) f
 | .cn k w z f n c=>.cn (ρ k) w z f n c
 | c=>c
theorem au.gA (ρ E:Nat->Nat)(c:au)(i:Nat):((c.aH ρ).at i).val E=(c.at i).val E:=by cases c<;>rfl
def au.iR (ρ:Nat->Nat):List au->List au
 | []=>[]
 | c::r=>c.aH ρ::au.iR ρ r
def bU.aH (ρ:Nat->Nat):bU->bU
 | .ref k f=>.ref (ρ k) f
 | c=>c
theorem bU.Ka {ρ:Nat->Nat}{a:Nat}: ∀ {l:List bU},au.iR ρ (l.map (bU.at a))=(l.map (bU.aH ρ)).map (bU.at a)
 | []=>rfl
 | c::r=>by
   simp only[List.map_cons,au.iR,bU.Ka]
   congr 1
   cases c<;>rfl
theorem au.tO {ρ:Nat->Nat}: ∀ {l:List au},(au.iR ρ l).length=l.length
 | []=>rfl
 | c::r=>by simp only[au.iR,List.length_cons,au.tO]
theorem au.kL {ρ:Nat->Nat}: ∀ {l:List au} {k:Nat} {c:au},(au.iR ρ l)[k]?=some c->∃ c0,l[k]?=some c0/\c=c0.aH ρ
 | [],_,_,h=>by cases h
 | x::r,0,_,h=>by simp[au.iR] at h;exact⟨x,rfl,h.symm⟩
 | x::r,k+1,_,h=>by
   simp only[au.iR,List.getElem?_cons_succ] at h
   simpa using au.kL h
theorem au.Oe {ρ E:Nat->Nat}{a:Nat}: ∀ {l:List au} {k:Nat} {v:SV},((au.iR ρ l).map (au.at a))[k]?=some v->∃ u,(l.map (au.at a))[k]?=some u/\v.val E=u.val E:=fun {l k v} h=>by
 rw[List.getElem?_map] at h
 cases hc:(au.iR ρ l)[k]? with
 | none=>rw[hc] at h;cases h
 | some c =>
   rw[hc] at h;injection h with h;subst h
   obtain⟨c0,h1,rfl⟩:=au.kL hc
   exact⟨c0.at a,by rw[List.getElem?_map,h1];rfl,au.gA ρ E c0 a⟩
def aV.aH (ρ:Nat->Nat):aV->aV
 | .ref k f=>.ref (ρ k) f
 | c=>c
theorem aV.gA (ρ:Nat->Nat)(c:aV)(s:List UInt8):(c.aH ρ).val s=c.val s:=by cases c<;>rfl
def SB.aH (ρ:Nat->Nat):SB->SB
 | .cells cs tot ty=>.cells (SV.iR ρ cs) tot ty
 | .rows z n av ro tot ty=>.rows z n (au.iR ρ av) ro tot ty
 | .view z o n av=>.view z o n (au.iR ρ av)
 | .map es c=>.map (Ej ρ es) c
 | .Ec (some k) a b c=>.Ec (some (ρ k)) a b c
 | .iw D cs tot ty ro=>.iw D (au.iR ρ cs) tot ty ro
 | .dI D n av ro=>.dI D n (av.map (bU.aH ρ)) ro
 | .fmap d c p=>.fmap d (c.aH ρ) p
 | B=>B
theorem SB.I7 (ρ:Nat->Nat)(B:SB):(B.aH ρ).ro=B.ro:=by
 cases B<;>try rfl
 rename_i mp _ _ _;cases mp<;>rfl
theorem SB.tg (ρ:Nat->Nat)(B:SB)(b a:Nat):(B.aH ρ).eO b a↔B.eO b a:=by
 cases B<;>try exact Iff.rfl
 rename_i mp _ _ _;cases mp<;>exact Iff.rfl
theorem bn.Kl {ρ E E':Nat->Nat}{z:Bool}{o n:Nat}{av:List au}{ob:Obj}(h:bn E' (.view z o n av) ob):bn E (.view z o n (au.iR ρ av)) ob:=by
 obtain⟨c,ty,fr,h1,h2⟩:=h
 refine⟨c,ty,fr,h1,fun i k col hi hk=> ?_⟩
 obtain⟨c0,g1,rfl⟩:=au.kL hk
 rw[au.tO,au.gA,h2 i k c0 hi g1,SV.val_congr (E:=E) (nx:=0) (fun k hk=>absurd hk (Nat.not_lt_zero _)) _ (au.BV i 0 c0)]
theorem bn.aH {ρ E:Nat->Nat}{B:SB}{a:Nat}{o:Obj}(h:bn (fun k=>E (ρ k)) (B.el a) o):bn E ((B.aH ρ).el a) o:=by
 cases B with
 | cells cs tot ty =>
   obtain⟨c,fr,h1,h2,h3,h4⟩:=h
   refine⟨c,fr,h1,h2,fun i u hu=> ?_,h4⟩
   obtain⟨v,g1,g2⟩:=SV.kL hu
   subst g2
   rw[SV.gA];exact h3 i v g1
 | map es c =>
   have h:o=.map (b5 _ es).toArray c:=h
   show o=.map (b5 E (Ej ρ es)).toArray c
   rw[xR,h]
 | Ec mp a b c =>
   cases mp with
   | none=>exact h
   | some k=>exact h
 | rows z n av ro tot ty =>
   obtain⟨c,fr,h1,h2,h3,h4,h5⟩:=h
   refine⟨c,fr,h1,h2,by rw[au.tO];exact h3,h4,fun i k col hi hk=> ?_⟩
   obtain⟨c0,g1,rfl⟩:=au.kL hk
   rw[au.tO,au.gA,h5 i k c0 hi g1,SV.val_congr (E:=E) (nx:=0) (fun k hk=>absurd hk (Nat.not_lt_zero _)) _ (au.BV i 0 c0)]
 | view z o n av=>exact bn.Kl h
 | loop=>exact h
 | fmap d c p =>
   obtain⟨es,cl,h1,h2⟩:=h
   exact⟨es,cl,h1,⟨h2.st,h2.ks,fun s hs=>by rw[aV.gA];exact h2.has s hs,h2.no,h2.pd⟩⟩
 | iw D cs tot ty ro =>
   obtain⟨c,fr,h1,h2,h3,h4⟩:=h
   refine⟨c,fr,h1,h2,fun i u hu=> ?_,h4⟩
   obtain⟨v,g1,g2⟩:=au.Oe (E:=E) hu
   have hv:v.wf 0=true:=by
    rw[List.getElem?_map] at g1
    cases hc:cs[i]? with
    | none=>rw[hc] at g1;cases g1
    | some c0=>rw[hc] at g1;injection g1 with g1;subst g1;exact au.BV a 0 c0
   rw[h3 i v g1,g2]
   exact congrArg some (SV.val_congr (nx:=0) (fun k hk=>absurd hk (Nat.not_lt_zero _)) v hv)
 | dI D n av ro =>
   have:=bn.Kl (ρ:=ρ) (E:=E) h
   rw[bU.Ka] at this
   exact this
def jv (base:Nat):List SV->List SV->Ren->(Ren->VC)->VC
 | [],[],aH,t=>t aH
 | h::hs,u::us,aH,t=>oW base aH h u (fun aH=>jv base hs us aH t)
 | _,_,_,_=>.fail "call: so many arguments"
theorem gZ {base:Nat}: ∀ {hs us:List SV} {aH:Ren} {t:Ren->VC},(jv base hs us aH t).holds ->
  ∃ ren',aH.le ren'/\(t ren').holds/\∀ ren'' (E:Nat->Nat),ren'.le ren''->SV.vals (Ren.E base ren'' E) hs=SV.vals E us
 | [],[],aH,t,h=>⟨aH,Ren.le_refl _,h,fun _ _ _=>rfl⟩
 | h::hs,u::us,aH,t,hh=>by
   simp only[jv] at hh
   obtain⟨r1,h1,h2,h3⟩:=nG hh
   obtain⟨r2,g1,g2,g3⟩:=gZ h2
   exact⟨r2,Ren.le_trans h1 g1,g2,fun r'' E hle=>by simp only[SV.vals];rw[h3 r'' E (Ren.le_trans g1 hle),g3 r'' E hle]⟩
 | [],_::_,_,_,h=>h.elim
 | _::_,[],_,_,h=>h.elim
theorem cS {base:Nat}{aH:Ren}{kh k1:Nat}{t t':Ren->VC}(ht: ∀ r,(t r).holds->(t' r).holds)(h:(dc base aH kh k1 t).holds):(dc base aH kh k1 t').holds:=by
 unfold dc at h ⊢
 revert h
 cases Nat.blt kh base with
 | true =>
   by_cases e:kh=k1
   ·simp only[if_pos e];exact ht _
   ·simp only[if_neg e];exact id
 | false =>
   cases aH.get kh with
   | none=>exact ht _
   | some k =>
     by_cases e:k=k1
     ·simp only[if_pos e];exact ht _
     ·simp only[if_neg e];exact id
theorem lE {base:Nat}: ∀ {a b:List SV} {aH:Ren} {t t':Ren->VC},(∀ r,(t r).holds->(t' r).holds)->(iz base a b aH t).holds->(iz base a b aH t').holds
 | a,b,aH,t,t',ht,h=>by
   revert h
   unfold iz
   split
   ·exact ht _
   ·exact cS (t:=fun r=>.and (j9 _ _) (iz base _ _ r t)) (fun r h=>And.intro h.1 (lE ht h.2))
   ·exact id
theorem lG {base:Nat}{aH:Ren}{a b:SV}{t t':Ren->VC}(ht: ∀ r,(t r).holds->(t' r).holds):(jq base aH a b t).holds->(jq base aH a b t').holds:=by
 unfold jq
 split<;>first
  | exact ht _
  | exact fun h=>And.intro h.1 (ht _ h.2)
  | exact cS ht
  | exact cS (t:=fun r=>.and (j9 _ _) (t r)) (fun r h=>And.intro h.1 (ht r h.2))
  | exact cS (t:=fun r=>.and (.and _ _) (t r)) (fun r h=>And.intro h.1 (ht r h.2))
  | exact cS (t:=fun r=>.and (.and _ _) (.and _ (t r))) (fun r h=>And.intro h.1 (And.intro h.2.1 (ht r h.2.2)))
  | exact cS (t:=fun r=>.and (j9 _ _) (.and (j9 _ _) (t r))) (fun r h=>And.intro h.1 (And.intro h.2.1 (ht r h.2.2)))
  | (split<;>first
    | exact id
    | exact fun h=>And.intro h.1 (ht _ h.2)
    | exact cS (t:=fun r=>.and (j9 _ _) (t r)) (fun r h=>And.intro h.1 (ht r h.2))
    | exact cS (t:=fun r=>.and (.and _ _) (t r)) (fun r h=>And.intro h.1 (ht r h.2))
    | exact cS (t:=fun r=>.and (.and _ _) (.and _ (t r))) (fun r h=>And.intro h.1 (And.intro h.2.1 (ht r h.2.2)))
    | exact cS (t:=fun r=>.and (j9 _ _) (.and (j9 _ _) (.and (j9 _ _) (.and (j9 _ _) (t r))))) (fun r h=>And.intro h.1 (And.intro h.2.1 (And.intro h.2.2.1 (And.intro h.2.2.2.1 (ht r h.2.2.2.2)))))
    | exact lE (fun _ h=>lE ht h))
theorem fL {base:Nat}: ∀ {a b:List SV} {aH:Ren} {t t':Ren->VC},(∀ r,(t r).holds->(t' r).holds)->(fT base a b aH t).holds->(fT base a b aH t').holds
 | [],[],_,_,_,ht,h=>ht _ h
 | _::_,_::_,_,_,_,ht,h=>lG (fun _ h=>fL ht h) h
 | [],_::_,_,_,_,_,h=>h.elim
 | _::_,[],_,_,_,_,h=>h.elim
theorem vN {base:Nat}{aH:Ren}{a b:SV}{t t':Ren->VC}(ht: ∀ r,(t r).holds->(t' r).holds)(h:(oW base aH a b t).holds):(oW base aH a b t').holds:=by
 unfold oW at h ⊢
 split at h
 ·exact fL ht h
 ·exact fL ht h
 ·split at h
  ·rename_i e
   rw[if_pos e]
   split at h
   ·exact fL ht h
   ·exact lG ht h
  ·exact h.elim
 ·exact lG ht h
theorem qT {base:Nat}: ∀ {a b:List SV} {aH:Ren} {t t':Ren->VC},(∀ r,(t r).holds->(t' r).holds)->(jv base a b aH t).holds->(jv base a b aH t').holds
 | [],[],_,_,_,ht,h=>ht _ h
 | _::_,_::_,_,_,_,ht,h=>vN (fun _ h=>qT ht h) h
 | [],_::_,_,_,_,_,h=>h.elim
 | _::_,[],_,_,_,_,h=>h.elim
theorem fS {base:Nat}{m:Mem}: ∀ {l:List (Nat×SB)} {used:List Nat} {aH:Ren} {t t':Ren->VC},(∀ r,(t r).holds->(t' r).holds)->(dO base m l used aH t).holds->(dO base m l used aH t').holds
 | [],_,_,_,_,ht,h=>ht _ h
 | (k0,B0)::r,used,aH,t,t',ht,h=>by
   simp only[dO] at h ⊢
   revert h
   cases cR base aH k0 with
   | none =>
     cases B0.wf base with
     | true=>cases B0.iA with
       | true=>exact fun h=>And.intro h.1 (fS ht h.2)
       | false=>exact fun h=>And.intro h.1 (fS ht h.2)
     | false=>exact id
   | some k1 =>
     by_cases hu:used.contains k1=true
     ·simp only[if_pos hu];exact id
     ·simp only[if_neg hu]
      cases m.get k1 with
      | none=>exact id
      | some B =>
        cases B0.wf base with
        | true=>exact fun h=>And.intro h.1 (fS ht h.2)
        | false =>
          cases B0<;>try exact id
          cases B<;>try exact id
          rename_i cs' tot' ty' cs tot ty
          by_cases e:ty'=ty
          ·simp only[if_pos e];exact fun h=>And.intro h.1 (fL (fun _ h=>fS ht h) h.2)
          ·simp only[if_neg e];exact id
inductive gB:Type 1 where
 | ret (v:SV) (back:Mem)
 | fork (b:Bool) (f:Bool->gB)
 | all (α:Type) (f:α->gB)
 | req (p:Prop) (a:gB)
def gB.q9 (g:SV->Mem->VC):gB->VC
 | .ret v back=>g v back
 | .fork b f=>Sx.fork b fun c=>(f c).q9 g
 | .all α f=>.all α fun x=>(f x).q9 g
 | .req p a=>.imp p (a.q9 g)
def gB.ask (g:SV->Mem->VC):gB->VC
 | .ret v back=>g v back
 | .fork b f=>Sx.fork b fun c=>(f c).ask g
 | .all α f=>.ex α fun x=>(f x).ask g
 | .req p a=>.and (.atom p) (a.ask g)
theorem gB.meet {g h:SV->Mem->VC}: ∀ {a:gB},(a.ask g).holds->(a.q9 h).holds->∃ v back,(g v back).holds/\(h v back).holds
 | .ret v back,h1,h2=>⟨v,back,h1,h2⟩
 | .fork b f,h1,h2=>by
   simp only[gB.ask,gB.q9,dJ] at h1 h2
   exact gB.meet h1 h2
 | .all α f,⟨x,h1⟩,h2=>gB.meet h1 (h2 x)
 | .req p a,⟨h0,h1⟩,h2=>gB.meet h1 (h2 h0)
theorem gB.jW {g h:SV->Mem->VC}(hg: ∀ v m,(g v m).holds->(h v m).holds): ∀ {a:gB},(a.q9 g).holds->(a.q9 h).holds
 | .ret v back,h1=>hg _ _ h1
 | .fork b f,h1=>by
   simp only[gB.q9,dJ] at h1 ⊢
   exact gB.jW hg h1
 | .all α f,h1=>fun x=>gB.jW hg (h1 x)
 | .req p a,h1=>fun h0=>gB.jW hg (h1 h0)
structure nV where
 G:Type
 n:Nat
 N:Nat
 pre:G->Prop
 args:G->List SV
 mem:G->Mem
 Qx:G->gB
 gh:SV->Mem->List Gh:=fun _ _=>[]
def oP (n:Nat)(aH:Ren)(nx k:Nat):Nat:=match Nat.blt k n,aH.get k with
 | true,some k1=>k1
 | _,_=>nx+k
def AD (ρ:Nat->Nat):Mem->Mem
 | []=>[]
 | e::r=>(ρ e.1,e.2.aH ρ)::AD ρ r
def ku (aH:Ren):Mem->List Nat
 | []=>[]
 | e::r=>match e.2.ro,aH.get e.1 with
   | false,some k1=>k1::ku aH r
   | _,_=>ku aH r
def zc (nx:Nat):Ren->Bool
 | []=>true
 | e::r=>Nat.blt e.2 nx&&zc nx r
def qf (N:Nat):Mem->Bool
 | []=>true
 | e::r=>Nat.blt e.1 N&&(!e.2.ro)&&qf N r
def SV.RH (ρ:Nat->Nat)(v:SV):SV:=match v.wf 0&& !v.hint with
 | true=>v
 | false=>v.aH ρ
theorem SV.EG (ρ E:Nat->Nat)(v:SV):(v.RH ρ).val E=v.val (fun k=>E (ρ k)):=by
 unfold SV.RH
 split
 ·rename_i h;rw[Bool.and_eq_true] at h;exact SV.val_congr (nx:=0) (fun k hk=>absurd hk (Nat.not_lt_zero _)) v h.1
 ·exact SV.gA ρ E v
def SV.JE (ρ:Nat->Nat):List SV->List SV
 | []=>[]
 | v::r=>v.RH ρ::SV.JE ρ r
theorem SV.BB (ρ E:Nat->Nat): ∀ l:List SV,SV.vals E (SV.JE ρ l)=SV.vals (fun k=>E (ρ k)) l
 | []=>rfl
 | v::r=>by simp only[SV.JE,SV.vals,SV.EG,SV.BB ρ E r]
def SV.KM (ρ:Nat->Nat):SV->SV
 | .aL vs=>.aL (SV.JE ρ vs)
 | v=>v.RH ρ
theorem SV.EI (ρ E:Nat->Nat)(v:SV):(v.KM ρ).val E=v.val (fun k=>E (ρ k)):=by
 unfold SV.KM
 split
 ·simp only[SV.val,SV.BB]
 ·exact SV.EG ρ E _
def Uf:SV->SV->Bool
 | .bool true a,.bool true b=>a !=b
 | .int _ true a,.int _ true b=>!decide (a=b)
 | .aI,.iface .. =>true
 | .iface ..,.aI=>true
 | .bD,.ptr .. =>true
 | .ptr ..,.bD=>true
 | _,_=>false
def M7:List SV->List SV->Bool
 | a::r,b::s=>match Uf a b with
   | true=>true
   | false=>M7 r s
 | _,_=>false
def OP:SV->SV->Bool
 | .aL a,.aL b=>M7 a b
 | a,b=>Uf a b
def ig (c:nV):PT:=fun args m nx K=>.ex c.G fun x=>.and (.atom (c.pre x)) (jv 0 (c.args x) args [] fun aH=>dO 0 m (c.mem x) [] aH fun aH=>match zc nx aH with
 | true=>(c.Qx x).q9 fun v back=>(match qf c.N back with
   | true=>K (v.KM (oP c.n aH nx)) (AD (oP c.n aH nx) back++i7 (ku aH (c.mem x)) m) (nx+c.N)
   | false=>.fail "call: blocks that are handed back")
 | false=>.fail "call: keys")
theorem gD (c:nV):aR (ig c):=by
 intro args m nx K K' hK h
 obtain⟨x,h1,h2⟩:=h
 refine⟨x,h1,qT (fun aH h=>fS (fun aH h=> ?_) h) h2⟩
 cases hr:zc nx aH with
 | false=>simp only[hr] at h;exact h.elim
 | true =>
   simp only[hr] at h ⊢
   refine gB.jW (fun v back=> ?_) h
   cases qf c.N back with
   | false=>exact id
   | true=>exact hK _ _ _
def nV.fit (c:nV)(x:c.G):SV->Mem->Nat->VC:=fun v m _=>MS (c.gh v m) [some v] m fun vs m=>match vs with
 | [some v]=>(c.Qx x).ask fun u back=>(match OP u v with
   | true=>.fail "call: another way"
   | false=>jv c.n [u] [v] [] fun aH=>dO c.n m back [] aH fun _=>.tt)
 | _=>.fail "call: no value"
theorem vt {nx:Nat}: ∀ {aH:Ren} {k k1:Nat},zc nx aH=true->aH.get k=some k1->k1<nx
 | [],_,_,_,h=>by cases h
 | e::r,k,k1,hb,h=>by
   simp only[zc,Bool.and_eq_true,Nat.blt_eq] at hb
   by_cases he:e.1=k
   ·rw[Ren.get,if_pos he] at h;injection h with h;subst h;exact hb.1
   ·rw[Ren.get,if_neg he] at h;exact vt hb.2 h
theorem rC {N:Nat}: ∀ {m:Mem} {k:Nat} {B:SB},qf N m=true->m.get k=some B->k<N/\B.ro=false
 | [],_,_,_,h=>by cases h
 | e::r,k,B,hb,h=>by
   simp only[qf,Bool.and_eq_true,Nat.blt_eq,Bool.not_eq_true'] at hb
   by_cases he:e.1=k
   ·rw[Mem.get,if_pos he] at h;injection h with h;subst h;exact⟨he▸ hb.1.1,hb.1.2⟩
   ·rw[Mem.get,if_neg he] at h;exact rC hb.2 h
theorem pg {ks:List Nat}: ∀ {m:Mem} {k:Nat} {B:SB},(i7 ks m).get k=some B->k∉ ks/\m.get k=some B
 | [],_,_,h=>by cases h
 | e::r,k,B,h=>by
   simp only[i7] at h
   cases hc:ks.contains e.1 with
   | true =>
     rw[hc] at h
     obtain⟨h1,h2⟩:=pg h
     refine⟨h1,?_⟩
     rw[Mem.get,if_neg (fun x=>h1 (by rw[← x];simpa using hc))];exact h2
   | false =>
     rw[hc] at h
     by_cases he:e.1=k
     ·simp only[Mem.get,he,if_true] at h ⊢
      refine⟨fun hk=> ?_,h⟩
      have:ks.contains e.1=true:=by rw[he];simpa using hk
      rw[hc] at this;cases this
     ·simp only[Mem.get,he,if_false] at h ⊢
      exact pg h
theorem tj {ρ:Nat->Nat}{m1:Mem}: ∀ {m2:Mem} {j:Nat} {X:SB},(AD ρ m2++m1).get j=some X->(∃ k B,m2.get k=some B/\ρ k=j/\X=B.aH ρ)∨m1.get j=some X
 | [],_,_,h=>.inr h
 | e::r,j,X,h=>by
   simp only[AD,List.cons_append] at h
   rcases Mem.eJ h with ⟨h1,h2⟩ | ⟨hne,h⟩
   ·exact .inl ⟨e.1,e.2,by rw[Mem.get,if_pos rfl],h1.symm,h2⟩
   ·rcases tj h with ⟨k,B,g1,g2,g3⟩ | h
    ·refine .inl ⟨k,B,?_,g2,g3⟩
     rw[Mem.get,if_neg (fun x=>hne (by rw[← g2,x]))];exact g1
    ·exact .inr h
theorem xp {aH:Ren}: ∀ {fm:Mem} {k k1:Nat} {B:SB},fm.get k=some B->B.ro=false->aH.get k=some k1->k1∈ ku aH fm
 | [],_,_,_,h,_,_=>by cases h
 | e::r,k,k1,B,h,hr,hk=>by
   rcases Mem.eJ (k0:=e.1) (B0:=e.2) h with ⟨h1,h2⟩ | ⟨hne,h⟩
   ·subst h1;subst h2
    simp only[ku,hr,hk];exact List.mem_cons_self ..
   ·have:=xp h hr hk
    simp only[ku]
    split
    ·exact List.mem_cons_of_mem _ this
    ·exact this
theorem Kv {aH:Ren}{k:Nat}:cR 0 aH k=aH.get k:=by
 have:Nat.blt k 0=false:=by cases h:Nat.blt k 0 with
  | false=>rfl
  | true=>rw[Nat.blt_eq] at h;omega
 simp[cR,this]
def gE (E:Nat->Nat)(fm:Mem)(b:Nat):Prop:=∃ k B,fm.get k=some B/\B.eO (E k) b/\B.ro=false
theorem aJ.UK {Γ E m nx w}(h:aJ Γ E m nx w){fm:Mem}{n:Nat}{aH:Ren}(hb: ∀ kh B',fm.get kh=some B'->xO 0 m [] aH kh B')
  (hi: ∀ kh kh' B B' k1,fm.get kh=some B->(∃ b a,B.eO b a)->fm.get kh'=some B'->(∃ b a,B'.eO b a)->cR 0 aH kh=some k1->cR 0 aH kh'=some k1->kh=kh') (hlt: ∀ kh B',fm.get kh=some B'->kh<n) :
  ∃ gm,aJ (aY.at w (gE (Ren.E 0 aH E) fm) h.Hi gm) (Ren.E 0 aH E) fm n w:=by
 have hE: ∀ kh k1,cR 0 aH kh=some k1->Ren.E 0 aH E kh=E k1:=fun kh k1 hr=>by simp[Ren.E,hr]
 have hg: ∀ {kh B' a},fm.get kh=some B'->B'.eO (Ren.E 0 aH E kh) a->∃ k1 B,cR 0 aH kh=some k1/\m.get k1=some B/\B.eO (E k1) a/\(∀ E1 o,bn E1 (B.el a) o->bn (Ren.E 0 aH E1) (B'.el a) o)/\(B'.ro=false->B.ro=false):=fun {kh B' a} hg ha=>by
  obtain⟨k1,B,g1,_,g3,g4,g5,g6⟩:=hb kh B' hg _ a ha
  exact⟨k1,B,g1,g3,by rw[← hE kh k1 g1];exact g4,g5,g6⟩
 refine⟨fun p hp ⟨k,B,g1,g2,g3⟩=> ?_,fun kh B' a hk ha=> ?_,fun kh kh' B B' a hk ha hk' ha' hr=> ?_,hlt,fun kh B' a hg hn hro=>.inl ⟨kh,B',hg,hn,hro⟩,Ext.refl _ _,⟨Nat.zero_le _,fun k hk=>absurd hk (Nat.not_lt_zero _)⟩,fun D hD=>by cases hD⟩
 ·obtain⟨k1,X,_,q3,q4,_,q6⟩:=hg g1 g2
  exact h.Kh q3 q4 (q6 g3) p hp rfl
 ·obtain⟨k1,X,_,q3,q4,q5,_⟩:=hg hk ha
  obtain⟨o,ho,hbo⟩:=h.gi k1 X a q3 q4
  exact⟨o,ho,q5 E o hbo⟩
 ·obtain⟨k1,X,g1,g3,g5,_,g7⟩:=hg hk ha
  obtain⟨k1',X',g1',g3',g5',_,g7'⟩:=hg hk' ha'
  have:=h.gk k1 k1' X X' a g3 g5 g3' g5' (hr.imp g7 g7')
  subst this
  exact hi kh kh' B B' k1 hk ⟨_,_,ha⟩ hk' ⟨_,_,ha'⟩ g1 g1'
theorem aJ.told {Γ:aY}(hΓ:Γ.qF=0){E m nx w}(h:aJ Γ E m nx w){n N:Nat}{aH:Ren}{m2:Mem}(hb: ∀ kh B',m2.get kh=some B'->xO n m [] aH kh B')
  (hi: ∀ kh kh' B B' k1,m2.get kh=some B->(∃ b a,B.eO b a)->m2.get kh'=some B'->(∃ b a,B'.eO b a)->cR n aH kh=some k1->cR n aH kh'=some k1->kh=kh') (hlt: ∀ kh B',m2.get kh=some B'->kh<N) :
  aJ Γ (Ren.E n aH E) m2 N w:=by
 have hE: ∀ kh k1,cR n aH kh=some k1->Ren.E n aH E kh=E k1:=fun kh k1 hr=>by simp[Ren.E,hr]
 have hg: ∀ {kh B' a},m2.get kh=some B'->B'.eO (Ren.E n aH E kh) a->∃ k1 B,cR n aH kh=some k1/\m.get k1=some B/\B.eO (E k1) a/\(∀ E1 o,bn E1 (B.el a) o->bn (Ren.E n aH E1) (B'.el a) o)/\(B'.ro=false->B.ro=false):=fun {kh B' a} hg ha=>by
  obtain⟨k1,B,g1,_,g3,g4,g5,g6⟩:=hb kh B' hg _ a ha
  exact⟨k1,B,g1,g3,by rw[← hE kh k1 g1];exact g4,g5,g6⟩
 refine⟨fun kh B' a hk ha=> ?_,fun kh kh' B B' a hk ha hk' ha' hr=> ?_,hlt,fun kh B' a hk ha hro=> ?_,h.ext,⟨by rw[hΓ];exact Nat.zero_le _,fun k hk=>by rw[hΓ] at hk;omega⟩,h.kp⟩
 ·obtain⟨k1,X,_,q3,q4,q5,_⟩:=hg hk ha
  obtain⟨o,ho,hbo⟩:=h.gi k1 X a q3 q4
  exact⟨o,ho,q5 E o hbo⟩
 ·obtain⟨k1,X,g1,g3,g5,_,g7⟩:=hg hk ha
  obtain⟨k1',X',g1',g3',g5',_,g7'⟩:=hg hk' ha'
  have:=h.gk k1 k1' X X' a g3 g5 g3' g5' (hr.imp g7 g7')
  subst this
  exact hi kh kh' B B' k1 hk ⟨_,_,ha⟩ hk' ⟨_,_,ha'⟩ g1 g1'
 ·obtain⟨k1,X,_,g3,g5,_,g7⟩:=hg hk ha
  exact h.gW k1 X a g3 g5 (g7 hro)
def iJ (nx:Nat)(E E2:Nat->Nat)(j:Nat):Nat:=if j<nx then E j else E2 (j - nx)
theorem aJ.back {Γ E m nx w}(h:aJ Γ E m nx w)(hw:Mem.wf nx m=true){fm:Mem}{n N:Nat}{aH:Ren}(hb: ∀ kh B',fm.get kh=some B'->xO 0 m [] aH kh B')(hrl:zc nx aH=true)
  {E2:Nat->Nat} {m2:Mem} {w':World} {gl gm} (h2:aJ (aY.at w (gE (Ren.E 0 aH E) fm) gl gm) E2 m2 N w') (hE2: ∀ k,k<n->E2 k=Ren.E 0 aH E k) (hro: ∀ k B,m2.get k=some B->B.ro=false) :
  (∀ k,iJ nx E E2 (oP n aH nx k)=E2 k) /\
  aJ Γ (iJ nx E E2) (AD (oP n aH nx) m2++i7 (ku aH fm) m) (nx+N) w':=by
 have hρ: ∀ k,iJ nx E E2 (oP n aH nx k)=E2 k:=fun k=>by
  unfold oP iJ
  split
  ·rename_i k1 hk hg
   have:=vt hrl hg
   simp only[this,if_true]
   rw[hE2 k (by simpa [Nat.blt_eq] using hk)]
   simp[Ren.E,Kv,hg]
  ·simp only[show ¬ nx+k<nx by omega,if_false,Nat.add_sub_cancel_left]
 refine⟨hρ,?_⟩
 have hMa: ∀ b,gE (Ren.E 0 aH E) fm b->∃ k1 X,k1∈ ku aH fm/\m.get k1=some X/\X.eO (E k1) b/\X.ro=false:=fun b ⟨k,B,g1,g2,g3⟩=>by
  obtain⟨k1,X,q1,_,q3,q4,_,q6⟩:=hb k B g1 _ b g2
  refine⟨k1,X,xp g1 g3 (by rw[← Kv];exact q1),q3,?_,q6 g3⟩
  have:Ren.E 0 aH E k=E k1:=by simp[Ren.E,q1]
  rw[← this];exact q4
 have hx:Sx.Ext (gE (Ren.E 0 aH E) fm) w w':=h2.ext
 have hEo: ∀ j,j<nx->iJ nx E E2 j=E j:=fun j hj=>by simp[iJ,hj]
 have old: ∀ {j X},(i7 (ku aH fm) m).get j=some X->j<nx/\m.get j=some X/\∀ a,X.eO (E j) a->¬ gE (Ren.E 0 aH E) fm a:=fun {j X} hj=>by
  obtain⟨h1,h3⟩:=pg hj
  refine⟨h.lt _ _ h3,h3,fun a ha hm=> ?_⟩
  obtain⟨k1,Y,q1,q2,q3,q4⟩:=hMa _ hm
  have:=h.gk j k1 X Y a h3 ha q2 q3 (.inr q4)
  subst this
  exact h1 q1
 have hg: ∀ {j X a},(AD (oP n aH nx) m2++i7 (ku aH fm) m).get j=some X->X.eO (iJ nx E E2 j) a ->
   (∃ k B,m2.get k=some B/\oP n aH nx k=j/\X=B.aH (oP n aH nx)/\B.eO (E2 k) a/\(gE (Ren.E 0 aH E) fm a∨w.heap.size<=a))∨((i7 (ku aH fm) m).get j=some X/\X.eO (E j) a/\a<w.heap.size/\¬ gE (Ren.E 0 aH E) fm a):=fun {j X a} hj ha=>by
  rcases tj hj with ⟨k,B,g1,g2,g3⟩ | hj
  ·subst g3
   rw[SB.tg,← g2,hρ] at ha
   exact .inl ⟨k,B,g1,g2,rfl,ha,h2.gW k B a g1 ha (hro k B g1)⟩
  ·obtain⟨q1,q2,q3⟩:=old hj
   rw[hEo j q1] at ha
   exact .inr ⟨hj,ha,h.Rz q2 ha,q3 a ha⟩
 refine⟨fun j X a hj ha=> ?_,fun j j' X X' a hj ha hj' ha' hr=> ?_,fun j X hj=> ?_,fun j X a hj ha hr=> ?_,⟨hx.os.trans h.ext.os,hx.tape.trans h.ext.tape,hx.output.trans h.ext.output,Nat.le_trans h.ext.size hx.size,fun i hi hm=>(hx.block i (Nat.lt_of_lt_of_le hi h.ext.size) (fun hmi=> ?_)).trans (h.ext.block i hi hm)⟩,
  ⟨Nat.le_trans h.cx.1 (Nat.le_add_right _ _),fun k hk=>(hEo k (Nat.lt_of_lt_of_le hk h.cx.1)).trans (h.cx.2 k hk)⟩,fun D hD=> ?_⟩
 ·rcases hg hj ha with ⟨k,B,g1,g2,rfl,g4,_⟩ | ⟨hj,ha,hl,hm⟩
  ·obtain⟨o,ho,hbo⟩:=h2.gi k B a g1 g4
   refine⟨o,ho,bn.aH ?_⟩
   have:(fun k=>iJ nx E E2 (oP n aH nx k))=E2:=funext hρ
   rw[this];exact hbo
  ·obtain⟨q1,q2,_⟩:=old hj
   obtain⟨o,ho,hbo⟩:=h.gi j X a q2 ha
   exact⟨o,by rw[hx.block _ hl hm];exact ho,hbo.congr hEo (SB.FC (Mem.CR hw q2) a)⟩
 ·rcases hg hj ha with ⟨k,B,g1,g2,g3,g4,g5⟩ | ⟨hj,ha,hl,hm⟩<;>rcases hg hj' ha' with ⟨k',B',g1',g2',g3',g4',g5'⟩ | ⟨hj',ha',hl',hm'⟩
  ·rw[← g2,← g2',h2.gk k k' B B' a g1 g4 g1' g4' (.inl (hro k B g1))]
  ·rcases g5 with g5 | g5
   ·exact absurd g5 hm'
   ·omega
  ·rcases g5' with g5 | g5
   ·exact absurd g5 hm
   ·omega
  ·exact h.gk j j' X X' a (old hj).2.1 ha (old hj').2.1 ha' hr
 ·rcases tj hj with ⟨k,B,g1,g2,_⟩ | hj
  ·rw[← g2]
   unfold oP
   split
   ·rename_i hk;have:=vt hrl hk;omega
   ·have:=h2.lt k B g1;omega
  ·have:=(old hj).1;omega
 ·rcases hg hj ha with ⟨k,B,_,_,_,_,g5⟩ | ⟨hj,ha,_,_⟩
  ·rcases g5 with g5 | g5
   ·obtain⟨k1,Y,_,q2,q3,q4⟩:=hMa _ g5
    exact h.gW k1 Y a q2 q3 q4
   ·exact .inr (Nat.le_trans h.ext.size g5)
  ·exact h.gW j X a (old hj).2.1 ha hr
 ·obtain⟨k1,Y,_,q2,q3,q4⟩:=hMa _ hmi
  rcases h.gW k1 Y i q2 q3 q4 with h' | h'
  ·exact hm h'
  ·omega
 ·have hd:=h.kp D hD
  rw[hx.block _ (Array.getElem?_eq_some_iff.1 hd).1 (fun hmD=> ?_)]
  ·exact hd
  ·obtain⟨k1,Y,_,q2,q3,q4⟩:=hMa _ hmD
   obtain⟨o,ho,hbo⟩:=h.gi k1 Y D q2 q3
   rw[hd] at ho
   exact hbo.je _ (Option.some.inj ho).symm
def J' (n:Nat):Mem->Bool
 | []=>true
 | e::r=>Nat.blt e.1 n&&J' n r
theorem BS {n:Nat}: ∀ {m:Mem} {k:Nat} {B:SB},J' n m=true->m.get k=some B->k<n
 | [],_,_,_,h=>by cases h
 | e::r,k,B,hb,h=>by
   simp only[J',Bool.and_eq_true,Nat.blt_eq] at hb
   by_cases he:e.1=k
   ·exact he▸ hb.1
   ·rw[Mem.get,if_neg he] at h;exact BS hb.2 h
def nV.ok (c:nV)(x:c.G):Bool:=J' c.n (c.mem x)&&Mem.wf c.n (c.mem x)&&SV.ep c.n (c.args x)
theorem n7 {P:Program}{f:FuncId}{fn:Func}(hf:P.funcs[f]?=some fn) (hn:(fn.name== "runtime.NumGoroutine")=false) (hb:fn.body.isSome=true) {n:Nat} (c:nV)
  (h: ∀ x,c.pre x->∃ cfg,Good P cfg/\c.ok x=true/\aA (dR P (calling P cfg n) [] vL (cfg.br f) cfg.rounds fn (c.args x) (c.mem x) c.n (c.fit x))):aB P f (ig c):=by
 intro args m nx K hk hwf hargs Γ E w hs
 obtain⟨x,hpre,hk⟩:=hk
 obtain⟨cfg,hgood,hok,hrun⟩:=h x hpre
 simp only[nV.ok,Bool.and_eq_true] at hok
 obtain⟨⟨hlt,hwm⟩,hwa⟩:=hok
 obtain⟨ren1,_,hk1,ha⟩:=gZ hk
 obtain⟨aH,hle,hk2,hm⟩:=eA hk1
 obtain⟨hb0,hi⟩:=hm aH (Ren.le_refl _)
 revert hk2
 cases hrl:zc nx aH with
 | false=>exact fun h=>h.elim
 | true =>
   intro hk2
   obtain⟨gm,hform⟩:=hs.UK hb0 hi (fun kh B' hg=>BS hlt hg)
   have hc:=de hgood hf hn hb hrun hwm hwa hform
   rw[ha aH E hle] at hc
   refine dZ hf hn hb (hc.mono ?_)
   rintro e w' ⟨v,rfl,E1,u,m1,nx1,g1,g2,g3,g4,g5⟩
   refine⟨v,rfl,?_⟩
   cases u with
   | none=>exact g5.elim
   | some u' =>
     obtain⟨ts,m2,ht,g4,g5⟩:=l9 g5 g4
     split at g5
     case h_2=>exact g5.elim
     rename_i u
     have g3: ∀ z,some u=some z->v=z.val E1:=fun z hz=>by
      injection hz with hz;subst hz
      obtain⟨v0,q1,q2,_⟩:=ht.get 0 u rfl
      simp at q1;subst q1
      rw[g3 _ rfl,q2]
     obtain⟨u0,back,y2,hk3⟩:=gB.meet g5 hk2
     revert y2
     cases OP u0 u with
     | true=>exact fun h=>h.elim
     | false =>
     intro y2
     obtain⟨r1,_,z1,za⟩:=gZ y2
     obtain⟨r2,hle2,_,zm⟩:=eA z1
     obtain⟨zb,zi⟩:=zm r2 (Ren.le_refl _)
     revert hk3
     cases hbk:qf c.N back with
     | false=>exact fun h=>h.elim
     | true =>
       intro hk3
       have ht:=g4.told rfl zb zi (fun kh B' h=>(rC hbk h).1)
       have hE2: ∀ k,k<c.n->Ren.E c.n r2 E1 k=Ren.E 0 aH E k:=fun k hk=>(Ren.vZ hk).trans (g1 k hk)
       obtain⟨hρ,hfin⟩:=hs.back hwf hb0 hrl ht hE2 (fun k B h=>(rC hbk h).2)
       refine⟨_,some (u0.KM (oP c.n aH nx)),_,_,fun k hk=>by simp[iJ,hk],Nat.le_add_right _ _,fun z hz=> ?_,hfin,hk3⟩
       injection hz with hz;subst hz
       rw[SV.EI,show(fun k=>iJ nx E (Ren.E c.n r2 E1) (oP c.n aH nx k))=Ren.E c.n r2 E1 from funext hρ,g3 u rfl]
       have:=za r2 E1 hle2
       simp only[SV.vals,List.cons.injEq,and_true] at this
       exact this.symm
end
end Go.Proofs.YtoibaecagklkaaaGreatDoor.Sx
namespace Go.Proofs.YtoibaecagklkaaaGreatDoor
open Go Sx
set_option maxRecDepth 20000
structure Wy where
 root:List UInt8
 n:Nat
 f:Nat->List UInt8
 z:Bool
 o:Nat
 c:Nat
 u:Nat
def Wy.sb (w:Wy)(key u:Nat)(e:SV):SB:=.cells [.str false w.root,.bP key 1 w.z w.o 0 w.n w.c,.int .i64 false u,e] 4 188
def Wy.view (w:Wy):SB:=.view w.z w.o w.n [.str w.f]
structure Wy.Ok (w:Wy):Prop where
 n:w.n<=200
 f: ∀ i,i<w.n->(w.f i).length<=1000
 u:w.u<=w.n
def fN (w:Wy)(h:List UInt8):Bool:=decide ((w.u:Int)<(w.n:Int))&&(decide (cL (w.f w.u)=h)&&bG (w.f w.u))
def Wo (u:Nat):SB:=.cells [.int .i64 false u,.iface 30 (.int .i64 true 10)] 2 186
def Ve (k:Nat):SV:=.iface 184 (.ptr k true 0)
def Vj (w:Wy):gB:=.ret (.aL [dg,.bool true false]) [(0,w.sb 1 w.u (Ve 2)),(2,Wo w.u)]
def Xd (w:Wy)(h:List UInt8):gB:=.fork (fN w h) fun b=>match b with
 | true=>.ret (.aL [(getD (w.f w.u)).sv,.bool true true]) [(0,w.sb 1 (w.u+1) .aI)]
 | false=>Vj w
def XB (q:List UInt8->Prop)(Qx:Wy->List UInt8->gB):nV :=
 {G:=Wy×List UInt8,n:=2,N:=3,pre:=fun x=>x.1.Ok/\q x.2,args:=fun x=>[.ptr 0 true 0,.str false x.2],mem:=fun x=>[(0,x.1.sb 1 x.1.u .aI),(1,x.1.view)],Qx:=fun x=>Qx x.1 x.2}
def Eg:nV:=XB (fun _=>True) Xd
noncomputable def runM (cfg:ff)(f:Nat)(fn:Func)(c:nV)(x:c.G):VC:=dR Tryz.prog (calling Tryz.prog cfg 20) [] vL (cfg.br f) cfg.rounds fn (c.args x) (c.mem x) c.n (c.fit x)
def preB (p s:List UInt8):Bool:=decide (p.length<=s.length)&&decide (s.take p.length=p)
def Nd.again (x:Nd):Nd:={k:=x.k,p:=x.p,v:=x.v,r:=fun(i:Nat)=>[x.r 0,x.r 1,x.r 2,x.r 3,x.r 4,x.r 5,x.r 6,x.r 7,x.r 8,x.r 9,x.r 10,x.r 11,x.r 12,x.r 13,x.r 14,x.r 15].getD i []}
def fj (x:Nd):List SV:=.int .i64 false x.k::.str false x.p::.str false x.v::Ft x.r
def zeroCells:List SV:=[.int .i64 true 0,.str true [],.str true [],.str true [],.str true [],.str true [],.str true [],.str true [],.str true [],.str true [],.str true [],.str true [],.str true [],.str true [],.str true [],.str true [],.str true [],.str true [],.str true []]
theorem Nt (x:Wy×List UInt8):VC.holds (runM vW 157 Tryz.f157 Eg x)=((fun P0:SV=>((fun P1:SB=>(((decide ((x.fst.n:Int)<=(x.fst.u:Int))=true->(fN x.fst x.snd=true->False)/\(fN x.fst x.snd=false->(∀(u5:Nat->Nat),SV.val u5 P0=SV.val u5 dg)/\false=false/\(4:Nat)=(4:Nat)/\x.fst.root=x.fst.root/\(x.fst.z=x.fst.z/\x.fst.o=x.fst.o/\(0:Nat)=(0:Nat)/\x.fst.n=x.fst.n/\x.fst.c=x.fst.c)/\(x.fst.u:Int)=(x.fst.u:Int)/\(0:Nat)=(0:Nat)/\ah P1 P1/\True))/\(decide ((x.fst.n:Int)<=(x.fst.u:Int))=false->(0<=(x.fst.u:Int)/\(x.fst.u:Int)<(x.fst.n:Int))/\(x.fst.o=x.fst.o/\0+(x.fst.u:Int).toNat<x.fst.n)/\(True/\Gq [x.fst.f (0+(x.fst.u:Int).toNat)])/\((!decide (cL (flat [x.fst.f (0+(x.fst.u:Int).toNat)])=x.snd))=true->(fN x.fst x.snd=true->False)/\(fN x.fst x.snd=false->(∀(u4:Nat->Nat),SV.val u4 P0=SV.val u4 dg)/\false=false/\(4:Nat)=(4:Nat)/\x.fst.root=x.fst.root/\(x.fst.z=x.fst.z/\x.fst.o=x.fst.o/\(0:Nat)=(0:Nat)/\x.fst.n=x.fst.n/\x.fst.c=x.fst.c)/\(x.fst.u:Int)=(x.fst.u:Int)/\(0:Nat)=(0:Nat)/\ah P1 P1/\True))/\((!decide (cL (flat [x.fst.f (0+(x.fst.u:Int).toNat)])=x.snd))=false ->(0<=(x.fst.u:Int)/\(x.fst.u:Int)<(x.fst.n:Int))/\(x.fst.o=x.fst.o/\0+(x.fst.u:Int).toNat<x.fst.n)/\(((x.fst.f (0+(x.fst.u:Int).toNat)).length<=9223372036854775808/\(x.fst.f (0+(x.fst.u:Int).toNat)).length<1099511627776)/\(bG (x.fst.f (0+(x.fst.u:Int).toNat))=true->some x.fst.view=some x.fst.view/\some (x.fst.sb 1 x.fst.u SV.aI)=some (x.fst.sb 1 x.fst.u SV.aI)/\some (x.fst.sb 1 x.fst.u SV.aI)=some (x.fst.sb 1 x.fst.u SV.aI)/\((-9223372036854775808:Int)<=(x.fst.u:Int)+1/\(x.fst.u:Int)+1<=(9223372036854775807:Int))/\(fN x.fst x.snd=true->(∀(u3:Nat->Nat),SV.val u3 (SV.agg (fj (getD (x.fst.f (0+(x.fst.u:Int).toNat)))))=SV.val u3 (getD (x.fst.f x.fst.u)).sv)/\true=true/\ah (SB.cells [SV.str false x.fst.root,SV.bP 1 1 x.fst.z x.fst.o 0 x.fst.n x.fst.c,SV.int .i64 false ((x.fst.u:Int)+1),SV.aI] 4 188) (SB.cells [SV.str false x.fst.root,SV.bP 1 1 x.fst.z x.fst.o 0 x.fst.n x.fst.c,SV.int .i64 false (↑(x.fst.u+1):Int),SV.aI] 4 188)/\True)/\(fN x.fst x.snd=false->False))/\(bG (x.fst.f (0+(x.fst.u:Int).toNat))=false ->some x.fst.view=some x.fst.view/\some (x.fst.sb 1 x.fst.u SV.aI)=some (x.fst.sb 1 x.fst.u SV.aI)/\some (x.fst.sb 1 x.fst.u SV.aI)=some (x.fst.sb 1 x.fst.u SV.aI)/\(fN x.fst x.snd=true->False)/\(fN x.fst x.snd=false->(∀(u2:Nat->Nat),SV.val u2 P0=SV.val u2 dg)/\false=false/\(4:Nat)=(4:Nat)/\x.fst.root=x.fst.root/\(x.fst.z=x.fst.z/\x.fst.o=x.fst.o/\(0:Nat)=(0:Nat)/\x.fst.n=x.fst.n/\x.fst.c=x.fst.c)/\(x.fst.u:Int)=(x.fst.u:Int)/\(0:Nat)=(0:Nat)/\ah P1 P1/\True)))/\some x.fst.view=some x.fst.view/\some (x.fst.sb 1 x.fst.u SV.aI)=some (x.fst.sb 1 x.fst.u SV.aI)/\some (x.fst.sb 1 x.fst.u SV.aI)=some (x.fst.sb 1 x.fst.u SV.aI)/\((x.fst.f (0+(x.fst.u:Int).toNat)).length<=9223372036854775808/\(x.fst.f (0+(x.fst.u:Int).toNat)).length<1099511627776)/\(bG (x.fst.f (0+(x.fst.u:Int).toNat))=true->((-9223372036854775808:Int)<=(x.fst.u:Int)+1/\(x.fst.u:Int)+1<=(9223372036854775807:Int))/\(fN x.fst x.snd=true->(∀(u1:Nat ->Nat),SV.val u1 (SV.agg (fj (getD (x.fst.f (0+(x.fst.u:Int).toNat)))))=SV.val u1 (getD (x.fst.f x.fst.u)).sv)/\true=true/\ah (SB.cells [SV.str false x.fst.root,SV.bP 1 1 x.fst.z x.fst.o 0 x.fst.n x.fst.c,SV.int .i64 false ((x.fst.u:Int)+1),SV.aI] 4 188) (SB.cells [SV.str false x.fst.root,SV.bP 1 1 x.fst.z x.fst.o 0 x.fst.n x.fst.c,SV.int .i64 false (↑(x.fst.u+1):Int),SV.aI] 4 188)/\True)/\(fN x.fst x.snd=false->False))/\(bG (x.fst.f (0+(x.fst.u:Int).toNat))=false->(fN x.fst x.snd=true->False)/\(fN x.fst x.snd=false->(∀(u0:Nat->Nat),SV.val u0 P0=SV.val u0 dg)/\false=false/\(4:Nat)=(4:Nat)/\x.fst.root=x.fst.root/\(x.fst.z=x.fst.z/\x.fst.o=x.fst.o/\(0:Nat)=(0:Nat)/\x.fst.n=x.fst.n/\x.fst.c=x.fst.c)/\(x.fst.u:Int)=(x.fst.u:Int)/\(0:Nat)=(0:Nat)/\ah P1 P1/\True))))))) (SB.cells [SV.int .i64 false (x.fst.u:Int),SV.iface 30 (SV.int .i64 true 10)] 2 186))) (SV.agg [SV.int .i64 true 0,SV.str true [],SV.str true [],SV.str true [],SV.str true [],SV.str true [],SV.str true [],SV.str true [],SV.str true [],SV.str true [],SV.str true [],SV.str true [],SV.str true [],SV.str true [],SV.str true [],SV.str true [],SV.str true [],SV.str true [],SV.str true []])):=by kernel_rfl
theorem mE (a:List UInt8):flat [a]=a:=by simp[flat]
theorem Uv {a:List UInt8}(h:a.length<=1099511627776):Gq [a]:=⟨by rw[mE];omega,by simp⟩
attribute [local irreducible] cL bG getD
theorem H7 {x:Wy×List UInt8}(h:x.1.Ok):aA (runM vW 157 Tryz.f157 Eg x):=by
 refine aA.of_eq (Nt x) ?_
 dsimp only
 obtain⟨w,t⟩:=x
 have h:w.Ok:=h
 have hu:=h.u
 have hn:=h.n
 simp only[Int.toNat_natCast,Nat.zero_add,mE]
 by_cases h1:(w.u:Int)<w.n
 ·have hf:=h.f w.u (by omega)
  have d1:decide ((w.n:Int)<=w.u)=false:=decide_eq_false (by omega)
  have hq:Gq [w.f w.u]:=Uv (by omega)
  cases h2:decide (cL (w.f w.u)=t)<;>cases h3:bG (w.f w.u)
  all_goals
   have ht:fN w t=(decide ((w.u:Int)<w.n)&&(decide (cL (w.f w.u)=t)&&bG (w.f w.u))):=rfl
   rw[decide_eq_true h1,h2,h3] at ht
   simp only[d1,ht,Bool.not_true,Bool.not_false,Bool.and_false,Bool.and_true,Bool.false_eq_true,Bool.true_eq_false,false_imp_iff,forall_const,true_and,and_true,hq]
   repeat' first
    | omega
    | exact ah.refl _
    | refine And.intro ?_ ?_
    | exact fun _=>rfl
    | rfl
    | exact trivial
    | fail
 ·have d1:decide ((w.n:Int)<=w.u)=true:=decide_eq_true (by omega)
  have ht:fN w t=false:=by rw[fN,decide_eq_false h1];rfl
  simp only[d1,ht,Bool.false_eq_true,Bool.true_eq_false,false_imp_iff,forall_const,true_and,and_true]
  repeat' first
   | omega
   | exact ah.refl _
   | refine And.intro ?_ ?_
   | exact fun _=>rfl
   | rfl
   | exact trivial
   | fail
theorem SH:aB Tryz.prog 157 (ig Eg) :=
 n7 (n:=20) (fn:=Tryz.f157) Tryz.func157 (by kernel_rfl) (by kernel_rfl) Eg fun x hx=>⟨vW,Dd,rfl,H7 hx.1⟩
noncomputable def KC:List (FuncId×PT):=(157,ig Eg)::(151,cE pE)::ya
theorem IZ:bl Tryz.prog (fun f=>aG f KC):=.cons SH (gD _) (.cons DD (cj _) qj)
end Go.Proofs.YtoibaecagklkaaaGreatDoor
namespace Go.Proofs.YtoibaecagklkaaaGreatDoor
open Go Sx
set_option maxRecDepth 20000
section
attribute [local irreducible] cL bG getD bO bI aa fN
end
def Wy.on (w:Wy)(u:Nat):Wy:={w with u:=u}
structure Wh where
 y:Nd
 p:List UInt8
 u:Nat
 b:Bool
 v:List UInt8
def Nd.Good (x:Nd):Prop:=(x.k=2->x.p≠[])/\Fits x
def Pe (st:Sx.St)(i:Nat):Nat:=match slot st.tmps i with
 | some (.ptr k _ _)=>k
 | _=>0
theorem uh {s:List UInt8}(h:bG s=true):aS (getD s)=true:=by
 unfold bG AM at h
 simp only[Bool.and_eq_true] at h
 exact h.2.1
theorem KK {t:List UInt8}(h:bO t=true):aS (getD t)=true:=by
 rw[uK,Bool.and_eq_true,Bool.and_eq_true] at h
 exact uh h.2.1
end Go.Proofs.YtoibaecagklkaaaGreatDoor
namespace Go.Proofs.YtoibaecagklkaaaGreatDoor
open Go Sx
set_option maxRecDepth 20000
structure Sp where
 fr:List UInt8
 to:List UInt8
 n:Nat
 f:Nat->List UInt8
 z:Bool
 o:Nat
 c:Nat
 ad:List UInt8->Bool
 ag:List UInt8->Int
structure Sp.Ok (w:Sp):Prop where
 n:w.n<=200
 f: ∀ i,i<w.n->(w.f i).length<=1000
 a: ∀ h,w.ad h=true->0<=w.ag h/\w.ag h<w.n
 fr:w.fr.length<=1000
 to:w.to.length<=1000
structure Wk where
 ud:List UInt8->Bool
 us:List UInt8->Int
 ns:List (List UInt8)
 lk:Nat
 fs:List (List UInt8×List UInt8)
def Wk.used (s:Wk)(h:List UInt8):Int:=dflt (s.ud h) (s.us h)
structure Wk.Small (s:Wk):Prop where
 u: ∀ h,0<=s.used h/\s.used h<=1000
 ns:s.ns.length<=1000
 lk:s.lk<=1000
 fs:s.fs.length<=1000
def Sp.at (w:Sp)(h:List UInt8):List UInt8:=w.f (w.ag h).toNat
def cT (w:Sp)(h:List UInt8):Bool:=w.ad h&&bG (w.at h)
def Wk.take (w:Sp)(s:Wk)(h:List UInt8):Wk:={s with ud:=gd s.ud h,us:=kK s.us h (s.used h+1),ns:=if s.used h=0 then s.ns++[w.at h] else s.ns}
def qU (l:List (List UInt8)):au:=.str fun i=>l.getD i []
def b8 (l:List (List UInt8×List UInt8)):au:=.str fun i=>(l.getD i ([],[])).1
def b6 (l:List (List UInt8×List UInt8)):au:=.str fun i=>(l.getD i ([],[])).2
def GO (w:Sp)(s:Wk)(kn kf c1 c2:Nat):SB:=.cells [.str false w.fr,.str false w.to,.func (.func 50) [] [.ptr 4 true 0,.ptr 6 true 0],.map 1,.bw kn 1 true 0 s.ns.length c1,.int .i64 false s.lk,.bw kf 2 true 0 s.fs.length c2] 7 92
def fV (s:Wk):SB:=.fmap s.ud (.int .i64 s.us) none
def fy (s:Wk)(c1:Nat):SB:=.rows true s.ns.length [qU s.ns] false (c1*1) 9
def fU (s:Wk)(c2:Nat):SB:=.rows true s.fs.length [b8 s.fs,b6 s.fs] false (c2*2) 50
def Sp.own (w:Sp):Mem:=[(4,.cells [.map 5] 1 90),(5,.fmap w.ad (.int .i64 w.ag) none),(6,.cells [.bP 7 1 w.z w.o 0 w.n w.c] 1 29)]
def Sp.view (w:Sp):SB:=.view w.z w.o w.n [.str w.f]
structure wz where
 w:Sp
 s:Wk
 c1:Nat
 c2:Nat
def wz.mem (g:wz):Mem:=[(0,GO g.w g.s 2 3 g.c1 g.c2),(1,fV g.s),(2,fy g.s g.c1),(3,fU g.s g.c2)]++g.w.own++[(7,g.w.view)]
def Sp.back (w:Sp)(s:Wk)(c1 c2:Nat):Mem:=[(0,GO w s 8 9 c1 c2),(1,fV s),(8,fy s c1),(9,fU s c2)]++w.own
def Ul (v:SV)(w:Sp)(s:Wk):gB:=.all (Nat×Nat) fun c=>.req (s.ns.length<=c.1/\s.fs.length<=c.2) (.ret v (w.back s c.1 c.2))
def IE (f:SV->SV):gB:=.all (List UInt8×List UInt8) fun y=>.ret (f (.iface 87 (.ptr 10 true 0))) [(10,.cells [.str false y.1,.str false y.2] 2 207)]
def XG (A:Type)(args:A->List SV)(pre:wz->A->Prop)(Qx:wz->A->gB):nV :=
 {G:=wz×A,n:=8,N:=11,pre:=fun x=>x.1.w.Ok/\x.1.s.Small/\(x.1.s.ns.length<=x.1.c1/\x.1.s.fs.length<=x.1.c2)/\pre x.1 x.2,args:=fun x=>.ptr 0 true 0::args x.2,mem:=fun x=>x.1.mem,Qx:=fun x=>Qx x.1 x.2}
def JT (g:wz)(h:List UInt8):gB:=.fork (cT g.w h) fun b=>match b with
 | true=>Ul (.aL [(getD (g.w.at h)).sv,.aI]) g.w (g.s.take g.w h)
 | false=>IE fun v=>.aL [dg,v]
def tQ:nV:=XG (List UInt8) (fun h=>[.str false h]) (fun _ _=>True) JT
def Mw (g:wz)(t:List UInt8):gB:=.fork (bO t) fun b=>match b with
 | true=>Ul (.aL [(getD t).sv,.aI]) g.w g.s
 | false=>.fork (bI t) fun b=>match b with
   | true=>JT g (aa t)
   | false=>IE fun v=>.aL [dg,v]
def mM:nV:=XG (List UInt8) (fun t=>[.str false t]) (fun _ t=>t.length<9223372036854775808) Mw
def hasB (fr to p:List UInt8):Bool:=!Op.bytesLess p (az fr)&&(Op.bytesLess p (az to)||decide (p=az to))
def dS (fr to p:List UInt8):Bool:=(Op.bytesLess p (az to)||decide (p=az to))&&(!Op.bytesLess p (az fr)||preB p (az fr))
def nU (p:List UInt8):Bool:=decide ((p.length:Int)% 2=0)&&fB p
def MZ (p:List UInt8):c6:=.fork (nU p) fun b=>match b with
 | true=>.ret (.aL [.str false (bF p),.bool true true])
 | false=>.ret (.aL [.str true [],.bool true false])
def Cs:List SV->Option (Prop×SV)
 | [.agg [.str false fr,.str false to],.str false p]=>some (fr.length<=1000/\to.length<=1000,.bool false (hasB fr to p))
 | _=>none
def uY:List SV->Option (Prop×SV)
 | [.agg [.str false fr,.str false to],.str false p]=>some (fr.length<=1000/\to.length<=1000,.bool false (dS fr to p))
 | _=>none
def zY:List SV->Option (Prop×c6)
 | [.str false p]=>some (p.length<1099511627776,MZ p)
 | _=>none
noncomputable def jA:List (FuncId×PT):=(58,aU pJ)::(170,aU nr)::KC
theorem eG:bl Tryz.prog (fun f=>aG f jA):=.cons Gs (aN _) (.cons BR (aN _) IZ)
noncomputable def qV:ff:={cg with cI:=fun f=>aG f jA}
theorem CX:Sx.Good Tryz.prog qV:=.of bS eG bt
theorem TH (fr to p:List UInt8):VC.holds (fW qV 43 Tryz.f43 [.agg [.str false fr,.str false to],.str false p] (.ret (.bool false (hasB fr to p))))=((fr.length<1099511627776/\((!Op.bytesLess p (az fr))=true->to.length<1099511627776/\af (SV.bool (false&&false) (Op.bytesLess p (az to)||decide (p=az to))) (SV.bool false (hasB fr to p)))/\((!Op.bytesLess p (az fr))=false->af (SV.bool true false) (SV.bool false (hasB fr to p))))):=by kernel_rfl
theorem Mc (fr to p:List UInt8):VC.holds (fW qV 42 Tryz.f42 [.agg [.str false fr,.str false to],.str false p] (.ret (.bool false (dS fr to p))))=((to.length<1099511627776/\((!(Op.bytesLess p (az to)||decide (p=az to)))=true->af (SV.bool true false) (SV.bool false (dS fr to p)))/\((!(Op.bytesLess p (az to)||decide (p=az to)))=false->fr.length<1099511627776/\((!Op.bytesLess p (az fr))=true->af (SV.bool true true) (SV.bool false (dS fr to p)))/\((!Op.bytesLess p (az fr))=false->(decide ((p.length:Int)<=(↑(az fr).length:Int))=true->((0:Int)<=(0:Int)/\0<=(p.length:Int)/\(p.length:Int)<=(↑(az fr).length:Int))/\af (SV.bool (false&&true&&false&&false) (decide (bz (az fr) none (some (Operand.tmp 13)) 0 (p.length:Int)=p))) (SV.bool false (dS fr to p)))/\(decide ((p.length:Int)<=(↑(az fr).length:Int))=false->af (SV.bool true false) (SV.bool false (dS fr to p))))))):=by kernel_rfl
theorem RT (p:List UInt8):VC.holds (fW qV 130 Tryz.f130 [.str false p] (MZ p))=(((0<=(p.length:Int)/\(p.length:Int)<=9223372036854775807/\(0:Int)<(2:Int))/\((!decide ((p.length:Int)% 2=(0:Int)))=true->(nU p=true->af (SV.aL [SV.str true [],SV.bool true false]) (SV.aL [SV.str false (bF p),SV.bool true true]))/\(nU p=false->af (SV.aL [SV.str true [],SV.bool true false]) (SV.aL [SV.str true [],SV.bool true false])))/\((!decide ((p.length:Int)% 2=(0:Int)))=false->p.length<1152921504606846976/\((!fB p)=true->(nU p=true->af (SV.aL [SV.str true [],SV.bool true false]) (SV.aL [SV.str false (bF p),SV.bool true true]))/\(nU p=false->af (SV.aL [SV.str true [],SV.bool true false]) (SV.aL [SV.str true [],SV.bool true false])))/\((!fB p)=false->p.length<1099511627776/\(nU p=true->af (SV.aL [SV.str false (bF p),SV.bool true true]) (SV.aL [SV.str false (bF p),SV.bool true true]))/\(nU p=false->af (SV.aL [SV.str false (bF p),SV.bool true true]) (SV.aL [SV.str true [],SV.bool true false])))))):=by kernel_rfl
theorem Nn (x:wz×List UInt8):VC.holds (runM qV 83 Tryz.f83 tQ x)=((fun P0:SV=>((((!x.fst.w.ad x.snd)=true->(cT x.fst.w x.snd=true->∃(u13:Nat×Nat),((if x.fst.s.used x.snd=0 then x.fst.s.ns++[x.fst.w.at x.snd] else x.fst.s.ns).length<=u13.fst/\x.fst.s.fs.length<=u13.snd)/\False)/\(cT x.fst.w x.snd=false->∃(u12:List UInt8×List UInt8),(∀(u11:Nat->Nat),SV.val u11 P0=SV.val u11 dg)/\(0:Nat)=(0:Nat)/\ah (SB.cells [SV.str true [(110:UInt8),(111:UInt8),(116:UInt8),(32:UInt8),(116:UInt8),(104:UInt8),(101:UInt8),(114:UInt8),(101:UInt8),(58:UInt8)],SV.str false x.snd] 2 207) (SB.cells [SV.str false u12.fst,SV.str false u12.snd] 2 207)/\True))/\((!x.fst.w.ad x.snd)=false->(0<=dflt (x.fst.w.ad x.snd) (x.fst.w.ag x.snd)/\dflt (x.fst.w.ad x.snd) (x.fst.w.ag x.snd)<(x.fst.w.n:Int))/\(x.fst.w.o=x.fst.w.o/\0+(dflt (x.fst.w.ad x.snd) (x.fst.w.ag x.snd)).toNat<x.fst.w.n)/\((x.fst.w.f (0+(dflt (x.fst.w.ad x.snd) (x.fst.w.ag x.snd)).toNat)).length<=9223372036854775808/\(x.fst.w.f (0+(dflt (x.fst.w.ad x.snd) (x.fst.w.ag x.snd)).toNat)).length<1099511627776)/\(bG (x.fst.w.f (0+(dflt (x.fst.w.ad x.snd) (x.fst.w.ag x.snd)).toNat))=true ->(decide (dflt (x.fst.s.ud x.snd) (x.fst.s.us x.snd)=0)=true->(0+x.fst.s.ns.length<=x.fst.s.ns.length/\True/\2*(x.fst.s.ns.length+1)*16<=(281474976710656:Nat)/\x.fst.s.ns.length+1<(9223372036854775808:Nat))/\x.fst.c1*1=x.fst.c1*1/\∀(u10:Nat),x.fst.s.ns.length+1<=u10->((-9223372036854775808:Int)<=dflt (x.fst.s.ud x.snd) (x.fst.s.us x.snd)+1/\dflt (x.fst.s.ud x.snd) (x.fst.s.us x.snd)+1<=(9223372036854775807:Int))/\(cT x.fst.w x.snd=true->∃(u9:Nat×Nat),((if x.fst.s.used x.snd=0 then x.fst.s.ns++[x.fst.w.at x.snd] else x.fst.s.ns).length<=u9.fst/\x.fst.s.fs.length<=u9.snd)/\(∀(u8:Nat->Nat),SV.val u8 (SV.agg (fj (getD (x.fst.w.f (0+(dflt (x.fst.w.ad x.snd) (x.fst.w.ag x.snd)).toNat)))))=SV.val u8 (getD (x.fst.w.at x.snd)).sv)/\(7:Nat)=(7:Nat)/\x.fst.w.fr=x.fst.w.fr/\x.fst.w.to=x.fst.w.to/\(0:Nat)=(0:Nat)/\(0:Nat)=(0:Nat)/\((0:Nat)=(0:Nat)/\x.fst.s.ns.length+1=(if x.fst.s.used x.snd=0 then x.fst.s.ns++[x.fst.w.at x.snd] else x.fst.s.ns).length/\u10=u9.fst)/\True/\(x.fst.s.lk:Int)=(x.fst.s.lk:Int)/\((0:Nat)=(0:Nat) /\x.fst.s.fs.length=x.fst.s.fs.length/\x.fst.c2=u9.snd)/\True/\ah (SB.fmap (gd x.fst.s.ud x.snd) (aV.int IntKind.i64 (kK x.fst.s.us x.snd (dflt (x.fst.s.ud x.snd) (x.fst.s.us x.snd)+1))) none) (fV (Wk.take x.fst.w x.fst.s x.snd))/\ah (SB.rows true (x.fst.s.ns.length+1) [au.str fun(u7:Nat)=>if u7<x.fst.s.ns.length then x.fst.s.ns.getD u7 [] else bq [x.fst.w.f (0+(dflt (x.fst.w.ad x.snd) (x.fst.w.ag x.snd)).toNat)] (u7 - x.fst.s.ns.length)] false (u10*1) 9) (fy (Wk.take x.fst.w x.fst.s x.snd) u9.fst)/\ah (SB.rows true x.fst.s.fs.length [b8 x.fst.s.fs,b6 x.fst.s.fs] false (x.fst.c2*2) 50) (fU (Wk.take x.fst.w x.fst.s x.snd) u9.snd)/\ah (SB.cells [SV.map 5] 1 90) (SB.cells [SV.map 5] 1 90)/\ah (SB.fmap x.fst.w.ad (aV.int IntKind.i64 x.fst.w.ag) none) (SB.fmap x.fst.w.ad (aV.int IntKind.i64 x.fst.w.ag) none)/\ah (SB.cells [SV.bP 7 1 x.fst.w.z x.fst.w.o 0 x.fst.w.n x.fst.w.c] 1 29) (SB.cells [SV.bP 7 1 x.fst.w.z x.fst.w.o 0 x.fst.w.n x.fst.w.c] 1 29)/\True)/\(cT x.fst.w x.snd=false->∃(_:List UInt8×List UInt8),False))/\(decide (dflt (x.fst.s.ud x.snd) (x.fst.s.us x.snd)=0)=false ->((-9223372036854775808:Int)<=dflt (x.fst.s.ud x.snd) (x.fst.s.us x.snd)+1/\dflt (x.fst.s.ud x.snd) (x.fst.s.us x.snd)+1<=(9223372036854775807:Int))/\(cT x.fst.w x.snd=true->∃(u5:Nat×Nat),((if x.fst.s.used x.snd=0 then x.fst.s.ns++[x.fst.w.at x.snd] else x.fst.s.ns).length<=u5.fst/\x.fst.s.fs.length<=u5.snd)/\(∀(u4:Nat->Nat),SV.val u4 (SV.agg (fj (getD (x.fst.w.f (0+(dflt (x.fst.w.ad x.snd) (x.fst.w.ag x.snd)).toNat)))))=SV.val u4 (getD (x.fst.w.at x.snd)).sv)/\(7:Nat)=(7:Nat)/\x.fst.w.fr=x.fst.w.fr/\x.fst.w.to=x.fst.w.to/\(0:Nat)=(0:Nat)/\(0:Nat)=(0:Nat)/\((0:Nat)=(0:Nat)/\x.fst.s.ns.length=(if x.fst.s.used x.snd=0 then x.fst.s.ns++[x.fst.w.at x.snd] else x.fst.s.ns).length/\x.fst.c1=u5.fst)/\True/\(x.fst.s.lk:Int)=(x.fst.s.lk:Int)/\((0:Nat)=(0:Nat)/\x.fst.s.fs.length=x.fst.s.fs.length/\x.fst.c2=u5.snd)/\True/\ah (SB.fmap (gd x.fst.s.ud x.snd) (aV.int IntKind.i64 (kK x.fst.s.us x.snd (dflt (x.fst.s.ud x.snd) (x.fst.s.us x.snd)+1))) none) (fV (Wk.take x.fst.w x.fst.s x.snd)) /\ah (SB.rows true x.fst.s.ns.length [qU x.fst.s.ns] false (x.fst.c1*1) 9) (fy (Wk.take x.fst.w x.fst.s x.snd) u5.fst)/\ah (SB.rows true x.fst.s.fs.length [b8 x.fst.s.fs,b6 x.fst.s.fs] false (x.fst.c2*2) 50) (fU (Wk.take x.fst.w x.fst.s x.snd) u5.snd)/\ah (SB.cells [SV.map 5] 1 90) (SB.cells [SV.map 5] 1 90)/\ah (SB.fmap x.fst.w.ad (aV.int IntKind.i64 x.fst.w.ag) none) (SB.fmap x.fst.w.ad (aV.int IntKind.i64 x.fst.w.ag) none)/\ah (SB.cells [SV.bP 7 1 x.fst.w.z x.fst.w.o 0 x.fst.w.n x.fst.w.c] 1 29) (SB.cells [SV.bP 7 1 x.fst.w.z x.fst.w.o 0 x.fst.w.n x.fst.w.c] 1 29)/\True)/\(cT x.fst.w x.snd=false->∃(_:List UInt8×List UInt8),False)))/\(bG (x.fst.w.f (0+(dflt (x.fst.w.ad x.snd) (x.fst.w.ag x.snd)).toNat))=false->(cT x.fst.w x.snd=true->∃(u2:Nat×Nat),((if x.fst.s.used x.snd=0 then x.fst.s.ns++[x.fst.w.at x.snd] else x.fst.s.ns).length<=u2.fst/\x.fst.s.fs.length<=u2.snd)/\False)/\(cT x.fst.w x.snd=false->∃(u1:List UInt8×List UInt8),(∀(u0:Nat->Nat),SV.val u0 P0=SV.val u0 dg)/\(0:Nat)=(0:Nat) /\ah (SB.cells [SV.str true [(110:UInt8),(111:UInt8),(32:UInt8),(110:UInt8),(111:UInt8),(100:UInt8),(101:UInt8),(58:UInt8)],SV.str false x.snd] 2 207) (SB.cells [SV.str false u1.fst,SV.str false u1.snd] 2 207)/\True)))))) (SV.agg [SV.int .i64 true 0,SV.str true [],SV.str true [],SV.str true [],SV.str true [],SV.str true [],SV.str true [],SV.str true [],SV.str true [],SV.str true [],SV.str true [],SV.str true [],SV.str true [],SV.str true [],SV.str true [],SV.str true [],SV.str true [],SV.str true [],SV.str true []])):=by kernel_rfl
theorem qk {l l' a b:Bool}(h:a=b):af (.bool l a) (.bool l' b):=by subst h;exact fun _=>rfl
theorem Wv {b:Bool}(h:(!b)=false):b=true:=by cases b with
 | true=>rfl
 | false=>cases h
theorem Xb {b:Bool}(h:(!b)=true):b=false:=by cases b with
 | false=>rfl
 | true=>cases h
theorem Mp (fr to p:List UInt8)(h1:fr.length<=1000)(h2:to.length<=1000):aA (fW qV 43 Tryz.f43 [.agg [.str false fr,.str false to],.str false p] (.ret (.bool false (hasB fr to p)))):=by
 refine aA.of_eq (TH fr to p) ⟨by omega,fun h=>⟨by omega,qk ?_⟩,fun h=>qk ?_⟩
 ·rw[hasB,h];rfl
 ·rw[hasB,h];rfl
theorem Gz (fr to p:List UInt8)(h1:fr.length<=1000)(h2:to.length<=1000):aA (fW qV 42 Tryz.f42 [.agg [.str false fr,.str false to],.str false p] (.ret (.bool false (dS fr to p)))):=by
 refine aA.of_eq (Mc fr to p) ⟨by omega,fun h=>qk ?_,fun h=>⟨by omega,fun g=>qk ?_,fun g=>⟨fun l=>⟨⟨by omega,by omega,of_decide_eq_true l⟩,qk ?_⟩,fun l=>qk ?_⟩⟩⟩
 ·have h:(Op.bytesLess p (az to)||decide (p=az to))=false:=Xb h
  rw[dS,h];rfl
 all_goals
  have h:(Op.bytesLess p (az to)||decide (p=az to))=true:=Wv h
  rw[dS,h,g]
 ·rfl
 ·have l:decide (p.length<=(az fr).length)=true:=decide_eq_true (by have:=of_decide_eq_true l;omega)
  rw[preB,l];rfl
 ·have l:decide (p.length<=(az fr).length)=false:=decide_eq_false (by have:=of_decide_eq_false l;omega)
  rw[preB,l];rfl
theorem G9 (p:List UInt8)(hp:p.length<1099511627776):aA (fW qV 130 Tryz.f130 [.str false p] (MZ p)):=by
 refine aA.of_eq (RT p) ?_
 have S: ∀ v:SV,af v v:=fun _ _=>rfl
 have e:nU p=(decide ((p.length:Int)% 2=0)&&fB p):=rfl
 cases h1:decide ((p.length:Int)% 2=0)<;>cases h2:fB p
 all_goals
  rw[h1,h2] at e
  simp only[e,Bool.not_true,Bool.not_false,Bool.true_and,Bool.false_and,Bool.false_eq_true,Bool.true_eq_false,false_imp_iff,forall_const,true_and,and_true,S]
  omega
theorem Wb:aB Tryz.prog 43 (aU Cs):=by
 refine dD (dA (n:=20) (fn:=Tryz.f43) Tryz.func43 (by kernel_rfl) (by kernel_rfl) ?_)
 intro args p a h hp
 unfold Cs at h
 split at h
 ·injection h with h;injection h with h1 h2;subst h1;subst h2
  exact⟨_,CX,rfl,rfl,Mp _ _ _ hp.1 hp.2⟩
 ·cases h
theorem O3:aB Tryz.prog 42 (aU uY):=by
 refine dD (dA (n:=20) (fn:=Tryz.f42) Tryz.func42 (by kernel_rfl) (by kernel_rfl) ?_)
 intro args p a h hp
 unfold uY at h
 split at h
 ·injection h with h;injection h with h1 h2;subst h1;subst h2
  exact⟨_,CX,rfl,rfl,Gz _ _ _ hp.1 hp.2⟩
 ·cases h
theorem Tc:aB Tryz.prog 130 (cE zY):=by
 refine dA (n:=20) (fn:=Tryz.f130) Tryz.func130 (by kernel_rfl) (by kernel_rfl) ?_
 intro args p a h hp
 unfold zY at h
 split at h
 ·injection h with h;injection h with h1 h2;subst h1;subst h2
  exact⟨_,CX,rfl,fun b=>by cases b<;>exact rfl,G9 _ hp⟩
 ·cases h
theorem lu {z:Bool}{n n':Nat}{cs cs':List au}{tot tot':Nat}{ty:TypeId}(hn:n=n')(ht:tot=tot')(hl:cs.length=cs'.length)
  (h: ∀(k:Nat) (c c':au),cs[k]?=some c->cs'[k]?=some c'->∀ i,i<n->∀ E,(c'.at i).val E=(c.at i).val E):ah (.rows z n cs false tot ty) (.rows z n' cs' false tot' ty):=by
 subst hn;subst ht
 refine ah.of rfl rfl fun hno=>⟨hno,fun E o ⟨c,fr,h1,h2,h3,h4,h5⟩=>⟨c,fr,h1,h2,by rw[← hl];exact h3,h4,fun i k col hi hk=> ?_⟩,id⟩
 have hk0:k<cs.length:=by rw[hl];exact(List.getElem?_eq_some_iff.1 hk).1
 rw[h k _ col (List.getElem?_eq_getElem hk0) hk i hi E,← hl]
 exact h5 i k _ hi (List.getElem?_eq_getElem hk0)
theorem sS {α:Type}(l:List α)(x d:α)(i:Nat)(h:i<l.length+1):(l++[x]).getD i d=if i<l.length then l.getD i d else [x].getD (i - l.length) d:=by
 simp only[List.getD_eq_getElem?_getD]
 by_cases h1:i<l.length
 ·rw[if_pos h1,List.getElem?_append_left h1]
 ·rw[if_neg h1,List.getElem?_append_right (by omega)]
theorem To {l:List (List UInt8)}{x:List UInt8}{c:Nat}{ty:TypeId}:ah (.rows true (l.length+1) [.str fun j=>if j<l.length then l.getD j [] else bq [x] (j - l.length)] false (c*1) ty) (.rows true (l++[x]).length [qU (l++[x])] false (c*1) ty):=by
 refine lu (by simp) rfl rfl fun k c c' h1 h2 i hi E=> ?_
 cases k with
 | zero =>
   simp only[List.getElem?_cons_zero,Option.some.injEq] at h1 h2
   subst h1;subst h2
   simp only[qU,au.at,SV.val,sS l x [] i hi]
   rfl
 | succ k=>simp at h1
theorem tI {a b:List UInt8}{ty:TypeId}:ah (SB.cells [SV.str true a,SV.str false b] 2 ty) (SB.cells [SV.str false (a,b).1,SV.str false (a,b).2] 2 ty):=ah.cells (fun _=>rfl) rfl
theorem W5.zero (E:Nat->Nat):SV.val E (SV.agg [SV.int .i64 true 0,SV.str true [],SV.str true [],SV.str true [],SV.str true [],SV.str true [],SV.str true [],SV.str true [],SV.str true [],SV.str true [],SV.str true [],SV.str true [],SV.str true [],SV.str true [],SV.str true [],SV.str true [],SV.str true [],SV.str true [],SV.str true []])=SV.val E dg:=rfl
section
attribute [local irreducible] bG getD
theorem D1 {x:wz×List UInt8}(hw:x.1.w.Ok)(hs:x.1.s.Small)(hc:x.1.s.ns.length<=x.1.c1/\x.1.s.fs.length<=x.1.c2):aA (runM qV 83 Tryz.f83 tQ x):=by
 refine aA.of_eq (Nn x) ?_
 obtain⟨⟨w,s,c1,c2⟩,t⟩:=x
 dsimp only at hw hs hc ⊢
 have hu:=hs.u t
 have hn:=hs.ns
 have eu:dflt (s.ud t) (s.us t)=s.used t:=rfl
 have el:cT w t=(w.ad t&&bG (w.f (w.ag t).toNat)):=rfl
 have ea:w.at t=w.f (w.ag t).toNat:=rfl
 obtain⟨hc1,hc2⟩:=hc
 have ez:=W5.zero
 simp only[eu,Nat.zero_add]
 cases hA:w.ad t with
 | false =>
   rw[hA] at el
   simp only[el,Bool.false_and,Bool.not_false,Bool.false_eq_true,Bool.true_eq_false,false_imp_iff,forall_const,true_and,and_true]
   exact⟨(_,_),ez,tI⟩
 | true =>
   obtain⟨b1,b2⟩:=hw.a t hA
   have hf:=hw.f (w.ag t).toNat (by omega)
   rw[hA] at el
   have ed:dflt true (w.ag t)=w.ag t:=rfl
   simp only[ed,Bool.not_true,Bool.false_eq_true,false_imp_iff,forall_const,true_and]
   refine⟨⟨b1,b2⟩,by omega,⟨by omega,by omega⟩,fun hB=> ?_,fun hB=> ?_⟩
   ·rw[hB] at el
    simp only[el,Bool.and_self,Bool.true_eq_false,false_imp_iff,forall_const,and_true]
    refine⟨fun h0=>⟨⟨Nat.le_refl _,by omega,by omega⟩,fun c hcc=>⟨by omega,?_⟩⟩,fun h0=>⟨by omega,?_⟩⟩
    ·have h0:=of_decide_eq_true h0
     rw[if_pos h0,List.length_append]
     have h1:(Wk.take w s t).ns=s.ns++[w.f (w.ag t).toNat]:=by show(if s.used t=0 then _ else _)=_;rw[if_pos h0];rfl
     have hns:ah (.rows true (s.ns.length+1) [.str fun j=>if j<s.ns.length then s.ns.getD j [] else bq [w.f (w.ag t).toNat] (j - s.ns.length)] false (c*1) 9) (fy (Wk.take w s t) c):=by
      unfold fy
      rw[h1];exact To
     have hl:s.ns.length+[w.at t].length<=c:=hcc
     refine⟨(c,c2),?_⟩
     repeat' first
      | assumption
      | exact tI
      | exact ah.refl _
      | refine And.intro ?_ ?_
      | exact fun _=>rfl
      | rfl
      | omega
      | exact trivial
      | fail
    ·have h0:=of_decide_eq_false h0
     rw[if_neg h0]
     have h1:(Wk.take w s t).ns=s.ns:=by show(if s.used t=0 then _ else _)=_;rw[if_neg h0]
     have hns:ah (.rows true s.ns.length [qU s.ns] false (c1*1) 9) (fy (Wk.take w s t) c1):=by
      unfold fy
      rw[h1];exact ah.refl _
     refine⟨(c1,c2),?_⟩
     repeat' first
      | assumption
      | exact tI
      | exact ah.refl _
      | refine And.intro ?_ ?_
      | exact fun _=>rfl
      | rfl
      | omega
      | exact trivial
      | fail
   ·rw[hB] at el
    simp only[el,Bool.and_false,Bool.false_eq_true,false_imp_iff,forall_const,true_and]
    exact⟨(_,_),ez,tI,trivial⟩
end
theorem Lc:aB Tryz.prog 83 (ig tQ) :=
 n7 (n:=20) (fn:=Tryz.f83) Tryz.func83 (by kernel_rfl) (by kernel_rfl) tQ fun x hx=>⟨qV,CX,rfl,D1 hx.1 hx.2.1 hx.2.2.1⟩
noncomputable def Dm:List (FuncId×PT):=(83,ig tQ)::(43,aU Cs)::(42,aU uY)::(130,cE zY)::jA
theorem uI:bl Tryz.prog (fun f=>aG f Dm):=.cons Lc (gD _) (.cons Wb (aN _) (.cons O3 (aN _) (.cons Tc (cj _) eG)))
noncomputable def J2:ff:={cg with cI:=fun f=>aG f Dm}
theorem Vm:Sx.Good Tryz.prog J2:=.of bS uI bt
end Go.Proofs.YtoibaecagklkaaaGreatDoor
