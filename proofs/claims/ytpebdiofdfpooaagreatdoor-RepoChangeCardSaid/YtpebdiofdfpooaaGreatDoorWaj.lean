/- Contracts: digests of strings, continued (the reference's layer 2). Printed by a program. -/
import Derived.Test.YtpebdiofdfpooaaGreatDoorWai
import Derived.Test.YtpebdiofdfpooaaGreatDoorWaf
import Derived.Test.YtpebdiofdfpooaaGreatDoorWag
import Derived.Test.YtpebdiofdfpooaaGreatDoorWae
import Derived.Test.YtpebdiofdfpooaaGreatDoorWah
set_option linter.unusedSimpArgs false
set_option linter.unusedVariables false
set_option maxHeartbeats 8000000
namespace Go.Proofs
open Go Go.Q
attribute [local irreducible] EB AW B2 FW
def rK:List Nat:= [1116352408,1899447441,3049323471,3921009573,961987163,1508970993,2453635748,2870763221,3624381080,310598401,607225278,1426881987,1925078388,2162078206,2614888103,3248222580,3835390401,4022224774,264347078,604807628,770255983,1249150122,1555081692,1996064986,2554220882,2821834349,2952996808,3210313671,3336571891,3584528711,113926993,338241895,666307205,773529912,1294757372,1396182291,1695183700,1986661051,2177026350,2456956037,2730485921,2820302411,3259730800,3345764771,3516065817,3600352804,4094571909,275423344,430227734,506948616,659060556,883997877,958139571,1322822218,1537002063,1747873779,1955562222,2024104815,2227730452,2361852424,2428436474,2756734187,3204031479,3329325298]
instance nS:Bj Tryz.prog 254 [] (.agg (eW rK)):=⟨by
 refine Aj Tryz.func254 Tryz.ntmps254 rfl (rs:= [.cell 0 236]) rfl rfl fun hb LF=>?_
 refine Jc fun b=>?_
 refine Jy [.const (.int .u32 1116352408),.const (.int .u32 1899447441),.const (.int .u32 3049323471),.const (.int .u32 3921009573),.const (.int .u32 961987163),.const (.int .u32 1508970993),.const (.int .u32 2453635748),.const (.int .u32 2870763221),.const (.int .u32 3624381080),.const (.int .u32 310598401),.const (.int .u32 607225278),.const (.int .u32 1426881987),.const (.int .u32 1925078388),.const (.int .u32 2162078206),.const (.int .u32 2614888103),.const (.int .u32 3248222580),.const (.int .u32 3835390401),.const (.int .u32 4022224774),.const (.int .u32 264347078),.const (.int .u32 604807628),.const (.int .u32 770255983),.const (.int .u32 1249150122),.const (.int .u32 1555081692),.const (.int .u32 1996064986),.const (.int .u32 2554220882),.const (.int .u32 2821834349),.const (.int .u32 2952996808),.const (.int .u32 3210313671),.const (.int .u32 3336571891),.const (.int .u32 3584528711),.const (.int .u32 113926993),.const (.int .u32 338241895),.const (.int .u32 666307205),.const (.int .u32 773529912),.const (.int .u32 1294757372),.const (.int .u32 1396182291),.const (.int .u32 1695183700),.const (.int .u32 1986661051),.const (.int .u32 2177026350),.const (.int .u32 2456956037),.const (.int .u32 2730485921),.const (.int .u32 2820302411),.const (.int .u32 3259730800),.const (.int .u32 3345764771),.const (.int .u32 3516065817),.const (.int .u32 3600352804),.const (.int .u32 4094571909),.const (.int .u32 275423344),.const (.int .u32 430227734),.const (.int .u32 506948616),.const (.int .u32 659060556),.const (.int .u32 883997877),.const (.int .u32 958139571),.const (.int .u32 1322822218),.const (.int .u32 1537002063),.const (.int .u32 1747873779),.const (.int .u32 1955562222),.const (.int .u32 2024104815),.const (.int .u32 2227730452),.const (.int .u32 2361852424),.const (.int .u32 2428436474),.const (.int .u32 2756734187),.const (.int .u32 3204031479),.const (.int .u32 3329325298)] rK rfl rfl rfl rfl ?_
 have i1:Cz (eW rK) 64:=⟨rfl⟩
 have i2:Cz (eW (List.replicate 64 0)) 64:=⟨rfl⟩
 refine Ir ?_
 exact FK rfl (.refl _) (hn:=(rfl:(eW rK).length=64))⟩
def Xo (b:Str) (t:Nat):Nat:=dr (dr (dr (XM ((b.getD (4*(t:Int)).toNat 0).toNat % 4294967296) 24) (XM ((b.getD (4*(t:Int)+1).toNat 0).toNat % 4294967296) 16)) (XM ((b.getD (4*(t:Int)+2).toNat 0).toNat % 4294967296) 8)) ((b.getD (4*(t:Int)+3).toNat 0).toNat % 4294967296)
def Kd (b:Str) (w:List Nat) (t:Nat):List Nat:=w.set t (Xo b t)
def SJ (w:List Nat) (t:Nat):Nat:=
 let x:=w.getD (t+1) 0
 let y:=w.getD (t+14) 0
 Mo (Mo (Mo (LA (LA (GN y 17) (GN y 19)) (Vb y 10)) (w.getD (t+9) 0)) (LA (LA (GN x 7) (GN x 18)) (Vb x 3))) (w.getD t 0)
theorem SI (v:List Nat) (k:Nat):SJ v k=Mo (Mo (Mo (LA (LA (GN (v.getD (((k+16:Nat):Int) - 2).toNat 0) 17) (GN (v.getD (((k+16:Nat):Int) - 2).toNat 0) 19)) (Vb (v.getD (((k+16:Nat):Int) - 2).toNat 0) 10)) (v.getD (((k+16:Nat):Int) - 7).toNat 0)) (LA (LA (GN (v.getD (((k+16:Nat):Int) - 15).toNat 0) 7) (GN (v.getD (((k+16:Nat):Int) - 15).toNat 0) 18)) (Vb (v.getD (((k+16:Nat):Int) - 15).toNat 0) 3))) (v.getD (((k+16:Nat):Int) - 16).toNat 0):=by
 have e2:(((k+16:Nat):Int) - 2).toNat=k+14:=by omega
 have e7:(((k+16:Nat):Int) - 7).toNat=k+9:=by omega
 have e15:(((k+16:Nat):Int) - 15).toNat=k+1:=by omega
 have e16:(((k+16:Nat):Int) - 16).toNat=k:=by omega
 rw[e2,e7,e15,e16];rfl
def PW (w:List Nat) (t:Nat):List Nat:=w.set (t+16) (SJ w t)
def GP (b:Str):List Nat:=(List.range 48).foldl PW ((List.range 16).foldl (Kd b) (List.replicate 64 0))
theorem Uv (b:Str) (k:Nat):((List.range k).foldl (Kd b) (List.replicate 64 0)).length=64:=by
 induction k with
 |zero=>rfl
 |succ k ih=>rw[Bm,Kd,CG,ih]
theorem Uu {w:List Nat} (h:w.length=64) (k:Nat):((List.range k).foldl PW w).length=64:=by
 induction k with
 |zero=>exact h
 |succ k ih=>rw[Bm,PW,CG,ih]
theorem SK (b:Str):(GP b).length=64:=Uu (Uv b 16) 48
instance oE (s:Str) [hs:B0 (s.length=64)]:Bj Tryz.prog 253 [.str s] (.agg (eW (GP s))):=⟨by
 refine Aj Tryz.func253 Tryz.ntmps253 rfl (rs:= [.cell 2 236]) rfl rfl fun hb LF=>?_
 have hl:=hs.out
 have i2:Cz (eW (List.replicate 64 0)) 64:=⟨rfl⟩
 refine Jc fun b=>?_
 refine IC fun b2=>?_
 refine AV (σ:=Nat × List Nat) (fun k=>k.1≤16∧k.2.length=64∧k.2=(List.range k.1).foldl (Kd s) (List.replicate 64 0)) (fun k=>16 - k.1) (fun k=> [(0,.str s),(2,.raw (.pointer (some ⟨b,0,none⟩))),(3,.raw (.pointer (some ⟨b2,0,none⟩))),(4,.raw (.int .i64 k.1))]) (fun k=> .box b2 236 (eW k.2):: .box b 236 (eW (List.replicate 64 0))::LF) (0,List.replicate 64 0) ⟨by simp,by simp,by simp⟩ ⟨rfl,rfl,rfl,rfl⟩ (.refl _) ?_
 rintro⟨k,w⟩ ⟨hk,hw,he⟩
 dsimp only at hk hw he ⊢
 refine Dt ?_
 refine A1 (fun hc=>?_) (fun hc=>?_)
 ·refine Mx ?_
  refine BR 31 ?_ ?_
  ·decide+kernel
  refine Ir ?_
  refine⟨(k+1,w.set k (Xo s k)),⟨by dsimp only;omega,by dsimp only;rw[CG,hw],by dsimp only;rw[Bm,←he];rfl⟩,by dsimp only;omega,⟨rfl,rfl,rfl,rfl⟩,.refl _⟩
 have hkk:k=16:=by omega
 subst hkk
 refine Dt ?_
 refine AV (σ:=Nat × List Nat) (fun k=>k.1≤48∧k.2.length=64∧k.2=(List.range k.1).foldl PW w) (fun k=>48 - k.1) (fun k=> [(2,.raw (.pointer (some ⟨b,0,none⟩))),(3,.raw (.pointer (some ⟨b2,0,none⟩))),(5,.raw (.int .i64 ((k.1+16:Nat):Int)))]) (fun k=> .box b2 236 (eW k.2):: .box b 236 (eW (List.replicate 64 0))::LF) (0,w) ⟨by simp,hw,by simp⟩ ⟨rfl,rfl,rfl⟩ (.refl _) ?_
 rintro⟨k,v⟩ ⟨hk,hv,hve⟩
 dsimp only at hk hv hve ⊢
 have i3:Cz (eW v) 64:=⟨by rw[Gm,hv]⟩
 refine Dt ?_
 refine A1 (fun hc=>?_) (fun hc=>?_)
 ·refine Mx ?_
  refine Da (by decide+kernel) ?_
  refine VW ?_
  refine BR 29 ?_ ?_
  ·decide+kernel
  refine Ir ?_
  refine⟨(k+1,v.set (k+16) (SJ v k)),⟨by dsimp only;omega,by dsimp only;rw[CG,hv],by dsimp only;rw[Bm,←hve];rfl⟩,by dsimp only;omega,⟨rfl,rfl,?_⟩,?_⟩
  ·show PV.raw (Value.int .i64 _)=PV.raw (Value.int .i64 _)
   congr 2
  ·dsimp only;rw[SI];exact .refl _
 ·refine Dt ?_
  refine FK rfl (.of_eq ?_) (hn:=(by rw[Gm,hv]:(eW v).length=64))
  have hkk:k=48:=by omega
  subst hkk
  rw[GP,hve,he]⟩
def w8 (w v:List Nat) (t:Nat):Nat:=Mo (Mo (Mo (Mo (v.getD 7 0) (LA (LA (GN (v.getD 4 0) 6) (GN (v.getD 4 0) 11)) (GN (v.getD 4 0) 25))) (LA (X2 (v.getD 4 0) (v.getD 5 0)) (X2 (mc (v.getD 4 0)) (v.getD 6 0)))) (rK.getD t 0)) (w.getD t 0)
def xp (v:List Nat):Nat:=Mo (LA (LA (GN (v.getD 0 0) 2) (GN (v.getD 0 0) 13)) (GN (v.getD 0 0) 22)) (LA (LA (X2 (v.getD 0 0) (v.getD 1 0)) (X2 (v.getD 0 0) (v.getD 2 0))) (X2 (v.getD 1 0) (v.getD 2 0)))
def Lq (w v:List Nat) (t:Nat):List Nat:= [Mo (w8 w v t) (xp v),v.getD 0 0,v.getD 1 0,v.getD 2 0,Mo (v.getD 3 0) (w8 w v t),v.getD 4 0,v.getD 5 0,v.getD 6 0]
def Ke (h:List Nat) (b:Str):List Nat:=(List.range 64).foldl (Lq (GP b)) h
def Xx (v x:List Nat) (i:Nat):List Nat:=x.set i (Mo (x.getD i 0) (v.getD i 0))
def Mc (h:List Nat) (b:Str):List Nat:=(List.range 8).foldl (Xx (Ke h b)) h
theorem eT {v h:List Nat} (hh:h.length=8) (k:Nat):((List.range k).foldl (Xx v) h).length=8:=by
 induction k with
 |zero=>exact hh
 |succ k ih=>rw[Bm,Xx,CG,ih]
theorem Nl {h:List Nat} {b:Str} (hh:h.length=8):(Mc h b).length=8:=eT hh 8
theorem xq {ρ:Env} {x0 x1 x2 x3 x4 x5 x6 x7:Operand} {a0 a1 a2 a3 a4 a5 a6 a7:Nat} (h0:ρ.ev x0= .raw (.int .u32 (a0:Int))) (h1:ρ.ev x1= .raw (.int .u32 (a1:Int))) (h2:ρ.ev x2= .raw (.int .u32 (a2:Int))) (h3:ρ.ev x3= .raw (.int .u32 (a3:Int))) (h4:ρ.ev x4= .raw (.int .u32 (a4:Int))) (h5:ρ.ev x5= .raw (.int .u32 (a5:Int))) (h6:ρ.ev x6= .raw (.int .u32 (a6:Int))) (h7:ρ.ev x7= .raw (.int .u32 (a7:Int))):
  [x0,x1,x2,x3,x4,x5,x6,x7].map ρ.ev=eW [a0,a1,a2,a3,a4,a5,a6,a7]:=by simp[eW,h0,h1,h2,h3,h4,h5,h6,h7]
instance vw (h:List Nat) (s:Str) [hs:B0 (s.length=64)] [hh:B0 (h.length=8)]:Bj Tryz.prog 212 [.agg (eW h),.str s] (.agg (eW (Mc h s))):=⟨by
 refine Aj Tryz.func212 Tryz.ntmps212 rfl (rs:= [.cell 4 207]) rfl rfl fun hb LF=>?_
 have hl:=hh.out
 have hsl:=SK s
 have j1:Cz (eW (List.replicate 64 0)) 64:=⟨rfl⟩
 have j2:Cz (eW (List.replicate 8 0)) 8:=⟨rfl⟩
 have j3:Cz (eW h) 8:=⟨by rw[Gm,hl]⟩
 have j4:Cz (eW rK) 64:=⟨rfl⟩
 have j5:Cz (eW (GP s)) 64:=⟨by rw[Gm,hsl]⟩
 have hkl:rK.length=64:=rfl
 refine Jc fun b2=>?_
 refine IC fun b4=>?_
 refine IC fun b5=>?_
 refine IC fun b6=>?_
 refine IC fun b7=>?_
 refine AV (σ:=Nat × List Nat) (fun k=>k.1≤64∧k.2.length=8∧k.2=(List.range k.1).foldl (Lq (GP s)) h) (fun k=>64 - k.1) (fun k=> [(2,.raw (.pointer (some ⟨b2,0,none⟩))),(4,.raw (.pointer (some ⟨b4,0,none⟩))),(5,.raw (.pointer (some ⟨b5,0,none⟩))),(6,.raw (.pointer (some ⟨b6,0,none⟩))),(7,.raw (.pointer (some ⟨b7,0,none⟩))),(8,.raw (.int .i64 k.1))]) (fun k=> .box b7 207 (eW k.2):: .box b6 236 (eW rK):: .box b5 236 (eW (GP s)):: .box b4 207 (eW (List.replicate 8 0)):: .box b2 207 (eW h)::LF) (0,h) ⟨by simp,hl,by simp⟩ ⟨rfl,rfl,rfl,rfl,rfl,rfl⟩ (.refl _) ?_
 rintro⟨k,v⟩ ⟨hk,hv,hve⟩
 dsimp only at hk hv hve ⊢
 have j6:Cz (eW v) 8:=⟨by rw[Gm,hv]⟩
 have j7:Cz (eW (Lq (GP s) v k)) 8:=⟨rfl⟩
 refine Dt ?_
 refine A1 (fun hc=>?_) (fun hc=>?_)
 ·refine Mx ?_
  refine Da (by decide+kernel) ?_
  refine VW ?_
  refine Da (by decide+kernel) ?_
  refine BB [(2,.raw (.pointer (some ⟨b2,0,none⟩))),(4,.raw (.pointer (some ⟨b4,0,none⟩))),(5,.raw (.pointer (some ⟨b5,0,none⟩))),(6,.raw (.pointer (some ⟨b6,0,none⟩))),(7,.raw (.pointer (some ⟨b7,0,none⟩))),(8,.raw (.int .i64 k)),(9,.raw (.int .u32 ((v.getD 0 0:Nat):Int))),(11,.raw (.int .u32 ((w8 (GP s) v k:Nat):Int)))] (.box b7 207 (eW v):: .box b6 236 (eW rK):: .box b5 236 (eW (GP s)):: .box b4 207 (eW (List.replicate 8 0)):: .box b2 207 (eW h)::LF) ?_ ?_
  ·refine Ir ?_
   exact⟨⟨rfl,rfl,rfl,rfl,rfl,rfl,rfl,rfl⟩,.refl _⟩
  refine Mx ?_
  refine Da (by decide+kernel) ?_
  refine BB [(2,.raw (.pointer (some ⟨b2,0,none⟩))),(4,.raw (.pointer (some ⟨b4,0,none⟩))),(5,.raw (.pointer (some ⟨b5,0,none⟩))),(6,.raw (.pointer (some ⟨b6,0,none⟩))),(7,.raw (.pointer (some ⟨b7,0,none⟩))),(8,.raw (.int .i64 k)),(11,.raw (.int .u32 ((w8 (GP s) v k:Nat):Int))),(12,.raw (.int .u32 ((xp v:Nat):Int)))] (.box b7 207 (eW v):: .box b6 236 (eW rK):: .box b5 236 (eW (GP s)):: .box b4 207 (eW (List.replicate 8 0)):: .box b2 207 (eW h)::LF) ?_ ?_
  ·refine Ir ?_
   exact⟨⟨rfl,rfl,rfl,rfl,rfl,rfl,rfl,rfl⟩,.refl _⟩
  refine Dt ?_
  refine Jy [.tmp 82,.tmp 84,.tmp 86,.tmp 88,.tmp 92,.tmp 94,.tmp 96,.tmp 98] (Lq (GP s) v k) rfl (xq (by rfl) (by rfl) (by rfl) (by rfl) (by rfl) (by rfl) (by rfl) (by rfl)) (by simp[Lq]) (by simp[Lq]) ?_
  refine Ir ?_
  refine⟨(k+1,Lq (GP s) v k),⟨by dsimp only;omega,rfl,by dsimp only;rw[Bm,←hve]⟩,by dsimp only;omega,⟨rfl,rfl,rfl,rfl,rfl,rfl⟩,.refl _⟩
 have hkk:k=64:=by omega
 subst hkk
 replace hve:v=Ke h s:=hve
 subst hve
 refine Dt ?_
 refine AV (σ:=Nat × List Nat) (fun k=>k.1≤8∧k.2.length=8∧k.2=(List.range k.1).foldl (Xx (Ke h s)) h) (fun k=>8 - k.1) (fun k=> [(2,.raw (.pointer (some ⟨b2,0,none⟩))),(4,.raw (.pointer (some ⟨b4,0,none⟩))),(7,.raw (.pointer (some ⟨b7,0,none⟩))),(13,.raw (.int .i64 k.1))]) (fun k=> .box b7 207 (eW (Ke h s)):: .box b4 207 (eW (List.replicate 8 0)):: .box b2 207 (eW k.2)::LF) (0,h) ⟨by simp,hl,by simp⟩ ⟨rfl,rfl,rfl,rfl⟩ (.cons_cons _ (.cons _ (.cons _ (.refl _)))) ?_
 rintro⟨k,x⟩ ⟨hk,hx,hxe⟩
 dsimp only at hk hx hxe ⊢
 have j8:Cz (eW x) 8:=⟨by rw[Gm,hx]⟩
 refine Dt ?_
 refine A1 (fun hc=>?_) (fun hc=>?_)
 ·refine Mx ?_
  refine BR 9 ?_ ?_
  ·decide+kernel
  refine Ir ?_
  refine⟨(k+1,x.set k (Mo (x.getD k 0) ((Ke h s).getD k 0))),⟨by dsimp only;omega,by dsimp only;rw[CG,hx],by dsimp only;rw[Bm,←hxe];rfl⟩,by dsimp only;omega,⟨rfl,rfl,rfl,rfl⟩,.refl _⟩
 ·refine Dt ?_
  refine FK rfl (.of_eq ?_) (hn:=(by rw[Gm,hx]:(eW x).length=8))
  have hkk:k=8:=by omega
  subst hkk
  rw[Mc,hxe]⟩
def rH:List Nat:= [1779033703,3144134277,1013904242,2773480762,1359893119,2600822924,528734635,1541459225]
def Hg (m:Str) (n:Nat):List Nat:=(List.range n).foldl (fun h k=>Mc h ((m.drop (64*k)).take 64)) rH
theorem Xw (m:Str) (n:Nat):(Hg m n).length=8:=by
 unfold Hg
 induction n with
 |zero=>rfl
 |succ n ih=>rw[Bm];exact Nl ih
def Pb (h:List Nat) (d:Dig) (i:Nat):Dig:=d.put i (UInt8.ofNat (Vb (h.getD (i / 4) 0) (24 - 8*(i % 4))))
def dZ (s:Str):Dig:=(List.range 32).foldl (Pb (Hg (Iy s) ((Iy s).length / 64))) Dig.zero
instance xd (s:Str) [hs:B0 (s.length≤1000000)]:Bj Tryz.prog 168 [.str s] (.agg (eDig (dZ s))):=⟨by
 refine Aj Tryz.func168 Tryz.ntmps168 rfl (rs:= [.cell 2 45]) rfl rfl fun hb LF=>?_
 have hl:=hs.out
 have hpl:=SN s
 have j2:Cz (eW (List.replicate 8 0)) 8:=⟨rfl⟩
 have j3:Cz (eW rH) 8:=⟨rfl⟩
 refine Jc fun b2=>?_
 refine Jy [.const (.int .u32 1779033703),.const (.int .u32 3144134277),.const (.int .u32 1013904242),.const (.int .u32 2773480762),.const (.int .u32 1359893119),.const (.int .u32 2600822924),.const (.int .u32 528734635),.const (.int .u32 1541459225)] rH rfl rfl (by simp[rH]) rfl ?_
 refine IC fun b3=>?_
 unfold dZ
 generalize Iy s=m at hpl ⊢
 refine AV (σ:=Nat) (fun k=>64*k≤m.length) (fun k=>m.length+64 - 64*k) (fun k=> [(2,.raw (.pointer (some ⟨b2,0,none⟩))),(3,.raw (.pointer (some ⟨b3,0,none⟩))),(4,.str m),(5,.raw (.int .i64 ((64*k:Nat):Int)))]) (fun k=> .box b3 207 (eW (Hg m k)):: .box b2 45 (eDig Dig.zero)::LF) 0 (by simp) ⟨rfl,rfl,rfl,rfl⟩ (.refl _) ?_
 intro k hk
 have hbl:=Xw m k
 have j4:Cz (eW (Hg m k)) 8:=⟨by rw[Gm,hbl]⟩
 have j5:Cz (eW (Mc (Hg m k) ((m.drop (64*k)).take (64*k+64 - 64*k)))) 8:=⟨by rw[Gm,Nl hbl]⟩
 refine Dt ?_
 refine A1 (fun hc=>?_) (fun hc=>?_)
 ·have hc':64*k+64≤m.length:=by omega
  have j6:B0 (((m.drop (64*k)).take (64*k+64 - 64*k)).length=64):=⟨by rw[AG,Ab];omega⟩
  have j7:B0 ((Hg m k).length=8):=⟨hbl⟩
  refine Mx ?_
  refine BR 7 ?_ ?_
  ·decide+kernel
  refine Ir ?_
  refine⟨k+1,by omega,by dsimp only;omega,⟨rfl,rfl,rfl,?_⟩,?_⟩
  ·show PV.raw (Value.int .i64 _)=PV.raw (Value.int .i64 _)
   congr 2
  ·dsimp only
   have e:Hg m (k+1)=Mc (Hg m k) ((m.drop (64*k)).take (64*k+64 - 64*k)):=by
    rw[show 64*k+64 - 64*k=64 by omega];unfold Hg;rw[Bm]
   rw[e];exact .refl _
 have hkk:k=m.length / 64:=by omega
 subst hkk
 refine Jc fun b6=>?_
 generalize Hg m (m.length / 64)=h at hbl ⊢
 refine AV (σ:=Nat × Dig) (fun k=>k.1≤32∧k.2=(List.range k.1).foldl (Pb h) Dig.zero) (fun k=>32 - k.1) (fun k=> [(2,.raw (.pointer (some ⟨b2,0,none⟩))),(3,.raw (.pointer (some ⟨b3,0,none⟩))),(6,.raw (.pointer (some ⟨b6,0,none⟩))),(7,.raw (.int .i64 k.1))]) (fun k=> .box b6 45 (eDig k.2):: .box b3 207 (eW h):: .box b2 45 (eDig Dig.zero)::LF) (0,Dig.zero) ⟨by simp,by simp⟩ ⟨rfl,rfl,rfl,rfl⟩ (.refl _) ?_
 rintro⟨k,d⟩ ⟨hk,hd⟩
 dsimp only at hk hd ⊢
 refine Dt ?_
 refine A1 (fun hc=>?_) (fun hc=>?_)
 ·refine Dt ?_
  have e8:(24:Int) - 8*((k % 4:Nat):Int)=((24 - 8*(k % 4):Nat):Int):=by omega
  refine Rf (a:=24 - 8*(k % 4)) (by show PV.raw (.int .i64 ((24:Int) - 8*((k % 4:Nat):Int)))=_;rw[e8]) (by omega) ?_
  refine Ir ?_
  refine⟨(k+1,Pb h d k),⟨by dsimp only;omega,by dsimp only;rw[Bm,←hd]⟩,by dsimp only;omega,⟨rfl,rfl,rfl,rfl⟩,.refl _⟩
 ·refine Dt ?_
  refine FK rfl (.of_eq ?_)
  have hkk:k=32:=by omega
  subst hkk
  rw[hd]⟩
section
variable {P:Program} {N:Nat} {all:Array Oper} {K:Env→List Res→Prop} {fl:List Bool} {os:List Oper} {ρ:Env} {L:List Res} {d:Nat} {ty:TypeId} {pos:String} {af:Array Edge}
theorem dT {S T:TypeId} {k':IntKind} [hS:MU P S k'] [hT:MU P T .u64] {x:Operand} {k₀:IntKind} {n:Nat} (hx:ρ.ev x= .raw (.int k₀ (-(n:Int)))) (hn:0 < n∧n≤32) (k:AW P N all K fl.tail os (CT ρ d (.raw (.int .u64 ((18446744073709551616 - n:Nat):Int)))) L) (hd:Nat.blt d N=true:=by rfl):
  AW P N all K fl (⟨some d,.convert S T x,ty,pos,af,none⟩::os) ρ L:=Vg hx (by
 have e:IntKind.wrap .u64 (-(n:Int))=((18446744073709551616 - n:Nat):Int):=by
  simp only[IntKind.wrap,IntKind.signed,IntKind.bits]
  simp
  omega
 rw[e];exact k) hd
theorem lp {T T':TypeId} {x y:Operand} {n:Nat} (hx:ρ.ev x= .raw (.int .u64 ((18446744073709551616 - n:Nat):Int))) (hy:ρ.ev y= .raw (.int .u64 31)) (hn:0 < n∧n < 32) (k:AW P N all K fl.tail os (CT ρ d (.raw (.int .u64 ((32 - n:Nat):Int)))) L) (hd:Nat.blt d N=true:=by rfl):
  AW P N all K fl (⟨some d,.binOp .and T x y T',ty,pos,af,none⟩::os) ρ L:=GY hx hy (fun w=>by
 have key: ∀ m:Nat,m < 32→0 < m→IntKind.u64.wrap ((BitVec.ofInt 64 ((18446744073709551616 - m:Nat):Int)&&& BitVec.ofInt 64 31).toNat:Int)=((32 - m:Nat):Int):=by decide
 simp only[binOp,ne_eq,not_true_eq_false,if_false]
 show(pure (Value.int .u64 (IntKind.u64.wrap ((BitVec.ofInt 64 ((18446744073709551616 - n:Nat):Int)&&& BitVec.ofInt 64 31).toNat:Int))):Sem Value).run P w=_
 rw[key n hn.2 hn.1];rfl) k hd
end
theorem iZ (a b:Nat):dr a b=dr b a:=Nat.or_comm _ _
theorem lq (a n:Nat) (hn:0 < n∧n < 32):Bj Tryz.prog 274 [.raw (.int .u32 (a:Int)),.raw (.int .i64 (-(n:Int)))] (.raw (.int .u32 (GN a n:Nat))):=⟨by
 refine Aj Tryz.func274 Tryz.ntmps274 rfl (rs:= [.tmp 4]) rfl rfl fun hb LF=>?_
 refine Dt ?_
 refine dT (n:=n) rfl ⟨hn.1,by omega⟩ ?_
 refine lp (n:=n) rfl rfl hn ?_
 refine Dt ?_
 refine Vc (a:=32) (b:=32 - n) (by rfl) (by rfl) (by omega) (by decide) ?_
 refine Dt ?_
 refine Al (.of_eq ?_)
 rw[show 32 - (32 - n)=n by omega,GN,iZ]⟩
theorem HR (a n:Nat) (hn:0 < n∧n < 32):Bj Tryz.prog 231 [.raw (.int .u32 (a:Int)),.raw (.int .i64 (n:Int))] (.raw (.int .u32 (GN a n:Nat))):=⟨by
 have i1:Bj Tryz.prog 274 [.raw (.int .u32 (a:Int)),.raw (.int .i64 (-(n:Int)))] (.raw (.int .u32 (GN a n:Nat))):=lq a n hn
 refine Aj Tryz.func231 Tryz.ntmps231 rfl (rs:= [.tmp 4]) rfl rfl fun hb LF=>?_
 refine Dt ?_
 exact Al (.refl _)⟩
instance sg (a:Nat):Bj Tryz.prog 231 [.raw (.int .u32 (a:Int)),.raw (.int .i64 2)] (.raw (.int .u32 (GN a 2:Nat))):=HR a 2 ⟨by decide,by decide⟩
instance sf (a:Nat):Bj Tryz.prog 231 [.raw (.int .u32 (a:Int)),.raw (.int .i64 6)] (.raw (.int .u32 (GN a 6:Nat))):=HR a 6 ⟨by decide,by decide⟩
instance se (a:Nat):Bj Tryz.prog 231 [.raw (.int .u32 (a:Int)),.raw (.int .i64 7)] (.raw (.int .u32 (GN a 7:Nat))):=HR a 7 ⟨by decide,by decide⟩
instance qj (a:Nat):Bj Tryz.prog 231 [.raw (.int .u32 (a:Int)),.raw (.int .i64 11)] (.raw (.int .u32 (GN a 11:Nat))):=HR a 11 ⟨by decide,by decide⟩
instance qi (a:Nat):Bj Tryz.prog 231 [.raw (.int .u32 (a:Int)),.raw (.int .i64 13)] (.raw (.int .u32 (GN a 13:Nat))):=HR a 13 ⟨by decide,by decide⟩
instance qh (a:Nat):Bj Tryz.prog 231 [.raw (.int .u32 (a:Int)),.raw (.int .i64 17)] (.raw (.int .u32 (GN a 17:Nat))):=HR a 17 ⟨by decide,by decide⟩
instance qg (a:Nat):Bj Tryz.prog 231 [.raw (.int .u32 (a:Int)),.raw (.int .i64 18)] (.raw (.int .u32 (GN a 18:Nat))):=HR a 18 ⟨by decide,by decide⟩
instance qf (a:Nat):Bj Tryz.prog 231 [.raw (.int .u32 (a:Int)),.raw (.int .i64 19)] (.raw (.int .u32 (GN a 19:Nat))):=HR a 19 ⟨by decide,by decide⟩
instance qe (a:Nat):Bj Tryz.prog 231 [.raw (.int .u32 (a:Int)),.raw (.int .i64 22)] (.raw (.int .u32 (GN a 22:Nat))):=HR a 22 ⟨by decide,by decide⟩
instance qd (a:Nat):Bj Tryz.prog 231 [.raw (.int .u32 (a:Int)),.raw (.int .i64 25)] (.raw (.int .u32 (GN a 25:Nat))):=HR a 25 ⟨by decide,by decide⟩
instance kx:Bj Tryz.prog 230 [] (.agg (eW rK)):=⟨by
 refine Aj Tryz.func230 Tryz.ntmps230 rfl (rs:= [.cell 0 236]) rfl rfl fun hb LF=>?_
 refine Jc fun b=>?_
 refine Jy [.const (.int .u32 1116352408),.const (.int .u32 1899447441),.const (.int .u32 3049323471),.const (.int .u32 3921009573),.const (.int .u32 961987163),.const (.int .u32 1508970993),.const (.int .u32 2453635748),.const (.int .u32 2870763221),.const (.int .u32 3624381080),.const (.int .u32 310598401),.const (.int .u32 607225278),.const (.int .u32 1426881987),.const (.int .u32 1925078388),.const (.int .u32 2162078206),.const (.int .u32 2614888103),.const (.int .u32 3248222580),.const (.int .u32 3835390401),.const (.int .u32 4022224774),.const (.int .u32 264347078),.const (.int .u32 604807628),.const (.int .u32 770255983),.const (.int .u32 1249150122),.const (.int .u32 1555081692),.const (.int .u32 1996064986),.const (.int .u32 2554220882),.const (.int .u32 2821834349),.const (.int .u32 2952996808),.const (.int .u32 3210313671),.const (.int .u32 3336571891),.const (.int .u32 3584528711),.const (.int .u32 113926993),.const (.int .u32 338241895),.const (.int .u32 666307205),.const (.int .u32 773529912),.const (.int .u32 1294757372),.const (.int .u32 1396182291),.const (.int .u32 1695183700),.const (.int .u32 1986661051),.const (.int .u32 2177026350),.const (.int .u32 2456956037),.const (.int .u32 2730485921),.const (.int .u32 2820302411),.const (.int .u32 3259730800),.const (.int .u32 3345764771),.const (.int .u32 3516065817),.const (.int .u32 3600352804),.const (.int .u32 4094571909),.const (.int .u32 275423344),.const (.int .u32 430227734),.const (.int .u32 506948616),.const (.int .u32 659060556),.const (.int .u32 883997877),.const (.int .u32 958139571),.const (.int .u32 1322822218),.const (.int .u32 1537002063),.const (.int .u32 1747873779),.const (.int .u32 1955562222),.const (.int .u32 2024104815),.const (.int .u32 2227730452),.const (.int .u32 2361852424),.const (.int .u32 2428436474),.const (.int .u32 2756734187),.const (.int .u32 3204031479),.const (.int .u32 3329325298)] rK rfl rfl rfl rfl ?_
 have i1:Cz (eW rK) 64:=⟨rfl⟩
 have i2:Cz (eW (List.replicate 64 0)) 64:=⟨rfl⟩
 refine Ir ?_
 exact FK rfl (.refl _) (hn:=(rfl:(eW rK).length=64))⟩
instance ox:Bj Tryz.prog 186 [] (.agg (eW rH)):=⟨by
 refine Aj Tryz.func186 Tryz.ntmps186 rfl (rs:= [.cell 0 207]) rfl rfl fun hb LF=>?_
 refine Jc fun b=>?_
 refine Jy [.const (.int .u32 1779033703),.const (.int .u32 3144134277),.const (.int .u32 1013904242),.const (.int .u32 2773480762),.const (.int .u32 1359893119),.const (.int .u32 2600822924),.const (.int .u32 528734635),.const (.int .u32 1541459225)] rH rfl rfl (by simp[rH]) rfl ?_
 have i1:Cz (eW rH) 8:=⟨rfl⟩
 have i2:Cz (eW (List.replicate 8 0)) 8:=⟨rfl⟩
 refine Ir ?_
 exact FK rfl (.refl _) (hn:=(rfl:(eW rH).length=8))⟩
theorem W0 {a b i:Nat} (hb:b < 2 ^ i):a*2 ^ i|||b=a*2 ^ i+b:=by
 rw[←Nat.shiftLeft_eq];exact(Nat.shiftLeft_add_eq_or_of_lt hb a).symm
def QA (v:Nat) (c:UInt8):Nat:=dr (XM v 8) (c.toNat % 4294967296)
theorem Q9 {v:Nat} {c:UInt8} (hv:v < 16777216):QA v c=v*256+c.toNat:=by
 have hc:c.toNat < 256:=c.toNat_lt
 unfold QA dr XM
 rw[show min 8 32=8 from rfl,Nat.mod_mod,Nat.mod_mod,E1 (show c.toNat < 4294967296 by omega),E1 (show v*2 ^ 8 < 4294967296 by omega)]
 exact W0 (i:=8) (by omega)
theorem ZN (b:Str) (t:Nat) (h:4*t+4≤b.length):(List.range 4).foldl (fun v i=>QA v (b.getD (4*t+i) 0)) 0=Xo b t:=by
 have h0: ∀ i,(b.getD i 0).toNat < 256:=fun i=>UInt8.toNat_lt _
 have a0:=h0 (4*t)
 have a1:=h0 (4*t+1)
 have a2:=h0 (4*t+2)
 have a3:=h0 (4*t+3)
 show QA (QA (QA (QA 0 (b.getD (4*t+0) 0)) (b.getD (4*t+1) 0)) (b.getD (4*t+2) 0)) (b.getD (4*t+3) 0)=_
 rw[DR]
 rw[Q9 (v:=0) (by omega),Q9 (v:=0*256+(b.getD (4*t) 0).toNat) (by omega),Q9 (v:=(0*256+(b.getD (4*t) 0).toNat)*256+(b.getD (4*t+1) 0).toNat) (by omega),
  Q9 (v:=((0*256+(b.getD (4*t) 0).toNat)*256+(b.getD (4*t+1) 0).toNat)*256+(b.getD (4*t+2) 0).toNat) (by omega)]
 unfold Xo
 have e0:(4*(t:Int)).toNat=4*t:=by omega
 have e1:(4*(t:Int)+1).toNat=4*t+1:=by omega
 have e2:(4*(t:Int)+2).toNat=4*t+2:=by omega
 have e3:(4*(t:Int)+3).toNat=4*t+3:=by omega
 rw[e0,e1,e2,e3]
 generalize (b.getD (4*t) 0).toNat=x0 at*
 generalize (b.getD (4*t+1) 0).toNat=x1 at*
 generalize (b.getD (4*t+2) 0).toNat=x2 at*
 generalize (b.getD (4*t+3) 0).toNat=x3 at*
 unfold dr XM
 rw[show min 24 32=24 from rfl,show min 16 32=16 from rfl,show min 8 32=8 from rfl]
 simp only[E1 (show x0 < 4294967296 by omega),E1 (show x1 < 4294967296 by omega),E1 (show x2 < 4294967296 by omega),E1 (show x3 < 4294967296 by omega),E1 (show x0*2 ^ 24 < 4294967296 by omega),E1 (show x1*2 ^ 16 < 4294967296 by omega),E1 (show x2*2 ^ 8 < 4294967296 by omega)]
 have k1:x0*2 ^ 24|||x1*2 ^ 16=(x0*256+x1)*2 ^ 16:=by rw[W0 (by omega)];omega
 rw[k1,E1 (show(x0*256+x1)*2 ^ 16 < 4294967296 by omega)]
 have k2:(x0*256+x1)*2 ^ 16|||x2*2 ^ 8=((x0*256+x1)*256+x2)*2 ^ 8:=by rw[W0 (by omega)];omega
 rw[k2,E1 (show((x0*256+x1)*256+x2)*2 ^ 8 < 4294967296 by omega),W0 (by omega)]
 omega
def QS (b:Str) (k:Nat):List Nat:=(List.range (k - 16)).foldl PW ((List.range (min k 16)).foldl (Kd b) (List.replicate 64 0))
theorem fu (b:Str) (k:Nat):(QS b k).length=64:=Uu (Uv b _) _
theorem Za {b:Str} {k:Nat} (h:k < 16):QS b (k+1)=(QS b k).set k (Xo b k):=by
 unfold QS
 rw[show k+1 - 16=0 by omega,show k - 16=0 by omega,show min (k+1) 16=k+1 by omega,show min k 16=k by omega,Bm];rfl
theorem ZZ (b:Str) (j:Nat):QS b (j+16+1)=(QS b (j+16)).set (j+16) (SJ (QS b (j+16)) j):=by
 unfold QS
 rw[show j+16+1 - 16=j+1 by omega,show j+16 - 16=j by omega,show min (j+16+1) 16=16 by omega,show min (j+16) 16=16 by omega,Bm];rfl
theorem aV (b:Str) (k:Nat): ∀ j,k≤j→((List.range k).foldl (Kd b) (List.replicate 64 0)).getD j 0=0:=by
 induction k with
 |zero=>intro j _;rw[nz,List.foldl_nil,Eu,List.getElem?_replicate];split<;>rfl
 |succ k ih=>
  intro j hj
  have:=ih j (by omega)
  rw[Bm,Kd,List.getD,Mr (by omega)]
  exact this
theorem dM {b:Str} {k:Nat} (h:k < 16):(QS b k).set k 0=QS b k:=by
 have h0:=aV b k k (B4 _)
 have hl:=fu b k
 have e:QS b k=(List.range k).foldl (Kd b) (List.replicate 64 0):=by
  unfold QS
  rw[show k - 16=0 by omega,show min k 16=k by omega];rfl
 rw[←e]at h0
 refine GK (by simp) fun i h1 h2=>?_
 rw[List.getElem_set]
 split
 ·rename_i e
  subst e
  simpa [List.getD,h2]using h0.symm
 ·rfl
instance lX (s:Str) [hs:B0 (s.length=64)]:Bj Tryz.prog 229 [.str s] (.agg (eW (GP s))):=⟨by
 refine Aj Tryz.func229 Tryz.ntmps229 rfl (rs:= [.cell 2 236]) rfl rfl fun hb LF=>?_
 have hl:=hs.out
 have i2:Cz (eW (List.replicate 64 0)) 64:=⟨rfl⟩
 refine Jc fun b=>?_
 refine IC fun b2=>?_
 refine AV (σ:=Nat × List Nat) (fun k=>k.1≤64∧k.2.length=64∧k.2=QS s k.1) (fun k=>64 - k.1) (fun k=> [(0,.str s),(2,.raw (.pointer (some ⟨b,0,none⟩))),(3,.raw (.pointer (some ⟨b2,0,none⟩))),(9,.raw (.int .i64 k.1))]) (fun k=> .box b2 236 (eW k.2):: .box b 236 (eW (List.replicate 64 0))::LF) (0,List.replicate 64 0) ⟨by simp,by simp,rfl⟩ ⟨rfl,rfl,rfl,rfl⟩ (.refl _) ?_
 rintro⟨k,w⟩ ⟨hk,hw,he⟩
 dsimp only at hk hw he ⊢
 have i3:Cz (eW w) 64:=⟨by rw[Gm,hw]⟩
 refine Dt ?_
 refine A1 (fun hc=>?_) (fun hc=>?_)
 ·refine Dt ?_
  refine A1 (fun h16=>?_) (fun h16=>?_)
  ·have h16':k < 16:=by omega
   have hz:=dM (b:=s) h16'
   rw[←he]at hz
   refine Dt ?_
   refine Vf (ax:= .str s) (i:=4*k) (j:=4*k+4) rfl (by show PV.raw (.int .i64 (4*(k:Int)))=_;rw[show(4*(k:Int))=((4*k:Nat):Int) by omega]) (by show PV.raw (.int .i64 (4*(k:Int)+4))=_;rw[show(4*(k:Int)+4)=((4*k+4:Nat):Int) by omega]) (by omega) (by omega) (by omega) ?_
   refine UK (ax:= .str ((s.drop (4*k)).take (4*k+4 - 4*k))) rfl (by rw[AG,Ab];omega) fun t=>?_
   have hcl:((s.drop (4*k)).take (4*k+4 - 4*k)).length=4:=by rw[AG,Ab];omega
   have hce: ∀ i (h:i < ((s.drop (4*k)).take (4*k+4 - 4*k)).length),((s.drop (4*k)).take (4*k+4 - 4*k))[i]=s.getD (4*k+i) 0:=fun i h=>by
    rw[Ep,Gv,Eu,AZ (by omega)];rfl
   generalize (s.drop (4*k)).take (4*k+4 - 4*k)=cs at hcl hce ⊢
   refine Dt ?_
   refine AV (σ:=Nat × Nat) (fun j=>j.1≤4∧j.2=(List.range j.1).foldl (fun v i=>QA v (s.getD (4*k+i) 0)) 0) (fun j=>4 - j.1) (fun j=> [(0,.str s),(2,.raw (.pointer (some ⟨b,0,none⟩))),(3,.raw (.pointer (some ⟨b2,0,none⟩))),(4,.raw (.int .i64 k)),(9,.raw (.int .i64 k)),(21,.slice (cs.map eBy) t),(22,.raw (.int .i64 cs.length)),(23,.raw (.int .i64 j.1))]) (fun j=> .box b2 236 (eW (w.set k j.2)):: .box b 236 (eW (List.replicate 64 0))::LF) (0,0) ⟨by simp,rfl⟩ ⟨rfl,rfl,rfl,rfl,rfl,rfl,rfl,rfl⟩ (by dsimp only;rw[hz];exact .cons _ (.refl _)) ?_
   rintro⟨j,v⟩ ⟨hj,hv⟩
   dsimp only at hj hv ⊢
   refine Dt ?_
   refine A1 (fun hc2=>?_) (fun hc2=>?_)
   ·have hj4:j < 4:=by omega
    have hsl:(w.set k v).length=64:=by rw[CG,hw]
    have hkw:k < w.length:=by omega
    refine wf ?_
    refine Dt ?_
    refine⟨(j+1,QA v (s.getD (4*k+j) 0)),⟨by dsimp only;omega,?_⟩,by dsimp only;omega,⟨rfl,rfl,rfl,rfl,rfl,rfl,rfl,rfl⟩,?_⟩
    ·dsimp only
     rw[Bm,←hv]
    ·have e:(w.set k v).getD k 0=v:=by simp[List.getD,hkw]
     dsimp only
     rw[e,hce j (by omega),List.set_set]
     exact .refl _
   ·have hj4:j=4:=by omega
    subst hj4
    rw[ZN s k (by omega)]at hv
    refine Dt ?_
    refine⟨(k+1,w.set k v),⟨by dsimp only;omega,by dsimp only;rw[CG,hw],by dsimp only;rw[Za h16',←he,hv]⟩,by dsimp only;omega,⟨rfl,rfl,rfl,rfl⟩,.refl _⟩
  ·obtain⟨j,rfl⟩: ∃ j,k=j+16:=⟨k - 16,by omega⟩
   refine Mx ?_
   refine Da (by decide+kernel) ?_
   refine VW ?_
   refine BR 29 ?_ ?_
   ·decide+kernel
   refine Ir ?_
   refine⟨(j+16+1,w.set (j+16) (SJ w j)),⟨by dsimp only;omega,by dsimp only;rw[CG,hw],by dsimp only;rw[ZZ,←he]⟩,by dsimp only;omega,⟨rfl,rfl,rfl,rfl⟩,?_⟩
   dsimp only;rw[SI];exact .refl _
 ·refine Dt ?_
  refine FK rfl (.of_eq ?_) (hn:=(by rw[Gm,hw]:(eW w).length=64))
  have hkk:k=64:=by omega
  subst hkk
  rw[he];rfl⟩
end Go.Proofs
namespace Go.Q
open Go
section
variable {P:Program} {N:Nat} {all:Array Oper} {K:Env→List Res→Prop} {fl:List Bool} {os:List Oper} {ρ:Env} {L:List Res} {d:Nat} {ty:TypeId} {pos:String} {af:Array Edge}
theorem Xe {T n E by_:Nat} [hT:U4 P T n E] [hE:EG P E 1 by_] [hS:DH P E] {x y:Operand} {l:List Nat} {i:Nat} {kk:IntKind} (hx:ρ.ev x= .agg (eW l)) (hy:ρ.ev y= .raw (.int kk (i:Int))) (hl:l.length=n) (hi:i < n)
  (k:AW P N all K fl.tail os (CT ρ d (.raw (.int .u32 ((l.getD i 0:Nat):Int)))) L) (hd:Nat.blt d N=true:=by rfl):AW P N all K fl (⟨some d,.index T x y,ty,pos,af,none⟩::os) ρ L:=
 Bb hd (B7 fun a w g ha hi'=>⟨.int .u32 ((l.getD i 0:Nat):Int),by
  have h1:=ha x (by simp[Op.operands])
  rw[hx]at h1
  have h2:=CW ha (x:=y) (by simp[Op.operands]) hy
  obtain⟨z,z1,z2,_⟩:=hE.out
  show(do pure (Next.value (←Instr.index T (a.eval x) (a.eval y))):Sem Next).run P w=_
  rw[h2]
  generalize a.eval x=v at h1
  cases h1 with
  |agg hs hv=>
   rename_i vs
   have hil:i < l.length:=by omega
   have hiv:i < vs.size:=by rw[hs];simpa using hil
   have h3:vs[i]= .int .u32 ((l.getD i 0:Nat):Int):=by
    have:=hv i hiv (by simpa using hil)
    simp only[eW,BT]at this
    rw[this.raw_inv]
    simp[List.getD,hil]
   have hn:(0:Int)≤(i:Int)∧(i:Int) < (n:Int):=⟨by omega,by omega⟩
   have hp:(part E vs ((i:Int).toNat*1)).run P w= .ok (.int .u32 ((l.getD i 0:Nat):Int)) w:=by
    unfold part
    rw[Sem.run_bind,MJ hS.out,Br,J9]
    simp only[Result.andThen_ok,BP,if_false,Cf hiv,h3,Sem.run_pure]
   simp only[Instr.index,asIntOf,Sem.run_bind,Sem.run_pure,Result.andThen_ok,Hf hT.out,hn,and_self,if_true,sizeOf,typeInfo,run_program,z1,z2,hp],.raw _⟩) k
end
end Go.Q
namespace Go.Proofs
open Go Go.Q
attribute [local irreducible] EB AW B2 FW
def v8 (v:List Nat):List Nat:= [v.getD 0 0,v.getD 1 0,v.getD 2 0,v.getD 3 0,v.getD 4 0,v.getD 5 0,v.getD 6 0,v.getD 7 0]
theorem tm {v:List Nat} (h:v.length=8):v8 v=v:=by
 match v,h with
 | [_,_,_,_,_,_,_,_],_=>rfl
instance nT (h:List Nat) (s:Str) [hs:B0 (s.length=64)] [hh:B0 (h.length=8)]:Bj Tryz.prog 188 [.agg (eW h),.str s] (.agg (eW (Mc h s))):=⟨by
 refine Aj Tryz.func188 Tryz.ntmps188 rfl (rs:= [.cell 4 207]) rfl rfl fun hb LF=>?_
 have hl:=hh.out
 have hsl:=SK s
 have j1:Cz (eW (List.replicate 64 0)) 64:=⟨rfl⟩
 have j2:Cz (eW (List.replicate 8 0)) 8:=⟨rfl⟩
 have j3:Cz (eW h) 8:=⟨by rw[Gm,hl]⟩
 have j4:Cz (eW rK) 64:=⟨rfl⟩
 have j5:Cz (eW (GP s)) 64:=⟨by rw[Gm,hsl]⟩
 have hkl:rK.length=64:=rfl
 refine Jc fun b2=>?_
 refine IC fun b4=>?_
 refine IC fun b5=>?_
 refine IC fun b6=>?_
 refine AV (σ:=Nat × List Nat) (fun k=>k.1≤64∧k.2.length=8∧k.2=(List.range k.1).foldl (Lq (GP s)) h) (fun k=>64 - k.1) (fun k=> [(2,.raw (.pointer (some ⟨b2,0,none⟩))),(4,.raw (.pointer (some ⟨b4,0,none⟩))),(5,.raw (.pointer (some ⟨b5,0,none⟩))),(6,.raw (.pointer (some ⟨b6,0,none⟩))),(7,.raw (.int .u32 ((k.2.getD 0 0:Nat):Int))),(8,.raw (.int .u32 ((k.2.getD 1 0:Nat):Int))),(9,.raw (.int .u32 ((k.2.getD 2 0:Nat):Int))),(10,.raw (.int .u32 ((k.2.getD 3 0:Nat):Int))),(11,.raw (.int .u32 ((k.2.getD 4 0:Nat):Int))),(12,.raw (.int .u32 ((k.2.getD 5 0:Nat):Int))),(13,.raw (.int .u32 ((k.2.getD 6 0:Nat):Int))),(14,.raw (.int .u32 ((k.2.getD 7 0:Nat):Int))),(39,.raw (.int .i64 k.1))]) (fun k=> .box b6 236 (eW rK):: .box b5 236 (eW (GP s)):: .box b4 207 (eW (List.replicate 8 0)):: .box b2 207 (eW h)::LF) (0,h) ⟨by simp,hl,rfl⟩ ⟨rfl,rfl,rfl,rfl,rfl,rfl,rfl,rfl,rfl,rfl,rfl,rfl,rfl⟩ (.refl _) ?_
 rintro⟨k,v⟩ ⟨hk,hv,hve⟩
 dsimp only at hk hv hve ⊢
 refine Dt ?_
 refine A1 (fun hc=>?_) (fun hc=>?_)
 ·refine Dt ?_
  refine⟨(k+1,Lq (GP s) v k),⟨by dsimp only;omega,rfl,by dsimp only;rw[Bm,←hve]⟩,by dsimp only;omega,⟨rfl,rfl,rfl,rfl,rfl,rfl,rfl,rfl,rfl,rfl,rfl,rfl,rfl⟩,.refl _⟩
 have hkk:k=64:=by omega
 subst hkk
 replace hve:v=Ke h s:=hve
 have hv8:=tm hv
 refine Dt ?_
 refine Jy [.tmp 102,.tmp 103,.tmp 104,.tmp 105,.tmp 106,.tmp 107,.tmp 108,.tmp 109] (v8 v) rfl (xq (by rfl) (by rfl) (by rfl) (by rfl) (by rfl) (by rfl) (by rfl) (by rfl)) (by simp[v8]) (by simp[v8]) ?_
 rw[hv8]
 refine Dt ?_
 refine AV (σ:=Nat × List Nat) (fun k=>k.1≤8∧k.2.length=8∧k.2=(List.range k.1).foldl (Xx (Ke h s)) h) (fun k=>8 - k.1) (fun k=> [(2,.raw (.pointer (some ⟨b2,0,none⟩))),(4,.raw (.pointer (some ⟨b4,0,none⟩))),(110,.agg (eW v)),(111,.raw (.int .i64 k.1))]) (fun k=> .box b4 207 (eW (List.replicate 8 0)):: .box b2 207 (eW k.2)::LF) (0,h) ⟨by simp,hl,rfl⟩ ⟨rfl,rfl,rfl,rfl⟩ (.cons _ (.cons _ (.refl _))) ?_
 rintro⟨k,x⟩ ⟨hk,hx,hxe⟩
 dsimp only at hk hx hxe ⊢
 have j8:Cz (eW x) 8:=⟨by rw[Gm,hx]⟩
 refine Dt ?_
 refine A1 (fun hc=>?_) (fun hc=>?_)
 ·refine Dt ?_
  refine Xe rfl rfl hv (by omega) ?_
  refine Dt ?_
  refine⟨(k+1,x.set k (Mo (x.getD k 0) ((Ke h s).getD k 0))),⟨by dsimp only;omega,by dsimp only;rw[CG,hx],by dsimp only;rw[Bm,←hxe];rfl⟩,by dsimp only;omega,⟨rfl,rfl,rfl,rfl⟩,?_⟩
  rw[←hve]
  exact .refl _
 ·refine Dt ?_
  refine FK rfl (.of_eq ?_) (hn:=(by rw[Gm,hx]:(eW x).length=8))
  have hkk:k=8:=by omega
  subst hkk
  rw[Mc,hxe]⟩
end Go.Proofs
namespace Go.Q
open Go
section
variable {P:Program} {N:Nat} {all:Array Oper} {K:Env→List Res→Prop} {fl:List Bool} {os:List Oper} {ρ:Env} {L:List Res} {d:Nat} {ty:TypeId} {pos:String} {af:Array Edge}
theorem la {T T':TypeId} {x y:Operand} {a b:Nat} (hx:ρ.ev x= .raw (.int .u64 (a:Int))) (hy:ρ.ev y= .raw (.int .i64 (b:Int))) (k:AW P N all K fl.tail os (CT ρ d (.raw (.int .u64 ((a / 2 ^ (min b 64):Nat):Int)))) L) (hd:Nat.blt d N=true:=by rfl):
  AW P N all K fl (⟨some d,.binOp .shr T x y T',ty,pos,af,none⟩::os) ρ L:=GY hx hy (fun w=>by
   have h0: ¬(b:Int) < 0:=by omega
   simp only[binOp,Op.shift,h0,if_false,IntKind.bits,Br]
   rw[Q5];rfl) k hd
theorem lk {T E sz by_:Nat} [hT:L0 P T E] [hE:EG P E sz by_] {x y z:Operand} {α:Type} {f:α→List PV} [hf:KY f sz] {l:List α} {t:CZ} {k1 k2:IntKind} {i j:Nat} (hx:ρ.ev x= .slice (l.map f) t) (hy:ρ.ev y= .raw (.int k1 (i:Int))) (hz:ρ.ev z= .raw (.int k2 (j:Int))) (hij:i≤j) (hj:j≤l.length)
  (k:AW P N all K fl.tail os (CT ρ d (.slice (((l.drop i).take (j - i)).map f) .ro)) L) (hd:Nat.blt d N=true:=by rfl):AW P N all K fl (⟨some d,.slice T x (some y) (some z) none,ty,pos,af,none⟩::os) ρ L:=
 Bb hd (Vs i j hx hij (by simpa using hj) (fun e he=>by obtain⟨a,_,rfl⟩:=AX.1 he;exact hf.out a) (fun o e=>by cases e;exact⟨_,hy⟩) (by simp) (fun o e=>by cases e;exact⟨_,hz⟩) (by simp)) (by
  rw[←List.map_drop,←ZL];exact k)
end
end Go.Q
namespace Go.Proofs
open Go Go.Q
attribute [local irreducible] EB AW B2 FW
def na (m:Str) (k:Nat):Str:=(m.drop (64*k)).take 64
def y3 (s:Str):List PV:= [.str s]
def NV (s:Str):List Str:=(List.range ((Iy s).length / 64)).map (na (Iy s))
theorem iA (s:Str):(Iy s).length % 64=0:=by rw[SN];omega
theorem SL (s:Str) (n:Nat) (h:n≤s.length):(Iy s).drop n=(s.drop n++ [128])++List.replicate ((120 - (s.length+1) % 64) % 64) 0++FF (s.length*8) 8:=by
 unfold Iy
 rw[AL,AL,List.drop_append_of_le_length h,AL,AL]
theorem ep {s:Str} {k:Nat} (h:64*k+64≤s.length):na (Iy s) k=(s.drop (64*k)).take 64:=by
 unfold na
 rw[SL s (64*k) (by omega),AL,AL,FX (by rw[Ab];omega)]
theorem VG (s:Str) {k:Nat} (h:k < (Iy s).length / 64):(NV s).take (k+1)=(NV s).take k++ [na (Iy s) k]:=by
 have hl:k < (NV s).length:=by simpa [NV]using h
 rw[A6 hl]
 simp[NV]
theorem Pf (n j:Nat):FF n (j+1)=FF n j++ [UInt8.ofNat (n / 2 ^ (min (8*(7 - j)) 64))]:=by
 rw[FF,FF,Hz,Az];rfl
theorem Z6 (s:Str) (hs:s.length≤1000000):ZA Tryz.prog 228 [.pt [.str s] 0] y3 (NV s):=by
 have hpl:=SN s
 have hpm:=iA s
 obtain⟨q,hq⟩: ∃ q,q=s.length / 64:=⟨_,rfl⟩
 have hq1:64*q≤s.length:=by omega
 have hq2:s.length < 64*q+64:=by omega
 have hn:q < (Iy s).length / 64:=by omega
 intro l J Jx hY L hJ
 have e128:Fg (.raw (.int .u8 128)) eBy (128:UInt8):=(inferInstance:Fg (.raw (.int .u8 (((128:UInt8)).toNat:Int))) eBy 128)
 have e0:Fg (.raw (.int .u8 0)) eBy (0:UInt8):=(inferInstance:Fg (.raw (.int .u8 (((0:UInt8)).toNat:Int))) eBy 0)
 have hpre: ∀ k,(NV s).take k <+:NV s:=fun k=>List.take_prefix _ _
 refine Bt Tryz.func228 rfl Tryz.ntmps228 (rs:= []) rfl rfl fun hb LF=>?_
 refine wf ?_
 refine gH (by rfl) (by rfl) (by decide) (by omega) ?_
 rw[show s.length / (@OfNat.ofNat Nat 64 _)=q from hq.symm]
 refine wf ?_
 refine AV (σ:=Nat × List Res) (fun k=>k.1≤q∧J ((NV s).take k.1) k.2) (fun k=>q - k.1) (fun k=> [(0,.raw (.func (.yield l) #[] #[])),(1,.pt [.str s] 0),(3,.raw (.int .i64 ((64*q:Nat):Int))),(4,.raw (.int .i64 ((64*k.1:Nat):Int)))]) (fun k=>k.2++LF) (0,L) ⟨by simp,hJ⟩ ⟨rfl,rfl,?_,rfl⟩ (.refl _) ?_
 ·show PV.raw (.int .i64 ((q:Int)*64))=_
  rw[show((q:Int)*64)=((64*q:Nat):Int) by omega]
 rintro⟨k,L1⟩ ⟨hk,hJ1⟩
 dsimp only at hk hJ1 ⊢
 refine wf ?_
 refine A1 (fun hc=>?_) (fun hc=>?_)
 ·have hkq:k < q:=by omega
  have hb:=ep (s:=s) (k:=k) (by omega)
  have hbt:=VG s (k:=k) (by omega)
  refine wf ?_
  refine Vf (ax:= .str s) (i:=64*k) (j:=64*k+64) rfl rfl (by show PV.raw (.int .i64 (((64*k:Nat):Int)+64))=_;rw[show(((64*k:Nat):Int)+64)=((64*k+64:Nat):Int) by omega]) (by omega) (by omega) (by omega) ?_
  rw[show 64*k+64 - 64*k=64 by omega,←hb]
  refine Hc L1 LF rfl rfl rfl (.refl _) _ (hY ((NV s).take k) (na (Iy s) k) L1 (by rw[←hbt];exact hpre _) hJ1) fun bo L' hR=>?_
  refine wf ?_
  rw[←hbt]at hR
  rcases hR with ⟨rfl,hJ2⟩|⟨rfl,hJx⟩
  ·refine wf ?_
   refine⟨(k+1,L'),⟨by dsimp only;omega,hJ2⟩,by dsimp only;omega,⟨rfl,rfl,rfl,?_⟩,.refl _⟩
   show PV.raw (.int .i64 (((64*k:Nat):Int)+64))=_
   rw[show(((64*k:Nat):Int)+64)=((64*(k+1):Nat):Int) by omega]
  ·refine wf ?_
   exact⟨trivial,_,L',.nil,.refl _,.inr ⟨_,hJx⟩⟩
 ·have hkq:k=q:=by omega
  subst hkq
  refine wf ?_
  refine UK (ax:= .str (s.drop (64*k))) rfl (by rw[Ab];omega) fun t=>?_
  refine QL fun t1=>?_
  have hdl:(s.drop (64*k)).length=s.length - 64*k:=Ab
  refine AV (σ:=Nat × CZ) (fun j=>j.1≤(120 - (s.length+1) % 64) % 64) (fun j=>(120 - (s.length+1) % 64) % 64 - j.1) (fun j=> [(0,.raw (.func (.yield l) #[] #[])),(1,.pt [.str s] 0),(5,.slice (((s.drop (64*k)++ [128])++List.replicate j.1 0).map eBy) j.2)]) (fun j=> .tok j.2 ((s.drop (64*k)++ [128])++List.replicate j.1 0).length 1::(L1++LF)) (0,t1) (by simp) ⟨rfl,rfl,?_⟩ ?_ ?_
  ·rw[List.replicate_zero,B1];rfl
  ·rw[List.replicate_zero,B1];exact .refl _
  rintro⟨j,t2⟩ hj
  dsimp only at hj ⊢
  have hjl:((s.drop (64*k)++ [128])++List.replicate j (0:UInt8)).length=s.length - 64*k+1+j:=by simp[hdl];omega
  refine wf ?_
  refine Zc (by rfl) (by rfl) (by decide) ?_
  refine wf ?_
  refine AN (fun hc2=>?_) (fun hc2=>?_)
  ·have hlt:j < (120 - (s.length+1) % 64) % 64:=by
    rcases BC j ((120 - (s.length+1) % 64) % 64)with h|h
    ·exact h
    ·exfalso
     apply hc2
     rw[hjl]
     omega
   generalize hmj:(s.drop (64*k)++ [128])++List.replicate j (0:UInt8)=mj at hjl ⊢
   refine QL fun t3=>?_
   refine⟨(j+1,t3),by dsimp only;omega,by dsimp only;omega,⟨rfl,rfl,?_⟩,?_⟩
   ·dsimp only
    rw[X6,←AL,hmj];rfl
   ·dsimp only
    rw[X6,←AL,hmj];exact .refl _
  have hjz:j=(120 - (s.length+1) % 64) % 64:=by
   rw[hjl]at hc2
   omega
  subst hjz
  generalize hm0:(s.drop (64*k)++ [128])++List.replicate ((120 - (s.length+1) % 64) % 64) (0:UInt8)=m0 at hjl ⊢
  refine wf ?_
  refine AV (σ:=Nat × CZ) (fun j=>j.1≤8) (fun j=>8 - j.1) (fun j=> [(0,.raw (.func (.yield l) #[] #[])),(1,.pt [.str s] 0),(5,.slice ((m0++FF (s.length*8) j.1).map eBy) j.2),(6,.raw (.int .i64 (56 - 8*(j.1:Int))))]) (fun j=> .tok j.2 (m0++FF (s.length*8) j.1).length 1::(L1++LF)) (0,t2) (by simp) ⟨rfl,rfl,?_,rfl⟩ ?_ ?_
  ·show _=PV.slice ((m0++ []).map eBy) _
   rw[B1];rfl
  ·show List.Sublist (_::_) (_::_)
   rw[show m0++FF (s.length*8) 0=m0 from B1 _];exact .refl _
  rintro⟨j,t3⟩ hj8
  dsimp only at hj8 ⊢
  have hpt:(m0++FF (s.length*8) j).length=s.length - 64*k+1+(120 - (s.length+1) % 64) % 64+j:=by simp[FF,hjl]
  refine wf ?_
  refine A1 (fun hc3=>?_) (fun hc3=>?_)
  ·generalize hmj:m0++FF (s.length*8) j=mj at hpt ⊢
   refine wf ?_
   refine Vd (b:=8) (by rfl) (by rfl) (by omega) ?_
   refine wf ?_
   refine la (b:=8*(7 - j)) (by rfl) (by show PV.raw (.int .i64 (56 - 8*(j:Int)))=_;rw[show(56 - 8*(j:Int))=((8*(7 - j):Nat):Int) by omega]) ?_
   refine QL fun t4=>?_
   refine⟨(j+1,t4),by dsimp only;omega,by dsimp only;omega,⟨rfl,rfl,?_,?_⟩,?_⟩
   ·dsimp only
    rw[Pf,←AL,hmj];rfl
   ·show PV.raw (.int .i64 (56 - 8*(j:Int) - 8))=PV.raw (.int .i64 (56 - 8*((j+1:Nat):Int)))
    rw[show(56 - 8*(j:Int) - 8)=56 - 8*((j+1:Nat):Int) by omega]
   ·dsimp only
    rw[Pf,←AL,hmj];exact .refl _
  have hj:j=8:=by omega
  subst hj
  have hm1:m0++FF (s.length*8) 8=(Iy s).drop (64*k):=by rw[SL s (64*k) hq1,←hm0]
  rw[hm1]at hpt ⊢
  refine wf ?_
  refine AV (σ:=Nat × List Res) (fun i=>k+i.1≤(Iy s).length / 64∧J ((NV s).take (k+i.1)) i.2) (fun i=>(Iy s).length / 64 - (k+i.1)) (fun i=> [(0,.raw (.func (.yield l) #[] #[])),(5,.slice (((Iy s).drop (64*k)).map eBy) t3),(7,.raw (.int .i64 ((64*i.1:Nat):Int)))]) (fun i=>i.2++LF) (0,L1) ⟨by dsimp only;omega,hJ1⟩ ⟨rfl,rfl,rfl⟩ (.cons _ (.refl _)) ?_
  rintro⟨i,L2⟩ ⟨hi,hJ2⟩
  dsimp only at hi hJ2 ⊢
  refine wf ?_
  refine A1 (fun hc4=>?_) (fun hc4=>?_)
  ·have hbt:=VG s (k:=k+i) (by omega)
   refine wf ?_
   refine lk (i:=64*i) (j:=64*i+64) rfl rfl (by show PV.raw (.int .i64 (((64*i:Nat):Int)+64))=_;rw[show(((64*i:Nat):Int)+64)=((64*i+64:Nat):Int) by omega]) (by omega) (by omega) ?_
   refine wf ?_
   have e:(((Iy s).drop (64*k)).drop (64*i)).take (64*i+64 - 64*i)=na (Iy s) (k+i):=by
    rw[L8,na,show 64*i+64 - 64*i=64 by omega,show 64*k+64*i=64*(k+i) by omega]
   rw[e]
   refine Hc L2 LF rfl rfl rfl (.refl _) _ (hY ((NV s).take (k+i)) (na (Iy s) (k+i)) L2 (by rw[←hbt];exact hpre _) hJ2) fun bo L' hR=>?_
   refine wf ?_
   rw[←hbt]at hR
   rcases hR with ⟨rfl,hJ3⟩|⟨rfl,hJx⟩
   ·refine wf ?_
    refine⟨(i+1,L'),⟨by dsimp only;omega,hJ3⟩,by dsimp only;omega,⟨rfl,rfl,?_⟩,.refl _⟩
    show PV.raw (.int .i64 (((64*i:Nat):Int)+64))=_
    rw[show(((64*i:Nat):Int)+64)=((64*(i+1):Nat):Int) by omega]
   ·refine wf ?_
    exact⟨trivial,_,L',.nil,.refl _,.inr ⟨_,hJx⟩⟩
  ·have hie:k+i=(Iy s).length / 64:=by omega
   rw[hie,AA (by simp[NV])]at hJ2
   refine wf ?_
   exact⟨trivial,_,L2,.nil,.refl _,.inl hJ2⟩
end Go.Proofs
namespace Go.Q
open Go
section
variable {P:Program} {N:Nat} {all:Array Oper} {K:Env→List Res→Prop} {fl:List Bool} {os:List Oper} {ρ:Env} {L:List Res} {d:Nat} {ty:TypeId} {pos:String} {af:Array Edge}
theorem lZ {T T':TypeId} {x y:Operand} {a b:Nat} (hx:ρ.ev x= .raw (.int .u32 (a:Int))) (hy:ρ.ev y= .raw (.int .i64 (b:Int))) (k:AW P N all K fl.tail os (CT ρ d (.raw (.int .u32 (Vb a b:Nat)))) L) (hd:Nat.blt d N=true:=by rfl):
  AW P N all K fl (⟨some d,.binOp .shr T x y T',ty,pos,af,none⟩::os) ρ L:=GY hx hy (fun w=>by
   have h0: ¬(b:Int) < 0:=by omega
   simp only[binOp,Op.shift,h0,if_false,IntKind.bits,Br]
   rw[Q5];rfl) k hd
end
end Go.Q
namespace Go.Proofs
open Go Go.Q
attribute [local irreducible] EB AW B2 FW
instance tK (s:Str):Bj Tryz.prog 187 [.str s] (.clo 228 [.pt [.str s] 0]):=⟨by
 refine Aj Tryz.func187 Tryz.ntmps187 rfl (rs:= [.tmp 2]) rfl rfl fun hb LF=>?_
 refine wf ?_
 exact Al (.refl _)⟩
theorem js {s b:Str} (h:b∈NV s):b.length=64:=by
 obtain⟨k,hk,rfl⟩:=AX.1 h
 have:=DS.1 hk
 rw[na,AG,Ab]
 omega
theorem eo (s:Str):(NV s).foldl Mc rH=Hg (Iy s) ((Iy s).length / 64):=by
 rw[NV,List.foldl_map];rfl
instance wg (s:Str) [hs:B0 (s.length≤1000000)]:Bj Tryz.prog 149 [.str s] (.agg (eDig (dZ s))):=⟨by
 refine Aj Tryz.func149 Tryz.ntmps149 rfl (rs:= [.cell 2 45]) rfl rfl fun hb LF=>?_
 have hl:=hs.out
 have j2:Cz (eW (List.replicate 8 0)) 8:=⟨rfl⟩
 have j3:Cz (eW rH) 8:=⟨rfl⟩
 refine Jc fun b2=>?_
 refine IC fun b3=>?_
 refine HX (Z6 s hl) [12] (σ:=List Nat) (fun pre h=>h=pre.foldl Mc rH∧h.length=8) (fun _ _=>False) (fun h LF'=> .box b3 207 (eW h):: .box b2 45 (eDig Dig.zero)::LF') rH LF ?_ rfl (fun _=>rfl) (by simp) (fun s' LF'=>rfl) (.refl _) ⟨rfl,rfl⟩ ?_ ?_ ?_
 ·exact .refl _
 ·rintro pre x h LF' hpx ⟨hh,h8⟩
  have hx:x∈NV s:=hpx.subset (by simp)
  have i1:B0 (x.length=64):=⟨js hx⟩
  have i2:B0 (h.length=8):=⟨h8⟩
  have j4:Cz (eW h) 8:=⟨by rw[Gm,h8]⟩
  have j5:Cz (eW (Mc h x)) 8:=⟨by rw[Gm,Nl h8]⟩
  refine Dt ?_
  refine⟨Mc h x,⟨by rw[DF,←hh];rfl,Nl h8⟩,.refl _⟩
 ·rintro h ⟨hh,h8⟩
  rw[eo]at hh
  have hrs:dZ s=(List.range 32).foldl (Pb h) Dig.zero:=by rw[dZ,←hh]
  rw[hrs]
  have j4:Cz (eW h) 8:=⟨by rw[Gm,h8]⟩
  refine Jc fun b5=>?_
  refine AV (σ:=Nat × Dig) (fun k=>k.1≤8∧k.2=(List.range (4*k.1)).foldl (Pb h) Dig.zero) (fun k=>8 - k.1) (fun k=> [(2,.raw (.pointer (some ⟨b2,0,none⟩))),(5,.raw (.pointer (some ⟨b5,0,none⟩))),(16,.agg (eW h)),(17,.raw (.int .i64 k.1))]) (fun k=> .box b5 45 (eDig k.2):: .box b2 45 (eDig Dig.zero)::LF) (0,Dig.zero) ⟨by simp,rfl⟩ ⟨rfl,rfl,rfl,rfl⟩ (.cons_cons _ (.cons _ (.refl _))) ?_
  rintro⟨k,d⟩ ⟨hk,hd⟩
  dsimp only at hk hd ⊢
  refine Dt ?_
  refine A1 (fun hc=>?_) (fun hc=>?_)
  ·refine Dt ?_
   refine Xe rfl rfl h8 (by omega) ?_
   refine Dt ?_
   refine AV (σ:=Nat × Dig) (fun j=>j.1≤4∧j.2=(List.range (4*k+j.1)).foldl (Pb h) Dig.zero) (fun j=>4 - j.1) (fun j=> [(2,.raw (.pointer (some ⟨b2,0,none⟩))),(5,.raw (.pointer (some ⟨b5,0,none⟩))),(6,.raw (.int .i64 k)),(7,.raw (.int .u32 ((h.getD k 0:Nat):Int))),(16,.agg (eW h)),(17,.raw (.int .i64 k)),(21,.raw (.int .i64 j.1))]) (fun j=> .box b5 45 (eDig j.2):: .box b2 45 (eDig Dig.zero)::LF) (0,d) ⟨by simp,hd⟩ ⟨rfl,rfl,rfl,rfl,rfl,rfl,rfl⟩ (.refl _) ?_
   rintro⟨j,e⟩ ⟨hj,he⟩
   dsimp only at hj he ⊢
   refine Dt ?_
   refine A1 (fun hc2=>?_) (fun hc2=>?_)
   ·refine Dt ?_
    refine lZ (a:=h.getD k 0) (b:=24 - 8*j) rfl (by show PV.raw (.int .i64 (24 - 8*(j:Int)))=_;rw[show(24 - 8*(j:Int))=((24 - 8*j:Nat):Int) by omega]) ?_
    refine Dt ?_
    have er:Pb h e (4*k+j)=e.put (4*k+j) (UInt8.ofNat (Vb (h.getD k 0) (24 - 8*j))):=by
     rw[Pb,show(4*k+j) / 4=k by omega,show(4*k+j) % 4=j by omega]
    refine⟨(j+1,Pb h e (4*k+j)),⟨by dsimp only;omega,by dsimp only;rw[show 4*k+(j+1)=4*k+j+1 by omega,Bm,←he]⟩,by dsimp only;omega,⟨rfl,rfl,rfl,rfl,rfl,rfl,rfl⟩,?_⟩
    dsimp only
    rw[er,show(4*(k:Int)+(j:Int)).toNat=4*k+j by omega]
    exact .refl _
   ·have hj4:j=4:=by omega
    subst hj4
    refine Dt ?_
    exact⟨(k+1,e),⟨by dsimp only;omega,by dsimp only;rw[he,show 4*(k+1)=4*k+4 by omega]⟩,by dsimp only;omega,⟨rfl,rfl,rfl,rfl⟩,.refl _⟩
  ·have hk8:k=8:=by omega
   subst hk8
   refine Dt ?_
   refine FK rfl (.of_eq ?_)
   rw[hd]
 ·intro pre s' h
  exact h.elim⟩
theorem fV {P:Program} {E:Nat} {α:Type} {ev:α→PV} {a0:α} {v:Value} (h:(P.info? E).bind (·.zero)=some v) (hv: ∀ g,VR g v (ev a0)):ZV P E ev a0:=⟨by
 obtain⟨i,h1,h2⟩:=Ed.1 h
 exact⟨i,v,h1,h2,hv⟩⟩
instance :QD Tryz.prog 84 45 4:=⟨by kernel_rfl⟩
instance :QD Tryz.prog 169 45 39:=⟨by kernel_rfl⟩
instance :QD Tryz.prog 171 45 199:=⟨by kernel_rfl⟩
instance :QD Tryz.prog 240 3 3:=⟨by kernel_rfl⟩
instance :QD Tryz.prog 270 3 272:=⟨by kernel_rfl⟩
instance :ZV Tryz.prog 4 vBool false:=fV (v:= .bool false) (by kernel_rfl) fun _=> .raw _
instance :ZV Tryz.prog 3 vInt 0:=fV (v:= .int .i64 0) (by kernel_rfl) fun _=> .raw _
instance :ZV Tryz.prog 39 (PD eDig) []:=fV (v:= .slice none 0 0) (by kernel_rfl) fun _=> .nilR
instance :ZV Tryz.prog 199 (PD eAtm) []:=fV (v:= .slice none 0 0) (by kernel_rfl) fun _=> .nilR
instance :ZV Tryz.prog 272 vId (.raw .nilFunc):=fV (v:= .nilFunc) (by kernel_rfl) fun _=> .raw _
instance :Kn Tryz.prog 84 kDig vBool:=⟨trivial⟩
instance :Kn Tryz.prog 169 kDig (PD eDig):=⟨trivial⟩
instance :Kn Tryz.prog 171 kDig (PD eAtm):=⟨trivial⟩
instance :Kn Tryz.prog 240 kInt vInt:=⟨trivial⟩
instance :Kn Tryz.prog 270 kInt vId:=⟨trivial⟩
theorem Mv {P:Program} {T:Nat} {v:Value} {x:PV} (h:(P.info? T).bind (·.zero)=some v) (hc:v.cells= #[v]) (hv: ∀ g,VR g v x):Cu P T [x]:=⟨by
 obtain⟨i,h1,h2⟩:=Ed.1 h
 exact⟨i,v,[v],h1,h2,hc,fun g=> .cons (hv g) (.nil g)⟩⟩
instance :Cu Tryz.prog 3 [.raw (.int .i64 0)]:=Mv (v:= .int .i64 0) (by kernel_rfl) rfl fun _=> .raw _
instance :Cu Tryz.prog 4 [.raw (.bool false)]:=Mv (v:= .bool false) (by kernel_rfl) rfl fun _=> .raw _
instance :Cu Tryz.prog 39 [.slice [] .nil]:=Mv (v:= .slice none 0 0) (by kernel_rfl) rfl fun _=> .nilN none (by simp)
instance :Cu Tryz.prog 199 [.slice [] .nil]:=Mv (v:= .slice none 0 0) (by kernel_rfl) rfl fun _=> .nilN none (by simp)
instance :Cu Tryz.prog 23 [.slice [] .nil]:=Mv (v:= .slice none 0 0) (by kernel_rfl) rfl fun _=> .nilN none (by simp)
instance :Cu Tryz.prog 187 [.slice [] .nil]:=Mv (v:= .slice none 0 0) (by kernel_rfl) rfl fun _=> .nilN none (by simp)
instance :Cu Tryz.prog 84 [.raw (.map none)]:=Mv (v:= .map none) (by kernel_rfl) rfl fun _=> .raw _
instance :Cu Tryz.prog 169 [.raw (.map none)]:=Mv (v:= .map none) (by kernel_rfl) rfl fun _=> .raw _
instance (a b:List UInt8) (t u:CZ):ZC Tryz.prog 180 [.slice (a.map eBy) t,.slice (b.map eBy) u] (.raw (.int .i64 (NR a b))):=Wg Tryz.func180 (by kernel_rfl) (by kernel_rfl) (by kernel_rfl) (by kernel_rfl) a b t u
instance (s:Str) (c:Int):ZC Tryz.prog 342 [.str s,.raw (.int .u8 c)] (.raw (.int .i64 (Lib.indexByte s c.toNat.toUInt8))):=TI Tryz.func342 (by kernel_rfl) (by kernel_rfl) (by kernel_rfl) (by kernel_rfl) s c
instance pV (a b:List UInt8) (t u:CZ):Bj Tryz.prog 141 [.slice (a.map eBy) t,.slice (b.map eBy) u] (.raw (.int .i64 (NR a b))):=⟨by
 refine Aj Tryz.func141 Tryz.ntmps141 rfl (rs:= [.tmp 4]) rfl rfl fun hb LF=>?_
 refine wf ?_
 exact Al (.refl _)⟩
instance YA (a b:Dig):Bj Tryz.prog 84 [.agg (eDig a),.agg (eDig b)] (.raw (.int .i64 (DY a b))):=⟨by
 refine Aj Tryz.func84 Tryz.ntmps84 rfl (rs:= [.tmp 4]) rfl rfl fun hb LF=>?_
 refine wf ?_
 refine Al (.of_eq ?_)
 rfl⟩
instance uf (a:Int):Bj Tryz.prog 325 [.raw (.int .i64 a)] (.raw (.bool false)):=⟨by
 refine Aj Tryz.func325 Tryz.ntmps325 rfl (rs:= [.tmp 2]) rfl rfl fun hb LF=>?_
 refine wf ?_
 refine Al (.of_eq ?_)
 simp⟩
def Wv (a b:Int):Int:=if a < b then -1 else if b < a then 1 else 0
instance tI (a b:Int):Bj Tryz.prog 296 [.raw (.int .i64 a),.raw (.int .i64 b)] (.raw (.int .i64 (Wv a b))):=⟨by
 refine Aj Tryz.func296 Tryz.ntmps296 rfl (rs:= [.tmp 4]) rfl rfl fun hb LF=>?_
 refine wf ?_
 refine A1 (fun h=>?_) (fun h=>?_)
 ·refine wf ?_
  refine Al (.of_eq ?_)
  rw[Wv,if_pos h]
 refine wf ?_
 refine A1 (fun h2=>?_) (fun h2=>?_)
 ·refine wf ?_
  refine Al (.of_eq ?_)
  rw[Wv,if_neg h,if_pos h2]
 ·refine wf ?_
  refine Al (.of_eq ?_)
  rw[Wv,if_neg h,if_neg h2]⟩
instance Vz (a b:Ident):Bj Tryz.prog 264 [.agg (eIdent a),.agg (eIdent b)] (.raw (.int .i64 (J6 a b))):=⟨by
 refine Aj Tryz.func264 Tryz.ntmps264 rfl (rs:= [.tmp 4]) rfl rfl fun hb LF=>?_
 refine wf ?_
 have e:NR a.patch.bs b.patch.bs=DY a.patch b.patch:=rfl
 rw[e]
 refine AN (fun h=>?_) (fun h=>?_)
 ·refine wf ?_
  refine Al (.of_eq ?_)
  rw[J6,if_pos h]
 ·refine wf ?_
  refine Al (.of_eq ?_)
  rw[J6,if_neg (by simp[h])];rfl⟩
instance xR (x:Ident):Bj Tryz.prog 164 [.agg (eIdent x)] (.raw (.bool (decide (x.patch=Dig.zero)))):=⟨by
 refine Aj Tryz.func164 Tryz.ntmps164 rfl (rs:= [.tmp 2]) rfl rfl fun hb LF=>?_
 refine wf ?_
 exact Al (.refl _)⟩
instance uH:Bj Tryz.prog 202 [] (.agg (eIdent ⟨Dig.zero,-1⟩)):=⟨by
 refine Aj Tryz.func202 Tryz.ntmps202 rfl (rs:= [.cell 0 98]) rfl rfl fun hb LF=>?_
 refine ZO fun b=>?_
 exact FK rfl (.refl _)⟩
instance ft (s:Str) (c:Int):Bj Tryz.prog 324 [.str s,.raw (.int .u8 c)] (.raw (.int .i64 (Lib.indexByte s c.toNat.toUInt8))):=⟨by
 refine Aj Tryz.func324 Tryz.ntmps324 rfl (rs:= [.tmp 4]) rfl rfl fun hb LF=>?_
 refine wf ?_
 exact Al (.refl _)⟩
instance kf (s:Str) (c:Int):Bj Tryz.prog 295 [.str s,.raw (.int .u8 c)] (.raw (.int .i64 (Lib.indexByte s c.toNat.toUInt8))):=⟨by
 refine Aj Tryz.func295 Tryz.ntmps295 rfl (rs:= [.tmp 4]) rfl rfl fun hb LF=>?_
 refine wf ?_
 exact Al (.refl _)⟩
theorem Ku (c:UInt8): ∀ l:List UInt8,Lib.indexByte l c < 0↔c∉l
 | []=>by simp[Lib.indexByte]
 |b::l=>by
  have h:=Lib.indexByte_ge l c
  have ih:=Ku c l
  unfold Lib.indexByte
  by_cases e:b=c
  ·subst e;simp
  ·have e2: ¬c=b:=fun h=>e h.symm
   have d:(b==c)=false:=by simp[e]
   simp only[d,BP,if_false,AI,e2,false_or]
   rw[←ih]
   split
   ·rename_i h2
    have h2:Lib.indexByte l c= -1:=by simpa using h2
    omega
   ·rename_i h2
    have h2:Lib.indexByte l c≠ -1:=by simpa using h2
    omega
theorem Zq (s:Str) (m n:UInt8):Ov s m.toNat n.toNat=(decide (m∉s)&&decide (n∉s)):=by
 unfold Ov
 induction s with
 |nil=>simp
 |cons a s ih=>
  simp only[vX,ih,Np,AI,not_or]
  have e1:((a.toNat:Int)=m.toNat)↔a=m:=⟨fun h=>UInt8.toNat.inj (by omega),fun h=>by rw[h]⟩
  have e2:((a.toNat:Int)=n.toNat)↔a=n:=⟨fun h=>UInt8.toNat.inj (by omega),fun h=>by rw[h]⟩
  simp only[e1,e2]
  grind
theorem dW (s:Str):Iw s=(decide ((s.length:Int)≤1000)&&decide (Lib.indexByte s 10 < 0)&&decide (Lib.indexByte s 0 < 0)):=by
 have h:Ov s 10 0=(decide (10∉s)&&decide (0∉s)):=Zq s 10 0
 have a1:decide (Lib.indexByte s 10 < 0)=decide (10∉s):=by rw[decide_eq_decide];exact Ku 10 s
 have a2:decide (Lib.indexByte s 0 < 0)=decide (0∉s):=by rw[decide_eq_decide];exact Ku 0 s
 rw[Iw,h,a1,a2,Bool.and_assoc]
instance sq (s:Str):Bj Tryz.prog 263 [.str s] (.raw (.bool (Iw s))):=⟨by
 refine Aj Tryz.func263 Tryz.ntmps263 rfl (rs:= [.tmp 2]) rfl rfl fun hb LF=>?_
 have e:=dW s
 have c1:((10:Int).toNat).toUInt8=10:=rfl
 have c2:((0:Int).toNat).toUInt8=0:=rfl
 refine wf ?_
 repeat' (first|(refine A1 (fun h=>?_) (fun h=>?_)<;>refine wf ?_)|(refine AN (fun h=>?_) (fun h=>?_)<;>refine wf ?_)|(refine AU (fun h=>?_) (fun h=>?_)<;>refine wf ?_)|(refine Aw (fun h=>?_) (fun h=>?_)<;>(have h2:=h;(try simp only[AJ,A8,AQ,AR]at h2);refine wf ?_)))
 all_goals (refine Al (.of_eq ?_);rw[e];simp only[c1,c2]at*;first|(simp_all;done)|grind)⟩
instance sw (s:Str):Bj Tryz.prog 261 [.str s] (.raw (.bool (EN s))):=⟨by
 refine Aj Tryz.func261 Tryz.ntmps261 rfl (rs:= [.tmp 2]) rfl rfl fun hb LF=>?_
 have hlen:s.length≤140737488355328:=(hb (.str s) (by simp)).str_len
 refine wf ?_
 refine AV (σ:=Nat) (fun k=>k≤s.length∧ ∀ i (h:i < s.length),i < k→HI s[i]=true) (fun k=>s.length - k) (fun k=> [(0,.str s),(6,.raw (.int .i64 s.length)),(7,.raw (.int .i64 k))]) (fun _=>LF) 0 ⟨by simp,by simp⟩ ⟨rfl,rfl,rfl⟩ (.refl _) ?_
 rintro k ⟨hk,he⟩
 refine wf ?_
 refine A1 (fun hc=>?_) (fun hc=>?_)
 ·have hlt:k < s.length:=by omega
  refine wf ?_
  refine BB [(46,.raw (.bool (!HI s[k]))),(0,.str s),(6,.raw (.int .i64 s.length)),(7,.raw (.int .i64 k))] (LF) ?_ ?_
  ·repeat' (first|(refine A1 (fun h=>?_) (fun h=>?_)<;>refine wf ?_)|(refine AN (fun h=>?_) (fun h=>?_)<;>refine wf ?_)|(refine AU (fun h=>?_) (fun h=>?_)<;>refine wf ?_)|(refine Aw (fun h=>?_) (fun h=>?_)<;>(have h2:=h;(try simp only[AJ,A8,AQ,AR]at h2);refine wf ?_)))
   all_goals (refine⟨⟨BW (by rfl) ?_,rfl,rfl,rfl⟩,.refl _⟩;(clear he hc;grind [HI]))
  refine wf ?_
  refine AU (fun h=>?_) (fun h=>?_)
  ·refine wf ?_
   refine Al (.of_eq ?_)
   have:HI s[k]=false:=by simpa using h
   rw[EN,Fe hlt this];rfl
  ·refine wf ?_
   exact⟨k+1,⟨by omega,Iu he hlt (by simpa using h)⟩,by dsimp only;omega,⟨rfl,rfl,rfl⟩,.refl _⟩
 ·have hall:s.all HI=true:=GL fun i h=>he i h (by omega)
  have e1:decide (1≤(s.length:Int))=!decide (s= []):=by cases s<;>simp;omega
  refine wf ?_
  repeat' (first|(refine A1 (fun h=>?_) (fun h=>?_)<;>refine wf ?_)|(refine AN (fun h=>?_) (fun h=>?_)<;>refine wf ?_)|(refine AU (fun h=>?_) (fun h=>?_)<;>refine wf ?_)|(refine Aw (fun h=>?_) (fun h=>?_)<;>(have h2:=h;(try simp only[AJ,A8,AQ,AR]at h2);refine wf ?_)))
  all_goals (refine Al (.of_eq ?_);rw[EN,hall,e1];clear he hall hb;first|(simp_all;done)|grind)⟩
def Pw {α:Type} [DecidableEq α] (v:α):List α→Int
 | []=> -1
 |a::l=>if v=a then 0 else if Pw v l= -1 then -1 else Pw v l+1
theorem WA {α:Type} [DecidableEq α] (v:α): ∀ l:List α,-1≤Pw v l
 | []=>by simp[Pw]
 |a::l=>by
  have:=WA v l
  unfold Pw;split
  ·omega
  ·split<;>omega
theorem Su {α:Type} [DecidableEq α] (v:α): ∀ l:List α,0≤Pw v l↔v∈l
 | []=>by simp[Pw]
 |a::l=>by
  have h:=WA v l
  have ih:=Su v l
  unfold Pw
  by_cases e:v=a
  ·simp[e]
  ·simp only[e,if_false,AI,false_or]
   rw[←ih]
   split<;>omega
theorem cG {α:Type} [DecidableEq α] (v:α): ∀ {l:List α} {k:Nat} (h:k < l.length),l[k]=v→(∀ i (hi:i < l.length),i < k→l[i]≠v)→Pw v l=k
 |a::l,0,_,e,_=>by simp only[B8]at e;simp[Pw,e]
 |a::l,k+1,h,e,hb=>by
  have h0:a≠v:=hb 0 (by simp) (by omega)
  have ih:=cG v (l:=l) (k:=k) (by simpa using h) (by simpa using e) (fun i hi hk=>by have:=hb (i+1) (by simpa using hi) (by omega);simpa using this)
  unfold Pw
  rw[if_neg (Ne.symm h0),ih,if_neg (by omega)];omega
theorem eL {α:Type} [DecidableEq α] (v:α) {l:List α} (h: ∀ i (hi:i < l.length),l[i]≠v):Pw v l= -1:=by
 have h1:=WA v l
 have h2: ¬0≤Pw v l:=fun h'=>by
  obtain⟨i,hi,e⟩:=Ak.1 ((Su v l).1 h')
  exact h i hi e
 omega
instance tT (l:List Int) (v:Int) (t:CZ):Bj Tryz.prog 323 [.slice (l.map eI) t,.raw (.int .i64 v)] (.raw (.int .i64 (Pw v l))):=⟨by
 refine Aj Tryz.func323 Tryz.ntmps323 rfl (rs:= [.tmp 4]) rfl rfl fun hb LF=>?_
 have hlen:l.length≤140737488355328:=(hb (.slice (l.map eI) t) (by simp)).slice_map
 refine wf ?_
 refine AV (σ:=Nat) (fun k=>k≤l.length∧ ∀ i (h:i < l.length),i < k→l[i]≠v) (fun k=>l.length - k) (fun k=> [(0,.slice (l.map eI) t),(1,.raw (.int .i64 v)),(7,.raw (.int .i64 l.length)),(8,.raw (.int .i64 k))]) (fun _=>LF) 0 ⟨by simp,by simp⟩ ⟨rfl,rfl,rfl,rfl⟩ (.refl _) ?_
 rintro k ⟨hk,he⟩
 refine wf ?_
 refine A1 (fun hc=>?_) (fun hc=>?_)
 ·have hlt:k < l.length:=by omega
  refine wf ?_
  refine A1 (fun h=>?_) (fun h=>?_)
  ·refine wf ?_
   refine Al (.of_eq ?_)
   rw[cG v hlt h.symm he]
  ·refine wf ?_
   refine⟨k+1,⟨by omega,fun i hi hik=>?_⟩,by dsimp only;omega,⟨rfl,rfl,rfl,rfl⟩,.refl _⟩
   rcases BC i k with h'|h'
   ·exact he i hi h'
   ·have:i=k:=by omega
    subst this;exact fun e=>h e.symm
 ·refine wf ?_
  refine Al (.of_eq ?_)
  rw[eL v fun i hi=>he i hi (by omega)]⟩
instance nt (l:List Int) (v:Int) (t:CZ):Bj Tryz.prog 294 [.slice (l.map eI) t,.raw (.int .i64 v)] (.raw (.bool (decide (v∈l)))):=⟨by
 refine Aj Tryz.func294 Tryz.ntmps294 rfl (rs:= [.tmp 4]) rfl rfl fun hb LF=>?_
 refine wf ?_
 refine Al (.of_eq ?_)
 have:=Su v l
 simp only[this]⟩
instance xY (l:List Int) (k:Int) (t:CZ):Bj Tryz.prog 293 [.slice (l.map eI) t,.pt [.raw (.int .i64 k)] 0] (.raw (.bool (decide (k∈l)))):=⟨by
 refine Aj Tryz.func293 Tryz.ntmps293 rfl (rs:= [.tmp 3]) rfl rfl fun hb LF=>?_
 refine wf ?_
 exact Al (.refl _)⟩
def Lp (c:Chg):Bool:=decide (c.kind∈ [1])||decide (c.type=0)
def Lo (c:Chg):Bool:=decide (c.kind∈ [2,3,4,5,6])||decide (c.file=Ident.zero)
def N5 (c:Chg):Bool:=decide (c.kind∈ [2])||(decide (c.parent=Ident.zero)&&decide (c.name= []))
def Oo (c:Chg):Bool:=decide (c.kind∈ [3])||decide (c.mode=0)
def Qb (c:Chg):Bool:=decide (c.kind∈ [4])||decide (c.data= [])
def SH (c:Chg):Bool:=decide (c.kind∈ [5,6])||(decide (c.after=Ident.zero)&&decide (c.before=Ident.zero))
def Vm (c:Chg):Bool:=decide (c.kind∈ [5])||decide ((c.lines.length:Int)=0)
def Zl (c:Chg):Bool:=decide (c.kind∈ [2,3,4,6,7])||decide ((c.over.length:Int)=0)
def Xp (c:Chg):Bool:=Lp c&&Lo c&&N5 c&&Oo c&&Qb c&&SH c&&Vm c&&Zl c
instance vt (c:Chg):Bj Tryz.prog 262 [.agg (BG c)] (.raw (.bool (Xp c))):=⟨by
 refine Aj Tryz.func262 Tryz.ntmps262 rfl (rs:= [.tmp 2]) rfl rfl fun hb LF=>?_
 refine wz fun b3=>?_
 refine Ag 3 ?_
 refine wz fun b=>?_
 refine DU ?_
 refine CD (by kernel_rfl) ?_
 refine K2 19 [(28,.raw (.bool (Lp c&&Lo c))),(1,.pt (BG c) 0),(4,.clo 293 [.pt [.raw (.int .i64 c.kind)] 0]),(5,.raw (.pointer (some ⟨b,0,none⟩)))] (.box b 98 (eIdent Ident.zero)::LF) ?_ ?_
 ·refine wf ?_
  repeat' (first|(refine A1 (fun h=>?_) (fun h=>?_)<;>refine wf ?_)|(refine AN (fun h=>?_) (fun h=>?_)<;>refine wf ?_)|(refine AU (fun h=>?_) (fun h=>?_)<;>refine wf ?_)|(refine Aw (fun h=>?_) (fun h=>?_)<;>(have h2:=h;(try simp only[AJ,A8,AQ,AR]at h2);refine wf ?_)))
  all_goals (refine⟨⟨BW (by rfl) ?_,rfl,rfl,rfl⟩,.refl _⟩;(simp only[Lp,Lo];first|(simp_all;done)|grind))
 refine K2 16 [(44,.raw (.bool (Lp c&&Lo c&&N5 c))),(1,.pt (BG c) 0),(4,.clo 293 [.pt [.raw (.int .i64 c.kind)] 0]),(5,.raw (.pointer (some ⟨b,0,none⟩)))] (.box b 98 (eIdent Ident.zero)::LF) ?_ ?_
 ·refine wf ?_
  repeat' (first|(refine A1 (fun h=>?_) (fun h=>?_)<;>refine wf ?_)|(refine AN (fun h=>?_) (fun h=>?_)<;>refine wf ?_)|(refine AU (fun h=>?_) (fun h=>?_)<;>refine wf ?_)|(refine Aw (fun h=>?_) (fun h=>?_)<;>(have h2:=h;(try simp only[AJ,A8,AQ,AR]at h2);refine wf ?_)))
  all_goals (refine⟨⟨BW (by rfl) ?_,rfl,rfl,rfl⟩,.refl _⟩;(simp only[N5];first|(simp_all;done)|grind))
 refine K2 10 [(54,.raw (.bool (Lp c&&Lo c&&N5 c&&Oo c))),(1,.pt (BG c) 0),(4,.clo 293 [.pt [.raw (.int .i64 c.kind)] 0]),(5,.raw (.pointer (some ⟨b,0,none⟩)))] (.box b 98 (eIdent Ident.zero)::LF) ?_ ?_
 ·refine wf ?_
  repeat' (first|(refine A1 (fun h=>?_) (fun h=>?_)<;>refine wf ?_)|(refine AN (fun h=>?_) (fun h=>?_)<;>refine wf ?_)|(refine AU (fun h=>?_) (fun h=>?_)<;>refine wf ?_)|(refine Aw (fun h=>?_) (fun h=>?_)<;>(have h2:=h;(try simp only[AJ,A8,AQ,AR]at h2);refine wf ?_)))
  all_goals (refine⟨⟨BW (by rfl) ?_,rfl,rfl,rfl⟩,.refl _⟩;(simp only[Oo];first|(simp_all;done)|grind))
 refine K2 10 [(64,.raw (.bool (Lp c&&Lo c&&N5 c&&Oo c&&Qb c))),(1,.pt (BG c) 0),(4,.clo 293 [.pt [.raw (.int .i64 c.kind)] 0]),(5,.raw (.pointer (some ⟨b,0,none⟩)))] (.box b 98 (eIdent Ident.zero)::LF) ?_ ?_
 ·refine wf ?_
  repeat' (first|(refine A1 (fun h=>?_) (fun h=>?_)<;>refine wf ?_)|(refine AN (fun h=>?_) (fun h=>?_)<;>refine wf ?_)|(refine AU (fun h=>?_) (fun h=>?_)<;>refine wf ?_)|(refine Aw (fun h=>?_) (fun h=>?_)<;>(have h2:=h;(try simp only[AJ,A8,AQ,AR]at h2);refine wf ?_)))
  all_goals (refine⟨⟨BW (by rfl) ?_,rfl,rfl,rfl⟩,.refl _⟩;(simp only[Qb];first|(simp_all;done)|grind))
 refine K2 17 [(81,.raw (.bool (Lp c&&Lo c&&N5 c&&Oo c&&Qb c&&SH c))),(1,.pt (BG c) 0),(4,.clo 293 [.pt [.raw (.int .i64 c.kind)] 0]),(5,.raw (.pointer (some ⟨b,0,none⟩)))] (.box b 98 (eIdent Ident.zero)::LF) ?_ ?_
 ·refine wf ?_
  repeat' (first|(refine A1 (fun h=>?_) (fun h=>?_)<;>refine wf ?_)|(refine AN (fun h=>?_) (fun h=>?_)<;>refine wf ?_)|(refine AU (fun h=>?_) (fun h=>?_)<;>refine wf ?_)|(refine Aw (fun h=>?_) (fun h=>?_)<;>(have h2:=h;(try simp only[AJ,A8,AQ,AR]at h2);refine wf ?_)))
  all_goals (refine⟨⟨BW (by rfl) ?_,rfl,rfl,rfl⟩,.refl _⟩;(simp only[SH];first|(simp_all;done)|grind))
 refine K2 11 [(92,.raw (.bool (Lp c&&Lo c&&N5 c&&Oo c&&Qb c&&SH c&&Vm c))),(1,.pt (BG c) 0),(4,.clo 293 [.pt [.raw (.int .i64 c.kind)] 0]),(5,.raw (.pointer (some ⟨b,0,none⟩)))] (.box b 98 (eIdent Ident.zero)::LF) ?_ ?_
 ·refine wf ?_
  repeat' (first|(refine A1 (fun h=>?_) (fun h=>?_)<;>refine wf ?_)|(refine AN (fun h=>?_) (fun h=>?_)<;>refine wf ?_)|(refine AU (fun h=>?_) (fun h=>?_)<;>refine wf ?_)|(refine Aw (fun h=>?_) (fun h=>?_)<;>(have h2:=h;(try simp only[AJ,A8,AQ,AR]at h2);refine wf ?_)))
  all_goals (refine⟨⟨BW (by rfl) ?_,rfl,rfl,rfl⟩,.refl _⟩;(simp only[Vm];first|(simp_all;done)|grind))
 refine wf ?_
 repeat' (first|(refine A1 (fun h=>?_) (fun h=>?_)<;>refine wf ?_)|(refine AN (fun h=>?_) (fun h=>?_)<;>refine wf ?_)|(refine AU (fun h=>?_) (fun h=>?_)<;>refine wf ?_)|(refine Aw (fun h=>?_) (fun h=>?_)<;>(have h2:=h;(try simp only[AJ,A8,AQ,AR]at h2);refine wf ?_)))
 all_goals (refine Al (.of_eq ?_);simp only[Xp,Zl];first|(simp_all;done)|grind)⟩
def NC (c:Chg):Int:=
 if c.kind < 1∨7 < c.kind then 8 else
 if Xp c=false then 1 else
 if c.kind=1∧(c.type < 1∨4 < c.type)then 8 else
 if c.kind=2∧EN c.name=false then 5 else
 if c.mode < 0∨511 < c.mode then 2 else
 if 65536 < (c.data.length:Int)then 4 else
 if c.kind=5∧(c.lines.length:Int)=0 then 1 else
 if 2000 < (c.lines.length:Int)then 4 else
 if c.lines.all Iw=false then 3 else
 if c.kind=7∧(c.over.length:Int)=0 then 1 else
 if 400 < (c.over.length:Int)then 4 else
 if Qf c.over=false then 9 else 0
theorem lO (c:Chg) (h1:1≤c.kind) (h2:c.kind≤7):Xp c=Fw (Ih c):=by
 have hk:c.kind=1∨c.kind=2∨c.kind=3∨c.kind=4∨c.kind=5∨c.kind=6∨c.kind=7:=by omega
 unfold Xp Lp Lo N5 Oo Qb SH Vm Zl Fw Ih
 rcases hk with h|h|h|h|h|h|h<;>simp[h]<;>grind
theorem aZ (c:Chg):NC c=C0 c:=by
 unfold NC C0
 by_cases h1:c.kind < 1∨7 < c.kind
 ·rw[if_pos h1,if_pos h1]
 rw[if_neg h1,if_neg h1,lO c (by omega) (by omega)]
 by_cases h2:Fw (Ih c)=false
 ·rw[if_pos h2,if_pos h2]
 rw[if_neg h2,if_neg h2]
 have h2:Fw (Ih c)=true:=by simpa using h2
 by_cases h3:c.kind=1∧(c.type < 1∨4 < c.type)
 ·rw[if_pos h3,if_pos h3]
 rw[if_neg h3,if_neg h3]
 by_cases h4:c.kind=2∧EN c.name=false
 ·rw[if_pos h4,if_pos h4]
 rw[if_neg h4,if_neg h4]
 have hmode:c.kind≠3→c.mode=0:=fun h=>by
  unfold Fw Ih at h2
  simp only[Bx,AJ,h,if_false]at h2
  exact h2.1.1.1.1.1.2
 by_cases h5:c.kind=3∧(c.mode < 0∨511 < c.mode)
 ·rw[if_pos h5.2,if_pos h5]
 rw[if_neg (fun h=>h5 ⟨by
  by_cases e:c.kind=3
  ·exact e
  ·have:=hmode e;omega,h⟩),if_neg h5]
 by_cases h6:65536 < (c.data.length:Int)
 ·rw[if_pos h6,if_pos h6]
 rw[if_neg h6,if_neg h6]
 by_cases h7:c.kind=5
 ·have hov:c.over.length=0:=by
   unfold Fw Ih at h2
   simp only[Bx,AJ,h7]at h2
   have:=h2.2
   simp at this
   simp[this]
  have ho:c.over= []:=BU hov
  rw[if_pos h7,Lr]
  by_cases h8:(c.lines.length:Int)=0
  ·rw[if_pos ⟨h7,h8⟩,if_pos h8]
  rw[if_neg (fun h=>h8 h.2),if_neg h8]
  by_cases h9:2000 < (c.lines.length:Int)
  ·rw[if_pos h9,if_pos h9]
  rw[if_neg h9,if_neg h9]
  by_cases h10:c.lines.all Iw=true
  ·rw[if_neg (by simp[h10]),if_pos h10,if_neg (fun h=>by omega),if_neg (by omega),ho];rfl
  ·rw[if_pos (by simpa using h10),if_neg h10]
 ·have hl:c.lines= []:=by
   unfold Fw Ih at h2
   simp only[Bx,AJ,h7,if_false]at h2
   exact BU (by have:=h2.1.2;omega)
  rw[if_neg h7,if_neg (fun h=>h7 h.1),hl,if_neg (by simp),if_neg (by simp)]
theorem TT (c:Chg):Q.Fn Tryz.prog 222 [.agg (BG c)] (.raw (.int .i64 (NC c))):=by
 refine Aj Tryz.func222 Tryz.ntmps222 rfl (rs:= [.tmp 2]) rfl rfl fun hb LF=>?_
 have hagg:Bd (.agg (BG c)):=hb _ (by simp)
 have hlines:c.lines.length≤140737488355328:=(hagg.agg_at (c:= .slice (c.lines.map eS) .ro) (by simp[BG])).slice_map
 have hover:c.over.length≤140737488355328:=(hagg.agg_at (c:= .slice (c.over.map eIdent) .ro) (by simp[BG])).slice_map
 refine wf ?_
 refine BB [(6,.raw (.bool (decide (c.kind < 1∨7 < c.kind)))),(1,.pt (BG c) 0)] (LF) ?_ ?_
 ·repeat' (first|(refine A1 (fun h=>?_) (fun h=>?_)<;>refine wf ?_)|(refine AN (fun h=>?_) (fun h=>?_)<;>refine wf ?_)|(refine AU (fun h=>?_) (fun h=>?_)<;>refine wf ?_)|(refine Aw (fun h=>?_) (fun h=>?_)<;>(have h2:=h;(try simp only[AJ,A8,AQ,AR]at h2);refine wf ?_)))
  all_goals (refine⟨⟨BW (by rfl) ?_,rfl⟩,.refl _⟩;first|(simp_all;done)|grind)
 refine wf ?_
 refine A1 (fun h=>?_) (fun h=>?_)
 ·refine wf ?_
  refine Al (.of_eq ?_)
  rw[NC,if_pos h]
 rw[NC,if_neg h]
 refine wf ?_
 refine AU (fun h=>?_) (fun h=>?_)
 ·refine wf ?_
  refine Al (.of_eq ?_)
  rw[if_pos (by simpa using h)]
 rw[if_neg (by simpa using h)]
 refine wf ?_
 refine BB [(19,.raw (.bool (decide (c.kind=1∧(c.type < 1∨4 < c.type))))),(1,.pt (BG c) 0)] (LF) ?_ ?_
 ·repeat' (first|(refine A1 (fun h=>?_) (fun h=>?_)<;>refine wf ?_)|(refine AN (fun h=>?_) (fun h=>?_)<;>refine wf ?_)|(refine AU (fun h=>?_) (fun h=>?_)<;>refine wf ?_)|(refine Aw (fun h=>?_) (fun h=>?_)<;>(have h2:=h;(try simp only[AJ,A8,AQ,AR]at h2);refine wf ?_)))
  all_goals (refine⟨⟨BW (by rfl) ?_,rfl⟩,.refl _⟩;first|(simp_all;done)|grind)
 refine wf ?_
 refine A1 (fun h=>?_) (fun h=>?_)
 ·refine wf ?_
  refine Al (.of_eq ?_)
  rw[if_pos h]
 rw[if_neg h]
 refine wf ?_
 refine BB [(33,.raw (.bool (decide (c.kind=2∧EN c.name=false)))),(1,.pt (BG c) 0)] (LF) ?_ ?_
 ·repeat' (first|(refine A1 (fun h=>?_) (fun h=>?_)<;>refine wf ?_)|(refine AN (fun h=>?_) (fun h=>?_)<;>refine wf ?_)|(refine AU (fun h=>?_) (fun h=>?_)<;>refine wf ?_)|(refine Aw (fun h=>?_) (fun h=>?_)<;>(have h2:=h;(try simp only[AJ,A8,AQ,AR]at h2);refine wf ?_)))
  all_goals (refine⟨⟨BW (by rfl) ?_,rfl⟩,.refl _⟩;first|(simp_all;done)|grind)
 refine wf ?_
 refine A1 (fun h=>?_) (fun h=>?_)
 ·refine wf ?_
  refine Al (.of_eq ?_)
  rw[if_pos h]
 rw[if_neg h]
 refine wf ?_
 refine BB [(43,.raw (.bool (decide (c.mode < 0∨511 < c.mode)))),(1,.pt (BG c) 0)] (LF) ?_ ?_
 ·repeat' (first|(refine A1 (fun h=>?_) (fun h=>?_)<;>refine wf ?_)|(refine AN (fun h=>?_) (fun h=>?_)<;>refine wf ?_)|(refine AU (fun h=>?_) (fun h=>?_)<;>refine wf ?_)|(refine Aw (fun h=>?_) (fun h=>?_)<;>(have h2:=h;(try simp only[AJ,A8,AQ,AR]at h2);refine wf ?_)))
  all_goals (refine⟨⟨BW (by rfl) ?_,rfl⟩,.refl _⟩;first|(simp_all;done)|grind)
 refine wf ?_
 refine A1 (fun h=>?_) (fun h=>?_)
 ·refine wf ?_
  refine Al (.of_eq ?_)
  rw[if_pos h]
 rw[if_neg h]
 refine wf ?_
 refine A1 (fun h=>?_) (fun h=>?_)
 ·refine wf ?_
  refine Al (.of_eq ?_)
  rw[if_pos h]
 rw[if_neg h]
 refine wf ?_
 refine BB [(57,.raw (.bool (decide (c.kind=5∧(c.lines.length:Int)=0)))),(1,.pt (BG c) 0)] (LF) ?_ ?_
 ·repeat' (first|(refine A1 (fun h=>?_) (fun h=>?_)<;>refine wf ?_)|(refine AN (fun h=>?_) (fun h=>?_)<;>refine wf ?_)|(refine AU (fun h=>?_) (fun h=>?_)<;>refine wf ?_)|(refine Aw (fun h=>?_) (fun h=>?_)<;>(have h2:=h;(try simp only[AJ,A8,AQ,AR]at h2);refine wf ?_)))
  all_goals (refine⟨⟨BW (by rfl) ?_,rfl⟩,.refl _⟩;first|(simp_all;done)|grind)
 refine wf ?_
 refine A1 (fun h=>?_) (fun h=>?_)
 ·refine wf ?_
  refine Al (.of_eq ?_)
  rw[if_pos h]
 rw[if_neg h]
 refine wf ?_
 refine A1 (fun h=>?_) (fun h=>?_)
 ·refine wf ?_
  refine Al (.of_eq ?_)
  rw[if_pos h]
 rw[if_neg h]
 refine wf ?_
 refine AV (σ:=Nat) (fun k=>k≤c.lines.length∧ ∀ i (h:i < c.lines.length),i < k→Iw c.lines[i]=true) (fun k=>c.lines.length - k) (fun k=> [(1,.pt (BG c) 0),(73,.slice (c.lines.map eS) .ro),(74,.raw (.int .i64 c.lines.length)),(75,.raw (.int .i64 k))]) (fun _=>LF) 0 ⟨by simp,by simp⟩ ⟨rfl,rfl,rfl,rfl⟩ (.refl _) ?_
 rintro k ⟨hk,he⟩
 refine wf ?_
 refine A1 (fun hc=>?_) (fun hc=>?_)
 ·have hlt:k < c.lines.length:=by omega
  refine wf ?_
  refine AU (fun h=>?_) (fun h=>?_)
  ·refine wf ?_
   refine Al (.of_eq ?_)
   have:Iw c.lines[k]=false:=by simpa using h
   rw[if_pos (Fe hlt this)]
  ·refine wf ?_
   exact⟨k+1,⟨by omega,Iu he hlt (by simpa using h)⟩,by dsimp only;omega,⟨rfl,rfl,rfl,rfl⟩,.refl _⟩
 have hall:c.lines.all Iw=true:=GL fun i h=>he i h (by omega)
 rw[if_neg (by simp[hall])]
 clear he hk hc
 refine wf ?_
 refine BB [(83,.raw (.bool (decide (c.kind=7∧(c.over.length:Int)=0)))),(1,.pt (BG c) 0)] (LF) ?_ ?_
 ·repeat' (first|(refine A1 (fun h=>?_) (fun h=>?_)<;>refine wf ?_)|(refine AN (fun h=>?_) (fun h=>?_)<;>refine wf ?_)|(refine AU (fun h=>?_) (fun h=>?_)<;>refine wf ?_)|(refine Aw (fun h=>?_) (fun h=>?_)<;>(have h2:=h;(try simp only[AJ,A8,AQ,AR]at h2);refine wf ?_)))
  all_goals (refine⟨⟨BW (by rfl) ?_,rfl⟩,.refl _⟩;first|(simp_all;done)|grind)
 refine wf ?_
 refine A1 (fun h=>?_) (fun h=>?_)
 ·refine wf ?_
  refine Al (.of_eq ?_)
  rw[if_pos h]
 rw[if_neg h]
 refine wf ?_
 refine A1 (fun h=>?_) (fun h=>?_)
 ·refine wf ?_
  refine Al (.of_eq ?_)
  rw[if_pos h]
 rw[if_neg h]
 refine wf ?_
 refine AV (σ:=Nat) (fun k=>1≤k∧ ∀ i,i+1 < k→i+1 < c.over.length→J6 (c.over.getD i Ident.zero) (c.over.getD (i+1) Ident.zero) < 0) (fun k=>c.over.length - k) (fun k=> [(1,.pt (BG c) 0),(5,.raw (.int .i64 k))]) (fun _=>LF) 1 ⟨by simp,fun i h=>by omega⟩ ⟨rfl,rfl⟩ (.refl _) ?_
 rintro k ⟨hk,he⟩
 refine wf ?_
 refine A1 (fun hc=>?_) (fun hc=>?_)
 ·obtain⟨j,rfl⟩: ∃ j,k=j+1:=⟨k - 1,by omega⟩
  refine wf ?_
  have e:((↑(j+1):Int) - 1).toNat=j:=by omega
  have hj:j+1 < c.over.length:=by omega
  refine A1 (fun h1=>?_) (fun h1=>?_)
  ·refine wf ?_
   refine Al (.of_eq ?_)
   simp only[e]at h1
   have:Qf c.over=false:=by
    unfold Qf
    rw[L9]
    refine⟨j,DS.2 (by omega),?_⟩
    simp only[AJ,Eu,AZ hj,AZ (show j < c.over.length by omega),BO]
    omega
   rw[if_pos this]
  ·refine wf ?_
   simp only[e]at h1
   refine⟨j+1+1,⟨by omega,fun i h2 h3=>?_⟩,by dsimp only;omega,⟨rfl,rfl⟩,.refl _⟩
   rcases BC (i+1) (j+1)with h'|h'
   ·exact he i h' h3
   ·have:i=j:=by omega
    subst this
    simp only[Eu,AZ hj,AZ (show i < c.over.length by omega),BO]
    omega
 ·refine wf ?_
  refine Al (.of_eq ?_)
  have:Qf c.over=true:=by
   unfold Qf
   rw[B5]
   intro i hi
   rw[DS]at hi
   exact Bh (he i (by omega) (by omega))
  rw[if_neg (by simp[this])]
instance jr (c:Chg):Bj Tryz.prog 222 [.agg (BG c)] (.raw (.int .i64 (C0 c))):=⟨by rw[←aZ];exact TT c⟩
def Ij (p:Pat):Int:=
 if EN p.author=false then 5 else if 1000 < (p.message.length:Int)then 4 else if p.time < 0∨1099511627776 < p.time then 2 else
 if JN p.deps≠0 then JN p.deps else if(p.changes.length:Int)=0 then 1 else if 400 < (p.changes.length:Int)then 4 else 0
theorem Ht (p:Pat):Cv p=if Ij p≠0 then([],Ij p)else DP p.changes []:=by
 unfold Cv Ij
 generalize JN p.deps=e
 generalize DP p.changes []=r
 by_cases h1:EN p.author=false<;>by_cases h2:1000 < (p.message.length:Int)<;>by_cases h3:p.time < 0∨1099511627776 < p.time<;>by_cases h4:e=0<;>by_cases h5:(p.changes.length:Int)=0<;>by_cases h6:400 < (p.changes.length:Int)<;>simp only[h1,h2,h3,h4,h5,h6,if_true,if_false,ne_eq,not_true_eq_false,not_false_eq_true]<;>first|rfl|simp[h4]|simp
instance wH (p:Pat):Bj Tryz.prog 221 [.agg (Cc p)] (.raw (.int .i64 (Ij p))):=⟨by
 refine Aj Tryz.func221 Tryz.ntmps221 rfl (rs:= [.tmp 2]) rfl rfl fun hb LF=>?_
 have hagg:Bd (.agg (Cc p)):=hb _ (by simp)
 have hdeps:p.deps.length≤140737488355328:=(hagg.agg_at (c:= .slice (p.deps.map eDig) .ro) (by simp[Cc])).slice_map
 have hdr:JN p.deps=if 100 < (p.deps.length:Int)then 4 else Aq (HT p.deps) (List.range p.deps.length):=rfl
 refine wf ?_
 refine AU (fun h=>?_) (fun h=>?_)
 ·refine wf ?_
  refine Al (.of_eq ?_)
  rw[Ij,if_pos (by simpa using h)]
 rw[Ij,if_neg (by simpa using h)]
 refine wf ?_
 refine A1 (fun h=>?_) (fun h=>?_)
 ·refine wf ?_
  refine Al (.of_eq ?_)
  rw[if_pos h]
 rw[if_neg h]
 refine wf ?_
 refine BB [(16,.raw (.bool (decide (p.time < 0∨1099511627776 < p.time)))),(1,.pt (Cc p) 0)] (LF) ?_ ?_
 ·repeat' (first|(refine A1 (fun h=>?_) (fun h=>?_)<;>refine wf ?_)|(refine AN (fun h=>?_) (fun h=>?_)<;>refine wf ?_)|(refine AU (fun h=>?_) (fun h=>?_)<;>refine wf ?_)|(refine Aw (fun h=>?_) (fun h=>?_)<;>(have h2:=h;(try simp only[AJ,A8,AQ,AR]at h2);refine wf ?_)))
  all_goals (refine⟨⟨BW (by rfl) ?_,rfl⟩,.refl _⟩;first|(simp_all;done)|grind)
 refine wf ?_
 refine A1 (fun h=>?_) (fun h=>?_)
 ·refine wf ?_
  refine Al (.of_eq ?_)
  rw[if_pos h]
 rw[if_neg h]
 refine wf ?_
 refine A1 (fun h=>?_) (fun h=>?_)
 ·refine wf ?_
  refine Al (.of_eq ?_)
  rw[hdr,if_pos h,if_pos (by decide)]
 rw[if_neg h]at hdr
 refine wf ?_
 refine AV (σ:=Nat) (fun k=>k≤p.deps.length∧ ∀ i (h:i < (List.range p.deps.length).length),i < k→HT p.deps (List.range p.deps.length)[i]=0) (fun k=>p.deps.length - k) (fun k=> [(1,.pt (Cc p) 0),(31,.slice (p.deps.map eDig) .ro),(32,.raw (.int .i64 p.deps.length)),(33,.raw (.int .i64 k))]) (fun _=>LF) 0 ⟨by simp,by simp⟩ ⟨rfl,rfl,rfl,rfl⟩ (.refl _) ?_
 rintro k ⟨hk,he⟩
 refine wf ?_
 refine A1 (fun hc=>?_) (fun hc=>?_)
 ·have hlt:k < p.deps.length:=by omega
  have hltr:k < (List.range p.deps.length).length:=by simpa using hlt
  have ek:(List.range p.deps.length)[k]=k:=by simp
  have e0:p.deps.getD k Dig.zero=p.deps[k]:=by simp[List.getD,hlt]
  refine wz fun b4=>?_
  refine Ag 4 ?_
  refine wf ?_
  refine A1 (fun h2=>?_) (fun h2=>?_)
  ·refine wf ?_
   refine Al (.of_eq ?_)
   have e:HT p.deps (List.range p.deps.length)[k]=1:=by rw[ek,HT,e0,if_pos h2]
   have e3:JN p.deps=1:=by rw[hdr,CV hltr he (by rw[e];decide),e]
   rw[e3];rfl
  refine wf ?_
  refine Aw (fun hp=>?_) (fun hp=>?_)
  ·have hp':0 < (k:Int):=An hp
   refine wf ?_
   have e1:p.deps.getD (k - 1) Dig.zero=p.deps[((k:Int) - 1).toNat]:=by
    have:((k:Int) - 1).toNat=k - 1:=by omega
    simp only[this]
    have h':k - 1 < p.deps.length:=by omega
    simp[List.getD,h']
   refine A1 (fun h3=>?_) (fun h3=>?_)
   ·refine wf ?_
    refine Al (.of_eq ?_)
    have e:HT p.deps (List.range p.deps.length)[k]=9:=by rw[ek,HT,e0,e1,if_neg h2,if_pos ⟨hp',h3⟩]
    have e3:JN p.deps=9:=by rw[hdr,CV hltr he (by rw[e];decide),e]
    rw[e3];rfl
   ·refine wf ?_
    have e:HT p.deps (List.range p.deps.length)[k]=0:=by rw[ek,HT,e0,e1,if_neg h2,if_neg (fun h=>h3 h.2)]
    exact⟨k+1,⟨by omega,DT he hltr e⟩,by dsimp only;omega,⟨rfl,rfl,rfl,rfl⟩,.refl _⟩
  ·have hp': ¬0 < (k:Int):=B6 hp
   refine wf ?_
   have e:HT p.deps (List.range p.deps.length)[k]=0:=by rw[ek,HT,e0,if_neg h2,if_neg (fun h=>hp' h.1)]
   exact⟨k+1,⟨by omega,DT he hltr e⟩,by dsimp only;omega,⟨rfl,rfl,rfl,rfl⟩,.refl _⟩
 have e3:JN p.deps=0:=by rw[hdr,CN fun i h=>he i h (by simp at h;omega)]
 rw[if_neg (by simp[e3])]
 refine wf ?_
 refine A1 (fun h=>?_) (fun h=>?_)
 ·refine wf ?_
  refine Al (.of_eq ?_)
  rw[if_pos h]
 rw[if_neg h]
 refine wf ?_
 refine A1 (fun h=>?_) (fun h=>?_)
 ·refine wf ?_
  refine Al (.of_eq ?_)
  rw[if_pos h]
 ·refine wf ?_
  refine Al (.of_eq ?_)
  rw[if_neg h]⟩
end Go.Proofs
