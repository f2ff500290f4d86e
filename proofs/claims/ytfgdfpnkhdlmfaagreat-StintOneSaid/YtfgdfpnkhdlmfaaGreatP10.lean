/-
 The laws of the stints of a common hold at every input, without any condition.
-/
import Derived.KernelRfl
import Derived.Test.YtfgdfpnkhdlmfaaGreatP09
set_option linter.unusedVariables false
set_option linter.unusedSimpArgs false
namespace Go.Proofs.YtfgdfpnkhdlmfaaGreat
open Go Go.Sx
set_option maxRecDepth 100000
set_option maxHeartbeats 0
variable (its:ITS) (n:Nat)
noncomputable section
def DS (M:Den) (b0 b1 b2 a1:List (List CV)):Option Ou:=aB (M aI [CV.row 3 b0,CV.row 13 b1,CV.row 13 b2]) fun v0=>aA (gi v0 0 != 0) (some (.ret ([CV.row 3 [],CV.row 13 [],CV.row 13 [],ci (gi v0 0)]))) (gQ (chk (((decide (0<=il b0))&&(decide (il b0<=il b0)))&&(cJ (Int.toNat (il b0)) 0 24))<|chk (((decide (0<=il b1))&&(decide (il b1<=il b1)))&&(cJ (Int.toNat (il b1)) 0 104))<|chk (((decide (0<=il b2))&&(decide (il b2<=il b2)))&&(cJ (Int.toNat (il b2)) 0 104))<|chk (decide ((List.length b0)<=(List.length (List.replicate (Int.toNat (il b0)) [ci 0,ci 0,ci 0]))))<|chk (decide ((List.length b1)<=(List.length (List.replicate (Int.toNat (il b1)) [ci 0,ci 0,ci 0,ci 0,ci 0,ci 0,ci 0,ci 0,ci 0,ci 0,ci 0,ci 0,ci 0]))))<|chk (decide ((List.length b2)<=(List.length (List.replicate (Int.toNat (il b2)) [ci 0,ci 0,ci 0,ci 0,ci 0,ci 0,ci 0,ci 0,ci 0,ci 0,ci 0,ci 0,ci 0]))))<|some (.ret ([CV.row 3 (b0++(List.drop (List.length b0) (List.replicate (Int.toNat (il b0)) [ci 0,ci 0,ci 0]))),CV.row 13 (b1++(List.drop (List.length b1) (List.replicate (Int.toNat (il b1)) [ci 0,ci 0,ci 0,ci 0,ci 0,ci 0,ci 0,ci 0,ci 0,ci 0,ci 0,ci 0,ci 0]))),CV.row 13 (b2++(List.drop (List.length b2) (List.replicate (Int.toNat (il b2)) [ci 0,ci 0,ci 0,ci 0,ci 0,ci 0,ci 0,ci 0,ci 0,ci 0,ci 0,ci 0,ci 0])))]))) fun v1=>cD 0 (aL (fun v2=>aA (decide (gi v2 0<il a1)) (chk (inb (gi v2 0) a1)<|chk (oks liA (el a1 (gi v2 0)) 0)<|aB (M dI (cis (el a1 (gi v2 0)) 0 13)) fun v3=>aA (gi v3 0 != 0) (some (.ret ([CV.row 3 [],CV.row 13 [],CV.row 13 [],ci (gi v3 0)]))) (gQ (aB (M dA (cat [[CV.row 13 (gr v2 6)],cis (el a1 (gi v2 0)) 0 13,[CV.fn 168 []]])) fun v4=>aN (aA (gb v4 1) (chk (inb (gi v4 0) (gr v2 6))<|chk (decide ((Int.toNat (gi v4 0))<(List.length (gr v2 6))))<|chk (oks liA (el (gr v2 6) (gi v4 0)) 0)<|some (.nx [cb ((gi (el (gr v2 6) (gi v4 0)) 0 == gi (el a1 (gi v2 0)) 0)&&((gi (el (gr v2 6) (gi v4 0)) 1 == gi (el a1 (gi v2 0)) 1)&&((gi (el (gr v2 6) (gi v4 0)) 2 == gi (el a1 (gi v2 0)) 2)&&((gi (el (gr v2 6) (gi v4 0)) 3 == gi (el a1 (gi v2 0)) 3)&&((gi (el (gr v2 6) (gi v4 0)) 4 == gi (el a1 (gi v2 0)) 4)&&((gi (el (gr v2 6) (gi v4 0)) 5 == gi (el a1 (gi v2 0)) 5)&&((gi (el (gr v2 6) (gi v4 0)) 6 == gi (el a1 (gi v2 0)) 6)&&((gi (el (gr v2 6) (gi v4 0)) 7 == gi (el a1 (gi v2 0)) 7)&&((gi (el (gr v2 6) (gi v4 0)) 8 == gi (el a1 (gi v2 0)) 8)&&((gi (el (gr v2 6) (gi v4 0)) 9 == gi (el a1 (gi v2 0)) 9)&&((gi (el (gr v2 6) (gi v4 0)) 10 == gi (el a1 (gi v2 0)) 10)&&((gi (el (gr v2 6) (gi v4 0)) 11 == gi (el a1 (gi v2 0)) 11)&&((gi (el (gr v2 6) (gi v4 0)) 12 == gi (el a1 (gi v2 0)) 12)&&true)))))))))))))])) (some (.nx [cb false]))) fun v5=>aA (gb v5 0) (some (.ret [cb true,ci 0,CV.row 3 (gr v2 4),CV.row 13 (gr v2 5),CV.row 13 (gr v2 6)])) (aA (gb v4 1) (some (.ret ([cb false,ci 27,CV.row 13 (gr v2 6),CV.row 13 []]))) (aB (M oQ []) fun v6=>chk (aEp 13 56 104 v6)<|chk ((decide (0<=gi v4 0))&&((decide (gi v4 0<=il (gr v2 6)))&&(cJ (List.length (gr v2 6)) 1 104)))<|some (.ret [cb true,ci 0,CV.row 3 (gr v2 4),CV.row 13 (gr v2 5),CV.row 13 ((List.take (Int.toNat (gi v4 0)) (gr v2 6))++((cis (el a1 (gi v2 0)) 0 13)::(List.drop (Int.toNat (gi v4 0)) (gr v2 6))))])))) fun v4=>aA (gb v4 0) (aA (gi (List.drop 1 v4) 0 != 0) (some (.ret ([CV.row 3 [],CV.row 13 [],CV.row 13 [],ci (gi (List.drop 1 v4) 0)]))) (some (.nx [ci (wr (gi v2 0+1)),CV.row 3 (gr v2 1),CV.row 13 (gr v2 2),CV.row 13 (gr v2 3),CV.row 3 (gr (List.drop 1 v4) 1),CV.row 13 (gr (List.drop 1 v4) 2),CV.row 13 (gr (List.drop 1 v4) 3)]))) (aA (gi (List.drop 1 v4) 0 != 0) (some (.ret ([CV.row 3 [],CV.row 13 [],CV.row 13 [],ci (gi (List.drop 1 v4) 0)]))) (none)))) (some (.br 0 [CV.row 3 (gr v2 1),CV.row 13 (gr v2 2),CV.row 13 (gr v2 3),CV.row 3 (gr v2 4),CV.row 13 (gr v2 5),CV.row 13 (gr v2 6)]))) [ci 0,CV.val (Value.slice none 0 0),CV.val (Value.slice none 0 0),CV.val (Value.slice none 0 0),CV.row 3 (gr v1 0),CV.row 13 (gr v1 1),CV.row 13 (gr v1 2)]) fun v2=>aA (decide ((il (gr v2 5)) > 60)) (some (.ret ([CV.row 3 [],CV.row 13 [],CV.row 13 [],ci 2]))) (some (.ret [CV.row 3 (gr v2 3),CV.row 13 (gr v2 4),CV.row 13 (gr v2 5),ci 0])))
theorem TZ (b0 b1 b2 a1:List (List CV)):D its (n+1) dR [.row 3 b0,.row 13 b1,.row 13 b2,.row 13 a1]=aV (DS (D its n) b0 b1 b2 a1):=by kernel_rfl
def HH (M:Den) (b0 b1 b2:List (List CV)):Option Ou:=aN (aA (decide ((il b0) > 8)) (some (.nx [cb true])) (aA (decide ((il b1) > 20)) (some (.nx [cb true])) (some (.nx [cb (decide ((il b2) > 60))])))) fun v0=>aA (gb v0 0) (some (.ret [ci 23])) (cD 0 (aL (fun v1=>aA (decide (gi v1 0<il b0)) (chk (inb (gi v1 0) b0)<|chk (oks [li,li,li] (el b0 (gi v1 0)) 0)<|aN (aB (M iO [ci (gi (el b0 (gi v1 0)) 0),ci (gi (el b0 (gi v1 0)) 1),ci (gi (el b0 (gi v1 0)) 2)]) fun v2=>aA (gi v2 0 != 0) (some (.nx [cb true])) (aA (decide ((gi v1 0) > 0)) (chk (inb (wr (gi v1 0 - 1)) b0)<|chk (oks [li] (List.drop 0 (el b0 (wr (gi v1 0 - 1)))) 0)<|some (.nx [cb (decide ((gi (List.drop 0 (el b0 (wr (gi v1 0 - 1)))) 0)>=(gi (el b0 (gi v1 0)) 0)))])) (some (.nx [cb false])))) fun v2=>aA (gb v2 0) (some (.ret [ci 23])) (some (.nx [ci (wr (gi v1 0+1))]))) (some (.br 0 []))) [ci 0]) fun v1=>cD 2 (aL (fun v2=>aA (decide (gi v2 0<il b1)) (chk (inb (gi v2 0) b1)<|chk (oks liA (el b1 (gi v2 0)) 0)<|aN (aB (M fD (cis (el b1 (gi v2 0)) 0 13)) fun v3=>aA (gi v3 0 != 0) (some (.nx [cb true])) (aA (decide ((gi v2 0) > 0)) (chk (inb (wr (gi v2 0 - 1)) b1)<|chk (oks [li] (List.drop 1 (el b1 (wr (gi v2 0 - 1)))) 0)<|aA (decide ((gi (List.drop 1 (el b1 (wr (gi v2 0 - 1)))) 0) > (gi (el b1 (gi v2 0)) 1))) (some (.nx [cb true])) (chk (inb (wr (gi v2 0 - 1)) b1)<|chk (oks [li] (List.drop 1 (el b1 (wr (gi v2 0 - 1)))) 0)<|aA (gi (List.drop 1 (el b1 (wr (gi v2 0 - 1)))) 0 == gi (el b1 (gi v2 0)) 1) (chk (inb (wr (gi v2 0 - 1)) b1)<|chk (oks [li] (List.drop 2 (el b1 (wr (gi v2 0 - 1)))) 0)<|some (.nx [cb (decide ((gi (List.drop 2 (el b1 (wr (gi v2 0 - 1)))) 0)>=(gi (el b1 (gi v2 0)) 2)))])) (some (.nx [cb false])))) (some (.nx [cb false])))) fun v3=>aA (gb v3 0) (some (.ret [ci 23])) (some (.nx [ci (wr (gi v2 0+1))]))) (some (.br 2 []))) [ci 0]) fun v2=>cD 4 (aL (fun v3=>aA (decide (gi v3 0<il b2)) (chk (inb (gi v3 0) b2)<|chk (oks liA (el b2 (gi v3 0)) 0)<|aN (aB (M fH (cis (el b2 (gi v3 0)) 0 13)) fun v4=>aA (gi v4 0 != 0) (some (.nx [cb true])) (aA (decide ((gi v3 0) > 0)) (chk (inb (wr (gi v3 0 - 1)) b2)<|chk (oks [li,li] (List.drop 0 (el b2 (wr (gi v3 0 - 1)))) 0)<|aB (M rX [ci (gi (List.drop 0 (el b2 (wr (gi v3 0 - 1)))) 0),ci (gi (List.drop 0 (el b2 (wr (gi v3 0 - 1)))) 1),ci (gi (el b2 (gi v3 0)) 0),ci (gi (el b2 (gi v3 0)) 1)]) fun v5=>some (.nx [cb (!(gb v5 0))])) (some (.nx [cb false])))) fun v4=>aA (gb v4 0) (some (.ret [ci 23])) (some (.nx [ci (wr (gi v3 0+1))]))) (some (.br 4 []))) [ci 0]) fun v3=>some (.ret [ci 0]))
theorem HI (b0 b1 b2:List (List CV)):D its (n+1) cU [.row 3 b0,.row 13 b1,.row 13 b2]=aV (HH (D its n) b0 b1 b2):=by kernel_rfl
def uA (M:Den) (b0 b1 b2:List (List CV)) (a1:Int):Option Ou:=aB (M iP [CV.row 13 b2]) fun v0=>aN (brO (kK (IC sg M (List.getD v0 0 dC) (.clo [.one li,.agg liA])) (fun x1 v1=>cD 1 (aN (aA (decide ((gi x1 5) > a1)) (some (.nx [cb true])) (chk (dX [.int .i64,.int .i64] .bool (gr v1 0))<|some (.nx ([cb (cB (aH 2 [ci (gi x1 1),ci (gi x1 2)] (.bool false) (gr v1 0)))])))) fun v2=>aA (gb v2 0) (some (.br 1 [CV.row 3 (gr v1 0),CV.row 1 (gr v1 1)])) (chk (cJ (List.length (gr v1 1)) 1 8)<|aN (aA (gi x1 3 == 0) (chk (dX [.int .i64,.int .i64] .bool (gr v1 0))<|some (.nx ([CV.row 3 (bV 2 [ci (gi x1 12),ci (gi x1 13)] (cb true) (gr v1 0))]))) (some (.nx [CV.row 3 (gr v1 0)]))) fun v3=>some (.br 1 ([CV.row 3 (gr v3 0),CV.row 1 (gr v1 1++(aS 1 1 [ci (gi x1 0)]))])))) fun v2=>some (.nx [CV.row 3 (gr v2 0),CV.row 1 (gr v2 1)])) ([CV.row 3 [],CV.row 1 []]))) fun v1=>gQ (cD 0 (aL (fun v2=>aA (decide (gi v2 0<gi v2 1)) (chk (inb (gi v2 1) (gr v2 2))<|chk (decide ((Int.toNat (gi v2 1))<(List.length (gr v2 2))))<|chk (oks [li] (el (gr v2 2) (gi v2 1)) 0)<|chk (inb (gi v2 0) (gr v2 2))<|chk (decide ((Int.toNat (gi v2 0))<(List.length (gr v2 2))))<|chk (oks [li] (el (gr v2 2) (gi v2 0)) 0)<|chk (inb (gi v2 0) (gr v2 2))<|chk ((decide ((Int.toNat (gi v2 0))<(List.length (gr v2 2))))&&(decide (1<=1)))<|chk (inb (gi v2 1) (List.set (gr v2 2) (Int.toNat (gi v2 0)) (spl (el (gr v2 2) (gi v2 0)) 0 [ci (gi (el (gr v2 2) (gi v2 1)) 0)])))<|chk ((decide ((Int.toNat (gi v2 1))<(List.length (List.set (gr v2 2) (Int.toNat (gi v2 0)) (spl (el (gr v2 2) (gi v2 0)) 0 [ci (gi (el (gr v2 2) (gi v2 1)) 0)])))))&&(decide (1<=1)))<|some (.nx ([ci (wr (gi v2 0+1)),ci (wr (gi v2 1 - 1)),CV.row 1 (List.set (List.set (gr v2 2) (Int.toNat (gi v2 0)) (spl (el (gr v2 2) (gi v2 0)) 0 [ci (gi (el (gr v2 2) (gi v2 1)) 0)])) (Int.toNat (gi v2 1)) (spl (el (List.set (gr v2 2) (Int.toNat (gi v2 0)) (spl (el (gr v2 2) (gi v2 0)) 0 [ci (gi (el (gr v2 2) (gi v2 1)) 0)])) (gi v2 1)) 0 [ci (gi (el (gr v2 2) (gi v2 0)) 0)]))]))) (some (.br 0 [CV.row 1 (gr v2 2)]))) [ci 0,ci (wr (il (gr v1 1) - 1)),CV.row 1 (gr v1 1)]) fun v2=>some (.ret [CV.row 1 (gr v2 0)])) fun v2=>some (.ret [CV.row 1 (gr v2 0)])
theorem FY (b0 b1 b2:List (List CV)) (a1:Int):D its (n+1) kM [.row 3 b0,.row 13 b1,.row 13 b2,ci a1]=aV (uA (D its n) b0 b1 b2 a1):=by kernel_rfl
def MB (M:Den) (b0 b1 b2 b3 b4 b5 b6 b7 b8 b9 b_0 b_1 b_2:Int):Option Ou:=aN (aA (b2 == 0) (some (.nx [ci 0,ci 0,ci 0,ci 0,ci 0,ci 0,ci 0,ci 0,ci 0,ci 0,ci 0,ci 0,ci 0,ci b0,ci b1,ci b2,ci b3,ci b4,ci 0,ci 0,ci 0,ci 0,ci 0,ci 0,ci b_1,ci b_2])) (aN (aA (b2 == 1) (some (.nx [cb (b2 == 1)])) (some (.nx [cb (b2 == 3)]))) fun v0=>aN (aA (gb v0 0) (some (.nx [ci 0,ci 0,ci 0,ci 0,ci 0,ci 0,ci 0,ci 0,ci 0,ci 0,ci 0,ci 0,ci 0,ci b0,ci b1,ci b2,ci b3,ci b4,ci b5,ci 0,ci b7,ci 0,ci 0,ci 0,ci 0,ci 0])) (aN (aA (b2 == 2) (some (.nx [ci 0,ci 0,ci 0,ci 0,ci 0,ci 0,ci 0,ci 0,ci 0,ci 0,ci 0,ci 0,ci 0,ci b0,ci b1,ci b2,ci b3,ci b4,ci b5,ci 0,ci 0,ci b8,ci b9,ci 0,ci 0,ci 0])) (aN (aA (b2 == 4) (some (.nx [ci 0,ci 0,ci 0,ci 0,ci 0,ci 0,ci 0,ci 0,ci 0,ci 0,ci 0,ci 0,ci 0,ci b0,ci b1,ci b2,ci b3,ci b4,ci b5,ci b6,ci 0,ci b8,ci b9,ci 0,ci 0,ci 0])) (aN (aA (b2 == 5) (some (.nx [ci 0,ci 0,ci 0,ci 0,ci 0,ci 0,ci 0,ci 0,ci 0,ci 0,ci 0,ci 0,ci 0,ci b0,ci b1,ci b2,ci b3,ci b4,ci b5,ci b6,ci 0,ci 0,ci 0,ci 0,ci 0,ci 0])) (aN (aA (b2 == 6) (some (.nx [ci 0,ci 0,ci 0,ci 0,ci 0,ci 0,ci 0,ci 0,ci 0,ci 0,ci 0,ci 0,ci 0,ci b0,ci b1,ci b2,ci b3,ci b4,ci b5,ci b6,ci 0,ci b8,ci b9,ci b_0,ci 0,ci 0])) (aN (aA (b2 == 7) (some (.nx [cb (b2 == 7)])) (some (.nx [cb (b2 == 8)]))) fun v1=>aA (gb v1 0) (some (.nx [ci 0,ci 0,ci 0,ci 0,ci 0,ci 0,ci 0,ci 0,ci 0,ci 0,ci 0,ci 0,ci 0,ci b0,ci b1,ci b2,ci b3,ci b4,ci 0,ci 0,ci 0,ci b8,ci 0,ci b_0,ci 0,ci 0])) (some (.ret [ci b0,ci b1,ci b2,ci b3,ci b4,ci 0,ci 0,ci 0,ci 0,ci 0,ci 0,ci 0,ci 0,cb false])))) fun v1=>some (.nx (cis v1 0 26)))) fun v1=>some (.nx (cis v1 0 26)))) fun v1=>some (.nx (cis v1 0 26)))) fun v1=>some (.nx (cis v1 0 26)))) fun v1=>some (.nx (cis v1 0 26)))) fun v0=>some (.ret (cat [cis v0 13 13,[cb true]]))
theorem aAv (b0 b1 b2 b3 b4 b5 b6 b7 b8 b9 b_0 b_1 b_2:Int):D its (n+1) qV [ci b0,ci b1,ci b2,ci b3,ci b4,ci b5,ci b6,ci b7,ci b8,ci b9,ci b_0,ci b_1,ci b_2]=aV (MB (D its n) b0 b1 b2 b3 b4 b5 b6 b7 b8 b9 b_0 b_1 b_2):=by kernel_rfl
def pA (M:Den) (a0:List CV) (c0 c1 a2:Int):Option Ou:=chk (oks [.mp 2] (List.drop 3 a0) 0)<|chk (dX [.int .i64,.int .i64] (.int .i64) (gr (List.drop 3 a0) 0))<|chk (oks [.row 13] (List.drop 4 a0) 0)<|cD 0 (aL (fun v0=>aA (decide (gi v0 1<il (gr (List.drop 4 a0) 0))) (chk (inb (gi v0 1) (gr (List.drop 4 a0) 0))<|chk (oks liA (el (gr (List.drop 4 a0) 0) (gi v0 1)) 0)<|aN (aA (gi (el (gr (List.drop 4 a0) 0) (gi v0 1)) 5 == c0) (aA (gi (el (gr (List.drop 4 a0) 0) (gi v0 1)) 8 == c1) (some (.nx [cb (decide ((gi (el (gr (List.drop 4 a0) 0) (gi v0 1)) 10)>=a2))])) (some (.nx [cb false]))) (some (.nx [cb false]))) fun v1=>aN (aA (gb v1 0) (some (.nx [ci (wr (gi v0 0 - gi (el (gr (List.drop 4 a0) 0) (gi v0 1)) 9))])) (some (.nx [ci (gi v0 0)]))) fun v2=>some (.nx [ci (gi v2 0),ci (wr (gi v0 1+1))])) (some (.br 0 [ci (gi v0 0)]))) ([ci (cI (aH 2 [ci c0,ci c1] (.int .i64 0) (gr (List.drop 3 a0) 0))),ci 0])) fun v0=>some (.ret [ci (gi v0 0)])
theorem yI (a0:List CV) (c0 c1 a2:Int):D its (n+1) eV [.ref a0,ci c0,ci c1,ci a2]=aV (pA (D its n) a0 c0 c1 a2):=by kernel_rfl
def HJ (M:Den) (a0:Int):Option Ou:=aN (aA (a0 == 1) (some (.nx [cb (a0 == 1)])) (some (.nx [cb (a0 == 3)]))) fun v0=>aA (gb v0 0) (some (.ret [cb true,cb false,cb true,cb false,cb false,cb false,cb true])) (aA (a0 == 2) (some (.ret [cb true,cb false,cb false,cb true,cb true,cb false,cb true])) (aA (a0 == 4) (some (.ret [cb true,cb true,cb false,cb true,cb true,cb false,cb true])) (aA (a0 == 5) (some (.ret [cb true,cb true,cb false,cb false,cb false,cb false,cb true])) (aA (a0 == 6) (some (.ret [cb true,cb true,cb false,cb true,cb true,cb true,cb true])) (aN (aA (a0 == 7) (some (.nx [cb (a0 == 7)])) (some (.nx [cb (a0 == 8)]))) fun v1=>aA (gb v1 0) (some (.ret [cb false,cb false,cb false,cb true,cb false,cb true,cb true])) (some (.ret [cb false,cb false,cb false,cb false,cb false,cb false,cb false])))))))
theorem XI (a0:Int):D its (n+1) xU [ci a0]=aV (HJ (D its n) a0):=by kernel_rfl
def vX (M:Den) (b0 b1 b2:List (List CV)) (c0 c1 d0 d1:Int):Option Ou:=aB (M aI [CV.row 3 b0,CV.row 13 b1,CV.row 13 b2]) fun v0=>aA (gi v0 0 != 0) (some (.ret [CV.val (Value.pointer none),ci (gi v0 0)])) (aB (M aR [CV.row 3 b0,CV.row 13 b1,CV.row 13 b2,ci c1]) fun v1=>aB (M jN [ci c0]) fun v2=>aA (!(gb v2 0)) (some (.ret [CV.val (Value.pointer none),ci 1])) (aA (!(gb v1 3)) (some (.ret [CV.val (Value.pointer none),ci 20])) (aB (M cV [ci d0,ci d1]) fun v3=>aA (!(gb v3 0)) (some (.ret [CV.val (Value.pointer none),ci 6])) (aB (M bP [CV.row 3 b0,CV.row 13 b1,CV.row 13 b2,ci d0,ci d1]) fun v4=>aB (M dK [CV.ref (cF (List.getD v4 0 dC)),ci c0]) fun v5=>aA (!(gb v5 0)) (some (.ret [CV.val (Value.pointer none),ci 24])) (some (.ret [CV.ref (cF (List.getD v4 0 dC)),ci 0]))))))
theorem IF (b0 b1 b2:List (List CV)) (c0 c1 d0 d1:Int):D its (n+1) fI [.row 3 b0,.row 13 b1,.row 13 b2,ci c0,ci c1,ci d0,ci d1]=aV (vX (D its n) b0 b1 b2 c0 c1 d0 d1):=by kernel_rfl
def mW (M:Den) (a0:List CV) (c0 c1 c2 a2:Int):Option Ou:=chk (oks [.row 13] (List.drop 5 a0) 0)<|aB (M iP [CV.row 13 (gr (List.drop 5 a0) 0)]) fun v0=>aN (brO (kK (IC sg M (List.getD v0 0 dC) (.clo [.one li,.agg liA])) (fun x1 v1=>aN (aA (gi x1 9 == c0) (some (.nx [cb (decide ((gi x1 11)>=a2))])) (some (.nx [cb false]))) fun v2=>aA (gb v2 0) (some (.ret [cb (gi x1 3 == 7)])) (some (.nx [cb (gb v1 0)]))) [cb false])) fun v1=>aA (decide (c1 > c2)) (aA (decide ((Int.tmod a2 360)>=c1)) (some (.ret [cb true])) (some (.ret [cb (decide ((Int.tmod a2 360)<=c2))]))) (aB (M aY [ci (Int.tmod a2 360),ci c1,ci c2]) fun v2=>some (.ret [cb (gb v2 0)]))
theorem vH (a0:List CV) (c0 c1 c2 a2:Int):D its (n+1) eE [.ref a0,ci c0,ci c1,ci c2,ci a2]=aV (mW (D its n) a0 c0 c1 c2 a2):=by kernel_rfl
def DV (M:Den) (b0 b1 b2:List (List CV)) (a1:Int):Option Ou:=aB (M aI [CV.row 3 b0,CV.row 13 b1,CV.row 13 b2]) fun v0=>aA (gi v0 0 != 0) (some (.ret ([CV.row 2 [],ci (gi v0 0)]))) (aB (M aY [ci a1,ci 0,ci 100000]) fun v1=>aA (!(gb v1 0)) (some (.ret ([CV.row 2 [],ci 6]))) (aB (M 1000000069 [CV.row 3 b0,CV.row 13 b1,CV.row 13 b2,ci 100000,ci a1]) fun v2=>chk (FH 115 [none,some (2097264,2),some (2097263,2),some (3145841,3),some (56,13),some (56,13),some (54,2)] v2)<|aB (M mS ([CV.row 2 (gr (cF (List.getD v2 0 dC)) 6),CV.fn 54 [],CV.fn 112 []])) fun v3=>chk (pG 2 false v3)<|some (.ret [CV.row 2 (gr v3 0),ci 0])))
theorem UC (b0 b1 b2:List (List CV)) (a1:Int):D its (n+1) fL [.row 3 b0,.row 13 b1,.row 13 b2,ci a1]=aV (DV (D its n) b0 b1 b2 a1):=by kernel_rfl
def DM (M:Den) (b0 b1 b2:List (List CV)) (a1 d0 d1:Int):Option Ou:=aB (M aI [CV.row 3 b0,CV.row 13 b1,CV.row 13 b2]) fun v0=>aA (gi v0 0 != 0) (some (.ret [cb false,ci (gi v0 0)])) (aB (M aR [CV.row 3 b0,CV.row 13 b1,CV.row 13 b2,ci a1]) fun v1=>aA (!(gb v1 3)) (some (.ret [cb false,ci 20])) (aB (M cV [ci d0,ci d1]) fun v2=>aA (!(gb v2 0)) (some (.ret [cb false,ci 6])) (aB (M bP [CV.row 3 b0,CV.row 13 b1,CV.row 13 b2,ci d0,ci d1]) fun v3=>aB (M eE [CV.ref (cF (List.getD v3 0 dC)),ci (gi v1 0),ci (gi v1 1),ci (gi v1 2),ci d0]) fun v4=>some (.ret [cb (gb v4 0),ci 0]))))
theorem DN (b0 b1 b2:List (List CV)) (a1 d0 d1:Int):D its (n+1) cY [.row 3 b0,.row 13 b1,.row 13 b2,ci a1,ci d0,ci d1]=aV (DM (D its n) b0 b1 b2 a1 d0 d1):=by kernel_rfl
def wC (M:Den) (b0 b1 b2:List (List CV)) (a1 a2:Int):Option Ou:=aB (M lF [CV.row 13 b1]) fun v0=>aN (brO (kK (IC sg M (List.getD v0 0 dC) (.clo [.one li,.agg liA])) (fun x1 v1=>aN (aA (gi x1 2 == a1) (some (.nx [cb (decide (gi x1 3<=a2))])) (some (.nx [cb false]))) fun v2=>aA (gb v2 0) (some (.ret (cat [cis x1 1 13,[ci 0]]))) (some (.nx (cis v1 0 14)))) [ci 0,ci 0,ci 0,ci 0,ci 0,ci 0,ci 0,ci 0,ci 0,ci 0,ci 0,ci 0,ci 0,ci 0])) fun v1=>some (.ret [ci 0,ci 0,ci 0,ci 0,ci 0,ci 0,ci 0,ci 0,ci 0,ci 0,ci 0,ci 0,ci 0,ci 26])
theorem IK (b0 b1 b2:List (List CV)) (a1 a2:Int):D its (n+1) dS [.row 3 b0,.row 13 b1,.row 13 b2,ci a1,ci a2]=aV (wC (D its n) b0 b1 b2 a1 a2):=by kernel_rfl
def lG (M:Den) (a0:List CV):Option Ou:=chk (oks [.mp 1] (List.drop 1 a0) 0)<|chk (dX [.int .i64] (.int .i64) (gr (List.drop 1 a0) 0))<|OJ (gr (List.drop 1 a0) 0) fun p0 l0=>aB (gU 1 (fun x1 v1=>chk (cJ (List.length (gr v1 0)) 1 8)<|some (.nx ([CV.row 1 (gr v1 0++(aS 1 1 [ci (gi x1 0)]))]))) l0 ([CV.row 1 []])) fun v1=>aB (M jQ ([CV.row 1 (gr v1 0),CV.fn 3 []])) fun v2=>chk (pG 1 false v2)<|some (.ret [CV.row 1 (gr v2 0)])
theorem sW (a0:List CV):D its (n+1) gT [.ref a0]=aV (lG (D its n) a0):=by kernel_rfl
def nJ (M:Den) (a0:List CV) (a1:Int):Option Ou:=chk (oks [.mp 2] (List.drop 3 a0) 0)<|chk (dX [.int .i64,.int .i64] (.int .i64) (gr (List.drop 3 a0) 0))<|OJ (gr (List.drop 3 a0) 0) fun p0 l0=>aB (gU 1 (fun x1 v1=>aN (aA (gi x1 1 == a1) (some (.nx [ci (wr (gi v1 0+gi x1 2))])) (some (.nx [ci (gi v1 0)]))) fun v2=>some (.nx [ci (gi v2 0)])) l0 [ci 0]) fun v1=>some (.ret [ci (gi v1 0)])
theorem wQ (a0:List CV) (a1:Int):D its (n+1) fY [.ref a0,ci a1]=aV (nJ (D its n) a0 a1):=by kernel_rfl
def sD (M:Den) (a0 a1:Int):Option Ou:=aB (M lL [ci a0]) fun v0=>aB (M lL [ci a1]) fun v1=>aA (gb v0 0) (aA (gb v1 0) (some (.ret [ci 0])) (some (.ret [ci (-1)]))) (aA (gb v1 0) (some (.ret [ci 1])) (aA (decide (a0<a1)) (some (.ret [ci (-1)])) (aA (decide (a0 > a1)) (some (.ret [ci 1])) (some (.ret [ci 0])))))
theorem DI (a0 a1:Int):D its (n+1) fE [ci a0,ci a1]=aV (sD (D its n) a0 a1):=by kernel_rfl
def DP (M:Den) (a0:List (List CV)):Option Ou:=cD 0 (aL (fun v0=>aA (decide (gi v0 0<il a0)) (chk (inb (gi v0 0) a0)<|chk (oks [li] (el a0 (gi v0 0)) 0)<|aA (gi (el a0 (gi v0 0)) 0 != 0) (some (.ret [ci (gi (el a0 (gi v0 0)) 0)])) (some (.nx [ci (wr (gi v0 0+1))]))) (some (.br 0 []))) [ci 0]) fun v0=>some (.ret [ci 0])
theorem TX (a0:List (List CV)):D its (n+1) pX [.row 1 a0]=aV (DP (D its n) a0):=by kernel_rfl
def AN (M:Den) (b0 b1 b2:List (List CV)) (c0 c1:Int):Option Ou:=aB (M cU [CV.row 3 b0,CV.row 13 b1,CV.row 13 b2]) fun v0=>aA (gi v0 0 == 0) (aB (M oH [ci c0]) fun v1=>aA (gb v1 0) (aB (M oH [ci c1]) fun v2=>some (.ret [cb (gb v2 0)])) (some (.ret [cb false]))) (some (.ret [cb false]))
theorem OQ (b0 b1 b2:List (List CV)) (c0 c1:Int):D its (n+1) cL [.row 3 b0,.row 13 b1,.row 13 b2,ci c0,ci c1]=aV (AN (D its n) b0 b1 b2 c0 c1):=by kernel_rfl
def UD (M:Den)  : Option Ou:=some (.ret ([CV.mp 1 (bV 1 [ci 8] (fvC 179) (bV 1 [ci 7] (fvC 179) (bV 1 [ci 6] (fvC 178) (bV 1 [ci 5] (fvC 177) (bV 1 [ci 4] (fvC 176) (bV 1 [ci 3] (fvC 175) (bV 1 [ci 2] (fvC 174) (bV 1 [ci 1] (fvC 173) []))))))))]))
theorem UE  : D its (n+1) vF []=aV (UD (D its n) ):=by kernel_rfl
def vY (M:Den) (b0 b1 c0 c1:Int):Option Ou:=aB (M fE [ci b0,ci c0]) fun v0=>aB (M fE [ci b1,ci c1]) fun v1=>aB (M pX ([CV.row 1 (aS 1 2 [ci (gi v0 0),ci (gi v1 0)])])) fun v2=>some (.ret [ci (gi v2 0)])
theorem IG (b0 b1 c0 c1:Int):D its (n+1) lK [ci b0,ci b1,ci c0,ci c1]=aV (vY (D its n) b0 b1 c0 c1):=by kernel_rfl
def DC (M:Den) (b0 b1:Int):Option Ou:=aB (M cE [ci b0,ci 0,ci 5]) fun v0=>aA (gb v0 0) (aB (M cE [ci b1,ci 0,ci 9999]) fun v1=>some (.ret [cb (gb v1 0)])) (some (.ret [cb false]))
theorem TV (b0 b1:Int):D its (n+1) pW [ci b0,ci b1]=aV (DC (D its n) b0 b1):=by kernel_rfl
def tQ (M:Den) (b0 b1 b2 b3 b4 b5 b6 b7 b8 b9 b_0 b_1 b_2:Int):Option Ou:=aB (M dD [ci b0,ci b1,ci b2,ci b3,ci b4,ci b5,ci b6,ci b7,ci b8,ci b9,ci b_0,ci b_1,ci b_2]) fun v0=>some (.ret [cb (gi v0 0 != 0)])
theorem FQ (b0 b1 b2 b3 b4 b5 b6 b7 b8 b9 b_0 b_1 b_2:Int):D its (n+1) kO [ci b0,ci b1,ci b2,ci b3,ci b4,ci b5,ci b6,ci b7,ci b8,ci b9,ci b_0,ci b_1,ci b_2]=aV (tQ (D its n) b0 b1 b2 b3 b4 b5 b6 b7 b8 b9 b_0 b_1 b_2):=by kernel_rfl
def HG (M:Den) (b0 b1 c0 c1:Int):Option Ou:=aA (b0 != c0) (some (.ret [cb (decide (b0<c0))])) (some (.ret [cb (decide (b1<c1))]))
theorem XH (b0 b1 c0 c1:Int):D its (n+1) rX [ci b0,ci b1,ci c0,ci c1]=aV (HG (D its n) b0 b1 c0 c1):=by kernel_rfl
def AR (M:Den) (a0:Int):Option Ou:=aA (decide (a0>=0)) (some (.ret [cb (decide (a0<=100000))])) (some (.ret [cb false]))
theorem OV (a0:Int):D its (n+1) oH [ci a0]=aV (AR (D its n) a0):=by kernel_rfl
def uC (M:Den) (b0 b1 b2 b3 b4 b5 b6 b7 b8 b9 b_0 b_1 b_2 c0 c1 c2 c3 c4 c5 c6 c7 c8 c9 c_0 c_1 c_2:Int):Option Ou:=aB (M lK [ci b0,ci b1,ci c0,ci c1]) fun v0=>some (.ret [ci (gi v0 0)])
theorem GA (b0 b1 b2 b3 b4 b5 b6 b7 b8 b9 b_0 b_1 b_2 c0 c1 c2 c3 c4 c5 c6 c7 c8 c9 c_0 c_1 c_2:Int):D its (n+1) kR [ci b0,ci b1,ci b2,ci b3,ci b4,ci b5,ci b6,ci b7,ci b8,ci b9,ci b_0,ci b_1,ci b_2,ci c0,ci c1,ci c2,ci c3,ci c4,ci c5,ci c6,ci c7,ci c8,ci c9,ci c_0,ci c_1,ci c_2]=aV (uC (D its n) b0 b1 b2 b3 b4 b5 b6 b7 b8 b9 b_0 b_1 b_2 c0 c1 c2 c3 c4 c5 c6 c7 c8 c9 c_0 c_1 c_2):=by kernel_rfl
def wG (M:Den) (a0:Int):Option Ou:=aB (M cE [ci a0,ci 1,ci 99]) fun v0=>some (.ret [cb (gb v0 0)])
theorem IQ (a0:Int):D its (n+1) jF [ci a0]=aV (wG (D its n) a0):=by kernel_rfl
def wF (M:Den) (a0:Int):Option Ou:=some (.ret [cb (a0 != a0)])
theorem IP (a0:Int):D its (n+1) lL [ci a0]=aV (wF (D its n) a0):=by kernel_rfl
end
end Go.Proofs.YtfgdfpnkhdlmfaaGreat
namespace Go.Proofs.YtfgdfpnkhdlmfaaGreat
open Go Go.Sx
set_option maxRecDepth 100000
set_option maxHeartbeats 0
variable (its:ITS) (n:Nat)
noncomputable section
def wD (M:Den) (b0 b1 b2 b3 b4 b5 b6 b7 b8 b9 b_0 b_1 b_2:Int):Option Ou:=aB (M qV [ci b0,ci b1,ci b2,ci b3,ci b4,ci b5,ci b6,ci b7,ci b8,ci b9,ci b_0,ci b_1,ci b_2]) fun v0=>aN (aA (gb v0 13) (aA ((b0 == gi v0 0)&&((b1 == gi v0 1)&&((b2 == gi v0 2)&&((b3 == gi v0 3)&&((b4 == gi v0 4)&&((b5 == gi v0 5)&&((b6 == gi v0 6)&&((b7 == gi v0 7)&&((b8 == gi v0 8)&&((b9 == gi v0 9)&&((b_0 == gi v0 10)&&((b_1 == gi v0 11)&&((b_2 == gi v0 12)&&true))))))))))))) (aB (M pW [ci b0,ci b1]) fun v1=>aA (gb v1 0) (aB (M oP [ci b4]) fun v2=>aA (gb v2 0) (aB (M oP [ci b3]) fun v3=>some (.nx [cb (gb v3 0)])) (some (.nx [cb false]))) (some (.nx [cb false]))) (some (.nx [cb false]))) (some (.nx [cb false]))) fun v1=>aN (aA (b2 == 0) (aN (aA (gb v1 0) (aA (b3 == 0) (aB (M pW [ci b_1,ci b_2]) fun v2=>aA (gb v2 0) (aA (b_1 == b0) (some (.nx [cb (decide (b_2<b1))])) (some (.nx [cb false]))) (some (.nx [cb false]))) (some (.nx [cb false]))) (some (.nx [cb false]))) fun v2=>some (.nx [cb (gb v2 0)])) (aN (aA (b2 == 1) (some (.nx [cb (b2 == 1)])) (some (.nx [cb (b2 == 3)]))) fun v2=>aN (aA (gb v2 0) (aN (aA (gb v1 0) (aB (M jF [ci b5]) fun v3=>aA (gb v3 0) (aB (M cE [ci b7,ci 1,ci 99]) fun v4=>some (.nx [cb (gb v4 0)])) (some (.nx [cb false]))) (some (.nx [cb false]))) fun v3=>some (.nx [cb (gb v3 0)])) (aN (aA (b2 == 7) (some (.nx [cb (b2 == 7)])) (some (.nx [cb (b2 == 8)]))) fun v3=>aN (aA (gb v3 0) (aN (aA (gb v1 0) (aB (M gG [ci b8]) fun v4=>aA (gb v4 0) (aB (M cE [ci b_0,ci b3,ci 100000]) fun v5=>some (.nx [cb (gb v5 0)])) (some (.nx [cb false]))) (some (.nx [cb false]))) fun v4=>some (.nx [cb (gb v4 0)])) (aN (aA (gb v1 0) (aB (M jF [ci b5]) fun v4=>some (.nx [cb (gb v4 0)])) (some (.nx [cb false]))) fun v4=>aN (aA (b2 != 2) (aN (aA (gb v4 0) (aB (M jF [ci b6]) fun v5=>aA (gb v5 0) (some (.nx [cb (b6 != b5)])) (some (.nx [cb false]))) (some (.nx [cb false]))) fun v5=>some (.nx [cb (gb v5 0)])) (some (.nx [cb (gb v4 0)]))) fun v5=>aN (aA (b2 != 5) (aN (aA (gb v5 0) (aB (M gG [ci b8]) fun v6=>aA (gb v6 0) (aB (M cE [ci b9,ci 1,ci 100000]) fun v7=>some (.nx [cb (gb v7 0)])) (some (.nx [cb false]))) (some (.nx [cb false]))) fun v6=>some (.nx [cb (gb v6 0)])) (some (.nx [cb (gb v5 0)]))) fun v6=>aN (aA (b2 == 6) (aN (aA (gb v6 0) (aB (M cE [ci b_0,ci b3,ci 100000]) fun v7=>some (.nx [cb (gb v7 0)])) (some (.nx [cb false]))) fun v7=>some (.nx [cb (gb v7 0)])) (some (.nx [cb (gb v6 0)]))) fun v7=>some (.nx [cb (gb v7 0)]))) fun v4=>some (.nx [cb (gb v4 0)]))) fun v3=>some (.nx [cb (gb v3 0)]))) fun v2=>aA (!(gb v2 0)) (some (.ret [ci 22])) (some (.ret [ci 0]))
theorem IL (b0 b1 b2 b3 b4 b5 b6 b7 b8 b9 b_0 b_1 b_2:Int):D its (n+1) fH [ci b0,ci b1,ci b2,ci b3,ci b4,ci b5,ci b6,ci b7,ci b8,ci b9,ci b_0,ci b_1,ci b_2]=aV (wD (D its n) b0 b1 b2 b3 b4 b5 b6 b7 b8 b9 b_0 b_1 b_2):=by kernel_rfl
def DU (M:Den)  : Option Ou:=aB (M qU []) fun v0=>aB (M dH [CV.row 3 (gr v0 0),CV.row 13 (gr v0 1),CV.row 13 (gr v0 2),ci 1,ci 1,ci 110,ci 110]) fun v1=>aB (M dH [CV.row 3 (gr v0 0),CV.row 13 (gr v0 1),CV.row 13 (gr v0 2),ci 2,ci 1,ci 110,ci 110]) fun v2=>aB (M gS [CV.row 3 (gr v0 0),CV.row 13 (gr v0 1),CV.row 13 (gr v0 2),ci 1,ci 110,ci 110]) fun v3=>aB (M cY [CV.row 3 (gr v0 0),CV.row 13 (gr v0 1),CV.row 13 (gr v0 2),ci 1,ci 125,ci 125]) fun v4=>aB (M cY [CV.row 3 (gr v0 0),CV.row 13 (gr v0 1),CV.row 13 (gr v0 2),ci 1,ci 125,ci 119]) fun v5=>aB (M fL [CV.row 3 (gr v0 0),CV.row 13 (gr v0 1),CV.row 13 (gr v0 2),ci 400]) fun v6=>aB (M iM [CV.row 3 (gr v0 0),CV.row 13 (gr v0 1),CV.row 13 (gr v0 2),ci 5,ci 1,ci 3,ci 470,ci 470]) fun v7=>aB (M eD [CV.row 3 (gr v0 0),CV.row 13 (gr v0 1),CV.row 13 (gr v0 2),ci 5,ci 1,ci 0,ci 2,ci 0,ci 1,ci 0,ci 0,ci 0,ci 0,ci 0,ci 0,ci 110,ci 110]) fun v8=>aB (M jE [CV.row 3 (gr v0 0),CV.row 13 (gr v0 1),CV.row 13 (gr v0 2),ci 110,ci 110,ci 400]) fun v9=>aB (M lB [CV.row 3 (gr v0 0),CV.row 13 (gr v0 1),CV.row 13 (gr v0 2),ci 5,ci 1,ci 110,ci 110]) fun v10=>aN (aA (gi v1 1 == 0) (aA (gi v2 1 == 0) (aA (gi v3 1 == 0) (aA (gi v4 1 == 0) (aA (gi v5 1 == 0) (aA (gi v6 1 == 0) (aA (gi v7 1 == 0) (aA (gi v8 1 == 0) (aA (gi v9 1 == 0) (some (.nx [cb (gi v10 1 == 0)])) (some (.nx [cb false]))) (some (.nx [cb false]))) (some (.nx [cb false]))) (some (.nx [cb false]))) (some (.nx [cb false]))) (some (.nx [cb false]))) (some (.nx [cb false]))) (some (.nx [cb false]))) (some (.nx [cb false]))) fun v11=>aA (gb v11 0) (aA (gi v1 0 == 120) (aA (gi v2 0 == 180) (aA (gi v3 0 == 300) (aA (!(gb v4 0)) (aA (gb v5 0) (aB (M lJ ([CV.row 2 (gr v6 0),CV.row 2 (aS 2 1 [ci 0,ci 5])])) fun v12=>aA (gb v12 0) (aA (gi v7 0 == 15) (aA (gi v8 0 == 12) (aB (M eC ([CV.row 1 (gr v9 0),CV.row 1 (aS 1 2 [ci 5,ci 6])])) fun v13=>aA (gb v13 0) (aB (M lJ ([CV.row 2 (gr v10 0),CV.row 2 (aS 2 5 [ci 0,ci 0,ci 0,ci 1,ci 0,ci 2,ci 0,ci 3,ci 0,ci 4])])) fun v14=>some (.ret [cb (gb v14 0)])) (some (.ret [cb false]))) (some (.ret [cb false]))) (some (.ret [cb false]))) (some (.ret [cb false]))) (some (.ret [cb false]))) (some (.ret [cb false]))) (some (.ret [cb false]))) (some (.ret [cb false]))) (some (.ret [cb false]))) (some (.ret [cb false]))
theorem UB  : D its (n+1) aP []=aV (DU (D its n) ):=by kernel_rfl
def sH (M:Den) (b0 b1 b2 b3 b4 b5 b6 b7 b8 b9 b_0 b_1 b_2:Int):Option Ou:=aN (aB (M mT [ci b0,ci b1]) fun v0=>aA (!(gb v0 0)) (some (.nx [cb true])) (aB (M aY [ci b4,ci 0,ci 100000]) fun v1=>some (.nx [cb (!(gb v1 0))]))) fun v0=>aA (gb v0 0) (some (.ret [ci 22])) (aA (b2 == 0) (aN (aA (!((b0 == b0)&&((b1 == b1)&&((b2 == 0)&&((b3 == 0)&&((b4 == b4)&&((b5 == 0)&&((b6 == 0)&&((b7 == 0)&&((b8 == 0)&&((b9 == 0)&&((b_0 == 0)&&((b_1 == b_1)&&((b_2 == b_2)&&true)))))))))))))) (some (.nx [cb true])) (aB (M mT [ci b_1,ci b_2]) fun v1=>aA (!(gb v1 0)) (some (.nx [cb true])) (aA (b_1 != b0) (some (.nx [cb true])) (some (.nx [cb (decide (b_2>=b1))]))))) fun v1=>aA (gb v1 0) (some (.ret [ci 22])) (some (.ret [ci 0]))) (aB (M xU [ci b2]) fun v1=>aN (aB (M iC [cb (gb v1 0),ci b5,ci 1,ci 99]) fun v2=>aA (gb v2 0) (aB (M iC [cb (gb v1 1),ci b6,ci 1,ci 99]) fun v3=>aA (gb v3 0) (aB (M iC [cb (gb v1 2),ci b7,ci 1,ci 99]) fun v4=>aA (gb v4 0) (aB (M iC [cb (gb v1 3),ci b8,ci 1,ci 99]) fun v5=>aA (gb v5 0) (aB (M iC [cb (gb v1 4),ci b9,ci 1,ci 100000]) fun v6=>aA (gb v6 0) (aB (M iC [cb (gb v1 5),ci b_0,ci b3,ci 100000]) fun v7=>some (.nx [cb (gb v7 0)])) (some (.nx [cb false]))) (some (.nx [cb false]))) (some (.nx [cb false]))) (some (.nx [cb false]))) (some (.nx [cb false]))) fun v2=>aN (aA (!(gb v1 6)) (some (.nx [cb true])) (aB (M aY [ci b3,ci 0,ci 100000]) fun v3=>aA (!(gb v3 0)) (some (.nx [cb true])) (aA (!(gb v2 0)) (some (.nx [cb true])) (aA (gb v1 1) (aA (b6 == b5) (some (.nx [cb true])) (some (.nx [cb (!((b_1 == 0)&&((b_2 == 0)&&true)))]))) (some (.nx [cb (!((b_1 == 0)&&((b_2 == 0)&&true)))])))))) fun v3=>aA (gb v3 0) (some (.ret [ci 22])) (some (.ret [ci 0]))))
theorem DL (b0 b1 b2 b3 b4 b5 b6 b7 b8 b9 b_0 b_1 b_2:Int):D its (n+1) dI [ci b0,ci b1,ci b2,ci b3,ci b4,ci b5,ci b6,ci b7,ci b8,ci b9,ci b_0,ci b_1,ci b_2]=aV (sH (D its n) b0 b1 b2 b3 b4 b5 b6 b7 b8 b9 b_0 b_1 b_2):=by kernel_rfl
def gZ (M:Den) (a0:List (List CV)) (c0 c1 c2 c3 c4 c5 c6 c7 c8 c9 c_0 c_1 c_2:Int) (a2:CV):Option Ou:=cD 0 (aL (fun v0=>aA (decide (gi v0 0<gi v0 1)) (chk (inb (wr (Int.fdiv (IntKind.wrap .u64 (wr (gi v0 0+gi v0 1))) 2)) a0)<|chk (oks liA (el a0 (wr (Int.fdiv (IntKind.wrap .u64 (wr (gi v0 0+gi v0 1))) 2))) 0)<|aB (dY sg M a2 (cat [cis (el a0 (wr (Int.fdiv (IntKind.wrap .u64 (wr (gi v0 0+gi v0 1))) 2))) 0 13,[ci c0,ci c1,ci c2,ci c3,ci c4,ci c5,ci c6,ci c7,ci c8,ci c9,ci c_0,ci c_1,ci c_2]]) [.agg liA,.agg liA] [.one li]) fun v1=>aN (aA (decide (gi v1 0<0)) (some (.nx [ci (wr (wr (Int.fdiv (IntKind.wrap .u64 (wr (gi v0 0+gi v0 1))) 2)+1)),ci (gi v0 1)])) (some (.nx [ci (gi v0 0),ci (wr (Int.fdiv (IntKind.wrap .u64 (wr (gi v0 0+gi v0 1))) 2))]))) fun v2=>some (.nx [ci (gi v2 0),ci (gi v2 1)])) (some (.br 0 [ci (gi v0 0)]))) [ci 0,ci (il a0)]) fun v0=>aA (decide (gi v0 0<il a0)) (chk (inb (gi v0 0) a0)<|chk (oks liA (el a0 (gi v0 0)) 0)<|aB (dY sg M a2 (cat [cis (el a0 (gi v0 0)) 0 13,[ci c0,ci c1,ci c2,ci c3,ci c4,ci c5,ci c6,ci c7,ci c8,ci c9,ci c_0,ci c_1,ci c_2]]) [.agg liA,.agg liA] [.one li]) fun v1=>some (.ret [ci (gi v0 0),cb (gi v1 0 == 0)])) (some (.ret [ci (gi v0 0),cb false]))
theorem oA (a0:List (List CV)) (c0 c1 c2 c3 c4 c5 c6 c7 c8 c9 c_0 c_1 c_2:Int) (a2:CV):D its (n+1) dA [.row 13 a0,ci c0,ci c1,ci c2,ci c3,ci c4,ci c5,ci c6,ci c7,ci c8,ci c9,ci c_0,ci c_1,ci c_2,a2]=aV (gZ (D its n) a0 c0 c1 c2 c3 c4 c5 c6 c7 c8 c9 c_0 c_1 c_2 a2):=by kernel_rfl
def AL (M:Den) (b0 b1 b2:List (List CV)):Option Ou:=aB (M eU ([CV.row 3 b0,CV.fn 131 []])) fun v0=>aB (M kY ([CV.row 13 b1,CV.fn 133 []])) fun v1=>aB (M gO ([CV.row 13 b2,CV.fn 135 []])) fun v2=>aN (aA (gb v0 3) (some (.nx [cb true])) (aA (gb v1 13) (some (.nx [cb true])) (aA (gb v2 13) (some (.nx [cb true])) (aA (decide ((il b0) > 8)) (some (.nx [cb true])) (aA (decide ((il b1) > 20)) (some (.nx [cb true])) (some (.nx [cb (decide ((il b2) > 60))]))))))) fun v3=>aA (gb v3 0) (some (.ret [ci 23])) (aB (M jL ([CV.row 3 b0,CV.fn 137 []])) fun v4=>aB (M kE ([CV.row 13 b1,CV.fn 139 []])) fun v5=>aN (aA (!(gb v4 0)) (some (.nx [cb true])) (aA (!(gb v5 0)) (some (.nx [cb true])) (aB (M lR ([CV.row 13 b2,CV.fn 143 []])) fun v6=>some (.nx [cb (!(gb v6 0))])))) fun v6=>aA (gb v6 0) (some (.ret [ci 23])) (some (.ret [ci 0])))
theorem OO (b0 b1 b2:List (List CV)):D its (n+1) aI [.row 3 b0,.row 13 b1,.row 13 b2]=aV (AL (D its n) b0 b1 b2):=by kernel_rfl
def pR (M:Den) (a0:List CV) (c0 c1 a2:Int):Option Ou:=aB (M eV [CV.ref a0,ci c0,ci c1,ci a2]) fun v0=>chk (oks [.row 13] (List.drop 4 a0) 0)<|cD 0 (aL (fun v1=>aA (decide (gi v1 1<il (gr (List.drop 4 a0) 0))) (chk (inb (gi v1 1) (gr (List.drop 4 a0) 0))<|chk (oks liA (el (gr (List.drop 4 a0) 0) (gi v1 1)) 0)<|aN (aA (gi (el (gr (List.drop 4 a0) 0) (gi v1 1)) 6 == c0) (aA (gi (el (gr (List.drop 4 a0) 0) (gi v1 1)) 8 == c1) (some (.nx [cb (decide ((gi (el (gr (List.drop 4 a0) 0) (gi v1 1)) 10)>=a2))])) (some (.nx [cb false]))) (some (.nx [cb false]))) fun v2=>aN (aA (gb v2 0) (some (.nx [ci (wr (gi v1 0+gi (el (gr (List.drop 4 a0) 0) (gi v1 1)) 9))])) (some (.nx [ci (gi v1 0)]))) fun v3=>some (.nx [ci (gi v3 0),ci (wr (gi v1 1+1))])) (some (.br 0 [ci (gi v1 0)]))) [ci (gi v0 0),ci 0]) fun v1=>some (.ret [ci (gi v1 0)])
theorem zV (a0:List CV) (c0 c1 a2:Int):D its (n+1) gV [.ref a0,ci c0,ci c1,ci a2]=aV (pR (D its n) a0 c0 c1 a2):=by kernel_rfl
def AO (M:Den) (b0 b1 b2:List (List CV)) (a1 d0 d1:Int):Option Ou:=aB (M aI [CV.row 3 b0,CV.row 13 b1,CV.row 13 b2]) fun v0=>aA (gi v0 0 != 0) (some (.ret [ci 0,ci (gi v0 0)])) (aB (M jN [ci a1]) fun v1=>aA (!(gb v1 0)) (some (.ret [ci 0,ci 1])) (aB (M cV [ci d0,ci d1]) fun v2=>aA (!(gb v2 0)) (some (.ret [ci 0,ci 6])) (aB (M bP [CV.row 3 b0,CV.row 13 b1,CV.row 13 b2,ci d0,ci d1]) fun v3=>chk (oks [.mp 1] (List.drop 1 (cF (List.getD v3 0 dC))) 0)<|chk (dX [.int .i64] (.int .i64) (gr (List.drop 1 (cF (List.getD v3 0 dC))) 0))<|aA (!(decide ((bN 1 [ci a1] (gr (List.drop 1 (cF (List.getD v3 0 dC))) 0))<(List.length (gr (List.drop 1 (cF (List.getD v3 0 dC))) 0))))) (some (.ret [ci 0,ci 24])) (some (.ret ([ci (cI (aH 1 [ci a1] (.int .i64 0) (gr (List.drop 1 (cF (List.getD v3 0 dC))) 0))),ci 0]))))))
theorem OS (b0 b1 b2:List (List CV)) (a1 d0 d1:Int):D its (n+1) jG [.row 3 b0,.row 13 b1,.row 13 b2,ci a1,ci d0,ci d1]=aV (AO (D its n) b0 b1 b2 a1 d0 d1):=by kernel_rfl
def nL (M:Den) (a0:List (List CV)) (a1:CV):Option Ou:=cD 0 (aL (fun v0=>aA (decide (gi v0 0<il a0)) (chk (inb (wr (gi v0 0 - 1)) a0)<|chk (oks [li,li,li] (el a0 (wr (gi v0 0 - 1))) 0)<|chk (inb (gi v0 0) a0)<|chk (oks [li,li,li] (el a0 (gi v0 0)) 0)<|aB (dY sg M a1 [ci (gi (el a0 (wr (gi v0 0 - 1))) 0),ci (gi (el a0 (wr (gi v0 0 - 1))) 1),ci (gi (el a0 (wr (gi v0 0 - 1))) 2),ci (gi (el a0 (gi v0 0)) 0),ci (gi (el a0 (gi v0 0)) 1),ci (gi (el a0 (gi v0 0)) 2)] [.agg [li,li,li],.agg [li,li,li]] [.one li]) fun v1=>aA (decide ((gi v1 0)>=0)) (some (.ret [cb false])) (some (.nx [ci (wr (gi v0 0+1))]))) (some (.br 0 []))) [ci 1]) fun v0=>some (.ret [cb true])
theorem wS (a0:List (List CV)) (a1:CV):D its (n+1) jL [.row 3 a0,a1]=aV (nL (D its n) a0 a1):=by kernel_rfl
def pP (M:Den) (a0:List (List CV)) (a1:CV):Option Ou:=cD 0 (aL (fun v0=>aA (decide (gi v0 0<il a0)) (chk (inb (gi v0 0) a0)<|chk (oks liA (el a0 (gi v0 0)) 0)<|aB (dY sg M a1 (cis (el a0 (gi v0 0)) 0 13) [.agg liA] [.one lb]) fun v1=>aA (gb v1 0) (some (.ret (cat [cis (el a0 (gi v0 0)) 0 13,[cb true]]))) (some (.nx (cat [[ci (wr (gi v0 0+1))],cis v0 1 13])))) (some (.br 0 (cis v0 1 13)))) [ci 0,ci 0,ci 0,ci 0,ci 0,ci 0,ci 0,ci 0,ci 0,ci 0,ci 0,ci 0,ci 0,ci 0]) fun v0=>some (.ret [ci 0,ci 0,ci 0,ci 0,ci 0,ci 0,ci 0,ci 0,ci 0,ci 0,ci 0,ci 0,ci 0,cb false])
theorem zT (a0:List (List CV)) (a1:CV):D its (n+1) kY [.row 13 a0,a1]=aV (pP (D its n) a0 a1):=by kernel_rfl
def qY (M:Den) (a0:List (List CV)) (a1:CV):Option Ou:=cD 0 (aL (fun v0=>aA (decide (gi v0 0<il a0)) (chk (inb (wr (gi v0 0 - 1)) a0)<|chk (oks liA (el a0 (wr (gi v0 0 - 1))) 0)<|chk (inb (gi v0 0) a0)<|chk (oks liA (el a0 (gi v0 0)) 0)<|aB (dY sg M a1 (cat [cis (el a0 (wr (gi v0 0 - 1))) 0 13,cis (el a0 (gi v0 0)) 0 13]) [.agg liA,.agg liA] [.one li]) fun v1=>aA (decide ((gi v1 0)>=0)) (some (.ret [cb false])) (some (.nx [ci (wr (gi v0 0+1))]))) (some (.br 0 []))) [ci 1]) fun v0=>some (.ret [cb true])
theorem BR (a0:List (List CV)) (a1:CV):D its (n+1) lR [.row 13 a0,a1]=aV (qY (D its n) a0 a1):=by kernel_rfl
def AP (M:Den) (b0 b1 b2:List (List CV)) (a1 d0 d1:Int):Option Ou:=aB (M aI [CV.row 3 b0,CV.row 13 b1,CV.row 13 b2]) fun v0=>aA (gi v0 0 != 0) (some (.ret ([CV.row 1 [],ci (gi v0 0)]))) (aB (M aY [ci a1,ci 1,ci 99]) fun v1=>aA (!(gb v1 0)) (some (.ret ([CV.row 1 [],ci 1]))) (aB (M cV [ci d0,ci d1]) fun v2=>aA (!(gb v2 0)) (some (.ret ([CV.row 1 [],ci 6]))) (aB (M bP [CV.row 3 b0,CV.row 13 b1,CV.row 13 b2,ci d0,ci d1]) fun v3=>aB (M gA [CV.ref (cF (List.getD v3 0 dC)),ci a1]) fun v4=>some (.ret [CV.row 1 (gr v4 0),ci 0]))))
theorem OT (b0 b1 b2:List (List CV)) (a1 d0 d1:Int):D its (n+1) lC [.row 3 b0,.row 13 b1,.row 13 b2,ci a1,ci d0,ci d1]=aV (AP (D its n) b0 b1 b2 a1 d0 d1):=by kernel_rfl
def oZ (M:Den) (a0:List CV) (a1 a2 a3:Int):Option Ou:=aB (M gA [CV.ref a0,ci a1]) fun v0=>cD 0 (aL (fun v1=>aA (decide (gi v1 1<il (gr v0 0))) (chk (inb (gi v1 1) (gr v0 0))<|chk (oks [li] (el (gr v0 0) (gi v1 1)) 0)<|aB (M gV [CV.ref a0,ci (gi (el (gr v0 0) (gi v1 1)) 0),ci a2,ci a3]) fun v2=>some (.nx [ci (wr (gi v1 0+gi v2 0)),ci (wr (gi v1 1+1))])) (some (.br 0 [ci (gi v1 0)]))) [ci 0,ci 0]) fun v1=>some (.ret [ci (gi v1 0)])
theorem yG (a0:List CV) (a1 a2 a3:Int):D its (n+1) gN [.ref a0,ci a1,ci a2,ci a3]=aV (oZ (D its n) a0 a1 a2 a3):=by kernel_rfl
def lI (M:Den) (a0 a1 a2 a3:List CV):Option Ou:=chk (oks [li,li,li] a1 0)<|chk (oks [li] a2 0)<|aB (M eE [CV.ref a0,ci (gi a1 0),ci (gi a1 1),ci (gi a1 2),ci (gi a2 0)]) fun v0=>aA (!(gb v0 0)) (some (.ret [ci 0])) (chk (oks [li] a3 0)<|chk (oks [li] (List.drop 0 a1) 0)<|chk (oks [li] a2 0)<|aB (M gN [CV.ref a0,ci (gi a3 0),ci (gi (List.drop 0 a1) 0),ci (gi a2 0)]) fun v1=>some (.ret [ci (gi v1 0)]))
theorem sY (a0 a1 a2 a3:List CV):D its (n+1) cO [.ref a0,.ref a1,.ref a2,.ref a3]=aV (lI (D its n) a0 a1 a2 a3):=by kernel_rfl
def nK (M:Den) (b0 b1 b2:Int) (a1 a2 a3 a4:List CV):Option Ou:=chk (oks [.raw] a3 0)<|chk (qN (List.getD a3 0 dC))<|aB (M cO ([CV.ref (cF (List.getD a3 0 dC)),CV.ref [ci b0,ci b1,ci b2],CV.ref a1,CV.ref a2])) fun v0=>chk (oks [.raw] a4 0)<|chk (qN (List.getD a4 0 dC))<|aB (M cO ([CV.ref (cF (List.getD a4 0 dC)),CV.ref [ci b0,ci b1,ci b2],CV.ref a1,CV.ref a2])) fun v1=>some (.ret [cb (gi v0 0 != gi v1 0)])
theorem wR (b0 b1 b2:Int) (a1 a2 a3 a4:List CV):D its (n+1) fZ [ci b0,ci b1,ci b2,.ref a1,.ref a2,.ref a3,.ref a4]=aV (nK (D its n) b0 b1 b2 a1 a2 a3 a4):=by kernel_rfl
def lH (M:Den) (a0:Int) (a1 a2:List CV):Option Ou:=chk (oks [.raw] a1 0)<|chk (qN (List.getD a1 0 dC))<|chk (oks [.mp 1] (List.drop 1 (cF (List.getD a1 0 dC))) 0)<|chk (dX [.int .i64] (.int .i64) (gr (List.drop 1 (cF (List.getD a1 0 dC))) 0))<|chk (oks [li] a2 0)<|some (.ret ([cb ((cI (aH 1 [ci a0] (.int .i64 0) (gr (List.drop 1 (cF (List.getD a1 0 dC))) 0))) != gi a2 0)]))
theorem sX (a0:Int) (a1 a2:List CV):D its (n+1) eP [ci a0,.ref a1,.ref a2]=aV (lH (D its n) a0 a1 a2):=by kernel_rfl
def HF (M:Den) (b0 b1 b2:List (List CV)) (c0 c1 c2 c3 c4 c5 c6 c7 c8 c9 c_0 c_1 c_2:Int):Option Ou:=aB (M dR ([CV.row 3 b0,CV.row 13 b1,CV.row 13 b2,CV.row 13 (aS 13 1 [ci c0,ci c1,ci c2,ci c3,ci c4,ci c5,ci c6,ci c7,ci c8,ci c9,ci c_0,ci c_1,ci c_2])])) fun v0=>some (.ret [CV.row 3 (gr v0 0),CV.row 13 (gr v0 1),CV.row 13 (gr v0 2),ci (gi v0 3)])
theorem XG (b0 b1 b2:List (List CV)) (c0 c1 c2 c3 c4 c5 c6 c7 c8 c9 c_0 c_1 c_2:Int):D its (n+1) eJ [.row 3 b0,.row 13 b1,.row 13 b2,ci c0,ci c1,ci c2,ci c3,ci c4,ci c5,ci c6,ci c7,ci c8,ci c9,ci c_0,ci c_1,ci c_2]=aV (HF (D its n) b0 b1 b2 c0 c1 c2 c3 c4 c5 c6 c7 c8 c9 c_0 c_1 c_2):=by kernel_rfl
def qZ (M:Den) (a0:Int) (a1 a2 a3 a4:List CV):Option Ou:=chk (oks [.row 3] (List.drop 0 a1) 0)<|aB (M eU ([CV.row 3 (gr (List.drop 0 a1) 0),CV.fn 98 ([CV.ref a2,CV.ref [ci a0],CV.ref a3,CV.ref a4])])) fun v0=>some (.ret [cb (gb v0 3)])
theorem BS (a0:Int) (a1 a2 a3 a4:List CV):D its (n+1) lQ [ci a0,.ref a1,.ref a2,.ref a3,.ref a4]=aV (qZ (D its n) a0 a1 a2 a3 a4):=by kernel_rfl
def pC (M:Den) (a0:List CV) (c0 c1 c2 c3 c4 c5 c6 c7 c8 c9 c_0 c_1 c_2:Int):Option Ou:=aB (M dK [CV.ref a0,ci c5]) fun v0=>aA (gb v0 0) (aB (M dK [CV.ref a0,ci c6]) fun v1=>some (.ret [cb (gb v1 0)])) (some (.ret [cb false]))
theorem yK (a0:List CV) (c0 c1 c2 c3 c4 c5 c6 c7 c8 c9 c_0 c_1 c_2:Int):D its (n+1) eW [.ref a0,ci c0,ci c1,ci c2,ci c3,ci c4,ci c5,ci c6,ci c7,ci c8,ci c9,ci c_0,ci c_1,ci c_2]=aV (pC (D its n) a0 c0 c1 c2 c3 c4 c5 c6 c7 c8 c9 c_0 c_1 c_2):=by kernel_rfl
def HN (M:Den) (a0:Bool) (a1 a2 a3:Int):Option Ou:=aA (a0) (aB (M aY [ci a1,ci a2,ci a3]) fun v0=>some (.ret [cb (gb v0 0)])) (some (.ret [cb (a1 == 0)]))
theorem XM (a0:Bool) (a1 a2 a3:Int):D its (n+1) iC [cb a0,ci a1,ci a2,ci a3]=aV (HN (D its n) a0 a1 a2 a3):=by kernel_rfl
def xX (M:Den) (b0 b1 b2 b3 b4 b5 b6 b7 b8 b9 b_0 b_1 b_2 c0 c1 c2 c3 c4 c5 c6 c7 c8 c9 c_0 c_1 c_2:Int):Option Ou:=aB (M lK [ci b0,ci b1,ci c0,ci c1]) fun v0=>some (.ret [ci (gi v0 0)])
theorem MD (b0 b1 b2 b3 b4 b5 b6 b7 b8 b9 b_0 b_1 b_2 c0 c1 c2 c3 c4 c5 c6 c7 c8 c9 c_0 c_1 c_2:Int):D its (n+1) mU [ci b0,ci b1,ci b2,ci b3,ci b4,ci b5,ci b6,ci b7,ci b8,ci b9,ci b_0,ci b_1,ci b_2,ci c0,ci c1,ci c2,ci c3,ci c4,ci c5,ci c6,ci c7,ci c8,ci c9,ci c_0,ci c_1,ci c_2]=aV (xX (D its n) b0 b1 b2 b3 b4 b5 b6 b7 b8 b9 b_0 b_1 b_2 c0 c1 c2 c3 c4 c5 c6 c7 c8 c9 c_0 c_1 c_2):=by kernel_rfl
def rY (M:Den) (a0:Int):Option Ou:=aB (M aY [ci a0,ci 1,ci 99]) fun v0=>some (.ret [cb (gb v0 0)])
theorem DD (a0:Int):D its (n+1) jN [ci a0]=aV (rY (D its n) a0):=by kernel_rfl
end
end Go.Proofs.YtfgdfpnkhdlmfaaGreat
namespace Go.Proofs.YtfgdfpnkhdlmfaaGreat
open Go Go.Sx
set_option maxRecDepth 100000
set_option maxHeartbeats 0
variable (its:ITS) (n:Nat)
noncomputable section
def tX (M:Den) (b0 b1 b2:List (List CV)) (c0 c1 d0 d1 d2 d3:Int):Option Ou:=aN (aB (M cL [CV.row 3 b0,CV.row 13 b1,CV.row 13 b2,ci c0,ci c1]) fun v0=>aA (!(gb v0 0)) (some (.nx [cb true])) (aA (decide ((il b2) > 59)) (some (.nx [cb true])) (some (.nx [cb (decide (c0 > c1))])))) fun v0=>aA (gb v0 0) (aB (M aP []) fun v1=>some (.ret [cb (gb v1 0)])) (aB (M cZ [CV.row 3 b0,CV.row 13 b1,CV.row 13 b2,ci c0,ci c1]) fun v1=>aA (gi v1 1 != 0) (some (.ret [cb false])) (aN (aA (decide (il (gr v1 0)<2)) (some (.nx [cb true])) (some (.nx [cb (il b0 == 0)]))) fun v2=>aA (gb v2 0) (aB (M aP []) fun v3=>some (.ret [cb (gb v3 0)])) (aB (M dG [ci d0,ci (il (gr v1 0))]) fun v3=>chk (inb (gi v3 0) (gr v1 0))<|chk (oks [li] (el (gr v1 0) (gi v3 0)) 0)<|aB (M dG [ci d1,ci (wr (il (gr v1 0) - 1))]) fun v4=>chk (il (gr v1 0) != 0)<|chk (inb (Int.tmod (wr (wr (gi v3 0+1)+gi v4 0)) (il (gr v1 0))) (gr v1 0))<|chk (oks [li] (el (gr v1 0) (Int.tmod (wr (wr (gi v3 0+1)+gi v4 0)) (il (gr v1 0)))) 0)<|aB (M jG [CV.row 3 b0,CV.row 13 b1,CV.row 13 b2,ci (gi (el (gr v1 0) (gi v3 0)) 0),ci c0,ci c1]) fun v5=>aB (M jG [CV.row 3 b0,CV.row 13 b1,CV.row 13 b2,ci (gi (el (gr v1 0) (Int.tmod (wr (wr (gi v3 0+1)+gi v4 0)) (il (gr v1 0)))) 0),ci c0,ci c1]) fun v6=>aN (aA (gi v5 1 != 0) (some (.nx [cb true])) (some (.nx [cb (gi v6 1 != 0)]))) fun v7=>aA (gb v7 0) (some (.ret [cb false])) (aA (gi v5 0 != gi v6 0) (aB (M aP []) fun v8=>some (.ret [cb (gb v8 0)])) (aN (aA ((Int.tmod d2 2) == 0) (aB (M dG [ci d3,ci (il b0)]) fun v8=>chk (inb (gi v8 0) b0)<|chk (oks [li] (List.drop 0 (el b0 (gi v8 0))) 0)<|aB (M dG [ci d3,ci 100]) fun v9=>some (.nx [ci 5,ci 9999,ci 4,ci c0,ci c1,ci (gi (el (gr v1 0) (gi v3 0)) 0),ci (gi (el (gr v1 0) (Int.tmod (wr (wr (gi v3 0+1)+gi v4 0)) (il (gr v1 0)))) 0),ci 0,ci (gi (List.drop 0 (el b0 (gi v8 0))) 0),ci (wr (1+gi v9 0)),ci 0,ci 0,ci 0])) (some (.nx [ci 5,ci 9999,ci 5,ci c0,ci c1,ci (gi (el (gr v1 0) (gi v3 0)) 0),ci (gi (el (gr v1 0) (Int.tmod (wr (wr (gi v3 0+1)+gi v4 0)) (il (gr v1 0)))) 0),ci 0,ci 0,ci 0,ci 0,ci 0,ci 0]))) fun v8=>aB (M eJ (cat [[CV.row 3 b0,CV.row 13 b1,CV.row 13 b2],cis v8 0 13])) fun v9=>aA (gi v9 3 != 0) (aA (gi v9 3 == 27) (aB (M aP []) fun v10=>some (.ret [cb (gb v10 0)])) (some (.ret [cb false]))) (aB (M cM [CV.row 3 b0,CV.row 13 b1,CV.row 13 b2,ci (gi v5 0),ci c0,ci c1]) fun v10=>aB (M cM [CV.row 3 (gr v9 0),CV.row 13 (gr v9 1),CV.row 13 (gr v9 2),ci (gi v5 0),ci c0,ci c1]) fun v11=>aA (gb v10 1) (aA (gb v11 1) (aB (M eC [CV.row 1 (gr v10 0),CV.row 1 (gr v11 0)]) fun v12=>aA (gb v12 0) (aB (M aP []) fun v13=>some (.ret [cb (gb v13 0)])) (some (.ret [cb false]))) (some (.ret [cb false]))) (some (.ret [cb false]))))))))
theorem FV (b0 b1 b2:List (List CV)) (c0 c1 d0 d1 d2 d3:Int):D its (n+1) nY [.row 3 b0,.row 13 b1,.row 13 b2,ci c0,ci c1,ci d0,ci d1,ci d2,ci d3]=aV (tX (D its n) b0 b1 b2 c0 c1 d0 d1 d2 d3):=by kernel_rfl
def AI (M:Den) (b0 b1 b2:List (List CV)) (a1 a2 e0 e1:Int):Option Ou:=aB (M aI [CV.row 3 b0,CV.row 13 b1,CV.row 13 b2]) fun v0=>aA (gi v0 0 != 0) (some (.ret ([CV.row 2 [],ci (gi v0 0)]))) (aB (M aR [CV.row 3 b0,CV.row 13 b1,CV.row 13 b2,ci a2]) fun v1=>aB (M aY [ci a1,ci 1,ci 99]) fun v2=>aA (!(gb v2 0)) (some (.ret ([CV.row 2 [],ci 1]))) (aA (!(gb v1 3)) (some (.ret ([CV.row 2 [],ci 20]))) (aB (M cV [ci e0,ci e1]) fun v3=>aA (!(gb v3 0)) (some (.ret ([CV.row 2 [],ci 6]))) (aB (M dP [CV.row 3 b0,CV.row 13 b1,CV.row 13 b2,ci a1,ci (gi v1 0),ci (gi v1 1),ci (gi v1 2),ci e0,ci e1]) fun v4=>cD 1 (aL (fun v5=>aA (decide (gi v5 0<il b2)) (chk (inb (gi v5 0) b2)<|chk (oks liA (el b2 (gi v5 0)) 0)<|gQ (chk (((decide (0<=il b0))&&(decide (il b0<=il b0)))&&(cJ (Int.toNat (il b0)) 0 24))<|chk (((decide (0<=il b1))&&(decide (il b1<=il b1)))&&(cJ (Int.toNat (il b1)) 0 104))<|chk (((decide (0<=il b2))&&(decide (il b2<=il b2)))&&(cJ (Int.toNat (il b2)) 0 104))<|chk (decide ((List.length b0)<=(List.length (List.replicate (Int.toNat (il b0)) [ci 0,ci 0,ci 0]))))<|chk (decide ((List.length b1)<=(List.length (List.replicate (Int.toNat (il b1)) [ci 0,ci 0,ci 0,ci 0,ci 0,ci 0,ci 0,ci 0,ci 0,ci 0,ci 0,ci 0,ci 0]))))<|chk (decide ((List.length b2)<=(List.length (List.replicate (Int.toNat (il b2)) [ci 0,ci 0,ci 0,ci 0,ci 0,ci 0,ci 0,ci 0,ci 0,ci 0,ci 0,ci 0,ci 0]))))<|some (.ret ([CV.row 3 (b0++(List.drop (List.length b0) (List.replicate (Int.toNat (il b0)) [ci 0,ci 0,ci 0]))),CV.row 13 (b1++(List.drop (List.length b1) (List.replicate (Int.toNat (il b1)) [ci 0,ci 0,ci 0,ci 0,ci 0,ci 0,ci 0,ci 0,ci 0,ci 0,ci 0,ci 0,ci 0]))),CV.row 13 (b2++(List.drop (List.length b2) (List.replicate (Int.toNat (il b2)) [ci 0,ci 0,ci 0,ci 0,ci 0,ci 0,ci 0,ci 0,ci 0,ci 0,ci 0,ci 0,ci 0])))]))) fun v6=>aB (M oO ([CV.row 13 (gr v6 2),CV.fn 56 [],ci (gi v5 0),ci (wr (gi v5 0+1))])) fun v7=>chk (pG 13 true v7)<|aB (M dP [CV.row 3 (gr v6 0),CV.row 13 (gr v6 1),CV.row 13 (gr v7 0),ci a1,ci (gi v1 0),ci (gi v1 1),ci (gi v1 2),ci e0,ci e1]) fun v8=>aN (aA (gi v8 0 != gi v4 0) (chk (cJ (List.length (gr v5 1)) 1 16)<|some (.nx ([CV.row 2 (gr v5 1++(aS 2 1 [ci (gi (el b2 (gi v5 0)) 0),ci (gi (el b2 (gi v5 0)) 1)]))]))) (some (.nx [CV.row 2 (gr v5 1)]))) fun v9=>some (.nx [ci (wr (gi v5 0+1)),CV.row 2 (gr v9 0)])) (some (.br 1 [CV.row 2 (gr v5 1)]))) ([ci 0,CV.row 2 []])) fun v5=>some (.ret [CV.row 2 (gr v5 0),ci 0])))))
theorem OL (b0 b1 b2:List (List CV)) (a1 a2 e0 e1:Int):D its (n+1) lB [.row 3 b0,.row 13 b1,.row 13 b2,ci a1,ci a2,ci e0,ci e1]=aV (AI (D its n) b0 b1 b2 a1 a2 e0 e1):=by kernel_rfl
def DF (M:Den) (b0 b1 b2:List (List CV)) (a1 a2 e0 e1 e2 e3 e4 e5 e6 e7 e8 e9 f0 f1:Int):Option Ou:=aB (M aI [CV.row 3 b0,CV.row 13 b1,CV.row 13 b2]) fun v0=>aA (gi v0 0 != 0) (some (.ret [ci 0,ci (gi v0 0)])) (aB (M aR [CV.row 3 b0,CV.row 13 b1,CV.row 13 b2,ci a2]) fun v1=>aB (M aY [ci a1,ci 1,ci 99]) fun v2=>aA (!(gb v2 0)) (some (.ret [ci 0,ci 1])) (aA (!(gb v1 3)) (some (.ret [ci 0,ci 20])) (aB (M kD [ci e0,ci e1,ci e2,ci e3,ci e4,ci e5,ci e6,ci e7,ci e8,ci e9]) fun v3=>aA (!(gb v3 0)) (some (.ret [ci 0,ci 25])) (aB (M cV [ci f0,ci f1]) fun v4=>aA (!(gb v4 0)) (some (.ret [ci 0,ci 6])) (aB (M dS [CV.row 3 b0,CV.row 13 b1,CV.row 13 b2,ci a2,ci f0]) fun v5=>aA (gi v5 13 != 0) (some (.ret [ci 0,ci (gi v5 13)])) (cD 1 (aL (fun v6=>aA (decide (gi v6 1<10)) (chk (((decide (0<=gi v6 1))&&(decide (gi v6 1<(Int.ofNat 10))))&&(oks [li] [ci e0,ci e1,ci e2,ci e3,ci e4,ci e5,ci e6,ci e7,ci e8,ci e9] (Int.toNat (gi v6 1))))<|chk ((decide (0<=gi v6 1))&&(decide (gi v6 1<(Int.ofNat 10))))<|chk (oks [li] (cis v5 0 13) (3+((Int.toNat (gi v6 1))*1)))<|aN (aA (gi (cis v5 0 13) (3+((Int.toNat (gi v6 1))*1)) == 0) (some (.nx ([ci (wr (gi v6 0+gi [ci e0,ci e1,ci e2,ci e3,ci e4,ci e5,ci e6,ci e7,ci e8,ci e9] (Int.toNat (gi v6 1))))]))) (some (.nx [ci (gi v6 0)]))) fun v7=>some (.nx [ci (gi v7 0),ci (wr (gi v6 1+1))])) (some (.br 1 [ci (gi v6 0)]))) [ci 0,ci 0]) fun v6=>aA (decide ((gi v6 0) > 0)) (some (.ret [ci (wr (0 - gi v6 0)),ci 0])) (aB (M lD (cat [cis v5 0 13,[ci e0,ci e1,ci e2,ci e3,ci e4,ci e5,ci e6,ci e7,ci e8,ci e9]])) fun v7=>aB (M dP [CV.row 3 b0,CV.row 13 b1,CV.row 13 b2,ci a1,ci (gi v1 0),ci (gi v1 1),ci (gi v1 2),ci f0,ci f1]) fun v8=>some (.ret [ci (if 0 > (wr (gi v7 0 - gi v8 0)) then 0 else wr (gi v7 0 - gi v8 0)),ci 0]))))))))
theorem TW (b0 b1 b2:List (List CV)) (a1 a2 e0 e1 e2 e3 e4 e5 e6 e7 e8 e9 f0 f1:Int):D its (n+1) eD [.row 3 b0,.row 13 b1,.row 13 b2,ci a1,ci a2,ci e0,ci e1,ci e2,ci e3,ci e4,ci e5,ci e6,ci e7,ci e8,ci e9,ci f0,ci f1]=aV (DF (D its n) b0 b1 b2 a1 a2 e0 e1 e2 e3 e4 e5 e6 e7 e8 e9 f0 f1):=by kernel_rfl
def nH (M:Den) (a0:List CV) (a1:Int):Option Ou:=gQ (chk (oks [.mp 1] (List.drop 1 a0) 0)<|chk (dX [.int .i64] (.int .i64) (gr (List.drop 1 a0) 0))<|OJ (gr (List.drop 1 a0) 0) fun p0 l0=>aB (gU 1 (fun x1 v1=>chk (cJ (List.length (gr v1 0)) 1 8)<|some (.nx ([CV.row 1 (gr v1 0++(aS 1 1 [ci (gi x1 0)]))]))) l0 ([CV.row 1 []])) fun v1=>aB (M jQ ([CV.row 1 (gr v1 0),CV.fn 3 []])) fun v2=>chk (pG 1 false v2)<|some (.ret [CV.row 1 (gr v2 0)])) fun v0=>gQ (aB (M eF ([CV.row 1 (gr v0 0),CV.fn 164 ([CV.ref [CV.ref a0],CV.ref [ci a1]])])) fun v1=>aA (gi v1 0 == (-1)) (some (.ret [CV.row 1 (gr v0 0)])) (cD 0 (aL (fun v2=>aA (decide (gi v2 1<il (gr v2 2))) (chk (inb (gi v2 1) (gr v2 2))<|chk (decide ((Int.toNat (gi v2 1))<(List.length (gr v2 2))))<|chk (oks [li] (el (gr v2 2) (gi v2 1)) 0)<|aB (M eP ([ci (gi (el (gr v2 2) (gi v2 1)) 0),CV.ref [CV.ref a0],CV.ref [ci a1]])) fun v3=>aN (aA (!(gb v3 0)) (chk (inb (gi v2 0) (gr v2 2))<|chk ((decide ((Int.toNat (gi v2 0))<(List.length (gr v2 2))))&&(decide (1<=1)))<|some (.nx ([ci (wr (gi v2 0+1)),CV.row 1 (List.set (gr v2 2) (Int.toNat (gi v2 0)) (spl (el (gr v2 2) (gi v2 0)) 0 [ci (gi (el (gr v2 2) (gi v2 1)) 0)]))]))) (some (.nx [ci (gi v2 0),CV.row 1 (gr v2 2)]))) fun v4=>some (.nx [ci (gi v4 0),ci (wr (gi v2 1+1)),CV.row 1 (gr v4 1)])) (some (.br 0 [ci (gi v2 0),CV.row 1 (gr v2 2)]))) [ci (gi v1 0),ci (wr (gi v1 0+1)),CV.row 1 (gr v0 0)]) fun v2=>chk ((decide (0<=gi v2 0))&&(decide (gi v2 0<=il (gr v2 1))))<|chk ((decide (0<=gi v2 0))&&(decide (gi v2 0<=il ((List.take (Int.toNat (gi v2 0)) (gr v2 1))++(List.replicate ((List.length (gr v2 1)) - (Int.toNat (gi v2 0))) [ci 0])))))<|some (.ret ([CV.row 1 (List.take (Int.toNat (gi v2 0)) ((List.take (Int.toNat (gi v2 0)) (gr v2 1))++(List.replicate ((List.length (gr v2 1)) - (Int.toNat (gi v2 0))) [ci 0])))])))) fun v1=>some (.ret [CV.row 1 (gr v1 0)])
theorem wO (a0:List CV) (a1:Int):D its (n+1) gA [.ref a0,ci a1]=aV (nH (D its n) a0 a1):=by kernel_rfl
def AJ (M:Den) (b0 b1 b2:List (List CV)) (a1 d0 d1:Int):Option Ou:=aB (M lC [CV.row 3 b0,CV.row 13 b1,CV.row 13 b2,ci a1,ci d0,ci d1]) fun v0=>aA (gi v0 1 != 0) (some (.ret ([CV.row 1 [],cb false]))) (cD 0 (aL (fun v1=>aA (decide (gi v1 0<il b0)) (chk (inb (gi v1 0) b0)<|chk (oks [li,li,li] (el b0 (gi v1 0)) 0)<|cD 2 (aL (fun v2=>aA (decide (gi v2 1<il (gr v0 0))) (chk (inb (gi v2 1) (gr v0 0))<|chk (oks [li] (el (gr v0 0) (gi v2 1)) 0)<|aB (M dH [CV.row 3 b0,CV.row 13 b1,CV.row 13 b2,ci (gi (el (gr v0 0) (gi v2 1)) 0),ci (gi (el b0 (gi v1 0)) 0),ci d0,ci d1]) fun v3=>aA (gi v3 1 != 0) (some (.ret ([CV.row 1 [],cb false]))) (some (.nx [ci (wr (gi v2 0+gi v3 0)),ci (wr (gi v2 1+1))]))) (some (.br 2 [ci (gi v2 0)]))) [ci 0,ci 0]) fun v2=>chk (cJ (List.length (gr v1 1)) 1 8)<|some (.nx ([ci (wr (gi v1 0+1)),CV.row 1 (gr v1 1++(aS 1 1 [ci (gi v2 0)]))]))) (some (.br 0 [CV.row 1 (gr v1 1)]))) ([ci 0,CV.row 1 []])) fun v1=>some (.ret [CV.row 1 (gr v1 0),cb true]))
theorem OM (b0 b1 b2:List (List CV)) (a1 d0 d1:Int):D its (n+1) cM [.row 3 b0,.row 13 b1,.row 13 b2,ci a1,ci d0,ci d1]=aV (AJ (D its n) b0 b1 b2 a1 d0 d1):=by kernel_rfl
def vW (M:Den) (b0 b1 b2:List (List CV)) (a1 a2 a3:Int):Option Ou:=aB (M aI [CV.row 3 b0,CV.row 13 b1,CV.row 13 b2]) fun v0=>aA (gi v0 0 != 0) (some (.ret ([CV.row 1 [],ci (gi v0 0)]))) (aN (aB (M aY [ci a1,ci 0,ci 100000]) fun v1=>aA (!(gb v1 0)) (some (.nx [cb true])) (aB (M aY [ci a2,ci 0,ci 100000]) fun v2=>aA (!(gb v2 0)) (some (.nx [cb true])) (aB (M aY [ci a3,ci 0,ci 100000]) fun v3=>some (.nx [cb (!(gb v3 0))])))) fun v1=>aA (gb v1 0) (some (.ret ([CV.row 1 [],ci 6]))) (aB (M bP [CV.row 3 b0,CV.row 13 b1,CV.row 13 b2,ci a1,ci a2]) fun v2=>aB (M bP [CV.row 3 b0,CV.row 13 b1,CV.row 13 b2,ci a1,ci a3]) fun v3=>aB (M mR ([CV.fn 96 ([CV.ref [CV.row 3 b0,CV.row 13 b1,CV.row 13 b2],CV.ref [ci a1],CV.ref (spl [CV.val (Value.pointer none)] 0 [CV.ref (cF (List.getD v2 0 dC))]),CV.ref (spl [CV.val (Value.pointer none)] 0 [CV.ref (cF (List.getD v3 0 dC))])])])) fun v4=>some (.ret [CV.row 1 (gr v4 0),ci 0])))
theorem IE (b0 b1 b2:List (List CV)) (a1 a2 a3:Int):D its (n+1) jE [.row 3 b0,.row 13 b1,.row 13 b2,ci a1,ci a2,ci a3]=aV (vW (D its n) b0 b1 b2 a1 a2 a3):=by kernel_rfl
def xY (M:Den) (b0 b1 b2:List (List CV)) (a1 d0 d1 d2 a3 f0 f1:Int):Option Ou:=aB (M dS [CV.row 3 b0,CV.row 13 b1,CV.row 13 b2,ci d0,ci f0]) fun v0=>aN (aA (gi v0 13 != 0) (some (.nx [cb true])) (chk ((decide (0<=a3))&&(decide (a3<(Int.ofNat 10))))<|chk (oks [li] (cis v0 0 13) (3+((Int.toNat a3)*1)))<|some (.nx [cb (gi (cis v0 0 13) (3+((Int.toNat a3)*1)) == 0)]))) fun v1=>aA (gb v1 0) (some (.ret [ci 0,ci (gi v0 13)])) (aB (M dP [CV.row 3 b0,CV.row 13 b1,CV.row 13 b2,ci a1,ci d0,ci d1,ci d2,ci f0,ci f1]) fun v2=>chk ((decide (0<=a3))&&(decide (a3<(Int.ofNat 10))))<|chk (oks [li] (cis v0 0 13) (3+((Int.toNat a3)*1)))<|chk (gi (cis v0 0 13) (3+((Int.toNat a3)*1)) != 0)<|some (.ret [ci (if 1000<(wr (Int.tdiv (gi v2 0) (gi (cis v0 0 13) (3+((Int.toNat a3)*1))))) then 1000 else wr (Int.tdiv (gi v2 0) (gi (cis v0 0 13) (3+((Int.toNat a3)*1))))),ci 0]))
theorem ME (b0 b1 b2:List (List CV)) (a1 d0 d1 d2 a3 f0 f1:Int):D its (n+1) kB [.row 3 b0,.row 13 b1,.row 13 b2,ci a1,ci d0,ci d1,ci d2,ci a3,ci f0,ci f1]=aV (xY (D its n) b0 b1 b2 a1 d0 d1 d2 a3 f0 f1):=by kernel_rfl
def DB (M:Den) (b0 b1 b2:List (List CV)) (a1 a2 a3 f0 f1:Int):Option Ou:=aB (M aI [CV.row 3 b0,CV.row 13 b1,CV.row 13 b2]) fun v0=>aA (gi v0 0 != 0) (some (.ret [ci 0,ci (gi v0 0)])) (aB (M aR [CV.row 3 b0,CV.row 13 b1,CV.row 13 b2,ci a2]) fun v1=>aN (aB (M aY [ci a1,ci 1,ci 99]) fun v2=>aA (!(gb v2 0)) (some (.nx [cb true])) (aB (M aY [ci a3,ci 1,ci 9]) fun v3=>some (.nx [cb (!(gb v3 0))]))) fun v2=>aA (gb v2 0) (some (.ret [ci 0,ci 1])) (aA (!(gb v1 3)) (some (.ret [ci 0,ci 20])) (aB (M cV [ci f0,ci f1]) fun v3=>aA (!(gb v3 0)) (some (.ret [ci 0,ci 6])) (aB (M kB [CV.row 3 b0,CV.row 13 b1,CV.row 13 b2,ci a1,ci (gi v1 0),ci (gi v1 1),ci (gi v1 2),ci a3,ci f0,ci f1]) fun v4=>some (.ret [ci (gi v4 0),ci (gi v4 1)])))))
theorem TU (b0 b1 b2:List (List CV)) (a1 a2 a3 f0 f1:Int):D its (n+1) iM [.row 3 b0,.row 13 b1,.row 13 b2,ci a1,ci a2,ci a3,ci f0,ci f1]=aV (DB (D its n) b0 b1 b2 a1 a2 a3 f0 f1):=by kernel_rfl
def oY (M:Den) (a0:List (List CV)) (a1:CV):Option Ou:=cD 0 (aL (fun v0=>aA (decide (gi v0 0<il a0)) (chk (inb (gi v0 0) a0)<|chk (oks [li,li,li] (el a0 (gi v0 0)) 0)<|aB (dY sg M a1 [ci (gi (el a0 (gi v0 0)) 0),ci (gi (el a0 (gi v0 0)) 1),ci (gi (el a0 (gi v0 0)) 2)] [.agg [li,li,li]] [.one lb]) fun v1=>aA (gb v1 0) (some (.ret [ci (gi (el a0 (gi v0 0)) 0),ci (gi (el a0 (gi v0 0)) 1),ci (gi (el a0 (gi v0 0)) 2),cb true])) (some (.nx [ci (wr (gi v0 0+1)),ci (gi v0 1),ci (gi v0 2),ci (gi v0 3)]))) (some (.br 0 [ci (gi v0 1),ci (gi v0 2),ci (gi v0 3)]))) [ci 0,ci 0,ci 0,ci 0]) fun v0=>some (.ret [ci 0,ci 0,ci 0,cb false])
theorem yE (a0:List (List CV)) (a1:CV):D its (n+1) eU [.row 3 a0,a1]=aV (oY (D its n) a0 a1):=by kernel_rfl
def sC (M:Den) (a0:List (List CV)) (a1:CV):Option Ou:=cD 0 (aL (fun v0=>aA (decide (gi v0 0<il a0)) (chk (inb (gi v0 0) a0)<|chk (oks liA (el a0 (gi v0 0)) 0)<|aB (dY sg M a1 (cis (el a0 (gi v0 0)) 0 13) [.agg liA] [.one lb]) fun v1=>aA (gb v1 0) (some (.ret (cat [cis (el a0 (gi v0 0)) 0 13,[cb true]]))) (some (.nx (cat [[ci (wr (gi v0 0+1))],cis v0 1 13])))) (some (.br 0 (cis v0 1 13)))) [ci 0,ci 0,ci 0,ci 0,ci 0,ci 0,ci 0,ci 0,ci 0,ci 0,ci 0,ci 0,ci 0,ci 0]) fun v0=>some (.ret [ci 0,ci 0,ci 0,ci 0,ci 0,ci 0,ci 0,ci 0,ci 0,ci 0,ci 0,ci 0,ci 0,cb false])
theorem DH (a0:List (List CV)) (a1:CV):D its (n+1) gO [.row 13 a0,a1]=aV (sC (D its n) a0 a1):=by kernel_rfl
def wB (M:Den) (a0 a1:List (List CV)):Option Ou:=aA (il a0 != il a1) (some (.ret [cb false])) (cD 0 (aL (fun v0=>aA (decide (gi v0 0<il a0)) (chk (inb (gi v0 0) a0)<|chk (oks [li,li] (el a0 (gi v0 0)) 0)<|chk (inb (gi v0 0) a1)<|chk (oks [li,li] (el a1 (gi v0 0)) 0)<|aA (!((gi (el a0 (gi v0 0)) 0 == gi (el a1 (gi v0 0)) 0)&&((gi (el a0 (gi v0 0)) 1 == gi (el a1 (gi v0 0)) 1)&&true))) (some (.ret [cb false])) (some (.nx [ci (wr (gi v0 0+1))]))) (some (.br 0 []))) [ci 0]) fun v0=>some (.ret [cb true]))
theorem IJ (a0 a1:List (List CV)):D its (n+1) lJ [.row 2 a0,.row 2 a1]=aV (wB (D its n) a0 a1):=by kernel_rfl
def yF (M:Den) (a0 a1:List (List CV)):Option Ou:=aA (il a0 != il a1) (some (.ret [cb false])) (cD 0 (aL (fun v0=>aA (decide (gi v0 0<il a0)) (chk (inb (gi v0 0) a0)<|chk (oks [li] (el a0 (gi v0 0)) 0)<|chk (inb (gi v0 0) a1)<|chk (oks [li] (el a1 (gi v0 0)) 0)<|aA (gi (el a0 (gi v0 0)) 0 != gi (el a1 (gi v0 0)) 0) (some (.ret [cb false])) (some (.nx [ci (wr (gi v0 0+1))]))) (some (.br 0 []))) [ci 0]) fun v0=>some (.ret [cb true]))
theorem MM (a0 a1:List (List CV)):D its (n+1) eC [.row 1 a0,.row 1 a1]=aV (yF (D its n) a0 a1):=by kernel_rfl
def tU (M:Den) (b0 b1 b2:List (List CV)) (c0 c1:Int):Option Ou:=aB (M aI [CV.row 3 b0,CV.row 13 b1,CV.row 13 b2]) fun v0=>aA (gi v0 0 != 0) (some (.ret ([CV.row 1 [],ci (gi v0 0)]))) (aB (M cV [ci c0,ci c1]) fun v1=>aA (!(gb v1 0)) (some (.ret ([CV.row 1 [],ci 6]))) (aB (M bP [CV.row 3 b0,CV.row 13 b1,CV.row 13 b2,ci c0,ci c1]) fun v2=>aB (M gT [CV.ref (cF (List.getD v2 0 dC))]) fun v3=>some (.ret [CV.row 1 (gr v3 0),ci 0])))
theorem FR (b0 b1 b2:List (List CV)) (c0 c1:Int):D its (n+1) cZ [.row 3 b0,.row 13 b1,.row 13 b2,ci c0,ci c1]=aV (tU (D its n) b0 b1 b2 c0 c1):=by kernel_rfl
def lZ (M:Den) (b0 b1 b2 b3 b4 b5 b6 b7 b8 b9 b_0 b_1 b_2:Int) (a1:List CV):Option Ou:=chk (oks [li] (List.drop 5 a1) 0)<|aA (b5 == gi (List.drop 5 a1) 0) (chk (oks [li] (List.drop 3 a1) 0)<|some (.ret [cb (decide (b_0>=(gi (List.drop 3 a1) 0)))])) (chk (oks [li] (List.drop 5 a1) 0)<|aA (b6 == gi (List.drop 5 a1) 0) (chk (oks [li] (List.drop 3 a1) 0)<|some (.ret [cb (decide (b_0>=(gi (List.drop 3 a1) 0)))])) (some (.ret [cb false])))
theorem tP (b0 b1 b2 b3 b4 b5 b6 b7 b8 b9 b_0 b_1 b_2:Int) (a1:List CV):D its (n+1) fF [ci b0,ci b1,ci b2,ci b3,ci b4,ci b5,ci b6,ci b7,ci b8,ci b9,ci b_0,ci b_1,ci b_2,.ref a1]=aV (lZ (D its n) b0 b1 b2 b3 b4 b5 b6 b7 b8 b9 b_0 b_1 b_2 a1):=by kernel_rfl
def oU (M:Den) (b0 b1 b2:Int):Option Ou:=aN (aB (M jO [ci b0]) fun v0=>aA (!(gb v0 0)) (some (.nx [cb true])) (aB (M aY [ci b1,ci 0,ci 359]) fun v1=>aA (!(gb v1 0)) (some (.nx [cb true])) (aB (M aY [ci b2,ci 0,ci 359]) fun v2=>some (.nx [cb (!(gb v2 0))])))) fun v0=>aA (gb v0 0) (some (.ret [ci 20])) (some (.ret [ci 0]))
theorem xZ (b0 b1 b2:Int):D its (n+1) gM [ci b0,ci b1,ci b2]=aV (oU (D its n) b0 b1 b2):=by kernel_rfl
def HK (M:Den) (b0 b1 b2:List (List CV)) (a1 a2 e0 e1:Int):Option Ou:=aB (M fI [CV.row 3 b0,CV.row 13 b1,CV.row 13 b2,ci a1,ci a2,ci e0,ci e1]) fun v0=>aA (gi v0 1 != 0) (some (.ret [ci 0,ci (gi v0 1)])) (chk (qN (List.getD v0 0 dC))<|aB (M gV [CV.ref (cF (List.getD v0 0 dC)),ci a1,ci a2,ci e0]) fun v1=>some (.ret [ci (gi v1 0),ci 0]))
theorem XJ (b0 b1 b2:List (List CV)) (a1 a2 e0 e1:Int):D its (n+1) dH [.row 3 b0,.row 13 b1,.row 13 b2,ci a1,ci a2,ci e0,ci e1]=aV (HK (D its n) b0 b1 b2 a1 a2 e0 e1):=by kernel_rfl
def yH (M:Den) (b0 b1 b2 b3 b4 b5 b6 b7 b8 b9:Int):Option Ou:=aA (b0 == 0) (aB (M cA ([CV.row 1 (aS 1 10 [ci b0,ci b1,ci b2,ci b3,ci b4,ci b5,ci b6,ci b7,ci b8,ci b9]),CV.fn 155 []])) fun v0=>some (.ret [cb (!(gb v0 0))])) (some (.ret [cb false]))
theorem MN (b0 b1 b2 b3 b4 b5 b6 b7 b8 b9:Int):D its (n+1) kD [ci b0,ci b1,ci b2,ci b3,ci b4,ci b5,ci b6,ci b7,ci b8,ci b9]=aV (yH (D its n) b0 b1 b2 b3 b4 b5 b6 b7 b8 b9):=by kernel_rfl
def yA (M:Den) (b0 b1:Int):Option Ou:=aB (M aY [ci b0,ci 0,ci 100000]) fun v0=>aA (gb v0 0) (aB (M aY [ci b1,ci 0,ci 100000]) fun v1=>some (.ret [cb (gb v1 0)])) (some (.ret [cb false]))
theorem MH (b0 b1:Int):D its (n+1) cV [ci b0,ci b1]=aV (yA (D its n) b0 b1):=by kernel_rfl
def yB (M:Den) (b0 b1:Int):Option Ou:=aB (M aY [ci b0,ci 0,ci 5]) fun v0=>aA (gb v0 0) (aB (M aY [ci b1,ci 0,ci 9999]) fun v1=>some (.ret [cb (gb v1 0)])) (some (.ret [cb false]))
theorem MJ (b0 b1:Int):D its (n+1) mT [ci b0,ci b1]=aV (yB (D its n) b0 b1):=by kernel_rfl
def tV (M:Den) (b0 b1 b2 b3 b4 b5 b6 b7 b8 b9 b_0 b_1 b_2:Int):Option Ou:=aB (M dI [ci b0,ci b1,ci b2,ci b3,ci b4,ci b5,ci b6,ci b7,ci b8,ci b9,ci b_0,ci b_1,ci b_2]) fun v0=>some (.ret [cb (gi v0 0 != 0)])
theorem FS (b0 b1 b2 b3 b4 b5 b6 b7 b8 b9 b_0 b_1 b_2:Int):D its (n+1) kP [ci b0,ci b1,ci b2,ci b3,ci b4,ci b5,ci b6,ci b7,ci b8,ci b9,ci b_0,ci b_1,ci b_2]=aV (tV (D its n) b0 b1 b2 b3 b4 b5 b6 b7 b8 b9 b_0 b_1 b_2):=by kernel_rfl
def HL (M:Den) (a0 a1:Int):Option Ou:=chk (a1 != 0)<|chk (a1 != 0)<|some (.ret [ci (Int.tmod (wr ((Int.tmod a0 a1)+a1)) a1)])
theorem XK (a0 a1:Int):D its (n+1) dG [ci a0,ci a1]=aV (HL (D its n) a0 a1):=by kernel_rfl
def MK (M:Den) (a0 a1 a2:Int):Option Ou:=aA (decide (a0>=a1)) (some (.ret [cb (decide (a0<=a2))])) (some (.ret [cb false]))
theorem aAw (a0 a1 a2:Int):D its (n+1) aY [ci a0,ci a1,ci a2]=aV (MK (D its n) a0 a1 a2):=by kernel_rfl
def tW (M:Den) (b0 b1 b2:Int):Option Ou:=aB (M gM [ci b0,ci b1,ci b2]) fun v0=>some (.ret [cb (gi v0 0 != 0)])
theorem FT (b0 b1 b2:Int):D its (n+1) kN [ci b0,ci b1,ci b2]=aV (tW (D its n) b0 b1 b2):=by kernel_rfl
def mV (M:Den) (a0:Int):Option Ou:=aB (M aY [ci a0,ci 0,ci 100000]) fun v0=>some (.ret [cb (!(gb v0 0))])
theorem vG (a0:Int):D its (n+1) fM [ci a0]=aV (mV (D its n) a0):=by kernel_rfl
def sF (M:Den) (a0:Int):Option Ou:=aB (M aY [ci a0,ci 0,ci 1000]) fun v0=>some (.ret [cb (!(gb v0 0))])
theorem DJ (a0:Int):D its (n+1) jP [ci a0]=aV (sF (D its n) a0):=by kernel_rfl
def sG (M:Den) (a0:Int):Option Ou:=aB (M aY [ci a0,ci 1,ci 99]) fun v0=>some (.ret [cb (gb v0 0)])
theorem DK (a0:Int):D its (n+1) jO [ci a0]=aV (sG (D its n) a0):=by kernel_rfl
def FU (M:Den) (b0 b1 b2 c0 c1 c2:Int):Option Ou:=some (.ret [ci (wr (b0 - c0))])
theorem aCY (b0 b1 b2 c0 c1 c2:Int):D its (n+1) nZ [ci b0,ci b1,ci b2,ci c0,ci c1,ci c2]=aV (FU (D its n) b0 b1 b2 c0 c1 c2):=by kernel_rfl
end
end Go.Proofs.YtfgdfpnkhdlmfaaGreat
namespace Go.Proofs.YtfgdfpnkhdlmfaaGreat
open Go Go.Sx
set_option maxRecDepth 100000
theorem aHq {k:Nat} {fe:FE} {f:Func} {l:List (Nat×FE×Code)} (h1:iI Tryz.prog k=true) (h2:Tryz.prog.funcs[k]? = some f) (h3:f.body.isSome=true) (h4:f.ntmps=fe.n) (h5:f.results.toList=fe.rs)
  (hl:∀ e∈l,∃ fn,EntOk Tryz.prog e.1 e.2.1 fn/\e.2.2=aE fn):∀ e∈(k,fe,aE f)::l,∃ fn,EntOk Tryz.prog e.1 e.2.1 fn/\e.2.2=aE fn:=by
 intro e he;rcases List.mem_cons.1 he with rfl | he
 ·exact ⟨f,⟨h1,h2,h3,h4,h5⟩,rfl⟩
 ·exact hl e he
theorem aK1:∀ e∈tb,∃ fn,EntOk Tryz.prog e.1 e.2.1 fn/\e.2.2=aE fn:=by
 unfold tb
 repeat
  refine aHq ?_ ?_ ?_ ?_ ?_ ?_
  iterate 5 kernel_rfl
 exact fun e he=>nomatch he
end Go.Proofs.YtfgdfpnkhdlmfaaGreat
namespace Go.Proofs.YtfgdfpnkhdlmfaaGreat
open Go Go.Sx Go.Stint
set_option maxRecDepth 10000
attribute [local simp] Bool.and_assoc Bool.or_assoc
variable {its:ITS}
theorem bE (a b:Option Ou):aA true a b=a:=rfl
theorem aX (a b:Option Ou):aA false a b=b:=rfl
@[simp] theorem MQ (x:List CV):qN (.ref x)=true:=rfl
@[simp] theorem BT (x:List CV):cF (.ref x)=x:=rfl
@[simp] theorem aE8 (n:Nat) (a b c:Int):D its (n+1) aY [ci a,ci b,ci c]=some [cb (within a b c)]:=by
  rw [aAw];simp [MK,within]
@[simp] theorem XN (n:Nat) (a b c:Int):D its (n+1) cE [ci a,ci b,ci c]=some [cb (within a b c)]:=by
  rw [TY];simp [DR,within]
@[simp] theorem aBx (n:Nat) (a:Int):D its (n+2) oP [ci a]=some [cb (within a 0 100000)]:=by
  rw [XL];simp [HM]
@[simp] theorem aBy (n:Nat) (a:Int):D its (n+2) gG [ci a]=some [cb (within a 1 99)]:=by
  rw [IM];simp [wE]
@[simp] theorem aHr (n:Nat) (a:Int):D its (n+2) jF [ci a]=some [cb (within a 1 99)]:=by
  rw [IQ];simp [wG]
@[simp] theorem aE9 (n:Nat) (a:Int):D its (n+2) jO [ci a]=some [cb (within a 1 99)]:=by
  rw [DK];simp [sG]
@[simp] theorem aFa (n:Nat) (a:Int):D its (n+2) jN [ci a]=some [cb (within a 1 99)]:=by
  rw [DD];simp [rY]
@[simp] theorem aK2 (n:Nat) (a b:Int):D its (n+2) mT [ci a,ci b]=some [cb (pI a b)]:=by
  rw [MJ];simp [yB,pI]
@[simp] theorem aCZ (n:Nat) (a b:Int):D its (n+2) pW [ci a,ci b]=some [cb (pI a b)]:=by
  rw [TV];simp [DC,pI]
@[simp] theorem XO (n:Nat) (a b:Int):D its (n+2) cV [ci a,ci b]=some [cb (within a 0 100000&&within b 0 100000)]:=by
  rw [MH];simp [yA]
def aAz (p:Pas):Int:=cond p.ok 0 20
def aAA (p:By):Int:=cond p.ok 0 21
def BU (p:Dd):Int:=cond p.ok 0 22
theorem yL (n:Nat) (a b c:Int):D its (n+3) gM [ci a,ci b,ci c]=some [ci (aAz ⟨a,b,c⟩)]:=by
 rw [xZ];simp [oU,aAz,Pas.ok];grind
theorem pK (n:Nat) (a b c:Int):D its (n+3) iO [ci a,ci b,ci c]=some [ci (aAz ⟨a,b,c⟩)]:=by
 rw [BP];simp [qW,aAz,Pas.ok];grind
theorem aBz {A:Type} {l:List A} {p:A->Bool}:l.findIdx? p=none↔l.any p=false:=by
 simp
def ints (l:List Int):List (List CV):=l.map fun x=>[ci x]
theorem HO (l:List Int):(ints l).length=l.length:=by simp [ints]
theorem kF {l:List Int} {i:Nat} (h:i<l.length):inb (i:Int) (ints l)=true:=aG h
theorem mZ {l:List Int} {i:Nat} (h:i<l.length):el (ints l) (i:Int)=[ci l[i]]:=aM h
@[simp] theorem rA (l:List Int):il (ints l)=l.length:=by simp [ints]
theorem wH (n:Nat) (l:List Int) (f:CV) (p:Int->Bool) (hl:l.length<9223372036854775807) (hf:∀ x∈l,dY sg (D its n) f [ci x] [.one li] [.one lb]=some [cb (p x)]) :
  D its (n+1) eF [.row 1 (ints l),f]=some [ci (aAq (l.findIdx? p))]:=by
 have pr:∀ i (h:i<l.length),dY sg (D its n) f [ci l[i]] [.one li] [.one lb]=some [cb (p l[i])]:=fun i h=>hf _ (List.getElem_mem h)
 rw [vJ];unfold mY;rw [WS p l (fun i=>some (.ret [ci (i:Int)])) (some (.br 0 [])) (fun i=>[ci (i:Int)]) ?hv ?hR ?hX (fun i hi hp=>?h1) (fun i hi hp=>?h2) ?h3]
 case hv=>rfl
 case hR=>simp
 case hX=>simp
 case h3=>simp
 case h1=>simp [hi,hp,kF,mZ,pr,bG (show i<9223372036854775807 by omega)]
 case h2=>simp_all [kF,mZ]
 ·cases l.findIdx? p <;> simp [aAq]
theorem rB (n:Nat) (l:List Int) (f:CV) (p:Int->Bool) (hl:l.length<9223372036854775807) (hf:∀ x∈l,dY sg (D its n) f [ci x] [.one li] [.one lb]=some [cb (p x)]) :
  D its (n+2) cA [.row 1 (ints l),f]=some [cb (l.any p)]:=by
 rw [rG];simp [kU,wH n l f p hl hf];cases hh:l.findIdx? p with
 | some i =>
  have:l.any p=true:=by
   cases hc:l.any p with
   | true=>rfl
   | false=>rw [aBz.2 hc] at hh;cases hh
  simp [aAq,this]
 | none=>simp [aAq,aBz.1 hh]
theorem aMU (M:Den) (x:CV):dY sg M (.fn fM []) [x] [.one li] [.one lb]=M fM [x]:=rfl
theorem aI8 (M:Den) (x:CV):dY sg M (.fn jP []) [x] [.one li] [.one lb]=M jP [x]:=rfl
@[simp] theorem aK3 (n:Nat) (a:Int):D its (n+2) fM [ci a]=some [cb (!within a 0 100000)]:=by
  rw [vG];simp [mV]
@[simp] theorem aHs (n:Nat) (a:Int):D its (n+2) jP [ci a]=some [cb (!within a 0 1000)]:=by
  rw [DJ];simp [sF]
theorem AS (n:Nat) (b:By):D its (n+5) dD b.cv=some [ci (aAA b)]:=by
 show D its (n+5) dD [ci b.so,ci b.pa,ci b.fr,ci b.q0,ci b.q1,ci b.q2,ci b.q3,ci b.q4,ci b.q5,ci b.q6,ci b.q7,ci b.q8,ci b.q9]=_;rw [zS]
 have hc:D its (n+4) cA [CV.row 1 (aS 1 10 [ci b.q0,ci b.q1,ci b.q2,ci b.q3,ci b.q4,ci b.q5,ci b.q6,ci b.q7,ci b.q8,ci b.q9]),CV.fn 124 []]=some [cb (b.q.any fun n=>!within n 0 100000)]:=
  rB (n+2) b.q _ (fun n=>!within n 0 100000) (by simp [By.q]) fun x _=>by rw [aMU,aK3]
 simp only [pO,aE8,aE9,hc,aAA,By.ok,mN];have e:(b.q.all fun n=>within n 0 100000)=!(b.q.any fun n=>!within n 0 100000):=by grind
 rw [e];cases within b.so 1 99999 <;> cases within b.pa 1 99 <;> cases within b.fr 0 100000 <;> cases decide (b.q0=0) <;> cases b.q.any fun n=>!within n 0 100000 <;> rfl
theorem rC (n:Nat) (b:By):D its (n+3) fD b.cv=some [ci (aAA b)]:=by
 show D its (n+3) fD [ci b.so,ci b.pa,ci b.fr,ci b.q0,ci b.q1,ci b.q2,ci b.q3,ci b.q4,ci b.q5,ci b.q6,ci b.q7,ci b.q8,ci b.q9]=_;rw [DG];unfold sB;simp only [XN,aBy,aBx,aC,fK,rV];rw [show (aA (within b.so 1 99999) (aA (within b.pa 1 99) (aA (within b.fr 0 100000) (some (.nx [cb (decide (b.q0=0))])) (some (.nx [cb false]))) (some (.nx [cb false]))) (some (.nx [cb false])))=some (.nx [cb (within b.so 1 99999&&within b.pa 1 99&&within b.fr 0 100000&&decide (b.q0=0))]) by simp]
 rw [bC,fK];generalize hs:(within b.so 1 99999&&within b.pa 1 99&&within b.fr 0 100000&&decide (b.q0=0))=s;rw [aAp b.q (fun i s=>[cb s,ci (i:Int)]) (fun s x=>s&&within x 0 100000) 0 (fun s=>[cb s]) s ?hv (fun i hi s=>?hs) (fun s=>?he)]
 case hv=>rfl
 case he=>rfl
 case hs =>
  simp [By.q] at hi
  have hh:gi [ci b.q0,ci b.q1,ci b.q2,ci b.q3,ci b.q4,ci b.q5,ci b.q6,ci b.q7,ci b.q8,ci b.q9] i=b.q[i]'(by omega)/\oks [li] [ci b.q0,ci b.q1,ci b.q2,ci b.q3,ci b.q4,ci b.q5,ci b.q6,ci b.q7,ci b.q8,ci b.q9] i=true:=by
   match i,hi with
   | 0,_ | 1,_ | 2,_ | 3,_ | 4,_ | 5,_ | 6,_ | 7,_ | 8,_ | 9,_=>exact ⟨rfl,rfl⟩
  have e1:decide ((i:Int)<10)=true:=by grind
  simp [bG (show i<9223372036854775807 by omega)]
  simp_all
 ·have e:∀ (l:List Int) (s:Bool),l.foldl (fun s x=>s&&within x 0 100000) s=(s&&l.all fun n=>within n 0 100000):=by
   intro l
   induction l with
   | nil=>simp
   | cons a l ih=>grind
  simp only [aAA,By.ok,e,hs];cases s <;> cases b.q.all fun n=>within n 0 100000 <;> rfl
end Go.Proofs.YtfgdfpnkhdlmfaaGreat
namespace Go.Proofs.YtfgdfpnkhdlmfaaGreat
open Go Go.Sx Go.Stint
set_option maxRecDepth 10000
variable {its:ITS}
theorem aK4 (n:Nat) (b:Bool) (x lo hi:Int):D its (n+2) iC [cb b,ci x,ci lo,ci hi]=some [cb (Stint.may b x lo hi)]:=by
 simp [XM,HN,Stint.may]
theorem kinds (k:Int):k=0\/k=1\/k=2\/k=3\/k=4\/k=5\/k=6\/k=7\/k=8\/(k<0\/8<k):=by omega
theorem aK5 (n:Nat) (k:Int):D its (n+1) xU [ci k]=some [cb (kHo k),cb (kTt k),cb (kOw k),cb (kPa k),cb (kPt k),cb (kUn k),cb (within k 1 8)]:=by
 rw [XI];simp only [HJ];rcases kinds k with h | h | h | h | h | h | h | h | h | h
 all_goals try (subst h;rfl)
 have e:k≠0/\k≠1/\k≠2/\k≠3/\k≠4/\k≠5/\k≠6/\k≠7/\k≠8:=by omega
 have w:within k 1 8=false:=by
  unfold within;grind
 simp_all [kHo,kTt,kOw,kPa,kPt,kUn]
theorem sJ (n:Nat) (x:Dd):D its (n+4) dI x.cv=some [ci (BU x)]:=by
 show D its (n+4) dI [ci x.m,ci x.no,ci x.kind,ci x.day,ci x.kn,ci x.ho,ci x.tt,ci x.ow,ci x.pa,ci x.pt,ci x.un,ci x.om,ci x.on]=_;rw [DL];simp [sH,aK4,aK5];simp [BU];grind [Dd.ok,Dd.flds]
theorem aI9 (n:Nat) (x:Dd):D its (n+1) qV x.cv=some (cat [
  [ci x.m,ci x.no,ci x.kind,ci x.day,ci x.kn,ci (if kHo x.kind then x.ho else 0),ci (if kTt x.kind then x.tt else 0),ci (if kOw x.kind then x.ow else 0),ci (if kPa x.kind then x.pa else 0),ci (if kPt x.kind then x.pt else 0),ci (if kUn x.kind then x.un else 0),ci (if x.kind=0 then x.om else 0),ci (if x.kind=0 then x.on else 0)],[cb (within x.kind 0 8)]]):=by
 show D its (n+1) qV [ci x.m,ci x.no,ci x.kind,ci x.day,ci x.kn,ci x.ho,ci x.tt,ci x.ow,ci x.pa,ci x.pt,ci x.un,ci x.om,ci x.on]=_;rw [aAv];generalize x.kind=k,x.m=a0,x.no=a1,x.day=a2,x.kn=a3,x.ho=a4,x.tt=a5,x.ow=a6,x.pa=a7,x.pt=a8,x.un=a9,x.om=a10,x.on=a11;simp [MB];rcases kinds k with h | h | h | h | h | h | h | h | h | h
 all_goals try (subst h;rfl)
 have e:k≠0/\k≠1/\k≠2/\k≠3/\k≠4/\k≠5/\k≠6/\k≠7/\k≠8:=by omega
 have w:within k 0 8=false:=by
  unfold within;grind
 simp [e.1,e.2.1,e.2.2.1,e.2.2.2.1,e.2.2.2.2.1,e.2.2.2.2.2.1,e.2.2.2.2.2.2.1,e.2.2.2.2.2.2.2.1,e.2.2.2.2.2.2.2.2,kHo,kTt,kOw,kPa,kPt,kUn,w]
theorem nA (n:Nat) (x:Dd):D its (n+4) fH x.cv=some [ci (BU x)]:=by
 show D its (n+4) fH [ci x.m,ci x.no,ci x.kind,ci x.day,ci x.kn,ci x.ho,ci x.tt,ci x.ow,ci x.pa,ci x.pt,ci x.un,ci x.om,ci x.on]=_;rw [IL];unfold wD;rw [show D its (n+3) qV [ci x.m,ci x.no,ci x.kind,ci x.day,ci x.kn,ci x.ho,ci x.tt,ci x.ow,ci x.pa,ci x.pt,ci x.un,ci x.om,ci x.on]=_ from aI9 (n+2) x];simp only [aCZ,XN,aBx,aHr,aBy,aC,QN,QM,List.cons_append,List.nil_append,fK,aJ0,aQ,eL,rV,mN,ifR,ifN,bC,iY,BU,Option.some.injEq,List.cons.injEq,and_true];congr 1;obtain ⟨m,no,kind,day,kn,ho,tt,ow,pa,pt,un,om,on⟩:=x;simp only [Dd.ok,Dd.flds]
 rcases kinds kind with h | h | h | h | h | h | h | h | h | h
 case inr.inr.inr.inr.inr.inr.inr.inr.inr =>
  have w:within kind 0 8=false:=by
   unfold within;grind
  have w1:within kind 1 8=false:=by
   unfold within;grind
  grind
 all_goals subst h
 all_goals simp [kHo,kTt,kOw,kPa,kPt,kUn,Stint.may,within]
 all_goals simp only [Bool.cond_eq_ite]
 all_goals grind
end Go.Proofs.YtfgdfpnkhdlmfaaGreat
namespace Go.Proofs.YtfgdfpnkhdlmfaaGreat
open Go Go.Sx Go.Stint
set_option maxRecDepth 10000
variable {its:ITS}
def z13:List CV:=[ci 0,ci 0,ci 0,ci 0,ci 0,ci 0,ci 0,ci 0,ci 0,ci 0,ci 0,ci 0,ci 0]
theorem UF (n:Nat) (l:List Pas) (f:CV) (p:Pas->Bool) (hl:l.length<9223372036854775807) (hf:∀ x∈l,dY sg (D its n) f x.cv [.agg [li,li,li]] [.one lb]=some [cb (p x)]) :
  D its (n+1) eU [.row 3 (l.map Pas.cv),f]=some (((l.find? p).map fun x=>x.cv++[cb true]).getD [ci 0,ci 0,ci 0,cb false]):=by
 have pr:∀ i (h:i<l.length),dY sg (D its n) f [ci l[i].id,ci l[i].lo,ci l[i].hi] [.agg [li,li,li]] [.one lb]=some [cb (p l[i])]:=fun i h=>hf _ (List.getElem_mem h)
 rw [yE];unfold oY;rw [qS p (fun x=>some (.ret (x.cv++[cb true]))) (some (.br 0 [ci 0,ci 0,ci 0])) l (fun i=>[ci (i:Int),ci 0,ci 0,ci 0]) ?hv ?hR ?hX (fun i hi hp=>?h1) (fun i hi hp=>?h2) ?h3]
 case hv=>rfl
 case hR=>simp
 case hX=>simp
 case h3=>simp
 case h1=>simp [hi,hp,aG,aM,pr,bG (show i<9223372036854775807 by omega)]
 case h2=>simp_all [aG,aM,Pas.cv]
 ·cases l.find? p <;> simp
theorem aHt (n:Nat) (l:List By) (f:CV) (p:By->Bool) (hl:l.length<9223372036854775807) (hf:∀ x∈l,dY sg (D its n) f x.cv [.agg liA] [.one lb]=some [cb (p x)]) :
  D its (n+1) kY [.row 13 (l.map By.cv),f]=some (((l.find? p).map fun x=>x.cv++[cb true]).getD (z13++[cb false])):=by
 have pr:∀ i (h:i<l.length),dY sg (D its n) f l[i].cv [.agg liA] [.one lb]=some [cb (p l[i])]:=fun i h=>hf _ (List.getElem_mem h)
 rw [zT];unfold pP;rw [qS p (fun x=>some (.ret (x.cv++[cb true]))) (some (.br 0 z13)) l (fun i=>ci (i:Int)::z13) ?hv ?hR ?hX (fun i hi hp=>?h1) (fun i hi hp=>?h2) ?h3]
 case hv=>rfl
 case hR=>simp
 case hX=>simp
 case h3=>simp;rfl
 case h1=>simp only [aQ,cQ,hi,aG,aM,byC,pr,hp,bG (show i<9223372036854775807 by omega),Int.ofNat_lt];rfl
 case h2=>simp only [aQ,cQ,hi,aG,aM,byC,pr,hp,Int.ofNat_lt];rfl
 ·cases l.find? p <;> simp [z13]
theorem aBA (n:Nat) (l:List Dd) (f:CV) (p:Dd->Bool) (hl:l.length<9223372036854775807) (hf:∀ x∈l,dY sg (D its n) f x.cv [.agg liA] [.one lb]=some [cb (p x)]) :
  D its (n+1) gO [.row 13 (l.map Dd.cv),f]=some (((l.find? p).map fun x=>x.cv++[cb true]).getD (z13++[cb false])):=by
 have pr:∀ i (h:i<l.length),dY sg (D its n) f l[i].cv [.agg liA] [.one lb]=some [cb (p l[i])]:=fun i h=>hf _ (List.getElem_mem h)
 rw [DH];unfold sC;rw [qS p (fun x=>some (.ret (x.cv++[cb true]))) (some (.br 0 z13)) l (fun i=>ci (i:Int)::z13) ?hv ?hR ?hX (fun i hi hp=>?h1) (fun i hi hp=>?h2) ?h3]
 case hv=>rfl
 case hR=>simp
 case hX=>simp
 case h3=>simp;rfl
 case h1=>simp only [aQ,cQ,hi,aG,aM,ddC,pr,hp,bG (show i<9223372036854775807 by omega),Int.ofNat_lt];rfl
 case h2=>simp only [aQ,cQ,hi,aG,aM,ddC,pr,hp,Int.ofNat_lt];rfl
 ·cases l.find? p <;> simp [z13]
theorem UG {A:Type} (lt:A->A->Bool) (l:List A):((List.range (l.length - 1)).find? (fun i=>!nbB lt l i)).isNone=gR lt l:=by
 cases h:(List.range (l.length - 1)).find? (fun i=>!nbB lt l i) with
 | none =>
  have:gR lt l=true:=by
   unfold gR;grind
  grind
 | some i =>
  have:gR lt l=false:=by
   unfold gR;grind
  grind
theorem aFb (n:Nat) (l:List Pas) (f:CV) (lt:Pas->Pas->Bool) (hl:l.length<9223372036854775807) (hf:∀ x∈l,∀ y∈l,∃ r,dY sg (D its n) f (x.cv++y.cv) [.agg [li,li,li],.agg [li,li,li]] [.one li]=some [ci r]/\decide (r>=0)=!lt x y) :
  D its (n+1) jL [.row 3 (l.map Pas.cv),f]=some [cb (gR lt l)]:=by
 rw [wS];unfold nL;rw [qB (l.length - 1) (fun i=>[ci ((i+1:Nat):Int)]) (fun i=>!nbB lt l i) (fun _=>some (.ret [cb false])) (some (.br 0 [])) ?hv ?hR ?hX (fun i hi hp=>?h1) (fun i hi hp=>?h2) ?h3]
 case hv=>rfl
 case hR=>simp
 case hX=>simp
 case h3 =>
  simp only [aQ,cQ];rw [decide_eq_false (by omega)]
  rfl
 case h1 =>
  obtain ⟨r,hr,hd⟩:=hf l[i] (List.getElem_mem _) l[i+1] (List.getElem_mem _);have h1:i+1<l.length:=by omega
  have h0:i<l.length:=by omega
  rw [uZ h1] at hp;simp [Pas.cv] at hr;simp only [aQ,cQ,show (((i+1:Nat):Int) - 1)=(i:Int) by omega,bJ (show -9223372036854775808<=(i:Int) by omega) (by omega),aG h0,aG h1,aM h0,aM h1,aCP,aJ4,aJ5,hr,bG (show i+1<9223372036854775807 by omega),Int.ofNat_lt,h1]
  rw [hp] at hd;have d8:¬0<=r:=of_decide_eq_false hd;simp [d8]
 case h2 =>
  obtain ⟨r,hr,hd⟩:=hf l[i] (List.getElem_mem _) l[i+1] (List.getElem_mem _);have h1:i+1<l.length:=by omega
  have h0:i<l.length:=by omega
  rw [uZ h1] at hp;simp [Pas.cv] at hr;simp only [aQ,cQ,show (((i+1:Nat):Int) - 1)=(i:Int) by omega,bJ (show -9223372036854775808<=(i:Int) by omega) (by omega),aG h0,aG h1,aM h0,aM h1,Int.ofNat_lt]
  simp_all
 ·rw [<- UG lt l]
  cases (List.range (l.length - 1)).find? (fun i=>!nbB lt l i) <;> simp
theorem aFc (n:Nat) (l:List By) (f:CV) (lt:By->By->Bool) (hl:l.length<9223372036854775807) (hf:∀ x∈l,∀ y∈l,∃ r,dY sg (D its n) f (x.cv++y.cv) [.agg liA,.agg liA] [.one li]=some [ci r]/\decide (r>=0)=!lt x y) :
  D its (n+1) kE [.row 13 (l.map By.cv),f]=some [cb (gR lt l)]:=by
 rw [xV];unfold oT;rw [qB (l.length - 1) (fun i=>[ci ((i+1:Nat):Int)]) (fun i=>!nbB lt l i) (fun _=>some (.ret [cb false])) (some (.br 0 [])) ?hv ?hR ?hX (fun i hi hp=>?h1) (fun i hi hp=>?h2) ?h3]
 case hv=>rfl
 case hR=>simp
 case hX=>simp
 case h3 =>
  simp only [aQ,cQ];rw [decide_eq_false (by omega)]
  rfl
 case h1 =>
  obtain ⟨r,hr,hd⟩:=hf l[i] (List.getElem_mem _) l[i+1] (List.getElem_mem _);have h1:i+1<l.length:=by omega
  have h0:i<l.length:=by omega
  rw [uZ h1] at hp;simp only [aQ,cQ,show (((i+1:Nat):Int) - 1)=(i:Int) by omega,bJ (show -9223372036854775808<=(i:Int) by omega) (by omega),aG h0,aG h1,aM h0,aM h1,byC,QN,QM,hr,bG (show i+1<9223372036854775807 by omega),Int.ofNat_lt,h1]
  rw [hp] at hd;have d8:¬0<=r:=of_decide_eq_false hd;simp [d8]
 case h2 =>
  obtain ⟨r,hr,hd⟩:=hf l[i] (List.getElem_mem _) l[i+1] (List.getElem_mem _);have h1:i+1<l.length:=by omega
  have h0:i<l.length:=by omega
  rw [uZ h1] at hp;simp only [aQ,cQ,show (((i+1:Nat):Int) - 1)=(i:Int) by omega,bJ (show -9223372036854775808<=(i:Int) by omega) (by omega),aG h0,aG h1,aM h0,aM h1,byC,Int.ofNat_lt]
  simp_all
 ·rw [<- UG lt l]
  cases (List.range (l.length - 1)).find? (fun i=>!nbB lt l i) <;> simp
theorem aFd (n:Nat) (l:List Dd) (f:CV) (lt:Dd->Dd->Bool) (hl:l.length<9223372036854775807) (hf:∀ x∈l,∀ y∈l,∃ r,dY sg (D its n) f (x.cv++y.cv) [.agg liA,.agg liA] [.one li]=some [ci r]/\decide (r>=0)=!lt x y) :
  D its (n+1) lR [.row 13 (l.map Dd.cv),f]=some [cb (gR lt l)]:=by
 rw [BR];unfold qY;rw [qB (l.length - 1) (fun i=>[ci ((i+1:Nat):Int)]) (fun i=>!nbB lt l i) (fun _=>some (.ret [cb false])) (some (.br 0 [])) ?hv ?hR ?hX (fun i hi hp=>?h1) (fun i hi hp=>?h2) ?h3]
 case hv=>rfl
 case hR=>simp
 case hX=>simp
 case h3 =>
  simp only [aQ,cQ];rw [decide_eq_false (by omega)]
  rfl
 case h1 =>
  obtain ⟨r,hr,hd⟩:=hf l[i] (List.getElem_mem _) l[i+1] (List.getElem_mem _);have h1:i+1<l.length:=by omega
  have h0:i<l.length:=by omega
  rw [uZ h1] at hp;simp only [aQ,cQ,show (((i+1:Nat):Int) - 1)=(i:Int) by omega,bJ (show -9223372036854775808<=(i:Int) by omega) (by omega),aG h0,aG h1,aM h0,aM h1,ddC,QN,QM,hr,bG (show i+1<9223372036854775807 by omega),Int.ofNat_lt,h1]
  rw [hp] at hd;have d8:¬0<=r:=of_decide_eq_false hd;simp [d8]
 case h2 =>
  obtain ⟨r,hr,hd⟩:=hf l[i] (List.getElem_mem _) l[i+1] (List.getElem_mem _);have h1:i+1<l.length:=by omega
  have h0:i<l.length:=by omega
  rw [uZ h1] at hp;simp only [aQ,cQ,show (((i+1:Nat):Int) - 1)=(i:Int) by omega,bJ (show -9223372036854775808<=(i:Int) by omega) (by omega),aG h0,aG h1,aM h0,aM h1,ddC,Int.ofNat_lt]
  simp_all
 ·rw [<- UG lt l]
  cases (List.range (l.length - 1)).find? (fun i=>!nbB lt l i) <;> simp
end Go.Proofs.YtfgdfpnkhdlmfaaGreat
namespace Go.Proofs.YtfgdfpnkhdlmfaaGreat
open Go Go.Sx Go.Stint
set_option maxRecDepth 10000
variable {its:ITS}
theorem aMV (M:Den) (x:Pas):dY sg M (.fn 131 []) x.cv [.agg [li,li,li]] [.one lb]=M kN x.cv:=rfl
theorem aMW (M:Den) (x:By):dY sg M (.fn 133 []) x.cv [.agg liA] [.one lb]=M kO x.cv:=rfl
theorem aMX (M:Den) (x:Dd):dY sg M (.fn 135 []) x.cv [.agg liA] [.one lb]=M kP x.cv:=rfl
theorem aMY (M:Den) (x y:Pas):dY sg M (.fn 137 []) (x.cv++y.cv) [.agg [li,li,li],.agg [li,li,li]] [.one li]=M nZ (x.cv++y.cv):=rfl
theorem aMZ (M:Den) (x y:By):dY sg M (.fn 139 []) (x.cv++y.cv) [.agg liA,.agg liA] [.one li]=M kQ (x.cv++y.cv):=rfl
theorem aM0 (M:Den) (x y:Dd):dY sg M (.fn 143 []) (x.cv++y.cv) [.agg liA,.agg liA] [.one li]=M kR (x.cv++y.cv):=rfl
theorem aK6 (n:Nat) (x:Pas):D its (n+4) kN x.cv=some [cb (!x.ok)]:=by
 show D its (n+4) kN [ci x.id,ci x.lo,ci x.hi]=_;rw [FT];simp [tW,yL,aAz];cases Pas.ok ⟨x.id,x.lo,x.hi⟩ <;> rfl
theorem aK7 (n:Nat) (x:By):D its (n+6) kO x.cv=some [cb (!x.ok)]:=by
 show D its (n+6) kO [ci x.so,ci x.pa,ci x.fr,ci x.q0,ci x.q1,ci x.q2,ci x.q3,ci x.q4,ci x.q5,ci x.q6,ci x.q7,ci x.q8,ci x.q9]=_;rw [FQ];unfold tQ;rw [show D its (n+5) dD [ci x.so,ci x.pa,ci x.fr,ci x.q0,ci x.q1,ci x.q2,ci x.q3,ci x.q4,ci x.q5,ci x.q6,ci x.q7,ci x.q8,ci x.q9]=_ from AS n x];simp [aAA];cases x.ok <;> rfl
theorem aK8 (n:Nat) (x:Dd):D its (n+5) kP x.cv=some [cb (!x.ok)]:=by
 show D its (n+5) kP [ci x.m,ci x.no,ci x.kind,ci x.day,ci x.kn,ci x.ho,ci x.tt,ci x.ow,ci x.pa,ci x.pt,ci x.un,ci x.om,ci x.on]=_;rw [FS];unfold tV;rw [show D its (n+4) dI [ci x.m,ci x.no,ci x.kind,ci x.day,ci x.kn,ci x.ho,ci x.tt,ci x.ow,ci x.pa,ci x.pt,ci x.un,ci x.om,ci x.on]=_ from sJ n x];simp [BU];cases x.ok <;> rfl
theorem aK9 (n:Nat) (x y:Pas):D its (n+1) nZ (x.cv++y.cv)=some [ci (wr (x.id - y.id))]:=by
 rfl
def zW (a b:Int):Int:=if a<b then -1 else if b<a then 1 else 0
def DW (a b c d:Int):Int:=if zW a c=0 then zW b d else zW a c
theorem aBB (a b c d:Int):decide (DW a b c d>=0)=!iZ a b c d:=by
 grind [DW,zW,iZ]
theorem aHu (a b c d:Int):decide (DW a b c d<0)=iZ a b c d:=by
 grind [DW,zW,iZ]
theorem aJa (a b c d:Int):DW a b c d=0↔a=c/\b=d:=by
 grind [DW,zW]
@[simp] theorem aHv (n:Nat) (a:Int):D its (n+1) lL [ci a]=some [cb false]:=by
  rw [IP];simp [wF]
@[simp] theorem RE (n:Nat) (a b:Int):D its (n+2) fE [ci a,ci b]=some [ci (zW a b)]:=by
  rw [DI];simp only [sD,aHv,aC,fK,zW]
  by_cases h:a<b
  ·simp [h]
  ·by_cases h2:b<a <;> simp [h,h2]
theorem aIo (n:Nat) (a b:Int):D its (n+1) pX [.row 1 [[ci a],[ci b]]]=some [ci (if a=0 then b else a)]:=by
 rw [TX];unfold DP;rw [qS (fun x:Int=>!decide (x=0)) (fun x=>some (.ret [ci x])) (some (.br 0 [])) [a,b] (fun i=>[ci (i:Int)]) ?hv ?hR ?hX (fun i hi hp=>?h1) (fun i hi hp=>?h2) ?h3]
 case hv=>rfl
 case hR=>simp
 case hX=>simp
 case h3=>rfl
 case h1 =>
  have:i=0\/i=1:=by grind
  rcases this with rfl | rfl
  ·have h0:a=0:=by grind
   subst h0;rfl
  ·have h0:b=0:=by grind
   subst h0;rfl
 case h2 =>
  have:i=0\/i=1:=by grind
  rcases this with rfl | rfl
  ·have h0:¬a=0:=by grind
   show aA (decide ((0:Int)<2)) (chk true (chk true (aA (a != 0) (some (.ret [ci a])) _))) _=_;simp [h0]
  ·have h0:¬b=0:=by grind
   show aA (decide ((1:Int)<2)) (chk true (chk true (aA (b != 0) (some (.ret [ci b])) _))) _=_;simp [h0]
 ·by_cases h:a=0
  ·by_cases h2:b=0 <;> simp [List.find?,h,h2]
  simp_all
theorem RG (n:Nat) (a b c d:Int):D its (n+3) lK [ci a,ci b,ci c,ci d]=some [ci (DW a b c d)]:=by
 rw [IG];simp only [vY,RE,aC,aQ];rw [show aS 1 2 [ci (zW a c),ci (zW b d)]=[[ci (zW a c)],[ci (zW b d)]] from rfl,aIo];rfl
theorem aLa (n:Nat) (x y:By):D its (n+3) kQ (x.cv++y.cv)=some [ci (DW x.pa x.fr y.pa y.fr)]:=by
 show D its (n+3) kQ [ci x.so,ci x.pa,ci x.fr,ci x.q0,ci x.q1,ci x.q2,ci x.q3,ci x.q4,ci x.q5,ci x.q6,ci x.q7,ci x.q8,ci x.q9,ci y.so,ci y.pa,ci y.fr,ci y.q0,ci y.q1,ci y.q2,ci y.q3,ci y.q4,ci y.q5,ci y.q6,ci y.q7,ci y.q8,ci y.q9]=_;rw [FX];simp only [tZ,RE,aC,aQ];rw [show aS 1 2 [ci (zW x.pa y.pa),ci (zW x.fr y.fr)]=[[ci (zW x.pa y.pa)],[ci (zW x.fr y.fr)]] from rfl,aIo];rfl
theorem aLb (n:Nat) (x y:Dd):D its (n+4) kR (x.cv++y.cv)=some [ci (DW x.m x.no y.m y.no)]:=by
 show D its (n+4) kR [ci x.m,ci x.no,ci x.kind,ci x.day,ci x.kn,ci x.ho,ci x.tt,ci x.ow,ci x.pa,ci x.pt,ci x.un,ci x.om,ci x.on,ci y.m,ci y.no,ci y.kind,ci y.day,ci y.kn,ci y.ho,ci y.tt,ci y.ow,ci y.pa,ci y.pt,ci y.un,ci y.om,ci y.on]=_;simp [GA,uC,RG,aC,aQ]
theorem found {A:Type} (p:A->Bool) (l:List A) (cv:A->List CV) (z:List CV) (k:Nat) (h1:∀ x,gb (cv x) k=true) (h2:gb z k=false) :
  gb (((l.find? p).map cv).getD z) k=l.any p:=by
 cases h:l.find? p with
 | none =>
  grind
 | some x =>
  grind
structure Fit (c:Cm):Prop where
 p:c.ps.length<100000000000000
 b:c.bl.length<100000000000000
 d:c.ds.length<100000000000000
theorem aHw {A:Type} (p:A->Bool) (l:List A):(l.any fun x=>!p x)=!l.all p:=by
 grind
theorem iQ (n:Nat) (c:Cm) (hc:Fit c):D its (n+8) aI c.rs=some [ci c.chk]:=by
 obtain ⟨ps,bl,ds⟩:=c;obtain ⟨hp,hb,hd⟩:=hc;simp only at hp hb hd;show D its (n+8) aI [.row 3 (ps.map Pas.cv),.row 13 (bl.map By.cv),.row 13 (ds.map Dd.cv)]=_;rw [OO];unfold AL
 rw [UF (n+6) ps (.fn 131 []) (fun x=>!x.ok) (by omega) (fun x _=>by rw [aMV];exact aK6 _ x),
  aHt (n+6) bl (.fn 133 []) (fun x=>!x.ok) (by omega) (fun x _=>by rw [aMW];exact aK7 _ x),
  aBA (n+6) ds (.fn 135 []) (fun x=>!x.ok) (by omega) (fun x _=>by rw [aMX];exact aK8 _ x)]
 simp only [aC,found (fun x=>!Pas.ok x) ps (fun x=>x.cv++[cb true]) [ci 0,ci 0,ci 0,cb false] 3 (fun _=>rfl) rfl,
  found (fun x=>!By.ok x) bl (fun x=>x.cv++[cb true]) (z13++[cb false]) 13 (fun _=>rfl) rfl,found (fun x=>!Dd.ok x) ds (fun x=>x.cv++[cb true]) (z13++[cb false]) 13 (fun _=>rfl) rfl,aHw,cQ]
 simp only [orN];cases hk:(!ps.all Pas.ok || (!bl.all By.ok || (!ds.all Dd.ok || (decide ((ps.length:Int) > 8) || (decide ((bl.length:Int) > 20) || decide ((ds.length:Int) > 60)))))) with
 | true =>
  have:Cm.ok ⟨ps,bl,ds⟩=false:=by
   grind [Cm.ok]
  simp [Cm.chk,this]
 | false =>
  simp at hk;obtain ⟨h1,h2,h3,h4,h5,h6⟩:=hk
  have nf:∀ x∈ps,1<=x.id/\x.id<=99:=by
   simp_all [Pas.ok,within]
  rw [aFb (n+6) ps (.fn 137 []) Pas.lt (by omega) (fun x hx y hy=>⟨_,by rw [aMY];exact aK9 _ x y,by
      have:=nf x hx;have:=nf y hy;rw [bJ (by omega) (by omega),Bool.eq_iff_iff]
      simp [Pas.lt]⟩),
   aFc (n+6) bl (.fn 139 []) By.lt (by omega) (fun x hx y hy=>⟨_,by rw [aMZ];exact aLa _ x y,aBB _ _ _ _⟩),
   aFd (n+6) ds (.fn 143 []) Dd.lt (by omega) (fun x hx y hy=>⟨_,by rw [aM0];exact aLb _ x y,aBB _ _ _ _⟩)]
  have e4:decide (ps.length<=8)=true:=decide_eq_true (by omega)
  have e5:decide (bl.length<=20)=true:=decide_eq_true (by omega)
  have e6:decide (ds.length<=60)=true:=decide_eq_true (by omega)
  simp [Cm.chk,Cm.ok];grind
end Go.Proofs.YtfgdfpnkhdlmfaaGreat
namespace Go.Proofs.YtfgdfpnkhdlmfaaGreat
open Go Go.Sx Go.Stint
set_option maxRecDepth 10000
variable {its:ITS}
def pB {A:Type} (ok:A->Bool) (lt:A->A->Bool) (l:List A) (i:Nat):Bool:=(match l[i]? with | some x=>!ok x | none=>false) || (decide (0<i)&&!nbB lt l (i - 1))
theorem aJb {A:Type} (ok:A->Bool) (lt:A->A->Bool) (l:List A):((List.range l.length).find? (pB ok lt l)).isNone=(l.all ok&&gR lt l):=by
 rw [Bool.eq_iff_iff,Option.isNone_iff_eq_none,List.find?_eq_none,Bool.and_eq_true,List.all_eq_true];unfold gR;rw [List.all_eq_true];constructor
 ·intro h
  refine ⟨fun x hx=>?_,fun i hi=>?_⟩
  ·obtain ⟨i,hi,rfl⟩:=List.mem_iff_getElem.1 hx
   simp_all [pB]
  ·have:=h (i+1) (by grind)
   simp_all [pB]
 grind [pB]
theorem JJ (n:Nat) (a b c d:Int):D its (n+1) rX [ci a,ci b,ci c,ci d]=some [cb (iZ a b c d)]:=by
 rw [XH];simp [HG,iZ];grind
theorem pBg {A:Type} {ok:A->Bool} {lt:A->A->Bool} {l:List A} {i:Nat} (h:i<l.length):pB ok lt l i=(!ok l[i] || (decide (0<i)&&!lt (l[i - 1]'(by omega)) l[i])):=by
 grind [pB,uZ]
@[simp] theorem wrP (i:Nat) (h:0<i) (h':i<100000000000000):wr ((i:Int) - 1)=((i - 1:Nat):Int):=aHn h (by omega)
theorem yM (n:Nat) (c:Cm) (hc:Fit c):D its (n+5) cU c.rs=some [ci c.chk]:=by
 obtain ⟨ps,bl,ds⟩:=c;show D its (n+5) cU [.row 3 (ps.map Pas.cv),.row 13 (bl.map By.cv),.row 13 (ds.map Dd.cv)]=_;rw [HI];unfold HH;simp only [cQ,orN];cases hk:(decide ((ps.length:Int) > 8) || (decide ((bl.length:Int) > 20) || decide ((ds.length:Int) > 60))) with
 | true =>
  have:Cm.ok ⟨ps,bl,ds⟩=false:=by
   grind [Cm.ok]
  simp [Cm.chk,this]
 | false =>
  simp at hk;rw [qB ps.length (fun i=>[ci (i:Int)]) (pB Pas.ok Pas.lt ps) (fun _=>some (.ret [ci 23])) (some (.br 0 [])) ?hv ?hR ?hX (fun i hi hp=>?h1) (fun i hi hp=>?h2) ?h3]
  case hv=>rfl
  case hR=>simp
  case hX=>simp
  case h3=>simp
  case h1 =>
   rw [pBg hi] at hp;simp [hi,aG,aM,pK,aAz,bG (show i<9223372036854775807 by omega)]
   by_cases h0:0<i
   ·have hj:i - 1<ps.length:=by omega
    have hlt:Pas.lt ps[i - 1] ps[i]=decide (ps[i - 1].id<ps[i].id):=rfl;simp [hlt] at hp;simp [wrP i h0 (by omega),aG hj,aM hj,hp.1,Pas.cv]
    omega
   simp_all
  case h2 =>
   rw [pBg hi] at hp;simp [hi,aG,aM,pK,aAz];cases hx:ps[i].ok with
   | false=>rfl
   | true =>
    by_cases h0:0<i
    ·have hj:i - 1<ps.length:=by omega
     have hlt:Pas.lt ps[i - 1] ps[i]=decide (ps[i - 1].id<ps[i].id):=rfl;simp [hx,hlt] at hp;simp [wrP i h0 (by omega),aG hj,aM hj,Pas.cv]
     omega
    grind
  have hf:=aJb Pas.ok Pas.lt ps;cases y8:(List.range ps.length).find? (pB Pas.ok Pas.lt ps) with
  | some i =>
   have:Cm.ok ⟨ps,bl,ds⟩=false:=by
    grind [Cm.ok]
   simp [Cm.chk,this]
  | none =>
  rw [y8] at hf;rw [qB bl.length (fun i=>[ci (i:Int)]) (pB By.ok By.lt bl) (fun _=>some (.ret [ci 23])) (some (.br 2 [])) ?hv ?hR ?hX (fun i hi hp=>?h1) (fun i hi hp=>?h2) ?h3]
  case hv=>rfl
  case hR=>simp
  case hX=>simp
  case h3=>simp
  case h1 =>
   rw [pBg hi] at hp;simp only [aQ,hi,aG,aM,byC,rC,aAA,bG (show i<9223372036854775807 by omega),Int.ofNat_lt]
   by_cases h0:0<i
   ·have hj:i - 1<bl.length:=by omega
    simp at hp;have hq:=hp.2;simp [By.lt,iZ] at hq;simp [hp.1,wrP i h0 (by omega),aG hj,aM hj]
    simp [By.cv];omega
   simp_all
  case h2 =>
   rw [pBg hi] at hp;simp only [aQ,hi,aG,aM,byC,rC,aAA,Int.ofNat_lt];cases hx:bl[i].ok with
   | false=>simp
   | true =>
    by_cases h0:0<i
    ·have hj:i - 1<bl.length:=by omega
     simp [By.lt,iZ] at hp;simp [wrP i h0 (by omega),aG hj,aM hj]
     simp [By.cv];grind
    grind
  have hg:=aJb By.ok By.lt bl;cases y8:(List.range bl.length).find? (pB By.ok By.lt bl) with
  | some i =>
   have:Cm.ok ⟨ps,bl,ds⟩=false:=by
    grind [Cm.ok]
   simp [Cm.chk,this]
  | none =>
  rw [y8] at hg;simp only [Option.isNone_none] at hg;have hg:=hg.symm;rw [qB ds.length (fun i=>[ci (i:Int)]) (pB Dd.ok Dd.lt ds) (fun _=>some (.ret [ci 23])) (some (.br 4 [])) ?hv ?hR ?hX (fun i hi hp=>?h1) (fun i hi hp=>?h2) ?h3]
  case hv=>rfl
  case hR=>simp
  case hX=>simp
  case h3=>simp
  case h1 =>
   rw [pBg hi] at hp;simp only [aQ,hi,aG,aM,ddC,nA,BU,bG (show i<9223372036854775807 by omega),Int.ofNat_lt]
   by_cases h0:0<i
   ·have hj:i - 1<ds.length:=by omega
    simp [h0] at hp;have hq:iZ ds[i - 1].m ds[i - 1].no ds[i].m ds[i].no=true:=hp.2;simp [hp.1,wrP i h0 (by omega),aG hj,aM hj]
    simp [Dd.cv,JJ,hq]
   ·have zk:i=0:=by omega
    subst zk;simp only [Bool.or_eq_false_iff,Bool.not_eq_false'] at hp;simp [hp.1]
  case h2 =>
   rw [pBg hi] at hp;simp only [aQ,hi,aG,aM,ddC,nA,BU,Int.ofNat_lt];cases hx:ds[i].ok with
   | false=>simp
   | true =>
    by_cases h0:0<i
    ·have hj:i - 1<ds.length:=by omega
     have zk:(i:Int) > 0:=by omega
     simp [hx,h0] at hp;have hq:iZ ds[i - 1].m ds[i - 1].no ds[i].m ds[i].no=false:=hp;simp only [zk,wrP i h0 (by omega),aG hj,aM hj]
     simp [Dd.cv,JJ,hq]
    grind
  have hh:=aJb Dd.ok Dd.lt ds;cases y8:(List.range ds.length).find? (pB Dd.ok Dd.lt ds) with
  | some i =>
   have:Cm.ok ⟨ps,bl,ds⟩=false:=by
    grind [Cm.ok]
   simp [Cm.chk,this]
  | none =>
   rw [y8] at hh;simp only [Option.isNone_none] at hh;have hh:=hh.symm
   have:Cm.ok ⟨ps,bl,ds⟩=true:=by
    grind [Cm.ok]
   simp [Cm.chk,this]
end Go.Proofs.YtfgdfpnkhdlmfaaGreat
namespace Go.Proofs.YtfgdfpnkhdlmfaaGreat
open Go Go.Sx Go.Stint
set_option maxRecDepth 10000
variable {its:ITS}
theorem half (i j:Nat) (h:i+j<4611686018427387904):wr (Int.fdiv (IntKind.wrap .u64 (wr ((i:Int)+j))) 2)=((i+j) / 2:Nat):=by
 grind [IntKind.wrap,IntKind.bits,bJ]
theorem MR {step:List CV->Option Ou} (b n k:Nat) (hk:k<=n) (h1:∀ i j,i<j->j<=n->i<=k->k<=j->step [ci (i:Int),ci (j:Int)]=some (.nx (if (i+j) / 2<k then [ci (((i+j) / 2+1:Nat):Int),ci (j:Int)] else [ci (i:Int),ci (((i+j) / 2:Nat):Int)])))
  (h2:∀ i:Nat,step [ci (i:Int),ci (i:Int)]=some (.br b [ci (i:Int)])):∀ (d i j:Nat),j - i<=d->i<=k->k<=j->j<=n->aL step [ci (i:Int),ci (j:Int)]=some (.br b [ci (k:Int)])
 | d,i,j,hd,hi,hj,hn=>by
  by_cases e:i=j
  ·have:i=k:=by omega
   subst e;subst this;exact bH (h2 i) (by simp)
  ·rw [eB (h1 i j (by omega) hn hi hj)]
   split
   ·exact MR b n k hk h1 h2 d _ _ (by omega) (by omega) (by omega) hn
   ·exact MR b n k hk h1 h2 d _ _ (by omega) (by omega) (by omega) (by omega)
theorem aM1 (M:Den) (x y:Dd):dY sg M (.fn 168 []) (x.cv++y.cv) [.agg liA,.agg liA] [.one li]=M mU (x.cv++y.cv):=rfl
theorem aLc (n:Nat) (x y:Dd):D its (n+4) mU (x.cv++y.cv)=some [ci (DW x.m x.no y.m y.no)]:=by
 show D its (n+4) mU [ci x.m,ci x.no,ci x.kind,ci x.day,ci x.kn,ci x.ho,ci x.tt,ci x.ow,ci x.pa,ci x.pt,ci x.un,ci x.om,ci x.on,ci y.m,ci y.no,ci y.kind,ci y.day,ci y.kn,ci y.ho,ci y.tt,ci y.ow,ci y.pa,ci y.pt,ci y.un,ci y.om,ci y.on]=_;simp [MD,xX,RG,aC,aQ]
def Up (l:List Dd):Prop:=l.Pairwise fun a b=>a.lt b=true
theorem DX {a b c:Dd} (h:a.lt b=true) (h':b.lt c=true):a.lt c=true:=by
 grind [Dd.lt,iZ]
theorem XP {A:Type} {lt:A->A->Bool} (ht:∀ {a b c},lt a b=true->lt b c=true->lt a c=true):∀ (l:List A),gR lt l=true↔l.Pairwise fun a b=>lt a b=true
 | []=>by simp [gR]
 | [a]=>by simp [gR]
 | a::b::l=>by
  have ih:=XP (lt:=lt) ht (b::l)
  have e:gR lt (a::b::l)=(lt a b&&gR lt (b::l)):=by
   unfold gR;simp;rw [List.range_succ_eq_map,List.all_cons,List.all_map];rfl
  rw [e,Bool.and_eq_true,ih,List.pairwise_cons (a:=a)];constructor
  ·rintro ⟨h1,h2⟩
   refine ⟨fun c hc=>?_,h2⟩
   rcases List.mem_cons.1 hc with rfl | hc
   ·exact h1
   ·exact ht h1 (List.rel_of_pairwise_cons h2 hc)
  grind
theorem uD (l:List Dd):gR Dd.lt l=true↔Up l:=XP (lt:=Dd.lt) DX l
theorem DY (x:Dd) (l:List Dd):bL x l<=l.length:=List.findIdx_le_length
variable {x:Dd} {l:List Dd}
theorem MS {i:Nat} (h:i<bL x l):(l[i]'(Nat.lt_of_lt_of_le h (DY x l))).lt x=true:=by
 have:=List.not_of_lt_findIdx h;grind
theorem MT (h:bL x l<l.length):(l[bL x l]).lt x=false:=by
 grind [bL]
theorem aFe (hu:Up l) {i:Nat} (hi:i<l.length) (h:bL x l<=i):l[i].lt x=false:=by
 have h1:=MT (x:=x) (l:=l) (by omega)
 by_cases e:bL x l=i
 ·grind
 ·have h2:(l[bL x l]'(by omega)).lt l[i]=true:=List.pairwise_iff_getElem.1 hu _ _ _ _ (by omega)
  grind [DX]
theorem MU (n:Nat) (l:List Dd) (x:Dd) (hl:l.length<100000000000000) (hu:Up l) :
  D its (n+5) dA (CV.row 13 (l.map Dd.cv)::(x.cv++[.fn 168 []]))=some [ci (bL x l:Int),cb (match l[bL x l]? with | some y=>jW y x | none=>false)]:=by
 show D its (n+5) dA [.row 13 (l.map Dd.cv),ci x.m,ci x.no,ci x.kind,ci x.day,ci x.kn,ci x.ho,ci x.tt,ci x.ow,ci x.pa,ci x.pt,ci x.un,ci x.om,ci x.on,.fn 168 []]=_;rw [oA]
 have iF:∀ y:Dd,dY sg (D its (n+4)) (.fn 168 []) (cat [y.cv,[ci x.m,ci x.no,ci x.kind,ci x.day,ci x.kn,ci x.ho,ci x.tt,ci x.ow,ci x.pa,ci x.pt,ci x.un,ci x.om,ci x.on]]) [.agg liA,.agg liA] [.one li]=some [ci (DW y.m y.no x.m x.no)]:=fun y=>by
  rw [show cat [y.cv,[ci x.m,ci x.no,ci x.kind,ci x.day,ci x.kn,ci x.ho,ci x.tt,ci x.ow,ci x.pa,ci x.pt,ci x.un,ci x.om,ci x.on]]=y.cv++x.cv from rfl,aM1,aLc]
 unfold gZ;have hlt:∀ y:Dd,decide (DW y.m y.no x.m x.no<0)=y.lt x:=fun y=>aHu _ _ _ _
 have bq:=DY x l;rw [show ([ci 0,ci (il (l.map Dd.cv))]:List CV)=[ci ((0:Nat):Int),ci ((l.length:Nat):Int)] by simp]
 rw [MR 0 l.length (bL x l) bq (fun i j gp hj hi hk=>?h1) (fun i=>?h2) l.length 0 l.length (by omega) (by omega) bq (Nat.le_refl _)]
 case h2=>simp
 case h1 =>
  have hm:(i+j) / 2<l.length:=by omega
  simp only [aQ,eL,half i j (by omega),aG hm,aM hm,ddC,iF,Int.ofNat_lt,gp,bG (show (i+j) / 2<9223372036854775807 by omega)]
  have hq:=hlt l[(i+j) / 2]
  by_cases h:(i+j) / 2<bL x l
  ·rw [MS h] at hq
   have bp:DW l[(i+j) / 2].m l[(i+j) / 2].no x.m x.no<0:=of_decide_eq_true hq;simp_all
  ·rw [aFe hu hm (by omega)] at hq
   have bp:¬DW l[(i+j) / 2].m l[(i+j) / 2].no x.m x.no<0:=of_decide_eq_false hq;simp [h,bp]
 simp only [cP,aQ,cQ,Int.ofNat_lt]
 by_cases h:bL x l<l.length
 ·simp only [h,aG h,aM h,ddC,iF,aC,aQ,List.getElem?_eq_getElem h,rV,aJa,jW]
  simp
 ·simp [h]
end Go.Proofs.YtfgdfpnkhdlmfaaGreat
namespace Go.Proofs.YtfgdfpnkhdlmfaaGreat
open Go Go.Sx Go.Stint
set_option maxRecDepth 10000
variable {its:ITS}
theorem aBD:∀ (l:List Int) (a b:Int),(∀ x∈l,a<=x/\x<b)->l.Pairwise (·<·)->(l.length:Int)<=max (b - a) 0
 | [],a,b,_,_=>by grind
 | x::l,a,b,h,hp=>by
  have h1:=h x (by simp)
  have:=aBD l (x+1) b (fun y hy=>⟨by have:=List.rel_of_pairwise_cons hp hy;omega,(h y (by grind)).2⟩) (List.Pairwise.of_cons hp)
  grind
theorem Up.len {l:List Dd} (h:Up l) (aa:∀ x∈l,x.ok=true):l.length<=60000:=by
 have:=aBD (l.map fun x=>x.m*10000+x.no) 0 60000 (fun y hy=>by
  grind [Dd.ok,pI,within]) (by
  rw [List.pairwise_map];refine h.imp_of_mem ?_;grind [Dd.ok,pI,within,Dd.lt,iZ])
 grind
def Good (l:List Dd):Prop:=Up l/\∀ x∈l,x.ok=true
theorem Good.len {l:List Dd} (h:Good l):l.length<=60000:=h.1.len h.2
theorem aC0 {a b:Dd} (h:a.lt b=false) (h2:jW a b=false):b.lt a=true:=by
 grind [Dd.lt,iZ,jW]
variable {out:List Dd}
theorem lS {x:Dd} (h:Good out) (hx:x.ok=true) (hs:∀ y,out[bL x out]? = some y->jW y x=false):Good (putAt out x):=by
 refine ⟨?_,fun y hy=>?_⟩
 ·unfold Up putAt
  rw [List.pairwise_append];refine ⟨h.1.sublist (List.take_sublist _ _),?_,fun a ha b hb=>?_⟩
  ·rw [List.pairwise_cons]
   refine ⟨fun b hb=>?_,h.1.sublist (List.drop_sublist _ _)⟩
   obtain ⟨i,hi,rfl⟩:=List.mem_iff_getElem.1 hb;rw [List.length_drop] at hi;rw [List.getElem_drop];have hk:bL x out<out.length:=by omega
   have h0:=aC0 (MT hk) (hs _ (List.getElem?_eq_getElem hk))
   by_cases e:i=0
   ·grind
   ·exact DX h0 (List.pairwise_iff_getElem.1 h.1 _ _ _ _ (by omega))
  ·obtain ⟨i,hi,rfl⟩:=List.mem_iff_getElem.1 ha
   rw [List.length_take] at hi;rw [List.getElem_take];have h1:out[i].lt x=true:=MS (by omega)
   rcases List.mem_cons.1 hb with rfl | hb
   ·exact h1
   ·obtain ⟨j,hj,rfl⟩:=List.mem_iff_getElem.1 hb
    rw [List.getElem_drop];exact List.pairwise_iff_getElem.1 h.1 _ _ _ _ (by omega)
 ·rcases List.mem_append.1 hy with hy | hy
  ·exact h.2 y (List.mem_of_mem_take hy)
  ·rcases List.mem_cons.1 hy with rfl | hy
   ·exact hx
   ·exact h.2 y (List.mem_of_mem_drop hy)
theorem aC1 {o:List Dd} {x:Dd} (h:Good out) (hx:x.ok=true) (hp:zR out x=some o):Good o:=by
 unfold zR at hp;split at hp
 ·rename_i y hy
  cases hs:jW y x with
  | true =>
   grind
  | false =>
   rw [hs] at hp;simp at hp;rw [<- hp];exact lS h hx fun z hz=>by grind
 ·simp at hp
  rw [<- hp];exact lS h hx fun z hz=>by grind
structure ItsJ (its:ITS):Prop where
 ins:∀ n,D its (n+1) oQ []=some [.row 13 [],.fn 56 [],.fn 104 []]
theorem aC2 (x y:Dd):(((gi y.cv 0) == (gi x.cv 0))&&(((gi y.cv 1) == (gi x.cv 1))&&(((gi y.cv 2) == (gi x.cv 2))&&(((gi y.cv 3) == (gi x.cv 3))&&(((gi y.cv 4) == (gi x.cv 4))&&(((gi y.cv 5) == (gi x.cv 5))&&(((gi y.cv 6) == (gi x.cv 6))&&(((gi y.cv 7) == (gi x.cv 7))&&(((gi y.cv 8) == (gi x.cv 8))&&(((gi y.cv 9) == (gi x.cv 9))&&(((gi y.cv 10) == (gi x.cv 10))&&(((gi y.cv 11) == (gi x.cv 11))&&(((gi y.cv 12) == (gi x.cv 12))&&true)))))))))))))=y.eqb x:=rfl
theorem XQ {A:Type} (cv:A->List CV) (l:List A) (z:List CV):(l.map cv)++List.drop (List.length (l.map cv)) (List.replicate (Int.toNat (il (l.map cv))) z)=l.map cv:=by
 simp
theorem aFf (hI:ItsJ its) (n:Nat) (c:Cm) (l:List Dd) (hc:Fit c) (hl:l.length<100000000000000) :
  D its (n+9) dR (c.rs++[.row 13 (l.map Dd.cv)])=some ((eR c l).1.rs++[ci (eR c l).2]):=by
 obtain ⟨ps,bl,ds⟩:=c;have gq:=hc;show D its (n+9) dR [.row 3 (ps.map Pas.cv),.row 13 (bl.map By.cv),.row 13 (ds.map Dd.cv),.row 13 (l.map Dd.cv)]=_;rw [TZ];unfold DS;rw [show D its (n+8) aI [CV.row 3 (ps.map Pas.cv),CV.row 13 (bl.map By.cv),CV.row 13 (ds.map Dd.cv)]=_ from iQ n ⟨ps,bl,ds⟩ gq];simp only [Cm.chk];cases aa:Cm.ok ⟨ps,bl,ds⟩ with
 | false=>simp [eR,aa,Cm.rs]
 | true =>
  have jf:=aa;simp only [Cm.ok,Bool.and_eq_true] at jf;obtain ⟨⟨⟨⟨⟨⟨⟨⟨k1,k2⟩,k3⟩,k4⟩,k5⟩,k6⟩,k7⟩,k8⟩,k9⟩:=jf;have ry:Good ds:=⟨(uD ds).1 k9,fun x hx=>List.all_eq_true.1 k6 x hx⟩
  have f1:cJ (Int.toNat (il (ps.map Pas.cv))) 0 24=true:=dE (by grind [il]) (by grind [il])
  have f2:cJ (Int.toNat (il (bl.map By.cv))) 0 104=true:=dE (by grind [il]) (by grind [il])
  have f3:cJ (Int.toNat (il (ds.map Dd.cv))) 0 104=true:=dE (by grind [il]) (by grind [il])
  have g1:∀ {A:Type} (cv:A->List CV) (l:List A),(decide (0<=il (l.map cv))&&decide (il (l.map cv)<=il (l.map cv)))=true:=fun cv l=>by simp
  have g2:∀ {A:Type} (cv:A->List CV) (l:List A) (z:List CV),decide (List.length (l.map cv)<=List.length (List.replicate (Int.toNat (il (l.map cv))) z))=true:=fun cv l z=>by simp
  simp only [f1,f2,f3,g1,g2,Bool.and_self,aJ,WR,XQ,bW,dZ];rw [FM (vs':=[ci ((0:Nat):Int),.row 3 [],.row 13 [],.row 13 [],.row 3 (ps.map Pas.cv),.row 13 (bl.map By.cv),.row 13 (ds.map Dd.cv)]) (by rfl)]
  rw [QP (fun i (out:List Dd)=>[ci (i:Int),.row 3 [],.row 13 [],.row 13 [],.row 3 (ps.map Pas.cv),.row 13 (bl.map By.cv),.row 13 (out.map Dd.cv)])
   (fun out (rest:List Dd)=>if (joinL out rest).2=0 then some (.br 0 [.row 3 [],.row 13 [],.row 13 [],.row 3 (ps.map Pas.cv),.row 13 (bl.map By.cv),.row 13 ((joinL out rest).1.map Dd.cv)]) else some (.ret [.row 3 [],.row 13 [],.row 13 [],ci (joinL out rest).2])) Good l
   ds ?hv ry (fun i hi out hg=>?hs) (fun out hg=>?he)]
  case hv=>rfl
  case he=>simp [joinL]
  case hs =>
   have hx:=hg.len;have rz:l.drop i=l[i]::l.drop (i+1):=List.drop_eq_getElem_cons hi;rw [rz];generalize fw:l[i]=x;have Nf:=MU (its:=its) (n+3) out x (by omega) hg.1
   have Hk:=DY x out;cases iq:x.ok with
   | false =>
    have i6:BU x=22:=by grind [BU]
    simp only [aQ,cQ,Int.ofNat_lt,hi,aG hi,aM hi,fw,ddC,sJ,i6,joinL,iq];simp
   | true =>
    have i6:BU x=0:=by grind [BU]
    simp only [aQ,bW,dZ,cQ,Int.ofNat_lt,hi,aG hi,aM hi,fw,ddC,sJ,i6,joinL,iq];rw [show cat [[CV.row 13 (out.map Dd.cv)],x.cv,[CV.fn 168 []]]=CV.row 13 (out.map Dd.cv)::(x.cv++[.fn 168 []]) from rfl,Nf];simp only [aC,aQ];have ck:cJ (List.length (out.map Dd.cv)) 1 104=true:=dE (by grind) (by grind)
    have y9:(bL x out:Int)<=out.length:=by omega
    have sw:(0:Int)<=(bL x out:Int):=by omega
    have Ng:aEp 13 56 104 [CV.row 13 [],CV.fn 56 [],CV.fn 104 []]=true:=rfl
    have jw:(List.take (bL x out) (out.map Dd.cv)++x.cv::List.drop (bL x out) (out.map Dd.cv))=(putAt out x).map Dd.cv:=by
     simp [putAt]
    have Hl:=bG (show i<9223372036854775807 by omega)
    cases hy:out[bL x out]? with
    | none =>
     left;refine ⟨putAt out x,?_,?_,lS hg iq fun z hz=>by grind⟩
     ·simp [hI.ins]
      simp_all
     grind [zR]
    | some y =>
     have hk:bL x out<out.length:=(List.getElem?_eq_some_iff.1 hy).1;have zy:out[bL x out]=y:=(List.getElem?_eq_some_iff.1 hy).2;rcases Bool.eq_false_or_eq_true (jW y x) with na | na
     ·simp only [na,aG hk,aM hk,zy,Int.toNat_natCast,List.length_map,hk,aC2]
      rcases Bool.eq_false_or_eq_true (y.eqb x) with he | he
      ·left
       refine ⟨out,?_,?_,hg⟩
       ·simp_all
       grind [zR]
      ·right
       simp only [zR,hy,na,he];simp
     ·left
      refine ⟨putAt out x,?_,?_,lS hg iq fun z hz=>by grind⟩
      ·simp only [na,hI.ins]
       simp_all
      grind [zR]
  cases hj:joinL ds l with
  | mk o e =>
   simp [eR,aa,hj]
   by_cases he:e=0
   ·subst he
    by_cases nl:60<o.length
    ·have Hm:(o.length:Int) > 60:=by omega
     simp_all [Cm.rs]
    ·have h7:¬(60:Int)<o.length:=by omega
     simp [nl,Cm.rs,h7]
   ·simp [he,Cm.rs]
end Go.Proofs.YtfgdfpnkhdlmfaaGreat
namespace Go.Proofs.YtfgdfpnkhdlmfaaGreat
open Go Go.Sx Go.Stint
set_option maxRecDepth 10000
variable {its:ITS}
theorem aFi (hI:ItsJ its) (n:Nat) (c:Cm) (x:Dd) (hc:Fit c):D its (n+10) eJ (c.rs++x.cv)=some ((eR c [x]).1.rs++[ci (eR c [x]).2]):=by
 obtain ⟨ps,bl,ds⟩:=c;show D its (n+10) eJ [.row 3 (ps.map Pas.cv),.row 13 (bl.map By.cv),.row 13 (ds.map Dd.cv),ci x.m,ci x.no,ci x.kind,ci x.day,ci x.kn,ci x.ho,ci x.tt,ci x.ow,ci x.pa,ci x.pt,ci x.un,ci x.om,ci x.on]=_;rw [XG];unfold HF;rw [show D its (n+9) dR [CV.row 3 (ps.map Pas.cv),CV.row 13 (bl.map By.cv),CV.row 13 (ds.map Dd.cv),CV.row 13 (aS 13 1 [ci x.m,ci x.no,ci x.kind,ci x.day,ci x.kn,ci x.ho,ci x.tt,ci x.ow,ci x.pa,ci x.pt,ci x.un,ci x.om,ci x.on])]=_ from aFf hI n ⟨ps,bl,ds⟩ [x] hc (by simp)]
 rfl
end Go.Proofs.YtfgdfpnkhdlmfaaGreat
namespace Go.Proofs.YtfgdfpnkhdlmfaaGreat
open Go Go.Sx Go.Stint
set_option maxRecDepth 10000
variable {its:ITS}
theorem aFj:aHp.Nodup:=WV 1 99 1 99
theorem aLe:aHp.Pairwise fun a b=>lt2 a b=true:=LU 1 99 1 99
theorem aBF:jR.Pairwise fun a b=>lt1 a b=true:=JG 1 99
section
variable (ps:List Pas) (L:Land)
@[simp] theorem lc0:gr (cS ps L) 0=wN ps:=rfl
@[simp] theorem lc1:gr (List.drop 1 (cS ps L)) 0=BH L:=rfl
@[simp] theorem lc3:gr (List.drop 3 (cS ps L)) 0=rtR L:=rfl
@[simp] theorem lc4:gr (List.drop 4 (cS ps L)) 0=L.lets.map Dd.cv:=rfl
@[simp] theorem lc5:gr (List.drop 5 (cS ps L)) 0=L.gates.map Dd.cv:=rfl
@[simp] theorem lo1:oks [.mp 1] (List.drop 1 (cS ps L)) 0=true:=rfl
@[simp] theorem lo3:oks [.mp 2] (List.drop 3 (cS ps L)) 0=true:=rfl
@[simp] theorem lo4:oks [.row 13] (List.drop 4 (cS ps L)) 0=true:=rfl
@[simp] theorem lo5:oks [.row 13] (List.drop 5 (cS ps L)) 0=true:=rfl
@[simp] theorem MV:dX [(.int .i64)] .bool (wN ps)=true:=LS _ _ (fun _=>rfl) (fun k d h=>by split at h <;> cases h;rfl) _
@[simp] theorem vK:dX [(.int .i64)] (.int .i64) (BH L)=true:=LS _ _ (fun _=>rfl) (fun k d h=>by simp at h;obtain ⟨_,_,rfl⟩:=h;rfl) _
@[simp] theorem aFk:dX [(.int .i64)] .bool (evR L)=true:=LS _ _ (fun _=>rfl) (fun k d h=>by split at h <;> cases h;rfl) _
@[simp] theorem XR:dX [(.int .i64),(.int .i64)] (.int .i64) (rtR L)=true:=LS _ _ (fun _=>rfl) (fun k d h=>by simp at h;obtain ⟨_,_,rfl⟩:=h;rfl) _
end
section
variable {ps:List Pas} {L:Land}
variable {h:Int}
theorem XS (hh:1<=h/\h<=99):aH 1 [ci h] (.int .i64 0) (BH L)=ci ((L.own h).getD 0):=by
 have:=CY WU qT (f:=fun h=>(L.own h).map ci) (lX.2 hh) (.int .i64 0)
 refine this.trans ?_;cases L.own h <;> rfl
theorem aBG (hh:1<=h/\h<=99):decide (bN 1 [ci h] (BH L)<(BH L).length)=L.th h:=by
 have:=aEP WU qT (f:=fun h=>(L.own h).map ci) (lX.2 hh)
 rw [Bool.eq_iff_iff,decide_eq_true_eq];refine this.trans ?_;simp [Land.th]
theorem aHy (hh:1<=h/\h<=99):aH 1 [ci h] (.bool false) (evR L)=cb (L.ev h):=by
 have:=CY WU qT (f:=fun h=>if L.ev h then some (cb true) else none) (lX.2 hh) (.bool false)
 refine this.trans ?_;cases L.ev h <;> rfl
variable {p:Int}
theorem MW (hh:1<=p/\p<=99):aH 1 [ci p] (.bool false) (wN ps)=cb (jA ps p):=by
 have:=CY WU qT (f:=fun h=>if jA ps h then some (cb true) else none) (lX.2 hh) (.bool false)
 refine this.trans ?_;cases jA ps p <;> rfl
theorem vL (hh:1<=h/\h<=99) (hp:1<=p/\p<=99):aH 2 [ci h,ci p] (.int .i64 0) (rtR L)=ci (L.g h p):=by
 have:=CY aER aFj (f:=fun k=>(L.rt k).map ci) (k:=(h,p)) (aES.2 ⟨hh,hp⟩) (.int .i64 0)
 refine this.trans ?_;unfold Land.g;cases L.rt (h,p) <;> rfl
theorem aBH (hh:1<=h/\h<=99) (o:Int):bV 1 [ci h] (ci o) (BH L)=BH { L with own:=fun x=>if x=h then some o else L.own x }:=by
 refine (LQ WU aBF qT (lX.2 hh) (ci o)).trans ?_;refine dF fun k _=>?_
 unfold sV;grind
theorem aJc (hh:1<=h/\h<=99):bV 1 [ci h] (cb true) (evR L)=evR { L with ev:=fun x=>if x=h then true else L.ev x }:=by
 refine (LQ WU aBF qT (lX.2 hh) (cb true)).trans ?_;refine dF fun k _=>?_
 unfold sV;grind
theorem aHz (hh:1<=h/\h<=99):zQ 1 [ci h] (BH L)=BH { L with own:=fun x=>if x=h then none else L.own x }:=by
 refine (aEQ WU qT (lX.2 hh)).trans ?_;refine dF fun k _=>?_
 unfold sV;grind
theorem UH (hh:1<=h/\h<=99) (hp:1<=p/\p<=99) (v:Int):bV 2 [ci h,ci p] (ci v) (rtR L)=rtR { L with rt:=fun x=>if x=(h,p) then some v else L.rt x }:=by
 refine (LQ aER aLe aFj (k:=(h,p)) (aES.2 ⟨hh,hp⟩) (ci v)).trans ?_;refine dF fun k _=>?_
 unfold sV;grind
theorem aJd (hh:1<=h/\h<=99) (hp:1<=p/\p<=99):zQ 2 [ci h,ci p] (rtR L)=rtR { L with rt:=fun x=>if x=(h,p) then none else L.rt x }:=by
 refine (aEQ aER aFj (k:=(h,p)) (aES.2 ⟨hh,hp⟩)).trans ?_;refine dF fun k _=>?_
 unfold sV;grind
end
variable {h:Int}
theorem UI (n:Nat) (ps:List Pas) (L:Land) (hh:1<=h/\h<=99):D its (n+1) dK [.ref (cS ps L),ci h]=some [cb (L.th h)]:=by
 rw [wT];simp only [nM,lc1,vK];exact congrArg (fun b=>some [cb b]) (aBG hh)
theorem aFl (n:Nat) (ps:List Pas) (L:Land) (x:Dd) (h1:1<=x.ho/\x.ho<=99) (h2:1<=x.tt/\x.tt<=99):D its (n+2) eW (.ref (cS ps L)::x.cv)=some [cb (L.th x.ho&&L.th x.tt)]:=by
 show D its (n+2) eW [.ref (cS ps L),ci x.m,ci x.no,ci x.kind,ci x.day,ci x.kn,ci x.ho,ci x.tt,ci x.ow,ci x.pa,ci x.pt,ci x.un,ci x.om,ci x.on]=_;grind [yK,pC,UI,aC,fK,aL0,iY]
theorem aC3 (q:Dd->Bool) (y:Dd) (l:List Dd):fU q (l++[y])=fU q l+(if q y then y.pt else 0):=by
 unfold fU;rw [List.filter_append,List.map_append,jX];grind [cH]
theorem RH {q:Dd->Bool} {l:List Dd} {i:Nat} (hi:i<l.length):fU q (l.take (i+1))=fU q (l.take i)+(if q l[i] then l[i].pt else 0):=by
 rw [cK hi,aC3]
theorem aBI {q:Dd->Bool} {l:List Dd} (h:∀ y∈l,1<=y.pt/\y.pt<=100000) (i:Nat):0<=fU q (l.take i)/\fU q (l.take i)<=100000*l.length:=by
 have:=lN (q:=q) (l:=l.take i) fun y hy=>h y (List.mem_of_mem_take hy)
 grind
variable {N:Nat} {p:Int}
theorem aAB (n:Nat) (ps:List Pas) {L:Land} (hI:Inv N L) (hN:N<=1000000) (day:Int) (hh:1<=h/\h<=99) (hp:1<=p/\p<=99) :
  D its (n+1) eV [.ref (cS ps L),ci h,ci p,ci day]=some [ci (L.free h p day)]:=by
 rw [yI];unfold pA;have g0:=hI.g0 h p;have g1:=hI.gle p hh;have hl:=hI.ll;simp [vL hh hp];rw [bZ L.lets.length (fun i=>[ci (L.g h p - fU (jB h p day) (L.lets.take i)),ci (i:Int)]) (some (.br 0 [ci (L.free h p day)])) ?hv (fun i hi=>?hs) ?he (by simp)]
 case hv=>simp [fU,cH]
 case he=>simp [Land.free]
 case hs =>
  have hb:=aBI (q:=jB h p day) hI.lok i;have hy:=hI.lok _ (List.getElem_mem hi);simp [aG hi,aM hi,RH hi];grind [bJ,jB]
 simp
theorem aIp (n:Nat) (ps:List Pas) {L:Land} (hI:Inv N L) (hN:N<=1000000) (day:Int) (hh:1<=h/\h<=99) (hp:1<=p/\p<=99) :
  D its (n+2) gV [.ref (cS ps L),ci h,ci p,ci day]=some [ci (L.use h p day)]:=by
 rw [zV];unfold pR;have g0:=hI.g0 h p;have g1:=hI.gle p hh;have hl:=hI.ll;have qt:=lN (q:=jB h p day) hI.lok;simp [aAB n ps hI hN day hh hp];rw [bZ L.lets.length (fun i=>[ci (L.free h p day+fU (toQ h p day) (L.lets.take i)),ci (i:Int)]) (some (.br 0 [ci (L.use h p day)])) ?hv (fun i hi=>?hs) ?he (by simp)]
 case hv=>simp [fU,cH]
 case he=>simp [Land.use]
 case hs =>
  have hb:=aBI (q:=toQ h p day) hI.lok i;have hy:=hI.lok _ (List.getElem_mem hi);have hf:L.free h p day=L.g h p - fU (jB h p day) L.lets:=rfl;simp [aG hi,aM hi,RH hi];grind [bJ,toQ]
 simp
theorem vM {A B:Type} (f:A->B):∀ {T:List A} {l:List B},l.Perm (T.map f)->∃ T':List A,T'.Perm T/\l=T'.map f
 | [],l,h=>by
  simp_all
 | a::T,l,h=>by
  have hm:f a∈l:=h.symm.subset (by simp)
  obtain ⟨u,v,rfl⟩:=List.append_of_mem hm
  have h2:(u++v).Perm (T.map f):=by
   have:=List.perm_middle.symm.trans h;simp_all
  obtain ⟨T',h3,h4⟩:=vM f h2;obtain ⟨u',v',rfl,rfl,rfl⟩:=List.append_eq_map_iff.1 h4;refine ⟨u'++a::v',?_,by simp⟩
  exact List.perm_middle.trans (h3.cons a)
def OW (p:Int) (l:List (List CV)):Int:=cH (l.map fun e=>if gi e 1=p then gi e 2 else 0)
theorem aHA (L:Land) (hp:1<=p/\p<=99):OW p (rtR L)=L.tot p:=by
 have key:∀ (ks:List (Int×Int)),OW p (bR k2 ks fun k=>(L.rt k).map ci)=fA ks fun k=>if k.2=p then L.g k.1 k.2 else 0:=by
  intro ks
  induction ks with
  | nil=>rfl
  | cons k ks ih =>
   rw [iK];unfold OW at ih ⊢;rw [List.map_append,jX,ih];unfold fA;simp;obtain ⟨a,b⟩:=k;unfold Land.g;cases L.rt (a,b) with
   | none=>simp [cH]
   | some v =>
    simp [cH,k2,gi,cI,ci]
 unfold rtR;rw [key]
 have h2:∀ (xs:List Int),fA (xs.flatMap fun x=>(upto 1 99).map fun y=>(x,y)) (fun k=>if k.2=p then L.g k.1 k.2 else 0)=fA xs fun x=>L.g x p:=by
  intro xs
  induction xs with
  | nil=>rfl
  | cons x xs ih =>
   unfold fA at ih ⊢;rw [List.flatMap_cons,List.map_append,jX,ih];simp;congr 1
   have e:(List.map ((fun k:Int×Int=>if k.2=p then L.g k.1 k.2 else 0)∘fun y=>(x,y)) (upto 1 99))=(upto 1 99).map (fun y=>if y=p then L.g x p else (fun _=>(0:Int)) y):=by
    simp_all
   have:=mO (ks:=upto 1 99) (fun _=>(0:Int)) (k:=p) (L.g x p) (aBp 1 99) (LO.2 hp)
   unfold fA at this
   have z:∀ (l:List Int),cH (l.map fun _=>(0:Int))=0:=by
    intro l
    induction l with
    | nil=>rfl
    | cons a l ih=>grind [cH]
   grind
 exact h2 jR
theorem aBJ (n:Nat) (ps:List Pas) {L:Land} (hI:Inv N L) (hp:1<=p/\p<=99) :
  D its (n+1) fY [.ref (cS ps L),ci p]=some [ci (L.tot p)]:=by
 rw [wQ];unfold nJ
 have Ir:∀ e∈rtR L,0<=(if gi e 1=p then gi e 2 else 0):=by
  intro e he;unfold rtR bR at he;rw [List.mem_filterMap] at he;obtain ⟨k,_,hk⟩:=he;simp at hk;obtain ⟨v,hv,rfl⟩:=hk;have:=hI.nn _ _ hv;show 0<=(if k.2=p then v else 0)
  omega
 have fold:∀ (l:List (List CV)) (a:Int),0<=a->(∀ e∈l,0<=(if gi e 1=p then gi e 2 else 0))->a+OW p l<=1000000 ->
   gU 1 (fun x1 v1=>aN (aA ((gi x1 1) == p) (some (.nx [ci (wr ((gi v1 0)+(gi x1 2)))])) (some (.nx [ci (gi v1 0)]))) fun v2=>some (.nx [ci (gi v2 0)])) l [ci a]=some [ci (a+OW p l)]:=by
  intro l
  induction l with
  | nil=>grind [gU,OW,cH]
  | cons e l ih =>
   intro a h0 hl hs;have he:=hl e (by simp)
   have hr:0<=OW p l:=lW fun x hx=>by
    grind
   have Nh:OW p (e::l)=(if gi e 1=p then gi e 2 else 0)+OW p l:=rfl
   have gg:xL 1 (aN (aA ((gi e 1) == p) (some (.nx [ci (wr ((gi [ci a] 0)+(gi e 2)))])) (some (.nx [ci (gi [ci a] 0)]))) fun v2=>some (.nx [ci (gi v2 0)]))=some [ci (a+(if gi e 1=p then gi e 2 else 0))]:=by
    by_cases hq:gi e 1=p
    ·simp [hq,bJ (show -9223372036854775808<=a+gi e 2 by omega) (by omega),xL]
    ·simp [hq,xL]
   grind [gU]
 have:OJ (rtR L) (fun p0 l0=>aB (gU 1 (fun x1 v1=>aN (aA ((gi x1 1) == p) (some (.nx [ci (wr ((gi v1 0)+(gi x1 2)))])) (some (.nx [ci (gi v1 0)]))) fun v2=>some (.nx [ci (gi v2 0)])) l0 [ci 0]) fun v1=>some (.ret [ci (gi v1 0)]))=some (.ret [ci (L.tot p)]):=by
  rw [zH];intro _ l hl
  have hs:OW p l=L.tot p:=by
   rw [<- aHA L hp];exact QT (hl.map _)
  rw [fold l 0 (by omega) (fun e he=>Ir e (hl.subset he)) (by have:=hI.tb p;omega)]
  simp [hs]
 simp_all
end Go.Proofs.YtfgdfpnkhdlmfaaGreat
namespace Go.Proofs.YtfgdfpnkhdlmfaaGreat
open Go Go.Sx Go.Stint
set_option maxRecDepth 10000
variable {its:ITS}
theorem JK {M:Den} {f:FuncId} {caps:List CV} {rows:List (List CV)} {sh:YSh} (hs:sg f=none) (h:M f caps=some [.row 0 rows,shC sh]):IC sg M (.fn f caps) sh=some rows:=by
 grind [IC]
theorem aLf:sg 170=none:=rfl
theorem aIq:sg 180=none:=rfl
theorem aLg:sg 184=none:=rfl
abbrev shD:YSh:=.clo [.agg liA]
abbrev shB:YSh:=.clo [.one li,.agg liA]
def bD (e:Nat×Dd):List CV:=ci (e.1:Int)::e.2.cv
def bB (e:Nat×By):List CV:=ci (e.1:Int)::e.2.cv
structure ItsS (its:ITS):Prop extends ItsJ its where
 backD:∀ n (l:List Dd),l.length<=1000000->D its (n+1) 180 [.ref [.row 13 (l.map Dd.cv)]]=some [.row 0 ((eM l).map bD),shC shB]
 backB:∀ n (l:List By),l.length<=1000000->D its (n+1) 184 [.ref [.row 13 (l.map By.cv)]]=some [.row 0 ((eM l).map bB),shC shB]
 done:∀ n (c:Cm) (day k:Int),c.ps.length<=1000->c.bl.length<=1000->c.ds.length<=60->(∀ x∈c.ds,x.ok=true)->D its (n+1) 170 [.ref c.rs,.ref [ci day,ci k]]=some [.row 0 ((gE c.ds day k).map Dd.cv),shC shD]
 nlay:mM 1000000069 its=none
 sort:∀ n (l:List Int),l.length<1000000->D its (n+1) jQ [.row 1 (ints l),.fn 3 []]=some [.row 1 (ints (WW l)),.val (.bool false)]
theorem MX (n:Nat) (l:List (List CV)):D its (n+1) iP [.row 13 l]=some [.fn 180 [.ref [.row 13 l]]]:=by
 rfl
theorem XT (n:Nat) (l:List (List CV)):D its (n+1) lF [.row 13 l]=some [.fn 184 [.ref [.row 13 l]]]:=by
 rfl
theorem MY (hI:ItsS its) (n:Nat) (ps:List Pas) (L:Land) (p:Pas) (day:Int) (hg:L.gates.length<=1000000) :
  D its (n+2) eE [.ref (cS ps L),ci p.id,ci p.lo,ci p.hi,ci day]=some [cb (L.open p day)]:=by
 rw [vH];unfold mW;simp only [lc5,MX,aC,List.getD_cons_zero,JK aIq (hI.backD n L.gates hg),kK];rw [xR bD (fun e=>WX p.id day e.2) (fun e=>.ret [cb (decide (e.2.kind=7))]) [cb false] (by simp) (fun e he=>?h1) (fun e he=>?h2)]
 case h1 =>
  have ib:(decide (e.2.pa=p.id)&&decide (day<=e.2.un))=false:=he;have q1:gi (bD e) 9=e.2.pa:=rfl;have q2:gi (bD e) 11=e.2.un:=rfl;simp_all
 case h2 =>
  have ib:(decide (e.2.pa=p.id)&&decide (day<=e.2.un))=true:=he;have q1:gi (bD e) 9=e.2.pa:=rfl;have q2:gi (bD e) 11=e.2.un:=rfl;have q3:gi (bD e) 3=e.2.kind:=rfl;simp_all
 unfold Land.open;rw [<- QU,List.find?_map];rw [show (WX p.id day∘fun x:Nat×Dd=>x.2)=fun e=>WX p.id day e.2 from rfl]
 cases (eM L.gates).find? (fun e=>WX p.id day e.2) with
 | some e=>rfl
 | none =>
  simp [brO,vA]
def aHB (L:Land):List (Int×Int):=jR.filterMap fun h=>(L.own h).map fun o=>(h,o)
theorem aHC (L:Land):Stint.BH L=(aHB L).map fun e=>[ci e.1,ci e.2]:=by
 unfold Stint.BH bR aHB;rw [List.map_filterMap];congr 1;funext h;show Option.map _ (Option.map ci (L.own h))=_;cases L.own h <;> rfl
theorem XU (L:Land):(aHB L).map (·.1)=L.hold:=by
 unfold aHB Land.hold;generalize jR=l
 induction l with
 | nil=>rfl
 | cons h l ih =>
  rw [List.filterMap_cons,List.filter_cons];unfold Land.th at ih ⊢;cases L.own h with
  | none=>grind
  | some o=>grind
theorem aHD (L:Land):L.hold.Pairwise fun a b=>lt1 a b=true:=aBF.sublist List.filter_sublist
theorem pD (L:Land):L.hold.length<=99:=by
 have:=List.length_filter_le L.th jR;have e:jR.length=99:=by rfl
 unfold Land.hold;omega
theorem XV (hI:ItsS its) (n:Nat) (L:Land) :
  OJ (Stint.BH L) (fun _ l0=>aB (gU 1 (fun x1 v1=>chk (cJ (List.length (gr v1 0)) 1 8)<|some (.nx ([CV.row 1 ((gr v1 0)++(aS 1 1 [ci (gi x1 0)]))]))) l0 ([CV.row 1 []])) fun v1=>aB (D its (n+1) jQ ([CV.row 1 (gr v1 0),CV.fn 3 []])) fun v2=>chk (pG 1 false v2)<|some (.ret [CV.row 1 (gr v2 0)]))
   = some (.ret [.row 1 (ints L.hold)]):=by
 rw [zH];intro _ l hl;rw [aHC] at hl;obtain ⟨T,hT,rfl⟩:=vM _ hl
 have aj:T.length<=99:=by
  have:=hT.length_eq;have h2:=congrArg List.length (XU L);rw [List.length_map] at h2;have:=pD L;omega
 have fold:∀ (T:List (Int×Int)) (a:List Int),a.length+T.length<=99->gU 1 (fun x1 v1=>chk (cJ (List.length (gr v1 0)) 1 8)<|some (.nx ([CV.row 1 ((gr v1 0)++(aS 1 1 [ci (gi x1 0)]))]))) (T.map fun e=>[ci e.1,ci e.2]) [CV.row 1 (ints a)]=some [.row 1 (ints (a++T.map (·.1)))]:=by
  intro T
  induction T with
  | nil=>grind [gU]
  | cons e T ih =>
   intro a ha;rw [List.map_cons,gU];have hf:cJ (List.length (gr [CV.row 1 (ints a)] 0)) 1 8=true:=dE (by simp [ints];omega) (by simp [ints];omega)
   have ak:xL 1 (chk (cJ (List.length (gr [CV.row 1 (ints a)] 0)) 1 8) (some (.nx ([CV.row 1 ((gr [CV.row 1 (ints a)] 0)++(aS 1 1 [ci (gi [ci e.1,ci e.2] 0)]))]))))=some [.row 1 (ints (a++[e.1]))]:=by
    simp_all [xL,ints]
   grind
 have h0:=fold T [] (by grind)
 rw [show ([CV.row 1 (ints ([]:List Int))]:List CV)=[CV.row 1 []] from rfl] at h0;rw [h0];simp;rw [hI.sort n _ (by grind)]
 have hs:WW (T.map (·.1))=L.hold:=aET (by grind [XU]) (aHD L)
 rw [hs];rfl
theorem aAC (hI:ItsS its) (n:Nat) (ps:List Pas) (L:Land):D its (n+2) gT [.ref (cS ps L)]=some [.row 1 (ints L.hold)]:=by
 rw [sW];unfold lG;simp only [lo1,lc1,vK,aJ,XV hI n L,iY]
theorem aIr (n:Nat) (ps:List Pas) (L:Land) {h:Int} (o:Int) (hh:1<=h/\h<=99):D its (n+1) eP [ci h,.ref [.ref (cS ps L)],.ref [ci o]]=some [cb (!decide ((L.own h).getD 0=o))]:=by
 rw [sX];unfold lH;rw [show oks [.raw] [CV.ref (cS ps L)] 0=true from rfl,show oks [li] [ci o] 0=true from rfl];simp only [aJ,List.getD_cons_zero,MQ,BT,lo1,lc1,vK,XS hh,aEM,aQ,mN,iY]
theorem aBK (hI:ItsS its) (n:Nat) (ps:List Pas) (L:Land) (o:Int):D its (n+3) gA [.ref (cS ps L),ci o]=some [.row 1 (ints (L.owned o))]:=by
 rw [wO];unfold nH;simp only [lc1,vK,XV hI (n+1) L];have an:∀ h∈L.hold,1<=h/\h<=99:=fun h hh=>lX.1 (List.mem_filter.1 hh).1
 have aj:=pD L
 have Hn:=aHo 1 (fun x:Int=>[ci x]) [ci 0] (fun _=>rfl) (fun _=>rfl) (fun _=>rfl) (fun h=>!decide ((L.own h).getD 0=o)) L.hold (by omega)
  (ix:=D its (n+2) eF ([CV.row 1 (ints L.hold),CV.fn 164 ([CV.ref [CV.ref (cS ps L)],CV.ref [ci o]])]))
  (call:=fun x=>D its (n+2) eP (x++[CV.ref [CV.ref (cS ps L)],CV.ref [ci o]]))
  (wH (n+1) L.hold _ _ (by omega) fun h hh=>by exact aIr n ps L o (an h hh))
  (fun h hh=>aIr (n+1) ps L o (an h hh))
 refine (congrArg (fun r=>aV (gQ r fun v1=>some (.ret [CV.row 1 (gr v1 0)]))) Hn).trans ?_
 simp [Land.owned,ints]
theorem oB {N:Nat} {L:Land} (hI:Inv N L) (hN:N<=1000000) {h:Int} (p day:Int) (hh:1<=h/\h<=99):-100000000000<=L.use h p day/\L.use h p day<=100000001000000:=by
 have g0:=hI.g0 h p;have g1:=hI.gle p hh;have hl:=hI.ll;have h1:=lN (q:=jB h p day) hI.lok;have h2:=lN (q:=toQ h p day) hI.lok;unfold Land.use Land.free;omega
theorem qD (l:List Int) (a:Int):cH (l++[a])=cH l+a:=by simp [jX,cH]
theorem fV {lo hi:Int} (h0:lo<=0) (h1:0<=hi):∀ {l:List Int},(∀ x∈l,lo<=x/\x<=hi)->lo*l.length<=cH l/\cH l<=hi*l.length
 | [],_=>by simp [cH]
 | x::l,h=>by
  have:=h x (by simp)
  have ih:=fV h0 h1 (l:=l) fun y hy=>h y (by grind)
  have e:((x::l).length:Int)=l.length+1:=by simp
  rw [e,Int.mul_add,Int.mul_add];grind [cH]
theorem aFm {N:Nat} (hS:ItsS its) (n:Nat) (ps:List Pas) {L:Land} (hI:Inv N L) (hN:N<=1000000) (o:Int) {p:Int} (day:Int) (hp:1<=p/\p<=99) :
  D its (n+4) gN [.ref (cS ps L),ci o,ci p,ci day]=some [ci (L.uses o p day)]:=by
 rw [yG];unfold oZ;have an:∀ h∈L.owned o,1<=h/\h<=99:=fun h hh=>lX.1 (List.mem_filter.1 (List.mem_filter.1 hh).1).1
 have aj:(L.owned o).length<=99:=Nat.le_trans (List.length_filter_le _ _) (pD L);simp [aBK hS n ps L o];rw [bZ (L.owned o).length (fun i=>[ci (cH (((L.owned o).take i).map fun h=>L.use h p day)),ci (i:Int)]) (some (.br 0 [ci (L.uses o p day)])) ?hv (fun i hi=>?hs) ?he (by simp)]
 case hv=>rfl
 case he=>simp [Land.uses]
 case hs =>
  have hb:=fV (lo:=-100000000000) (hi:=100000001000000) (by omega) (by omega) (l:=((L.owned o).take i).map fun h=>L.use h p day) fun x hx=>by
   obtain ⟨h,hh,rfl⟩:=List.mem_map.1 hx;exact oB hI hN p day (an h (List.mem_of_mem_take hh))
  rw [List.length_map,List.length_take] at hb;have hu:=oB hI hN p day (an _ (List.getElem_mem hi));simp only [aQ,eL,Int.ofNat_lt,hi,if_true,kF hi,mZ hi,QO,aIn,aIm,Bool.and_self,aJ,aIp (n+1) ps hI hN day (an _ (List.getElem_mem hi)) hp,aC,bG (show i<9223372036854775807 by omega)]
  rw [cK hi,List.map_append,List.map_singleton,qD,bJ (by omega) (by omega)]
 simp
end Go.Proofs.YtfgdfpnkhdlmfaaGreat
namespace Go.Proofs.YtfgdfpnkhdlmfaaGreat
open Go Go.Sx Go.Stint
set_option maxRecDepth 10000
variable {its:ITS}
def gs:List (Int×Int):=pairs 0 5 0 9999
theorem aIs:gs.Nodup:=WV _ _ _ _
theorem aLh:gs.Pairwise fun a b=>lt2 a b=true:=LU _ _ _ _
theorem aIt {k:Int×Int}:k∈gs↔(0<=k.1/\k.1<=5)/\0<=k.2/\k.2<=9999:=QS
def MZ (g:Int×Int->Bool):List (List CV):=bR k2 gs fun k=>if g k then some (cb true) else none
theorem aHE (g:Int×Int->Bool):dX [(.int .i64),(.int .i64)] .bool (MZ g)=true:=LS _ _ (fun _=>rfl) (fun k d h=>by split at h <;> cases h;rfl) _
theorem aC4 (g:Int×Int->Bool) {a b:Int} (h:(a,b)∈gs):aH 2 [ci a,ci b] (.bool false) (MZ g)=cb (g (a,b)):=by
 have:=CY aER aIs (f:=fun k=>if g k then some (cb true) else none) h (.bool false)
 refine this.trans ?_;cases g (a,b) <;> rfl
theorem aFn (g:Int×Int->Bool) {a b:Int} (h:(a,b)∈gs):bV 2 [ci a,ci b] (cb true) (MZ g)=MZ fun q=>decide (q=(a,b)) || g q:=by
 refine (LQ aER aLh aIs h (cb true)).trans ?_;refine dF fun k _=>?_
 unfold sV;grind
theorem aLi:MZ (fun _=>false)=[]:=by
 unfold MZ bR;simp
theorem aJe {x:Dd} (h:x.ok=true):(x.m,x.no)∈gs:=by
 have:=Dd.ok_item h;simp [within] at this;exact aIt.2 this
theorem aLj {x:Dd} (h:x.ok=true) (h0:x.kind=0):(x.om,x.on)∈gs:=by
 simp [Dd.ok,if_pos h0,pI,within] at h;exact aIt.2 h.2.1.1.2
def sE (s:(Int×Int->Bool)×List Int):List CV:=[.row 3 (MZ s.1),.row 1 (ints s.2)]
theorem qE {A:Type} (l:List A):(eM l).length=l.length:=by simp [eM]
theorem RI {A:Type} {l:List A} {e:Nat×A} (h:e∈eM l):∃ hi:e.1<l.length,l[e.1]=e.2:=by
 unfold eM at h;grind
theorem HP (hI:∀ n (l:List Dd),l.length<=1000000->D its (n+1) 180 [.ref [.row 13 (l.map Dd.cv)]]=some [.row 0 ((eM l).map bD),shC shB]) (n:Nat) (a b:List (List CV)) (ds:List Dd) (k:Int) (hd:ds.length<=1000) (aa:∀ x∈ds,x.ok=true) :
  D its (n+2) kM [.row 3 a,.row 13 b,.row 13 (ds.map Dd.cv),ci k]=some [.row 1 (ints (dV ds k))]:=by
 rw [FY];unfold uA;simp only [MX,aC,List.getD_cons_zero,JK aIq (hI n ds (by omega)),kK]
 rw [show ([CV.row 3 [],CV.row 1 []]:List CV)=sE (fun _=>false,[]) by rw [sE,aLi];rfl]
 rw [xS bD sE (dN k) (fun s l=>s.2.length+l.length<=1000/\∀ e∈l,e.2.ok=true) (fun s e l hI=>?hs) (eM ds) _ ?hi]
 case hi =>
  refine ⟨by grind [qE],fun e he=>?_⟩
  obtain ⟨hi,h2⟩:=RI he;grind
 case hs =>
  obtain ⟨g,out⟩:=s;obtain ⟨i,x⟩:=e;obtain ⟨h1,h2⟩:=hI;have hx:=h2 (i,x) (by simp)
  have hm:=aJe hx;simp at h1;have q1:gi (bD (i,x)) 1=x.m:=rfl;have q2:gi (bD (i,x)) 2=x.no:=rfl;have q3:gi (bD (i,x)) 3=x.kind:=rfl;have q5:gi (bD (i,x)) 5=x.kn:=rfl;have q12:gi (bD (i,x)) 12=x.om:=rfl;have q13:gi (bD (i,x)) 13=x.on:=rfl;have q0:gi (bD (i,x)) 0=(i:Int):=rfl;have hf:cJ (List.length (ints out)) 1 8=true:=dE (by grind [ints]) (by grind [ints])
  simp only [sE,bW,dZ,q0,q1,q2,q3,q5,q12,q13,aHE,aC4 g hm,hf]
  by_cases hc:k<x.kn\/g (x.m,x.no)=true
  ·refine ⟨?_,?_⟩
   ·simp_all [dN]
   ·refine ⟨?_,fun e he=>h2 e (by grind)⟩
    simp [dN,if_pos hc];omega
  ·refine ⟨?_,?_⟩
   ·by_cases h0:x.kind=0
    ·simp [dN,hc,h0,aFn g (aLj hx h0),ints]
    ·simp [dN,hc,h0,ints]
   ·refine ⟨?_,fun e he=>h2 e (by grind)⟩
    simp [dN,if_neg hc];omega
 generalize hF:(eM ds).foldl (dN k) (fun _=>false,[])=F
 have Pk:F.2.length<=1000:=by
  have:∀ (l:List (Nat×Dd)) (s:(Int×Int->Bool)×List Int),(l.foldl (dN k) s).2.length<=s.2.length+l.length:=by
   intro l
   induction l with
   | nil=>simp
   | cons e l ih =>
    intro s
    have h2:(dN k s e).2.length<=s.2.length+1:=by
     unfold dN;grind
    grind
  grind [qE]
 simp only [brO,bC,sE,dZ,bW];rw [bJ (x:=il (ints F.2) - 1) (by simp;omega) (by simp;omega)]
 have Ni:=WY (b:=0) (step:=fun v2=>aA (decide ((gi v2 0)<(gi v2 1))) (chk (inb (gi v2 1) (gr v2 2))<|chk (decide ((Int.toNat (gi v2 1))<(List.length (gr v2 2))))<|chk (oks [li] (el (gr v2 2) (gi v2 1)) 0)<|chk (inb (gi v2 0) (gr v2 2))<|chk (decide ((Int.toNat (gi v2 0))<(List.length (gr v2 2))))<|chk (oks [li] (el (gr v2 2) (gi v2 0)) 0)<|chk (inb (gi v2 0) (gr v2 2))<|chk ((decide ((Int.toNat (gi v2 0))<(List.length (gr v2 2))))&&(decide (1<=1)))<|chk (inb (gi v2 1) (List.set (gr v2 2) (Int.toNat (gi v2 0)) (spl (el (gr v2 2) (gi v2 0)) 0 [ci (gi (el (gr v2 2) (gi v2 1)) 0)])))<|chk ((decide ((Int.toNat (gi v2 1))<(List.length (List.set (gr v2 2) (Int.toNat (gi v2 0)) (spl (el (gr v2 2) (gi v2 0)) 0 [ci (gi (el (gr v2 2) (gi v2 1)) 0)])))))&&(decide (1<=1)))<|some (.nx ([ci (wr ((gi v2 0)+1)),ci (wr ((gi v2 1) - 1)),CV.row 1 (List.set (List.set (gr v2 2) (Int.toNat (gi v2 0)) (spl (el (gr v2 2) (gi v2 0)) 0 [ci (gi (el (gr v2 2) (gi v2 1)) 0)])) (Int.toNat (gi v2 1)) (spl (el (List.set (gr v2 2) (Int.toNat (gi v2 0)) (spl (el (gr v2 2) (gi v2 0)) 0 [ci (gi (el (gr v2 2) (gi v2 1)) 0)])) (gi v2 1)) 0 [ci (gi (el (gr v2 2) (gi v2 0)) 0)]))]))) (some (.br 0 [CV.row 1 (gr v2 2)]))) ?hs ?he F.2.length [] F.2 [] (Nat.le_refl _) (by grind)
 case he =>
  intro i j es gp;simp [show ¬i<j by omega]
 case hs =>
  intro A a M c B hl;simp at hl;have aj:(A++a::(M++c::B)).length=A.length+(M.length+(B.length+1)+1):=by simp
  have hi:A.length<(A++a::(M++c::B)).length:=by omega
  have hj:A.length+M.length+1<(A++a::(M++c::B)).length:=by omega
  have ga:(A++a::(M++c::B))[A.length]=a:=by simp
  have gc:(A++a::(M++c::B))[A.length+M.length+1]=c:=by
   grind
  have pf:((A++a::(M++c::B)).set A.length c).set (A.length+M.length+1) a=A++c::(M++a::B):=by
   grind
  have hlt:(A.length:Int)<((A.length+M.length+1:Nat):Int):=by omega
  generalize A++a::(M++c::B)=l at hi hj ga gc pf aj;have bv:inb ((A.length:Nat):Int) (l.map fun x=>[ci x])=true:=aG hi
  have jb:inb ((A.length+M.length+1:Nat):Int) (l.map fun x=>[ci x])=true:=aG hj
  have Nj:el (l.map fun x=>[ci x]) ((A.length:Nat):Int)=[ci a]:=by grind [aM]
  have Jq:el (l.map fun x=>[ci x]) ((A.length+M.length+1:Nat):Int)=[ci c]:=by rw [aM hj,gc]
  have lx:∀ y z:Int,spl [ci y] 0 [ci z]=[ci z]:=fun _ _=>rfl
  have ak:List.set (l.map fun x=>[ci x]) A.length [ci c]=(l.set A.length c).map fun x=>[ci x]:=by simp
  have Jr:A.length+M.length+1<(l.set A.length c).length:=by grind
  have Ak:inb ((A.length+M.length+1:Nat):Int) ((l.set A.length c).map fun x=>[ci x])=true:=aG Jr
  have yk:el ((l.set A.length c).map fun x=>[ci x]) ((A.length+M.length+1:Nat):Int)=[ci (l.set A.length c)[A.length+M.length+1]]:=aM Jr
  have w1:wr ((A.length:Int)+1)=((A.length+1:Nat):Int):=bG (by omega)
  have w2:wr (((A.length+M.length+1:Nat):Int) - 1)=((A.length+M.length:Nat):Int):=by grind [bJ]
  simp only [aQ,eL,bW,dZ,decide_true,rU,bv,jb,Nj,Jq,Int.toNat_natCast,List.length_map,hi,hj,QO,aIn,aIm,Bool.and_self,aJ,lx,ak,Ak,List.length_set,Nat.le_refl];grind [List.map_set]
 simp_all [dV,ints]
end Go.Proofs.YtfgdfpnkhdlmfaaGreat
