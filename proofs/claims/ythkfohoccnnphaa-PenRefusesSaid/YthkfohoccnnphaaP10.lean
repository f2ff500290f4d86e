/-
 The law PenRefuses of the pens of a pound holds at every input, without any condition.
-/
import Derived.KernelRfl
import Derived.Test.YthkfohoccnnphaaP09
namespace Go.Proofs.Ythkfohoccnnphaa
open Go Go.Sx
set_option maxRecDepth 100000
set_option maxHeartbeats 0
noncomputable section
def aCH (q:Int) (v6:List CV):List CV:=[ci (wr ((gi v6 0)+1)),ci (if (decide (0=(0+((Int.toNat q)*1))))=true then wr ((gi (cis v6 1 10) (0+((Int.toNat q)*1)))+1) else gi v6 1),ci (if (decide (1=(0+((Int.toNat q)*1))))=true then wr ((gi (cis v6 1 10) (0+((Int.toNat q)*1)))+1) else gi v6 2),ci (if (decide (2=(0+((Int.toNat q)*1))))=true then wr ((gi (cis v6 1 10) (0+((Int.toNat q)*1)))+1) else gi v6 3),ci (if (decide (3=(0+((Int.toNat q)*1))))=true then wr ((gi (cis v6 1 10) (0+((Int.toNat q)*1)))+1) else gi v6 4),ci (if (decide (4=(0+((Int.toNat q)*1))))=true then wr ((gi (cis v6 1 10) (0+((Int.toNat q)*1)))+1) else gi v6 5),ci (if (decide (5=(0+((Int.toNat q)*1))))=true then wr ((gi (cis v6 1 10) (0+((Int.toNat q)*1)))+1) else gi v6 6),ci (if (decide (6=(0+((Int.toNat q)*1))))=true then wr ((gi (cis v6 1 10) (0+((Int.toNat q)*1)))+1) else gi v6 7),ci (if (decide (7=(0+((Int.toNat q)*1))))=true then wr ((gi (cis v6 1 10) (0+((Int.toNat q)*1)))+1) else gi v6 8),ci (if (decide (8=(0+((Int.toNat q)*1))))=true then wr ((gi (cis v6 1 10) (0+((Int.toNat q)*1)))+1) else gi v6 9),ci (if (decide (9=(0+((Int.toNat q)*1))))=true then wr ((gi (cis v6 1 10) (0+((Int.toNat q)*1)))+1) else gi v6 10)]
def nO (es:List (List CV)):List CV→Option Ou:=fun v6=>aB (decide ((gi v6 0)<(il es))) (chk (inb (gi v6 0) es)<|chk (oks [li] (el es (gi v6 0)) 0)<|chk ((decide (0≤(gi (el es (gi v6 0)) 0)))&&(decide ((gi (el es (gi v6 0)) 0)<(Int.ofNat 10))))<|chk (oks [li] (cis v6 1 10) (0+((Int.toNat (gi (el es (gi v6 0)) 0))*1)))<|chk ((decide (0≤(gi (el es (gi v6 0)) 0)))&&(decide ((gi (el es (gi v6 0)) 0)<(Int.ofNat 10))))<|chk (oks [li] (cis v6 1 10) (0+((Int.toNat (gi (el es (gi v6 0)) 0))*1)))<|some (.nx (aCH (gi (el es (gi v6 0)) 0) v6))) (some (.br 0 (cis v6 1 10)))
def SL (p:List CV) (a1 es:List (List CV)):List CV→Option Ou:=fun v4=>aB (decide ((gi v4 0)<(il (gr (List.drop 0 (List.drop 0 p)) 0)))) (chk (inb (gi v4 0) (gr (List.drop 0 (List.drop 0 p)) 0))<|chk (oks [li] (el (gr (List.drop 0 (List.drop 0 p)) 0) (gi v4 0)) 0)<|eW (chk (inb 0 es)<|chk (oks [li] (List.getD es 0 []) 0)<|chk (inb (gi (List.getD es 0 []) 0) a1)<|chk (oks [li] (el a1 (gi (List.getD es 0 []) 0)) 0)<|chk ((decide (0≤(gi (el a1 (gi (List.getD es 0 []) 0)) 0)))&&(decide ((gi (el a1 (gi (List.getD es 0 []) 0)) 0)<(Int.ofNat 10))))<|chk (oks [li] (List.drop 1 (List.drop ((Int.toNat (gi (el a1 (gi (List.getD es 0 []) 0)) 0))*4) (List.drop 2 p))) 0)<|some (.ret ([cb (decide ((gi (List.drop 1 (List.drop ((Int.toNat (gi (el a1 (gi (List.getD es 0 []) 0)) 0))*4) (List.drop 2 p))) 0)≤(gi (el (gr (List.drop 0 (List.drop 0 p)) 0) (gi v4 0)) 0)))]))) fun v5=>aB (gb v5 0) (some (.ret [ci (gi v4 0)])) (some (.nx [ci (wr ((gi v4 0)+1))]))) (some (.br 0 []))
def aBD (f:Bool→List CV) (p:List CV) (a1 es:List (List CV)):Option Ou:=aB ((il es) == 1) (chk (oks [.row 1] (List.drop 0 (List.drop 0 p)) 0)<|eW (eW (bO 0 (aJ (SL p a1 es) [ci 0]) fun v4=>some (.ret [ci (-1)])) fun v4=>some (.ret [cb (decide ((gi v4 0)≥0))])) fun v4=>some (.ret (f (!(gb v4 0))))) (some (.ret (f false)))
abbrev aEV:=aBD fun b=>[cb b]
def yC (p:List CV) (a1:List (List CV)):List CV→List CV→Option Ou:=fun x3 v3=>eW (aEV p a1 (gr x3 0)) fun v4=>aB (gb v4 0) (some (.ret [ci 1,CV.row 1 (gr x3 0),ci 0])) (some (.nx [ci (gi v3 0),CV.row 1 (gr v3 1),ci (gi v3 2)]))
def SM (p:List CV):List CV→Option Ou:=fun v5=>aB (decide ((gi v5 1)<(il (gr (List.drop 0 (List.drop 0 p)) 0)))) (chk (inb (gi v5 1) (gr (List.drop 0 (List.drop 0 p)) 0))<|chk (oks [li] (el (gr (List.drop 0 (List.drop 0 p)) 0) (gi v5 1)) 0)<|some (.nx [ci (wr ((gi v5 0)+(gi (el (gr (List.drop 0 (List.drop 0 p)) 0) (gi v5 1)) 0))),ci (wr ((gi v5 1)+1))])) (some (.br 0 [ci (gi v5 0)]))
def SN (f:Bool→List CV) (M:Den) (p:List CV) (a1 es:List (List CV)):Option Ou:=chk (oks [.row 1] (List.drop 0 (List.drop 0 p)) 0)<|bO 0 (aJ (SM p) [ci 0,ci 0]) fun v5=>KJ (fun c6=>M 124 [CV.ref p,CV.row 1 a1,c6,CV.row 1 es]) fun v6=>aE (M 85 [CV.ref p,CV.row 1 (gr v6 0)]) fun v7=>some (.ret (f (decide ((gi v7 0) > (gi v5 0)))))
abbrev ZR:=SN fun b=>[cb b]
def MG (M:Den) (p:List CV) (a1:List (List CV)):List CV→Option Ou:=fun v6=>aB (decide ((gi v6 1)≥0)) (eW (vC (gr v6 0) (some (.ret ([CV.row 1 []]))) (chk (bJ 0 (List.length (gr v6 0)) 8)<|some (.ret [CV.row 1 (gr v6 0)]))) fun v7=>aE (M 82 ([CV.row 1 (gr v7 0),CV.fn 3 [],ci (gi v6 1),ci (wr ((gi v6 1)+1))])) fun v8=>chk (rR 1 true v8)<|eW (ZR M p a1 (gr v8 0)) fun v9=>bN (aB (gb v9 0) (some (.nx [CV.row 1 (gr v8 0)])) (some (.nx [CV.row 1 (gr v6 0)]))) fun v10=>some (.nx [CV.row 1 (gr v10 0),ci (wr ((gi v6 1) - 1))])) (some (.br 0 [CV.row 1 (gr v6 0)]))
def MH (f:Bool→List CV) (M:Den) (p:List CV) (a1 es:List (List CV)) (i:Int):List CV→Option Ou:=fun v9=>aB (decide ((gi v9 0)<(il (List.drop 0 (List.take (Int.toNat i) es))))) (chk (inb (gi v9 0) (List.drop 0 (List.take (Int.toNat i) es)))<|chk (oks [li] (el (List.drop 0 (List.take (Int.toNat i) es)) (gi v9 0)) 0)<|chk (inb (gi (el es i) 0) a1)<|chk (oks [li] (el a1 (gi (el es i) 0)) 0)<|chk (inb (gi (el (List.drop 0 (List.take (Int.toNat i) es)) (gi v9 0)) 0) a1)<|chk (oks [li] (el a1 (gi (el (List.drop 0 (List.take (Int.toNat i) es)) (gi v9 0)) 0)) 0)<|aE (M 88 [CV.ref p,ci (gi (el a1 (gi (el es i) 0)) 0),ci (gi (el a1 (gi (el (List.drop 0 (List.take (Int.toNat i) es)) (gi v9 0)) 0)) 0)]) fun v10=>aB (!(gb v10 0)) (some (.ret (f false))) (some (.nx [ci (wr ((gi v9 0)+1))]))) (some (.br 2 []))
def SO (f:Bool→List CV) (M:Den) (p:List CV) (a1 es:List (List CV)):List CV→Option Ou:=fun v8=>aB (decide ((gi v8 0)<(il es))) (chk (inb (gi v8 0) es)<|chk (oks [li] (el es (gi v8 0)) 0)<|chk (((decide (0≤0))&&(decide (0≤(gi v8 0))))&&(decide ((gi v8 0)≤(il es))))<|bO 2 (aJ (MH f M p a1 es (gi v8 0)) [ci 0]) fun v9=>some (.nx [ci (wr ((gi v8 0)+1))])) (some (.br 0 []))
def SP (f:Bool→List CV) (M:Den) (p:List CV) (a1 es:List (List CV)):Option Ou:=bO 0 (aJ (SO f M p a1 es) [ci 0]) fun v8=>chk (oks [.row 1] (List.drop 0 (List.drop 0 p)) 0)<|some (.ret (f ((il es) == (wr ((il (gr (List.drop 0 (List.drop 0 p)) 0))+1)))))
abbrev aCI:=SP fun b=>[cb b]
def pN (M:Den) (p:List CV) (a1:List (List CV)):List CV→List CV→Option Ou:=fun x7 v7=>eW (aCI M p a1 (gr x7 0)) fun v8=>aB (gb v8 0) (some (.ret [ci 3,CV.row 1 (gr x7 0),ci 0])) (some (.nx [ci (gi v7 0),CV.row 1 (gr v7 1),ci (gi v7 2)]))
def HZ (M:Den) (p:List CV) (a1 es tr:List (List CV)):Option Ou:=KJ (fun c11=>M 124 [CV.ref p,CV.row 1 a1,c11,CV.row 1 es]) fun v11=>eW (bO 0 (aJ (nO (gr v11 0)) [ci 0,ci 0,ci 0,ci 0,ci 0,ci 0,ci 0,ci 0,ci 0,ci 0,ci 0]) fun v12=>chk (oN [(.int .i64),(.int .i64),(.int .i64),(.int .i64),(.int .i64),(.int .i64),(.int .i64),(.int .i64),(.int .i64),(.int .i64)] .bool tr)<|bN (aB (!(decide ((bB 10 (cis v12 0 10) tr)<(List.length tr)))) (aE (M 74 [CV.ref p,CV.row 1 (gr v11 0),ci 0]) fun v13=>chk (oN [(.int .i64),(.int .i64),(.int .i64),(.int .i64),(.int .i64),(.int .i64),(.int .i64),(.int .i64),(.int .i64),(.int .i64)] .bool tr)<|some (.nx [cb (gb v13 1),CV.row 11 (kN 10 (cis v12 0 10) (cb (gb v13 1)) tr)])) (some (.nx [cb (cB (bG 10 (cis v12 0 10) (.bool false) tr)),CV.row 11 tr]))) fun v13=>some (.ret [cb (gb v13 0),CV.row 11 (gr v13 1)])) fun v12=>some (.ret [cb (!(gb v12 0)),CV.row 11 (gr v12 1)])
def BY (M:Den) (p:List CV) (a1:List (List CV)):List CV→Option Ou:=fun v8=>aB (decide ((gi v8 1)≥0)) (eW (vC (gr v8 0) (some (.ret ([CV.row 1 []]))) (chk (bJ 0 (List.length (gr v8 0)) 8)<|some (.ret [CV.row 1 (gr v8 0)]))) fun v9=>aE (M 82 ([CV.row 1 (gr v9 0),CV.fn 3 [],ci (gi v8 1),ci (wr ((gi v8 1)+1))])) fun v10=>chk (rR 1 true v10)<|eW (HZ M p a1 (gr v10 0) (gr v8 2)) fun v11=>bN (aB (gb v11 0) (some (.nx [CV.row 1 (gr v10 0)])) (some (.nx [CV.row 1 (gr v8 0)]))) fun v12=>some (.nx [CV.row 1 (gr v12 0),ci (wr ((gi v8 1) - 1)),CV.row 11 (gr v11 1)])) (some (.br 0 [CV.row 1 (gr v8 0),CV.row 11 (gr v8 2)]))
def allIn (a1:List (List CV)):List CV→Option Ou:=fun v4=>aB (decide ((gi v4 0)<(il a1))) (chk (bJ (List.length (gr v4 1)) 1 8)<|some (.nx ([ci (wr ((gi v4 0)+1)),CV.row 1 ((gr v4 1)++(aN 1 1 [ci (gi v4 0)]))]))) (some (.br 2 [CV.row 1 (gr v4 1)]))
def SQ (M:Den) (a0_0 a0_1 a1:List (List CV)):Option Ou:=aE (M 72 [CV.row 1 a0_0,CV.row 4 a0_1,CV.row 1 a1]) fun v0=>aB ((gi v0 1) != 0) (some (.ret ([ci 0,CV.row 1 [],ci (gi v0 1)]))) (chk (dS (List.getD v0 0 dC))<|eW (bO 0 (aJ (nO a1) [ci 0,ci 0,ci 0,ci 0,ci 0,ci 0,ci 0,ci 0,ci 0,ci 0,ci 0]) fun v1=>bN (aE (M 74 [CV.ref (cF (List.getD v0 0 dC)),CV.row 1 a1,ci 0]) fun v2=>some (.nx ([cb (gb v2 1),CV.row 11 (kN 10 (cis v1 0 10) (cb (gb v2 1)) [])]))) fun v2=>some (.ret [cb (gb v2 0),CV.row 11 (gr v2 1)])) fun v1=>aB (gb v1 0) (some (.ret ([ci 0,CV.row 1 [],ci 3]))) (aE (M 93 [ci (il a1),ci 1]) fun v2=>bN (brO (eU (vR sg M (List.getD v2 0 dC) (.clo [.one (.row 1)])) (yC (cF (List.getD v0 0 dC)) a1) [ci 0,CV.val (Value.slice none 0 0),ci 0])) fun v3=>bO 2 (aJ (allIn a1) ([ci 0,CV.row 1 []])) fun v4=>eW (ZR M (cF (List.getD v0 0 dC)) a1 (gr v4 0)) fun v5=>aB (gb v5 0) (eW (bO 0 (aJ (MG M (cF (List.getD v0 0 dC)) a1) [CV.row 1 (gr v4 0),ci (wr ((il (gr v4 0)) - 1))]) fun v6=>some (.ret [CV.row 1 (gr v6 0)])) fun v6=>some (.ret [ci 2,CV.row 1 (gr v6 0),ci 0])) (chk (oks [.row 1] (List.drop 0 (List.drop 0 (cF (List.getD v0 0 dC)))) 0)<|aE (M 93 [ci (il a1),ci (wr ((il (gr (List.drop 0 (List.drop 0 (cF (List.getD v0 0 dC)))) 0))+1))]) fun v6=>bN (brO (eU (vR sg M (List.getD v6 0 dC) (.clo [.one (.row 1)])) (pN M (cF (List.getD v0 0 dC)) a1) [ci (gi v3 0),CV.row 1 (gr v3 1),ci (gi v3 2)])) fun v7=>eW (bO 0 (aJ (BY M (cF (List.getD v0 0 dC)) a1) [CV.row 1 (gr v4 0),ci (wr ((il (gr v4 0)) - 1)),CV.row 11 (gr v1 1)]) fun v8=>some (.ret [CV.row 1 (gr v8 0),CV.row 11 (gr v8 1)])) fun v8=>some (.ret [ci 4,CV.row 1 (gr v8 0),ci 0]))))
theorem IA (its:ITS) (n:Nat) (a b c:List (List CV)):D its (n+1) eF [(.row 1 a),(.row 4 b),(.row 1 c)]=bC (SQ (D its n) a b c):=by kernel_rfl
def uE (a1 ts:List (List CV)):List CV→Option Ou:=fun v5=>aB (decide ((gi v5 0)<(il ts))) (chk (inb (gi v5 0) ts)<|chk (oks [li] (el ts (gi v5 0)) 0)<|chk (inb (gi (el ts (gi v5 0)) 0) a1)<|chk (oks [li] (List.drop 0 (el a1 (gi (el ts (gi v5 0)) 0))) 0)<|chk (bJ (List.length (gr v5 1)) 1 8)<|some (.nx ([ci (wr ((gi v5 0)+1)),CV.row 1 ((gr v5 1)++(aN 1 1 [ci (gi (List.drop 0 (el a1 (gi (el ts (gi v5 0)) 0))) 0)]))]))) (some (.br 4 [CV.row 1 (gr v5 1)]))
def zJ (a1:List (List CV)):List CV→Option Ou:=fun v1=>aB (decide ((gi v1 0)<(il a1))) (chk (inb (gi v1 0) a1)<|chk (oks [li,li,li] (el a1 (gi v1 0)) 0)<|chk (bJ (List.length (gr v1 1)) 1 8)<|bN (aB ((gi (el a1 (gi v1 0)) 2) != (-1)) (chk (bJ (List.length ((gr v1 1)++(aN 1 1 [ci (gi (el a1 (gi v1 0)) 1)]))) 1 8)<|some (.nx ([CV.row 1 (((gr v1 1)++(aN 1 1 [ci (gi (el a1 (gi v1 0)) 1)]))++(aN 1 1 [ci (gi (el a1 (gi v1 0)) 2)]))]))) (some (.nx ([CV.row 1 ((gr v1 1)++(aN 1 1 [ci (gi (el a1 (gi v1 0)) 1)]))])))) fun v2=>some (.nx [ci (wr ((gi v1 0)+1)),CV.row 1 (gr v2 0)])) (some (.br 0 [CV.row 1 (gr v1 1)]))
def iB (M:Den) (c:CV) (a1 ds:List (List CV)):List CV→Option Ou:=fun v3=>aB (decide ((gi v3 0)<(il ds))) (chk (inb (gi v3 0) ds)<|chk (decide ((Int.toNat (gi v3 0))<(List.length ds)))<|chk (oks [li] (el ds (gi v3 0)) 0)<|aE (M 69 [CV.row 3 a1,ci (gi (el ds (gi v3 0)) 0)]) fun v4=>bO 4 (aJ (uE a1 (gr v4 0)) ([ci 0,CV.row 1 []])) fun v5=>bN (aB (decide ((il (gr v5 0)) > 8)) (some (.nx [cb true,CV.row 11 (gr v3 1)])) (eW (bO 0 (aJ (nO (gr v5 0)) [ci 0,ci 0,ci 0,ci 0,ci 0,ci 0,ci 0,ci 0,ci 0,ci 0,ci 0]) fun v6=>chk (oN [(.int .i64),(.int .i64),(.int .i64),(.int .i64),(.int .i64),(.int .i64),(.int .i64),(.int .i64),(.int .i64),(.int .i64)] .bool (gr v3 1))<|bN (aB (!(decide ((bB 10 (cis v6 0 10) (gr v3 1))<(List.length (gr v3 1))))) (chk (dS c)<|aE (M 74 [CV.ref (cF c),CV.row 1 (gr v5 0),ci 0]) fun v7=>chk (oN [(.int .i64),(.int .i64),(.int .i64),(.int .i64),(.int .i64),(.int .i64),(.int .i64),(.int .i64),(.int .i64),(.int .i64)] .bool (gr v3 1))<|some (.nx [cb (gb v7 1),CV.row 11 (kN 10 (cis v6 0 10) (cb (gb v7 1)) (gr v3 1))])) (some (.nx [cb (cB (bG 10 (cis v6 0 10) (.bool false) (gr v3 1))),CV.row 11 (gr v3 1)]))) fun v7=>some (.ret [cb (gb v7 0),CV.row 11 (gr v7 1)])) fun v6=>some (.nx [cb (!(gb v6 0)),CV.row 11 (gr v6 1)]))) fun v6=>aB (gb v6 0) (some (.ret [ci (gi (el ds (gi v3 0)) 0),ci 0])) (some (.nx [ci (wr ((gi v3 0)+1)),CV.row 11 (gr v6 1)]))) (some (.br 2 [CV.row 11 (gr v3 1)]))
def aCJ (M:Den) (a0_0 a0_1 a1:List (List CV)):Option Ou:=aE (M 66 [CV.row 1 a0_0,CV.row 4 a0_1,CV.row 3 a1]) fun v0=>aB ((gi v0 1) != 0) (some (.ret [ci 0,ci (gi v0 1)])) (bO 0 (aJ (zJ a1) ([ci 0,CV.row 1 []])) fun v1=>aE (M 70 ([CV.row 1 (gr v1 0),CV.fn 3 []])) fun v2=>chk (rR 1 false v2)<|bO 2 (aJ (iB M (List.getD v0 0 dC) a1 (gr v2 0)) ([ci 0,CV.row 11 []])) fun v3=>some (.ret [ci 0,ci 3]))
theorem QD (its:ITS) (n:Nat) (a b c:List (List CV)):D its (n+1) sF [(.row 1 a),(.row 4 b),(.row 3 c)]=bC (aCJ (D its n) a b c):=by kernel_rfl
def pO (es:List (List CV)):List CV→Option Ou:=fun v3=>aB (decide ((gi v3 1)<(il es))) (chk (inb (gi v3 1) es)<|chk (decide ((Int.toNat (gi v3 1))<(List.length es)))<|chk (oks [li] (el es (gi v3 1)) 0)<|chk ((decide (0≤(gi (el es (gi v3 1)) 0)))&&(decide ((gi (el es (gi v3 1)) 0)<(Int.ofNat 5))))<|chk (oks [lb] [cb (gb v3 2),cb (gb v3 3),cb (gb v3 4),cb (gb v3 5),cb (gb v3 6)] (0+((Int.toNat (gi (el es (gi v3 1)) 0))*1)))<|bN (aB (!(gb [cb (gb v3 2),cb (gb v3 3),cb (gb v3 4),cb (gb v3 5),cb (gb v3 6)] (0+((Int.toNat (gi (el es (gi v3 1)) 0))*1)))) (chk ((decide (0≤(gi (el es (gi v3 1)) 0)))&&(decide ((gi (el es (gi v3 1)) 0)<(Int.ofNat 5))))<|chk (oks [lb] [cb (gb v3 2),cb (gb v3 3),cb (gb v3 4),cb (gb v3 5),cb (gb v3 6)] (0+((Int.toNat (gi (el es (gi v3 1)) 0))*1)))<|some (.nx [ci (wr ((gi v3 0)+1)),cb (if (decide (0=(0+((Int.toNat (gi (el es (gi v3 1)) 0))*1))))=true then true else gb v3 2),cb (if (decide (1=(0+((Int.toNat (gi (el es (gi v3 1)) 0))*1))))=true then true else gb v3 3),cb (if (decide (2=(0+((Int.toNat (gi (el es (gi v3 1)) 0))*1))))=true then true else gb v3 4),cb (if (decide (3=(0+((Int.toNat (gi (el es (gi v3 1)) 0))*1))))=true then true else gb v3 5),cb (if (decide (4=(0+((Int.toNat (gi (el es (gi v3 1)) 0))*1))))=true then true else gb v3 6)])) (some (.nx [ci (gi v3 0),cb (gb v3 2),cb (gb v3 3),cb (gb v3 4),cb (gb v3 5),cb (gb v3 6)]))) fun v4=>some (.nx [ci (gi v4 0),ci (wr ((gi v3 1)+1)),cb (gb v4 1),cb (gb v4 2),cb (gb v4 3),cb (gb v4 4),cb (gb v4 5)])) (some (.br 2 [ci (gi v3 0),cb (gb v3 2),cb (gb v3 3),cb (gb v3 4),cb (gb v3 5),cb (gb v3 6)]))
def BZ:List CV→List CV→Option Ou:=fun x2 v2 =>
      bO 2 (aJ (pO (gr x2 0)) [ci 0,ci 0,cb false,cb false,cb false,cb false,cb false]) fun v3 =>
      bN (aB (decide ((gi v3 0)<(gi v2 1)))
          (chk (oN [.bool,.bool,.bool,.bool,.bool] .bool (gr v2 2)) <|
          some (.nx ([cb (!(cB (bG 5 [cb (gb v3 1),cb (gb v3 2),cb (gb v3 3),cb (gb v3 4),cb (gb v3 5)] (.bool false) (gr v2 2))))])))
          (some (.nx [cb false]))) fun v4 =>
      bN (aB (gb v4 0)
          (eW (vC (gr x2 0)
            (some (.ret ([CV.row 1 []])))
            (chk (bJ 0 (List.length (gr x2 0)) 8) <|
            some (.ret [CV.row 1 (gr x2 0)]))) fun v5 =>
          some (.nx [CV.row 1 (gr v5 0),ci (gi v3 0)]))
          (some (.nx [CV.row 1 (gr v2 0),ci (gi v2 1)]))) fun v5 =>
      chk (oN [.bool,.bool,.bool,.bool,.bool] .bool (gr v2 2)) <|
      some (.nx ([CV.row 1 (gr v5 0),ci (gi v5 1),CV.row 6 (kN 5 [cb (gb v3 1),cb (gb v3 2),cb (gb v3 3),cb (gb v3 4),cb (gb v3 5)] (cb true) (gr v2 2))]))
def SR (M:Den) (a b l:List (List CV)):Option Ou:=aE (M 72 [CV.row 1 a,CV.row 4 b,CV.row 1 l]) fun v0 =>
  aB ((gi v0 1) != 0)
   (some (.ret ([CV.row 1 [],ci (gi v0 1)])))
   (chk (dS (List.getD v0 0 dC)) <|
   chk (oks [.row 1] (List.drop 0 (List.drop 0 (cF (List.getD v0 0 dC)))) 0) <|
   aE (M 73 [CV.ref (cF (List.getD v0 0 dC)),CV.row 1 l]) fun v1 =>
   bN (brO (eU (vR sg M (List.getD v1 0 dC) (.lent 3 1)) BZ ([CV.val (Value.slice none 0 0),ci (wr ((il (gr (List.drop 0 (List.drop 0 (cF (List.getD v0 0 dC)))) 0))+1)),CV.row 6 []]))) fun v2 =>
   chk (oks [.row 1] (List.drop 0 (List.drop 0 (cF (List.getD v0 0 dC)))) 0) <|
   aB (decide ((gi v2 1) > (il (gr (List.drop 0 (List.drop 0 (cF (List.getD v0 0 dC)))) 0))))
    (some (.ret ([CV.row 1 [],ci 53])))
    (some (.ret [CV.row 1 (gr v2 0),ci 0])))
theorem IB (its:ITS) (n:Nat) (a b l:List (List CV)):D its (n+1) hU [(.row 1 a),(.row 4 b),(.row 1 l)]=bC (SR (D its n) a b l):=by kernel_rfl
def ZS (M:Den) (p:List CV) (l:List (List CV)) (k:Int) (tr:List (List CV)) (K:(List (List CV)→Option Ou)→Option Ou):Option Ou:=aE (M 104 ([CV.fn 124 [],CV.fn 94 [],CV.fn 95 [],CV.fn 97 [],CV.fn 98 []])) fun v3=>chk (isW v3)<|chk ((decide (0≤(wr (k - 1))))&&(decide ((wr (k - 1))<4))) <|
 aB ((wr (k - 1)) == 0) (K fun es=>aBD (fun b=>[cb b,CV.row 11 tr]) p l es) (aB ((wr (k - 1)) == 1) (K fun es=>SN (fun b=>[cb b,CV.row 11 tr]) M p l es) (aB ((wr (k - 1)) == 2) (K fun es=>SP (fun b=>[cb b,CV.row 11 tr]) M p l es) (K fun es=>HZ M p l es tr)))
def MJ (M:Den) (l es:List (List CV)):List CV→Option Ou:=fun v1=>aB (decide ((gi v1 0)<(il es))) (chk (inb (gi v1 0) es)<|chk (oks [li] (el es (gi v1 0)) 0)<|bN (aE (M 67 [ci (gi (el es (gi v1 0)) 0),ci 0,ci (wr ((il l) - 1))]) fun v2=>aB (!(gb v2 0)) (some (.nx [cb true])) (aB (decide ((gi v1 0) > 0)) (chk (inb (wr ((gi v1 0) - 1)) es)<|chk (oks [li] (el es (wr ((gi v1 0) - 1))) 0)<|some (.nx [cb (decide ((gi (el es (wr ((gi v1 0) - 1))) 0)≥(gi (el es (gi v1 0)) 0)))])) (some (.nx [cb false])))) fun v2=>aB (gb v2 0) (some (.ret [ci 54])) (some (.nx [ci (wr ((gi v1 0)+1))]))) (some (.br 0 []))
def yD (M:Den) (p:List CV) (l es:List (List CV)) (k:Int):List CV→Option Ou:=fun v4=>aB (decide ((gi v4 0)<(il es))) (ZS M p l k (gr v4 1) fun F=>aE (M 76 [CV.row 1 es]) fun v6=>chk (GY 1 3 v6)<|aE (M 82 ([CV.row 1 (gr v6 0),CV.fn 3 [],ci (gi v4 0),ci (wr ((gi v4 0)+1))])) fun v7=>chk (rR 1 true v7)<|eW (F (gr v7 0)) fun v8=>aB (gb v8 0) (some (.ret [ci 54])) (some (.nx [ci (wr ((gi v4 0)+1)),CV.row 11 (gr v8 1)]))) (some (.br 2 [CV.row 11 (gr v4 1)]))
def ZT (M:Den) (a b l:List (List CV)) (k:Int) (es:List (List CV)):Option Ou:=aE (M 72 [CV.row 1 a,CV.row 4 b,CV.row 1 l]) fun v0 =>
 aB ((gi v0 1) != 0) (some (.ret [ci (gi v0 1)])) (chk (dS (List.getD v0 0 dC))<|bO 0 (aJ (MJ M l es) [ci 0]) fun v1 =>
  bN (aE (M 67 [ci k,ci 1,ci 4]) fun v2=>aB (!(gb v2 0)) (some (.nx ([cb true,CV.row 11 []]))) (aB ((il es) == 0) (some (.nx ([cb true,CV.row 11 []])))
   (ZS M (cF (List.getD v0 0 dC)) l k [] fun F=>eW (F es) fun v4=>some (.nx [cb (!(gb v4 0)),CV.row 11 (gr v4 1)])))) fun v2 =>
  aB (gb v2 0) (some (.ret [ci 54])) (bN (aB (k == 2) (some (.nx [cb true])) (some (.nx [cb (k == 4)]))) fun v3 =>
   bN (aB (gb v3 0) (bO 2 (aJ (yD M (cF (List.getD v0 0 dC)) l es k) [ci 0,CV.row 11 (gr v2 1)]) fun v4=>some (.nx [CV.row 11 (gr v4 0)])) (some (.nx [CV.row 11 (gr v2 1)]))) fun v4=>some (.ret [ci 0])))
theorem sQ (its:ITS) (n:Nat) (a b l:List (List CV)) (k:Int) (es:List (List CV)):D its (n+1) gE [(.row 1 a),(.row 4 b),(.row 1 l),(ci k),(.row 1 es)]=bC (ZT (D its n) a b l k es):=by kernel_rfl
end
end Go.Proofs.Ythkfohoccnnphaa
namespace Go.Proofs.Ythkfohoccnnphaa
open Go Go.Sx
set_option maxRecDepth 100000
theorem en3:∃ fn,EntOk Try.prog 3 fe3 fn∧aA Try.f3=aA fn:=by refine ⟨Try.f3,⟨?_,?_,?_,?_,?_⟩,rfl⟩ <;> kernel_rfl
theorem aFU:∃ fn,EntOk Try.prog 11 aDo fn∧aA Try.f11=aA fn:=by refine ⟨Try.f11,⟨?_,?_,?_,?_,?_⟩,rfl⟩ <;> kernel_rfl
theorem aFV:∃ fn,EntOk Try.prog 14 aEa fn∧aA Try.f14=aA fn:=by refine ⟨Try.f14,⟨?_,?_,?_,?_,?_⟩,rfl⟩ <;> kernel_rfl
theorem aFW:∃ fn,EntOk Try.prog 15 aEb fn∧aA Try.f15=aA fn:=by refine ⟨Try.f15,⟨?_,?_,?_,?_,?_⟩,rfl⟩ <;> kernel_rfl
theorem aFX:∃ fn,EntOk Try.prog 16 aEc fn∧aA Try.f16=aA fn:=by refine ⟨Try.f16,⟨?_,?_,?_,?_,?_⟩,rfl⟩ <;> kernel_rfl
theorem aFY:∃ fn,EntOk Try.prog 17 aEd fn∧aA Try.f17=aA fn:=by refine ⟨Try.f17,⟨?_,?_,?_,?_,?_⟩,rfl⟩ <;> kernel_rfl
theorem aFZ:∃ fn,EntOk Try.prog 18 aEe fn∧aA Try.f18=aA fn:=by refine ⟨Try.f18,⟨?_,?_,?_,?_,?_⟩,rfl⟩ <;> kernel_rfl
theorem aF0:∃ fn,EntOk Try.prog 19 aEf fn∧aA Try.f19=aA fn:=by refine ⟨Try.f19,⟨?_,?_,?_,?_,?_⟩,rfl⟩ <;> kernel_rfl
theorem aF1:∃ fn,EntOk Try.prog 20 aEg fn∧aA Try.f20=aA fn:=by refine ⟨Try.f20,⟨?_,?_,?_,?_,?_⟩,rfl⟩ <;> kernel_rfl
theorem aF2:∃ fn,EntOk Try.prog 21 aEh fn∧aA Try.f21=aA fn:=by refine ⟨Try.f21,⟨?_,?_,?_,?_,?_⟩,rfl⟩ <;> kernel_rfl
theorem aF3:∃ fn,EntOk Try.prog 23 aEi fn∧aA Try.f23=aA fn:=by refine ⟨Try.f23,⟨?_,?_,?_,?_,?_⟩,rfl⟩ <;> kernel_rfl
theorem aF4:∃ fn,EntOk Try.prog 24 aEj fn∧aA Try.f24=aA fn:=by refine ⟨Try.f24,⟨?_,?_,?_,?_,?_⟩,rfl⟩ <;> kernel_rfl
theorem aF5:∃ fn,EntOk Try.prog 26 aEk fn∧aA Try.f26=aA fn:=by refine ⟨Try.f26,⟨?_,?_,?_,?_,?_⟩,rfl⟩ <;> kernel_rfl
theorem aF6:∃ fn,EntOk Try.prog 27 aEl fn∧aA Try.f27=aA fn:=by refine ⟨Try.f27,⟨?_,?_,?_,?_,?_⟩,rfl⟩ <;> kernel_rfl
theorem aF7:∃ fn,EntOk Try.prog 33 aEm fn∧aA Try.f33=aA fn:=by refine ⟨Try.f33,⟨?_,?_,?_,?_,?_⟩,rfl⟩ <;> kernel_rfl
theorem aF8:∃ fn,EntOk Try.prog 40 aEn fn∧aA Try.f40=aA fn:=by refine ⟨Try.f40,⟨?_,?_,?_,?_,?_⟩,rfl⟩ <;> kernel_rfl
theorem aF9:∃ fn,EntOk Try.prog 45 aEo fn∧aA Try.f45=aA fn:=by refine ⟨Try.f45,⟨?_,?_,?_,?_,?_⟩,rfl⟩ <;> kernel_rfl
theorem aGa:∃ fn,EntOk Try.prog 46 aEp fn∧aA Try.f46=aA fn:=by refine ⟨Try.f46,⟨?_,?_,?_,?_,?_⟩,rfl⟩ <;> kernel_rfl
theorem aGb:∃ fn,EntOk Try.prog 48 aEq fn∧aA Try.f48=aA fn:=by refine ⟨Try.f48,⟨?_,?_,?_,?_,?_⟩,rfl⟩ <;> kernel_rfl
theorem aGc:∃ fn,EntOk Try.prog 49 aEr fn∧aA Try.f49=aA fn:=by refine ⟨Try.f49,⟨?_,?_,?_,?_,?_⟩,rfl⟩ <;> kernel_rfl
theorem aGd:∃ fn,EntOk Try.prog 50 aEs fn∧aA Try.f50=aA fn:=by refine ⟨Try.f50,⟨?_,?_,?_,?_,?_⟩,rfl⟩ <;> kernel_rfl
theorem aGe:∃ fn,EntOk Try.prog 51 aEt fn∧aA Try.f51=aA fn:=by refine ⟨Try.f51,⟨?_,?_,?_,?_,?_⟩,rfl⟩ <;> kernel_rfl
theorem aGf:∃ fn,EntOk Try.prog 52 aEu fn∧aA Try.f52=aA fn:=by refine ⟨Try.f52,⟨?_,?_,?_,?_,?_⟩,rfl⟩ <;> kernel_rfl
theorem aGg:∃ fn,EntOk Try.prog 53 aEv fn∧aA Try.f53=aA fn:=by refine ⟨Try.f53,⟨?_,?_,?_,?_,?_⟩,rfl⟩ <;> kernel_rfl
theorem aGh:∃ fn,EntOk Try.prog 54 aEw fn∧aA Try.f54=aA fn:=by refine ⟨Try.f54,⟨?_,?_,?_,?_,?_⟩,rfl⟩ <;> kernel_rfl
theorem aGi:∃ fn,EntOk Try.prog 63 aEx fn∧aA Try.f63=aA fn:=by refine ⟨Try.f63,⟨?_,?_,?_,?_,?_⟩,rfl⟩ <;> kernel_rfl
theorem aGj:∃ fn,EntOk Try.prog 64 aEy fn∧aA Try.f64=aA fn:=by refine ⟨Try.f64,⟨?_,?_,?_,?_,?_⟩,rfl⟩ <;> kernel_rfl
theorem aGk:∃ fn,EntOk Try.prog 65 aEz fn∧aA Try.f65=aA fn:=by refine ⟨Try.f65,⟨?_,?_,?_,?_,?_⟩,rfl⟩ <;> kernel_rfl
theorem aGl:∃ fn,EntOk Try.prog 66 aEA fn∧aA Try.f66=aA fn:=by refine ⟨Try.f66,⟨?_,?_,?_,?_,?_⟩,rfl⟩ <;> kernel_rfl
theorem aGm:∃ fn,EntOk Try.prog 67 aEB fn∧aA Try.f67=aA fn:=by refine ⟨Try.f67,⟨?_,?_,?_,?_,?_⟩,rfl⟩ <;> kernel_rfl
theorem aGn:∃ fn,EntOk Try.prog 68 aEC fn∧aA Try.f68=aA fn:=by refine ⟨Try.f68,⟨?_,?_,?_,?_,?_⟩,rfl⟩ <;> kernel_rfl
theorem aGo:∃ fn,EntOk Try.prog 69 aED fn∧aA Try.f69=aA fn:=by refine ⟨Try.f69,⟨?_,?_,?_,?_,?_⟩,rfl⟩ <;> kernel_rfl
theorem aGp:∃ fn,EntOk Try.prog 72 aEE fn∧aA Try.f72=aA fn:=by refine ⟨Try.f72,⟨?_,?_,?_,?_,?_⟩,rfl⟩ <;> kernel_rfl
theorem aGq:∃ fn,EntOk Try.prog 73 aEF fn∧aA Try.f73=aA fn:=by refine ⟨Try.f73,⟨?_,?_,?_,?_,?_⟩,rfl⟩ <;> kernel_rfl
theorem aGr:∃ fn,EntOk Try.prog 74 aEG fn∧aA Try.f74=aA fn:=by refine ⟨Try.f74,⟨?_,?_,?_,?_,?_⟩,rfl⟩ <;> kernel_rfl
theorem aGs:∃ fn,EntOk Try.prog 75 aEH fn∧aA Try.f75=aA fn:=by refine ⟨Try.f75,⟨?_,?_,?_,?_,?_⟩,rfl⟩ <;> kernel_rfl
theorem aGt:∃ fn,EntOk Try.prog 80 aDp fn∧aA Try.f80=aA fn:=by refine ⟨Try.f80,⟨?_,?_,?_,?_,?_⟩,rfl⟩ <;> kernel_rfl
theorem aGu:∃ fn,EntOk Try.prog 81 aEI fn∧aA Try.f81=aA fn:=by refine ⟨Try.f81,⟨?_,?_,?_,?_,?_⟩,rfl⟩ <;> kernel_rfl
theorem aGv:∃ fn,EntOk Try.prog 83 aEJ fn∧aA Try.f83=aA fn:=by refine ⟨Try.f83,⟨?_,?_,?_,?_,?_⟩,rfl⟩ <;> kernel_rfl
theorem aGw:∃ fn,EntOk Try.prog 84 aEK fn∧aA Try.f84=aA fn:=by refine ⟨Try.f84,⟨?_,?_,?_,?_,?_⟩,rfl⟩ <;> kernel_rfl
theorem aGx:∃ fn,EntOk Try.prog 85 aEL fn∧aA Try.f85=aA fn:=by refine ⟨Try.f85,⟨?_,?_,?_,?_,?_⟩,rfl⟩ <;> kernel_rfl
theorem aGy:∃ fn,EntOk Try.prog 86 aEM fn∧aA Try.f86=aA fn:=by refine ⟨Try.f86,⟨?_,?_,?_,?_,?_⟩,rfl⟩ <;> kernel_rfl
theorem aGz:∃ fn,EntOk Try.prog 87 aEN fn∧aA Try.f87=aA fn:=by refine ⟨Try.f87,⟨?_,?_,?_,?_,?_⟩,rfl⟩ <;> kernel_rfl
theorem aGA:∃ fn,EntOk Try.prog 88 aEO fn∧aA Try.f88=aA fn:=by refine ⟨Try.f88,⟨?_,?_,?_,?_,?_⟩,rfl⟩ <;> kernel_rfl
theorem aGB:∃ fn,EntOk Try.prog 89 aEP fn∧aA Try.f89=aA fn:=by refine ⟨Try.f89,⟨?_,?_,?_,?_,?_⟩,rfl⟩ <;> kernel_rfl
theorem aGC:∃ fn,EntOk Try.prog 90 aEQ fn∧aA Try.f90=aA fn:=by refine ⟨Try.f90,⟨?_,?_,?_,?_,?_⟩,rfl⟩ <;> kernel_rfl
theorem aGD:∃ fn,EntOk Try.prog 91 aER fn∧aA Try.f91=aA fn:=by refine ⟨Try.f91,⟨?_,?_,?_,?_,?_⟩,rfl⟩ <;> kernel_rfl
theorem aGE:∃ fn,EntOk Try.prog 92 aES fn∧aA Try.f92=aA fn:=by refine ⟨Try.f92,⟨?_,?_,?_,?_,?_⟩,rfl⟩ <;> kernel_rfl
theorem aGF:∃ fn,EntOk Try.prog 93 aET fn∧aA Try.f93=aA fn:=by refine ⟨Try.f93,⟨?_,?_,?_,?_,?_⟩,rfl⟩ <;> kernel_rfl
theorem aGG:∃ fn,EntOk Try.prog 99 aEU fn∧aA Try.f99=aA fn:=by refine ⟨Try.f99,⟨?_,?_,?_,?_,?_⟩,rfl⟩ <;> kernel_rfl
theorem aEW:∃ fn,EntOk Try.prog 100 aCp fn∧aA Try.f100=aA fn:=by refine ⟨Try.f100,⟨?_,?_,?_,?_,?_⟩,rfl⟩ <;> kernel_rfl
theorem aEX:∃ fn,EntOk Try.prog 101 aCq fn∧aA Try.f101=aA fn:=by refine ⟨Try.f101,⟨?_,?_,?_,?_,?_⟩,rfl⟩ <;> kernel_rfl
theorem aEY:∃ fn,EntOk Try.prog 102 ZO fn∧aA Try.f102=aA fn:=by refine ⟨Try.f102,⟨?_,?_,?_,?_,?_⟩,rfl⟩ <;> kernel_rfl
theorem aEZ:∃ fn,EntOk Try.prog 103 ZP fn∧aA Try.f103=aA fn:=by refine ⟨Try.f103,⟨?_,?_,?_,?_,?_⟩,rfl⟩ <;> kernel_rfl
theorem aE0:∃ fn,EntOk Try.prog 105 aCr fn∧aA Try.f105=aA fn:=by refine ⟨Try.f105,⟨?_,?_,?_,?_,?_⟩,rfl⟩ <;> kernel_rfl
theorem aE1:∃ fn,EntOk Try.prog 106 aCs fn∧aA Try.f106=aA fn:=by refine ⟨Try.f106,⟨?_,?_,?_,?_,?_⟩,rfl⟩ <;> kernel_rfl
theorem aE2:∃ fn,EntOk Try.prog 107 aCt fn∧aA Try.f107=aA fn:=by refine ⟨Try.f107,⟨?_,?_,?_,?_,?_⟩,rfl⟩ <;> kernel_rfl
theorem aE3:∃ fn,EntOk Try.prog 109 aCu fn∧aA Try.f109=aA fn:=by refine ⟨Try.f109,⟨?_,?_,?_,?_,?_⟩,rfl⟩ <;> kernel_rfl
theorem aE4:∃ fn,EntOk Try.prog 110 aCv fn∧aA Try.f110=aA fn:=by refine ⟨Try.f110,⟨?_,?_,?_,?_,?_⟩,rfl⟩ <;> kernel_rfl
theorem aE5:∃ fn,EntOk Try.prog 111 aCw fn∧aA Try.f111=aA fn:=by refine ⟨Try.f111,⟨?_,?_,?_,?_,?_⟩,rfl⟩ <;> kernel_rfl
theorem aE6:∃ fn,EntOk Try.prog 112 aCx fn∧aA Try.f112=aA fn:=by refine ⟨Try.f112,⟨?_,?_,?_,?_,?_⟩,rfl⟩ <;> kernel_rfl
theorem aE7:∃ fn,EntOk Try.prog 115 aCy fn∧aA Try.f115=aA fn:=by refine ⟨Try.f115,⟨?_,?_,?_,?_,?_⟩,rfl⟩ <;> kernel_rfl
theorem aE8:∃ fn,EntOk Try.prog 119 aCz fn∧aA Try.f119=aA fn:=by refine ⟨Try.f119,⟨?_,?_,?_,?_,?_⟩,rfl⟩ <;> kernel_rfl
theorem aE9:∃ fn,EntOk Try.prog 120 aCA fn∧aA Try.f120=aA fn:=by refine ⟨Try.f120,⟨?_,?_,?_,?_,?_⟩,rfl⟩ <;> kernel_rfl
theorem aFa:∃ fn,EntOk Try.prog 124 aCB fn∧aA Try.f124=aA fn:=by refine ⟨Try.f124,⟨?_,?_,?_,?_,?_⟩,rfl⟩ <;> kernel_rfl
theorem aFb:∃ fn,EntOk Try.prog 125 aCC fn∧aA Try.f125=aA fn:=by refine ⟨Try.f125,⟨?_,?_,?_,?_,?_⟩,rfl⟩ <;> kernel_rfl
theorem aFc:∃ fn,EntOk Try.prog 126 aCD fn∧aA Try.f126=aA fn:=by refine ⟨Try.f126,⟨?_,?_,?_,?_,?_⟩,rfl⟩ <;> kernel_rfl
theorem aFd:∃ fn,EntOk Try.prog 127 aCE fn∧aA Try.f127=aA fn:=by refine ⟨Try.f127,⟨?_,?_,?_,?_,?_⟩,rfl⟩ <;> kernel_rfl
theorem aFe:∃ fn,EntOk Try.prog 128 aCF fn∧aA Try.f128=aA fn:=by refine ⟨Try.f128,⟨?_,?_,?_,?_,?_⟩,rfl⟩ <;> kernel_rfl
theorem aFf:∃ fn,EntOk Try.prog 140 aCG fn∧aA Try.f140=aA fn:=by refine ⟨Try.f140,⟨?_,?_,?_,?_,?_⟩,rfl⟩ <;> kernel_rfl
theorem aCK:∀ e∈tb,∃ fn,EntOk Try.prog e.1 e.2.1 fn∧e.2.2=aA fn:=by
 intro e he
 unfold tb at he
 rcases List.mem_cons.1 he with rfl | he
 ·exact en3
 rcases List.mem_cons.1 he with rfl | he
 ·exact aFU
 rcases List.mem_cons.1 he with rfl | he
 ·exact aFV
 rcases List.mem_cons.1 he with rfl | he
 ·exact aFW
 rcases List.mem_cons.1 he with rfl | he
 ·exact aFX
 rcases List.mem_cons.1 he with rfl | he
 ·exact aFY
 rcases List.mem_cons.1 he with rfl | he
 ·exact aFZ
 rcases List.mem_cons.1 he with rfl | he
 ·exact aF0
 rcases List.mem_cons.1 he with rfl | he
 ·exact aF1
 rcases List.mem_cons.1 he with rfl | he
 ·exact aF2
 rcases List.mem_cons.1 he with rfl | he
 ·exact aF3
 rcases List.mem_cons.1 he with rfl | he
 ·exact aF4
 rcases List.mem_cons.1 he with rfl | he
 ·exact aF5
 rcases List.mem_cons.1 he with rfl | he
 ·exact aF6
 rcases List.mem_cons.1 he with rfl | he
 ·exact aF7
 rcases List.mem_cons.1 he with rfl | he
 ·exact aF8
 rcases List.mem_cons.1 he with rfl | he
 ·exact aF9
 rcases List.mem_cons.1 he with rfl | he
 ·exact aGa
 rcases List.mem_cons.1 he with rfl | he
 ·exact aGb
 rcases List.mem_cons.1 he with rfl | he
 ·exact aGc
 rcases List.mem_cons.1 he with rfl | he
 ·exact aGd
 rcases List.mem_cons.1 he with rfl | he
 ·exact aGe
 rcases List.mem_cons.1 he with rfl | he
 ·exact aGf
 rcases List.mem_cons.1 he with rfl | he
 ·exact aGg
 rcases List.mem_cons.1 he with rfl | he
 ·exact aGh
 rcases List.mem_cons.1 he with rfl | he
 ·exact aGi
 rcases List.mem_cons.1 he with rfl | he
 ·exact aGj
 rcases List.mem_cons.1 he with rfl | he
 ·exact aGk
 rcases List.mem_cons.1 he with rfl | he
 ·exact aGl
 rcases List.mem_cons.1 he with rfl | he
 ·exact aGm
 rcases List.mem_cons.1 he with rfl | he
 ·exact aGn
 rcases List.mem_cons.1 he with rfl | he
 ·exact aGo
 rcases List.mem_cons.1 he with rfl | he
 ·exact aGp
 rcases List.mem_cons.1 he with rfl | he
 ·exact aGq
 rcases List.mem_cons.1 he with rfl | he
 ·exact aGr
 rcases List.mem_cons.1 he with rfl | he
 ·exact aGs
 rcases List.mem_cons.1 he with rfl | he
 ·exact aGt
 rcases List.mem_cons.1 he with rfl | he
 ·exact aGu
 rcases List.mem_cons.1 he with rfl | he
 ·exact aGv
 rcases List.mem_cons.1 he with rfl | he
 ·exact aGw
 rcases List.mem_cons.1 he with rfl | he
 ·exact aGx
 rcases List.mem_cons.1 he with rfl | he
 ·exact aGy
 rcases List.mem_cons.1 he with rfl | he
 ·exact aGz
 rcases List.mem_cons.1 he with rfl | he
 ·exact aGA
 rcases List.mem_cons.1 he with rfl | he
 ·exact aGB
 rcases List.mem_cons.1 he with rfl | he
 ·exact aGC
 rcases List.mem_cons.1 he with rfl | he
 ·exact aGD
 rcases List.mem_cons.1 he with rfl | he
 ·exact aGE
 rcases List.mem_cons.1 he with rfl | he
 ·exact aGF
 rcases List.mem_cons.1 he with rfl | he
 ·exact aGG
 rcases List.mem_cons.1 he with rfl | he
 ·exact aEW
 rcases List.mem_cons.1 he with rfl | he
 ·exact aEX
 rcases List.mem_cons.1 he with rfl | he
 ·exact aEY
 rcases List.mem_cons.1 he with rfl | he
 ·exact aEZ
 rcases List.mem_cons.1 he with rfl | he
 ·exact aE0
 rcases List.mem_cons.1 he with rfl | he
 ·exact aE1
 rcases List.mem_cons.1 he with rfl | he
 ·exact aE2
 rcases List.mem_cons.1 he with rfl | he
 ·exact aE3
 rcases List.mem_cons.1 he with rfl | he
 ·exact aE4
 rcases List.mem_cons.1 he with rfl | he
 ·exact aE5
 rcases List.mem_cons.1 he with rfl | he
 ·exact aE6
 rcases List.mem_cons.1 he with rfl | he
 ·exact aE7
 rcases List.mem_cons.1 he with rfl | he
 ·exact aE8
 rcases List.mem_cons.1 he with rfl | he
 ·exact aE9
 rcases List.mem_cons.1 he with rfl | he
 ·exact aFa
 rcases List.mem_cons.1 he with rfl | he
 ·exact aFb
 rcases List.mem_cons.1 he with rfl | he
 ·exact aFc
 rcases List.mem_cons.1 he with rfl | he
 ·exact aFd
 rcases List.mem_cons.1 he with rfl | he
 ·exact aFe
 rcases List.mem_cons.1 he with rfl | he
 ·exact aFf
 cases he
end Go.Proofs.Ythkfohoccnnphaa
namespace Go.Proofs.Ythkfohoccnnphaa
open Go Go.Sx
set_option maxRecDepth 100000
set_option maxHeartbeats 0
def MK:Nat→HT
 | 0=>.nil
 | k+1=>.two (.reg [] [0,1,2,3,4] none []) (.two (.two (.reg [] [0,1,2,3,4,14] none []) (.cond none (.two (.reg [] [5] none [(some 17,⟨[],[],[],[]⟩,.yl (.lent 3 1))]) (.nil)) (.nil))) (.two (.two (.reg [] [0,1,3,4,23,24] none []) (.blk ⟨[],[],[(1,22,[.own 1])],[(0,1048576,0,some 0),(1,3,1,none)]⟩ (.lp [] ⟨[0,1,3,4,23],[(24,.lf (Lf.int IntKind.i64))],[(1,22,[.own 1])],[(0,1048576,0,some 0),(1,3,1,none)]⟩ (.two (.reg [] [0,1,3,4,23,24,25] none []) (.two (.cond none (.nil) (.nil)) (.two (.thru (.two (.reg [] [0,1,3,4,6,23,24] none []) (.two (.reg [] [0,1,3,4,23,24] none []) (.two (.reg [] [0,1,3,4,7,23,24] none []) (.two (.two (.reg [] [0,1,3,4,7,9,23,24] none []) (.two (.reg [] [0,1,3,4,7,23,24,43] none []) (.cond (some ⟨[0,1,3,4,23,24],[(7,.lf Lf.bool)],[(1,22,[.own 1])],[(0,1048576,0,some 0),(1,3,1,none)]⟩) (.reg [] [0,1,3,4,7,23,24] none [(some 45,⟨[0,1,3,4,7,23,24],[(45,.lf Lf.bool)],[(1,22,[.own 1])],[(0,1048576,0,some 0),(1,3,1,none)]⟩,MK k)]) (.nil)))) (.two (.reg [] [0,1,3,4,7,23,24] none []) (.two (.reg [] [0,1,3,4,23,24,52] none []) (.cond none (.two (.reg [] [5] none []) (.nil)) (.nil))))))))) (.reg [] [0,1,3,4,23,24] none []))))))) (.two (.reg [] [5] none []) (.nil))))
def aCL:FE:=⟨12,[],.two (.reg [] [1,2,3] none []) (.two (.reg [] [1,2,3,4] none []) (.two (.reg [] [1,2,3,4,5] none []) (.two (.reg [] [5] none []) (.reg [] [] none [(some 11,⟨[],[(11,.lf Lf.bool)],[(1,22,[.own 1])],[(0,1048576,0,some 0),(1,3,1,none)]⟩,MK 9)])))),⟨[],[]⟩⟩
section
variable (M:Den) (l:Nat) (lrow:List (List CV)) (p:List CV)
noncomputable def PUT:Nat→List (List CV)→List (List CV)→Option Ou
 | 0,_,_=>none
 | k+1,es,pens=>aB ((il pens) == (il lrow)) (chk (nX pens)<|aE (M 1048576 ([CV.val (.func (.yield l) #[] #[]),CV.fn 3 ([CV.row 1 []]),CV.row 0 es,CV.row 1 pens])) fun v0=>some (.ret [cb (gb v0 0),CV.row 0 (gr v0 1),CV.row 1 pens])) (chk (oks [.row 1] (List.drop 0 (List.drop 0 p)) 0)<|bO 0 (aJ (fun v0=>aB (decide ((gi v0 0)<(il (gr (List.drop 0 (List.drop 0 p)) 0)))) (chk (bJ (List.length (gr v0 2)) 1 8)<|chk (decide ((il ((gr v0 2)++(aN 1 1 [ci (gi v0 0)])))=(il ((gr v0 2)++(aN 1 1 [ci (gi v0 0)])))))<|chk (((decide (0≤0))&&(decide (0≤(il ((gr v0 2)++(aN 1 1 [ci (gi v0 0)]))))))&&(decide ((il ((gr v0 2)++(aN 1 1 [ci (gi v0 0)])))≤(il lrow))))<|aE (M 75 ([CV.ref p,CV.row 1 (List.drop 0 (List.take (Int.toNat (il ((gr v0 2)++(aN 1 1 [ci (gi v0 0)])))) lrow)),CV.row 1 ((gr v0 2)++(aN 1 1 [ci (gi v0 0)]))])) fun v1=>bN (aB (gb v1 1) (eW (PUT k (gr v0 1) ((gr v0 2)++(aN 1 1 [ci (gi v0 0)]))) fun v2=>some (.nx [cb (gb v2 0),CV.row 0 (gr v2 1),CV.row 1 (gr v2 2)])) (some (.nx ([cb true,CV.row 0 (gr v0 1),CV.row 1 ((gr v0 2)++(aN 1 1 [ci (gi v0 0)]))])))) fun v2=>chk ((decide (0≤(wr ((il (gr v2 2)) - 1))))&&(decide ((wr ((il (gr v2 2)) - 1))≤(il (gr v2 2)))))<|aB (!(gb v2 0)) (some (.ret [cb false,CV.row 0 (gr v2 1),CV.row 1 (List.take (Int.toNat (wr ((il (gr v2 2)) - 1))) (gr v2 2))])) (some (.nx [ci (wr ((gi v0 0)+1)),CV.row 0 (gr v2 1),CV.row 1 (List.take (Int.toNat (wr ((il (gr v2 2)) - 1))) (gr v2 2))]))) (some (.br 0 [CV.row 0 (gr v0 1),CV.row 1 (gr v0 2)]))) [ci 0,CV.row 0 es,CV.row 1 pens]) fun v0=>some (.ret [cb true,CV.row 0 (gr v0 0),CV.row 1 (gr v0 1)])) 
noncomputable def aCM (dp:Nat) (es:List (List CV)):Option Ou:=
 chk (decide ((0:Int)≤0)&&decide ((0:Int)≤il lrow)&&bJ (Int.toNat (il lrow)) 0 8)<|eW (PUT M l lrow p dp es []) fun v=>some (.ret [CV.row 0 (gr v 1)])
end
theorem aFg (M:Den) (l:Nat) (lrow:List (List CV)) (p:List CV) (es:List (List CV)):evY Try.prog sg M 11 aCL (aA Try.f116) l [.ref [.row 1 lrow],.ref [.ref p]] es=bC (aCM M l lrow p 9 es):=by kernel_rfl
end Go.Proofs.Ythkfohoccnnphaa
namespace Go.Proofs.Ythkfohoccnnphaa
open Go Go.Sx
set_option maxRecDepth 100000
def plc (ok:List (List CV)→Bool) (n len:Nat):Nat→List (List CV)→List (List (List CV))
 | 0,_=>[]
 | k+1,pens=>if pens.length=len then [pens] else (List.range n).flatMap fun (i:Nat)=>if ok (pens++[[ci (i:Int)]])=true then plc ok n len k (pens++[[ci (i:Int)]]) else []
def gS:List (List CV)→YF→List (List CV)→Option (Bool×List (List CV))
 | [],_,es=>some (true,es)
 | x::r,yf,es=>match yf es x with
  | some (true,es')=>gS r yf es'
  | some (false,es')=>some (false,es')
  | none=>none
theorem wL {yf:YF}:∀ (r1 r2:List (List CV)) (es:List (List CV)),gS (r1++r2) yf es=match gS r1 yf es with
  | some (true,es1)=>gS r2 yf es1
  | o=>o
 | [],r2,es=>rfl
 | x::r1,r2,es=>by
  simp only [List.cons_append,gS]
  cases h:yf es x with
  | none=>rfl
  | some q =>
   obtain ⟨b,es1⟩:=q
   cases b with
   | false=>rfl
   | true=>exact wL r1 r2 es1
theorem IC {yf:YF}:∀ (r:List (List CV)) (es:List (List CV)),lQ r yf es=(gS r yf es).map (·.2)
 | [],es=>rfl
 | x::r,es=>by
  simp only [lQ,gS]
  cases h:yf es x with
  | none=>rfl
  | some q =>
   obtain ⟨b,es1⟩:=q
   cases b with
   | false=>rfl
   | true=>exact IC r es1
def Ip (pens:List (List CV)):Prop:=∃ l:List Int,pens=l.map fun x=>[ci x]
theorem Ip.nil:Ip []:=⟨[],rfl⟩
theorem Ip.snoc {pens:List (List CV)} (h:Ip pens) (i:Int):Ip (pens++[[ci i]]):=by
 obtain ⟨l,rfl⟩:=h
 exact ⟨l++[i],by simp⟩
theorem ZU {M:Den} {l:Nat} {lrow:List (List CV)} {p:List CV} {yf:YF} {ok:List (List CV)→Bool} {n len:Nat}
  (hy:∀ es x,M ghT (CV.val (.func (.yield l) #[] #[])::CV.fn 3 [.row 1 []]::.row 0 es::x)=match yf es x with
   | some (b,es')=>some [cb b,.row 0 es']
   | none=>none)
  (hf:∀ pens,Ip pens→pens.length≤len→∃ c,M 75 [.ref p,.row 1 (lrow.take pens.length),.row 1 pens]=some [c,cb (ok pens)])
  (hl:lrow.length=len) (hlen:len<1000) (hn:(gr p 0).length=n) (hn2:n<1000000) (hp:oks [.row 1] p 0=true) :
  ∀ (k:Nat) (pens es:List (List CV)) (b:Bool) (es':List (List CV)),nX pens=true→Ip pens→pens.length≤len→gS ((plc ok n len k pens).map fun x=>[.row 1 x]) yf es=some (b,es')→len - pens.length<k →
   PUT M l lrow p k es pens=some (.ret [cb b,.row 0 es',.row 1 pens]):=by
 intro k
 induction k with
 | zero=>intro pens es b es' _ _ _ _ h;omega
 | succ k ih =>
  intro pens es b es' hfl hip hpl hfold hk
  unfold PUT
  by_cases he:pens.length=len
  ·have h1:(il pens == il lrow)=true:=by simp [il,he,hl]
   simp only [plc,if_pos he,List.map_cons,List.map_nil,gS] at hfold
   rw [h1]
   have h2:=hy es [.row 1 pens]
   simp only [aB,hfl,aC]
   rw [show (1048576:Nat)=ghT from rfl,h2]
   cases hyf:yf es [.row 1 pens] with
   | none=>rw [hyf] at hfold;cases hfold
   | some q =>
    obtain ⟨b1,es1⟩:=q
    rw [hyf] at hfold
    cases b1
    ·simp only [Option.some.injEq,Prod.mk.injEq] at hfold
     obtain ⟨rfl,rfl⟩:=hfold
     simp
    ·simp only [Option.some.injEq,Prod.mk.injEq] at hfold
     obtain ⟨rfl,rfl⟩:=hfold
     simp
  ·have h1:(il pens == il lrow)=false:=by simp [il,hl];omega
   simp only [plc,if_neg he] at hfold
   rw [h1]
   dsimp only [aB]
   rw [show oks [.row 1] (List.drop 0 (List.drop 0 p)) 0=true from hp,aC]
   generalize hstep:(fun v0:List CV=>_)=step
   have e0:∀ (i:Nat) (es:List (List CV)),step [ci (i:Int),CV.row 0 es,CV.row 1 pens]=aB (decide ((i:Int)<il (gr p 0)))
     (chk (bJ (List.length pens) 1 8)<|chk (decide (il (pens++[[ci (i:Int)]])=il (pens++[[ci (i:Int)]]))) <|
      chk (decide ((0:Int)≤0)&&decide ((0:Int)≤il (pens++[[ci (i:Int)]]))&&decide (il (pens++[[ci (i:Int)]])≤il lrow)) <|
      aE (M 75 [CV.ref p,CV.row 1 (lrow.take (Int.toNat (il (pens++[[ci (i:Int)]])))),CV.row 1 (pens++[[ci (i:Int)]])]) fun v1 =>
      bN (aB (gb v1 1) (eW (PUT M l lrow p k es (pens++[[ci (i:Int)]])) fun v2=>some (.nx [cb (gb v2 0),CV.row 0 (gr v2 1),CV.row 1 (gr v2 2)])) (some (.nx [cb true,CV.row 0 es,CV.row 1 (pens++[[ci (i:Int)]])])))
       fun v2=>chk (decide (0≤wr (il (gr v2 2) - 1))&&decide (wr (il (gr v2 2) - 1)≤il (gr v2 2))) (aB (!(gb v2 0)) (some (.ret [cb false,CV.row 0 (gr v2 1),CV.row 1 (List.take (Int.toNat (wr (il (gr v2 2) - 1))) (gr v2 2))])) (some (.nx [ci (wr ((i:Int)+1)),CV.row 0 (gr v2 1),CV.row 1 (List.take (Int.toNat (wr (il (gr v2 2) - 1))) (gr v2 2))]))))
     (some (.br 0 [CV.row 0 es,CV.row 1 pens])):=by
    intro i es
    subst hstep
    rfl
   have key:∀ (m i:Nat) (es:List (List CV)) (b:Bool) (es':List (List CV)),i+m=n→gS (((List.range' i m).flatMap fun (i:Nat)=>if ok (pens++[[ci (i:Int)]])=true then plc ok n len k (pens++[[ci (i:Int)]]) else []).map fun x=>[CV.row 1 x]) yf es=some (b,es') →
     aJ step [ci i,CV.row 0 es,CV.row 1 pens]=if b=true then some (.br 0 [CV.row 0 es',CV.row 1 pens]) else some (.ret [cb false,CV.row 0 es',CV.row 1 pens]):=by
    intro m
    induction m with
    | zero =>
     intro i es b es' hi hfo
     simp only [List.range'_zero,List.flatMap_nil,List.map_nil,gS,Option.some.injEq,Prod.mk.injEq] at hfo
     obtain ⟨rfl,rfl⟩:=hfo
     refine (bE (r:=some (.br 0 [CV.row 0 es,CV.row 1 pens])) ?_ (by simp)).trans (by simp)
     have:¬((i:Int)<il (gr p 0)):=by rw [vV,hn];omega
     rw [e0,decide_eq_false this]
     rfl
    | succ m ihm =>
     intro i es b es' hi hfo
     have hin:(i:Int)<il (gr p 0):=by rw [vV,hn];omega
     have hpl1:(pens++[[ci (i:Int)]]).length=pens.length+1:=by simp
     have hfl1:nX (pens++[[ci (i:Int)]])=true:=by
      simp only [nX,List.all_append,Bool.and_eq_true] at hfl ⊢
      exact ⟨hfl,by simp [CV.flat,ci]⟩
     obtain ⟨c75,h75⟩:=hf (pens++[[ci (i:Int)]]) (hip.snoc _) (by rw [hpl1];omega)
     rw [hpl1] at h75
     have hch:aN 1 1 [ci (i:Int)]=[[ci (i:Int)]]:=rfl
     have hil:il (pens++[[ci (i:Int)]])=((pens.length+1:Nat):Int):=by simp [il]
     have hwr:wr (il (pens++[[ci (i:Int)]]) - 1)=(pens.length:Int):=by rw [hil,bW] <;> omega
     have htk:List.take (Int.toNat (wr (il (pens++[[ci (i:Int)]]) - 1))) (pens++[[ci (i:Int)]])=pens:=by rw [hwr];simp
     have hwi:wr ((i:Int)+1)=((i+1:Nat):Int):=by rw [bW] <;> omega
     have hfit:bJ (List.length pens) 1 8=true:=bL (by omega) (by omega)
     have hlr:il lrow=(len:Int):=by simp [il,hl]
     simp only [List.range'_succ,List.flatMap_cons,List.map_append,wL] at hfo
     have hst:step [ci i,CV.row 0 es,CV.row 1 pens]=bN (aB (ok (pens++[[ci (i:Int)]])) (eW (PUT M l lrow p k es (pens++[[ci (i:Int)]])) fun v2=>some (.nx [cb (gb v2 0),CV.row 0 (gr v2 1),CV.row 1 (gr v2 2)])) (some (.nx [cb true,CV.row 0 es,CV.row 1 (pens++[[ci (i:Int)]])])))
       fun v2=>chk (decide (0≤wr (il (gr v2 2) - 1))&&decide (wr (il (gr v2 2) - 1)≤il (gr v2 2))) (aB (!(gb v2 0)) (some (.ret [cb false,CV.row 0 (gr v2 1),CV.row 1 (List.take (Int.toNat (wr (il (gr v2 2) - 1))) (gr v2 2))])) (some (.nx [ci (wr ((i:Int)+1)),CV.row 0 (gr v2 1),CV.row 1 (List.take (Int.toNat (wr (il (gr v2 2) - 1))) (gr v2 2))]))):=by
      have e1:Int.toNat ((pens.length+1:Nat):Int)=pens.length+1:=by omega
      have e2:(decide ((0:Int)≤0)&&decide ((0:Int)≤((pens.length+1:Nat):Int))&&decide (((pens.length+1:Nat):Int)≤(len:Int)))=true:=by
       simp only [Bool.and_eq_true,decide_eq_true_eq];omega
      rw [e0,decide_eq_true hin,hfit,hil,hlr,e1,e2,h75,decide_eq_true (rfl:((pens.length+1:Nat):Int)=((pens.length+1:Nat):Int))]
      rfl
     have fin:∀ (b1:Bool) (es1:List (List CV)),(chk (decide (0≤wr (il (pens++[[ci (i:Int)]]) - 1))&&decide (wr (il (pens++[[ci (i:Int)]]) - 1)≤il (pens++[[ci (i:Int)]]))) (aB (!b1) (some (Ou.ret [cb false,CV.row 0 es1,CV.row 1 (List.take (Int.toNat (wr (il (pens++[[ci (i:Int)]]) - 1))) (pens++[[ci (i:Int)]]))])) (some (.nx [ci (wr ((i:Int)+1)),CV.row 0 es1,CV.row 1 (List.take (Int.toNat (wr (il (pens++[[ci (i:Int)]]) - 1))) (pens++[[ci (i:Int)]]))]))))
       = if b1=true then some (.nx [ci ((i+1:Nat):Int),CV.row 0 es1,CV.row 1 pens]) else some (.ret [cb false,CV.row 0 es1,CV.row 1 pens]):=by
      intro b1 es1
      rw [htk,hwr,hil,hwi]
      have:(decide ((0:Int)≤(pens.length:Int))&&decide ((pens.length:Int)≤((pens.length+1:Nat):Int)))=true:=by simp only [Bool.and_eq_true,decide_eq_true_eq];omega
      rw [this]
      cases b1 <;> simp [aB]
     by_cases hok:ok (pens++[[ci (i:Int)]])=true
     ·rw [if_pos hok] at hfo
      rw [hok] at hst
      cases hsub:gS ((plc ok n len k (pens++[[ci (i:Int)]])).map fun x=>[CV.row 1 x]) yf es with
      | none=>rw [hsub] at hfo;cases hfo
      | some q =>
       obtain ⟨b1,es1⟩:=q
       rw [hsub] at hfo
       have MK:=ih (pens++[[ci (i:Int)]]) es b1 es1 hfl1 (hip.snoc _) (by rw [hpl1];omega) hsub (by rw [hpl1];omega)
       rw [MK] at hst
       simp only [aB,bS,bD,dL,bI,aV] at hst
       have hst2:=hst.trans (fin b1 es1)
       cases b1 with
       | false =>
        simp only [Option.some.injEq,Prod.mk.injEq] at hfo
        obtain ⟨rfl,rfl⟩:=hfo
        exact (bE hst2 (by simp)).trans (by simp)
       | true =>
        simp only at hfo
        rw [dP (by simpa using hst2)]
        exact ihm (i+1) es1 b es' (by omega) hfo
     ·rw [if_neg hok] at hfo
      simp only [List.map_nil,gS] at hfo
      rw [eq_false_of_ne_true hok] at hst
      simp only [aB,bD,dL,bI,aV] at hst
      have hst2:=hst.trans (fin true es)
      rw [dP (by simpa using hst2)]
      exact ihm (i+1) es b es' (by omega) hfo
   have h0:=key n 0 es b es' (by omega) (by rw [← List.range_eq_range'];exact hfold)
   rw [show (ci 0:CV)=ci ((0:Nat):Int) from rfl,h0]
   cases b <;> simp
end Go.Proofs.Ythkfohoccnnphaa
namespace Go.Proofs.Ythkfohoccnnphaa
open Go Go.Sx
set_option maxRecDepth 100000
theorem ZV {M:Den} (hM:∀ [Ghost],Fns Try.prog sg M) (hg:sg ghT=none) (hMg:∀ vs,M ghT vs=none) {lrow:List (List CV)} {p:List CV} {ok:List (List CV)→Bool} {n len:Nat}
  (hf:∀ pens,Ip pens→pens.length≤len→∃ c,M 75 [.ref p,.row 1 (lrow.take pens.length),.row 1 pens]=some [c,cb (ok pens)])
  (hl:lrow.length=len) (hlen:len<9) (hn:(gr p 0).length=n) (hn2:n<1000000) (hp:oks [.row 1] p 0=true) :
  qZ Try.prog 116 [.ref [.row 1 lrow],.ref [.ref p]] (.lent 3 1) (lQ ((plc ok n len 9 []).map fun x=>[.row 1 x])):=by
 refine KY (fn:=Try.f116) (c:=aA Try.f116) (fe:=aCL) (dp:=11) hM hg hMg (by kernel_rfl) (by kernel_rfl) (by kernel_rfl) (by kernel_rfl) ?_
 intro l yf es es' hR
 rw [aFg]
 rw [IC] at hR
 simp only [Option.map_eq_some_iff] at hR
 obtain ⟨⟨b,e1⟩,hR,rfl⟩:=hR
 have MK:=ZU (M:=withY M l (.lent 3 1) yf) (l:=l) (lrow:=lrow) (p:=p) (yf:=yf) (ok:=ok) (n:=n) (len:=len)
  (fun es x=>by
   simp only [withY,if_true,shC,and_self]
   cases yf es x with
   | none=>rfl
   | some q=>obtain ⟨b,e⟩:=q;rfl)
  (fun pens hip hpl=>by
   obtain ⟨c,h⟩:=hf pens hip hpl
   exact ⟨c,by unfold withY;rw [if_neg (by decide)];exact h⟩) hl (by omega) hn hn2 hp 9 [] es b e1 rfl Ip.nil (Nat.zero_le _) hR (by simp;omega)
 have hfit:bJ (Int.toNat (il lrow)) 0 8=true:=bL (by rw [vV,hl];omega) (by rw [vV,hl];omega)
 have h0:(decide ((0:Int)≤0)&&decide ((0:Int)≤il lrow)&&bJ (Int.toNat (il lrow)) 0 8)=true:=by
  rw [hfit];simp [vV]
 unfold aCM
 rw [h0,aC,MK]
 simp
end Go.Proofs.Ythkfohoccnnphaa
namespace Go.Proofs.Ythkfohoccnnphaa
open Go Go.Sx
set_option maxRecDepth 100000
set_option maxHeartbeats 0
def yE:Nat→Nat→HT
 | 0,_=>.nil
 | k+1,j=>.two (.reg [] [0,1,2,3,4,5] none []) (.two (.two (.reg [] [0,1,3,4,5,13] none []) (.cond none (.two (.reg [] [8] none [(some 16,⟨[],[],[],[]⟩,.yl (.clo [.one (Lf.row 1)]))]) (.nil)) (.nil))) (.two (.two (.reg [] [0,4,5,9] none []) (.blk ⟨[],[],[],[(0,1048576,0,some 0)]⟩ (.lp [] ⟨[0,4,5],[(9,.lf (Lf.int IntKind.i64))],[],[(0,1048576,0,some 0)]⟩ (.two (.two (.reg [] [0,4,5,9,20] none []) (.cond none (.nil) (.nil))) (.two (.thru (.two (.reg [] [0,4,5,9,32] none [(some 31,⟨[0,4,5,9],[(31,.lf Lf.bool)],[],[(0,1048576,0,some 0)]⟩,(.pre [.fz j] (yE k (j+1))))]) (.cond none (.two (.reg [] [8] none []) (.nil)) (.nil)))) (.reg [] [0,4,5,9] none [])))))) (.two (.reg [] [8] none []) (.nil))))
def ST:FE:=⟨8,[],.two (.reg [] [1,2,3] none []) (.two (.reg [] [1,2,3,4] none []) (.two (.reg [] [4] none []) (.reg [] [] none [(some 7,⟨[],[(7,.lf Lf.bool)],[],[(0,1048576,0,some 0)]⟩,yE 10 1)]))),⟨[],[]⟩⟩
section
variable (M:Den) (l:Nat) (many n:Int)
noncomputable def FG (G:List (List CV)→List (List CV)→Int→Option Ou) (c:CV) (len:Int) (es:List (List CV)) (frm:Int):Option Ou:=
 aB (len == many)
     (aE (M ghT ([CV.val (.func (.yield l) #[] #[]),CV.row 0 [[CV.row 1 []]],CV.row 0 es,c])) fun v0 =>
     some (.ret [cb (gb v0 0),CV.row 0 (gr v0 1)]))
     (bO 0 (aJ (fun v0 =>
       aB (decide ((gi v0 0)<n))
        (aE (M 76 [c]) fun v1 =>
        chk (GY 1 3 v1) <|
        chk (bJ (List.length (gr v1 0)) 1 8) <|
        eW (G (gr v0 1) ((gr v1 0)++(aN 1 1 [ci (gi v0 0)])) (wr ((gi v0 0)+1))) fun v2 =>
        aB (!(gb v2 0))
         (some (.ret [cb false,CV.row 0 (gr v2 1)]))
         (some (.nx [ci (wr ((gi v0 0)+1)),CV.row 0 (gr v2 1)])))
        (some (.br 0 [CV.row 0 (gr v0 1)]))) [ci frm,CV.row 0 es]) fun v0 =>
     some (.ret [cb true,CV.row 0 (gr v0 0)]))
noncomputable def VR:Nat→List (List CV)→List (List CV)→Int→Option Ou
 | 0,_,_,_=>none
 | k+1,es,lst,frm=>FG M l many n (VR k) (.row 1 lst) (il lst) es frm
noncomputable def SU (es:List (List CV)):Option Ou:=
 eW (FG M l many n (VR M l many n 9) (.val (.slice none 0 0)) 0 es 0) fun v=>some (.ret [CV.row 0 (gr v 1)])
end
theorem aBE (M:Den) (l:Nat) (many n:Int) (es:List (List CV)):evY Try.prog sg M 12 ST (aA Try.f121) l [.ref [ci many],.ref [ci n]] es=bC (SU M l many n es):=by kernel_rfl
end Go.Proofs.Ythkfohoccnnphaa
namespace Go.Proofs.Ythkfohoccnnphaa
open Go Go.Sx
set_option maxRecDepth 100000
def DN (n many:Nat):Nat→List (List CV)→Nat→List (List (List CV))
 | 0,_,_=>[]
 | k+1,lst,frm=>if lst.length=many then [lst] else (List.range' frm (n - frm)).flatMap fun (i:Nat)=>DN n many k (lst++[[ci (i:Int)]]) (i+1)
theorem CA {M:Den} {l:Nat} {n many:Nat} {yf:YF}
  (hy:∀ es x,M ghT (CV.val (.func (.yield l) #[] #[])::CV.row 0 [[CV.row 1 []]]::.row 0 es::x)=match yf es x with
   | some (b,es')=>some [cb b,.row 0 es']
   | none=>none)
  (hn:n<1000) {G:List (List CV)→List (List CV)→Int→Option Ou} {R:Nat→List (List CV)} {c:CV} {lst:List (List CV)} (hc:M 76 [c]=some [.row 1 lst,.fn 3 []]) (hlst:lst.length<1000) (hm:lst.length≤many)
  {frm:Nat} (hG:lst.length≠many→∀ (i:Nat) es b es',frm≤i→i<n→gS (R i) yf es=some (b,es')→G es (lst++[[ci (i:Int)]]) ((i+1:Nat):Int)=some (.ret [cb b,.row 0 es']))
  {es es':List (List CV)} {b:Bool} (hfold:gS (if lst.length=many then [[c]] else (List.range' frm (n - frm)).flatMap R) yf es=some (b,es')) :
  FG M l (many:Int) (n:Int) G c (lst.length:Int) es (frm:Int)=some (.ret [cb b,.row 0 es']):=by
 unfold FG
 by_cases he:lst.length=many
 ·rw [if_pos he] at hfold
  have h1:((lst.length:Int) == (many:Int))=true:=by simp [he]
  rw [h1]
  simp only [gS] at hfold
  simp only [aB,hy es [c]]
  cases hyf:yf es [c] with
  | none=>rw [hyf] at hfold;cases hfold
  | some q =>
   obtain ⟨b1,es1⟩:=q
   rw [hyf] at hfold
   cases b1 <;> (simp only [Option.some.injEq,Prod.mk.injEq] at hfold;obtain ⟨rfl,rfl⟩:=hfold;simp)
 ·rw [if_neg he] at hfold
  have h1:((lst.length:Int) == (many:Int))=false:=by simp;omega
  rw [h1]
  dsimp only [aB]
  generalize hstep:(fun v0:List CV=>_)=step
  have e0:∀ (i:Nat) (es:List (List CV)),step [ci (i:Int),CV.row 0 es]=aB (decide ((i:Int)<(n:Int)))
    (aE (M 76 [c]) fun v1=>chk (GY 1 3 v1)<|chk (bJ (List.length (gr v1 0)) 1 8) <|
     eW (G es ((gr v1 0)++[[ci (i:Int)]]) (wr ((i:Int)+1))) fun v2=>aB (!(gb v2 0)) (some (.ret [cb false,CV.row 0 (gr v2 1)])) (some (.nx [ci (wr ((i:Int)+1)),CV.row 0 (gr v2 1)])))
    (some (.br 0 [CV.row 0 es])):=by
   intro i es
   subst hstep
   rfl
  have hfit:bJ (List.length (gr [CV.row 1 lst,CV.fn 3 []] 0)) 1 8=true:=by rw [bI];exact bL (by omega) (by omega)
  have key:∀ (m i:Nat) (es:List (List CV)) (b:Bool) (es':List (List CV)),frm≤i→n - i=m→gS ((List.range' i m).flatMap R) yf es=some (b,es') →
    aJ step [ci (i:Int),CV.row 0 es]=if b=true then some (.br 0 [CV.row 0 es']) else some (.ret [cb false,CV.row 0 es']):=by
   intro m
   induction m with
   | zero =>
    intro i es b es' hfi hi hfo
    simp only [List.range'_zero,List.flatMap_nil,gS,Option.some.injEq,Prod.mk.injEq] at hfo
    obtain ⟨rfl,rfl⟩:=hfo
    refine (bE (r:=some (.br 0 [CV.row 0 es])) ?_ (by simp)).trans (by simp)
    have:¬((i:Int)<(n:Int)):=by omega
    rw [e0,decide_eq_false this]
    rfl
   | succ m ihm =>
    intro i es b es' hfi hi hfo
    have hin:(i:Int)<(n:Int):=by omega
    have hwi:wr ((i:Int)+1)=((i+1:Nat):Int):=by rw [bW] <;> omega
    simp only [List.range'_succ,List.flatMap_cons,wL] at hfo
    have hst:=e0 i es
    rw [decide_eq_true hin,hc] at hst
    dsimp only [aB] at hst
    rw [aD,show GY 1 3 [CV.row 1 lst,CV.fn 3 []]=true from rfl,aC,hfit,aC,bI,hwi] at hst
    cases hsub:gS (R i) yf es with
    | none=>rw [hsub] at hfo;cases hfo
    | some q =>
     obtain ⟨b1,es1⟩:=q
     rw [hsub] at hfo
     rw [hG he i es b1 es1 hfi (by omega) hsub,bS,bD,dL,bI] at hst
     cases b1 with
     | false =>
      simp only [Option.some.injEq,Prod.mk.injEq] at hfo
      obtain ⟨rfl,rfl⟩:=hfo
      exact (bE hst (by simp)).trans (by simp)
     | true =>
      rw [dP (by simpa using hst)]
      exact ihm (i+1) es1 b es' (by omega) (by omega) hfo
  rw [key (n - frm) frm es b es' (Nat.le_refl _) rfl hfold]
  cases b <;> simp
end Go.Proofs.Ythkfohoccnnphaa
namespace Go.Proofs.Ythkfohoccnnphaa
open Go Go.Sx
set_option maxRecDepth 100000
theorem ML (n many k:Nat) (lst:List (List CV)) (frm:Nat):DN n many (k+1) lst frm=if lst.length=many then [lst] else (List.range' frm (n - frm)).flatMap fun (i:Nat)=>DN n many k (lst++[[ci (i:Int)]]) (i+1):=rfl
theorem FH {M:Den} {l:Nat} {n many:Nat} {yf:YF}
  (hy:∀ es x,M ghT (CV.val (.func (.yield l) #[] #[])::CV.row 0 [[CV.row 1 []]]::.row 0 es::x)=match yf es x with
   | some (b,es')=>some [cb b,.row 0 es']
   | none=>none)
  (hn:n<1000) (hmany:many<1000) (hc:∀ lst:List (List CV),lst.length<1000→M 76 [.row 1 lst]=some [.row 1 lst,.fn 3 []]) :
  ∀ (k:Nat) (lst:List (List CV)) (frm:Nat) (es:List (List CV)) (b:Bool) (es':List (List CV)),lst.length≤many→n - frm<k→gS ((DN n many k lst frm).map fun x=>[CV.row 1 x]) yf es=some (b,es') →
   VR M l (many:Int) (n:Int) k es lst (frm:Int)=some (.ret [cb b,.row 0 es'])
 | 0,_,_,_,_,_,_,h,_=>by omega
 | k+1,lst,frm,es,b,es',hm,hk,hfold=>by
  show FG M l many n (VR M l many n k) (.row 1 lst) (il lst) es frm=_
  rw [vV]
  refine CA (R:=fun i=>(DN n many k (lst++[[ci (i:Int)]]) (i+1)).map fun x=>[CV.row 1 x]) hy hn (hc lst (by omega)) (by omega) hm ?_ ?_
  ·intro hne i es b es' hfi hi hf
   exact FH hy hn hmany hc k (lst++[[ci (i:Int)]]) (i+1) es b es' (by simp;omega) (by omega) hf
  ·simp only [DN] at hfold
   split at hfold
   ·rename_i he;rw [if_pos he];simpa using hfold
   ·rename_i he;rw [if_neg he];simpa [List.map_flatMap] using hfold
theorem QE {M:Den} (hM:∀ [Ghost],Fns Try.prog sg M) (hg:sg ghT=none) (hMg:∀ vs,M ghT vs=none) {n many:Nat} (hn:n<9) (hm0:0<many) (hmany:many<1000)
  (hc:∀ lst:List (List CV),lst.length<1000→M 76 [.row 1 lst]=some [.row 1 lst,.fn 3 []]) (hc0:M 76 [.val (.slice none 0 0)]=some [.row 1 [],.fn 3 []]) :
  qZ Try.prog 121 [.ref [ci (many:Int)],.ref [ci (n:Int)]] (.clo [.one (.row 1)]) (lQ ((DN n many 10 [] 0).map fun x=>[.row 1 x])):=by
 refine KY (fn:=Try.f121) (c:=aA Try.f121) (fe:=ST) (dp:=12) hM hg hMg (by kernel_rfl) (by kernel_rfl) (by kernel_rfl) (by kernel_rfl) ?_
 intro l yf es es' hR
 rw [aBE]
 rw [IC] at hR
 simp only [Option.map_eq_some_iff] at hR
 obtain ⟨⟨b,e1⟩,hR,rfl⟩:=hR
 have hy:∀ es x,withY M l (.clo [.one (.row 1)]) yf ghT (CV.val (.func (.yield l) #[] #[])::CV.row 0 [[CV.row 1 []]]::.row 0 es::x)=match yf es x with
   | some (b,es')=>some [cb b,.row 0 es']
   | none=>none:=fun es x=>by
  simp only [withY,if_true,shC,scC,lfC,List.map_cons,List.map_nil,and_self]
  cases yf es x with
  | none=>rfl
  | some q=>obtain ⟨b,e⟩:=q;rfl
 have h76:∀ vs,withY M l (.clo [.one (.row 1)]) yf 76 vs=M 76 vs:=fun vs=>by unfold withY;rw [if_neg (by decide)]
 have hne:¬(([]:List (List CV)).length=many):=by simp;omega
 have hstep:=CA (M:=withY M l (.clo [.one (.row 1)]) yf) (l:=l) (n:=n) (many:=many) (yf:=yf) (G:=VR (withY M l (.clo [.one (.row 1)]) yf) l many n 9) (c:=.val (.slice none 0 0)) (lst:=[]) (frm:=0) (es:=es) (es':=e1) (b:=b)
  (R:=fun i=>(DN n many 9 ([]++[[ci (i:Int)]]) (i+1)).map fun x=>[CV.row 1 x]) hy (by omega) (by rw [h76];exact hc0) (by simp) (by simp)
  (fun _ i es b es' _ hi hf=>FH hy (by omega) hmany (fun lst hl=>by rw [h76];exact hc lst hl) 9 ([]++[[ci (i:Int)]]) (i+1) es b es' (by simp;omega) (by omega) hf)
  (by rw [if_neg hne];rw [ML,if_neg hne,List.map_flatMap] at hR;exact hR)
 unfold SU
 rw [show FG (withY M l (.clo [.one (.row 1)]) yf) l (many:Int) (n:Int) (VR (withY M l (.clo [.one (.row 1)]) yf) l many n 9) (.val (.slice none 0 0)) 0 es 0=some (.ret [cb b,.row 0 e1]) from hstep]
 simp
end Go.Proofs.Ythkfohoccnnphaa
namespace Go.Proofs.Ythkfohoccnnphaa
open Go Go.Sx
set_option maxRecDepth 100000
theorem aBF (M:Den) (lst:List (List CV)):aBo Try.prog (fun _=>none) M aDq (aA Try.f76) [.row 1 lst]=bC (vC lst (some (.ret [.row 1 [],.fn 3 []])) (chk (bJ 0 (List.length lst) 8)<|some (.ret [.row 1 lst,.fn 3 []]))):=by kernel_rfl
theorem QF (M:Den) {lst:List (List CV)} (h:lst.length<1000000):aBo Try.prog (fun _=>none) M aDq (aA Try.f76) [.row 1 lst]=some [.row 1 lst,.fn 3 []]:=by
 rw [aBF,aDm (bL (by omega) (by omega)),SA]
 ·rfl
 ·rintro rfl;rfl
end Go.Proofs.Ythkfohoccnnphaa
namespace Go.Proofs.Ythkfohoccnnphaa
open Go Go.Sx
set_option maxRecDepth 100000
noncomputable section
variable [G:Ghost]
def jZ:List CV→Option (List CV)
 | [.row 1 lst]=>if lst.length<1000000 then some [.row 1 lst,.fn 3 []] else none
 | [.val (.slice none 0 0)]=>some [.row 1 [],.fn 3 []]
 | _=>none
theorem CB {lst:List (List CV)} (h:lst.length<1000000):qY Try.prog 76 [.cv (.row 1 lst)] 3 1 lst:=
 PM (fe:=aDq) (c:=aA Try.f76) (fn:=Try.f76) (vs:=[.row 1 lst]) (Fns.none' _) (Yls.none (fun _=>rfl)) (Its.none' _) (by kernel_rfl) (by kernel_rfl) (by kernel_rfl) (by kernel_rfl) (QF (fun _ _=>none) h)
theorem MM:qY Try.prog 76 [.cv (.val (.slice none 0 0))] 3 1 []:=by
 have h:=CB (lst:=[]) (by decide)
 intro F n hF hro n0 w0 e w vs he hm hv hs
 refine h F n hF hro n0 w0 e w vs he hm ?_ hs
 match vs,hv with
 | vs,hv =>
  generalize vs.toList=us at hv ⊢
  match us,hv with
  | [u],hv =>
   simp only [AV.all,AV.holds,CV.holds,and_true] at hv ⊢
   exact ⟨none,0,hv.1,Nat.le_refl _,by decide,Or.inl trivial⟩
def MN:ITS:=[(76,jZ)]
def ID (f:Nat) (it:List CV→Option (List CV)):Prop:=∀ caps out,it caps=some out →
 (∀ rows sh,out=[.row 0 rows,shC sh]→dJ Try.prog f=true∧qZ Try.prog f caps sh (lQ rows)) ∧
 (∀ xs,intsOf out=some xs→dJ Try.prog f=true∧RT Try.prog f caps xs) ∧
 (∀ k es T,out=[.row k es,.fn T []]→dJ Try.prog f=true∧qY Try.prog f (caps.map .cv) T k es) ∧
 (∀ T k cs es es' hdr,caps=.row k es::.fn T []::cs→out=[.row k es',.val (.bool hdr)]→dJ Try.prog f=true∧JU Try.prog f T k cs es es' hdr) ∧
 (∀ k T by_,caps=[]→out=[.row k [],.fn T [],.fn by_ []]→dJ Try.prog f=true∧aAZ Try.prog f T k by_) ∧
 (∀ T fs,caps=.fn T []::fs.map (fun g=>.fn g [])→out=[.fn 0 []]→dJ Try.prog f=true∧OM Try.prog f T fs)
theorem ZW {f:Nat} {it:List CV→Option (List CV)} (h:∀ caps out,it caps=some out→caps≠[]∧∃ es,out=[.row 1 es,.fn 3 []]∧dJ Try.prog f=true∧qY Try.prog f (caps.map .cv) 3 1 es):ID f it:=by
 intro caps out ho
 obtain ⟨hc,es,rfl,he,hs⟩:=h caps out ho
 refine ⟨fun rows sh hr=>by simp at hr,fun xs hx=>by simp [intsOf] at hx,fun k es' T hr=>?_,fun T k cs e e' hdr h1 h2=>by simp at h2,fun k T b h1=>absurd h1 hc,fun T fs h1 h2=>by simp at h2⟩
 simp only [List.cons.injEq,CV.row.injEq,CV.fn.injEq,and_true] at hr
 obtain ⟨⟨rfl,rfl⟩,rfl⟩:=hr
 exact ⟨he,hs⟩
theorem FI:ID 76 jZ:=ZW fun caps out h=>by
 unfold jZ at h
 split at h
 ·split at h
  ·rename_i lst hl
   cases h
   exact ⟨by simp,lst,rfl,by kernel_rfl,CB hl⟩
  ·cases h
 ·cases h
  exact ⟨by simp,[],rfl,by kernel_rfl,MM⟩
 ·cases h
theorem aBG:RY Try.prog MN:=by
 intro e he
 simp only [MN,List.mem_singleton] at he
 subst he
 exact FI
theorem MO (n:Nat):Fns Try.prog sg (D MN n):=RZ aBG (by constructor <;> kernel_rfl) aCK n
end
noncomputable section
theorem ZX (n:Nat) {lst:List (List CV)} (h:lst.length<1000000):D MN (n+1) 76 [.row 1 lst]=some [.row 1 lst,.fn 3 []]:=by
 show jZ [.row 1 lst]=_
 simp [jZ,h]
theorem VS (n:Nat):D MN (n+1) 76 [.val (.slice none 0 0)]=some [.row 1 [],.fn 3 []]:=rfl
theorem aCN (n:Nat) (vs:List CV):D MN n ghT vs=none:=ZB (by constructor <;> kernel_rfl) n vs
end
end Go.Proofs.Ythkfohoccnnphaa
namespace Go.Proofs.Ythkfohoccnnphaa
open Go Go.Sx Go.Pen
set_option maxRecDepth 100000
theorem aDs (i:Int) (a b:List (List CV)) (f:Nat→Int) (k:Kd):upA k.cv (ci i::.row 1 a::.row 4 b::st f)=.row 1 a::.row 4 b::st (PO f k.sort k.room k.eats k.apart):=by kernel_rfl
theorem aDt (s:Int) (a b:List (List CV)) (f:Nat→Int) (k:Kd):upB k.cv (ci s::.row 1 a::.row 4 b::st f)=.row 1 a::.row 4 b::st (PP f k.sort.toNat (orI (gi (.row 1 a::.row 4 b::st f) (42+k.sort.toNat*1)) s.toNat)):=by kernel_rfl
theorem aDu (s:Int) (x:List CV) (a b:List (List CV)) (f:Nat→Int) (k:Kd):upC k.cv (ci s::x) (.row 1 a::.row 4 b::st f)=.row 1 a::.row 4 b::st (PP f s.toNat (orI (gi (.row 1 a::.row 4 b::st f) (42+s.toNat*1)) k.sort.toNat)):=by kernel_rfl
theorem zK (s:Int) (a b:List (List CV)) (f:Nat→Int):cat [[CV.row 1 (gr (ci s::.row 1 a::.row 4 b::st f) 1),CV.row 4 (gr (ci s::.row 1 a::.row 4 b::st f) 2)],cis (ci s::.row 1 a::.row 4 b::st f) 3 50]=.row 1 a::.row 4 b::st f:=by kernel_rfl
theorem IE (a b:List (List CV)) (f:Nat→Int):cat [[CV.row 1 (gr (.row 1 a::.row 4 b::st f) 0),CV.row 4 (gr (.row 1 a::.row 4 b::st f) 1)],cis (.row 1 a::.row 4 b::st f) 2 50]=.row 1 a::.row 4 b::st f:=by kernel_rfl
theorem ZY (f:Nat→Int) {j:Nat} (h:j<50):(st f)[j]? = some (ci (f j)):=by simp [st,h]
theorem aCO (a b:List (List CV)) (f:Nat→Int) {m:Nat} (h:m<10):gi (.row 1 a::.row 4 b::st f) (42+m*1)=f (40+m):=by
 have e:42+m*1=(40+m)+1+1:=by omega
 rw [e,cA,cA,gi,List.getD_eq_getElem?_getD,ZY f (by omega)]
 rfl
theorem aBH (f:Nat→Int):jD (st f)=true:=by simp [jD,st,LA]
theorem QG (a b:List (List CV)) (f:Nat→Int) {m n:Nat} (h:m+n≤50):oks (List.replicate n li) (.row 1 a::.row 4 b::st f) (2+m)=true:=by
 rw [show 2+m=m+1+1 by omega,tQ,tQ]
 exact mJ (aBH f) (by simp [st];omega)
theorem IF (a b:List (List CV)) (f:Nat→Int) {m:Nat} (h:m<10):oks [li] (.row 1 a::.row 4 b::st f) (42+m*1)=true:=by
 have:=QG a b f (m:=40+m) (n:=1) (by omega)
 rw [show 2+(40+m)=42+m*1 by omega] at this
 exact this
theorem VT (k:Kd) (hk:k.ok=true) (a b:List (List CV)) (f:Nat→Int) {s:Nat} (hs:s<10) :
  VQ k.cv (ci (s:Int)::.row 1 a::.row 4 b::st f)=some (.nx (ci ((s+1:Nat):Int)::.row 1 a::.row 4 b::st (inner k f s))):=by
 unfold Kd.ok within at hk
 simp only [Bool.and_eq_true,decide_eq_true_eq] at hk
 obtain ⟨⟨⟨⟨⟨h1,h2⟩,h3,h4⟩,h5,h6⟩,h7,h8⟩,h9⟩:=hk
 have hm:k.sort.toNat<10:=by omega
 have e1:gi k.cv 0=k.sort:=rfl
 have e3:gi k.cv 3=k.apart:=rfl
 have hw:=aO (show s<9223372036854775807 by omega)
 have hb:((wr (Int.ofNat (bAN (Int.fdiv k.apart ((2:Int) ^ (min s 64))) 1))) == 1)=bit k.apart s:=by
  have:k.apart=((k.apart.toNat:Nat):Int):=by omega
  rw [this,BE _ _ (by omega)]
  rfl
 have hc1:decide (k.sort<Int.ofNat 10)=true:=by simp only [decide_eq_true_eq];show k.sort<10;omega
 have hc2:decide ((s:Int)<Int.ofNat 10)=true:=by simp only [decide_eq_true_eq];show (s:Int)<10;omega
 have hc3:decide ((0:Int)≤(s:Int))=true:=by simp
 have hc4:decide ((0:Int)≤k.sort)=true:=by simp;omega
 have hlt:decide ((s:Int)<10)=true:=by simp;omega
 unfold VQ
 rw [aL,hlt]
 simp only [zK,aDt,e1,e3,Int.toNat_natCast,hb,hc1,hc2,hc3,hc4,Bool.and_self,aC,IF a b _ hm,IF a b _ hs,hw,aCO a b _ hm]
 cases hbb:bit k.apart s with
 | false =>
  simp only [aB,aV,IE,inner,hbb,Bool.false_eq_true,if_false]
  rfl
 | true =>
  simp only [aB,aV,IE,aDu,inner,hbb,IF a b _ hs,aC,Int.toNat_natCast,aCO a b _ hs,if_true]
  rfl
end Go.Proofs.Ythkfohoccnnphaa
namespace Go.Proofs.Ythkfohoccnnphaa
open Go Go.Sx Go.Pen
set_option maxRecDepth 100000
theorem aBI (x:CV) (a b:List (List CV)) (f:Nat→Int):cat [[x,CV.row 1 (gr (.row 1 a::.row 4 b::st f) 0),CV.row 4 (gr (.row 1 a::.row 4 b::st f) 1)],cis (.row 1 a::.row 4 b::st f) 2 50]=x::.row 1 a::.row 4 b::st f:=by kernel_rfl
theorem ZZ (k:Kd) (a b:List (List CV)) (f:Nat→Int):VQ k.cv (ci ((10:Nat):Int)::.row 1 a::.row 4 b::st f)=some (.br 2 (.row 1 a::.row 4 b::st f)):=by
 unfold VQ
 rw [aL,show decide (((10:Nat):Int)<10)=false by decide]
 simp only [aB,zK]
theorem VU (k:Kd) (hk:k.ok=true) (a b:List (List CV)) (f:Nat→Int) :
  aJ (VQ k.cv) (ci 0::.row 1 a::.row 4 b::st f)=some (.br 2 (.row 1 a::.row 4 b::st ((List.range 10).foldl (inner k) f))):=by
 rw [AZ (List.range 10) (fun i f=>ci (i:Int)::.row 1 a::.row 4 b::st f) (inner k) 2 (fun f=>.row 1 a::.row 4 b::st f) f ?hv ?hs ?he]
 case hv=>rfl
 case hs =>
  intro i h f
  rw [List.getElem_range]
  exact VT k hk a b f (by simpa using h)
 case he =>
  intro f
  rw [List.length_range]
  exact ZZ k a b f
theorem QH (y:Yard) (hk:∀ k∈y.kinds,k.ok=true) (a b:List (List CV)) (f:Nat→Int) {i:Nat} (hi:i<y.kinds.length) (hl:y.kinds.length<1000) :
  MF y.ks (ci (i:Int)::.row 1 a::.row 4 b::st f)=some (.nx (ci ((i+1:Nat):Int)::.row 1 a::.row 4 b::st (EX f y.kinds[i]))):=by
 have hk1:=hk _ (List.getElem_mem hi)
 have hk2:=hk1
 unfold Kd.ok within at hk1
 simp only [Bool.and_eq_true,decide_eq_true_eq] at hk1
 obtain ⟨⟨⟨⟨⟨h1,h2⟩,h3,h4⟩,h5,h6⟩,h7,h8⟩,h9⟩:=hk1
 have hlt:decide ((i:Int)<(y.kinds.length:Int))=true:=by simp;omega
 have hc1:decide (y.kinds[i].sort<Int.ofNat 10)=true:=by simp only [decide_eq_true_eq];show y.kinds[i].sort<10;omega
 have hc2:decide ((0:Int)≤y.kinds[i].sort)=true:=by simp;omega
 have hw:=aO (show i<9223372036854775807 by omega)
 have e0:gi y.kinds[i].cv 0=y.kinds[i].sort:=rfl
 have e1:oks (List.replicate 4 li) y.kinds[i].cv 0=true:=mJ (by simp [jD,Kd.cv,LA]) (by simp [Kd.cv])
 unfold MF
 simp only [aL,LEq,hlt,gD hi,kV hi,aC,e0,e1,hc1,hc2,Bool.and_self,zK]
 rw [QG a b f (m:=y.kinds[i].sort.toNat*4) (n:=4) (by omega)]
 simp only [aB,aC,aDs,aV,aBI,VU _ hk2,bR,hw]
 rfl
theorem VV (y:Yard) (a b:List (List CV)) (f:Nat→Int):MF y.ks (ci (y.kinds.length:Int)::.row 1 a::.row 4 b::st f)=some (.br 0 (.row 1 a::.row 4 b::st f)):=by
 unfold MF
 rw [aL,LEq,show decide ((y.kinds.length:Int)<(y.kinds.length:Int))=false by simp]
 simp only [aB,zK]
theorem CC (its:ITS) (n:Nat) {y:Yard} (hy:y.ok=true):D its (n+1) hZ [.row 1 y.ps,.row 4 y.ks]=some [.ref (pc y)]:=by
 have hl:=(bM hy).2
 have hk:∀ k∈y.kinds,k.ok=true:=by
  unfold Yard.ok at hy
  simp only [Bool.and_eq_true,List.all_eq_true] at hy
  exact hy.1.2
 rw [BX]
 unfold npR
 rw [AZ y.kinds (fun i f=>ci (i:Int)::.row 1 y.ps::.row 4 y.ks::st f) EX 0 (fun f=>.row 1 y.ps::.row 4 y.ks::st f) (fun _=>0) ?hv ?hs ?he]
 case hv=>kernel_rfl
 case hs=>exact fun i h f=>QH y hk _ _ f h (by omega)
 case he=>exact fun f=>VV y _ _ f
 rw [bR,IE]
 rfl
end Go.Proofs.Ythkfohoccnnphaa
namespace Go.Proofs.Ythkfohoccnnphaa
open Go Go.Sx Go.Pen
set_option maxRecDepth 10000
attribute [local simp] Bool.and_assoc Bool.or_assoc
variable {its:ITS}
@[simp] theorem fF (x:List CV):dS (.ref x)=true:=rfl
@[simp] theorem lW (x:List CV):cF (.ref x)=x:=rfl
theorem CD (M:Den) (x:CV):mE sg M (.fn cH []) [x] [.one li] [.one lb]=M cH [x]:=rfl
theorem DO (M:Den) (p:List CV) (x:CV):mE sg M (.fn aZ [.ref [.ref p]]) [x] [.one li] [.one lb]=M aZ [x,.ref [.ref p]]:=rfl
@[simp] theorem MP (n:Nat) (a b c:Int):D its (n+1) dU [ci a,ci b,ci c]=some [cb (within a b c)]:=by
  rw [ZQ];simp [LX,within]
@[simp] theorem CE (n:Nat) (a b c:Int):D its (n+1) cU [ci a,ci b,ci c]=some [cb (within a b c)]:=by
  rw [HY];simp [uC,within]
theorem aAa {a:Int} (h0:0≤a) (h1:a≤1023):decide (wr (Int.ofNat (bAN a 1))=0)=decide (a % 2=0):=by
 obtain ⟨m,rfl⟩:∃ m:Nat,a=m:=⟨a.toNat,by omega⟩
 rw [show bAN (m:Int) 1=m &&& 1 from HN m 1 (by omega) (by decide)]
 have h3:m &&& 1≤1:=Nat.and_le_right
 rw [Int.ofNat_eq_natCast,bW (by omega) (by omega),Nat.and_one_is_mod]
 by_cases h:m % 2=0
 ·rw [decide_eq_true (by omega),decide_eq_true (by omega)]
 ·rw [decide_eq_false (by omega),decide_eq_false (by omega)]
theorem VW {a:Int} (h0:0≤a) (h1:a≤1023):wr (bAN a 1:Int)=0↔a % 2=0:=by
 have:=aAa h0 h1
 simpa using this
@[simp] theorem aFh (n:Nat) (k:Kd):D its (n+2) nK [ci k.sort,ci k.room,ci k.eats,ci k.apart]=some [cb k.ok]:=by
  rw [HQ]
  by_cases h:within k.apart 0 1023=true
  ·have h':=h
   simp only [within,Bool.and_eq_true,decide_eq_true_eq] at h'
   simp [nL,Kd.ok,h,VW h'.1 h'.2,AY]
  ·simp [nL,Kd.ok,h,AY]
@[simp] theorem aAb (n:Nat) (a:Int):D its (n+2) cH [ci a]=some [cb (!within a 0 1000)]:=by
  rw [sN];simp [lD]
theorem nP {A:Type} {l:List A} {p:A→Bool}:l.findIdx? p=none↔l.any p=false:=by
 rw [List.findIdx?_eq_none_iff,Bool.eq_false_iff]
 simp [List.any_eq_true]
theorem yV (n:Nat) (l:List Int) (f:CV) (p:Int→Bool) (hl:l.length<9223372036854775807) (hf:∀ x∈l,mE sg (D its n) f [ci x] [.one li] [.one lb]=some [cb (p x)]) :
  D its (n+1) eK [.row 1 (ints l),f]=some [ci (LB (l.findIdx? p))]:=by
 have hf':∀ i (h:i<l.length),mE sg (D its n) f [ci l[i]] [.one li] [.one lb]=some [cb (p l[i])]:=fun i h=>hf _ (List.getElem_mem h)
 rw [nM]
 unfold iA
 rw [kU p l (fun i=>some (.ret [ci (i:Int)])) (some (.br 0 [])) (fun i=>[ci (i:Int)]) ?hv ?hR ?hX (fun i hi hp=>?h1) (fun i hi hp=>?h2) ?h3]
 case hv=>rfl
 case hR=>simp
 case hX=>simp
 case h3=>simp
 case h1=>simp [hi,hp,aG,aI,hf',aO (show i<9223372036854775807 by omega)]
 case h2=>simp [hi,hp,aG,aI,hf']
 ·cases l.findIdx? p <;> simp [LB]
theorem lH (n:Nat) (l:List Int) (f:CV) (p:Int→Bool) (hl:l.length<9223372036854775807) (hf:∀ x∈l,mE sg (D its n) f [ci x] [.one li] [.one lb]=some [cb (p x)]) :
  D its (n+2) cC [.row 1 (ints l),f]=some [cb (l.any p)]:=by
 rw [lL]
 simp only [fK,yV n l f p hl hf]
 cases hh:l.findIdx? p with
 | some i =>
  have:l.any p=true:=by
   cases hc:l.any p with
   | true=>rfl
   | false=>rw [nP.2 hc] at hh;cases hh
  simp [LB,this]
 | none=>simp [LB,nP.1 hh]
theorem CF:∀ (l:List Int),rising l=true↔∀ i (h:i+1<l.length),l[i]<l[i+1]
 | []=>by simp [rising]
 | [a]=>by simp [rising]
 | a::b::l=>by
  simp only [rising,Bool.and_eq_true,decide_eq_true_eq]
  have ih:=CF (b::l)
  simp only [rising,Bool.and_eq_true] at ih
  rw [ih]
  constructor
  ·rintro ⟨h1,h2⟩ i hi
   cases i with
   | zero=>exact h1
   | succ i=>exact h2 i (by simpa using hi)
  ·intro h
   exact ⟨h 0 (by simp),fun i hi=>h (i+1) (by simpa using hi)⟩
def uF (ks:List Kd) (i:Nat):Bool:=match ks[i]? with
 | some k=>!k.ok || (decide (0<i)&&match ks[i - 1]? with | some j=>decide (k.sort≤j.sort) | none=>false)
 | none=>false
theorem VX (ks:List Kd):(List.range ks.length).find? (uF ks)=none↔(ks.all Kd.ok&&rising (ks.map Kd.sort))=true:=by
 rw [List.find?_eq_none,Bool.and_eq_true,List.all_eq_true,CF]
 constructor
 ·intro h
  constructor
  ·intro k hk
   obtain ⟨i,hi,rfl⟩:=List.mem_iff_getElem.1 hk
   have:=h i (by simpa using hi)
   simp only [uF,List.getElem?_eq_getElem hi,Bool.not_eq_true,Bool.or_eq_false_iff,Bool.not_eq_false'] at this
   exact this.1
  ·intro i hi
   simp only [List.length_map] at hi
   have:=h (i+1) (by simpa using hi)
   simp only [uF,List.getElem?_eq_getElem hi,Bool.not_eq_true,Bool.or_eq_false_iff,Nat.add_sub_cancel,List.getElem?_eq_getElem (show i<ks.length by omega)] at this
   have:=this.2
   simp at this
   simpa using this
 ·rintro ⟨h1,h2⟩ i hi
  rw [List.mem_range] at hi
  simp only [uF,List.getElem?_eq_getElem hi,h1 _ (List.getElem_mem hi),Bool.not_true,Bool.false_or,Bool.not_eq_true,Bool.and_eq_false_iff]
  cases i with
  | zero=>simp
  | succ i =>
   right
   have:=h2 i (by simpa using hi)
   simp only [List.getElem_map] at this
   rw [Nat.add_sub_cancel,List.getElem?_eq_getElem (show i<ks.length by omega)]
   simp;omega
theorem iY (k:Kd):oks (List.replicate 4 li) k.cv 0=true:=mJ (by simp [jD,Kd.cv,LA]) (by simp [Kd.cv])
theorem uG (k:Kd):oks [li] k.cv 0=true:=mJ (n:=1) (by simp [jD,Kd.cv,LA]) (by simp [Kd.cv])
theorem zL (k:Kd):cis k.cv 0 4=k.cv:=rfl
@[simp] theorem aDv (k:Kd):gi k.cv 0=k.sort:=rfl
@[simp] theorem aGH (k:Kd):gi k.cv 1=k.room:=rfl
@[simp] theorem aGI (k:Kd):gi k.cv 2=k.eats:=rfl
@[simp] theorem aGJ (k:Kd):gi k.cv 3=k.apart:=rfl
theorem uH (y:Yard):iL y=if y.pens.length > 5∨y.pens.any (fun x=>!within x 0 1000)=true then 50 else match (List.range y.kinds.length).find? (uF y.kinds) with | some _=>50 | none=>0:=by
 have e:(y.pens.any fun x=>!within x 0 1000)=!y.pens.all fun n=>within n 0 1000:=by
  rw [List.all_eq_not_any_not,Bool.not_not]
 unfold iL Yard.ok
 rw [e]
 have hb:=VX y.kinds
 cases hf:(List.range y.kinds.length).find? (uF y.kinds) with
 | none =>
  have:=hb.1 hf
  simp only [Bool.and_eq_true] at this
  simp [this.1,this.2]
  grind
 | some i =>
  have:¬(y.kinds.all Kd.ok&&rising (y.kinds.map Kd.sort))=true:=fun h=>by rw [hb.2 h] at hf;cases hf
  simp only [Bool.and_eq_true] at this
  simp
  grind
theorem yF (n:Nat) (y:Yard) (h1:y.pens.length<9223372036854775807) (h2:y.kinds.length<9223372036854775807):D its (n+6) fY [.row 1 y.ps,.row 4 y.ks]=some [ci (iL y)]:=by
 rw [yR]
 have hc:=lH (its:=its) (n+3) y.pens (.fn cH []) (fun x=>!within x 0 1000) h1 (fun x _=>by rw [CD];simp)
 unfold oC
 rw [dI y.kinds.length (fun i=>[ci (i:Int)]) (uF y.kinds) (fun _=>some (.ret [ci 50])) (some (.br 0 [])) ?hv ?hR ?hX (fun i hi hp=>?s1) (fun i hi hp=>?s2) ?s3]
 case hv=>rfl
 case hR=>simp
 case hX=>simp
 case s3=>simp
 case s1 =>
  simp only [uF,List.getElem?_eq_getElem hi,Bool.or_eq_false_iff,Bool.not_eq_false'] at hp
  obtain ⟨hp1,hp2⟩:=hp
  have hwn:=aO (show i<9223372036854775807 by omega)
  by_cases h0:0<i
  ·have hi':i - 1<y.kinds.length:=by omega
   have hw:=jU h0 (show i<9223372036854775807 by omega)
   simp only [h0,decide_true,Bool.true_and,List.getElem?_eq_getElem hi'] at hp2
   have hp3:¬y.kinds[i].sort≤y.kinds[i - 1].sort:=by simpa using hp2
   simp [hi,gD hi,kV hi,iY,zL,hp1,hwn,h0,hw,gD hi',kV hi',uG,hp3,-List.reduceReplicate]
  ·simp [hi,gD hi,kV hi,iY,zL,hp1,hwn,h0,-List.reduceReplicate]
 case s2 =>
  simp only [uF,List.getElem?_eq_getElem hi] at hp
  cases hok:y.kinds[i].ok with
  | false=>simp [hi,gD hi,kV hi,iY,zL,hok,-List.reduceReplicate]
  | true =>
   rw [hok] at hp
   by_cases h0:0<i
   ·have hi':i - 1<y.kinds.length:=by omega
    have hw:=jU h0 (show i<9223372036854775807 by omega)
    simp only [h0,decide_true,Bool.true_and,Bool.not_true,Bool.false_or,List.getElem?_eq_getElem hi'] at hp
    have hp3:y.kinds[i].sort≤y.kinds[i - 1].sort:=by simpa using hp
    simp [hi,gD hi,kV hi,iY,zL,hok,h0,hw,gD hi',kV hi',uG,hp3,-List.reduceReplicate]
   ·simp [h0] at hp
 ·rw [uH]
  simp only [Yard.ps] at hc ⊢
  rw [hc]
  simp
  by_cases h5:5<y.pens.length
  ·have h5':5<(y.pens.length:Int):=by omega
   simp [h5,h5']
  ·have:¬(5<(y.pens.length:Int)):=by omega
   simp [h5,this]
   split
   ·rfl
   ·cases (List.range y.kinds.length).find? (uF y.kinds) <;> simp
end Go.Proofs.Ythkfohoccnnphaa
namespace Go.Proofs.Ythkfohoccnnphaa
open Go Go.Sx Go.Pen
set_option maxRecDepth 10000
attribute [local simp] Bool.and_assoc Bool.or_assoc
variable {its:ITS}
@[simp] theorem rD (y:Yard):gr (pc y) 0=y.ps:=rfl
@[simp] theorem CG (y:Yard):oks [.row 1] (pc y) 0=true:=rfl
theorem zM (l:List CV) (n:Nat):gi (l.drop n) 0=gi l n:=by simp [gi]
theorem uI (ls:List Lf) (l:List CV) (n:Nat):oks ls (l.drop n) 0=oks ls l n:=by
 induction ls generalizing n with
 | nil=>rfl
 | cons a ls ih =>
  simp only [oks,List.getElem?_drop,Nat.add_zero,Nat.zero_add]
  have h1:oks ls (l.drop n) 1=oks ls l (n+1):=by
   rw [← ih (n+1)]
   have:l.drop (n+1)=(l.drop n).drop 1:=by rw [List.drop_drop]
   rw [this]
   cases l.drop n with
   | nil=>cases ls <;> simp [oks]
   | cons c cs=>rw [List.drop_one,List.tail_cons,tQ]
  rw [h1]
theorem aCP (y:Yard) {j:Nat} (h:j<50):gi (pc y) (2+j)=pf y j:=by
 rw [show 2+j=j+1+1 by omega]
 unfold pc
 rw [cA,cA,gi,List.getD_eq_getElem?_getD,ZY _ h]
 rfl
theorem aAc (y:Yard) {j:Nat} (h:j<50):oks [li] (pc y) (2+j)=true:=QG (n:=1) _ _ _ (by omega)
theorem nQ {y:Yard} (hy:y.ok=true) {s:Int} (h0:0≤s) (h1:s≤9) {c:Nat} (hc:c<4) :
  gi (List.drop c (List.drop (s.toNat*4) (List.drop 2 (pc y)))) 0=[(kd y s).sort,(kd y s).room,(kd y s).eats,(kd y s).apart].getD c 0∧oks [li] (List.drop c (List.drop (s.toNat*4) (List.drop 2 (pc y)))) 0=true:=by
 rw [zM,uI,List.drop_drop]
 have h2:gi (List.drop (2+s.toNat*4) (pc y)) c=gi (pc y) (2+(4*s.toNat+c)):=by
  rw [← zM (List.drop _ _),List.drop_drop,zM]
  congr 1;omega
 have h3:oks [li] (List.drop (2+s.toNat*4) (pc y)) c=oks [li] (pc y) (2+(4*s.toNat+c)):=by
  rw [← uI _ (List.drop _ _),List.drop_drop,uI]
  congr 1;omega
 rw [h2,h3]
 rw [aCP y (by omega),aAc y (by omega),aBx hy (by omega) hc,show ((s.toNat:Nat):Int)=s by omega]
 exact ⟨rfl,rfl⟩
theorem zN {y:Yard} {s:Int} (h0:0≤s) (h1:s≤9):gi (List.drop (s.toNat*1) (List.drop 42 (pc y))) 0=pf y (40+s.toNat)∧oks [li] (List.drop (s.toNat*1) (List.drop 42 (pc y))) 0=true:=by
 rw [List.drop_drop,zM,uI]
 rw [show 42+s.toNat*1=2+(40+s.toNat) by omega,aCP y (by omega),aAc y (by omega)]
 exact ⟨rfl,rfl⟩
theorem aFi {s:Int} (h0:0≤s) (h1:s≤9):(decide (0≤s)&&decide (s<Int.ofNat 10))=true:=by
 simp only [Bool.and_eq_true,decide_eq_true_eq]
 exact ⟨h0,by show s<10;omega⟩
theorem has_eq {y:Yard} (hy:y.ok=true) (s:Int):has y s=(within s 1 9&&decide ((kd y s).sort=s)):=by
 cases h:has y s with
 | true =>
  have h1:=kD hy h
  have h2:=(qH h).2
  simp [within,h1.1,h1.2,h2]
 | false =>
  rw [tU h]
  cases hw:within s 1 9 with
  | false=>rfl
  | true =>
   simp only [within,Bool.and_eq_true,decide_eq_true_eq] at hw
   have:¬(kz.sort=s):=by show ¬(0:Int)=s;omega
   simp [this]
@[simp] theorem aAd (n:Nat) {y:Yard} (hy:y.ok=true) (s:Int):D its (n+2) dF [.ref (pc y),ci s]=some [cb (has y s)]:=by
  rw [sL,has_eq hy]
  unfold lB
  rw [MP,aD,bD]
  cases hw:within s 1 9 with
  | false=>rfl
  | true =>
   simp only [within,Bool.and_eq_true,decide_eq_true_eq] at hw
   obtain ⟨e1,e2⟩:=nQ hy (s:=s) (by omega) (by omega) (c:=0) (by omega)
   rw [aFi (by omega) (by omega),e1,e2]
   rfl
theorem DP (n:Nat) {y:Yard} (hy:y.ok=true) (s:Int):D its (n+3) aZ [ci s,.ref [.ref (pc y)]]=some [cb (!has y s)]:=by
 rw [lF]
 simp [fD,aAd _ hy,oks,Lf.ok]
theorem IG {A:Type} (l:List A) (p:A→Bool):(l.any fun x=>!p x)=!l.all p:=by
 rw [List.all_eq_not_any_not,Bool.not_not]
theorem QI (n:Nat) {y:Yard} (hy:y.ok=true) (l:List Int) (hl:l.length<9223372036854775807):D its (n+6) dV [.ref (pc y),.row 1 (ints l)]=some [cb (aQ y l)]:=by
 rw [mP]
 have hc:=lH (its:=its) (n+3) l (.fn aZ [.ref [.ref (pc y)]]) (fun s=>!has y s) hl (fun x _=>by rw [DO,DP n hy])
 rw [IG] at hc
 unfold gQ
 rw [hc,aF]
 by_cases h:l.length≤8
 ·have h':((l.length:Int)≤8):=by omega
  simp [aQ,h,h']
 ·have h':¬((l.length:Int)≤8):=by omega
  simp [aQ,h,h']
def eB (b:Bool) (x:List CV):CV:=if b=true then .ref x else .val (Value.pointer none)
theorem qI (n:Nat) (y:Yard) (l:List Int) (h1:y.pens.length<9223372036854775807) (h2:y.kinds.length<9223372036854775807) (hl:l.length<9223372036854775807) :
  D its (n+7) jF [.row 1 y.ps,.row 4 y.ks,.row 1 (ints l)]=some [eB (asked y l == 0) (pc y),ci (asked y l)]:=by
 rw [LV]
 unfold xW
 rw [yF _ y h1 h2]
 unfold iL asked
 cases hy:y.ok with
 | false=>simp [eB]
 | true =>
  simp only [if_true,aD,aL,CC its _ hy,List.getD_cons_zero,lW,QI _ hy l hl,bD]
  cases hs:aQ y l with
  | false=>simp [eB]
  | true=>simp [eB]
theorem eN {y:Yard} {l:List Int} (h:asked y l=0):y.ok=true∧aQ y l=true:=by
 unfold asked at h
 cases hy:y.ok with
 | false=>rw [hy] at h;simp at h
 | true =>
  cases hs:aQ y l with
  | false=>rw [hy,hs] at h;simp at h
  | true=>exact ⟨rfl,rfl⟩
theorem bF {y:Yard} {l:List Int} (h:aQ y l=true):l.length≤8:=by
 unfold aQ at h
 simp only [Bool.and_eq_true,decide_eq_true_eq] at h
 exact h.1
theorem wM {y:Yard} {l:List Int} (h:aQ y l=true):∀ s∈l,has y s=true:=by
 unfold aQ at h
 simp only [Bool.and_eq_true,List.all_eq_true] at h
 exact h.2
end Go.Proofs.Ythkfohoccnnphaa
namespace Go.Proofs.Ythkfohoccnnphaa
open Go Go.Sx Go.Pen
set_option maxRecDepth 10000
attribute [local simp] Bool.and_assoc Bool.or_assoc
variable {its:ITS}
theorem MQ {y:Yard} (h:y.ok=true) (s:Int):rm y s≤1000:=by
 unfold rm
 cases hs:has y s with
 | false=>rw [tU hs];show (0:Int)≤1000;omega
 | true =>
  have hm:=(qH hs).1
  unfold Yard.ok at h
  simp only [Bool.and_eq_true,List.all_eq_true,Kd.ok,within,decide_eq_true_eq] at h
  exact (h.1.2 _ hm).1.1.1.2.2
theorem aGK (a b:CV):spl [a] 0 [b]=[b]:=rfl
theorem li1 (x:Int):oks [li] [ci x] 0=true:=rfl
theorem aDw {y:Yard} {l p:List Int} (h:p.length=l.length):okP y l p=okZ y (l.zip p):=by
 unfold okP;simp [h]
theorem aAe {y:Yard} {z:BP}:(List.range z.length).find? (fun i=>!okZ y (z.take (i+1)))=none↔okZ y z=true:=by
 rw [List.find?_eq_none]
 constructor
 ·intro h
  cases hz:z.length with
  | zero=>rw [List.length_eq_zero_iff.1 hz];rfl
  | succ n =>
   have:=h n (by simp [hz])
   rw [← hz,List.take_length] at this
   simpa using this
 ·intro h i _
  simp [ZK h]
theorem aAf (n:Nat) {y:Yard} (hy:y.ok=true) (l p:List Int) (hl:∀ s∈l,1≤s∧s≤9) (hll:l.length<1000000) (hpl:p.length<9223372036854775807) :
  D its (n+2) fN [.ref (pc y),.row 1 (ints l),.row 1 (ints p)]=some [eB (p.length == l.length&&okZ y (l.zip p)) [.row 1 (ints (eM y (l.zip p))),.row 1 (ints (fB y (l.zip p)))],cb (p.length == l.length&&okZ y (l.zip p))]:=by
 have h5:=(bM hy).1
 rw [qM]
 unfold jQ
 have hf:bJ y.pens.length 0 8=true:=bL (by omega) (by omega)
 have hf0:(decide ((0:Int)≤(y.pens.length:Int))&&decide ((y.pens.length:Int)≤(y.pens.length:Int))&&bJ y.pens.length 0 8)=true:=by rw [hf];simp
 simp only [List.drop_zero,rD,CG,aC,eV,Int.toNat_natCast,hf0]
 have e1:y.ps.length=y.pens.length:=by simp [Yard.ps]
 rw [e1,List.length_replicate,decide_eq_true (Nat.le_refl _),aC,bS]
 have e2:List.drop y.pens.length (List.replicate y.pens.length [ci 0])=[]:=by simp
 rw [e2,List.append_nil,bI,dL,bI,aF,aF]
 by_cases hlen:l.length=p.length
 case neg =>
  have:((l.length:Int) != (p.length:Int))=true:=by simp;omega
  rw [this]
  have h2:(p.length == l.length)=false:=by simp;omega
  rw [h2]
  rfl
 case pos =>
  have:((l.length:Int) != (p.length:Int))=false:=by simp;omega
  rw [this]
  have h2:(p.length == l.length)=true:=by simp;omega
  rw [h2,Bool.true_and]
  simp only [aB]
  have hzl:(l.zip p).length=p.length:=by simp [hlen]
  have hz9:∀ (i:Nat),∀ x∈(l.zip p).take i,1≤x.1∧x.1≤9:=fun i x hx=>hl _ (List.of_mem_zip (List.mem_of_mem_take hx)).1
  rw [rY p.length (fun i=>[ci (i:Int),.row 1 (ints (eM y ((l.zip p).take i))),.row 1 (ints (fB y ((l.zip p).take i)))]) (fun i=>!okZ y ((l.zip p).take (i+1))) (fun _=>some (.ret [.val (Value.pointer none),cb false]))
   (some (.br 0 [.row 1 (ints (eM y (l.zip p))),.row 1 (ints (fB y (l.zip p)))])) ?hv ?hR ?hX (fun i hi hj hp=>?s1) (fun i hi hj hp=>?s2) (fun hj=>?s3)]
  case hv=>simp [VI,VJ,Yard.ps]
  case hR=>simp
  case hX=>simp
  case s3 =>
   rw [← hzl,List.take_length]
   simp [hzl]
  case s1 =>
   simp only [Bool.not_eq_false'] at hp
   have hzi:i<(l.zip p).length:=by omega
   have hli:i<l.length:=by omega
   rw [← List.take_append_getElem hzi,oW,Bool.and_eq_true] at hp
   have hzg:(l.zip p)[i]=(l[i],p[i]):=by simp
   rw [hzg] at hp
   obtain ⟨hp1,hp2⟩:=hp
   have hs9:=hl _ (List.getElem_mem hli)
   have hw:=hp2
   unfold jO at hw
   simp only [Bool.and_eq_true] at hw
   have hin:=hw.1.1
   have hin':=hin
   simp only [within,Bool.and_eq_true,decide_eq_true_eq] at hin'
   obtain ⟨q,hq⟩:∃ q:Nat,p[i]=q:=⟨p[i].toNat,by omega⟩
   have hqn:q<y.pens.length:=by omega
   rw [rZ hy (hz9 i) hs9 hin (zH hy (a:=l[i].toNat) (by omega) |>.congr fun b _=>by rw [show ((l[i].toNat:Nat):Int)=l[i] by omega])] at hp2
   simp only [Bool.and_eq_true,decide_eq_true_eq] at hp2
   rw [hq] at hp2 hin
   simp only [Int.toNat_natCast] at hp2
   obtain ⟨k1,k2⟩:=nQ hy (s:=l[i]) (by omega) (by omega) (c:=1) (by omega)
   obtain ⟨k3,k4⟩:=zN (y:=y) (s:=l[i]) (by omega) (by omega)
   have k5:((0:Int)≤l[i])=True:=eq_true (by omega)
   have k7:(l[i]<Int.ofNat 10)=True:=eq_true (by show l[i]<10;omega)
   have hd:y.pens.getD q 0=y.pens[q]:=by simp [hqn]
   have hpr:=sB hy hqn
   have hwi:=aO (show i<9223372036854775807 by omega)
   have hwn:wr ((y.pens.length:Int) - 1)=(y.pens.length:Int) - 1:=by rw [bW] <;> omega
   have hld0:=LL hy ((l.zip p).take i) q
   have hrm0:=fH hy l[i]
   have hrm1:=MQ hy l[i]
   have e3:inb (q:Int) (ints (eM y ((l.zip p).take i)))=true:=aG (by simpa using hqn)
   have e4:el (ints (eM y ((l.zip p).take i))) (q:Int)=[ci (y.pens[q] - Pen.load y ((l.zip p).take i) q)]:=by rw [aI (by simpa using hqn),vZ,hd]
   have e5:inb (q:Int) (ints (fB y ((l.zip p).take i)))=true:=aG (by simpa using hqn)
   have e6:el (ints (fB y ((l.zip p).take i))) (q:Int)=[ci (fA ((l.zip p).take i) q:Int)]:=by rw [aI (by simpa using hqn),wB]
   have hroom:([(kd y l[i]).sort,(kd y l[i]).room,(kd y l[i]).eats,(kd y l[i]).apart].getD 1 0)=rm y l[i]:=rfl
   rw [hd] at hp2
   have hwr:wr (y.pens[q] - Pen.load y ((l.zip p).take i) q - rm y l[i])=y.pens[q] - Pen.load y ((l.zip p).take i) q - rm y l[i]:=by rw [bW] <;> omega
   have horr:=(SE (fA ((l.zip p).take i) q) l[i].toNat (LJ (fun x hx=>(hz9 i x hx).2) q) (by omega)).1
   unfold orI at horr
   have hlt:((i:Int)<(p.length:Int))=True:=eq_true (by omega)
   have hql1:(q<y.pens.length)=True:=eq_true hqn
   have hrl:(rm y l[i]≤y.pens[q] - Pen.load y ((l.zip p).take i) q)=True:=eq_true hp2.1
   have hfin1:(ints (eM y ((l.zip p).take i))).set q [ci (y.pens[q] - Pen.load y ((l.zip p).take i) q - rm y l[i])]=ints (eM y ((l.zip p).take (i+1))):=by
    rw [ints_set,← List.take_append_getElem hzi,hzg,hq,PR y _ _ hqn]
   have hfin2:(ints (fB y ((l.zip p).take i))).set q [ci ((fA ((l.zip p).take i) q ||| 2 ^ l[i].toNat:Nat):Int)]=ints (fB y ((l.zip p).take (i+1))):=by
    rw [ints_set,← List.take_append_getElem hzi,hzg,hq,PS y _ _ hqn]
   simp only [aL,cA,bI,dL,aF,hlt,aG hi,aI hi,li1,aC,MP,aD,bD,hwn,hq,hin,aG hli,aI hli,Bool.not_true,aB,k1,k2,k3,k4,k5,k7,e3,e4,e5,e6,Int.toNat_natCast,aH,EY,EZ,hql1,hroom,hrl,hp2.2,bS,aV,hwr,horr,hwi,decide_true,Bool.and_self,aGK,hfin1,hfin2,Nat.le_refl]
  case s2 =>
   simp only [Bool.not_eq_true'] at hp
   have hzi:i<(l.zip p).length:=by omega
   have hli:i<l.length:=by omega
   have hp0:okZ y ((l.zip p).take i)=true:=by
    cases i with
    | zero=>rfl
    | succ i=>have:=hj i (by omega);simpa using this
   have hzg:(l.zip p)[i]=(l[i],p[i]):=by simp
   rw [← List.take_append_getElem hzi,oW,hp0,Bool.true_and,hzg] at hp
   have hs9:=hl _ (List.getElem_mem hli)
   have hwn:wr ((y.pens.length:Int) - 1)=(y.pens.length:Int) - 1:=by rw [bW] <;> omega
   have hlt:((i:Int)<(p.length:Int))=True:=eq_true (by omega)
   cases hin:within p[i] 0 ((y.pens.length:Int) - 1) with
   | false =>
    simp only [aL,cA,bI,dL,aF,hlt,aG hi,aI hi,li1,aC,MP,aD,bD,hwn,hin,Bool.not_false,aB,aV,decide_true]
   | true =>
    have hin':=hin
    simp only [within,Bool.and_eq_true,decide_eq_true_eq] at hin'
    obtain ⟨q,hq⟩:∃ q:Nat,p[i]=q:=⟨p[i].toNat,by omega⟩
    have hqn:q<y.pens.length:=by omega
    rw [rZ hy (hz9 i) hs9 hin (zH hy (a:=l[i].toNat) (by omega) |>.congr fun b _=>by rw [show ((l[i].toNat:Nat):Int)=l[i] by omega])] at hp
    rw [hq] at hp hin
    simp only [Int.toNat_natCast] at hp
    obtain ⟨k1,k2⟩:=nQ hy (s:=l[i]) (by omega) (by omega) (c:=1) (by omega)
    obtain ⟨k3,k4⟩:=zN (y:=y) (s:=l[i]) (by omega) (by omega)
    have k5:((0:Int)≤l[i])=True:=eq_true (by omega)
    have k7:(l[i]<Int.ofNat 10)=True:=eq_true (by show l[i]<10;omega)
    have hd:y.pens.getD q 0=y.pens[q]:=by simp [hqn]
    have e3:inb (q:Int) (ints (eM y ((l.zip p).take i)))=true:=aG (by simpa using hqn)
    have e4:el (ints (eM y ((l.zip p).take i))) (q:Int)=[ci (y.pens[q] - Pen.load y ((l.zip p).take i) q)]:=by rw [aI (by simpa using hqn),vZ,hd]
    have e5:inb (q:Int) (ints (fB y ((l.zip p).take i)))=true:=aG (by simpa using hqn)
    have e6:el (ints (fB y ((l.zip p).take i))) (q:Int)=[ci (fA ((l.zip p).take i) q:Int)]:=by rw [aI (by simpa using hqn),wB]
    have hroom:([(kd y l[i]).sort,(kd y l[i]).room,(kd y l[i]).eats,(kd y l[i]).apart].getD 1 0)=rm y l[i]:=rfl
    simp only [hd] at hp
    have hql1:(q<y.pens.length)=True:=eq_true hqn
    simp only [aL,cA,bI,dL,aF,hlt,aG hi,aI hi,li1,aC,MP,aD,bD,hwn,hq,hin,aG hli,aI hli,Bool.not_true,aB,k1,k2,k3,k4,k5,k7,e3,e4,e5,e6,Int.toNat_natCast,aH,EY,EZ,hql1,hroom,decide_true,Bool.and_self]
    cases hr:decide (rm y l[i]≤y.pens[q] - Pen.load y ((l.zip p).take i) q) with
    | false=>rfl
    | true =>
     rw [hr,Bool.true_and] at hp
     simp only [hp,bS,bD,Bool.not_false,aV]
  ·have hfz:=aAe (y:=y) (z:=l.zip p)
   rw [hzl] at hfz
   cases hf:(List.range p.length).find? (fun i=>!okZ y ((l.zip p).take (i+1))) with
   | none=>rw [hfz.1 hf];simp [eB]
   | some i =>
    have:okZ y (l.zip p)=false:=by
     cases hc:okZ y (l.zip p) with
     | false=>rfl
     | true=>rw [hfz.2 hc] at hf;cases hf
    simp [this,eB]
end Go.Proofs.Ythkfohoccnnphaa
namespace Go.Proofs.Ythkfohoccnnphaa
open Go Go.Sx Go.Pen
set_option maxRecDepth 10000
attribute [local simp] Bool.and_assoc Bool.or_assoc
variable {its:ITS}
theorem aAg (x:Int) {d:Decidable (0 > x)}:@ite Int (0 > x) d 0 x=max 0 x:=by split <;> omega
theorem aDx (x z:Int) {d:Decidable (x<z)}:@ite Int (x<z) d x z=min z x:=by split <;> omega
theorem uJ (s:Stay):oks [li,li,li] s.cv 0=true:=rfl
@[simp] theorem aDy (s:Stay):gi s.cv 0=s.sort:=rfl
@[simp] theorem aDz (s:Stay):gi s.cv 1=s.inn:=rfl
@[simp] theorem aDA (s:Stay):gi s.cv 2=s.out:=rfl
theorem zO (y:Yard) (s:Int):([(kd y s).sort,(kd y s).room,(kd y s).eats,(kd y s).apart].getD 1 0)=rm y s:=rfl
theorem aBJ (y:Yard) (s:Int):([(kd y s).sort,(kd y s).room,(kd y s).eats,(kd y s).apart].getD 2 0)=(kd y s).eats:=rfl
theorem w_room (n:Nat) {y:Yard} (hy:y.ok=true) (l:List Int) (hl:∀ s∈l,1≤s∧s≤9) (hll:l.length<1000000) :
  D its (n+1) jP [.ref (pc y),.row 1 (ints l)]=some [ci (rA y l)]:=by
 rw [qN]
 unfold jR
 rw [(bP l (fun i (s:Int)=>[ci s,ci (i:Int)]) (fun n s=>n+rm y s) (fun i s=>0≤s∧s≤1000*(i:Int)) 0 (fun s=>[ci s]) 0 ?hv ?h0 ?hs ?he).1]
 case hv=>rfl
 case h0=>simp
 case hs =>
  intro i hi s hP
  have h9:=hl _ (List.getElem_mem hi)
  obtain ⟨k1,k2⟩:=nQ hy (s:=l[i]) (by omega) (by omega) (c:=1) (by omega)
  have r0:=fH hy l[i]
  have r1:=MQ hy l[i]
  have hlt:((i:Int)<(l.length:Int))=True:=eq_true (by omega)
  have k5:((0:Int)≤l[i])=True:=eq_true (by omega)
  have k7:(l[i]<Int.ofNat 10)=True:=eq_true (by show l[i]<10;omega)
  have hw:wr (s+rm y l[i])=s+rm y l[i]:=by rw [bW] <;> omega
  refine ⟨?_,by omega,by omega⟩
  simp only [aL,cA,aF,hlt,decide_true,aB,aG hi,aI hi,li1,aC,k5,k7,Bool.and_self,k1,k2,zO,hw,aO (show i<9223372036854775807 by omega)]
 case he=>intro s _;simp
 ·simp [rA]
theorem aBK (n:Nat) {y:Yard} (hy:y.ok=true) {a b:Int} (ha:1≤a∧a≤9) (hb:1≤b∧b≤9):D its (n+1) jG [.ref (pc y),ci a,ci b]=some [cb (apt y a b)]:=by
 rw [pK]
 unfold jJ
 obtain ⟨k3,k4⟩:=zN (y:=y) (s:=a) (by omega) (by omega)
 obtain ⟨m,hm,hm2,ht⟩:=zH hy (a:=a.toNat) (by omega)
 have hbb:m.testBit b.toNat=apt y a b:=by
  have:m.testBit b.toNat=true↔apt y (a.toNat:Int) (b.toNat:Int)=true:=ht b.toNat (by omega)
  rw [show ((a.toNat:Nat):Int)=a by omega,show ((b.toNat:Nat):Int)=b by omega] at this
  rw [Bool.eq_iff_iff];exact this
 rw [aFi (by omega) (by omega),k3,k4,hm,BE m b.toNat (by omega),hbb,decide_eq_true (show (0:Int)≤b by omega)]
 rfl
theorem aAh (n:Nat) {y:Yard} (hy:y.ok=true) (s:Stay):D its (n+3) eR [.ref (pc y),ci s.sort,ci s.inn,ci s.out]=some [cb (kW y s)]:=by
 rw [oH]
 simp [iH,aAd _ hy,kW,AY]
theorem II (n:Nat) {y:Yard} (hy:y.ok=true) (s:Stay):D its (n+4) dA [ci s.sort,ci s.inn,ci s.out,.ref [.ref (pc y)]]=some [cb (!kW y s)]:=by
 rw [wK]
 simp [mT,aAh _ hy,oks,Lf.ok]
theorem IJ (M:Den) (p:List CV) (a b c:CV):mE sg M (.fn dA [.ref [.ref p]]) [a,b,c] [.agg [li,li,li]] [.one lb]=M dA [a,b,c,.ref [.ref p]]:=rfl
theorem wN (n:Nat) (l:List Stay) (f:CV) (p:Stay→Bool) (hl:l.length<9223372036854775807) (hf:∀ x∈l,mE sg (D its n) f [ci x.sort,ci x.inn,ci x.out] [.agg [li,li,li]] [.one lb]=some [cb (p x)]) :
  D its (n+1) dW [.row 3 (stays l),f]=some [ci (LB (l.findIdx? p))]:=by
 have hf':∀ i (h:i<l.length),mE sg (D its n) f [ci l[i].sort,ci l[i].inn,ci l[i].out] [.agg [li,li,li]] [.one lb]=some [cb (p l[i])]:=fun i h=>hf _ (List.getElem_mem h)
 rw [mS]
 unfold gR
 rw [kU p l (fun i=>some (.ret [ci (i:Int)])) (some (.br 0 [])) (fun i=>[ci (i:Int)]) ?hv ?hR ?hX (fun i hi hp=>?h1) (fun i hi hp=>?h2) ?h3]
 case hv=>rfl
 case hR=>simp
 case hX=>simp
 case h3=>simp
 case h1=>simp [hi,hp,kE,mM,uJ,hf',aO (show i<9223372036854775807 by omega)]
 case h2=>simp [hi,hp,kE,mM,uJ,hf']
 ·cases l.findIdx? p <;> simp [LB]
theorem qO (n:Nat) (l:List Stay) (f:CV) (p:Stay→Bool) (hl:l.length<9223372036854775807) (hf:∀ x∈l,mE sg (D its n) f [ci x.sort,ci x.inn,ci x.out] [.agg [li,li,li]] [.one lb]=some [cb (p x)]) :
  D its (n+2) dG [.row 3 (stays l),f]=some [cb (l.any p)]:=by
 rw [lG]
 simp only [fE,wN n l f p hl hf]
 cases hh:l.findIdx? p with
 | some i =>
  have:l.any p=true:=by
   cases hc:l.any p with
   | true=>rfl
   | false=>rw [nP.2 hc] at hh;cases hh
  simp [LB,this]
 | none=>simp [LB,nP.1 hh]
theorem wO (n:Nat) (y:Yard) (l:List Stay) (h1:y.pens.length<9223372036854775807) (h2:y.kinds.length<9223372036854775807) (hl:l.length<9223372036854775807) :
  D its (n+7) iX [.row 1 y.ps,.row 4 y.ks,.row 3 (stays l)]=some [eB (dM y l == 0) (pc y),ci (dM y l)]:=by
 rw [DL]
 unfold rB
 rw [yF _ y h1 h2]
 unfold iL dM
 cases hy:y.ok with
 | false=>simp [eB]
 | true =>
  have hc:=qO (its:=its) (n+4) l (.fn dA [.ref [.ref (pc y)]]) (fun s=>!kW y s) hl (fun x _=>by rw [IJ,II n hy])
  rw [IG] at hc
  simp only [if_true,aD,aL,CC its _ hy,List.getD_cons_zero,lW,pB,hc,bD]
  by_cases h:l.length≤40
  ·have h':((l.length:Int)≤40):=by omega
   have h'':¬40<(l.length:Int):=by omega
   cases ha:l.all (kW y) <;> simp [hQ,h,h'',ha,eB]
  ·have h':¬((l.length:Int)≤40):=by omega
   have h'':40<(l.length:Int):=by omega
   simp [hQ,h,h'',eB]
theorem sR {y:Yard} {l:List Stay} (h:dM y l=0):y.ok=true∧hQ y l=true:=by
 unfold dM at h
 cases hy:y.ok with
 | false=>rw [hy] at h;simp at h
 | true =>
  cases hs:hQ y l with
  | false=>rw [hy,hs] at h;simp at h
  | true=>exact ⟨rfl,rfl⟩
theorem uK {y:Yard} {l:List Stay} (h:hQ y l=true):l.length≤40∧∀ s∈l,kW y s=true:=by
 unfold hQ at h
 simp only [Bool.and_eq_true,List.all_eq_true,decide_eq_true_eq] at h
 exact h
theorem aBL (n:Nat) (l:List Stay) (d:Int) (hl:l.length<1000000):D its (n+1) xO [.row 3 (stays l),ci d]=some [.row 1 (ints (dH l d))]:=by
 rw [LY]
 unfold xY
 rw [(bP l (fun i (_:Unit)=>[ci (i:Int),.row 1 (ints (places (lR d) (l.take i) 0))]) (fun _ _=>()) (fun _ _=>True) 0 (fun _=>[.row 1 (ints (dH l d))]) () ?hv trivial ?hs ?he).1]
 case hv=>rfl
 case hs =>
  intro i hi _ _
  refine ⟨?_,trivial⟩
  have hlt:((i:Int)<(l.length:Int))=True:=eq_true (by omega)
  have hpl:=sC (lR d) (l.take i) 0
  have hf:bJ (places (lR d) (l.take i) 0).length 1 8=true:=bL (by rw [List.length_take] at hpl;omega) (by rw [List.length_take] at hpl;omega)
  rw [← List.take_append_getElem hi,xK]
  have hz:(0:Int)+((l.take i).length:Int)=(i:Int):=by rw [List.length_take];omega
  rw [hz]
  simp only [aL,cA,pB,hlt,decide_true,kE hi,mM hi,uJ,aC,aDy,aDz,aDA,dL,bI,aH,hf,aO (show i<9223372036854775807 by omega),lR,nC,nA,List.take_succ_cons,List.take_zero,cZ]
  by_cases h1:l[i].inn≤d
  ·by_cases h2:l[i].out=-1
   ·simp [h1,h2]
   ·by_cases h3:d<l[i].out
    ·simp [h1,h2,h3]
    ·simp [h1,h2,h3]
  ·simp [h1]
 case he =>
  intro _ _
  simp [dH]
 ·simp
theorem IK (n:Nat) {y:Yard} (hy:y.ok=true) {l:List Stay} (hl:hQ y l=true) {d:Int} (h0:0≤d) (h1:d≤100000) :
  D its (n+1) cN [.ref (pc y),.row 3 (stays l),ci d]=some [ci (pC y l d)]:=by
 obtain ⟨h40,hok⟩:=uK hl
 rw [pI]
 unfold jI
 rw [(bP l (fun i (s:Int)=>[ci s,ci (i:Int)]) (fun n s=>n+eats y d s) (fun i s=>0≤s∧s≤300000000*(i:Int)) 0 (fun s=>[ci s]) 0 ?hv ?h0 ?hs ?he).1]
 case hv=>rfl
 case h0=>simp
 case hs =>
  intro i hi s hP
  have hst:=hok _ (List.getElem_mem hi)
  have hr:=PT hy hst (d:=d) (by omega) (by omega)
  have hst':=hst
  unfold kW at hst'
  simp only [Bool.and_eq_true,Bool.or_eq_true,decide_eq_true_eq] at hst'
  have h9:=kD hy hst'.1.1
  have hin:=hst'.1.2
  simp only [within,Bool.and_eq_true,decide_eq_true_eq] at hin
  have hout:=hst'.2
  simp only [within,Bool.and_eq_true,decide_eq_true_eq] at hout
  obtain ⟨k1,k2⟩:=nQ hy (s:=l[i].sort) (by omega) (by omega) (c:=2) (by omega)
  have hlt:((i:Int)<(l.length:Int))=True:=eq_true (by omega)
  have k5:((0:Int)≤l[i].sort)=True:=eq_true (by omega)
  have k7:(l[i].sort<Int.ofNat 10)=True:=eq_true (by show l[i].sort<10;omega)
  have hkey:∀ m:Int,m=(if l[i].out=-1 then d else min d (l[i].out - 1))→wr (max 0 (wr ((wr (m - l[i].inn))+1))*(kd y l[i].sort).eats)=eats y d l[i]:=by
   intro m hm
   have hm2:-1≤m∧m≤100000:=by rw [hm];split <;> omega
   have e1:wr (m - l[i].inn)=m - l[i].inn:=by rw [bW] <;> omega
   have e2:wr (m - l[i].inn+1)=m - l[i].inn+1:=by rw [bW] <;> omega
   rw [e1,e2]
   have e4:max 0 (m - l[i].inn+1)*(kd y l[i].sort).eats=eats y d l[i]:=by unfold eats;rw [← hm,Int.mul_comm]
   rw [e4,bW] <;> omega
  have hw:wr (s+eats y d l[i])=s+eats y d l[i]:=by rw [bW] <;> omega
  refine ⟨?_,by omega,by omega⟩
  simp only [aL,cA,pB,hlt,decide_true,kE hi,mM hi,uJ,aC,aDy,aDz,aDA,k5,k7,Bool.and_self,k1,k2,aBJ,aO (show i<9223372036854775807 by omega)]
  by_cases h2:l[i].out=-1
  ·have hb:(l[i].out != -1)=false:=by simp [h2]
   have:=hkey d (by simp [h2])
   simp only [hb,aB,aV,aL,aAg,this,hw]
  ·have hb:(l[i].out != -1)=true:=by simp [h2]
   have e1:wr (l[i].out - 1)=l[i].out - 1:=by rw [bW] <;> omega
   have:=hkey (min d (l[i].out - 1)) (by rw [if_neg h2])
   simp only [hb,aB,aV,aL,e1,aAg,aDx,this,hw]
 case he=>intro s _;simp
 ·simp [pC]
theorem aBM (n:Nat) (y:Yard) (l:List Stay) (d:Int) (h1:y.pens.length<9223372036854775807) (h2:y.kinds.length<9223372036854775807) (hl:l.length<9223372036854775807) :
  D its (n+8) pD [.row 1 y.ps,.row 4 y.ks,.row 3 (stays l),ci d]=some (if dM y l=0 then (if within d 0 100000=true then [ci (pC y l d),ci 0] else [ci 0,ci 6]) else [ci 0,ci (dM y l)]):=by
 rw [LS]
 unfold xS
 rw [wO n y l h1 h2 hl]
 by_cases h:dM y l=0
 ·obtain ⟨hy,hs⟩:=sR h
  cases hd:within d 0 100000 with
  | false=>simp [h,hd]
  | true =>
   have hd':=hd
   simp only [within,Bool.and_eq_true,decide_eq_true_eq] at hd'
   simp [h,hd,eB,IK _ hy hs hd'.1 hd'.2]
 ·simp [h]
theorem sS {f:Int→Bool} {step:List CV→Option Ou} (h1:∀ a b:Int,0≤a→a<b→b≤100000→step [ci a,ci b]=some (.nx (if f ((a+b+1) / 2)=true then [ci ((a+b+1) / 2),ci b] else [ci a,ci ((a+b+1) / 2 - 1)])))
  (h2:∀ a b:Int,¬a<b→step [ci a,ci b]=some (.br 1 [ci a])):∀ (k:Nat) (a b:Int),0≤a→b≤100000→b - a<2 ^ k→aJ step [ci a,ci b]=some (.br 1 [ci (LM f k a b)])
 | 0,a,b,ha,hb,hk=>by
  have:¬a<b:=by simp at hk;omega
  exact bE (h2 a b this) (by simp)
 | k+1,a,b,ha,hb,hk=>by
  simp only [LM]
  by_cases h:a<b
  ·rw [if_pos h,dP (h1 a b ha h hb)]
   have hp:(2:Int) ^ (k+1)=2*2 ^ k:=by rw [Int.pow_succ];omega
   rw [hp] at hk
   split
   ·exact sS h1 h2 k _ _ (by omega) hb (by omega)
   ·exact sS h1 h2 k _ _ ha (by omega) (by omega)
  ·rw [if_neg h]
   exact bE (h2 a b h) (by simp)
theorem aBN (n:Nat) (y:Yard) (l:List Stay) (d:Int) (h1:y.pens.length<9223372036854775807) (h2:y.kinds.length<9223372036854775807) (hl:l.length<9223372036854775807) :
  D its (n+8) pE [.row 1 y.ps,.row 4 y.ks,.row 3 (stays l),ci d]=some (if dM y l=0 then (if within d 0 1000000000000=true then (if pC y l 0 > d then [ci 0,ci 3] else [ci (aCo y l d),ci 0]) else [ci 0,ci 1]) else [ci 0,ci (dM y l)]):=by
 rw [LT]
 unfold xT
 rw [wO n y l h1 h2 hl]
 by_cases h:dM y l=0
 ·obtain ⟨hy,hs⟩:=sR h
  cases hd:within d 0 1000000000000 with
  | false=>simp [h,hd]
  | true =>
   simp only [h,aD,aL,cA,hd,MP,bD,IK _ hy hs (d:=0) (by omega) (by omega),eB,List.getD_cons_zero,if_true,beq_self_eq_true,fF,lW,aC]
   have hb:((0:Int) != 0)=false:=rfl
   simp only [hb,Bool.not_true,aB]
   by_cases h3:pC y l 0 > d
   ·simp [h3]
   ·have h3':(pC y l 0 > d)=False:=eq_false h3
    simp only [h3',decide_false,if_false]
    rw [sS (f:=fun x=>decide (pC y l x≤d)) ?_ ?_ 17 0 100000 (by omega) (by omega) (by decide)]
    ·rfl
    ·intro a b ha hab hb'
     have e1:wr (a+b)=a+b:=by rw [bW] <;> omega
     have e2:wr (a+b+1)=a+b+1:=by rw [bW] <;> omega
     have e3:Int.tdiv (a+b+1) 2=(a+b+1) / 2:=Int.tdiv_eq_ediv_of_nonneg (by omega)
     have e4:wr ((a+b+1) / 2)=(a+b+1) / 2:=by rw [bW] <;> omega
     have e5:wr ((a+b+1) / 2 - 1)=(a+b+1) / 2 - 1:=by rw [bW] <;> omega
     have hlt:(a<b)=True:=eq_true hab
     simp only [aL,cA,hlt,decide_true,e1,e2,e3,e4,e5,IK _ hy hs (d:=(a+b+1) / 2) (by omega) (by omega),aD,aB]
     by_cases hq:pC y l ((a+b+1) / 2)≤d
     ·have hq':=eq_true hq
      simp only [hq',decide_true,aV,aL,cA,if_true]
     ·have hq':=eq_false hq
      simp only [hq',decide_false,aV,aL,cA,Bool.false_eq_true,if_false]
    ·intro a b hab
     simp [hab]
 ·simp [h]
end Go.Proofs.Ythkfohoccnnphaa
namespace Go.Proofs.Ythkfohoccnnphaa
open Go Go.Sx Go.Pen
set_option maxRecDepth 10000
attribute [local simp] Bool.and_assoc Bool.or_assoc
variable {its:ITS}
structure Fit (y:Yard):Prop where
 p:y.pens.length<9223372036854775807
 k:y.kinds.length<9223372036854775807
theorem CH {y:Yard} (hy:y.ok=true) {l:List Int} (h:aQ y l=true):∀ s∈l,1≤s∧s≤9:=fun s hs=>kD hy (wM h s hs)
def isP (y:Yard) (l p:List Int):Bool:=p.length == l.length&&okZ y (l.zip p)
def cJ (y:Yard) (l p:List Int):Int:=if asked y l=0 then (if isP y l p=true then 0 else 52) else asked y l
def fl (y:Yard) (z:BP):List CV:=[.row 1 (ints (eM y z)),.row 1 (ints (fB y z))]
theorem MR (n:Nat) {y:Yard} (hf:Fit y) (l p:List Int) (hl:l.length<9223372036854775807) (hp:p.length<9223372036854775807) :
  D its (n+8) jY [.row 1 y.ps,.row 4 y.ks,.row 1 (ints l),.row 1 (ints p)]=some [eB (cJ y l p == 0) (pc y),eB (cJ y l p == 0) (fl y (l.zip p)),ci (cJ y l p)]:=by
 rw [HS]
 unfold tZ cJ
 rw [qI _ y l hf.p hf.k hl]
 by_cases h:asked y l=0
 ·obtain ⟨hy,hs⟩:=eN h
  have:=bF hs
  have hfl:=aAf (its:=its) (n+5) hy l p (CH hy hs) (by omega) hp
  change D its (n+7) _ _=some [eB (isP y l p) (fl y (l.zip p)),cb (isP y l p)] at hfl
  cases hi:isP y l p <;> simp [h,eB,hfl,hi]
 ·simp [h,eB]
theorem DQ {y:Yard} {l p:List Int} (h:cJ y l p=0):y.ok=true∧aQ y l=true∧isP y l p=true:=by
 unfold cJ at h
 by_cases ha:asked y l=0
 ·obtain ⟨hy,hs⟩:=eN ha
  rw [if_pos ha] at h
  refine ⟨hy,hs,?_⟩
  cases hi:isP y l p with
  | true=>rfl
  | false=>rw [hi] at h;simp at h
 ·rw [if_neg ha] at h;exact absurd h ha
theorem aDB (n:Nat) {y:Yard} (hf:Fit y) (l p:List Int) (hl:l.length<9223372036854775807) (hp:p.length<9223372036854775807) :
  D its (n+9) sH [.row 1 y.ps,.row 4 y.ks,.row 1 (ints l),.row 1 (ints p)]=some (if cJ y l p=0 then [.row 1 (ints (eM y (l.zip p))),ci 0] else [.row 1 [],ci (cJ y l p)]):=by
 rw [QC]
 unfold BW
 rw [MR _ hf l p hl hp]
 by_cases h:cJ y l p=0
 ·simp [h,eB,fl,gr,cR,oks,Lf.ok]
 ·simp [h]
theorem SV (n:Nat) {y:Yard} (hy:y.ok=true) {z:BP} (hz:∀ x∈z,1≤x.1∧x.1≤9) {s:Int} (hs:1≤s∧s≤9) {q:Nat} (hq:q<y.pens.length) :
  D its (n+1) fC [.ref (pc y),.ref (fl y z),ci (q:Int),ci s]=some [cb (jO y z s q)]:=by
 rw [pM]
 unfold jK
 have hin:within (q:Int) 0 ((y.pens.length:Int) - 1)=true:=by simp [within];omega
 rw [rZ hy hz hs hin (zH hy (a:=s.toNat) (by omega) |>.congr fun b _=>by rw [show ((s.toNat:Nat):Int)=s by omega])]
 obtain ⟨k1,k2⟩:=nQ hy (s:=s) (by omega) (by omega) (c:=1) (by omega)
 obtain ⟨k3,k4⟩:=zN (y:=y) (s:=s) (by omega) (by omega)
 have k5:((0:Int)≤s)=True:=eq_true (by omega)
 have k7:(s<Int.ofNat 10)=True:=eq_true (by show s<10;omega)
 have e3:inb (q:Int) (ints (eM y z))=true:=aG (by simpa using hq)
 have e4:el (ints (eM y z)) (q:Int)=[ci (y.pens.getD q 0 - Pen.load y z q)]:=by rw [aI (by simpa using hq),vZ]
 have e5:inb (q:Int) (ints (fB y z))=true:=aG (by simpa using hq)
 have e6:el (ints (fB y z)) (q:Int)=[ci (fA z q:Int)]:=by rw [aI (by simpa using hq),wB]
 have f0:oks [.row 1] (fl y z) 0=true:=rfl
 have f1:oks [.row 1] (List.drop 1 (fl y z)) 0=true:=rfl
 have f2:gr (fl y z) 0=ints (eM y z):=rfl
 have f3:gr (List.drop 1 (fl y z)) 0=ints (fB y z):=rfl
 simp only [k1,k2,k3,k4,k5,k7,decide_true,Bool.and_self,aC,List.drop_zero,f0,f1,f2,f3,e3,e4,e5,e6,li1,zO,aL,Int.toNat_natCast]
 by_cases hr:rm y s≤y.pens.getD q 0 - Pen.load y z q
 ·have hr':=eq_true hr
  simp only [hr',decide_true,aB,KZ,Bool.true_and]
 ·have hr':=eq_false hr
  simp only [hr',decide_false,aB,KZ,Bool.false_and]
theorem aFj {y:Yard} (hy:y.ok=true) {l p:List Int} (h:aQ y l=true):∀ x∈l.zip p,1≤x.1∧x.1≤9:=fun x hx=>CH hy h x.1 (List.of_mem_zip hx).1
def aDC (y:Yard) (z:BP) (s:Int):Option Nat:=(List.range y.pens.length).find? fun (q:Nat)=>jO y z s (q:Int)
theorem aFk (n:Nat) {y:Yard} (hf:Fit y) (l p:List Int) (s:Int) (hl:l.length<9223372036854775807) (hp:p.length<9223372036854775807) :
  D its (n+9) wG [.row 1 y.ps,.row 4 y.ks,.row 1 (ints l),.row 1 (ints p),ci s]=some (if cJ y l p=0 then (if has y s=true then (if l.length=8 then [ci 0,ci 2] else match aDC y (l.zip p) s with | some q=>[ci (q:Int),ci 0] | none=>[ci 0,ci 53]) else [ci 0,ci 51]) else [ci 0,ci (cJ y l p)]):=by
 rw [VO]
 unfold FD
 rw [MR _ hf l p hl hp]
 by_cases h:cJ y l p=0
 ·obtain ⟨hy,hs,hi⟩:=DQ h
  have h8:=bF hs
  have h5:=(bM hy).1
  simp only [h,beq_self_eq_true,eB,if_true,aD,cA,aL,List.getD_cons_zero,List.getD_cons_succ,fF,lW,aC,aAd _ hy,bD]
  have hb:((0:Int) != 0)=false:=rfl
  rw [hb]
  simp only [aB]
  cases hh:has y s with
  | false=>simp
  | true =>
   have h9:=kD hy hh
   simp only [Bool.not_true,aF,if_true,List.drop_zero,CG,aC,rD,eV]
   by_cases h8':l.length=8
   ·have:(((l.length:Int)) == 8)=true:=by simp;omega
    rw [this,if_pos h8']
    rfl
   ·have:(((l.length:Int)) == 8)=false:=by simp;omega
    rw [this,if_neg h8']
    simp only
    rw [dI y.pens.length (fun i=>[ci (i:Int)]) (fun (q:Nat)=>jO y (l.zip p) s (q:Int)) (fun i=>some (.ret [ci (i:Int),ci 0])) (some (.br 1 [])) ?hv ?hR ?hX (fun i hi hp=>?s1) (fun i hi hp=>?s2) ?s3]
    case hv=>rfl
    case hR=>simp
    case hX=>simp
    case s3=>simp
    case s1=>simp only [aL,eq_true (show ((i:Int)<(y.pens.length:Int)) by omega),decide_true,SV _ hy (aFj hy hs) h9 hi,aD,bD,hp,aO (show i<9223372036854775807 by omega)]
    case s2=>simp only [aL,eq_true (show ((i:Int)<(y.pens.length:Int)) by omega),decide_true,SV _ hy (aFj hy hs) h9 hi,aD,bD,hp]
    ·unfold aDC
     cases (List.range y.pens.length).find? (fun (q:Nat)=>jO y (l.zip p) s (q:Int)) <;> simp
 ·simp [h]
end Go.Proofs.Ythkfohoccnnphaa
namespace Go.Proofs.Ythkfohoccnnphaa
open Go Go.Sx Go.Pen
set_option maxRecDepth 10000
attribute [local simp] Bool.and_assoc Bool.or_assoc
variable {its:ITS}
def yl (x:List Int):List CV:=[.row 1 (ints x)]
structure ItsM (its:ITS):Prop where
 all:∀ n y l,y.ok=true→aQ y l=true→D its (n+1) 116 [.ref [.row 1 (ints l)],.ref [.ref (pc y)]]=some [.row 0 ((PL y l).map yl),shC (.lent 3 1)]
 lists:∀ n k many:Nat,k<9→0<many→many<10→D its (n+1) 121 [.ref [ci (many:Int)],.ref [ci (k:Int)]]=some [.row 0 ((rls k many 0).map yl),shC (.clo [.one (.row 1)])]
 del:∀ n (l:List Int) (i:Nat),i<l.length→l.length<1000000→D its (n+1) 82 [.row 1 (ints l),.fn 3 [],ci (i:Int),ci ((i+1:Nat):Int)]=some [.row 1 (ints (l.eraseIdx i)),.val (.bool true)]
 sort:∀ n (l:List Int),l.length<1000000→D its (n+1) 70 [.row 1 (ints l),.fn 3 []]=some [.row 1 (ints (l.mergeSort fun a b=>decide (a≤b))),.val (.bool false)]
theorem uL {M:Den} {f:FuncId} {caps:List CV} {rows:List (List CV)} {sh:YSh} (hs:sg f=none) (h:M f caps=some [.row 0 rows,shC sh]):vR sg M (.fn f caps) sh=some rows:=by
 simp [vR,hs,h]
theorem aAi:sg 116=none:=rfl
theorem aCQ:sg 121=none:=rfl
theorem QJ {y:Yard} {l x:List Int} (h:x∈PL y l):x.length=l.length:=(nD.1 h).1
theorem IL {x:List Int} (h:x.length≤8):vC (ints x) (some (.ret [.row 1 []])) (chk (bJ 0 x.length 8) (some (.ret [.row 1 (ints x)])))=some (.ret [.row 1 (ints x)]):=by
 have:=VB 1 8 (fun x:Int=>[ci x]) x (by omega) (by omega)
 rw [List.length_map] at this
 exact this
theorem w_all (n:Nat) (x:List CV) (l:List (List CV)):D its (n+1) eG [.ref x,.row 1 l]=some [.fn 116 [.ref [.row 1 l],.ref [.ref x]]]:=by
 rw [sK];rfl
theorem FJ {step:List CV→List CV→Option Ou} {R:Option Ou} (h0:∀ (x:List Int) c d,x.length≤8→step (yl x) [ci 0,c,d]=some (.ret [.row 1 (ints x),cb true]))
  (h1:∀ (x:List Int) (k:Nat) c d,k<100000→step (yl x) [ci ((k+1:Nat):Int),c,d]=some (.nx [ci (k:Int),.row 1 (cR c),cb (cB d)])):∀ (rows:List (List Int)) (k:Nat) (c d:CV),k<100000→(∀ x∈rows,x.length≤8) →
  bN (brO (bZ step (rows.map yl) [ci (k:Int),c,d])) (fun _=>R)=match rows[k]? with | some x=>some (.ret [.row 1 (ints x),cb true]) | none=>R
 | [],k,c,d,_,_=>by simp [bZ,brO]
 | x::rows,0,c,d,_,h=>by
  simp only [List.map_cons,bZ]
  rw [show ((0:Nat):Int)=0 from rfl,h0 x c d (h x (by simp))]
  rfl
 | x::rows,k+1,c,d,hk,h=>by
  simp only [List.map_cons,bZ,h1 x k c d (by omega),List.getElem?_cons_succ]
  exact FJ h0 h1 rows k _ _ (by omega) fun z hz=>h z (by simp [hz])
theorem aCR (hI:ItsM its) (n:Nat) {y:Yard} (hy:y.ok=true) {l:List Int} (hs:aQ y l=true) (k:Nat) (hk:k<100000) :
  D its (n+2) eI [.ref (pc y),.row 1 (ints l),ci (k:Int)]=some (match (PL y l)[k]? with | some x=>[.row 1 (ints x),cb true] | none=>[.row 1 [],cb false]):=by
 rw [sI]
 unfold lA
 rw [w_all,aD,List.getD_cons_zero,uL aAi (hI.all n y l hy hs),eU]
 have h8:=bF hs
 rw [FJ (R:=some (.ret [.row 1 [],cb false])) ?h0 ?h1 _ _ _ _ hk (fun x hx=>by rw [QJ hx];exact h8)]
 case h0 =>
  intro x c d hx
  simp only [aL,yl,bI,aH,IL hx]
  rfl
 case h1 =>
  intro x k c d hk
  have e:(((k+1:Nat):Int) == 0)=false:=by simp;omega
  have e2:wr (((k+1:Nat):Int) - 1)=(k:Int):=by rw [bW] <;> omega
  simp only [aL,e,e2]
  rfl
 ·cases (PL y l)[k]? <;> rfl
theorem aBO (hI:ItsM its) (n:Nat) {y:Yard} (hf:Fit y) (l:List Int) (hl:l.length<9223372036854775807) :
  D its (n+8) pG [.row 1 y.ps,.row 4 y.ks,.row 1 (ints l)]=some (if asked y l=0 then (match (PL y l)[0]? with | some x=>[.row 1 (ints x),ci 0] | none=>[.row 1 [],ci 53]) else [.row 1 [],ci (asked y l)]):=by
 rw [LW]
 unfold xX
 rw [qI _ y l hf.p hf.k hl]
 by_cases h:asked y l=0
 ·obtain ⟨hy,hs⟩:=eN h
  have hn:=aCR hI (n+5) hy hs 0 (by omega)
  rw [show ((0:Nat):Int)=0 from rfl] at hn
  simp only [h,beq_self_eq_true,eB,if_true,aD,cA,aL,List.getD_cons_zero,fF,lW,aC,hn]
  have hb:((0:Int) != 0)=false:=rfl
  rw [hb]
  simp only [aB]
  cases (PL y l)[0]? <;> rfl
 ·simp [h]
theorem yG {step:List CV→List CV→Option Ou} (h:∀ (x:List Int) (m:Nat),m<1000→step (yl x) [ci (m:Int)]=if m+1=1000 then some (.br 0 [ci 1000]) else some (.nx [ci ((m+1:Nat):Int)])):∀ (rows:List (List Int)) (m:Nat),m<1000 →
  brO (bZ step (rows.map yl) [ci (m:Int)])=some (.nx [ci ((min 1000 (m+rows.length):Nat):Int)])
 | [],m,hm=>by
  simp only [List.map_nil,bZ,brO,List.length_nil]
  rw [show min 1000 (m+0)=m by omega]
 | x::rows,m,hm=>by
  simp only [List.map_cons,bZ,h x m hm]
  by_cases e:m+1=1000
  ·rw [if_pos e]
   simp only [brO,List.length_cons]
   rw [show min 1000 (m+(rows.length+1))=1000 by omega]
   rfl
  ·rw [if_neg e]
   have:=yG h rows (m+1) (by omega)
   simp only [this,List.length_cons]
   rw [show m+1+rows.length=m+(rows.length+1) by omega]
theorem aBP (hI:ItsM its) (n:Nat) {y:Yard} (hf:Fit y) (l:List Int) (hl:l.length<9223372036854775807) :
  D its (n+8) pF [.row 1 y.ps,.row 4 y.ks,.row 1 (ints l)]=some (if asked y l=0 then [ci ((min 1000 (PL y l).length:Nat):Int),ci 0] else [ci 0,ci (asked y l)]):=by
 rw [LZ]
 unfold xZ
 rw [qI _ y l hf.p hf.k hl]
 by_cases h:asked y l=0
 ·obtain ⟨hy,hs⟩:=eN h
  simp only [h,beq_self_eq_true,eB,if_true,aD,cA,aL,List.getD_cons_zero,fF,lW,aC,w_all,uL aAi (hI.all _ y l hy hs),eU]
  have hc:=yG (step:=fun x2 v2=>aB (wr (gi v2 0+1) == 1000) (some (.br 0 [ci (wr (gi v2 0+1))])) (some (.nx [ci (wr (gi v2 0+1))]))) ?hh (PL y l) 0 (by omega)
  case hh =>
   intro x m hm
   simp only [aL,aO (show m<9223372036854775807 by omega)]
   by_cases e:m+1=1000
   ·rw [if_pos e,e];rfl
   ·rw [if_neg e]
    have:((((m+1:Nat):Int)) == 1000)=false:=by simp;omega
    rw [this];rfl
  rw [show ((0:Nat):Int)=0 from rfl,Nat.zero_add] at hc
  rw [hc]
  rfl
 ·simp [h]
end Go.Proofs.Ythkfohoccnnphaa
namespace Go.Proofs.Ythkfohoccnnphaa
open Go Go.Sx Go.Pen
set_option maxRecDepth 10000
attribute [local simp] Bool.and_assoc Bool.or_assoc
variable {its:ITS}
def kk (l:List Int) (j:Nat):Bool:=decide ((j:Int)∈l)
def keyOf (x:List Int):List Bool:=[kk x 0,kk x 1,kk x 2,kk x 3,kk x 4]
theorem aBQ (l:List Int) (q j:Nat):kk (l++[(q:Int)]) j=(kk l j || decide (j=q)):=by
 unfold kk
 rw [Bool.eq_iff_iff]
 simp only [List.mem_append,List.mem_singleton,decide_eq_true_eq,Bool.or_eq_true]
 exact or_congr Iff.rfl Int.ofNat_inj
theorem aBR (l:List Int) (q:Nat):used [] (l++[(q:Int)])=used [] l+if kk l q=true then 0 else 1:=by
 rw [vW]
 simp [kk]
theorem CI {x z:List Int} (hx:∀ q∈x,0≤q∧q<5) (hz:∀ q∈z,0≤q∧q<5) (h:keyOf x=keyOf z):used [] x=used [] z:=by
 rw [pA (n:=5) x hx,pA (n:=5) z hz]
 simp only [keyOf,kk,List.cons.injEq,and_true] at h
 obtain ⟨h0,h1,h2,h3,h4⟩:=h
 refine qF fun i hi=>?_
 match i,hi with
 | 0,_=>exact h0
 | 1,_=>exact h1
 | 2,_=>exact h2
 | 3,_=>exact h3
 | 4,_=>exact h4
def CJ (l:List Int) (i:Nat):List CV:=[ci (used [] l:Int),ci (i:Int),cb (kk l 0),cb (kk l 1),cb (kk l 2),cb (kk l 3),cb (kk l 4)]
theorem MS {x:List Int} (hx:∀ q∈x,0≤q∧q<5) (hl:x.length≤8) {i:Nat} (hi:i<x.length):pO (ints x) (CJ (x.take i) i)=some (.nx (CJ (x.take (i+1)) (i+1))):=by
 obtain ⟨h0,h5⟩:=hx _ (List.getElem_mem hi)
 obtain ⟨q,hq⟩:∃ q:Nat,x[i]=q:=⟨x[i].toNat,by omega⟩
 have hq5:q<5:=by omega
 have hu:=oZ (x.take i) []
 rw [List.length_take] at hu
 rw [← List.take_append_getElem hi,hq]
 generalize x.take i=l at hu
 have hw:wr ((used [] l:Int)+1)=((used [] l+1:Nat):Int):=aO (by omega)
 have hlt:((i:Int)<(x.length:Int))=True:=eq_true (by omega)
 have hil:(i<x.length)=True:=eq_true hi
 unfold pO CJ
 simp only [aL,cA,aF,hlt,aG hi,aI hi,hq,Int.toNat_natCast,aH,hil,decide_true,li1,aC,aO (show i<9223372036854775807 by omega),aBR,aBQ]
 generalize used [] l=u at hw ⊢
 match q,hq5 with
 | 0,_=>cases hk:kk l 0 <;> simp only [AX,bD,hk] <;> simp [hw]
 | 1,_=>cases hk:kk l 1 <;> simp only [AX,bD,hk] <;> simp [hw]
 | 2,_=>cases hk:kk l 2 <;> simp only [AX,bD,hk] <;> simp [hw]
 | 3,_=>cases hk:kk l 3 <;> simp only [AX,bD,hk] <;> simp [hw]
 | 4,_=>cases hk:kk l 4 <;> simp only [AX,bD,hk] <;> simp [hw]
theorem VY {x:List Int} (hx:∀ q∈x,0≤q∧q<5) (hl:x.length≤8):aJ (pO (ints x)) [ci 0,ci 0,cb false,cb false,cb false,cb false,cb false]=some (.br 2 (ci (used [] x:Int)::(keyOf x).map cb)):=by
 rw [(bP x (fun i (_:Unit)=>CJ (x.take i) i) (fun _ _=>()) (fun _ _=>True) 2 (fun _=>ci (used [] x:Int)::(keyOf x).map cb) () ?hv trivial ?hs ?he).1]
 case hv=>rfl
 case hs=>exact fun i hi _ _=>⟨MS hx hl hi,trivial⟩
 case he =>
  intro _ _
  rw [List.take_length]
  unfold pO CJ
  simp only [aL,cA,aF,eq_false (show ¬((x.length:Int)<(x.length:Int)) by omega),decide_false,aB,AX,bD]
  rfl
end Go.Proofs.Ythkfohoccnnphaa
namespace Go.Proofs.Ythkfohoccnnphaa
open Go Go.Sx Go.Pen
set_option maxRecDepth 10000
attribute [local simp] Bool.and_assoc Bool.or_assoc
variable {its:ITS}
abbrev KA:=List (List Bool×Bool)
def MT (az:KA):List (List CV):=rowA (fun l:List Bool=>l.map cb) cb az
theorem VZ {x:List Int} (hx:∀ q∈x,0≤q∧q<5) (hl:x.length≤8) (c:CV) (f:Nat) {az:KA} (ha:∀ e∈az,e.1.length=5) :
  BZ (yl x) [c,ci (f:Int),.row 6 (MT az)]=some (.nx (if used [] x<f∧jE az (keyOf x)≠some true then [.row 1 (ints x),ci (used [] x:Int),.row 6 (MT (mN az (keyOf x) true))] else [.row 1 (cR c),ci (f:Int),.row 6 (MT (mN az (keyOf x) true))])):=by
 have hk5:(keyOf x).length=5:=rfl
 have hok:oN [.bool,.bool,.bool,.bool,.bool] .bool (MT az)=true:=LP fun e he=>by rw [ZL (ha e he)];rfl
 have hlook:=(BJ 5).look (vc:=cb) (k:=keyOf x) hk5 (.bool false) ha
 have hupd:=(BJ 5).upd (vc:=cb) (k:=keyOf x) hk5 true ha
 have hkc:[cb (kk x 0),cb (kk x 1),cb (kk x 2),cb (kk x 3),cb (kk x 4)]=(keyOf x).map cb:=rfl
 unfold BZ
 simp only [yl,bI,VY hx hl,bR,aL,cA,dL,AX]
 have hke:∀ u:CV,[cb (gb (u::(keyOf x).map cb) 1),cb (gb (u::(keyOf x).map cb) 2),cb (gb (u::(keyOf x).map cb) 3),cb (gb (u::(keyOf x).map cb) 4),cb (gb (u::(keyOf x).map cb) 5)]=(keyOf x).map cb:=fun u=>rfl
 have hke':[cb (gb ((keyOf x).map cb) 0),cb (gb ((keyOf x).map cb) 1),cb (gb ((keyOf x).map cb) 2),cb (gb ((keyOf x).map cb) 3),cb (gb ((keyOf x).map cb) 4)]=(keyOf x).map cb:=rfl
 simp only [hok,aC,hke',aH,IL hl,bS,bI]
 unfold MT
 rw [hlook,hupd]
 by_cases h1:used [] x<f
 ·have h1':((used [] x:Int)<(f:Int))=True:=eq_true (by omega)
  simp only [h1',decide_true,aB,h1,true_and]
  cases hg:jE az (keyOf x) with
  | none=>simp;rfl
  | some b=>cases b <;> simp <;> rfl
 ·have h1':((used [] x:Int)<(f:Int))=False:=eq_false (by omega)
  simp only [h1',decide_false,aB,h1,false_and,if_false]
  simp
  rfl
def aBS (n:Nat) (b:Option (List Int)) (f:Nat) (az:KA):Prop:=
 (∀ e∈az,e.1.length=5)∧(match b with | none=>f=n+1∧az=[] | some a=>f=used [] a∧∀ z:List Int,(∀ q∈z,0≤q∧q<5)→jE az (keyOf z)=some true→f≤used [] z)
theorem uM {n:Nat} (hn:n≤5):∀ (rows:List (List Int)) (b:Option (List Int)) (c:CV) (f:Nat) (az:KA),(∀ x∈rows,(∀ q∈x,0≤q∧q<(n:Int))∧x.length≤8)→aBS n b f az→(∀ a,b=some a→cR c=ints a) →
  ∃ c' az',bZ BZ (rows.map yl) [c,ci (f:Int),.row 6 (MT az)]=some (.nx [c',ci ((match best (used []) b rows with | none=>n+1 | some a=>used [] a:Nat):Int),.row 6 (MT az')])∧∀ a,best (used []) b rows=some a→cR c'=ints a
 | [],b,c,f,az,_,hi,hc=>by
  refine ⟨c,az,?_,?_⟩
  ·cases b with
   | none=>simp only [List.map_nil,bZ,best];rw [hi.2.1]
   | some a=>simp only [List.map_nil,bZ,best];rw [hi.2.1]
  ·cases b with
   | none=>intro a h;cases h
   | some a=>intro a' h;simp only [best] at h;exact hc a' h
 | x::rows,b,c,f,az,hx,hi,hc=>by
  obtain ⟨hxr,hx8⟩:=hx x (by simp)
  have hx5:∀ q∈x,0≤q∧q<5:=fun q hq=>by have:=hxr q hq;omega
  have hset:∀ e∈mN az (keyOf x) true,e.1.length=5:=HP (ok:=fun l:List Bool=>l.length=5) rfl true hi.1
  simp only [List.map_cons,bZ,VZ hx5 hx8 c f hi.1]
  have hxn:used [] x<n+1:=by rw [pA (n:=n) x hxr];have:=cnt_le (fun i=>decide ((i:Int)∈x)) n;omega
  cases b with
  | none =>
   obtain ⟨hf,has⟩:=hi.2
   have hcond:used [] x<f∧jE az (keyOf x)≠some true:=⟨by omega,by rw [has];simp [jE]⟩
   rw [if_pos hcond]
   have hi':aBS n (some x) (used [] x) (mN az (keyOf x) true):=by
    refine ⟨hset,rfl,fun z hz hg=>?_⟩
    rw [mO] at hg
    split at hg
    ·rename_i e;rw [CI hx5 hz e.symm];exact Nat.le_refl _
    ·rw [has] at hg;simp [jE] at hg
   exact uM hn rows (some x) (.row 1 (ints x)) (used [] x) _ (fun z hz=>hx z (by simp [hz])) hi' (fun a h=>by cases h;rfl)
  | some a =>
   obtain ⟨hf,hg⟩:=hi.2
   by_cases hlt:used [] x<used [] a
   ·have hcond:used [] x<f∧jE az (keyOf x)≠some true:=⟨by omega,fun h=>by have:=hg x hx5 h;omega⟩
    rw [if_pos hcond]
    have hi':aBS n (some x) (used [] x) (mN az (keyOf x) true):=by
     refine ⟨hset,rfl,fun z hz hg'=>?_⟩
     rw [mO] at hg'
     split at hg'
     ·rename_i e;rw [CI hx5 hz e.symm];exact Nat.le_refl _
     ·have:=hg z hz hg';omega
    have:=uM hn rows (some x) (.row 1 (ints x)) (used [] x) _ (fun z hz=>hx z (by simp [hz])) hi' (fun a h=>by cases h;rfl)
    simp only [best,if_pos hlt]
    exact this
   ·have hcond:¬(used [] x<f∧jE az (keyOf x)≠some true):=fun h=>hlt (by omega)
    rw [if_neg hcond]
    have hi':aBS n (some a) f (mN az (keyOf x) true):=by
     refine ⟨hset,hf,fun z hz hg'=>?_⟩
     rw [mO] at hg'
     split at hg'
     ·rename_i e;rw [CI hz hx5 e];omega
     ·exact hg z hz hg'
    have:=uM hn rows (some a) (.row 1 (cR c)) f _ (fun z hz=>hx z (by simp [hz])) hi' (fun a' h=>hc a' h)
    simp only [best,if_neg hlt]
    exact this
theorem MU {y:Yard} {l x:List Int} (h:x∈PL y l):∀ q∈x,0≤q∧q<(y.pens.length:Int):=by
 obtain ⟨h1,h2⟩:=nD.1 h
 intro q hq
 obtain ⟨i,hi,rfl⟩:=List.mem_iff_getElem.1 hq
 rw [aDw h1] at h2
 unfold okZ at h2
 rw [List.all_eq_true] at h2
 have hz:i<(l.zip x).length:=by simp;omega
 have:=h2 i (by simpa using hz)
 rw [List.getElem?_eq_getElem hz] at this
 simp only [jO,within,Bool.and_eq_true,decide_eq_true_eq,List.getElem_zip] at this
 obtain ⟨⟨⟨a,b⟩,_⟩,_⟩:=this
 exact ⟨a,by omega⟩
theorem MV (hI:ItsM its) (n:Nat) {y:Yard} (hf:Fit y) (l:List Int) (hl:l.length<9223372036854775807) :
  D its (n+8) hU [.row 1 y.ps,.row 4 y.ks,.row 1 (ints l)]=some (if asked y l=0 then (match rW y l with | some x=>[.row 1 (ints x),ci 0] | none=>[.row 1 [],ci 53]) else [.row 1 [],ci (asked y l)]):=by
 rw [IB]
 unfold SR
 rw [qI _ y l hf.p hf.k hl]
 by_cases h:asked y l=0
 ·obtain ⟨hy,hs⟩:=eN h
  have h8:=bF hs
  have h5:=(bM hy).1
  have hw:wr ((y.pens.length:Int)+1)=((y.pens.length+1:Nat):Int):=aO (by omega)
  simp only [h,beq_self_eq_true,eB,if_true,aD,cA,aL,List.getD_cons_zero,fF,lW,aC,w_all,uL aAi (hI.all _ y l hy hs),eU,List.drop_zero,CG,rD,eV,hw]
  have hb:((0:Int) != 0)=false:=rfl
  rw [hb]
  simp only [aB]
  obtain ⟨c',az',e1,e2⟩:=uM h5 (PL y l) none (.val (Value.slice none 0 0)) (y.pens.length+1) [] (fun x hx=>⟨MU hx,by rw [QJ hx];exact h8⟩) ⟨by simp,rfl,rfl⟩ (by simp)
  have e3:bZ BZ ((PL y l).map yl) [.val (Value.slice none 0 0),ci ((y.pens.length+1:Nat):Int),.row 6 []]=_:=e1
  rw [e3]
  simp only [brO,aV,cA,aL]
  unfold rW
  cases hbst:best (used []) none (PL y l) with
  | none =>
   have:(((y.pens.length+1:Nat):Int) > (y.pens.length:Int))=True:=eq_true (by omega)
   simp only [this,decide_true]
   rfl
  | some a =>
   have hm:=(rX (mL y l) hbst).1
   have hxn:used [] a≤y.pens.length:=by rw [pA (n:=y.pens.length) a (MU hm)];exact cnt_le _ _
   have:((((used [] a:Nat):Int)) > (y.pens.length:Int))=False:=eq_false (by omega)
   simp only [this,decide_false]
   show some [CV.row 1 (gr [c',_,_] 0),_]=_
   rw [show gr [c',ci ((used [] a:Nat):Int),CV.row 6 (MT az')] 0=cR c' from rfl,e2 a hbst]
 ·simp [h]
end Go.Proofs.Ythkfohoccnnphaa
namespace Go.Proofs.Ythkfohoccnnphaa
open Go Go.Sx Go.Pen
set_option maxRecDepth 10000
attribute [local simp] Bool.and_assoc Bool.or_assoc
variable {its:ITS}
def pP (f:Nat→Int):List CV:=(List.range 10).map fun j=>ci (f j)
def aDD (f:Nat→Int) (q:Int):Nat→Int:=fun j=>if decide (j=0+(q.toNat*1))=true then wr (gi (pP f) (0+(q.toNat*1))+1) else f j
theorem aAj (q i:Int) (f:Nat→Int):aCH q (ci i::pP f)=ci (wr (i+1))::pP (aDD f q):=by kernel_rfl
theorem MW (i:Int) (f:Nat→Int):cis (ci i::pP f) 1 10=pP f:=by kernel_rfl
theorem WA (f:Nat→Int):cis (pP f) 0 10=pP f:=by kernel_rfl
theorem aBT (f:Nat→Int) {j:Nat} (h:j<10):gi (pP f) j=f j:=by
 unfold gi pP
 rw [List.getD_eq_getElem?_getD]
 simp [h]
theorem aAk (f:Nat→Int) {j:Nat} (h:j<10):oks [li] (pP f) j=true:=ZD (by simp [jD,pP,LA]) (by simpa [pP] using h)
theorem QK {l:List Int} (hl:∀ s∈l,1≤s∧s≤9) (hll:l.length<1000000) {i:Nat} (hi:i<l.length) :
  nO (ints l) (ci (i:Int)::pP fun j=>((l.take i).count (j:Int):Int))=some (.nx (ci ((i+1:Nat):Int)::pP fun j=>((l.take (i+1)).count (j:Int):Int))):=by
 have h9:=hl _ (List.getElem_mem hi)
 have k5:((0:Int)≤l[i])=True:=eq_true (by omega)
 have k7:(l[i]<Int.ofNat 10)=True:=eq_true (by show l[i]<10;omega)
 have hlt:((i:Int)<(l.length:Int))=True:=eq_true (by omega)
 have hj:0+l[i].toNat*1<10:=by omega
 unfold nO
 simp only [aL,aF,hlt,decide_true,aB,aG hi,aI hi,li1,aC,k5,k7,Bool.and_self,MW,aAk _ hj,aAj,aO (show i<9223372036854775807 by omega)]
 have:aDD (fun (j:Nat)=>((l.take i).count (j:Int):Int)) l[i]=fun (j:Nat)=>((l.take (i+1)).count (j:Int):Int):=by
  funext j
  have hc:(l.take i).count (l[i])≤(l.take i).length:=List.count_le_length
  rw [List.length_take] at hc
  rw [← List.take_append_getElem hi,List.count_append,List.count_singleton]
  unfold aDD
  rw [aBT _ hj]
  by_cases e:j=l[i].toNat
  ·have e2:((j:Nat):Int)=l[i]:=by omega
   have e3:((0+l[i].toNat*1:Nat):Int)=l[i]:=by omega
   rw [if_pos (by simp [e]),e2,e3]
   simp only [beq_self_eq_true,if_true]
   rw [bW] <;> omega
  ·rw [if_neg (by simp;omega)]
   have e2:(l[i] == (j:Int))=false:=by simp;omega
   rw [e2];simp
 rw [this]
theorem FK (l:List Int):pP (fun j=>(l.count (j:Int):Int))=(mix l).map ci:=by
 unfold pP mix
 rw [List.map_map];rfl
theorem CK {l:List Int} (hl:∀ s∈l,1≤s∧s≤9) (hll:l.length<1000000):aJ (nO (ints l)) [ci 0,ci 0,ci 0,ci 0,ci 0,ci 0,ci 0,ci 0,ci 0,ci 0,ci 0]=some (.br 0 ((mix l).map ci)):=by
 rw [(bP l (fun i (_:Unit)=>ci (i:Int)::pP fun j=>((l.take i).count (j:Int):Int)) (fun _ _=>()) (fun _ _=>True) 0 (fun _=>(mix l).map ci) () ?hv trivial ?hs ?he).1]
 case hv=>rfl
 case hs=>exact fun i hi _ _=>⟨QK hl hll hi,trivial⟩
 case he =>
  intro _ _
  rw [List.take_length]
  unfold nO
  simp only [aL,aF,eq_false (show ¬((l.length:Int)<(l.length:Int)) by omega),decide_false,aB,MW]
  rw [FK]
theorem IM (l:List Int):cis ((mix l).map ci) 0 10=(mix l).map ci:=by rw [← FK,WA]
theorem zP (l:List Int):(mix l).length=10:=by simp [mix]
abbrev MA:=List (List Int×Bool)
def eO (tr:MA):List (List CV):=rowA (fun l:List Int=>l.map ci) cb tr
def Kept (y:Yard) (tr:MA):Prop:=(∀ e∈tr,e.1.length=10)∧∀ (l:List Int) (b:Bool),l.all (has y)=true→jE tr (mix l)=some b→b=can y l
theorem Kept.nil (y:Yard):Kept y []:=⟨by simp,fun l b _ h=>by simp [jE] at h⟩
theorem Kept.set {y:Yard} (hy:y.ok=true) {tr:MA} (h:Kept y tr) {l:List Int} (hl:l.all (has y)=true):Kept y (mN tr (mix l) (can y l)):=by
 refine ⟨HP (ok:=fun l:List Int=>l.length=10) (zP l) _ h.1,fun l' b hl' hg=>?_⟩
 rw [mO] at hg
 split at hg
 ·rename_i e
  cases hg
  exact (aBu hy hl' hl e).symm
 ·exact h.2 l' b hl' hg
theorem zQ {y:Yard} {tr:MA} (h:Kept y tr):oN [(.int .i64),(.int .i64),(.int .i64),(.int .i64),(.int .i64),(.int .i64),(.int .i64),(.int .i64),(.int .i64),(.int .i64)] .bool (eO tr)=true:=
 LP fun e he=>by rw [aBz (h.1 e he)];rfl
theorem aAl {y:Yard} {tr:MA} (h:Kept y tr) (l:List Int):decide (bB 10 ((mix l).map ci) (eO tr)<(eO tr).length)=(jE tr (mix l)).isSome:=by
 have:=(wF 10).pos (vc:=cb) (k:=mix l) (zP l) h.1
 rw [Bool.eq_iff_iff,decide_eq_true_eq]
 exact this
theorem WB {y:Yard} {tr:MA} (h:Kept y tr) (l:List Int):bG 10 ((mix l).map ci) (.bool false) (eO tr)=match jE tr (mix l) with | some v=>cb v | none=>.val (.bool false):=by
 have:=(wF 10).look (vc:=cb) (k:=mix l) (zP l) (.bool false) h.1
 unfold eO
 cases hg:jE tr (mix l) <;> rw [hg] at this <;> exact this
theorem MX {y:Yard} {tr:MA} (h:Kept y tr) (l:List Int) (b:Bool):kN 10 ((mix l).map ci) (cb b) (eO tr)=eO (mN tr (mix l) b):=
 (wF 10).upd (vc:=cb) (k:=mix l) (zP l) b h.1
theorem aBU (y:Yard) (l:List Int):can y l=(PL y l)[0]?.isSome:=by
 unfold can
 cases PL y l <;> rfl
theorem QL (hI:ItsM its) (n:Nat) {y:Yard} (hy:y.ok=true) {l:List Int} (hs:aQ y l=true) :
  ∃ c,D its (n+2) eI [.ref (pc y),.row 1 (ints l),ci 0]=some [c,cb (can y l)]:=by
 have:=aCR hI n hy hs 0 (by omega)
 rw [aBU]
 rw [show ((0:Nat):Int)=0 from rfl] at this
 rw [this]
 cases (PL y l)[0]? with
 | some x=>exact ⟨_,rfl⟩
 | none=>exact ⟨_,rfl⟩
theorem IO {y:Yard} {l:List Int} (h:aQ y l=true):l.all (has y)=true:=List.all_eq_true.2 (wM h)
theorem FL {y:Yard} (hy:y.ok=true) {l:List Int} (hl:l.all (has y)=true) {tr:MA} (hk:Kept y tr) {call:Option (List CV)} {c:CV} (hc:call=some [c,cb (can y l)]) :
  ∃ tr',Kept y tr'∧(bN (aB (!(decide ((bB 10 ((mix l).map ci) (eO tr))<(List.length (eO tr))))) (aE call fun v13=>chk (oN [(.int .i64),(.int .i64),(.int .i64),(.int .i64),(.int .i64),(.int .i64),(.int .i64),(.int .i64),(.int .i64),(.int .i64)] .bool (eO tr))<|some (.nx [cb (gb v13 1),CV.row 11 (kN 10 ((mix l).map ci) (cb (gb v13 1)) (eO tr))])) (some (.nx [cb (cB (bG 10 ((mix l).map ci) (.bool false) (eO tr))),CV.row 11 (eO tr)]))) fun v13=>some (.ret [cb (gb v13 0),CV.row 11 (gr v13 1)]))=some (.ret [cb (can y l),CV.row 11 (eO tr')]):=by
 rw [aAl hk l,WB hk l,hc]
 cases hg:jE tr (mix l) with
 | none =>
  refine ⟨_,hk.set hy hl,?_⟩
  simp only [Option.isSome_none,Bool.not_false,aB,aD,zQ hk,aC,AX,bD,MX hk,aV,dL,bI]
 | some b =>
  refine ⟨tr,hk,?_⟩
  have:=hk.2 l b hl hg
  simp only [Option.isSome_some,Bool.not_true,aB,aV,bD,dL,bI,aD7,this]
end Go.Proofs.Ythkfohoccnnphaa
