/-
 What the beasts of a pound have lU by their pens is what they are charged for, and those who stand in the pens are those who are inside: at every input, without any condition.
-/
import Derived.KernelRfl
import Derived.LoopIn
import Derived.LoopNIn
import Derived.OwnWalkIn
import Derived.RangeFuncKeeps
import Derived.RangeFuncLeaves
import Derived.Shelf.Abstract
import Derived.TacticsInMore
import Derived.Test.YtnnifohchhjkhaaProg
import Derived.WalkKit
import Derived.Test.YtnnifohchhjkhaaP09
namespace Go.Proofs.Ytnnifohchhjkhaa
open Go Go.Sx
set_option maxRecDepth 100000
set_option maxHeartbeats 0
noncomputable section
def wC (M:Den) (a0_0 a0_1 a0_2 a0_3:List (List CV)):Option Ou :=  cA 0 (aG (fun v0=>aJ (aB (decide ((gi v0 0)<(il a0_0))) (some (.nx [cb (decide ((gi v0 0)<4))])) (some (.nx [cb false]))) fun v1=>aB (gb v1 0) (chk (inb (gi v0 0) a0_0)<|chk (oks [li] (el a0_0 (gi v0 0)) 0)<|aC (M cH [ci (gi (el a0_0 (gi v0 0)) 0),ci 12]) fun v2=>chk (cX (List.length (gr v0 2)) 1 8)<|some (.nx ([ci (wr ((gi v0 0)+1)),CV.row 4 (gr v0 1),CV.row 1 ((gr v0 2)++(aS 1 1 [ci (gi v2 0)]))]))) (some (.br 0 [CV.row 4 (gr v0 1),CV.row 1 (gr v0 2)]))) ([ci 0,CV.row 4 [],CV.row 1 []])) fun v0=>cA 2 (aG (fun v1=>aB (decide ((gi v1 0)≤3)) (aJ (aB (decide ((il a0_1) > 0)) (chk ((il a0_1) != 0)<|chk (inb (Int.tmod (gi v1 0) (il a0_1)) a0_1)<|chk (oks [li,li,li] (el a0_1 (Int.tmod (gi v1 0) (il a0_1))) 0)<|some (.nx [ci (gi (el a0_1 (Int.tmod (gi v1 0) (il a0_1))) 0),ci (gi (el a0_1 (Int.tmod (gi v1 0) (il a0_1))) 1),ci (gi (el a0_1 (Int.tmod (gi v1 0) (il a0_1))) 2)])) (some (.nx [ci 0,ci 0,ci 0]))) fun v2=>aC (M cH [ci (gi v2 0),ci 6]) fun v3=>aC (M cH [ci (gi v2 1),ci 40]) fun v4=>aC (M cH [ci (gi v2 2),ci 8]) fun v5=>chk (cX (List.length (gr v1 1)) 1 32)<|some (.nx ([ci (wr ((gi v1 0)+1)),CV.row 4 ((gr v1 1)++(aS 4 1 [ci (gi v1 0),ci (wr (1+(gi v3 0))),ci (gi v4 0),ci (wr (2*(gi v5 0)))])),CV.row 1 (gr v1 2)]))) (some (.br 2 [CV.row 4 (gr v1 1),CV.row 1 (gr v1 2)]))) [ci 1,CV.row 4 (gr v0 0),CV.row 1 (gr v0 1)]) fun v1=>cA 4 (aG (fun v2=>aB (decide ((gi v2 0)≤3)) (aJ (chk ((decide (0≤(gi v2 0)))&&(decide ((gi v2 0)<(Int.ofNat 10))))<|chk (oks [li] (cis v2 1 24) (1+((Int.toNat (gi v2 0))*1)))<|some (.nx [ci (if (decide (0=(1+((Int.toNat (gi v2 0))*1))))=true then wr (5*(gi v2 0)) else gi v2 1),ci (if (decide (1=(1+((Int.toNat (gi v2 0))*1))))=true then wr (5*(gi v2 0)) else gi v2 2),ci (if (decide (2=(1+((Int.toNat (gi v2 0))*1))))=true then wr (5*(gi v2 0)) else gi v2 3),ci (if (decide (3=(1+((Int.toNat (gi v2 0))*1))))=true then wr (5*(gi v2 0)) else gi v2 4),ci (if (decide (4=(1+((Int.toNat (gi v2 0))*1))))=true then wr (5*(gi v2 0)) else gi v2 5),ci (if (decide (5=(1+((Int.toNat (gi v2 0))*1))))=true then wr (5*(gi v2 0)) else gi v2 6),ci (if (decide (6=(1+((Int.toNat (gi v2 0))*1))))=true then wr (5*(gi v2 0)) else gi v2 7),ci (if (decide (7=(1+((Int.toNat (gi v2 0))*1))))=true then wr (5*(gi v2 0)) else gi v2 8),ci (if (decide (8=(1+((Int.toNat (gi v2 0))*1))))=true then wr (5*(gi v2 0)) else gi v2 9),ci (if (decide (9=(1+((Int.toNat (gi v2 0))*1))))=true then wr (5*(gi v2 0)) else gi v2 10),ci (if (decide (10=(1+((Int.toNat (gi v2 0))*1))))=true then wr (5*(gi v2 0)) else gi v2 11),ci (if (decide (11=(1+((Int.toNat (gi v2 0))*1))))=true then wr (5*(gi v2 0)) else gi v2 12),ci (if (decide (12=(1+((Int.toNat (gi v2 0))*1))))=true then wr (5*(gi v2 0)) else gi v2 13),ci (if (decide (13=(1+((Int.toNat (gi v2 0))*1))))=true then wr (5*(gi v2 0)) else gi v2 14),ci (if (decide (14=(1+((Int.toNat (gi v2 0))*1))))=true then wr (5*(gi v2 0)) else gi v2 15),ci (if (decide (15=(1+((Int.toNat (gi v2 0))*1))))=true then wr (5*(gi v2 0)) else gi v2 16),ci (if (decide (16=(1+((Int.toNat (gi v2 0))*1))))=true then wr (5*(gi v2 0)) else gi v2 17),ci (if (decide (17=(1+((Int.toNat (gi v2 0))*1))))=true then wr (5*(gi v2 0)) else gi v2 18),ci (if (decide (18=(1+((Int.toNat (gi v2 0))*1))))=true then wr (5*(gi v2 0)) else gi v2 19),ci (if (decide (19=(1+((Int.toNat (gi v2 0))*1))))=true then wr (5*(gi v2 0)) else gi v2 20),ci (if (decide (20=(1+((Int.toNat (gi v2 0))*1))))=true then wr (5*(gi v2 0)) else gi v2 21),ci (if (decide (21=(1+((Int.toNat (gi v2 0))*1))))=true then wr (5*(gi v2 0)) else gi v2 22),ci (if (decide (22=(1+((Int.toNat (gi v2 0))*1))))=true then wr (5*(gi v2 0)) else gi v2 23),ci (if (decide (23=(1+((Int.toNat (gi v2 0))*1))))=true then wr (5*(gi v2 0)) else gi v2 24)])) fun v3=>aJ (chk ((decide (0≤(gi v2 0)))&&(decide ((gi v2 0)<(Int.ofNat 10))))<|chk (oks [li] (cis v3 0 24) (11+((Int.toNat (gi v2 0))*1)))<|some (.nx [ci (if (decide (0=(11+((Int.toNat (gi v2 0))*1))))=true then wr (2*(gi v2 0)) else gi v3 0),ci (if (decide (1=(11+((Int.toNat (gi v2 0))*1))))=true then wr (2*(gi v2 0)) else gi v3 1),ci (if (decide (2=(11+((Int.toNat (gi v2 0))*1))))=true then wr (2*(gi v2 0)) else gi v3 2),ci (if (decide (3=(11+((Int.toNat (gi v2 0))*1))))=true then wr (2*(gi v2 0)) else gi v3 3),ci (if (decide (4=(11+((Int.toNat (gi v2 0))*1))))=true then wr (2*(gi v2 0)) else gi v3 4),ci (if (decide (5=(11+((Int.toNat (gi v2 0))*1))))=true then wr (2*(gi v2 0)) else gi v3 5),ci (if (decide (6=(11+((Int.toNat (gi v2 0))*1))))=true then wr (2*(gi v2 0)) else gi v3 6),ci (if (decide (7=(11+((Int.toNat (gi v2 0))*1))))=true then wr (2*(gi v2 0)) else gi v3 7),ci (if (decide (8=(11+((Int.toNat (gi v2 0))*1))))=true then wr (2*(gi v2 0)) else gi v3 8),ci (if (decide (9=(11+((Int.toNat (gi v2 0))*1))))=true then wr (2*(gi v2 0)) else gi v3 9),ci (if (decide (10=(11+((Int.toNat (gi v2 0))*1))))=true then wr (2*(gi v2 0)) else gi v3 10),ci (if (decide (11=(11+((Int.toNat (gi v2 0))*1))))=true then wr (2*(gi v2 0)) else gi v3 11),ci (if (decide (12=(11+((Int.toNat (gi v2 0))*1))))=true then wr (2*(gi v2 0)) else gi v3 12),ci (if (decide (13=(11+((Int.toNat (gi v2 0))*1))))=true then wr (2*(gi v2 0)) else gi v3 13),ci (if (decide (14=(11+((Int.toNat (gi v2 0))*1))))=true then wr (2*(gi v2 0)) else gi v3 14),ci (if (decide (15=(11+((Int.toNat (gi v2 0))*1))))=true then wr (2*(gi v2 0)) else gi v3 15),ci (if (decide (16=(11+((Int.toNat (gi v2 0))*1))))=true then wr (2*(gi v2 0)) else gi v3 16),ci (if (decide (17=(11+((Int.toNat (gi v2 0))*1))))=true then wr (2*(gi v2 0)) else gi v3 17),ci (if (decide (18=(11+((Int.toNat (gi v2 0))*1))))=true then wr (2*(gi v2 0)) else gi v3 18),ci (if (decide (19=(11+((Int.toNat (gi v2 0))*1))))=true then wr (2*(gi v2 0)) else gi v3 19),ci (if (decide (20=(11+((Int.toNat (gi v2 0))*1))))=true then wr (2*(gi v2 0)) else gi v3 20),ci (if (decide (21=(11+((Int.toNat (gi v2 0))*1))))=true then wr (2*(gi v2 0)) else gi v3 21),ci (if (decide (22=(11+((Int.toNat (gi v2 0))*1))))=true then wr (2*(gi v2 0)) else gi v3 22),ci (if (decide (23=(11+((Int.toNat (gi v2 0))*1))))=true then wr (2*(gi v2 0)) else gi v3 23)])) fun v4=>some (.nx (cat [[ci (wr ((gi v2 0)+1))],cis v4 0 24]))) (some (.br 4 (cis v2 1 24)))) [ci 1,ci 0,ci 0,ci 0,ci 0,ci 0,ci 0,ci 0,ci 0,ci 0,ci 0,ci 0,ci 0,ci 0,ci 0,ci 0,ci 0,ci 0,ci 0,ci 0,ci 0,ci 0,ci 10,ci 12,ci 7]) fun v2=>cA 6 (aG (fun v3=>aJ (aB (decide ((gi v3 0)<(il a0_2))) (some (.nx [cb (decide ((gi v3 0)<8))])) (some (.nx [cb false]))) fun v4=>aB (gb v4 0) (chk (inb (gi v3 0) a0_2)<|chk (oks (List.replicate 4 li) (el a0_2 (gi v3 0)) 0)<|aC (M cH [ci (gi (el a0_2 (gi v3 0)) 0),ci 3]) fun v5=>aC (M cH [ci (gi (el a0_2 (gi v3 0)) 1),ci 20]) fun v6=>chk (inb (wr ((wr (1+(gi v5 0))) - 1)) (gr v1 0))<|chk (decide ((Int.toNat (wr ((wr (1+(gi v5 0))) - 1)))<(List.length (gr v1 0))))<|chk (oks [li] (el (gr v1 0) (wr ((wr (1+(gi v5 0))) - 1))) 2)<|aC (M cH [ci (gi (el a0_2 (gi v3 0)) 2),ci 300]) fun v7=>aC (M cH [ci (gi (el a0_2 (gi v3 0)) 3),ci 4]) fun v8=>chk (cX (List.length (gr v3 3)) 1 72)<|some (.nx ([ci (wr ((gi v3 0)+1)),CV.row 24 (gr v3 1),CV.row 7 (gr v3 2),CV.row 9 ((gr v3 3)++(aS 9 1 [ci (wr (1+(gi v3 0))),ci (wr (1+(gi v3 0))),ci (wr (1+(gi v5 0))),ci (gi (el (gr v1 0) (wr ((wr (1+(gi v5 0))) - 1))) 2),ci (gi v7 0),ci (gi v8 0),ci (gi v6 0),ci (gi v6 0),ci 0]))]))) (some (.br 6 [CV.row 24 (gr v3 1),CV.row 7 (gr v3 2),CV.row 9 (gr v3 3)]))) ([ci 0,CV.row 24 (aS 24 1 (cis v2 0 24)),CV.row 7 [],CV.row 9 []])) fun v3=>cA 8 (aG (fun v4=>aJ (aB (decide ((gi v4 0)<(il a0_3))) (aB (decide ((gi v4 0)<8)) (some (.nx [cb (decide ((il (gr v4 3)) > 0))])) (some (.nx [cb false]))) (some (.nx [cb false]))) fun v5=>aB (gb v5 0) (chk (inb (gi v4 0) a0_3)<|chk (oks (List.replicate 4 li) (el a0_3 (gi v4 0)) 0)<|aC (M cH [ci (gi (el a0_3 (gi v4 0)) 0),ci (il (gr v4 3))]) fun v6=>chk (inb (gi v6 0) (gr v4 3))<|chk (decide ((Int.toNat (gi v6 0))<(List.length (gr v4 3))))<|chk (oks (List.replicate 9 li) (el (gr v4 3) (gi v6 0)) 0)<|aC (M cH [ci (gi (el a0_3 (gi v4 0)) 1),ci 3]) fun v7=>aC (M cH [ci (gi (el a0_3 (gi v4 0)) 2),ci 15]) fun v8=>aC (M cH [ci (gi (el a0_3 (gi v4 0)) 2),ci 3]) fun v9=>aJ (aB ((wr (1+(gi v7 0))) != 2) (aC (M cH [ci (gi (el a0_3 (gi v4 0)) 3),ci 3]) fun v10=>some (.nx [ci (wr (50+(gi v4 0))),ci (gi (el (gr v4 3) (gi v6 0)) 0),ci (wr (1+(gi v7 0))),ci (wr (1+(gi v10 0))),ci (wr ((gi (el (gr v4 3) (gi v6 0)) 6)+(gi v8 0))),ci (wr ((wr ((gi (el (gr v4 3) (gi v6 0)) 6)+(gi v8 0)))+(gi v9 0))),ci 0])) (some (.nx [ci (wr (50+(gi v4 0))),ci (gi (el (gr v4 3) (gi v6 0)) 0),ci (wr (1+(gi v7 0))),ci 0,ci (wr ((gi (el (gr v4 3) (gi v6 0)) 6)+(gi v8 0))),ci (wr ((wr ((gi (el (gr v4 3) (gi v6 0)) 6)+(gi v8 0)))+(gi v9 0))),ci 0]))) fun v10=>chk (cX (List.length (gr v4 2)) 1 56)<|some (.nx [ci (wr ((gi v4 0)+1)),CV.row 24 (gr v4 1),CV.row 7 ((gr v4 2)++(aS 7 1 (cis v10 0 7))),CV.row 9 (gr v4 3)])) (some (.br 8 [CV.row 24 (gr v4 1),CV.row 7 (gr v4 2),CV.row 9 (gr v4 3)]))) [ci 0,CV.row 24 (gr v3 0),CV.row 7 (gr v3 1),CV.row 9 (gr v3 2)]) fun v4=>some (.ret [CV.row 1 (gr v1 1),CV.row 4 (gr v1 0),CV.row 24 (gr v4 0),CV.row 9 (gr v4 2),CV.row 7 (gr v4 1)])
theorem KG (its:ITS) (n:Nat) (a0_0 a0_1 a0_2 a0_3:List (List CV)):D its (n+1) oQ [(.row 1 a0_0),(.row 3 a0_1),(.row 4 a0_2),(.row 4 a0_3)]=aO (wC (D its n) a0_0 a0_1 a0_2 a0_3):=by kernel_rfl
def nW (M:Den) (a0_0 a0_1 a0_2 a0_3 a0_4 a0_5 a0_6:Int):Option Ou :=  aC (M aL [ci a0_3,ci 1,ci 99]) fun v0=>aJ (aB (a0_2 == 2) (aB (a0_3 == 0) (some (.nx [cb true])) (aB (a0_2 == 1) (some (.nx [cb (gb v0 0)])) (aB (a0_2 == 3) (some (.nx [cb (gb v0 0)])) (some (.nx [cb false]))))) (aB (a0_2 == 1) (some (.nx [cb (gb v0 0)])) (aB (a0_2 == 3) (some (.nx [cb (gb v0 0)])) (some (.nx [cb false]))))) fun v1=>aJ (aB (!(gb v1 0)) (some (.nx [cb true])) (aC (M aL [ci a0_0,ci 1,ci 99999]) fun v2=>aB (!(gb v2 0)) (some (.nx [cb true])) (aC (M aL [ci a0_1,ci 1,ci 99999]) fun v3=>aB (!(gb v3 0)) (some (.nx [cb true])) (aC (M gP [ci a0_4,ci a0_5,ci a0_6]) fun v4=>some (.nx [cb (!(gb v4 0))]))))) fun v2=>aB (gb v2 0) (some (.ret [ci 62])) (some (.ret [ci 0]))
theorem yE (its:ITS) (n:Nat) (a0_0 a0_1 a0_2 a0_3 a0_4 a0_5 a0_6:Int):D its (n+1) dG [(ci a0_0),(ci a0_1),(ci a0_2),(ci a0_3),(ci a0_4),(ci a0_5),(ci a0_6)]=aO (nW (D its n) a0_0 a0_1 a0_2 a0_3 a0_4 a0_5 a0_6):=by kernel_rfl
def sU (M:Den) (a0_0 a0_1 a0_2:List (List CV)) (a1 a2:Int):Option Ou :=  aC (M fX ([CV.row 24 a0_0,CV.row 9 a0_1,CV.row 7 a0_2,CV.row 1 (aS 1 1 [ci a2])])) fun v0=>aB ((gi v0 0) != 0) (some (.ret [ci 0,ci 0,ci 0,ci 0,ci 0,ci 0,ci 0,ci 0,ci 0,ci (gi v0 0)])) (aC (M kY [CV.row 24 a0_0,CV.row 9 a0_1,CV.row 7 a0_2,ci a2]) fun v1=>cA 0 (aG (fun v2=>aB (decide ((gi v2 0)<(il (gr v1 0)))) (chk (inb (gi v2 0) (gr v1 0))<|chk (oks (List.replicate 9 li) (el (gr v1 0) (gi v2 0)) 0)<|aB ((gi (el (gr v1 0) (gi v2 0)) 0) == a1) (some (.ret (cat [cis (el (gr v1 0) (gi v2 0)) 0 9,[ci 0]]))) (some (.nx (cat [[ci (wr ((gi v2 0)+1))],cis v2 1 9])))) (some (.br 0 (cis v2 1 9)))) [ci 0,ci 0,ci 0,ci 0,ci 0,ci 0,ci 0,ci 0,ci 0,ci 0]) fun v2=>some (.ret [ci 0,ci 0,ci 0,ci 0,ci 0,ci 0,ci 0,ci 0,ci 0,ci 65]))
theorem FL (its:ITS) (n:Nat) (a0_0 a0_1 a0_2:List (List CV)) (a1 a2:Int):D its (n+1) jW [(.row 24 a0_0),(.row 9 a0_1),(.row 7 a0_2),(ci a1),(ci a2)]=aO (sU (D its n) a0_0 a0_1 a0_2 a1 a2):=by kernel_rfl
def zQ (M:Den) (a0_0 a0_1 a0_2:List (List CV)) (a1_0 a1_1 a1_2 a1_3 a1_4 a1_5 a1_6 a1_7 a1_8 a2:Int):Option Ou :=  aB (a1_4 == 0) (some (.ret [ci (-1)])) (aC (M mU [ci a1_6,ci (if (wr (a1_6+720))<a2 then wr (a1_6+720) else a2)]) fun v0=>aJ (oN (itV sg M (List.getD v0 0 dC)) (fun x1 v1=>aC (M lA [CV.row 24 a0_0,CV.row 9 a0_1,CV.row 7 a0_2,ci a1_0,ci a1_1,ci a1_2,ci a1_3,ci a1_4,ci a1_5,ci a1_6,ci a1_7,ci a1_8,ci x1]) fun v2=>dD (some (.ret [ci (wr ((gi v1 1)+(gi v2 0)))])) fun v3=>aB (decide ((gi v3 0)≥a1_4)) (some (.ret [ci x1])) (some (.nx [ci (gi v1 0),ci (gi v3 0)]))) [ci 0,ci 0]) fun v1=>some (.ret [ci (-1)]))
theorem OO (its:ITS) (n:Nat) (a0_0 a0_1 a0_2:List (List CV)) (a1_0 a1_1 a1_2 a1_3 a1_4 a1_5 a1_6 a1_7 a1_8 a2:Int):D its (n+1) qV [(.row 24 a0_0),(.row 9 a0_1),(.row 7 a0_2),(ci a1_0),(ci a1_1),(ci a1_2),(ci a1_3),(ci a1_4),(ci a1_5),(ci a1_6),(ci a1_7),(ci a1_8),(ci a2)]=aO (zQ (D its n) a0_0 a0_1 a0_2 a1_0 a1_1 a1_2 a1_3 a1_4 a1_5 a1_6 a1_7 a1_8 a2):=by kernel_rfl
def oV (M:Den) (a0_0 a0_1 a0_2 a0_3:Int):Option Ou :=  aC (M eE [ci a0_0,ci 1,ci 9]) fun v0=>aB (gb v0 0) (aC (M eE [ci a0_1,ci 1,ci 1000]) fun v1=>aB (gb v1 0) (aC (M eE [ci a0_2,ci 0,ci 1000]) fun v2=>aB (gb v2 0) (aC (M eE [ci a0_3,ci 0,ci 1023]) fun v3=>aB (gb v3 0) (some (.ret [cb ((wr (Int.ofNat (bAN a0_3 1))) == 0)])) (some (.ret [cb false]))) (some (.ret [cb false]))) (some (.ret [cb false]))) (some (.ret [cb false]))
theorem KH (its:ITS) (n:Nat) (a0_0 a0_1 a0_2 a0_3:Int):D its (n+1) oR [(ci a0_0),(ci a0_1),(ci a0_2),(ci a0_3)]=aO (oV (D its n) a0_0 a0_1 a0_2 a0_3):=by kernel_rfl
def iB (M:Den) (a0:List (List CV)) (a1:CV):Option Ou :=  cA 0 (aG (fun v0=>aB (decide ((gi v0 0)<(il a0))) (chk (inb (gi v0 0) a0)<|chk (oks (List.replicate 9 li) (el a0 (gi v0 0)) 0)<|aC (bR sg M a1 (cis (el a0 (gi v0 0)) 0 9) [.agg (List.replicate 9 li)] [.one lb]) fun v1=>aB (gb v1 0) (some (.ret [ci (gi v0 0)])) (some (.nx [ci (wr ((gi v0 0)+1))]))) (some (.br 0 []))) [ci 0]) fun v0=>some (.ret [ci (-1)])
theorem nX (its:ITS) (n:Nat) (a0:List (List CV)) (a1:CV):D its (n+1) cC [(.row 9 a0),a1]=aO (iB (D its n) a0 a1):=by kernel_rfl
def qW (M:Den) (a0_0 a0_1 a0_2:List (List CV)) (a1 a2:Int):Option Ou :=  aC (M jW [CV.row 24 a0_0,CV.row 9 a0_1,CV.row 7 a0_2,ci a1,ci a2]) fun v0=>aB ((gi v0 9) != 0) (some (.ret [ci 0,ci 0,ci 0,ci (gi v0 9)])) (aC (M lX (cat [[CV.row 24 a0_0,CV.row 9 a0_1,CV.row 7 a0_2],cis v0 0 9,[ci a2]])) fun v1=>aC (M nA (cat [[CV.row 24 a0_0,CV.row 9 a0_1,CV.row 7 a0_2],cis v0 0 9,cis v1 0 4,[ci a2]])) fun v2=>some (.ret [ci (gi v2 0),ci (gi v2 1),ci (gi v2 2),ci 0]))
theorem DT (its:ITS) (n:Nat) (a0_0 a0_1 a0_2:List (List CV)) (a1 a2:Int):D its (n+1) cG [(.row 24 a0_0),(.row 9 a0_1),(.row 7 a0_2),(ci a1),(ci a2)]=aO (qW (D its n) a0_0 a0_1 a0_2 a1 a2):=by kernel_rfl
def jA (M:Den) (a0:List CV) (a1_0 a1_1 a1_2:Int):Option Ou :=  aC (M eY [CV.ref a0,ci a1_0]) fun v0=>aB (gb v0 0) (aC (M eE [ci a1_1,ci 0,ci 100000]) fun v1=>aB (gb v1 0) (aB (a1_2 == (-1)) (some (.ret [cb true])) (aC (M eE [ci a1_2,ci a1_1,ci 100000]) fun v2=>some (.ret [cb (gb v2 0)]))) (some (.ret [cb false]))) (some (.ret [cb false]))
theorem pT (its:ITS) (n:Nat) (a0:List CV) (a1_0 a1_1 a1_2:Int):D its (n+1) fH [(.ref a0),(ci a1_0),(ci a1_1),(ci a1_2)]=aO (jA (D its n) a0 a1_0 a1_1 a1_2):=by kernel_rfl
def oW (M:Den) (a0_0 a0_1 a0_2:List (List CV)) (a1:Int):Option Ou :=  aC (M fX ([CV.row 24 a0_0,CV.row 9 a0_1,CV.row 7 a0_2,CV.row 1 (aS 1 1 [ci a1])])) fun v0=>aB ((gi v0 0) != 0) (some (.ret ([CV.row 1 [],ci (gi v0 0)]))) (aC (M kY [CV.row 24 a0_0,CV.row 9 a0_1,CV.row 7 a0_2,ci a1]) fun v1=>aC (M iU [CV.row 9 (gr v1 0)]) fun v2=>some (.ret [CV.row 1 (gr v2 0),ci 0]))
theorem KI (its:ITS) (n:Nat) (a0_0 a0_1 a0_2:List (List CV)) (a1:Int):D its (n+1) eV [(.row 24 a0_0),(.row 9 a0_1),(.row 7 a0_2),(ci a1)]=aO (oW (D its n) a0_0 a0_1 a0_2 a1):=by kernel_rfl
def DU (M:Den) (a0_0 a0_1 a0_2:List (List CV)) (a1 a2:Int):Option Ou :=  aC (M jW [CV.row 24 a0_0,CV.row 9 a0_1,CV.row 7 a0_2,ci a1,ci a2]) fun v0=>aB ((gi v0 9) != 0) (some (.ret [ci 0,ci 0,ci 0,ci 0,ci (gi v0 9)])) (aC (M lX (cat [[CV.row 24 a0_0,CV.row 9 a0_1,CV.row 7 a0_2],cis v0 0 9,[ci a2]])) fun v1=>some (.ret (cat [cis v1 0 4,[ci 0]])))
theorem SV (its:ITS) (n:Nat) (a0_0 a0_1 a0_2:List (List CV)) (a1 a2:Int):D its (n+1) uA [(.row 24 a0_0),(.row 9 a0_1),(.row 7 a0_2),(ci a1),(ci a2)]=aO (DU (D its n) a0_0 a0_1 a0_2 a1 a2):=by kernel_rfl
def wD (M:Den) (a0_0 a0_1 a0_2 a0_3 a0_4 a0_5 a0_6 a0_7 a0_8 a0_9:Int):Option Ou :=  aB (a0_0 == 0) (aC (M aU ([CV.row 1 (aS 1 10 [ci a0_0,ci a0_1,ci a0_2,ci a0_3,ci a0_4,ci a0_5,ci a0_6,ci a0_7,ci a0_8,ci a0_9]),CV.fn dT []])) fun v0=>some (.ret [cb (!(gb v0 0))])) (some (.ret [cb false]))
theorem KJ (its:ITS) (n:Nat) (a0_0 a0_1 a0_2 a0_3 a0_4 a0_5 a0_6 a0_7 a0_8 a0_9:Int):D its (n+1) kZ [(ci a0_0),(ci a0_1),(ci a0_2),(ci a0_3),(ci a0_4),(ci a0_5),(ci a0_6),(ci a0_7),(ci a0_8),(ci a0_9)]=aO (wD (D its n) a0_0 a0_1 a0_2 a0_3 a0_4 a0_5 a0_6 a0_7 a0_8 a0_9):=by kernel_rfl
def sV (M:Den) (a0 a1 a2:Int):Option Ou :=  aB (decide (a0≤a2)) (aB (a1 == 0) (some (.ret [cb true])) (some (.ret [cb (decide (a1 > a2))]))) (some (.ret [cb false]))
theorem FM (its:ITS) (n:Nat) (a0 a1 a2:Int):D its (n+1) jX [(ci a0),(ci a1),(ci a2)]=aO (sV (D its n) a0 a1 a2):=by kernel_rfl
def HV (M:Den) (a0 a1:Int):Option Ou :=  chk (a1 != 0)<|chk (a1 != 0)<|some (.ret [ci (Int.tmod (wr ((Int.tmod a0 a1)+a1)) a1)])
theorem YX (its:ITS) (n:Nat) (a0 a1:Int):D its (n+1) cH [(ci a0),(ci a1)]=aO (HV (D its n) a0 a1):=by kernel_rfl
def OP (M:Den) (a0 a1 a2:Int):Option Ou :=  aB (decide (a0≥a1)) (some (.ret [cb (decide (a0≤a2))])) (some (.ret [cb false]))
theorem aBw (its:ITS) (n:Nat) (a0 a1 a2:Int):D its (n+1) eE [(ci a0),(ci a1),(ci a2)]=aO (OP (D its n) a0 a1 a2):=by kernel_rfl
def fQ (M:Den) (a0:List (List CV)) (a1:CV):Option Ou :=  aC (M eI [CV.row 3 a0,a1]) fun v0=>some (.ret [cb (decide ((gi v0 0)≥0))])
theorem lY (its:ITS) (n:Nat) (a0:List (List CV)) (a1:CV):D its (n+1) dK [(.row 3 a0),a1]=aO (fQ (D its n) a0 a1):=by kernel_rfl
def pH (M:Den) (a0:Int):Option Ou :=  aC (M fZ [ci a0]) fun v0=>some (.ret [cb (!(gb v0 0))])
theorem AN (its:ITS) (n:Nat) (a0:Int):D its (n+1) dS [(ci a0)]=aO (pH (D its n) a0):=by kernel_rfl
def pI (M:Den) (a0_0 a0_1 a0_2 a0_3 a0_4 a0_5 a0_6 a0_7 a0_8 a0_9 a0_10 a0_11 a0_12 a0_13 a0_14 a0_15 a0_16 a0_17 a0_18 a0_19 a0_20 a0_21 a0_22 a0_23:Int):Option Ou :=  some (.ret [ci a0_0])
theorem AO (its:ITS) (n:Nat) (a0_0 a0_1 a0_2 a0_3 a0_4 a0_5 a0_6 a0_7 a0_8 a0_9 a0_10 a0_11 a0_12 a0_13 a0_14 a0_15 a0_16 a0_17 a0_18 a0_19 a0_20 a0_21 a0_22 a0_23:Int):D its (n+1) dR [(ci a0_0),(ci a0_1),(ci a0_2),(ci a0_3),(ci a0_4),(ci a0_5),(ci a0_6),(ci a0_7),(ci a0_8),(ci a0_9),(ci a0_10),(ci a0_11),(ci a0_12),(ci a0_13),(ci a0_14),(ci a0_15),(ci a0_16),(ci a0_17),(ci a0_18),(ci a0_19),(ci a0_20),(ci a0_21),(ci a0_22),(ci a0_23)]=aO (pI (D its n) a0_0 a0_1 a0_2 a0_3 a0_4 a0_5 a0_6 a0_7 a0_8 a0_9 a0_10 a0_11 a0_12 a0_13 a0_14 a0_15 a0_16 a0_17 a0_18 a0_19 a0_20 a0_21 a0_22 a0_23):=by kernel_rfl
end
end Go.Proofs.Ytnnifohchhjkhaa
namespace Go.Proofs.Ytnnifohchhjkhaa
open Go Go.Sx
set_option maxRecDepth 100000
set_option maxHeartbeats 0
noncomputable section
def kP (M:Den) (a0:List CV) (a1 a2:List (List CV)):Option Ou :=  dD (chk (oks [.row 1] (List.drop 0 (List.drop 0 a0)) 0)<|chk (((decide (0≤(il (gr (List.drop 0 (List.drop 0 a0)) 0))))&&(decide ((il (gr (List.drop 0 (List.drop 0 a0)) 0))≤(il (gr (List.drop 0 (List.drop 0 a0)) 0)))))&&(cX (Int.toNat (il (gr (List.drop 0 (List.drop 0 a0)) 0))) 0 8))<|chk (oks [.row 1] (List.drop 0 (List.drop 0 a0)) 0)<|chk (decide ((List.length (gr (List.drop 0 (List.drop 0 a0)) 0))≤(List.length (List.replicate (Int.toNat (il (gr (List.drop 0 (List.drop 0 a0)) 0))) [ci 0]))))<|chk (oks [.row 1] (List.drop 0 (List.drop 0 a0)) 0)<|chk (((decide (0≤(il (gr (List.drop 0 (List.drop 0 a0)) 0))))&&(decide ((il (gr (List.drop 0 (List.drop 0 a0)) 0))≤(il (gr (List.drop 0 (List.drop 0 a0)) 0)))))&&(cX (Int.toNat (il (gr (List.drop 0 (List.drop 0 a0)) 0))) 0 8))<|some (.ret ([CV.row 1 ((gr (List.drop 0 (List.drop 0 a0)) 0)++(List.drop (List.length (gr (List.drop 0 (List.drop 0 a0)) 0)) (List.replicate (Int.toNat (il (gr (List.drop 0 (List.drop 0 a0)) 0))) [ci 0]))),CV.row 1 (List.replicate (Int.toNat (il (gr (List.drop 0 (List.drop 0 a0)) 0))) [ci 0])]))) fun v0=>aB ((il a1) != (il a2)) (some (.ret [CV.val (Value.pointer none),cb false])) (cA 0 (aG (fun v1=>aB (decide ((gi v1 0)<(il a2))) (chk (inb (gi v1 0) a2)<|chk (oks [li] (el a2 (gi v1 0)) 0)<|aJ (chk (oks [.row 1] (List.drop 0 (List.drop 0 a0)) 0)<|aC (M eE [ci (gi (el a2 (gi v1 0)) 0),ci 0,ci (wr ((il (gr (List.drop 0 (List.drop 0 a0)) 0)) - 1))]) fun v2=>aB (!(gb v2 0)) (some (.nx [cb true])) (chk (inb (gi v1 0) a1)<|chk (oks [li] (el a1 (gi v1 0)) 0)<|dD (chk ((decide (0≤(gi (el a1 (gi v1 0)) 0)))&&(decide ((gi (el a1 (gi v1 0)) 0)<(Int.ofNat 10))))<|chk (oks [li] (List.drop 1 (List.drop ((Int.toNat (gi (el a1 (gi v1 0)) 0))*4) (List.drop 2 a0))) 0)<|chk (inb (gi (el a2 (gi v1 0)) 0) (gr v1 1))<|chk (decide ((Int.toNat (gi (el a2 (gi v1 0)) 0))<(List.length (gr v1 1))))<|chk (oks [li] (el (gr v1 1) (gi (el a2 (gi v1 0)) 0)) 0)<|aB (decide ((gi (List.drop 1 (List.drop ((Int.toNat (gi (el a1 (gi v1 0)) 0))*4) (List.drop 2 a0))) 0)≤(gi (el (gr v1 1) (gi (el a2 (gi v1 0)) 0)) 0))) (chk ((decide (0≤(gi (el a1 (gi v1 0)) 0)))&&(decide ((gi (el a1 (gi v1 0)) 0)<(Int.ofNat 10))))<|chk (oks [li] (List.drop ((Int.toNat (gi (el a1 (gi v1 0)) 0))*1) (List.drop 42 a0)) 0)<|chk (inb (gi (el a2 (gi v1 0)) 0) (gr v1 2))<|chk (decide ((Int.toNat (gi (el a2 (gi v1 0)) 0))<(List.length (gr v1 2))))<|chk (oks [li] (el (gr v1 2) (gi (el a2 (gi v1 0)) 0)) 0)<|some (.ret [cb ((wr (Int.ofNat (bAN (gi (List.drop ((Int.toNat (gi (el a1 (gi v1 0)) 0))*1) (List.drop 42 a0)) 0) (gi (el (gr v1 2) (gi (el a2 (gi v1 0)) 0)) 0)))) == 0)])) (some (.ret [cb false]))) fun v3=>some (.nx [cb (!(gb v3 0))]))) fun v2=>aB (gb v2 0) (some (.ret [CV.val (Value.pointer none),cb false])) (chk (inb (gi (el a2 (gi v1 0)) 0) (gr v1 1))<|chk (decide ((Int.toNat (gi (el a2 (gi v1 0)) 0))<(List.length (gr v1 1))))<|chk (oks [li] (el (gr v1 1) (gi (el a2 (gi v1 0)) 0)) 0)<|chk (inb (gi v1 0) a1)<|chk (oks [li] (el a1 (gi v1 0)) 0)<|chk ((decide (0≤(gi (el a1 (gi v1 0)) 0)))&&(decide ((gi (el a1 (gi v1 0)) 0)<(Int.ofNat 10))))<|chk (oks [li] (List.drop 1 (List.drop ((Int.toNat (gi (el a1 (gi v1 0)) 0))*4) (List.drop 2 a0))) 0)<|chk (inb (gi (el a2 (gi v1 0)) 0) (gr v1 1))<|chk ((decide ((Int.toNat (gi (el a2 (gi v1 0)) 0))<(List.length (gr v1 1))))&&(decide (1≤1)))<|chk (inb (gi (el a2 (gi v1 0)) 0) (gr v1 2))<|chk (decide ((Int.toNat (gi (el a2 (gi v1 0)) 0))<(List.length (gr v1 2))))<|chk (oks [li] (el (gr v1 2) (gi (el a2 (gi v1 0)) 0)) 0)<|chk (inb (gi v1 0) a1)<|chk (oks [li] (el a1 (gi v1 0)) 0)<|chk (decide (0≤(gi (el a1 (gi v1 0)) 0)))<|chk (inb (gi (el a2 (gi v1 0)) 0) (gr v1 2))<|chk ((decide ((Int.toNat (gi (el a2 (gi v1 0)) 0))<(List.length (gr v1 2))))&&(decide (1≤1)))<|some (.nx ([ci (wr ((gi v1 0)+1)),CV.row 1 (List.set (gr v1 1) (Int.toNat (gi (el a2 (gi v1 0)) 0)) (spl (el (gr v1 1) (gi (el a2 (gi v1 0)) 0)) 0 [ci (wr ((gi (el (gr v1 1) (gi (el a2 (gi v1 0)) 0)) 0) - (gi (List.drop 1 (List.drop ((Int.toNat (gi (el a1 (gi v1 0)) 0))*4) (List.drop 2 a0))) 0)))])),CV.row 1 (List.set (gr v1 2) (Int.toNat (gi (el a2 (gi v1 0)) 0)) (spl (el (gr v1 2) (gi (el a2 (gi v1 0)) 0)) 0 [ci (wr (Int.ofNat (bON (gi (el (gr v1 2) (gi (el a2 (gi v1 0)) 0)) 0) (wr (1*((2:Int) ^ (min (Int.toNat (gi (el a1 (gi v1 0)) 0)) 64)))))))]))])))) (some (.br 0 [CV.row 1 (gr v1 1),CV.row 1 (gr v1 2)]))) [ci 0,CV.row 1 (gr v0 0),CV.row 1 (gr v0 1)]) fun v1=>some (.ret ([CV.ref [CV.row 1 (gr v1 0),CV.row 1 (gr v1 1)],cb true])))
theorem sF (its:ITS) (n:Nat) (a0:List CV) (a1 a2:List (List CV)):D its (n+1) gF [(.ref a0),(.row 1 a1),(.row 1 a2)]=aO (kP (D its n) a0 a1 a2):=by kernel_rfl
def wE (M:Den) (a0_0 a0_1 a0_2:List (List CV)) (a1:Int):Option Ou :=  dD (tP a0_1 (some (.ret ([CV.row 9 []]))) (chk (cX 0 (List.length a0_1) 72)<|some (.ret [CV.row 9 a0_1]))) fun v0=>dD (aC (M cC ([CV.row 9 (gr v0 0),CV.fn aN ([CV.ref [ci a1]])])) fun v1=>aB ((gi v1 0) == (-1)) (some (.ret [CV.row 9 (gr v0 0)])) (cA 0 (aG (fun v2=>aB (decide ((gi v2 1)<(il (gr v2 2)))) (chk (inb (gi v2 1) (gr v2 2))<|chk (decide ((Int.toNat (gi v2 1))<(List.length (gr v2 2))))<|chk (oks (List.replicate 9 li) (el (gr v2 2) (gi v2 1)) 0)<|aC (M aN (cat [cis (el (gr v2 2) (gi v2 1)) 0 9,[CV.ref [ci a1]]])) fun v3=>aJ (aB (!(gb v3 0)) (chk (inb (gi v2 0) (gr v2 2))<|chk ((decide ((Int.toNat (gi v2 0))<(List.length (gr v2 2))))&&(decide (9≤9)))<|some (.nx [ci (wr ((gi v2 0)+1)),CV.row 9 (List.set (gr v2 2) (Int.toNat (gi v2 0)) (spl (el (gr v2 2) (gi v2 0)) 0 (cis (el (gr v2 2) (gi v2 1)) 0 9)))])) (some (.nx [ci (gi v2 0),CV.row 9 (gr v2 2)]))) fun v4=>some (.nx [ci (gi v4 0),ci (wr ((gi v2 1)+1)),CV.row 9 (gr v4 1)])) (some (.br 0 [ci (gi v2 0),CV.row 9 (gr v2 2)]))) [ci (gi v1 0),ci (wr ((gi v1 0)+1)),CV.row 9 (gr v0 0)]) fun v2=>chk ((decide (0≤(gi v2 0)))&&(decide ((gi v2 0)≤(il (gr v2 1)))))<|chk ((decide (0≤(gi v2 0)))&&(decide ((gi v2 0)≤(il ((List.take (Int.toNat (gi v2 0)) (gr v2 1))++(List.replicate ((List.length (gr v2 1)) - (Int.toNat (gi v2 0))) [ci 0,ci 0,ci 0,ci 0,ci 0,ci 0,ci 0,ci 0,ci 0]))))))<|some (.ret ([CV.row 9 (List.take (Int.toNat (gi v2 0)) ((List.take (Int.toNat (gi v2 0)) (gr v2 1))++(List.replicate ((List.length (gr v2 1)) - (Int.toNat (gi v2 0))) [ci 0,ci 0,ci 0,ci 0,ci 0,ci 0,ci 0,ci 0,ci 0])))])))) fun v1=>some (.ret [CV.row 9 (gr v1 0)])
theorem KK (its:ITS) (n:Nat) (a0_0 a0_1 a0_2:List (List CV)) (a1:Int):D its (n+1) kY [(.row 24 a0_0),(.row 9 a0_1),(.row 7 a0_2),(ci a1)]=aO (wE (D its n) a0_0 a0_1 a0_2 a1):=by kernel_rfl
def sW (M:Den) (a0_0 a0_1 a0_2:List (List CV)) (a1_0 a1_1 a1_2 a1_3 a1_4 a1_5 a1_6 a1_7 a1_8 a2_0 a2_1 a2_2 a2_3 a3:Int):Option Ou :=  aJ (aB (decide (a1_6≤a3)) (aC (M eF [CV.row 24 a0_0,CV.row 9 a0_1,CV.row 7 a0_2,ci a1_6]) fun v0=>chk ((decide (0≤a1_2))&&(decide (a1_2<(Int.ofNat 10))))<|chk (oks [li] (cis v0 0 24) (1+((Int.toNat a1_2)*1)))<|some (.nx [ci (gi (cis v0 0 24) (1+((Int.toNat a1_2)*1))),ci 0,ci 0])) (some (.nx [ci 0,ci 0,ci 0]))) fun v0=>aC (M uB [ci a1_0,ci a1_1,ci a1_2,ci a1_3,ci a1_4,ci a1_5,ci a1_6,ci a1_7,ci a1_8,ci a2_0,ci a2_1,ci a2_2,ci a2_3,ci a3]) fun v1=>aJ (oN (itV sg M (List.getD v1 0 dC)) (fun x2 v2=>aC (M eF [CV.row 24 a0_0,CV.row 9 a0_1,CV.row 7 a0_2,ci x2]) fun v3=>aC (M lA [CV.row 24 a0_0,CV.row 9 a0_1,CV.row 7 a0_2,ci a1_0,ci a1_1,ci a1_2,ci a1_3,ci a1_4,ci a1_5,ci a1_6,ci a1_7,ci a1_8,ci x2]) fun v4=>aJ (aB (decide (a2_1<0)) (some (.nx [cb true])) (some (.nx [cb (decide (x2<a2_1))]))) fun v5=>aJ (aB (gb v5 0) (chk ((decide (0≤a1_2))&&(decide (a1_2<(Int.ofNat 10))))<|chk (oks [li] (cis v3 0 24) (11+((Int.toNat a1_2)*1)))<|some (.nx [ci (gi v2 0),ci (wr ((gi v2 1)+(gi v4 0))),ci (wr ((gi v2 2)+(gi (cis v3 0 24) (11+((Int.toNat a1_2)*1)))))])) (some (.nx [ci (gi v2 0),ci (wr ((gi v2 1)+(gi v4 0))),ci (gi v2 2)]))) fun v6=>some (.nx [ci (gi v6 0),ci (gi v6 1),ci (gi v6 2)])) [ci (gi v0 0),ci (gi v0 1),ci (gi v0 2)]) fun v2=>some (.ret [ci (gi v2 0),ci (gi v2 1),ci (gi v2 2)])
theorem FN (its:ITS) (n:Nat) (a0_0 a0_1 a0_2:List (List CV)) (a1_0 a1_1 a1_2 a1_3 a1_4 a1_5 a1_6 a1_7 a1_8 a2_0 a2_1 a2_2 a2_3 a3:Int):D its (n+1) nA [(.row 24 a0_0),(.row 9 a0_1),(.row 7 a0_2),(ci a1_0),(ci a1_1),(ci a1_2),(ci a1_3),(ci a1_4),(ci a1_5),(ci a1_6),(ci a1_7),(ci a1_8),(ci a2_0),(ci a2_1),(ci a2_2),(ci a2_3),(ci a3)]=aO (sW (D its n) a0_0 a0_1 a0_2 a1_0 a1_1 a1_2 a1_3 a1_4 a1_5 a1_6 a1_7 a1_8 a2_0 a2_1 a2_2 a2_3 a3):=by kernel_rfl
def iC (M:Den) (a0:List (List CV)) (a1:Int) (a2 a3:CV):Option Ou :=  cA 0 (aG (fun v0=>aB (decide ((gi v0 0)<(il a0))) (chk (inb (gi v0 0) a0)<|chk (oks (List.replicate 24 li) (el a0 (gi v0 0)) 0)<|aJ (aC (bR sg M a2 (cis (el a0 (gi v0 0)) 0 24) [.agg (List.replicate 24 li)] [.one li]) fun v1=>aB ((gi v1 0) != 0) (some (.nx [cb true])) (aB (decide ((gi v0 0) > 0)) (chk (inb (wr ((gi v0 0) - 1)) a0)<|chk (oks (List.replicate 24 li) (el a0 (wr ((gi v0 0) - 1))) 0)<|aC (bR sg M a3 (cis (el a0 (wr ((gi v0 0) - 1))) 0 24) [.agg (List.replicate 24 li)] [.one li]) fun v2=>aC (bR sg M a3 (cis (el a0 (gi v0 0)) 0 24) [.agg (List.replicate 24 li)] [.one li]) fun v3=>some (.nx [cb (decide ((gi v2 0)≥(gi v3 0)))])) (some (.nx [cb false])))) fun v1=>aB (gb v1 0) (some (.ret [cb false])) (some (.nx [ci (wr ((gi v0 0)+1))]))) (some (.br 0 []))) [ci 0]) fun v0=>some (.ret [cb (decide ((il a0)≤a1))])
theorem nY (its:ITS) (n:Nat) (a0:List (List CV)) (a1:Int) (a2 a3:CV):D its (n+1) eD [(.row 24 a0),(ci a1),a2,a3]=aO (iC (D its n) a0 a1 a2 a3):=by kernel_rfl
def gV (M:Den) (a0_0 a0_1 a0_2 a0_3 a0_4 a0_5 a0_6 a0_7 a0_8 a0_9 a0_10 a0_11 a0_12 a0_13 a0_14 a0_15 a0_16 a0_17 a0_18 a0_19 a0_20 a0_21 a0_22 a0_23:Int):Option Ou :=  aJ (aC (M fZ [ci a0_0]) fun v0=>aB (!(gb v0 0)) (some (.nx [cb true])) (aC (M kZ [ci a0_1,ci a0_2,ci a0_3,ci a0_4,ci a0_5,ci a0_6,ci a0_7,ci a0_8,ci a0_9,ci a0_10]) fun v1=>aB (!(gb v1 0)) (some (.nx [cb true])) (aC (M kZ [ci a0_11,ci a0_12,ci a0_13,ci a0_14,ci a0_15,ci a0_16,ci a0_17,ci a0_18,ci a0_19,ci a0_20]) fun v2=>aB (!(gb v2 0)) (some (.nx [cb true])) (aC (M aL [ci a0_21,ci 0,ci 10000]) fun v3=>aB (!(gb v3 0)) (some (.nx [cb true])) (aC (M aL [ci a0_22,ci 0,ci 60]) fun v4=>aB (!(gb v4 0)) (some (.nx [cb true])) (aC (M aL [ci a0_23,ci 0,ci 60]) fun v5=>aB (!(gb v5 0)) (some (.nx [cb true])) (some (.nx [cb (decide ((wr (a0_22+a0_23)) > 60))])))))))) fun v0=>aB (gb v0 0) (some (.ret [ci 60])) (some (.ret [ci 0]))
theorem uC (its:ITS) (n:Nat) (a0_0 a0_1 a0_2 a0_3 a0_4 a0_5 a0_6 a0_7 a0_8 a0_9 a0_10 a0_11 a0_12 a0_13 a0_14 a0_15 a0_16 a0_17 a0_18 a0_19 a0_20 a0_21 a0_22 a0_23:Int):D its (n+1) cN [(ci a0_0),(ci a0_1),(ci a0_2),(ci a0_3),(ci a0_4),(ci a0_5),(ci a0_6),(ci a0_7),(ci a0_8),(ci a0_9),(ci a0_10),(ci a0_11),(ci a0_12),(ci a0_13),(ci a0_14),(ci a0_15),(ci a0_16),(ci a0_17),(ci a0_18),(ci a0_19),(ci a0_20),(ci a0_21),(ci a0_22),(ci a0_23)]=aO (gV (D its n) a0_0 a0_1 a0_2 a0_3 a0_4 a0_5 a0_6 a0_7 a0_8 a0_9 a0_10 a0_11 a0_12 a0_13 a0_14 a0_15 a0_16 a0_17 a0_18 a0_19 a0_20 a0_21 a0_22 a0_23):=by kernel_rfl
def zR (M:Den)  : Option Ou :=  aC (M iA ([CV.row 1 (aS 1 1 [ci 4]),CV.row 4 (aS 4 1 [ci 1,ci 2,ci 8,ci 0]),CV.row 3 (aS 3 1 [ci 1,ci 3,ci 6]),ci 5])) fun v0=>aC (M cG ([CV.row 24 (aS 24 1 [ci 0,ci 0,ci 0,ci 0,ci 0,ci 0,ci 0,ci 0,ci 0,ci 0,ci 0,ci 0,ci 0,ci 0,ci 0,ci 0,ci 0,ci 0,ci 0,ci 0,ci 0,ci 5,ci 0,ci 0]),CV.row 9 (aS 9 1 [ci 1,ci 7,ci 1,ci 20,ci 0,ci 0,ci 10,ci 10,ci 0]),CV.val (Value.slice none 0 0),ci 1,ci 13])) fun v1=>aB ((gi v0 1) == 0) (aB ((gi v0 0) == 24) (aB ((gi v1 3) == 0) (some (.ret [cb ((gi v1 1) == 40)])) (some (.ret [cb false]))) (some (.ret [cb false]))) (some (.ret [cb false]))
theorem OQ (its:ITS) (n:Nat)  : D its (n+1) qT []=aO (zR (D its n) ):=by kernel_rfl
def lZ (M:Den) (a0:List CV) (a1:List (List CV)) (a2:Int):Option Ou :=  aC (M gU [CV.ref a0,CV.row 1 a1]) fun v0=>aJ (brO (jS (CY sg M (List.getD v0 0 dC) (.lent 3 1)) (fun x1 v1=>aB ((gi v1 0) == 0) (dD (tP (gr x1 0) (some (.ret ([CV.row 1 []]))) (chk (cX 0 (List.length (gr x1 0)) 8)<|some (.ret [CV.row 1 (gr x1 0)]))) fun v2=>some (.ret [CV.row 1 (gr v2 0),cb true])) (some (.nx [ci (wr ((gi v1 0) - 1)),CV.row 1 (gr v1 1),cb (gb v1 2)]))) [ci a2,CV.val (Value.slice none 0 0),cb false])) fun v1=>some (.ret ([CV.row 1 [],cb false]))
theorem uD (its:ITS) (n:Nat) (a0:List CV) (a1:List (List CV)) (a2:Int):D its (n+1) eX [(.ref a0),(.row 1 a1),(ci a2)]=aO (lZ (D its n) a0 a1 a2):=by kernel_rfl
def pJ (M:Den) (a0_0 a0_1 a0_2 a0_3 a0_4 a0_5 a0_6 a0_7 a0_8:Int) (a1 a2 a3:List CV):Option Ou :=  chk (oks [.raw] a1 0)<|chk (oks [.row 24,.row 9,.row 7] a2 0)<|chk (oks [li] a3 0)<|aC (M lX [CV.row 24 (gr a2 0),CV.row 9 (gr a2 1),CV.row 7 (gr a2 2),ci a0_0,ci a0_1,ci a0_2,ci a0_3,ci a0_4,ci a0_5,ci a0_6,ci a0_7,ci a0_8,ci (gi a3 0)]) fun v0=>aC (bR sg M (List.getD a1 0 dC) (cat [[ci a0_0,ci a0_1,ci a0_2,ci a0_3,ci a0_4,ci a0_5,ci a0_6,ci a0_7,ci a0_8],cis v0 0 4]) [.agg (List.replicate 9 li),.agg (List.replicate 4 li)] [.one lb]) fun v1=>some (.ret [cb (!(gb v1 0))])
theorem AP (its:ITS) (n:Nat) (a0_0 a0_1 a0_2 a0_3 a0_4 a0_5 a0_6 a0_7 a0_8:Int) (a1 a2 a3:List CV):D its (n+1) bW [(ci a0_0),(ci a0_1),(ci a0_2),(ci a0_3),(ci a0_4),(ci a0_5),(ci a0_6),(ci a0_7),(ci a0_8),(.ref a1),(.ref a2),(.ref a3)]=aO (pJ (D its n) a0_0 a0_1 a0_2 a0_3 a0_4 a0_5 a0_6 a0_7 a0_8 a1 a2 a3):=by kernel_rfl
def pK (M:Den) (a0_0 a0_1 a0_2 a0_3 a0_4 a0_5 a0_6:Int) (a1 a2:List CV):Option Ou :=  chk (oks [li] a1 0)<|aC (M jX [ci a0_5,ci a0_6,ci (gi a1 0)]) fun v0=>aB (!(gb v0 0)) (some (.ret [cb true])) (chk (oks [li] (List.drop 0 a2) 0)<|aB (a0_1 != (gi (List.drop 0 a2) 0)) (some (.ret [cb true])) (chk (oks [li] (List.drop 6 a2) 0)<|chk (oks [li] a1 0)<|aC (M aL [ci a0_4,ci (gi (List.drop 6 a2) 0),ci (gi a1 0)]) fun v1=>some (.ret [cb (!(gb v1 0))])))
theorem AQ (its:ITS) (n:Nat) (a0_0 a0_1 a0_2 a0_3 a0_4 a0_5 a0_6:Int) (a1 a2:List CV):D its (n+1) bX [(ci a0_0),(ci a0_1),(ci a0_2),(ci a0_3),(ci a0_4),(ci a0_5),(ci a0_6),(.ref a1),(.ref a2)]=aO (pK (D its n) a0_0 a0_1 a0_2 a0_3 a0_4 a0_5 a0_6 a1 a2):=by kernel_rfl
def zS (M:Den) (a0_0 a0_1 a1:List (List CV)):Option Ou :=  aC (M dQ [CV.row 1 a0_0,CV.row 4 a0_1]) fun v0=>aB ((gi v0 0) != 0) (some (.ret [CV.val (Value.pointer none),ci (gi v0 0)])) (aC (M iV [CV.row 1 a0_0,CV.row 4 a0_1]) fun v1=>aC (M eG [CV.ref (cF (List.getD v1 0 dC)),CV.row 1 a1]) fun v2=>aB (!(gb v2 0)) (some (.ret [CV.val (Value.pointer none),ci 51])) (some (.ret [CV.ref (cF (List.getD v1 0 dC)),ci 0])))
theorem OS (its:ITS) (n:Nat) (a0_0 a0_1 a1:List (List CV)):D its (n+1) mT [(.row 1 a0_0),(.row 4 a0_1),(.row 1 a1)]=aO (zS (D its n) a0_0 a0_1 a1):=by kernel_rfl
def pL (M:Den) (a0 a1 a2:Int):Option Ou :=  aC (M fZ [ci a0]) fun v0=>aB (gb v0 0) (aC (M fZ [ci a1]) fun v1=>aB (gb v1 0) (aB (a2 == 0) (some (.ret [cb true])) (aB (decide (a1<a2)) (some (.ret [cb (decide (a2≤100000))])) (some (.ret [cb false])))) (some (.ret [cb false]))) (some (.ret [cb false]))
theorem AR (its:ITS) (n:Nat) (a0 a1 a2:Int):D its (n+1) gP [(ci a0),(ci a1),(ci a2)]=aO (pL (D its n) a0 a1 a2):=by kernel_rfl
def mC (M:Den) (a0:List CV) (a1:Int):Option Ou :=  aC (M eE [ci a1,ci 1,ci 9]) fun v0=>aB (gb v0 0) (chk ((decide (0≤a1))&&(decide (a1<(Int.ofNat 10))))<|chk (oks [li] (List.drop 0 (List.drop ((Int.toNat a1)*4) (List.drop 2 a0))) 0)<|some (.ret [cb ((gi (List.drop 0 (List.drop ((Int.toNat a1)*4) (List.drop 2 a0))) 0) == a1)])) (some (.ret [cb false]))
theorem uE (its:ITS) (n:Nat) (a0:List CV) (a1:Int):D its (n+1) eY [(.ref a0),(ci a1)]=aO (mC (D its n) a0 a1):=by kernel_rfl
def DV (M:Den) (a0_0 a0_1 a0_2 a0_3 a0_4 a0_5 a0_6 a0_7 a0_8 a1_0 a1_1 a1_2 a1_3 a2:Int):Option Ou :=  aJ (aB (a1_2 == 2) (some (.nx [ci a1_3])) (aJ (aB (a1_2 != 0) (some (.nx [ci (wr (a1_3 - 1))])) (some (.nx [ci a2]))) fun v0=>some (.nx [ci (gi v0 0)]))) fun v0=>aC (M mU [ci a0_6,ci (gi v0 0)]) fun v1=>some (.ret [List.getD v1 0 dC])
theorem SW (its:ITS) (n:Nat) (a0_0 a0_1 a0_2 a0_3 a0_4 a0_5 a0_6 a0_7 a0_8 a1_0 a1_1 a1_2 a1_3 a2:Int):D its (n+1) uB [(ci a0_0),(ci a0_1),(ci a0_2),(ci a0_3),(ci a0_4),(ci a0_5),(ci a0_6),(ci a0_7),(ci a0_8),(ci a1_0),(ci a1_1),(ci a1_2),(ci a1_3),(ci a2)]=aO (DV (D its n) a0_0 a0_1 a0_2 a0_3 a0_4 a0_5 a0_6 a0_7 a0_8 a1_0 a1_1 a1_2 a1_3 a2):=by kernel_rfl
def nZ (M:Den) (a0_0 a0_1 a0_2:Int) (a1:List CV):Option Ou :=  chk (oks [.raw] a1 0)<|chk (kK (List.getD a1 0 dC))<|aC (M fH [CV.ref (cF (List.getD a1 0 dC)),ci a0_0,ci a0_1,ci a0_2]) fun v0=>some (.ret [cb (!(gb v0 0))])
theorem yF (its:ITS) (n:Nat) (a0_0 a0_1 a0_2:Int) (a1:List CV):D its (n+1) dH [(ci a0_0),(ci a0_1),(ci a0_2),(.ref a1)]=aO (nZ (D its n) a0_0 a0_1 a0_2 a1):=by kernel_rfl
def wG (M:Den) (a0_0 a0_1 a0_2:List (List CV)) (a1_0 a1_1 a1_2 a1_3 a1_4 a1_5 a1_6 a1_7 a1_8 a2:Int):Option Ou :=  aC (M eF [CV.row 24 a0_0,CV.row 9 a0_1,CV.row 7 a0_2,ci a2]) fun v0=>some (.ret [ci (wr (Int.tdiv (wr (a1_3*(gi v0 21))) 10))])
theorem KL (its:ITS) (n:Nat) (a0_0 a0_1 a0_2:List (List CV)) (a1_0 a1_1 a1_2 a1_3 a1_4 a1_5 a1_6 a1_7 a1_8 a2:Int):D its (n+1) lA [(.row 24 a0_0),(.row 9 a0_1),(.row 7 a0_2),(ci a1_0),(ci a1_1),(ci a1_2),(ci a1_3),(ci a1_4),(ci a1_5),(ci a1_6),(ci a1_7),(ci a1_8),(ci a2)]=aO (wG (D its n) a0_0 a0_1 a0_2 a1_0 a1_1 a1_2 a1_3 a1_4 a1_5 a1_6 a1_7 a1_8 a2):=by kernel_rfl
def oA (M:Den) (a0_0 a0_1 a1:List (List CV)):Option Ou :=  aC (M gM [CV.row 1 a0_0,CV.row 4 a0_1,CV.row 3 a1]) fun v0=>some (.ret [ci (gi v0 1)])
theorem yG (its:ITS) (n:Nat) (a0_0 a0_1 a1:List (List CV)):D its (n+1) fV [(.row 1 a0_0),(.row 4 a0_1),(.row 3 a1)]=aO (oA (D its n) a0_0 a0_1 a1):=by kernel_rfl
def mD (M:Den) (a0:Int):Option Ou :=  aC (M eE [ci a0,ci 0,ci 1000]) fun v0=>some (.ret [cb (!(gb v0 0))])
theorem uF (its:ITS) (n:Nat) (a0:Int):D its (n+1) cO [(ci a0)]=aO (mD (D its n) a0):=by kernel_rfl
def zT (M:Den) (a0 a1:Int):Option Ou :=  some (.ret ([CV.fn bV ([CV.ref [ci a0],CV.ref [ci a1]])]))
theorem OT (its:ITS) (n:Nat) (a0 a1:Int):D its (n+1) mU [(ci a0),(ci a1)]=aO (zT (D its n) a0 a1):=by kernel_rfl
def sX (M:Den) (a0_0 a0_1 a0_2 a0_3 a0_4 a0_5 a0_6 a0_7 a0_8:Int):Option Ou :=  some (.ret [ci a0_0])
theorem FO (its:ITS) (n:Nat) (a0_0 a0_1 a0_2 a0_3 a0_4 a0_5 a0_6 a0_7 a0_8:Int):D its (n+1) fB [(ci a0_0),(ci a0_1),(ci a0_2),(ci a0_3),(ci a0_4),(ci a0_5),(ci a0_6),(ci a0_7),(ci a0_8)]=aO (sX (D its n) a0_0 a0_1 a0_2 a0_3 a0_4 a0_5 a0_6 a0_7 a0_8):=by kernel_rfl
end
end Go.Proofs.Ytnnifohchhjkhaa
namespace Go.Proofs.Ytnnifohchhjkhaa
open Go Go.Sx
set_option maxRecDepth 100000
set_option maxHeartbeats 0
noncomputable section
def sY (M:Den) (a0_0 a0_1 a0_2 a0_3:List (List CV)) (a1:Int):Option Ou :=  aC (M qT []) fun v0=>aC (M oQ [CV.row 1 a0_0,CV.row 3 a0_1,CV.row 4 a0_2,CV.row 4 a0_3]) fun v1=>aC (M cH [ci a1,ci 60]) fun v2=>aC (M kW [CV.row 24 (gr v1 2),CV.row 9 (gr v1 3),CV.row 7 (gr v1 4),ci (gi v2 0)]) fun v3=>aJ (aB (!(gb v0 0)) (some (.nx [cb true])) (aB (!(gb v3 1)) (some (.nx [cb true])) (aC (M iT [CV.row 24 (gr v1 2),CV.row 9 (gr v1 3),CV.row 7 (gr v1 4)]) fun v4=>aB ((gi v4 0) != 0) (some (.nx [cb true])) (aC (M dQ [CV.row 1 (gr v1 0),CV.row 4 (gr v1 1)]) fun v5=>aB ((gi v5 0) != 0) (some (.nx [cb true])) (aC (M fV [CV.row 1 (gr v1 0),CV.row 4 (gr v1 1),CV.row 3 (gr v3 0)]) fun v6=>some (.nx [cb ((gi v6 0) != 0)])))))) fun v4=>aB (gb v4 0) (some (.ret [cb false])) (aC (M eV [CV.row 24 (gr v1 2),CV.row 9 (gr v1 3),CV.row 7 (gr v1 4),ci (gi v2 0)]) fun v5=>cA 0 (aG (fun v6=>aB (decide ((gi v6 1)<(il (gr v5 0)))) (chk (inb (gi v6 1) (gr v5 0))<|chk (oks [li] (el (gr v5 0) (gi v6 1)) 0)<|aC (M cG [CV.row 24 (gr v1 2),CV.row 9 (gr v1 3),CV.row 7 (gr v1 4),ci (gi (el (gr v5 0) (gi v6 1)) 0),ci (gi v2 0)]) fun v7=>aJ (aB ((gi v7 3) != 0) (some (.nx [cb true])) (aB (decide ((gi v7 1)<0)) (some (.nx [cb true])) (aB (decide ((gi v7 0)<0)) (some (.nx [cb true])) (some (.nx [cb (decide ((gi v7 2)<0))]))))) fun v8=>aB (gb v8 0) (some (.ret [cb false])) (some (.nx [ci (wr ((gi v6 0)+(gi v7 1))),ci (wr ((gi v6 1)+1))]))) (some (.br 0 [ci (gi v6 0)]))) [ci 0,ci 0]) fun v6=>aC (M iA [CV.row 1 (gr v1 0),CV.row 4 (gr v1 1),CV.row 3 (gr v3 0),ci (gi v2 0)]) fun v7=>aC (M mR [CV.row 1 (gr v1 0),CV.row 4 (gr v1 1),CV.row 3 (gr v3 0),ci (gi v2 0)]) fun v8=>aC (M jV [CV.row 24 (gr v1 2),CV.row 9 (gr v1 3),CV.row 7 (gr v1 4),ci (gi v2 0)]) fun v9=>aJ (aB ((gi v5 1) != 0) (some (.nx [cb true])) (aB ((gi v7 1) != 0) (some (.nx [cb true])) (aB ((gi v8 1) != 0) (some (.nx [cb true])) (aB ((gi v9 1) != 0) (some (.nx [cb true])) (aB ((gi v7 0) != (gi v6 0)) (some (.nx [cb true])) (some (.nx [cb ((il (gr v5 0)) != (il (gr v3 0)))]))))))) fun v10=>aB (gb v10 0) (some (.ret [cb false])) (cA 2 (aG (fun v11=>aB (decide ((gi v11 0)<(il (gr v3 0)))) (cA 3 (chk (inb (gi v11 0) (gr v3 0))<|chk (oks [li] (List.drop 2 (el (gr v3 0) (gi v11 0))) 0)<|chk (inb (gi v11 0) (gr v5 0))<|chk (oks [li] (el (gr v5 0) (gi v11 0)) 0)<|aC (M nU [CV.row 1 (gr v9 0),ci (gi (el (gr v5 0) (gi v11 0)) 0)]) fun v12=>aB (((gi (List.drop 2 (el (gr v3 0) (gi v11 0))) 0) == (-1)) != (gb v12 0)) (some (.ret [cb false])) (chk (inb (gi v11 0) (gr v3 0))<|chk (oks [li] (List.drop 2 (el (gr v3 0) (gi v11 0))) 0)<|aB ((gi (List.drop 2 (el (gr v3 0) (gi v11 0))) 0) != (-1)) (some (.br 3 [CV.row 1 (gr v11 1)])) (aC (M nU [CV.row 1 (gr v8 0),ci (gi v11 0)]) fun v13=>aB (!(gb v13 0)) (some (.ret [cb false])) (chk (inb (gi v11 0) (gr v3 0))<|chk (oks [li] (List.drop 0 (el (gr v3 0) (gi v11 0))) 0)<|chk (cX (List.length (gr v11 1)) 1 8)<|some (.br 3 ([CV.row 1 ((gr v11 1)++(aS 1 1 [ci (gi (List.drop 0 (el (gr v3 0) (gi v11 0))) 0)]))])))))) fun v12=>some (.nx [ci (wr ((gi v11 0)+1)),CV.row 1 (gr v12 0)])) (some (.br 2 [CV.row 1 (gr v11 1)]))) ([ci 0,CV.row 1 []])) fun v11=>aB ((il (gr v11 0)) != (il (gr v9 0))) (some (.ret [cb false])) (aB (decide ((il (gr v11 0)) > 8)) (some (.ret [cb true])) (aC (M mS [CV.row 1 (gr v1 0),CV.row 4 (gr v1 1),CV.row 1 (gr v11 0)]) fun v12=>aB ((gi v12 1) == 0) (aC (M fW [CV.row 1 (gr v1 0),CV.row 4 (gr v1 1),CV.row 1 (gr v11 0),CV.row 1 (gr v12 0)]) fun v13=>some (.ret [cb ((gi v13 0) == 0)])) (aC (M kX [CV.row 1 (gr v1 0),CV.row 4 (gr v1 1),CV.row 1 (gr v11 0)]) fun v13=>aB ((gi v12 1) == 53) (aB ((gi v13 2) == 0) (aC (M eW [CV.row 1 (gr v1 0),CV.row 4 (gr v1 1),CV.row 1 (gr v11 0),ci (gi v13 0),CV.row 1 (gr v13 1)]) fun v14=>some (.ret [cb ((gi v14 0) == 0)])) (some (.ret [cb false]))) (some (.ret [cb false])))))))
theorem FQ (its:ITS) (n:Nat) (a0_0 a0_1 a0_2 a0_3:List (List CV)) (a1:Int):D its (n+1) sT [(.row 1 a0_0),(.row 3 a0_1),(.row 4 a0_2),(.row 4 a0_3),(ci a1)]=aO (sY (D its n) a0_0 a0_1 a0_2 a0_3 a1):=by kernel_rfl
def wH (M:Den) (a0_0 a0_1 a0_2:List (List CV)) (a1_0 a1_1 a1_2 a1_3 a1_4 a1_5 a1_6 a1_7 a1_8 a2:Int):Option Ou :=  dD (tP a0_2 (some (.ret ([CV.row 7 []]))) (chk (cX 0 (List.length a0_2) 56)<|some (.ret [CV.row 7 a0_2]))) fun v0=>dD (aC (M eJ ([CV.row 7 (gr v0 0),CV.fn bX ([CV.ref [ci a2],CV.ref [ci a1_0,ci a1_1,ci a1_2,ci a1_3,ci a1_4,ci a1_5,ci a1_6,ci a1_7,ci a1_8]])])) fun v1=>aB ((gi v1 0) == (-1)) (some (.ret [CV.row 7 (gr v0 0)])) (cA 0 (aG (fun v2=>aB (decide ((gi v2 1)<(il (gr v2 2)))) (chk (inb (gi v2 1) (gr v2 2))<|chk (decide ((Int.toNat (gi v2 1))<(List.length (gr v2 2))))<|chk (oks (List.replicate 7 li) (el (gr v2 2) (gi v2 1)) 0)<|aC (M bX (cat [cis (el (gr v2 2) (gi v2 1)) 0 7,[CV.ref [ci a2],CV.ref [ci a1_0,ci a1_1,ci a1_2,ci a1_3,ci a1_4,ci a1_5,ci a1_6,ci a1_7,ci a1_8]]])) fun v3=>aJ (aB (!(gb v3 0)) (chk (inb (gi v2 0) (gr v2 2))<|chk ((decide ((Int.toNat (gi v2 0))<(List.length (gr v2 2))))&&(decide (7≤7)))<|some (.nx [ci (wr ((gi v2 0)+1)),CV.row 7 (List.set (gr v2 2) (Int.toNat (gi v2 0)) (spl (el (gr v2 2) (gi v2 0)) 0 (cis (el (gr v2 2) (gi v2 1)) 0 7)))])) (some (.nx [ci (gi v2 0),CV.row 7 (gr v2 2)]))) fun v4=>some (.nx [ci (gi v4 0),ci (wr ((gi v2 1)+1)),CV.row 7 (gr v4 1)])) (some (.br 0 [ci (gi v2 0),CV.row 7 (gr v2 2)]))) [ci (gi v1 0),ci (wr ((gi v1 0)+1)),CV.row 7 (gr v0 0)]) fun v2=>chk ((decide (0≤(gi v2 0)))&&(decide ((gi v2 0)≤(il (gr v2 1)))))<|chk ((decide (0≤(gi v2 0)))&&(decide ((gi v2 0)≤(il ((List.take (Int.toNat (gi v2 0)) (gr v2 1))++(List.replicate ((List.length (gr v2 1)) - (Int.toNat (gi v2 0))) [ci 0,ci 0,ci 0,ci 0,ci 0,ci 0,ci 0]))))))<|some (.ret ([CV.row 7 (List.take (Int.toNat (gi v2 0)) ((List.take (Int.toNat (gi v2 0)) (gr v2 1))++(List.replicate ((List.length (gr v2 1)) - (Int.toNat (gi v2 0))) [ci 0,ci 0,ci 0,ci 0,ci 0,ci 0,ci 0])))])))) fun v1=>some (.ret [CV.row 7 (gr v1 0)])
theorem KM (its:ITS) (n:Nat) (a0_0 a0_1 a0_2:List (List CV)) (a1_0 a1_1 a1_2 a1_3 a1_4 a1_5 a1_6 a1_7 a1_8 a2:Int):D its (n+1) oT [(.row 24 a0_0),(.row 9 a0_1),(.row 7 a0_2),(ci a1_0),(ci a1_1),(ci a1_2),(ci a1_3),(ci a1_4),(ci a1_5),(ci a1_6),(ci a1_7),(ci a1_8),(ci a2)]=aO (wH (D its n) a0_0 a0_1 a0_2 a1_0 a1_1 a1_2 a1_3 a1_4 a1_5 a1_6 a1_7 a1_8 a2):=by kernel_rfl
def wI (M:Den) (a0:List (List CV)):Option Ou :=  cA 0 (aG (fun v0=>aB (decide ((gi v0 1)<(il a0))) (cA 1 (chk (inb (gi v0 1) a0)<|chk (oks (List.replicate 7 li) (el a0 (gi v0 1)) 0)<|aB ((gi (el a0 (gi v0 1)) 2) == 2) (some (.br 1 (cat [[ci (gi v0 0)],cis v0 2 14]))) (aJ (aB (decide ((gi v0 0)<0)) (some (.nx [cb true])) (some (.nx [cb (decide ((gi (el a0 (gi v0 1)) 4)<(gi v0 0)))]))) fun v1=>aJ (aB (gb v1 0) (some (.nx [ci (gi (el a0 (gi v0 1)) 4)])) (some (.nx [ci (gi v0 0)]))) fun v2=>aJ (aB ((gi (el a0 (gi v0 1)) 2) == 1) (some (.nx [cb (decide ((gi (el a0 (gi v0 1)) 4)<(gi v0 6)))])) (some (.nx [cb false]))) fun v3=>aJ (aB (gb v3 0) (some (.nx (cis (el a0 (gi v0 1)) 0 7))) (some (.nx (cis v0 2 7)))) fun v4=>aJ (aB ((gi (el a0 (gi v0 1)) 2) == 3) (some (.nx [cb (decide ((gi (el a0 (gi v0 1)) 5)≥(gi v0 14)))])) (some (.nx [cb false]))) fun v5=>aJ (aB (gb v5 0) (some (.nx (cis (el a0 (gi v0 1)) 0 7))) (some (.nx (cis v0 9 7)))) fun v6=>some (.br 1 (cat [[ci (gi v2 0)],cis v4 0 7,cis v6 0 7])))) fun v1=>some (.nx (cat [[ci (gi v1 0),ci (wr ((gi v0 1)+1))],cis v1 1 14]))) (some (.br 0 (cat [[ci (gi v0 0)],cis v0 2 14])))) [ci (-1),ci 0,ci 0,ci 0,ci 0,ci 0,ci 100001,ci 0,ci 0,ci 0,ci 0,ci 0,ci 0,ci 0,ci (-1),ci 0]) fun v0=>aB ((gi v0 11) != 0) (some (.ret [ci (gi v0 11),ci (gi v0 0)])) (some (.ret [ci (gi v0 4),ci (gi v0 0)]))
theorem KN (its:ITS) (n:Nat) (a0:List (List CV)):D its (n+1) oU [(.row 7 a0)]=aO (wI (D its n) a0):=by kernel_rfl
def pM (M:Den) (a0_0 a0_1:List (List CV)):Option Ou :=  aJ (aB (decide ((il a0_0) > 5)) (some (.nx [cb true])) (aC (M aU ([CV.row 1 a0_0,CV.fn cO []])) fun v0=>some (.nx [cb (gb v0 0)]))) fun v0=>aB (gb v0 0) (some (.ret [ci 50])) (cA 0 (aG (fun v1=>aB (decide ((gi v1 0)<(il a0_1))) (chk (inb (gi v1 0) a0_1)<|chk (oks (List.replicate 4 li) (el a0_1 (gi v1 0)) 0)<|aJ (aC (M oR (cis (el a0_1 (gi v1 0)) 0 4)) fun v2=>aB (!(gb v2 0)) (some (.nx [cb true])) (aB (decide ((gi v1 0) > 0)) (chk (inb (wr ((gi v1 0) - 1)) a0_1)<|chk (oks [li] (List.drop 0 (el a0_1 (wr ((gi v1 0) - 1)))) 0)<|some (.nx [cb (decide ((gi (List.drop 0 (el a0_1 (wr ((gi v1 0) - 1)))) 0)≥(gi (el a0_1 (gi v1 0)) 0)))])) (some (.nx [cb false])))) fun v2=>aB (gb v2 0) (some (.ret [ci 50])) (some (.nx [ci (wr ((gi v1 0)+1))]))) (some (.br 0 []))) [ci 0]) fun v1=>some (.ret [ci 0]))
theorem AS (its:ITS) (n:Nat) (a0_0 a0_1:List (List CV)):D its (n+1) dQ [(.row 1 a0_0),(.row 4 a0_1)]=aO (pM (D its n) a0_0 a0_1):=by kernel_rfl
def jB (M:Den) (a0:List (List CV)) (a1:Int) (a2 a3:CV):Option Ou :=  cA 0 (aG (fun v0=>aB (decide ((gi v0 0)<(il a0))) (chk (inb (gi v0 0) a0)<|chk (oks (List.replicate 7 li) (el a0 (gi v0 0)) 0)<|aJ (aC (bR sg M a2 (cis (el a0 (gi v0 0)) 0 7) [.agg (List.replicate 7 li)] [.one li]) fun v1=>aB ((gi v1 0) != 0) (some (.nx [cb true])) (aB (decide ((gi v0 0) > 0)) (chk (inb (wr ((gi v0 0) - 1)) a0)<|chk (oks (List.replicate 7 li) (el a0 (wr ((gi v0 0) - 1))) 0)<|aC (bR sg M a3 (cis (el a0 (wr ((gi v0 0) - 1))) 0 7) [.agg (List.replicate 7 li)] [.one li]) fun v2=>aC (bR sg M a3 (cis (el a0 (gi v0 0)) 0 7) [.agg (List.replicate 7 li)] [.one li]) fun v3=>some (.nx [cb (decide ((gi v2 0)≥(gi v3 0)))])) (some (.nx [cb false])))) fun v1=>aB (gb v1 0) (some (.ret [cb false])) (some (.nx [ci (wr ((gi v0 0)+1))]))) (some (.br 0 []))) [ci 0]) fun v0=>some (.ret [cb (decide ((il a0)≤a1))])
theorem pU (its:ITS) (n:Nat) (a0:List (List CV)) (a1:Int) (a2 a3:CV):D its (n+1) fG [(.row 7 a0),(ci a1),a2,a3]=aO (jB (D its n) a0 a1 a2 a3):=by kernel_rfl
def oB (M:Den) (a0_0 a0_1 a0_2 a0_3 a0_4 a0_5 a0_6 a0_7 a0_8:Int):Option Ou :=  aJ (aC (M aL [ci a0_0,ci 1,ci 99999]) fun v0=>aB (!(gb v0 0)) (some (.nx [cb true])) (aC (M aL [ci a0_1,ci 1,ci 9999]) fun v1=>aB (!(gb v1 0)) (some (.nx [cb true])) (aC (M aL [ci a0_2,ci 1,ci 9]) fun v2=>aB (!(gb v2 0)) (some (.nx [cb true])) (aC (M aL [ci a0_3,ci 0,ci 100]) fun v3=>aB (!(gb v3 0)) (some (.nx [cb true])) (aC (M aL [ci a0_4,ci 0,ci 100000]) fun v4=>aB (!(gb v4 0)) (some (.nx [cb true])) (aC (M aL [ci a0_5,ci 0,ci 99]) fun v5=>aB (!(gb v5 0)) (some (.nx [cb true])) (aC (M gP [ci a0_6,ci a0_7,ci a0_8]) fun v6=>some (.nx [cb (!(gb v6 0))])))))))) fun v0=>aB (gb v0 0) (some (.ret [ci 61])) (some (.ret [ci 0]))
theorem yH (its:ITS) (n:Nat) (a0_0 a0_1 a0_2 a0_3 a0_4 a0_5 a0_6 a0_7 a0_8:Int):D its (n+1) dF [(ci a0_0),(ci a0_1),(ci a0_2),(ci a0_3),(ci a0_4),(ci a0_5),(ci a0_6),(ci a0_7),(ci a0_8)]=aO (oB (D its n) a0_0 a0_1 a0_2 a0_3 a0_4 a0_5 a0_6 a0_7 a0_8):=by kernel_rfl
def qX (M:Den) (a0_0 a0_1 a0_2:List (List CV)) (a1:Int):Option Ou :=  cA 0 (aG (fun v0=>aB (decide ((gi v0 1)<(il a0_0))) (chk (inb (gi v0 1) a0_0)<|chk (oks (List.replicate 24 li) (el a0_0 (gi v0 1)) 0)<|aJ (aB (decide ((gi (el a0_0 (gi v0 1)) 0)≤a1)) (some (.nx (cat [[cb true],cis (el a0_0 (gi v0 1)) 0 24]))) (some (.nx (cat [[cb (gb v0 0)],cis v0 2 24])))) fun v1=>some (.nx (cat [[cb (gb v1 0),ci (wr ((gi v0 1)+1))],cis v1 1 24]))) (some (.br 0 (cat [[cb (gb v0 0)],cis v0 2 24])))) [cb false,ci 0,ci 0,ci 0,ci 0,ci 0,ci 0,ci 0,ci 0,ci 0,ci 0,ci 0,ci 0,ci 0,ci 0,ci 0,ci 0,ci 0,ci 0,ci 0,ci 0,ci 0,ci 0,ci 0,ci 0,ci 0]) fun v0=>some (.ret (cat [cis v0 1 24,[cb (gb v0 0)]]))
theorem DW (its:ITS) (n:Nat) (a0_0 a0_1 a0_2:List (List CV)) (a1:Int):D its (n+1) eF [(.row 24 a0_0),(.row 9 a0_1),(.row 7 a0_2),(ci a1)]=aO (qX (D its n) a0_0 a0_1 a0_2 a1):=by kernel_rfl
def sZ (M:Den) (a0_0 a0_1 a1:List (List CV)):Option Ou :=  aC (M dQ [CV.row 1 a0_0,CV.row 4 a0_1]) fun v0=>aB ((gi v0 0) != 0) (some (.ret [CV.val (Value.pointer none),ci (gi v0 0)])) (aC (M iV [CV.row 1 a0_0,CV.row 4 a0_1]) fun v1=>aJ (aB (decide ((il a1) > 40)) (some (.nx [cb true])) (aC (M dK ([CV.row 3 a1,CV.fn dH ([CV.ref [CV.ref (cF (List.getD v1 0 dC))]])])) fun v2=>some (.nx [cb (gb v2 0)]))) fun v2=>aB (gb v2 0) (some (.ret [CV.val (Value.pointer none),ci 55])) (some (.ret [CV.ref (cF (List.getD v1 0 dC)),ci 0])))
theorem FR (its:ITS) (n:Nat) (a0_0 a0_1 a1:List (List CV)):D its (n+1) gM [(.row 1 a0_0),(.row 4 a0_1),(.row 3 a1)]=aO (sZ (D its n) a0_0 a0_1 a1):=by kernel_rfl
def iD (M:Den) (a0:List (List CV)) (a1:CV):Option Ou :=  cA 0 (aG (fun v0=>aB (decide ((gi v0 0)<(il a0))) (chk (inb (gi v0 0) a0)<|chk (oks [li,li,li] (el a0 (gi v0 0)) 0)<|aC (bR sg M a1 [ci (gi (el a0 (gi v0 0)) 0),ci (gi (el a0 (gi v0 0)) 1),ci (gi (el a0 (gi v0 0)) 2)] [.agg [li,li,li]] [.one lb]) fun v1=>aB (gb v1 0) (some (.ret [ci (gi v0 0)])) (some (.nx [ci (wr ((gi v0 0)+1))]))) (some (.br 0 []))) [ci 0]) fun v0=>some (.ret [ci (-1)])
theorem oC (its:ITS) (n:Nat) (a0:List (List CV)) (a1:CV):D its (n+1) eI [(.row 3 a0),a1]=aO (iD (D its n) a0 a1):=by kernel_rfl
def iE (M:Den) (a0:List (List CV)) (a1:CV):Option Ou :=  cA 0 (aG (fun v0=>aB (decide ((gi v0 0)<(il a0))) (chk (inb (gi v0 0) a0)<|chk (oks (List.replicate 7 li) (el a0 (gi v0 0)) 0)<|aC (bR sg M a1 (cis (el a0 (gi v0 0)) 0 7) [.agg (List.replicate 7 li)] [.one lb]) fun v1=>aB (gb v1 0) (some (.ret [ci (gi v0 0)])) (some (.nx [ci (wr ((gi v0 0)+1))]))) (some (.br 0 []))) [ci 0]) fun v0=>some (.ret [ci (-1)])
theorem oE (its:ITS) (n:Nat) (a0:List (List CV)) (a1:CV):D its (n+1) eJ [(.row 7 a0),a1]=aO (iE (D its n) a0 a1):=by kernel_rfl
def eZ (M:Den) (a0:List (List CV)) (a1:CV):Option Ou :=  cA 0 (aG (fun v0=>aB (decide ((gi v0 0)<(il a0))) (chk (inb (gi v0 0) a0)<|chk (oks [li] (el a0 (gi v0 0)) 0)<|aC (bR sg M a1 [ci (gi (el a0 (gi v0 0)) 0)] [.one li] [.one lb]) fun v1=>aB (gb v1 0) (some (.ret [ci (gi v0 0)])) (some (.nx [ci (wr ((gi v0 0)+1))]))) (some (.br 0 []))) [ci 0]) fun v0=>some (.ret [ci (-1)])
theorem iW (its:ITS) (n:Nat) (a0:List (List CV)) (a1:CV):D its (n+1) cZ [(.row 1 a0),a1]=aO (eZ (D its n) a0 a1):=by kernel_rfl
def zU (M:Den) (a0_0 a0_1 a1:List (List CV)):Option Ou :=  aC (M mT [CV.row 1 a0_0,CV.row 4 a0_1,CV.row 1 a1]) fun v0=>aB ((gi v0 1) != 0) (some (.ret ([CV.row 1 [],ci (gi v0 1)]))) (chk (kK (List.getD v0 0 dC))<|aC (M eX [CV.ref (cF (List.getD v0 0 dC)),CV.row 1 a1,ci 0]) fun v1=>aB (!(gb v1 1)) (some (.ret ([CV.row 1 [],ci 53]))) (some (.ret [CV.row 1 (gr v1 0),ci 0])))
theorem OU (its:ITS) (n:Nat) (a0_0 a0_1 a1:List (List CV)):D its (n+1) mS [(.row 1 a0_0),(.row 4 a0_1),(.row 1 a1)]=aO (zU (D its n) a0_0 a0_1 a1):=by kernel_rfl
def HW (M:Den) (a0:List (List CV)) (a1:Int):Option Ou :=  cA 0 (aG (fun v0=>aB (decide ((gi v0 0)<(il a0))) (chk (inb (gi v0 0) a0)<|chk (oks [li] (el a0 (gi v0 0)) 0)<|aB ((gi (el a0 (gi v0 0)) 0) == a1) (some (.ret [cb true])) (some (.nx [ci (wr ((gi v0 0)+1))]))) (some (.br 0 []))) [ci 0]) fun v0=>some (.ret [cb false])
theorem YY (its:ITS) (n:Nat) (a0:List (List CV)) (a1:Int):D its (n+1) nU [(.row 1 a0),(ci a1)]=aO (HW (D its n) a0 a1):=by kernel_rfl
def oF (M:Den) (a0_0 a0_1 a1 a2:List (List CV)):Option Ou :=  aC (M mT [CV.row 1 a0_0,CV.row 4 a0_1,CV.row 1 a1]) fun v0=>aB ((gi v0 1) != 0) (some (.ret [ci (gi v0 1)])) (chk (kK (List.getD v0 0 dC))<|aC (M gF [CV.ref (cF (List.getD v0 0 dC)),CV.row 1 a1,CV.row 1 a2]) fun v1=>aB (!(gb v1 1)) (some (.ret [ci 52])) (some (.ret [ci 0])))
theorem yI (its:ITS) (n:Nat) (a0_0 a0_1 a1 a2:List (List CV)):D its (n+1) fW [(.row 1 a0_0),(.row 4 a0_1),(.row 1 a1),(.row 1 a2)]=aO (oF (D its n) a0_0 a0_1 a1 a2):=by kernel_rfl
def kG (M:Den) (a0:List CV) (a1 a2:Int):Option Ou :=  chk ((decide (0≤a1))&&(decide (a1<(Int.ofNat 10))))<|chk (oks [li] (List.drop ((Int.toNat a1)*1) (List.drop 42 a0)) 0)<|chk (decide (0≤a2))<|some (.ret [cb ((wr (Int.ofNat (bAN (Int.fdiv (gi (List.drop ((Int.toNat a1)*1) (List.drop 42 a0)) 0) ((2:Int) ^ (min (Int.toNat a2) 64))) 1))) == 1)])
theorem qY (its:ITS) (n:Nat) (a0:List CV) (a1 a2:Int):D its (n+1) kF [(.ref a0),(ci a1),(ci a2)]=aO (kG (D its n) a0 a1 a2):=by kernel_rfl
def iG (M:Den) (a0:List CV) (a1:List (List CV)):Option Ou :=  aB (decide ((il a1)≤8)) (aC (M aU ([CV.row 1 a1,CV.fn bB ([CV.ref [CV.ref a0]])])) fun v0=>some (.ret [cb (!(gb v0 0))])) (some (.ret [cb false]))
theorem oG (its:ITS) (n:Nat) (a0:List CV) (a1:List (List CV)):D its (n+1) eG [(.ref a0),(.row 1 a1)]=aO (iG (D its n) a0 a1):=by kernel_rfl
def oH (M:Den) (a0_0 a0_1 a0_2 a0_3 a0_4 a0_5 a0_6 a0_7 a0_8 a1_0 a1_1 a1_2 a1_3:Int) (a2:List CV):Option Ou :=  chk (oks [li] a2 0)<|aB (decide (a0_6≤(gi a2 0))) (some (.ret [cb (a1_2 == 0)])) (some (.ret [cb false]))
theorem yJ (its:ITS) (n:Nat) (a0_0 a0_1 a0_2 a0_3 a0_4 a0_5 a0_6 a0_7 a0_8 a1_0 a1_1 a1_2 a1_3:Int) (a2:List CV):D its (n+1) fY [(ci a0_0),(ci a0_1),(ci a0_2),(ci a0_3),(ci a0_4),(ci a0_5),(ci a0_6),(ci a0_7),(ci a0_8),(ci a1_0),(ci a1_1),(ci a1_2),(ci a1_3),(.ref a2)]=aO (oH (D its n) a0_0 a0_1 a0_2 a0_3 a0_4 a0_5 a0_6 a0_7 a0_8 a1_0 a1_1 a1_2 a1_3 a2):=by kernel_rfl
def dP (M:Den) (a0:List (List CV)) (a1:CV):Option Ou :=  aC (M cZ [CV.row 1 a0,a1]) fun v0=>some (.ret [cb (decide ((gi v0 0)≥0))])
theorem gC (its:ITS) (n:Nat) (a0:List (List CV)) (a1:CV):D its (n+1) aU [(.row 1 a0),a1]=aO (dP (D its n) a0 a1):=by kernel_rfl
def wJ (M:Den) (a0:Int):Option Ou :=  aC (M aL [ci a0,ci 0,ci 100000]) fun v0=>some (.ret [cb (gb v0 0)])
theorem KO (its:ITS) (n:Nat) (a0:Int):D its (n+1) fZ [(ci a0)]=aO (wJ (D its n) a0):=by kernel_rfl
def OV (M:Den) (a0 a1:Int):Option Ou :=  some (.ret ([CV.fn DS ([CV.ref [ci a1],CV.ref [ci a0]])]))
theorem OW (its:ITS) (n:Nat) (a0 a1:Int):D its (n+1) zP [(ci a0),(ci a1)]=aO (OV (D its n) a0 a1):=by kernel_rfl
end
end Go.Proofs.Ytnnifohchhjkhaa
namespace Go.Proofs.Ytnnifohchhjkhaa
open Go Go.Sx
set_option maxRecDepth 100000
set_option maxHeartbeats 0
noncomputable section
def wK (M:Den) (a0_0 a0_1 a0_2:List (List CV)) (a1:Int) (a2:CV):Option Ou :=  dD (dD (tP a0_1 (some (.ret ([CV.row 9 []]))) (chk (cX 0 (List.length a0_1) 72)<|some (.ret [CV.row 9 a0_1]))) fun v0=>dD (aC (M cC ([CV.row 9 (gr v0 0),CV.fn aN ([CV.ref [ci a1]])])) fun v1=>aB ((gi v1 0) == (-1)) (some (.ret [CV.row 9 (gr v0 0)])) (cA 0 (aG (fun v2=>aB (decide ((gi v2 1)<(il (gr v2 2)))) (chk (inb (gi v2 1) (gr v2 2))<|chk (decide ((Int.toNat (gi v2 1))<(List.length (gr v2 2))))<|chk (oks (List.replicate 9 li) (el (gr v2 2) (gi v2 1)) 0)<|aC (M aN (cat [cis (el (gr v2 2) (gi v2 1)) 0 9,[CV.ref [ci a1]]])) fun v3=>aJ (aB (!(gb v3 0)) (chk (inb (gi v2 0) (gr v2 2))<|chk ((decide ((Int.toNat (gi v2 0))<(List.length (gr v2 2))))&&(decide (9≤9)))<|some (.nx [ci (wr ((gi v2 0)+1)),CV.row 9 (List.set (gr v2 2) (Int.toNat (gi v2 0)) (spl (el (gr v2 2) (gi v2 0)) 0 (cis (el (gr v2 2) (gi v2 1)) 0 9)))])) (some (.nx [ci (gi v2 0),CV.row 9 (gr v2 2)]))) fun v4=>some (.nx [ci (gi v4 0),ci (wr ((gi v2 1)+1)),CV.row 9 (gr v4 1)])) (some (.br 0 [ci (gi v2 0),CV.row 9 (gr v2 2)]))) [ci (gi v1 0),ci (wr ((gi v1 0)+1)),CV.row 9 (gr v0 0)]) fun v2=>chk ((decide (0≤(gi v2 0)))&&(decide ((gi v2 0)≤(il (gr v2 1)))))<|chk ((decide (0≤(gi v2 0)))&&(decide ((gi v2 0)≤(il ((List.take (Int.toNat (gi v2 0)) (gr v2 1))++(List.replicate ((List.length (gr v2 1)) - (Int.toNat (gi v2 0))) [ci 0,ci 0,ci 0,ci 0,ci 0,ci 0,ci 0,ci 0,ci 0]))))))<|some (.ret ([CV.row 9 (List.take (Int.toNat (gi v2 0)) ((List.take (Int.toNat (gi v2 0)) (gr v2 1))++(List.replicate ((List.length (gr v2 1)) - (Int.toNat (gi v2 0))) [ci 0,ci 0,ci 0,ci 0,ci 0,ci 0,ci 0,ci 0,ci 0])))])))) fun v1=>some (.ret [CV.row 9 (gr v1 0)])) fun v0=>dD (aC (M cC ([CV.row 9 (gr v0 0),CV.fn bW ([CV.ref [a2],CV.ref [CV.row 24 a0_0,CV.row 9 a0_1,CV.row 7 a0_2],CV.ref [ci a1]])])) fun v1=>aB ((gi v1 0) == (-1)) (some (.ret [CV.row 9 (gr v0 0)])) (cA 0 (aG (fun v2=>aB (decide ((gi v2 1)<(il (gr v2 2)))) (chk (inb (gi v2 1) (gr v2 2))<|chk (decide ((Int.toNat (gi v2 1))<(List.length (gr v2 2))))<|chk (oks (List.replicate 9 li) (el (gr v2 2) (gi v2 1)) 0)<|aC (M bW (cat [cis (el (gr v2 2) (gi v2 1)) 0 9,[CV.ref [a2],CV.ref [CV.row 24 a0_0,CV.row 9 a0_1,CV.row 7 a0_2],CV.ref [ci a1]]])) fun v3=>aJ (aB (!(gb v3 0)) (chk (inb (gi v2 0) (gr v2 2))<|chk ((decide ((Int.toNat (gi v2 0))<(List.length (gr v2 2))))&&(decide (9≤9)))<|some (.nx [ci (wr ((gi v2 0)+1)),CV.row 9 (List.set (gr v2 2) (Int.toNat (gi v2 0)) (spl (el (gr v2 2) (gi v2 0)) 0 (cis (el (gr v2 2) (gi v2 1)) 0 9)))])) (some (.nx [ci (gi v2 0),CV.row 9 (gr v2 2)]))) fun v4=>some (.nx [ci (gi v4 0),ci (wr ((gi v2 1)+1)),CV.row 9 (gr v4 1)])) (some (.br 0 [ci (gi v2 0),CV.row 9 (gr v2 2)]))) [ci (gi v1 0),ci (wr ((gi v1 0)+1)),CV.row 9 (gr v0 0)]) fun v2=>chk ((decide (0≤(gi v2 0)))&&(decide ((gi v2 0)≤(il (gr v2 1)))))<|chk ((decide (0≤(gi v2 0)))&&(decide ((gi v2 0)≤(il ((List.take (Int.toNat (gi v2 0)) (gr v2 1))++(List.replicate ((List.length (gr v2 1)) - (Int.toNat (gi v2 0))) [ci 0,ci 0,ci 0,ci 0,ci 0,ci 0,ci 0,ci 0,ci 0]))))))<|some (.ret ([CV.row 9 (List.take (Int.toNat (gi v2 0)) ((List.take (Int.toNat (gi v2 0)) (gr v2 1))++(List.replicate ((List.length (gr v2 1)) - (Int.toNat (gi v2 0))) [ci 0,ci 0,ci 0,ci 0,ci 0,ci 0,ci 0,ci 0,ci 0])))])))) fun v1=>aC (M iU [CV.row 9 (gr v1 0)]) fun v2=>some (.ret [CV.row 1 (gr v2 0)])
theorem KP (its:ITS) (n:Nat) (a0_0 a0_1 a0_2:List (List CV)) (a1:Int) (a2:CV):D its (n+1) oS [(.row 24 a0_0),(.row 9 a0_1),(.row 7 a0_2),(ci a1),a2]=aO (wK (D its n) a0_0 a0_1 a0_2 a1 a2):=by kernel_rfl
def DX (M:Den) (a0_0 a0_1 a0_2:List (List CV)) (a1_0 a1_1 a1_2 a1_3 a1_4 a1_5 a1_6 a1_7 a1_8 a2:Int):Option Ou :=  aC (M oT [CV.row 24 a0_0,CV.row 9 a0_1,CV.row 7 a0_2,ci a1_0,ci a1_1,ci a1_2,ci a1_3,ci a1_4,ci a1_5,ci a1_6,ci a1_7,ci a1_8,ci a2]) fun v0=>aC (M oU [CV.row 7 (gr v0 0)]) fun v1=>cA 0 (aG (fun v2=>aB (decide ((gi v2 0)<5)) (chk ((decide (0≤(gi v2 0)))&&(decide ((gi v2 0)<(Int.ofNat 5))))<|chk (oks [li] (cis v2 1 5) (0+((Int.toNat (gi v2 0))*1)))<|some (.nx [ci (wr ((gi v2 0)+1)),ci (if (decide (0=(0+((Int.toNat (gi v2 0))*1))))=true then (-1) else gi v2 1),ci (if (decide (1=(0+((Int.toNat (gi v2 0))*1))))=true then (-1) else gi v2 2),ci (if (decide (2=(0+((Int.toNat (gi v2 0))*1))))=true then (-1) else gi v2 3),ci (if (decide (3=(0+((Int.toNat (gi v2 0))*1))))=true then (-1) else gi v2 4),ci (if (decide (4=(0+((Int.toNat (gi v2 0))*1))))=true then (-1) else gi v2 5)])) (some (.br 0 (cis v2 1 5)))) [ci 0,ci 0,ci 0,ci 0,ci 0,ci 0]) fun v2=>cA 2 (aG (fun v3=>aB (decide ((gi v3 0)<(il (gr v0 0)))) (chk (inb (gi v3 0) (gr v0 0))<|chk (oks (List.replicate 7 li) (el (gr v0 0) (gi v3 0)) 0)<|aJ (aB ((gi (el (gr v0 0) (gi v3 0)) 2) == 2) (aB (decide ((gi v3 2)<0)) (some (.nx [cb true])) (some (.nx [cb (decide ((gi (el (gr v0 0) (gi v3 0)) 4)<(gi v3 2)))]))) (some (.nx [cb false]))) fun v4=>aJ (aB (gb v4 0) (some (.nx [ci (gi v3 1),ci (gi (el (gr v0 0) (gi v3 0)) 4),ci (gi v3 3),ci (gi v3 4),ci (gi v3 5)])) (some (.nx (cis v3 1 5)))) fun v5=>some (.nx (cat [[ci (wr ((gi v3 0)+1))],cis v5 0 5]))) (some (.br 2 (cis v3 1 5)))) (cat [[ci 0],cis v2 0 5])) fun v3=>aC (M qV [CV.row 24 a0_0,CV.row 9 a0_1,CV.row 7 a0_2,ci a1_0,ci a1_1,ci a1_2,ci a1_3,ci a1_4,ci a1_5,ci a1_6,ci a1_7,ci a1_8,ci a2]) fun v4=>aJ (aB (decide ((gi v1 1)<0)) (some (.nx [cb true])) (some (.nx [cb (decide ((gi v1 1) > (wr (a1_6+360))))]))) fun v5=>aJ (aB (gb v5 0) (some (.nx [ci (gi v3 0),ci (gi v3 1),ci (gi v4 0),ci (wr ((wr (a1_6+360))+1)),ci (gi v3 4)])) (some (.nx [ci (gi v3 0),ci (gi v3 1),ci (gi v4 0),ci (gi v3 3),ci (gi v3 4)]))) fun v6=>cA 4 (aG (fun v7=>aB (decide ((gi v7 0)<5)) (cA 5 (chk (((decide (0≤(gi v7 0)))&&(decide ((gi v7 0)<(Int.ofNat 5))))&&(oks [li] (cat [cis v6 0 4,[ci (wr (a1_6+720))]]) (Int.toNat (gi v7 0))))<|aJ (aB (decide ((gi (cat [cis v6 0 4,[ci (wr (a1_6+720))]]) (Int.toNat (gi v7 0)))<0)) (some (.nx [cb true])) (some (.nx ([cb (decide ((gi (cat [cis v6 0 4,[ci (wr (a1_6+720))]]) (Int.toNat (gi v7 0))) > a2))])))) fun v8=>aB (gb v8 0) (some (.br 5 (cis v7 1 4))) (aJ (aB (decide ((gi v7 4)<0)) (some (.nx [cb true])) (some (.nx ([cb (decide ((gi (cat [cis v6 0 4,[ci (wr (a1_6+720))]]) (Int.toNat (gi v7 0)))<(gi v7 4)))])))) fun v9=>aJ (aB (gb v9 0) (some (.nx ([ci (gi v7 1),ci (gi v7 2),ci (gi v7 0),ci (gi (cat [cis v6 0 4,[ci (wr (a1_6+720))]]) (Int.toNat (gi v7 0)))]))) (some (.nx (cis v7 1 4)))) fun v10=>some (.br 5 (cis v10 0 4)))) fun v8=>some (.nx (cat [[ci (wr ((gi v7 0)+1))],cis v8 0 4]))) (some (.br 4 (cis v7 1 4)))) [ci 0,ci (gi v1 0),ci (gi v1 1),ci 0,ci (-1)]) fun v7=>some (.ret (cis v7 0 4))
theorem SX (its:ITS) (n:Nat) (a0_0 a0_1 a0_2:List (List CV)) (a1_0 a1_1 a1_2 a1_3 a1_4 a1_5 a1_6 a1_7 a1_8 a2:Int):D its (n+1) lX [(.row 24 a0_0),(.row 9 a0_1),(.row 7 a0_2),(ci a1_0),(ci a1_1),(ci a1_2),(ci a1_3),(ci a1_4),(ci a1_5),(ci a1_6),(ci a1_7),(ci a1_8),(ci a2)]=aO (DX (D its n) a0_0 a0_1 a0_2 a1_0 a1_1 a1_2 a1_3 a1_4 a1_5 a1_6 a1_7 a1_8 a2):=by kernel_rfl
def wL (M:Den) (a0_0 a0_1 a0_2:List (List CV)) (a1:Int):Option Ou :=  aC (M eV [CV.row 24 a0_0,CV.row 9 a0_1,CV.row 7 a0_2,ci a1]) fun v0=>cA 0 (aG (fun v1=>aB (decide ((gi v1 0)<(il a0_1))) (cA 1 (chk (inb (gi v1 0) a0_1)<|chk (oks (List.replicate 9 li) (el a0_1 (gi v1 0)) 0)<|aC (M nU [CV.row 1 (gr v0 0),ci (gi (el a0_1 (gi v1 0)) 0)]) fun v2=>aB (!(gb v2 0)) (some (.br 1 [CV.row 3 (gr v1 1)])) (aC (M uA [CV.row 24 a0_0,CV.row 9 a0_1,CV.row 7 a0_2,ci (gi (el a0_1 (gi v1 0)) 0),ci a1]) fun v3=>aB ((gi v3 4) != 0) (some (.ret ([CV.row 3 [],cb false]))) (aJ (aB ((gi v3 2) == 2) (some (.nx [ci (gi (el a0_1 (gi v1 0)) 2),ci (gi (el a0_1 (gi v1 0)) 6),ci (wr ((gi v3 3)+1))])) (aJ (aB ((gi v3 2) != 0) (some (.nx [ci (gi (el a0_1 (gi v1 0)) 2),ci (gi (el a0_1 (gi v1 0)) 6),ci (gi v3 3)])) (some (.nx [ci (gi (el a0_1 (gi v1 0)) 2),ci (gi (el a0_1 (gi v1 0)) 6),ci (-1)]))) fun v4=>some (.nx [ci (gi v4 0),ci (gi v4 1),ci (gi v4 2)]))) fun v4=>chk (cX (List.length (gr v1 1)) 1 24)<|some (.br 1 ([CV.row 3 ((gr v1 1)++(aS 3 1 [ci (gi v4 0),ci (gi v4 1),ci (gi v4 2)]))]))))) fun v2=>some (.nx [ci (wr ((gi v1 0)+1)),CV.row 3 (gr v2 0)])) (some (.br 0 [CV.row 3 (gr v1 1)]))) ([ci 0,CV.row 3 []])) fun v1=>some (.ret [CV.row 3 (gr v1 0),cb ((gi v0 1) == 0)])
theorem KQ (its:ITS) (n:Nat) (a0_0 a0_1 a0_2:List (List CV)) (a1:Int):D its (n+1) kW [(.row 24 a0_0),(.row 9 a0_1),(.row 7 a0_2),(ci a1)]=aO (wL (D its n) a0_0 a0_1 a0_2 a1):=by kernel_rfl
def jC (M:Den) (a0:List (List CV)) (a1:Int) (a2 a3:CV):Option Ou :=  cA 0 (aG (fun v0=>aB (decide ((gi v0 0)<(il a0))) (chk (inb (gi v0 0) a0)<|chk (oks (List.replicate 9 li) (el a0 (gi v0 0)) 0)<|aJ (aC (bR sg M a2 (cis (el a0 (gi v0 0)) 0 9) [.agg (List.replicate 9 li)] [.one li]) fun v1=>aB ((gi v1 0) != 0) (some (.nx [cb true])) (aB (decide ((gi v0 0) > 0)) (chk (inb (wr ((gi v0 0) - 1)) a0)<|chk (oks (List.replicate 9 li) (el a0 (wr ((gi v0 0) - 1))) 0)<|aC (bR sg M a3 (cis (el a0 (wr ((gi v0 0) - 1))) 0 9) [.agg (List.replicate 9 li)] [.one li]) fun v2=>aC (bR sg M a3 (cis (el a0 (gi v0 0)) 0 9) [.agg (List.replicate 9 li)] [.one li]) fun v3=>some (.nx [cb (decide ((gi v2 0)≥(gi v3 0)))])) (some (.nx [cb false])))) fun v1=>aB (gb v1 0) (some (.ret [cb false])) (some (.nx [ci (wr ((gi v0 0)+1))]))) (some (.br 0 []))) [ci 0]) fun v0=>some (.ret [cb (decide ((il a0)≤a1))])
theorem pV (its:ITS) (n:Nat) (a0:List (List CV)) (a1:Int) (a2 a3:CV):D its (n+1) fF [(.row 9 a0),(ci a1),a2,a3]=aO (jC (D its n) a0 a1 a2 a3):=by kernel_rfl
def kH (M:Den) (a0:List CV) (a1:List (List CV)) (a2:Int):Option Ou :=  cA 0 (aG (fun v0=>aB (decide ((gi v0 1)<(il a1))) (chk (inb (gi v0 1) a1)<|chk (oks [li,li,li] (el a1 (gi v0 1)) 0)<|aJ (aB ((gi (el a1 (gi v0 1)) 2) != (-1)) (some (.nx [ci (if (wr ((gi (el a1 (gi v0 1)) 2) - 1))<a2 then wr ((gi (el a1 (gi v0 1)) 2) - 1) else a2)])) (some (.nx [ci a2]))) fun v1=>chk ((decide (0≤(gi (el a1 (gi v0 1)) 0)))&&(decide ((gi (el a1 (gi v0 1)) 0)<(Int.ofNat 10))))<|chk (oks [li] (List.drop 2 (List.drop ((Int.toNat (gi (el a1 (gi v0 1)) 0))*4) (List.drop 2 a0))) 0)<|some (.nx [ci (wr ((gi v0 0)+(wr ((if 0 > (wr ((wr ((gi v1 0) - (gi (el a1 (gi v0 1)) 1)))+1)) then 0 else wr ((wr ((gi v1 0) - (gi (el a1 (gi v0 1)) 1)))+1))*(gi (List.drop 2 (List.drop ((Int.toNat (gi (el a1 (gi v0 1)) 0))*4) (List.drop 2 a0))) 0))))),ci (wr ((gi v0 1)+1))])) (some (.br 0 [ci (gi v0 0)]))) [ci 0,ci 0]) fun v0=>some (.ret [ci (gi v0 0)])
theorem qZ (its:ITS) (n:Nat) (a0:List CV) (a1:List (List CV)) (a2:Int):D its (n+1) fP [(.ref a0),(.row 3 a1),(ci a2)]=aO (kH (D its n) a0 a1 a2):=by kernel_rfl
def zV (M:Den) (a0:List (List CV)) (a1:Int):Option Ou :=  cA 0 (aG (fun v0=>aB (decide ((gi v0 0)<(il a0))) (chk (inb (gi v0 0) a0)<|chk (oks [li,li,li] (el a0 (gi v0 0)) 0)<|aJ (aB (decide ((gi (el a0 (gi v0 0)) 1)≤a1)) (aB ((gi (el a0 (gi v0 0)) 2) == (-1)) (some (.nx [cb true])) (some (.nx [cb (decide (a1<(gi (el a0 (gi v0 0)) 2)))]))) (some (.nx [cb false]))) fun v1=>aJ (aB (gb v1 0) (chk (cX (List.length (gr v0 1)) 1 8)<|some (.nx ([CV.row 1 ((gr v0 1)++(aS 1 1 [ci (gi v0 0)]))]))) (some (.nx [CV.row 1 (gr v0 1)]))) fun v2=>some (.nx [ci (wr ((gi v0 0)+1)),CV.row 1 (gr v2 0)])) (some (.br 0 [CV.row 1 (gr v0 1)]))) ([ci 0,CV.row 1 []])) fun v0=>some (.ret [CV.row 1 (gr v0 0)])
theorem OX (its:ITS) (n:Nat) (a0:List (List CV)) (a1:Int):D its (n+1) qU [(.row 3 a0),(ci a1)]=aO (zV (D its n) a0 a1):=by kernel_rfl
def kQ (M:Den) (a0:List CV) (a1:List (List CV)):Option Ou :=  cA 0 (aG (fun v0=>aB (decide ((gi v0 1)<(il a1))) (chk (inb (gi v0 1) a1)<|chk (oks [li] (el a1 (gi v0 1)) 0)<|chk ((decide (0≤(gi (el a1 (gi v0 1)) 0)))&&(decide ((gi (el a1 (gi v0 1)) 0)<(Int.ofNat 10))))<|chk (oks [li] (List.drop 1 (List.drop ((Int.toNat (gi (el a1 (gi v0 1)) 0))*4) (List.drop 2 a0))) 0)<|some (.nx [ci (wr ((gi v0 0)+(gi (List.drop 1 (List.drop ((Int.toNat (gi (el a1 (gi v0 1)) 0))*4) (List.drop 2 a0))) 0))),ci (wr ((gi v0 1)+1))])) (some (.br 0 [ci (gi v0 0)]))) [ci 0,ci 0]) fun v0=>some (.ret [ci (gi v0 0)])
theorem sG (its:ITS) (n:Nat) (a0:List CV) (a1:List (List CV)):D its (n+1) kO [(.ref a0),(.row 1 a1)]=aO (kQ (D its n) a0 a1):=by kernel_rfl
def pN (M:Den) (a0_0:CV) (a0_1:List (List CV)) (a0_2:CV) (a1:List (List CV)):Option Ou :=  cA 0 (aG (fun v0=>aB (decide ((gi v0 0)<(il a1))) (chk (inb (gi v0 0) a1)<|chk (oks [li] (el a1 (gi v0 0)) 0)<|chk (inb (gi (el a1 (gi v0 0)) 0) a0_1)<|chk (oks [li] (el a0_1 (gi (el a1 (gi v0 0)) 0)) 0)<|chk (cX (List.length (gr v0 1)) 1 8)<|some (.nx ([ci (wr ((gi v0 0)+1)),CV.row 1 ((gr v0 1)++(aS 1 1 [ci (gi (el a0_1 (gi (el a1 (gi v0 0)) 0)) 0)]))]))) (some (.br 0 [CV.row 1 (gr v0 1)]))) ([ci 0,CV.row 1 []])) fun v0=>some (.ret [CV.row 1 (gr v0 0)])
theorem AT (its:ITS) (n:Nat) (a0_0:CV) (a0_1:List (List CV)) (a0_2:CV) (a1:List (List CV)):D its (n+1) pG [a0_0,(.row 1 a0_1),a0_2,(.row 1 a1)]=aO (pN (D its n) a0_0 a0_1 a0_2 a1):=by kernel_rfl
def wM (M:Den) (a0_0 a0_1 a0_2:List (List CV)):Option Ou :=  aC (M eD ([CV.row 24 a0_0,ci 8,CV.fn cN [],CV.fn dR []])) fun v0=>aJ (aB (!(gb v0 0)) (some (.nx [cb true])) (aC (M fF ([CV.row 9 a0_1,ci 60,CV.fn dF [],CV.fn fB []])) fun v1=>aB (!(gb v1 0)) (some (.nx [cb true])) (aC (M fG ([CV.row 7 a0_2,ci 60,CV.fn dG [],CV.fn fC []])) fun v2=>some (.nx [cb (!(gb v2 0))])))) fun v1=>aB (gb v1 0) (some (.ret [ci 63])) (some (.ret [ci 0]))
theorem KR (its:ITS) (n:Nat) (a0_0 a0_1 a0_2:List (List CV)):D its (n+1) iT [(.row 24 a0_0),(.row 9 a0_1),(.row 7 a0_2)]=aO (wM (D its n) a0_0 a0_1 a0_2):=by kernel_rfl
def rA (M:Den) (a0:List (List CV)):Option Ou :=  cA 0 (aG (fun v0=>aB (decide ((gi v0 0)<(il a0))) (chk (inb (gi v0 0) a0)<|chk (oks (List.replicate 9 li) (el a0 (gi v0 0)) 0)<|chk (cX (List.length (gr v0 1)) 1 8)<|some (.nx ([ci (wr ((gi v0 0)+1)),CV.row 1 ((gr v0 1)++(aS 1 1 [ci (gi (el a0 (gi v0 0)) 0)]))]))) (some (.br 0 [CV.row 1 (gr v0 1)]))) ([ci 0,CV.row 1 []])) fun v0=>some (.ret [CV.row 1 (gr v0 0)])
theorem DY (its:ITS) (n:Nat) (a0:List (List CV)):D its (n+1) iU [(.row 9 a0)]=aO (rA (D its n) a0):=by kernel_rfl
def zW (M:Den) (a0_0 a0_1 a1:List (List CV)) (a2:Int):Option Ou :=  aC (M gM [CV.row 1 a0_0,CV.row 4 a0_1,CV.row 3 a1]) fun v0=>aB ((gi v0 1) != 0) (some (.ret [ci 0,ci (gi v0 1)])) (aC (M eE [ci a2,ci 0,ci 100000]) fun v1=>aB (!(gb v1 0)) (some (.ret [ci 0,ci 6])) (chk (kK (List.getD v0 0 dC))<|aC (M fP [CV.ref (cF (List.getD v0 0 dC)),CV.row 3 a1,ci a2]) fun v2=>some (.ret [ci (gi v2 0),ci 0])))
theorem OY (its:ITS) (n:Nat) (a0_0 a0_1 a1:List (List CV)) (a2:Int):D its (n+1) iA [(.row 1 a0_0),(.row 4 a0_1),(.row 3 a1),(ci a2)]=aO (zW (D its n) a0_0 a0_1 a1 a2):=by kernel_rfl
def zX (M:Den) (a0_0 a0_1 a1:List (List CV)) (a2:Int):Option Ou :=  aC (M gM [CV.row 1 a0_0,CV.row 4 a0_1,CV.row 3 a1]) fun v0=>aB ((gi v0 1) != 0) (some (.ret ([CV.row 1 [],ci (gi v0 1)]))) (aC (M eE [ci a2,ci 0,ci 100000]) fun v1=>aB (!(gb v1 0)) (some (.ret ([CV.row 1 [],ci 6]))) (aC (M qU [CV.row 3 a1,ci a2]) fun v2=>some (.ret [CV.row 1 (gr v2 0),ci 0])))
theorem OZ (its:ITS) (n:Nat) (a0_0 a0_1 a1:List (List CV)) (a2:Int):D its (n+1) mR [(.row 1 a0_0),(.row 4 a0_1),(.row 3 a1),(ci a2)]=aO (zX (D its n) a0_0 a0_1 a1 a2):=by kernel_rfl
def tA (M:Den) (a0_0 a0_1 a0_2:List (List CV)) (a1:Int):Option Ou :=  aC (M fX ([CV.row 24 a0_0,CV.row 9 a0_1,CV.row 7 a0_2,CV.row 1 (aS 1 1 [ci a1])])) fun v0=>aB ((gi v0 0) != 0) (some (.ret ([CV.row 1 [],ci (gi v0 0)]))) (aC (M oS ([CV.row 24 a0_0,CV.row 9 a0_1,CV.row 7 a0_2,ci a1,CV.fn fY ([CV.ref [ci a1]])])) fun v1=>some (.ret [CV.row 1 (gr v1 0),ci 0]))
theorem FS (its:ITS) (n:Nat) (a0_0 a0_1 a0_2:List (List CV)) (a1:Int):D its (n+1) jV [(.row 24 a0_0),(.row 9 a0_1),(.row 7 a0_2),(ci a1)]=aO (tA (D its n) a0_0 a0_1 a0_2 a1):=by kernel_rfl
def wN (M:Den) (a0_0 a0_1 a0_2 a1:List (List CV)):Option Ou :=  aC (M iT [CV.row 24 a0_0,CV.row 9 a0_1,CV.row 7 a0_2]) fun v0=>aB ((gi v0 0) != 0) (some (.ret [ci (gi v0 0)])) (aC (M aU ([CV.row 1 a1,CV.fn dS []])) fun v1=>aB (gb v1 0) (some (.ret [ci 6])) (some (.ret [ci 0])))
theorem KS (its:ITS) (n:Nat) (a0_0 a0_1 a0_2 a1:List (List CV)):D its (n+1) fX [(.row 24 a0_0),(.row 9 a0_1),(.row 7 a0_2),(.row 1 a1)]=aO (wN (D its n) a0_0 a0_1 a0_2 a1):=by kernel_rfl
def fR (M:Den) (a0:Int) (a1:List CV):Option Ou :=  chk (oks [.raw] a1 0)<|chk (kK (List.getD a1 0 dC))<|aC (M eY [CV.ref (cF (List.getD a1 0 dC)),ci a0]) fun v0=>some (.ret [cb (!(gb v0 0))])
theorem mE (its:ITS) (n:Nat) (a0:Int) (a1:List CV):D its (n+1) bB [(ci a0),(.ref a1)]=aO (fR (D its n) a0 a1):=by kernel_rfl
def pO (M:Den) (a0_0 a0_1 a0_2 a0_3 a0_4 a0_5 a0_6 a0_7 a0_8:Int) (a1:List CV):Option Ou :=  chk (oks [li] a1 0)<|aC (M jX [ci a0_7,ci a0_8,ci (gi a1 0)]) fun v0=>some (.ret [cb (!(gb v0 0))])
theorem AU (its:ITS) (n:Nat) (a0_0 a0_1 a0_2 a0_3 a0_4 a0_5 a0_6 a0_7 a0_8:Int) (a1:List CV):D its (n+1) aN [(ci a0_0),(ci a0_1),(ci a0_2),(ci a0_3),(ci a0_4),(ci a0_5),(ci a0_6),(ci a0_7),(ci a0_8),(.ref a1)]=aO (pO (D its n) a0_0 a0_1 a0_2 a0_3 a0_4 a0_5 a0_6 a0_7 a0_8 a1):=by kernel_rfl
def tB (M:Den) (a0 a1 a2:Int):Option Ou :=  aB (decide (a1≤a0)) (some (.ret [cb (decide (a0≤a2))])) (some (.ret [cb false]))
theorem FT (its:ITS) (n:Nat) (a0 a1 a2:Int):D its (n+1) aL [(ci a0),(ci a1),(ci a2)]=aO (tB (D its n) a0 a1 a2):=by kernel_rfl
def pP (M:Den) (a0:Int):Option Ou :=  aC (M aL [ci a0,ci 0,ci 10000]) fun v0=>some (.ret [cb (!(gb v0 0))])
theorem AW (its:ITS) (n:Nat) (a0:Int):D its (n+1) dT [(ci a0)]=aO (pP (D its n) a0):=by kernel_rfl
def uG (M:Den) (a0:List CV) (a1:List (List CV)):Option Ou :=  some (.ret ([CV.fn pS ([CV.ref [CV.row 1 a1],CV.ref [CV.ref a0]])]))
theorem uH (its:ITS) (n:Nat) (a0:List CV) (a1:List (List CV)):D its (n+1) gU [(.ref a0),(.row 1 a1)]=aO (uG (D its n) a0 a1):=by kernel_rfl
def tC (M:Den) (a0_0 a0_1 a0_2 a0_3 a0_4 a0_5 a0_6:Int):Option Ou :=  some (.ret [ci a0_0])
theorem FU (its:ITS) (n:Nat) (a0_0 a0_1 a0_2 a0_3 a0_4 a0_5 a0_6:Int):D its (n+1) fC [(ci a0_0),(ci a0_1),(ci a0_2),(ci a0_3),(ci a0_4),(ci a0_5),(ci a0_6)]=aO (tC (D its n) a0_0 a0_1 a0_2 a0_3 a0_4 a0_5 a0_6):=by kernel_rfl
end
end Go.Proofs.Ytnnifohchhjkhaa
namespace Go.Proofs.Ytnnifohchhjkhaa
open Go Go.Sx
set_option maxRecDepth 100000
theorem en3:∃ fn,EntOk Try.prog 3 fe3 fn∧aA Try.f3=aA fn:=by refine ⟨Try.f3,⟨?_,?_,?_,?_,?_⟩,rfl⟩ <;> kernel_rfl
theorem en4:∃ fn,EntOk Try.prog 4 fe4 fn∧aA Try.f4=aA fn:=by refine ⟨Try.f4,⟨?_,?_,?_,?_,?_⟩,rfl⟩ <;> kernel_rfl
theorem en5:∃ fn,EntOk Try.prog 5 fe5 fn∧aA Try.f5=aA fn:=by refine ⟨Try.f5,⟨?_,?_,?_,?_,?_⟩,rfl⟩ <;> kernel_rfl
theorem en6:∃ fn,EntOk Try.prog 6 fe6 fn∧aA Try.f6=aA fn:=by refine ⟨Try.f6,⟨?_,?_,?_,?_,?_⟩,rfl⟩ <;> kernel_rfl
theorem en7:∃ fn,EntOk Try.prog 7 fe7 fn∧aA Try.f7=aA fn:=by refine ⟨Try.f7,⟨?_,?_,?_,?_,?_⟩,rfl⟩ <;> kernel_rfl
theorem en8:∃ fn,EntOk Try.prog 8 fe8 fn∧aA Try.f8=aA fn:=by refine ⟨Try.f8,⟨?_,?_,?_,?_,?_⟩,rfl⟩ <;> kernel_rfl
theorem en9:∃ fn,EntOk Try.prog 9 fe9 fn∧aA Try.f9=aA fn:=by refine ⟨Try.f9,⟨?_,?_,?_,?_,?_⟩,rfl⟩ <;> kernel_rfl
theorem aHm:∃ fn,EntOk Try.prog 10 aFz fn∧aA Try.f10=aA fn:=by refine ⟨Try.f10,⟨?_,?_,?_,?_,?_⟩,rfl⟩ <;> kernel_rfl
theorem aHn:∃ fn,EntOk Try.prog 11 aFA fn∧aA Try.f11=aA fn:=by refine ⟨Try.f11,⟨?_,?_,?_,?_,?_⟩,rfl⟩ <;> kernel_rfl
theorem aHo:∃ fn,EntOk Try.prog 12 aEP fn∧aA Try.f12=aA fn:=by refine ⟨Try.f12,⟨?_,?_,?_,?_,?_⟩,rfl⟩ <;> kernel_rfl
theorem aHp:∃ fn,EntOk Try.prog 13 aFB fn∧aA Try.f13=aA fn:=by refine ⟨Try.f13,⟨?_,?_,?_,?_,?_⟩,rfl⟩ <;> kernel_rfl
theorem aHq:∃ fn,EntOk Try.prog 14 aFC fn∧aA Try.f14=aA fn:=by refine ⟨Try.f14,⟨?_,?_,?_,?_,?_⟩,rfl⟩ <;> kernel_rfl
theorem aHr:∃ fn,EntOk Try.prog 15 aFD fn∧aA Try.f15=aA fn:=by refine ⟨Try.f15,⟨?_,?_,?_,?_,?_⟩,rfl⟩ <;> kernel_rfl
theorem aHs:∃ fn,EntOk Try.prog 16 aFE fn∧aA Try.f16=aA fn:=by refine ⟨Try.f16,⟨?_,?_,?_,?_,?_⟩,rfl⟩ <;> kernel_rfl
theorem aHt:∃ fn,EntOk Try.prog 17 aFF fn∧aA Try.f17=aA fn:=by refine ⟨Try.f17,⟨?_,?_,?_,?_,?_⟩,rfl⟩ <;> kernel_rfl
theorem aHu:∃ fn,EntOk Try.prog 18 aFG fn∧aA Try.f18=aA fn:=by refine ⟨Try.f18,⟨?_,?_,?_,?_,?_⟩,rfl⟩ <;> kernel_rfl
theorem aHv:∃ fn,EntOk Try.prog 19 aFH fn∧aA Try.f19=aA fn:=by refine ⟨Try.f19,⟨?_,?_,?_,?_,?_⟩,rfl⟩ <;> kernel_rfl
theorem aHw:∃ fn,EntOk Try.prog 20 aFI fn∧aA Try.f20=aA fn:=by refine ⟨Try.f20,⟨?_,?_,?_,?_,?_⟩,rfl⟩ <;> kernel_rfl
theorem aHx:∃ fn,EntOk Try.prog 21 aFJ fn∧aA Try.f21=aA fn:=by refine ⟨Try.f21,⟨?_,?_,?_,?_,?_⟩,rfl⟩ <;> kernel_rfl
theorem aHy:∃ fn,EntOk Try.prog 22 aFK fn∧aA Try.f22=aA fn:=by refine ⟨Try.f22,⟨?_,?_,?_,?_,?_⟩,rfl⟩ <;> kernel_rfl
theorem aHz:∃ fn,EntOk Try.prog 23 aFL fn∧aA Try.f23=aA fn:=by refine ⟨Try.f23,⟨?_,?_,?_,?_,?_⟩,rfl⟩ <;> kernel_rfl
theorem aHA:∃ fn,EntOk Try.prog 24 aFM fn∧aA Try.f24=aA fn:=by refine ⟨Try.f24,⟨?_,?_,?_,?_,?_⟩,rfl⟩ <;> kernel_rfl
theorem aHB:∃ fn,EntOk Try.prog 25 aFN fn∧aA Try.f25=aA fn:=by refine ⟨Try.f25,⟨?_,?_,?_,?_,?_⟩,rfl⟩ <;> kernel_rfl
theorem aHC:∃ fn,EntOk Try.prog 26 aFO fn∧aA Try.f26=aA fn:=by refine ⟨Try.f26,⟨?_,?_,?_,?_,?_⟩,rfl⟩ <;> kernel_rfl
theorem aHD:∃ fn,EntOk Try.prog 27 aFP fn∧aA Try.f27=aA fn:=by refine ⟨Try.f27,⟨?_,?_,?_,?_,?_⟩,rfl⟩ <;> kernel_rfl
theorem aHE:∃ fn,EntOk Try.prog 28 aFQ fn∧aA Try.f28=aA fn:=by refine ⟨Try.f28,⟨?_,?_,?_,?_,?_⟩,rfl⟩ <;> kernel_rfl
theorem aHF:∃ fn,EntOk Try.prog 29 aFR fn∧aA Try.f29=aA fn:=by refine ⟨Try.f29,⟨?_,?_,?_,?_,?_⟩,rfl⟩ <;> kernel_rfl
theorem aHG:∃ fn,EntOk Try.prog 30 aFS fn∧aA Try.f30=aA fn:=by refine ⟨Try.f30,⟨?_,?_,?_,?_,?_⟩,rfl⟩ <;> kernel_rfl
theorem aHH:∃ fn,EntOk Try.prog 31 aFT fn∧aA Try.f31=aA fn:=by refine ⟨Try.f31,⟨?_,?_,?_,?_,?_⟩,rfl⟩ <;> kernel_rfl
theorem aHI:∃ fn,EntOk Try.prog 32 aFU fn∧aA Try.f32=aA fn:=by refine ⟨Try.f32,⟨?_,?_,?_,?_,?_⟩,rfl⟩ <;> kernel_rfl
theorem aHJ:∃ fn,EntOk Try.prog 33 aFV fn∧aA Try.f33=aA fn:=by refine ⟨Try.f33,⟨?_,?_,?_,?_,?_⟩,rfl⟩ <;> kernel_rfl
theorem aHK:∃ fn,EntOk Try.prog 34 aFW fn∧aA Try.f34=aA fn:=by refine ⟨Try.f34,⟨?_,?_,?_,?_,?_⟩,rfl⟩ <;> kernel_rfl
theorem aHL:∃ fn,EntOk Try.prog 35 aFX fn∧aA Try.f35=aA fn:=by refine ⟨Try.f35,⟨?_,?_,?_,?_,?_⟩,rfl⟩ <;> kernel_rfl
theorem aHM:∃ fn,EntOk Try.prog 36 aFY fn∧aA Try.f36=aA fn:=by refine ⟨Try.f36,⟨?_,?_,?_,?_,?_⟩,rfl⟩ <;> kernel_rfl
theorem aHN:∃ fn,EntOk Try.prog 37 aFZ fn∧aA Try.f37=aA fn:=by refine ⟨Try.f37,⟨?_,?_,?_,?_,?_⟩,rfl⟩ <;> kernel_rfl
theorem aHO:∃ fn,EntOk Try.prog 38 aF0 fn∧aA Try.f38=aA fn:=by refine ⟨Try.f38,⟨?_,?_,?_,?_,?_⟩,rfl⟩ <;> kernel_rfl
theorem aHP:∃ fn,EntOk Try.prog 39 aF1 fn∧aA Try.f39=aA fn:=by refine ⟨Try.f39,⟨?_,?_,?_,?_,?_⟩,rfl⟩ <;> kernel_rfl
theorem aHQ:∃ fn,EntOk Try.prog 40 aF2 fn∧aA Try.f40=aA fn:=by refine ⟨Try.f40,⟨?_,?_,?_,?_,?_⟩,rfl⟩ <;> kernel_rfl
theorem aHR:∃ fn,EntOk Try.prog 41 aF3 fn∧aA Try.f41=aA fn:=by refine ⟨Try.f41,⟨?_,?_,?_,?_,?_⟩,rfl⟩ <;> kernel_rfl
theorem aHS:∃ fn,EntOk Try.prog 42 aF4 fn∧aA Try.f42=aA fn:=by refine ⟨Try.f42,⟨?_,?_,?_,?_,?_⟩,rfl⟩ <;> kernel_rfl
theorem aHT:∃ fn,EntOk Try.prog 43 aF5 fn∧aA Try.f43=aA fn:=by refine ⟨Try.f43,⟨?_,?_,?_,?_,?_⟩,rfl⟩ <;> kernel_rfl
theorem aHU:∃ fn,EntOk Try.prog 44 aF6 fn∧aA Try.f44=aA fn:=by refine ⟨Try.f44,⟨?_,?_,?_,?_,?_⟩,rfl⟩ <;> kernel_rfl
theorem aHV:∃ fn,EntOk Try.prog 45 aF7 fn∧aA Try.f45=aA fn:=by refine ⟨Try.f45,⟨?_,?_,?_,?_,?_⟩,rfl⟩ <;> kernel_rfl
theorem aHW:∃ fn,EntOk Try.prog 46 aF8 fn∧aA Try.f46=aA fn:=by refine ⟨Try.f46,⟨?_,?_,?_,?_,?_⟩,rfl⟩ <;> kernel_rfl
theorem aHX:∃ fn,EntOk Try.prog 47 aF9 fn∧aA Try.f47=aA fn:=by refine ⟨Try.f47,⟨?_,?_,?_,?_,?_⟩,rfl⟩ <;> kernel_rfl
theorem aHY:∃ fn,EntOk Try.prog 48 aGa fn∧aA Try.f48=aA fn:=by refine ⟨Try.f48,⟨?_,?_,?_,?_,?_⟩,rfl⟩ <;> kernel_rfl
theorem aHZ:∃ fn,EntOk Try.prog 50 aGb fn∧aA Try.f50=aA fn:=by refine ⟨Try.f50,⟨?_,?_,?_,?_,?_⟩,rfl⟩ <;> kernel_rfl
theorem aH0:∃ fn,EntOk Try.prog 59 aGc fn∧aA Try.f59=aA fn:=by refine ⟨Try.f59,⟨?_,?_,?_,?_,?_⟩,rfl⟩ <;> kernel_rfl
theorem aH1:∃ fn,EntOk Try.prog 60 aGd fn∧aA Try.f60=aA fn:=by refine ⟨Try.f60,⟨?_,?_,?_,?_,?_⟩,rfl⟩ <;> kernel_rfl
theorem aH2:∃ fn,EntOk Try.prog 61 aGe fn∧aA Try.f61=aA fn:=by refine ⟨Try.f61,⟨?_,?_,?_,?_,?_⟩,rfl⟩ <;> kernel_rfl
theorem aH3:∃ fn,EntOk Try.prog 62 aGf fn∧aA Try.f62=aA fn:=by refine ⟨Try.f62,⟨?_,?_,?_,?_,?_⟩,rfl⟩ <;> kernel_rfl
theorem aH4:∃ fn,EntOk Try.prog 63 aGg fn∧aA Try.f63=aA fn:=by refine ⟨Try.f63,⟨?_,?_,?_,?_,?_⟩,rfl⟩ <;> kernel_rfl
theorem aH5:∃ fn,EntOk Try.prog 64 aGh fn∧aA Try.f64=aA fn:=by refine ⟨Try.f64,⟨?_,?_,?_,?_,?_⟩,rfl⟩ <;> kernel_rfl
theorem aH6:∃ fn,EntOk Try.prog 65 aGi fn∧aA Try.f65=aA fn:=by refine ⟨Try.f65,⟨?_,?_,?_,?_,?_⟩,rfl⟩ <;> kernel_rfl
theorem aH7:∃ fn,EntOk Try.prog 66 aGj fn∧aA Try.f66=aA fn:=by refine ⟨Try.f66,⟨?_,?_,?_,?_,?_⟩,rfl⟩ <;> kernel_rfl
theorem aH8:∃ fn,EntOk Try.prog 67 aGk fn∧aA Try.f67=aA fn:=by refine ⟨Try.f67,⟨?_,?_,?_,?_,?_⟩,rfl⟩ <;> kernel_rfl
theorem aH9:∃ fn,EntOk Try.prog 68 aGl fn∧aA Try.f68=aA fn:=by refine ⟨Try.f68,⟨?_,?_,?_,?_,?_⟩,rfl⟩ <;> kernel_rfl
theorem aIa:∃ fn,EntOk Try.prog 71 aGm fn∧aA Try.f71=aA fn:=by refine ⟨Try.f71,⟨?_,?_,?_,?_,?_⟩,rfl⟩ <;> kernel_rfl
theorem aIb:∃ fn,EntOk Try.prog 72 aGn fn∧aA Try.f72=aA fn:=by refine ⟨Try.f72,⟨?_,?_,?_,?_,?_⟩,rfl⟩ <;> kernel_rfl
theorem aIc:∃ fn,EntOk Try.prog 73 aGo fn∧aA Try.f73=aA fn:=by refine ⟨Try.f73,⟨?_,?_,?_,?_,?_⟩,rfl⟩ <;> kernel_rfl
theorem aId:∃ fn,EntOk Try.prog 74 aGp fn∧aA Try.f74=aA fn:=by refine ⟨Try.f74,⟨?_,?_,?_,?_,?_⟩,rfl⟩ <;> kernel_rfl
theorem aIe:∃ fn,EntOk Try.prog 75 aGq fn∧aA Try.f75=aA fn:=by refine ⟨Try.f75,⟨?_,?_,?_,?_,?_⟩,rfl⟩ <;> kernel_rfl
theorem aIf:∃ fn,EntOk Try.prog 76 aGr fn∧aA Try.f76=aA fn:=by refine ⟨Try.f76,⟨?_,?_,?_,?_,?_⟩,rfl⟩ <;> kernel_rfl
theorem aIg:∃ fn,EntOk Try.prog 77 aGs fn∧aA Try.f77=aA fn:=by refine ⟨Try.f77,⟨?_,?_,?_,?_,?_⟩,rfl⟩ <;> kernel_rfl
theorem aIh:∃ fn,EntOk Try.prog 78 aGt fn∧aA Try.f78=aA fn:=by refine ⟨Try.f78,⟨?_,?_,?_,?_,?_⟩,rfl⟩ <;> kernel_rfl
theorem aIi:∃ fn,EntOk Try.prog 79 aGu fn∧aA Try.f79=aA fn:=by refine ⟨Try.f79,⟨?_,?_,?_,?_,?_⟩,rfl⟩ <;> kernel_rfl
theorem aIj:∃ fn,EntOk Try.prog 80 aGv fn∧aA Try.f80=aA fn:=by refine ⟨Try.f80,⟨?_,?_,?_,?_,?_⟩,rfl⟩ <;> kernel_rfl
theorem aIk:∃ fn,EntOk Try.prog 81 aGw fn∧aA Try.f81=aA fn:=by refine ⟨Try.f81,⟨?_,?_,?_,?_,?_⟩,rfl⟩ <;> kernel_rfl
theorem aIl:∃ fn,EntOk Try.prog 87 aGx fn∧aA Try.f87=aA fn:=by refine ⟨Try.f87,⟨?_,?_,?_,?_,?_⟩,rfl⟩ <;> kernel_rfl
theorem aIm:∃ fn,EntOk Try.prog 88 aGy fn∧aA Try.f88=aA fn:=by refine ⟨Try.f88,⟨?_,?_,?_,?_,?_⟩,rfl⟩ <;> kernel_rfl
theorem aIn:∃ fn,EntOk Try.prog 89 aGz fn∧aA Try.f89=aA fn:=by refine ⟨Try.f89,⟨?_,?_,?_,?_,?_⟩,rfl⟩ <;> kernel_rfl
theorem aIo:∃ fn,EntOk Try.prog 90 aGA fn∧aA Try.f90=aA fn:=by refine ⟨Try.f90,⟨?_,?_,?_,?_,?_⟩,rfl⟩ <;> kernel_rfl
theorem aIp:∃ fn,EntOk Try.prog 91 aGB fn∧aA Try.f91=aA fn:=by refine ⟨Try.f91,⟨?_,?_,?_,?_,?_⟩,rfl⟩ <;> kernel_rfl
theorem aIq:∃ fn,EntOk Try.prog 92 aGC fn∧aA Try.f92=aA fn:=by refine ⟨Try.f92,⟨?_,?_,?_,?_,?_⟩,rfl⟩ <;> kernel_rfl
theorem aIr:∃ fn,EntOk Try.prog 93 aGD fn∧aA Try.f93=aA fn:=by refine ⟨Try.f93,⟨?_,?_,?_,?_,?_⟩,rfl⟩ <;> kernel_rfl
theorem aIs:∃ fn,EntOk Try.prog 94 aGE fn∧aA Try.f94=aA fn:=by refine ⟨Try.f94,⟨?_,?_,?_,?_,?_⟩,rfl⟩ <;> kernel_rfl
theorem aIt:∃ fn,EntOk Try.prog 97 aGF fn∧aA Try.f97=aA fn:=by refine ⟨Try.f97,⟨?_,?_,?_,?_,?_⟩,rfl⟩ <;> kernel_rfl
theorem aIu:∃ fn,EntOk Try.prog 99 aGG fn∧aA Try.f99=aA fn:=by refine ⟨Try.f99,⟨?_,?_,?_,?_,?_⟩,rfl⟩ <;> kernel_rfl
theorem aGH:∃ fn,EntOk Try.prog 103 aD3 fn∧aA Try.f103=aA fn:=by refine ⟨Try.f103,⟨?_,?_,?_,?_,?_⟩,rfl⟩ <;> kernel_rfl
theorem aD4:∀ e∈tb,∃ fn,EntOk Try.prog e.1 e.2.1 fn∧e.2.2=aA fn:=by
 intro e he
 unfold tb at he
 rcases List.mem_cons.1 he with rfl | he
 ·exact en3
 rcases List.mem_cons.1 he with rfl | he
 ·exact en4
 rcases List.mem_cons.1 he with rfl | he
 ·exact en5
 rcases List.mem_cons.1 he with rfl | he
 ·exact en6
 rcases List.mem_cons.1 he with rfl | he
 ·exact en7
 rcases List.mem_cons.1 he with rfl | he
 ·exact en8
 rcases List.mem_cons.1 he with rfl | he
 ·exact en9
 rcases List.mem_cons.1 he with rfl | he
 ·exact aHm
 rcases List.mem_cons.1 he with rfl | he
 ·exact aHn
 rcases List.mem_cons.1 he with rfl | he
 ·exact aHo
 rcases List.mem_cons.1 he with rfl | he
 ·exact aHp
 rcases List.mem_cons.1 he with rfl | he
 ·exact aHq
 rcases List.mem_cons.1 he with rfl | he
 ·exact aHr
 rcases List.mem_cons.1 he with rfl | he
 ·exact aHs
 rcases List.mem_cons.1 he with rfl | he
 ·exact aHt
 rcases List.mem_cons.1 he with rfl | he
 ·exact aHu
 rcases List.mem_cons.1 he with rfl | he
 ·exact aHv
 rcases List.mem_cons.1 he with rfl | he
 ·exact aHw
 rcases List.mem_cons.1 he with rfl | he
 ·exact aHx
 rcases List.mem_cons.1 he with rfl | he
 ·exact aHy
 rcases List.mem_cons.1 he with rfl | he
 ·exact aHz
 rcases List.mem_cons.1 he with rfl | he
 ·exact aHA
 rcases List.mem_cons.1 he with rfl | he
 ·exact aHB
 rcases List.mem_cons.1 he with rfl | he
 ·exact aHC
 rcases List.mem_cons.1 he with rfl | he
 ·exact aHD
 rcases List.mem_cons.1 he with rfl | he
 ·exact aHE
 rcases List.mem_cons.1 he with rfl | he
 ·exact aHF
 rcases List.mem_cons.1 he with rfl | he
 ·exact aHG
 rcases List.mem_cons.1 he with rfl | he
 ·exact aHH
 rcases List.mem_cons.1 he with rfl | he
 ·exact aHI
 rcases List.mem_cons.1 he with rfl | he
 ·exact aHJ
 rcases List.mem_cons.1 he with rfl | he
 ·exact aHK
 rcases List.mem_cons.1 he with rfl | he
 ·exact aHL
 rcases List.mem_cons.1 he with rfl | he
 ·exact aHM
 rcases List.mem_cons.1 he with rfl | he
 ·exact aHN
 rcases List.mem_cons.1 he with rfl | he
 ·exact aHO
 rcases List.mem_cons.1 he with rfl | he
 ·exact aHP
 rcases List.mem_cons.1 he with rfl | he
 ·exact aHQ
 rcases List.mem_cons.1 he with rfl | he
 ·exact aHR
 rcases List.mem_cons.1 he with rfl | he
 ·exact aHS
 rcases List.mem_cons.1 he with rfl | he
 ·exact aHT
 rcases List.mem_cons.1 he with rfl | he
 ·exact aHU
 rcases List.mem_cons.1 he with rfl | he
 ·exact aHV
 rcases List.mem_cons.1 he with rfl | he
 ·exact aHW
 rcases List.mem_cons.1 he with rfl | he
 ·exact aHX
 rcases List.mem_cons.1 he with rfl | he
 ·exact aHY
 rcases List.mem_cons.1 he with rfl | he
 ·exact aHZ
 rcases List.mem_cons.1 he with rfl | he
 ·exact aH0
 rcases List.mem_cons.1 he with rfl | he
 ·exact aH1
 rcases List.mem_cons.1 he with rfl | he
 ·exact aH2
 rcases List.mem_cons.1 he with rfl | he
 ·exact aH3
 rcases List.mem_cons.1 he with rfl | he
 ·exact aH4
 rcases List.mem_cons.1 he with rfl | he
 ·exact aH5
 rcases List.mem_cons.1 he with rfl | he
 ·exact aH6
 rcases List.mem_cons.1 he with rfl | he
 ·exact aH7
 rcases List.mem_cons.1 he with rfl | he
 ·exact aH8
 rcases List.mem_cons.1 he with rfl | he
 ·exact aH9
 rcases List.mem_cons.1 he with rfl | he
 ·exact aIa
 rcases List.mem_cons.1 he with rfl | he
 ·exact aIb
 rcases List.mem_cons.1 he with rfl | he
 ·exact aIc
 rcases List.mem_cons.1 he with rfl | he
 ·exact aId
 rcases List.mem_cons.1 he with rfl | he
 ·exact aIe
 rcases List.mem_cons.1 he with rfl | he
 ·exact aIf
 rcases List.mem_cons.1 he with rfl | he
 ·exact aIg
 rcases List.mem_cons.1 he with rfl | he
 ·exact aIh
 rcases List.mem_cons.1 he with rfl | he
 ·exact aIi
 rcases List.mem_cons.1 he with rfl | he
 ·exact aIj
 rcases List.mem_cons.1 he with rfl | he
 ·exact aIk
 rcases List.mem_cons.1 he with rfl | he
 ·exact aIl
 rcases List.mem_cons.1 he with rfl | he
 ·exact aIm
 rcases List.mem_cons.1 he with rfl | he
 ·exact aIn
 rcases List.mem_cons.1 he with rfl | he
 ·exact aIo
 rcases List.mem_cons.1 he with rfl | he
 ·exact aIp
 rcases List.mem_cons.1 he with rfl | he
 ·exact aIq
 rcases List.mem_cons.1 he with rfl | he
 ·exact aIr
 rcases List.mem_cons.1 he with rfl | he
 ·exact aIs
 rcases List.mem_cons.1 he with rfl | he
 ·exact aIt
 rcases List.mem_cons.1 he with rfl | he
 ·exact aIu
 rcases List.mem_cons.1 he with rfl | he
 ·exact aGH
 cases he
end Go.Proofs.Ytnnifohchhjkhaa
namespace Go.Proofs.Ytnnifohchhjkhaa
open Go Go.Sx Go.RowKit Go.Shelf
attribute [local go_sem] Oper.semAt_some
def isI:Value→Int
 | .int _ x=>x
 | _=>0
theorem aES:Try.prog.funcs[102]? = some Try.f102:=by kernel_rfl
theorem aBx:Try.f102.ntmps=15:=by kernel_rfl
set_option maxRecDepth 100000 in
set_option maxHeartbeats 1000000 in
theorem aGI (F:Fence) (n:Nat) (h6:F.fn 102) (hro:F.round=none) (hn:1≤n) (l:Nat) (b1 o1 b2 o2:Nat) (lo hi:Int) (hlo:-9223372036854775808≤lo) (hhi:hi<9223372036854775807) (S:Nat→Prop) (hS1:S b1) (hS2:S b2) (J Jx:List Int→World→Prop)
  (hY:∀ pre x W,J pre W→pre.length<(upto lo hi).length→YieldAt F (n - 1) Try.prog l #[.int .i64 x] W fun e W' =>
   (e=.returned (.bool true)∧J (pre++[x]) W'∧∀ b,S b→W'.heap[b]? = W.heap[b]?)∨(e=.returned (.bool false)∧Jx (pre++[x]) W'))
  (W:World) (hc1:W.cell? ⟨b1,o1,none⟩=some (.int .i64 lo)) (hc2:W.cell? ⟨b2,o2,none⟩=some (.int .i64 hi)) (h0:J [] W) :
  CallsIn F n Try.prog 102 #[.func (.yield l) #[] #[],.pointer (some ⟨b1,o1,none⟩),.pointer (some ⟨b2,o2,none⟩)] W fun e W'=>(∃ v,e=.returned v) ∧
   ((∃ ys,ys=upto lo hi∧J ys W')∨(∃ pre,pre <+: upto lo hi∧Jx pre W')):=by
 have keep:∀ {A B:World} {b o:Nat} {v:Value},(∀ b,S b→B.heap[b]? = A.heap[b]?)→S b→A.cell? ⟨b,o,none⟩=some v→B.cell? ⟨b,o,none⟩=some v:=by
  intro A B b o v h hs hc
  simp only [World.cell?] at hc ⊢
  rw [h b hs];exact hc
 refine callsIn_of_wp aES rfl h6 ?_ hro
 simp only [aBx,List.size_toArray,List.length_cons,List.length_nil,Nat.reduceAdd,Nat.reduceSub,Array.replicate_succ,Array.replicate_zero,List.push_toArray,List.append_toArray,List.nil_append,List.cons_append]
 gi_wp2
 gi_loopw [4] (fun p wr=>∃ (pre:List Int) (x:Int),p=.int .i64 x∧lo≤x∧upto lo hi=pre++upto x hi∧wr.cell? ⟨b2,o2,none⟩=some (.int .i64 hi)∧J pre wr)
  (fun p wr=>(hi+1 - isI p).toNat)
 case atStart =>
  exact ⟨[],lo,rfl,by omega,rfl,hc2,h0⟩
 case round =>
  obtain ⟨pre,x,rfl,hlx,hx,hc2',hJs⟩:=hrel
  by_cases hle:x≤hi
  ·have hux:=XY hle
   obtain ⟨fn,tmps,assign,body,hy,hR⟩:=hY pre x wr hJs (by rw [hx,hux];simp)
   have hw1:IntKind.i64.wrap (x+1)=x+1:=by rw [IntKind.wrap_i64];omega
   gi_wp2
   refine hR.mono ?_
   rintro e W3 (⟨rfl,hJ3,hk3⟩ | ⟨rfl,hJx3⟩)
   ·have hc3:=keep hk3 hS2 hc2'
    gi_wp2
    go_roundw
    case rel=>exact ⟨pre++[x],x+1,rfl,by omega,by rw [hx,hux];simp,hc3,hJ3⟩
    case measure=>simp only [isI];omega
   ·gi_wp2
    refine bodyPost_ret (results_none rfl _ _ _) rfl ?_
    exact ⟨⟨_,rfl⟩,.inr ⟨pre++[x],⟨upto (x+1) hi,by rw [hx,hux];simp⟩,hJx3⟩⟩
  ·have hux:=aA8 (a:=x) (b:=hi) (by omega)
   gi_wp2
   go_end0
   exact ⟨⟨_,rfl⟩,.inl hJs⟩
def rB:List CV→Option (List CV)
 | [.ref [.val (.int .i64 a)],.ref [.val (.int .i64 b)]]=>if -9223372036854775808≤a∧b<9223372036854775807 then some ((upto a b).map ci) else none
 | _=>none
theorem yK:∀ (l:List Int),intsOf (l.map ci)=some l
 | []=>rfl
 | x::l=>by simp [intsOf,ci,yK l]
theorem aDg (caps out:List CV) (h:rB caps=some out) (xs:List Int) (hx:intsOf out=some xs):dM Try.prog 102=true∧NN Try.prog 102 caps xs:=by
 refine ⟨by kernel_rfl,?_⟩
 unfold rB at h
 split at h
 ·rename_i a b
  split at h
  ·rename_i hb
   cases h
   rw [yK] at hx
   cases hx
   intro F n S w lb hF hro hn hS hv l J Jx W hW _ _ hY h0
   match lb,hv with
   | ⟨[v1,v2]⟩,hv =>
    simp only [CV.vals,CV.holds,CV.cells,and_true] at hv
    obtain ⟨⟨b1,o1,rfl,hS1,x1,hc1,rfl,_⟩,⟨b2,o2,rfl,hS2,x2,hc2,rfl,_⟩⟩:=hv
    have hcell:∀ {b o:Nat} {v:Value},S b→w.cell? ⟨b,o,none⟩=some v→W.cell? ⟨b,o,none⟩=some v:=by
     intro b o v hs hc
     simp only [World.cell?] at hc ⊢
     rw [hW.block b (hS b hs)];exact hc
    exact aGI F n (hF.fn 102) hro hn l b1 o1 b2 o2 a b hb.1 hb.2 S hS1 hS2 J Jx hY W (hcell hS1 hc1) (hcell hS2 hc2) h0
   | ⟨[]⟩,hv=>simp [CV.vals] at hv
   | ⟨[_]⟩,hv=>simp [CV.vals] at hv
   | ⟨_::_::_::_⟩,hv=>simp [CV.vals] at hv
  ·cases h
 ·cases h
end Go.Proofs.Ytnnifohchhjkhaa
namespace Go.Proofs.Ytnnifohchhjkhaa
open Go Go.Sx
class ItsD (its:ITS):Prop where
 days:∀ n vs,D its (n+1) 102 vs=rB vs
end Go.Proofs.Ytnnifohchhjkhaa
namespace Go.Proofs.Ytnnifohchhjkhaa.Fi
open Go Go.Sx Go.Fine
variable {its:ITS} [hD:ItsD its]
set_option maxRecDepth 10000
attribute [local simp] Bool.and_assoc Bool.or_assoc
theorem SY (M:Den) (x:CV):bR sg M (.fn dT []) [x] [.one li] [.one lb]=M dT [x]:=rfl
theorem SZ (M:Den) (x:CV):bR sg M (.fn dS []) [x] [.one li] [.one lb]=M dS [x]:=rfl
@[simp] theorem aGJ (n:Nat) (a b c:Int):D its (n+1) aL [ci a,ci b,ci c]=some [cb (within a b c)]:=by
  have _:=hD
  rw [FT];simp [tB,within]
@[simp] theorem aHc (n:Nat) (a:Int):D its (n+2) fZ [ci a]=some [cb (eO a)]:=by
  rw [KO];simp [wJ,eO]
@[simp] theorem aET (n:Nat) (a b c:Int):D its (n+3) gP [ci a,ci b,ci c]=some [cb (nO a b c)]:=by
  rw [AR];simp [pL,nO,kD]
@[simp] theorem aGK (n:Nat) (a b c:Int):D its (n+1) jX [ci a,ci b,ci c]=some [cb (counts a b c)]:=by
  have _:=hD
  rw [FM];simp [sV,counts,kD]
@[simp] theorem aEU (n:Nat) (a:Int):D its (n+2) dT [ci a]=some [cb (!within a 0 10000)]:=by
  rw [AW];simp [pP]
@[simp] theorem aEV (n:Nat) (a:Int):D its (n+3) dS [ci a]=some [cb (!eO a)]:=by
  rw [AN];simp [pH]
@[simp] theorem aEW (n:Nat) (a b:Int):D its (n+1) mU [ci a,ci b]=some [.fn bV [.ref [ci a],.ref [ci b]]]:=by
  have _:=hD
  rw [OT];simp [zT]
end Go.Proofs.Ytnnifohchhjkhaa.Fi
namespace Go.Proofs.Ytnnifohchhjkhaa.Fi
open Go Go.Sx Go.Fine
variable {its:ITS} [hD:ItsD its]
set_option maxRecDepth 10000
attribute [local simp] Bool.and_assoc Bool.or_assoc
@[simp] theorem aD5 (n:Nat) (s:Held):D its (n+4) dF [ci s.src,ci s.beast,ci s.sort,ci s.eats,ci s.worth,ci s.drv,ci s.day,ci s.known,ci s.til]=some [ci (if s.ok=true then 0 else 61)]:=by
  rw [yH];simp [oB,Held.ok];grind
@[simp] theorem aD6 (n:Nat) (s:Note):D its (n+4) dG [ci s.src,ci s.stay,ci s.kind,ci s.owner,ci s.day,ci s.known,ci s.til]=some [ci (if s.ok=true then 0 else 62)]:=by
  rw [yE];simp [nW,Note.ok];grind
theorem kM (n:Nat) (l:List Int) (f:CV) (p:Int→Bool) (hl:l.length<9223372036854775807) (hf:∀ x∈l,bR sg (D its n) f [ci x] [.one li] [.one lb]=some [cb (p x)]) :
  D its (n+1) cZ [.row 1 (ints l),f]=some [ci (match (List.range l.length).find? (fun i=>p (l.getD i 0)) with | some i=>(i:Int) | none=>-1)]:=by
 have _:=hD
 have hg:∀ i (h:i<l.length),l.getD i 0=l[i]:=fun i h=>by simp [h]
 have hf':∀ i (h:i<l.length),bR sg (D its n) f [ci l[i]] [.one li] [.one lb]=some [cb (p l[i])]:=fun i h=>hf _ (List.getElem_mem h)
 rw [iW]
 unfold eZ
 rw [hZ l.length (fun i=>[ci (i:Int)]) (fun i=>p (l.getD i 0)) (fun i=>some (.ret [ci (i:Int)])) (some (.br 0 [])) ?hv ?hR ?hX
  (fun i hi hp=>?h1) (fun i hi hp=>?h2) ?h3]
 case hv=>rfl
 case hR=>simp
 case hX=>simp
 case h3=>simp [ints]
 case h1 =>
  rw [hg i hi] at hp
  simp [ints,hi,hp,aR,bK,hf',aQ (show i<9223372036854775807 by omega)]
 case h2 =>
  rw [hg i hi] at hp
  simp [ints,hi,hp,aR,bK,hf']
 ·cases (List.range l.length).find? fun i=>p (l.getD i 0) <;> simp
theorem aBy {l:List Int} {p:Int→Bool}:(∃ i,(List.range l.length).find? (fun i=>p (l.getD i 0))=some i)↔l.any p=true:=by
 constructor
 ·rintro ⟨i,hi⟩
  have h1:=List.find?_some hi
  have h2:=List.mem_of_find?_eq_some hi
  rw [List.mem_range] at h2
  simp only [List.any_eq_true]
  exact ⟨l[i],List.getElem_mem h2,by simpa [h2] using h1⟩
 ·intro h
  obtain ⟨x,hx,hp⟩:=List.any_eq_true.1 h
  obtain ⟨i,hi,rfl⟩:=List.mem_iff_getElem.1 hx
  cases hf:(List.range l.length).find? (fun i=>p (l.getD i 0)) with
  | some j=>exact ⟨j,rfl⟩
  | none =>
   rw [List.find?_eq_none] at hf
   have:=hf i (by simpa using hi)
   simp [hi,hp] at this
theorem dL (n:Nat) (l:List Int) (f:CV) (p:Int→Bool) (hl:l.length<9223372036854775807) (hf:∀ x∈l,bR sg (D its n) f [ci x] [.one li] [.one lb]=some [cb (p x)]) :
  D its (n+2) aU [.row 1 (ints l),f]=some [cb (l.any p)]:=by
 rw [gC]
 simp only [dP,kM n l f p hl hf]
 have key:=@aBy l p
 cases hh:(List.range l.length).find? (fun i=>p (l.getD i 0)) with
 | some i=>simp [key.1 ⟨i,hh⟩]
 | none =>
  have:l.any p=false:=by
   cases hc:l.any p with
   | false=>rfl
   | true=>obtain ⟨i,hi⟩:=key.2 hc;rw [hh] at hi;cases hi
  simp [this]
theorem aDh (n:Nat) (a0 a1 a2 a3 a4 a5 a6 a7 a8 a9:Int):D its (n+5) kZ [ci a0,ci a1,ci a2,ci a3,ci a4,ci a5,ci a6,ci a7,ci a8,ci a9]=some [cb (rowOk [a0,a1,a2,a3,a4,a5,a6,a7,a8,a9])]:=by
 rw [KJ]
 have:=dL (its:=its) (n+2) [a0,a1,a2,a3,a4,a5,a6,a7,a8,a9] (.fn dT []) (fun x=>!within x 0 10000) (by simp) (fun x _=>by rw [SY];simp)
 simp only [ints,List.map_cons,List.map_nil] at this
 simp [wD,this,kD,rowOk,List.all_cons]
attribute [simp] aDh
@[simp] theorem aCj (n:Nat) (t:Tariff):D its (n+6) cN [ci t.frm,ci t.h0,ci t.h1,ci t.h2,ci t.h3,ci t.h4,ci t.h5,ci t.h6,ci t.h7,ci t.h8,ci t.h9,ci t.d0,ci t.d1,ci t.d2,ci t.d3,ci t.d4,ci t.d5,ci t.d6,ci t.d7,ci t.d8,ci t.d9,ci t.feed,ci t.hay,ci t.drv]=some [ci (if t.ok=true then 0 else 60)]:=by
  rw [uC]
  by_cases hw:within t.hay 0 60=true∧within t.drv 0 60=true
  ·have e:wr (t.hay+t.drv)=t.hay+t.drv:=by
    simp only [within,Bool.and_eq_true,decide_eq_true_eq] at hw
    rw [bE (by omega) (by omega)]
   simp [gV,Tariff.ok,Tariff.hs,Tariff.ds,hw,e];grind
  ·simp [gV,Tariff.ok,Tariff.hs,Tariff.ds];grind
end Go.Proofs.Ytnnifohchhjkhaa.Fi
namespace Go.Proofs.Ytnnifohchhjkhaa.Fi
open Go Go.Sx Go.Fine
variable {its:ITS} [hD:ItsD its]
set_option maxRecDepth 10000
attribute [local simp] Bool.and_assoc Bool.or_assoc
theorem mF:∀ {l:List Int},rising l=true↔∀ i (h:i+1<l.length),l[i]<l[i+1]
 | []=>by simp [rising]
 | [x]=>by simp [rising]
 | x::y::l=>by
  have ih:=@mF (y::l)
  rw [rising,Bool.and_eq_true,ih]
  simp only [decide_eq_true_eq]
  constructor
  ·rintro ⟨h1,h2⟩ i hi
   cases i with
   | zero=>simpa using h1
   | succ i=>exact h2 i (by simpa using hi)
  ·intro h
   exact ⟨by simpa using h 0 (by simp),fun i hi=>h (i+1) (by simpa using hi)⟩
def bad {A:Type} (ok:A→Bool) (num:A→Int) (l:List A) (i:Nat):Bool:=match l[i]? with
 | some x=>!ok x || (decide (0<i)&&match l[i - 1]? with
  | some y=>decide (num x≤num y)
  | none=>false)
 | none=>false
theorem DZ {A:Type} (ok:A→Bool) (num:A→Int) (l:List A):((List.range l.length).find? (bad ok num l)).isNone=(l.all ok&&rising (l.map num)):=by
 rw [Bool.eq_iff_iff,Option.isNone_iff_eq_none,List.find?_eq_none,Bool.and_eq_true,List.all_eq_true,mF]
 simp only [List.mem_range,List.length_map,List.getElem_map]
 constructor
 ·intro h
  refine ⟨fun x hx=>?_,fun i hi=>?_⟩
  ·obtain ⟨i,hi,rfl⟩:=List.mem_iff_getElem.1 hx
   have:=h i hi
   simp only [bad,List.getElem?_eq_getElem hi] at this
   simp only [Bool.or_eq_true,not_or,Bool.not_eq_true',Bool.not_eq_false] at this
   exact this.1
  ·have:=h (i+1) hi
   simp only [bad,List.getElem?_eq_getElem hi,Nat.add_sub_cancel,List.getElem?_eq_getElem (show i<l.length by omega)] at this
   simp only [Bool.or_eq_true,not_or,Bool.and_eq_true,decide_eq_true_eq,Nat.zero_lt_succ,true_and] at this
   omega
 ·rintro ⟨h1,h2⟩ i hi
  simp only [bad,List.getElem?_eq_getElem hi,h1 _ (List.getElem_mem hi),Bool.not_true,Bool.false_or,Bool.and_eq_true,decide_eq_true_eq,not_and]
  intro h0
  rw [List.getElem?_eq_getElem (show i - 1<l.length by omega)]
  have:=h2 (i - 1) (by omega)
  simp only [Nat.sub_add_cancel h0] at this
  simp only [decide_eq_true_eq]
  omega
theorem rC (M:Den) (t:Tariff):bR sg M (.fn cN []) [ci t.frm,ci t.h0,ci t.h1,ci t.h2,ci t.h3,ci t.h4,ci t.h5,ci t.h6,ci t.h7,ci t.h8,ci t.h9,ci t.d0,ci t.d1,ci t.d2,ci t.d3,ci t.d4,ci t.d5,ci t.d6,ci t.d7,ci t.d8,ci t.d9,ci t.feed,ci t.hay,ci t.drv] [.agg [li,li,li,li,li,li,li,li,li,li,li,li,li,li,li,li,li,li,li,li,li,li,li,li]] [.one li]=M cN [ci t.frm,ci t.h0,ci t.h1,ci t.h2,ci t.h3,ci t.h4,ci t.h5,ci t.h6,ci t.h7,ci t.h8,ci t.h9,ci t.d0,ci t.d1,ci t.d2,ci t.d3,ci t.d4,ci t.d5,ci t.d6,ci t.d7,ci t.d8,ci t.d9,ci t.feed,ci t.hay,ci t.drv]:=rfl
theorem oX (M:Den) (t:Tariff):bR sg M (.fn dR []) [ci t.frm,ci t.h0,ci t.h1,ci t.h2,ci t.h3,ci t.h4,ci t.h5,ci t.h6,ci t.h7,ci t.h8,ci t.h9,ci t.d0,ci t.d1,ci t.d2,ci t.d3,ci t.d4,ci t.d5,ci t.d6,ci t.d7,ci t.d8,ci t.d9,ci t.feed,ci t.hay,ci t.drv] [.agg [li,li,li,li,li,li,li,li,li,li,li,li,li,li,li,li,li,li,li,li,li,li,li,li]] [.one li]=M dR [ci t.frm,ci t.h0,ci t.h1,ci t.h2,ci t.h3,ci t.h4,ci t.h5,ci t.h6,ci t.h7,ci t.h8,ci t.h9,ci t.d0,ci t.d1,ci t.d2,ci t.d3,ci t.d4,ci t.d5,ci t.d6,ci t.d7,ci t.d8,ci t.d9,ci t.feed,ci t.hay,ci t.drv]:=rfl
@[simp] theorem aDi (n:Nat) (t:Tariff):D its (n+1) dR [ci t.frm,ci t.h0,ci t.h1,ci t.h2,ci t.h3,ci t.h4,ci t.h5,ci t.h6,ci t.h7,ci t.h8,ci t.h9,ci t.d0,ci t.d1,ci t.d2,ci t.d3,ci t.d4,ci t.d5,ci t.d6,ci t.d7,ci t.d8,ci t.d9,ci t.feed,ci t.hay,ci t.drv]=some [ci t.frm]:=by
  have _:=hD
  rw [AO];simp [pI]
@[simp] theorem TA (n:Nat) (l:List Tariff) (most:Int) (hl:l.length<100000000000000):D its (n+7) eD [.row 24 (l.map Tariff.cv),ci most,.fn cN [],.fn dR []]=some [cb (l.all Tariff.ok&&rising (l.map Tariff.frm)&&decide ((l.length:Int)≤most))]:=by
  rw [nY]
  unfold iC
  rw [hZ l.length (fun i=>[ci (i:Int)]) (bad Tariff.ok Tariff.frm l) (fun i=>some (.ret [cb false])) (some (.br 0 [])) ?hv ?hR ?hX
   (fun i hi hp=>?h1) (fun i hi hp=>?h2) ?h3]
  case hv=>rfl
  case hR=>simp
  case hX=>simp
  case h3=>simp
  case h1 =>
   have hw:=aQ (show i<9223372036854775807 by omega)
   by_cases h0:i=0
   ·subst h0
    simp [bad,hi] at hp
    have hw1:wr 1=1:=by decide
    simp [hi,nL,rW,Tariff.cv,rC,hp,hw1]
   ·have h0':0<i:=by omega
    have hj:i - 1<l.length:=by omega
    have hwj:=jT h0' (show i<9223372036854775807 by omega)
    simp only [bad,List.getElem?_eq_getElem hi,List.getElem?_eq_getElem hj,h0',decide_true,Bool.true_and,Bool.or_eq_false_iff,Bool.not_eq_false',decide_eq_false_iff_not] at hp
    simp [hi,hj,aR,bK,Tariff.cv,rC,oX,hp,hw,hwj,h0']
  case h2 =>
   by_cases h0:i=0
   ·subst h0
    simp [bad,hi] at hp
    simp [hi,nL,rW,Tariff.cv,rC,hp]
   ·have h0':0<i:=by omega
    have hj:i - 1<l.length:=by omega
    have hwj:=jT h0' (show i<9223372036854775807 by omega)
    simp only [bad,List.getElem?_eq_getElem hi,List.getElem?_eq_getElem hj,h0',decide_true,Bool.true_and,Bool.or_eq_true,Bool.not_eq_true',decide_eq_true_eq] at hp
    cases hk:l[i].ok with
    | false=>simp [hi,hj,aR,bK,Tariff.cv,rC,oX,hk,hwj,h0']
    | true =>
     have hp':l[i].frm≤l[i - 1].frm:=by simpa [hk] using hp
     simp [hi,hj,aR,bK,Tariff.cv,rC,oX,hk,hp',hwj,h0']
  ·rw [← DZ Tariff.ok Tariff.frm l]
   cases (List.range l.length).find? (bad Tariff.ok Tariff.frm l) <;> simp
theorem EA (M:Den) (t:Held):bR sg M (.fn dF []) [ci t.src,ci t.beast,ci t.sort,ci t.eats,ci t.worth,ci t.drv,ci t.day,ci t.known,ci t.til] [.agg [li,li,li,li,li,li,li,li,li]] [.one li]=M dF [ci t.src,ci t.beast,ci t.sort,ci t.eats,ci t.worth,ci t.drv,ci t.day,ci t.known,ci t.til]:=rfl
theorem uI (M:Den) (t:Held):bR sg M (.fn fB []) [ci t.src,ci t.beast,ci t.sort,ci t.eats,ci t.worth,ci t.drv,ci t.day,ci t.known,ci t.til] [.agg [li,li,li,li,li,li,li,li,li]] [.one li]=M fB [ci t.src,ci t.beast,ci t.sort,ci t.eats,ci t.worth,ci t.drv,ci t.day,ci t.known,ci t.til]:=rfl
@[simp] theorem aEX (n:Nat) (t:Held):D its (n+1) fB [ci t.src,ci t.beast,ci t.sort,ci t.eats,ci t.worth,ci t.drv,ci t.day,ci t.known,ci t.til]=some [ci t.src]:=by
  have _:=hD
  rw [FO];simp [sX]
@[simp] theorem YZ (n:Nat) (l:List Held) (most:Int) (hl:l.length<100000000000000):D its (n+7) fF [.row 9 (l.map Held.cv),ci most,.fn dF [],.fn fB []]=some [cb (l.all Held.ok&&rising (l.map Held.src)&&decide ((l.length:Int)≤most))]:=by
  rw [pV]
  unfold jC
  rw [hZ l.length (fun i=>[ci (i:Int)]) (bad Held.ok Held.src l) (fun i=>some (.ret [cb false])) (some (.br 0 [])) ?hv ?hR ?hX
   (fun i hi hp=>?h1) (fun i hi hp=>?h2) ?h3]
  case hv=>rfl
  case hR=>simp
  case hX=>simp
  case h3=>simp
  case h1 =>
   have hw:=aQ (show i<9223372036854775807 by omega)
   by_cases h0:i=0
   ·subst h0
    simp [bad,hi] at hp
    have hw1:wr 1=1:=by decide
    simp [hi,nL,rW,Held.cv,EA,hp,hw1]
   ·have h0':0<i:=by omega
    have hj:i - 1<l.length:=by omega
    have hwj:=jT h0' (show i<9223372036854775807 by omega)
    simp only [bad,List.getElem?_eq_getElem hi,List.getElem?_eq_getElem hj,h0',decide_true,Bool.true_and,Bool.or_eq_false_iff,Bool.not_eq_false',decide_eq_false_iff_not] at hp
    simp [hi,hj,aR,bK,Held.cv,EA,uI,hp,hw,hwj,h0']
  case h2 =>
   by_cases h0:i=0
   ·subst h0
    simp [bad,hi] at hp
    simp [hi,nL,rW,Held.cv,EA,hp]
   ·have h0':0<i:=by omega
    have hj:i - 1<l.length:=by omega
    have hwj:=jT h0' (show i<9223372036854775807 by omega)
    simp only [bad,List.getElem?_eq_getElem hi,List.getElem?_eq_getElem hj,h0',decide_true,Bool.true_and,Bool.or_eq_true,Bool.not_eq_true',decide_eq_true_eq] at hp
    cases hk:l[i].ok with
    | false=>simp [hi,hj,aR,bK,Held.cv,EA,uI,hk,hwj,h0']
    | true =>
     have hp':l[i].src≤l[i - 1].src:=by simpa [hk] using hp
     simp [hi,hj,aR,bK,Held.cv,EA,uI,hk,hp',hwj,h0']
  ·rw [← DZ Held.ok Held.src l]
   cases (List.range l.length).find? (bad Held.ok Held.src l) <;> simp
theorem EB (M:Den) (t:Note):bR sg M (.fn dG []) [ci t.src,ci t.stay,ci t.kind,ci t.owner,ci t.day,ci t.known,ci t.til] [.agg [li,li,li,li,li,li,li]] [.one li]=M dG [ci t.src,ci t.stay,ci t.kind,ci t.owner,ci t.day,ci t.known,ci t.til]:=rfl
theorem uJ (M:Den) (t:Note):bR sg M (.fn fC []) [ci t.src,ci t.stay,ci t.kind,ci t.owner,ci t.day,ci t.known,ci t.til] [.agg [li,li,li,li,li,li,li]] [.one li]=M fC [ci t.src,ci t.stay,ci t.kind,ci t.owner,ci t.day,ci t.known,ci t.til]:=rfl
@[simp] theorem aEY (n:Nat) (t:Note):D its (n+1) fC [ci t.src,ci t.stay,ci t.kind,ci t.owner,ci t.day,ci t.known,ci t.til]=some [ci t.src]:=by
  have _:=hD
  rw [FU];simp [tC]
@[simp] theorem ZA (n:Nat) (l:List Note) (most:Int) (hl:l.length<100000000000000):D its (n+7) fG [.row 7 (l.map Note.cv),ci most,.fn dG [],.fn fC []]=some [cb (l.all Note.ok&&rising (l.map Note.src)&&decide ((l.length:Int)≤most))]:=by
  rw [pU]
  unfold jB
  rw [hZ l.length (fun i=>[ci (i:Int)]) (bad Note.ok Note.src l) (fun i=>some (.ret [cb false])) (some (.br 0 [])) ?hv ?hR ?hX
   (fun i hi hp=>?h1) (fun i hi hp=>?h2) ?h3]
  case hv=>rfl
  case hR=>simp
  case hX=>simp
  case h3=>simp
  case h1 =>
   have hw:=aQ (show i<9223372036854775807 by omega)
   by_cases h0:i=0
   ·subst h0
    simp [bad,hi] at hp
    have hw1:wr 1=1:=by decide
    simp [hi,nL,rW,Note.cv,EB,hp,hw1]
   ·have h0':0<i:=by omega
    have hj:i - 1<l.length:=by omega
    have hwj:=jT h0' (show i<9223372036854775807 by omega)
    simp only [bad,List.getElem?_eq_getElem hi,List.getElem?_eq_getElem hj,h0',decide_true,Bool.true_and,Bool.or_eq_false_iff,Bool.not_eq_false',decide_eq_false_iff_not] at hp
    simp [hi,hj,aR,bK,Note.cv,EB,uJ,hp,hw,hwj,h0']
  case h2 =>
   by_cases h0:i=0
   ·subst h0
    simp [bad,hi] at hp
    simp [hi,nL,rW,Note.cv,EB,hp]
   ·have h0':0<i:=by omega
    have hj:i - 1<l.length:=by omega
    have hwj:=jT h0' (show i<9223372036854775807 by omega)
    simp only [bad,List.getElem?_eq_getElem hi,List.getElem?_eq_getElem hj,h0',decide_true,Bool.true_and,Bool.or_eq_true,Bool.not_eq_true',decide_eq_true_eq] at hp
    cases hk:l[i].ok with
    | false=>simp [hi,hj,aR,bK,Note.cv,EB,uJ,hk,hwj,h0']
    | true =>
     have hp':l[i].src≤l[i - 1].src:=by simpa [hk] using hp
     simp [hi,hj,aR,bK,Note.cv,EB,uJ,hk,hp',hwj,h0']
  ·rw [← DZ Note.ok Note.src l]
   cases (List.range l.length).find? (bad Note.ok Note.src l) <;> simp
end Go.Proofs.Ytnnifohchhjkhaa.Fi
namespace Go.Proofs.Ytnnifohchhjkhaa.Fi
open Go Go.Sx Go.Fine
variable {its:ITS} [hD:ItsD its]
set_option maxRecDepth 10000
attribute [local simp] Bool.and_assoc Bool.or_assoc
@[simp] theorem aHd (n:Nat) (p:Acc) (hp:p.fits):D its (n+8) iT [.row 24 (p.ts.map Tariff.cv),.row 9 (p.ss.map Held.cv),.row 7 (p.ns.map Note.cv)]=some [ci (check p)]:=by
  rw [KR]
  obtain ⟨h1,h2,h3⟩:=hp
  have e1:((p.ts.length:Int)≤8)=(p.ts.length≤8):=by apply propext;omega
  have e2:((p.ss.length:Int)≤60)=(p.ss.length≤60):=by apply propext;omega
  have e3:((p.ns.length:Int)≤60)=(p.ns.length≤60):=by apply propext;omega
  simp [wM,h1,h2,h3,check,Acc.ok,qJ,e1,e2,e3];grind
@[simp] theorem aDj (n:Nat) (p:Acc) (l:List Int) (hp:p.fits) (hl:l.length<9223372036854775807):D its (n+9) fX [.row 24 (p.ts.map Tariff.cv),.row 9 (p.ss.map Held.cv),.row 7 (p.ns.map Note.cv),.row 1 (ints l)]=some [ci (if p.ok then (if l.all eO then 0 else 6) else 63)]:=by
  rw [KS]
  have h1:=dL (its:=its) (n+6) l (.fn dS []) (fun x=>!eO x) hl (fun x _=>by rw [SZ];simp)
  have h2:l.any (fun x=>!eO x)=!l.all eO:=by rw [List.not_all_eq_any_not]
  rw [h2] at h1
  generalize l.all eO=b at h1 ⊢
  simp [wN,hp,check,h1,kD]
  cases b <;> simp <;> grind
end Go.Proofs.Ytnnifohchhjkhaa.Fi
namespace Go.Proofs.Ytnnifohchhjkhaa.Fi
open Go Go.Sx Go.Fine
variable {its:ITS} [hD:ItsD its]
set_option maxRecDepth 10000
attribute [local simp] Bool.and_assoc Bool.or_assoc
theorem HX {A:Type} (p:A→Bool) (z:A):∀ (l:List A) (s:A×Bool),l.foldl (fun s t=>if p t=true then (t,true) else s) s=match (l.filter p).getLast? with
  | some t=>(t,true)
  | none=>s
 | [],s=>rfl
 | a::l,s=>by
  rw [List.foldl_cons,HX p z l]
  cases hp:p a with
  | true =>
   rw [List.filter_cons_of_pos hp,List.getLast?_cons]
   cases (l.filter p).getLast? <;> simp
  | false=>rw [List.filter_cons_of_neg (by simp [hp])];simp
def Tariff.cvb (t:Tariff) (b:Bool):List CV:=[ci t.frm,ci t.h0,ci t.h1,ci t.h2,ci t.h3,ci t.h4,ci t.h5,ci t.h6,ci t.h7,ci t.h8,ci t.h9,ci t.d0,ci t.d1,ci t.d2,ci t.d3,ci t.d4,ci t.d5,ci t.d6,ci t.d7,ci t.d8,ci t.d9,ci t.feed,ci t.hay,ci t.drv,cb b]
@[simp] theorem HY (n:Nat) (l:List Tariff) (ss ns:List (List CV)) (d:Int) (hl:l.length<100000000000000):D its (n+1) eF [.row 24 (l.map Tariff.cv),.row 9 ss,.row 7 ns,ci d] =
  some (match (l.filter fun t=>decide (t.frm≤d)).getLast? with | some t=>Tariff.cvb t true | none=>Tariff.cvb tz false):=by
  have _:=hD
  rw [DW]
  unfold qX
  rw [jG l (fun i (s:Tariff×Bool)=>cb s.2::ci (i:Int)::s.1.cv) (fun s t=>if decide (t.frm≤d)=true then (t,true) else s) 0 (fun s=>cb s.2::s.1.cv) (tz,false) ?hv (fun i h s=>?hs) (fun s=>?he)]
  case hv=>simp [Tariff.cv,tz]
  case he=>simp [Tariff.cv]
  case hs =>
   have hw:=aQ (show i<9223372036854775807 by omega)
   by_cases hc:l[i].frm≤d <;> simp [h,aR,bK,Tariff.cv,hw,hc]
  ·rw [HX _ tz]
   cases (l.filter fun t=>decide (t.frm≤d)).getLast? <;> simp [Tariff.cv,Tariff.cvb]
end Go.Proofs.Ytnnifohchhjkhaa.Fi
namespace Go.Proofs.Ytnnifohchhjkhaa.Fi
open Go Go.Sx Go.Fine
variable {its:ITS} [hD:ItsD its]
set_option maxRecDepth 10000
attribute [local simp] Bool.and_assoc Bool.or_assoc
theorem aD7 (n:Nat) (p:Acc) (ss ns:List (List CV)) (d:Int) (hp:p.fits):D its (n+1) eF [.row 24 (p.ts.map Tariff.cv),.row 9 ss,.row 7 ns,ci d]=some (Tariff.cvb (bH p d) (inF p d).isSome):=by
 rw [HY _ _ _ _ _ hp.1]
 unfold bH inF
 cases (p.ts.filter fun t=>decide (t.frm≤d)).getLast? <;> rfl
attribute [-simp] HY
attribute [simp] aD7
@[simp] theorem aHe (n:Nat) (p:Acc) (s:Held) (d:Int) (hp:p.ok=true) (hs:s.ok=true):D its (n+2) lA [.row 24 (p.ts.map Tariff.cv),.row 9 (p.ss.map Held.cv),.row 7 (p.ns.map Note.cv),ci s.src,ci s.beast,ci s.sort,ci s.eats,ci s.worth,ci s.drv,ci s.day,ci s.known,ci s.til,ci d]=some [ci (fM p s d)]:=by
  rw [KL]
  obtain ⟨h1,h2,h3,h4⟩:=fT hp hs d
  have e1:wr (s.eats*(bH p d).feed)=s.eats*(bH p d).feed:=by rw [bE] <;> omega
  have e2:wr (Int.tdiv (s.eats*(bH p d).feed) 10)=fM p s d:=by unfold fM at *;rw [bE] <;> omega
  simp [wG,p.ok_fits hp,Tariff.cvb,e1,e2]
theorem aBz (a b:List Int):ints (a++b)=ints a++ints b:=List.map_append
@[simp] theorem aEZ (x:Int):ints [x]=[[ci x]]:=rfl
@[simp] theorem ZB (n:Nat) (l:List Held) (hl:l.length≤1000):D its (n+1) iU [.row 9 (l.map Held.cv)]=some [.row 1 (ints (l.map Held.src))]:=by
  have _:=hD
  rw [DY]
  unfold rA
  rw [UR l.length (fun i=>[ci (i:Int),.row 1 (ints ((l.map Held.src).take i))]) (some (.br 0 [.row 1 (ints (l.map Held.src))])) ?hv (fun i hi=>?hs) ?he ?hr]
  case hv=>rfl
  case hr=>simp
  case he=>simp [List.take_of_length_le]
  case hs =>
   have hw:=aQ (show i<9223372036854775807 by omega)
   have hf:cX (ints ((l.map Held.src).take i)).length 1 8=true:=dZ (by simp [ints];omega) (by simp [ints];omega)
   have e:(l.map Held.src).take (i+1)=(l.map Held.src).take i++[l[i].src]:=by rw [YC (by simpa using hi)];simp
   simp only [e]
   simp [hi,aR,bK,Held.cv,hw,hf,aBz]
  ·simp
theorem jK (n:Nat) (l:List Held) (f:CV) (q:Held→Bool) (hl:l.length<9223372036854775807) (hf:∀ t∈l,bR sg (D its n) f [ci t.src,ci t.beast,ci t.sort,ci t.eats,ci t.worth,ci t.drv,ci t.day,ci t.known,ci t.til] [.agg [li,li,li,li,li,li,li,li,li]] [.one lb]=some [cb (q t)]) :
  D its (n+1) cC [.row 9 (l.map Held.cv),f]=some [ci (tW (l.findIdx? q))]:=by
 have _:=hD
 rw [nX]
 unfold iB
 have hf':∀ i (h:i<l.length),bR sg (D its n) f [ci l[i].src,ci l[i].beast,ci l[i].sort,ci l[i].eats,ci l[i].worth,ci l[i].drv,ci l[i].day,ci l[i].known,ci l[i].til] [.agg [li,li,li,li,li,li,li,li,li]] [.one lb]=some [cb (q l[i])]:=fun i h=>hf _ (List.getElem_mem h)
 rw [nN q l (fun i=>some (.ret [ci (i:Int)])) (some (.br 0 [])) (fun i=>[ci (i:Int)]) ?hv ?hR ?hX (fun i hi hp=>?h1) (fun i hi hp=>?h2) ?h3]
 case hv=>rfl
 case hR=>simp
 case hX=>simp
 case h3=>simp
 case h1 =>
  have hw:=aQ (show i<9223372036854775807 by omega)
  simp [hi,aR,bK,Held.cv,hf',hp,hw]
 case h2=>simp [hi,aR,bK,Held.cv,hf',hp]
 ·cases l.findIdx? q <;> simp [tW]
theorem rD (t:Held):t.cv.length=9:=rfl
theorem rE (t:Held):oks (List.replicate 9 li) t.cv 0=true:=rfl
theorem rF (t:Held):cis t.cv 0 9=t.cv:=rfl
theorem yL (n:Nat) (l:List Note) (f:CV) (q:Note→Bool) (hl:l.length<9223372036854775807) (hf:∀ t∈l,bR sg (D its n) f [ci t.src,ci t.stay,ci t.kind,ci t.owner,ci t.day,ci t.known,ci t.til] [.agg [li,li,li,li,li,li,li]] [.one lb]=some [cb (q t)]) :
  D its (n+1) eJ [.row 7 (l.map Note.cv),f]=some [ci (tW (l.findIdx? q))]:=by
 have _:=hD
 rw [oE]
 unfold iE
 have hf':∀ i (h:i<l.length),bR sg (D its n) f [ci l[i].src,ci l[i].stay,ci l[i].kind,ci l[i].owner,ci l[i].day,ci l[i].known,ci l[i].til] [.agg [li,li,li,li,li,li,li]] [.one lb]=some [cb (q l[i])]:=fun i h=>hf _ (List.getElem_mem h)
 rw [nN q l (fun i=>some (.ret [ci (i:Int)])) (some (.br 0 [])) (fun i=>[ci (i:Int)]) ?hv ?hR ?hX (fun i hi hp=>?h1) (fun i hi hp=>?h2) ?h3]
 case hv=>rfl
 case hR=>simp
 case hX=>simp
 case h3=>simp
 case h1 =>
  have hw:=aQ (show i<9223372036854775807 by omega)
  simp [hi,aR,bK,Note.cv,hf',hp,hw]
 case h2=>simp [hi,aR,bK,Note.cv,hf',hp]
 ·cases l.findIdx? q <;> simp [tW]
theorem PA (t:Note):t.cv.length=7:=rfl
theorem PB (t:Note):oks (List.replicate 7 li) t.cv 0=true:=rfl
theorem PC (t:Note):cis t.cv 0 7=t.cv:=rfl
theorem EC (M:Den) (s:Held) (c:List CV):bR sg M (.fn aN [.ref c]) [ci s.src,ci s.beast,ci s.sort,ci s.eats,ci s.worth,ci s.drv,ci s.day,ci s.known,ci s.til] [.agg [li,li,li,li,li,li,li,li,li]] [.one lb]=M aN [ci s.src,ci s.beast,ci s.sort,ci s.eats,ci s.worth,ci s.drv,ci s.day,ci s.known,ci s.til,.ref c]:=rfl
@[simp] theorem aE0 (n:Nat) (s:Held) (k:Int):D its (n+2) aN [ci s.src,ci s.beast,ci s.sort,ci s.eats,ci s.worth,ci s.drv,ci s.day,ci s.known,ci s.til,.ref [ci k]]=some [cb (!counts s.known s.til k)]:=by
  rw [AU];simp [pO]
@[simp] theorem aDk (n:Nat) (p:Acc) (k:Int) (hp:p.ok=true):D its (n+4) kY [.row 24 (p.ts.map Tariff.cv),.row 9 (p.ss.map Held.cv),.row 7 (p.ns.map Note.cv),ci k]=some [.row 9 ((stays p k).map Held.cv)]:=by
  rw [KK]
  obtain ⟨_,h1,_⟩:=p.ok_len hp
  have hix:=jK (its:=its) (n+2) p.ss (.fn aN [.ref [ci k]]) (fun s=>!counts s.known s.til k) (by omega) (fun s _=>by rw [EC];simp)
  have hd:=BH 9 Held.cv hz.cv rD rE rF (fun s=>!counts s.known s.til k) p.ss (by omega) hix (call:=fun c=>D its (n+3) aN (cat [c,[.ref [ci k]]])) (fun s _=>by simp [Held.cv])
  have hc:=rX 9 72 Held.cv p.ss (by omega) (by omega)
  unfold wE
  rw [hc]
  simp only [bL,bN]
  change aO (dD (YB _ (fun c=>D its (n+3) aN (cat [c,[.ref [ci k]]])) 9 hz.cv (p.ss.map Held.cv)) _)=_
  rw [hd]
  simp [stays]
theorem TB (M:Den) (x:Note) (c d:List CV):bR sg M (.fn bX [.ref c,.ref d]) [ci x.src,ci x.stay,ci x.kind,ci x.owner,ci x.day,ci x.known,ci x.til] [.agg [li,li,li,li,li,li,li]] [.one lb]=M bX [ci x.src,ci x.stay,ci x.kind,ci x.owner,ci x.day,ci x.known,ci x.til,.ref c,.ref d]:=rfl
@[simp] theorem aE1 (n:Nat) (x:Note) (s:Held) (k:Int):D its (n+2) bX [ci x.src,ci x.stay,ci x.kind,ci x.owner,ci x.day,ci x.known,ci x.til,.ref [ci k],.ref [ci s.src,ci s.beast,ci s.sort,ci s.eats,ci s.worth,ci s.drv,ci s.day,ci s.known,ci s.til]]=some [cb (!(counts x.known x.til k&&x.stay == s.src&&within x.day s.day k))]:=by
  rw [AQ];simp [pK,kD]
@[simp] theorem aDl (n:Nat) (p:Acc) (s:Held) (k:Int) (hp:p.ok=true):D its (n+4) oT [.row 24 (p.ts.map Tariff.cv),.row 9 (p.ss.map Held.cv),.row 7 (p.ns.map Note.cv),ci s.src,ci s.beast,ci s.sort,ci s.eats,ci s.worth,ci s.drv,ci s.day,ci s.known,ci s.til,ci k]=some [.row 7 ((notes p s k).map Note.cv)]:=by
  rw [KM]
  obtain ⟨_,_,h1⟩:=p.ok_len hp
  have hix:=yL (its:=its) (n+2) p.ns (.fn bX [.ref [ci k],.ref [ci s.src,ci s.beast,ci s.sort,ci s.eats,ci s.worth,ci s.drv,ci s.day,ci s.known,ci s.til]]) (fun x=>!(counts x.known x.til k&&x.stay == s.src&&within x.day s.day k)) (by omega) (fun x _=>by rw [TB];simp)
  have hd:=BH 7 Note.cv (List.replicate 7 (ci 0)) PA PB PC (fun x=>!(counts x.known x.til k&&x.stay == s.src&&within x.day s.day k)) p.ns (by omega) hix (call:=fun c=>D its (n+3) bX (cat [c,[.ref [ci k],.ref [ci s.src,ci s.beast,ci s.sort,ci s.eats,ci s.worth,ci s.drv,ci s.day,ci s.known,ci s.til]]])) (fun x _=>by simp [Note.cv])
  have hc:=rX 7 56 Note.cv p.ns (by omega) (by omega)
  unfold wH
  rw [hc]
  simp only [bL,bN]
  change aO (dD (YB _ (fun c=>D its (n+3) bX (cat [c,[.ref [ci k],.ref [ci s.src,ci s.beast,ci s.sort,ci s.eats,ci s.worth,ci s.drv,ci s.day,ci s.known,ci s.til]]])) 7 (List.replicate 7 (ci 0)) (p.ns.map Note.cv)) _)=_
  rw [hd]
  simp [notes]
end Go.Proofs.Ytnnifohchhjkhaa.Fi
namespace Go.Proofs.Ytnnifohchhjkhaa.Fi
open Go Go.Sx Go.Fine
variable {its:ITS} [hD:ItsD its]
set_option maxRecDepth 10000
attribute [local simp] Bool.and_assoc Bool.or_assoc
theorem wO (n:Nat) (p:Acc) (k:Int) (hp:p.fits):D its (n+9) fX [.row 24 (p.ts.map Tariff.cv),.row 9 (p.ss.map Held.cv),.row 7 (p.ns.map Note.cv),.row 1 [[ci k]]]=some [ci (asked p k)]:=by
 have:=aDj (its:=its) n p [k] hp (by simp)
 rw [aEZ] at this
 rw [this];simp [asked]
theorem gN {p:Acc} {k:Int} (h:asked p k=0):p.ok=true∧eO k=true:=by
 unfold asked at h
 cases h1:p.ok <;> cases h2:eO k <;> simp [h1,h2] at h ⊢
@[simp] theorem aHf (n:Nat) (p:Acc) (k:Int) (hp:p.fits):D its (n+10) eV [.row 24 (p.ts.map Tariff.cv),.row 9 (p.ss.map Held.cv),.row 7 (p.ns.map Note.cv),ci k]=some (if asked p k=0 then [.row 1 (ints ((stays p k).map Held.src)),ci 0] else [.row 1 [],ci (asked p k)]):=by
  rw [KI]
  by_cases ha:asked p k=0
  ·obtain ⟨hok,_⟩:=gN ha
   obtain ⟨_,h1,_⟩:=p.ok_len hok
   have h2:(stays p k).length≤1000:=Nat.le_trans (lT _ _) (by omega)
   simp [oW,wO _ _ _ hp,hok,h2,ha]
  ·simp [oW,wO _ _ _ hp,ha]
def Held.cve (s:Held) (e:Int):List CV:=[ci s.src,ci s.beast,ci s.sort,ci s.eats,ci s.worth,ci s.drv,ci s.day,ci s.known,ci s.til,ci e]
@[simp] theorem PD (n:Nat) (p:Acc) (y k:Int) (hp:p.fits):D its (n+10) jW [.row 24 (p.ts.map Tariff.cv),.row 9 (p.ss.map Held.cv),.row 7 (p.ns.map Note.cv),ci y,ci k]=some (Held.cve (dN p y k).1 (dN p y k).2):=by
  rw [FL]
  unfold sU
  have hck:=wO (its:=its) n p k hp
  simp only [vL,vK,List.take_succ_cons,List.take_zero]
  rw [hck]
  simp only [aD,aZ,vJ,kU]
  by_cases ha:asked p k=0
  ·obtain ⟨hok,_⟩:=gN ha
   obtain ⟨_,h1,_⟩:=p.ok_len hok
   have h2:(stays p k).length≤60:=Nat.le_trans (lT _ _) h1
   simp only [ha,decide_true,Bool.not_true,Bool.false_eq_true,if_false,aDk _ _ _ hok,aD,bN]
   rw [tV (fun s=>s.src == y) (fun s=>some (.ret (Held.cve s 0))) (some (.br 0 hz.cv)) (stays p k) (fun i=>ci (i:Int)::hz.cv) ?hv ?hR ?hX (fun i hi hq=>?h1) (fun i hi hq=>?h2) ?h3]
   case hv=>rfl
   case hR=>simp
   case hX=>simp
   case h3=>simp [Held.cv,hz]
   case h1 =>
    have hw:=aQ (show i<9223372036854775807 by omega)
    simp at hq
    simp [hi,aR,bK,Held.cv,hw,hq,hz]
   case h2 =>
    simp at hq
    simp [hi,aR,bK,Held.cv,hq,Held.cve]
   ·simp only [dN,ha,if_true]
    cases (stays p k).find? fun s=>s.src == y <;> simp [Held.cve,hz]
  ·simp [ha,dN,Held.cve,hz]
theorem HZ {p:Acc} {y k:Int} (h:(dN p y k).2=0):p.ok=true∧eO k=true∧(dN p y k).1∈stays p k∧(dN p y k).1.ok=true∧(dN p y k).1.src=y:=by
 unfold dN at h ⊢
 split at h
 ·rename_i ha
  obtain ⟨h1,h2⟩:=gN ha
  rw [if_pos ha]
  cases hf:(stays p k).find? fun s=>s.src == y with
  | none=>rw [hf] at h;simp at h
  | some s =>
   have hm:=List.mem_of_find?_eq_some hf
   have hs:=List.find?_some hf
   exact ⟨h1,h2,hm,p.ok_s h1 (HF hm),by simpa using hs⟩
 ·rename_i ha;exact absurd h ha
end Go.Proofs.Ytnnifohchhjkhaa.Fi
namespace Go.Proofs.Ytnnifohchhjkhaa.Fi
open Go Go.Sx Go.Fine
variable {its:ITS} [hD:ItsD its]
set_option maxRecDepth 10000
attribute [local simp] Bool.and_assoc Bool.or_assoc
theorem VJ (n:Nat) (l:List Note) (hl:l.length≤1000) (ho:∀ x∈l,x.ok=true):D its (n+1) oU [.row 7 (l.map Note.cv)]=some [ci (vQ l),ci (lS l)]:=by
 have _:=hD
 rw [KN]
 unfold wI
 rw [jG l (fun i (s:Int×Note×Note)=>ci s.1::ci (i:Int)::(s.2.1.cv++s.2.2.cv)) (fun s x=>(sR s.1 x,jH s.2.1 x,iQ s.2.2 x)) 0 (fun s=>ci s.1::(s.2.1.cv++s.2.2.cv)) (-1,c0,j0) ?hv (fun i hi s=>?hs) (fun s=>?he)]
 case hv=>simp [Note.cv,j0,c0]
 case he=>simp [Note.cv]
 case hs =>
  have hw:=aQ (show i<9223372036854775807 by omega)
  have hk:=(Note.ok_b (ho _ (List.getElem_mem hi))).2.2.1
  rcases hk with ⟨hk,_⟩ | ⟨hk | hk,_⟩
  ·simp [hi,aR,bK,Note.cv,hw,hk,sR,jH,iQ]
  ·by_cases hd:l[i].day<s.2.1.day <;> simp [hi,aR,bK,Note.cv,hw,hk,hd,sR,jH,iQ] <;> grind
  ·by_cases hd:s.2.2.known≤l[i].known <;> simp [hi,aR,bK,Note.cv,hw,hk,hd,sR,jH,iQ] <;> grind
 ·have h3:l.foldl (fun (s:Int×Note×Note) x=>(sR s.1 x,jH s.2.1 x,iQ s.2.2 x)) (-1,c0,j0)=(l.foldl sR (-1),l.foldl jH c0,l.foldl iQ j0):=by
   have key:∀ (l:List Note) (a:Int) (b c:Note),l.foldl (fun (s:Int×Note×Note) x=>(sR s.1 x,jH s.2.1 x,iQ s.2.2 x)) (a,b,c)=(l.foldl sR a,l.foldl jH b,l.foldl iQ c):=by
    intro l
    induction l with
    | nil=>intros;rfl
    | cons x l ih=>intro a b c;simp only [List.foldl_cons];exact ih _ _ _
   exact key _ _ _ _
  have hj:=SA l
  have hn:=NT l ho
  rw [h3,YE l ho]
  rw [hj] at hn
  simp [Note.cv,vQ,hj,(RZ l ho).1]
  grind
attribute [simp] VJ
theorem ZC (n:Nat) (a b:Int) (h1:-9223372036854775808≤a) (h2:b<9223372036854775807):D its (n+1) bV [.ref [ci a],.ref [ci b]]=some ((upto a b).map ci):=by
 rw [ItsD.days]
 simp only [rB,ci]
 rw [if_pos ⟨h1,h2⟩]
theorem VK (n:Nat) (a b:Int) (h1:-9223372036854775808≤a) (h2:b<9223372036854775807):itV sg (D its (n+1)) (.fn bV [.ref [ci a],.ref [ci b]])=some (upto a b):=by
 have hs:sg bV=none:=rfl
 simp only [itV,hs,ZC n a b h1 h2,yK]
theorem ZD (p:Acc) (s:Held) (hp:p.ok=true) (hs:s.ok=true) {x:Int} {e:Int} (he:0≤e∧e≤s.worth):wr (e+fM p s x)=e+fM p s x:=by
 obtain ⟨h1,h2,_⟩:=fT hp hs x
 have:=(Held.ok_b hs).2.2.2.1
 rw [bE] <;> omega
@[simp] theorem aE2 (n:Nat) (p:Acc) (s:Held) (k:Int) (hp:p.ok=true) (hs:s.ok=true) (hk:eO k=true):D its (n+3) qV [.row 24 (p.ts.map Tariff.cv),.row 9 (p.ss.map Held.cv),.row 7 (p.ns.map Note.cv),ci s.src,ci s.beast,ci s.sort,ci s.eats,ci s.worth,ci s.drv,ci s.day,ci s.known,ci s.til,ci k]=some [ci (DD p s k)]:=by
  rw [OO]
  unfold zQ
  have hb:=Held.ok_b hs
  simp only [eO,within,Bool.and_eq_true,decide_eq_true_eq] at hk
  by_cases h0:s.worth=0
  ·simp [h0,DD]
  ·have e1:wr (s.day+720)=s.day+720:=by rw [bE] <;> omega
   have e2:(if s.day+720<k then s.day+720 else k)=min k (s.day+720):=by omega
   simp only [kU,vI,h0,decide_false,Bool.false_eq_true,if_false,e1,e2,aEW,aD]
   rw [show List.getD [CV.fn bV [.ref [ci s.day],.ref [ci (min k (s.day+720))]]] 0 dC=CV.fn bV [.ref [ci s.day],.ref [ci (min k (s.day+720))]] from rfl,VK _ _ _ (by omega) (by omega)]
   generalize hst:(fun (x1:Int) (v1:List CV)=>_)=step
   have hstep:∀ (x:Int) (e:Int×Int),step x [ci e.1,ci e.2]=if wr (e.2+fM p s x)≥s.worth then some (Ou.ret [ci x]) else some (Ou.nx [ci e.1,ci (wr (e.2+fM p s x))]):=by
    intro x e
    rw [← hst]
    simp [hp,hs];grind
   rw [HE (xs:=upto s.day (min k (s.day+720))) (step:=step) (vs:=[ci 0,ci 0]) (fun l=>qI (fun (e:Int×Int)=>[ci e.1,ci e.2]) (fun x e=>by
    rw [hstep]
    split
    ·exact .inr ⟨_,rfl,by simp⟩
    ·exact .inl ⟨(e.1,wr (e.2+fM p s x)),rfl⟩) l (0,0))]
   have key:∀ (xs:List Int) (e:Int×Int),(∀ x∈xs,0≤x)→0≤e.2→e.2<s.worth→(vO p s e.2 xs=-1∧∃ vs,cU step xs [ci e.1,ci e.2]=some (.nx vs))∨(0≤vO p s e.2 xs∧cU step xs [ci e.1,ci e.2]=some (.ret [ci (vO p s e.2 xs)])):=by
    intro xs
    induction xs with
    | nil=>intro e _ _ _;exact .inl ⟨rfl,_,rfl⟩
    | cons x xs ih =>
     intro e hx h1 h2
     have h3:=hstep x e
     rw [ZD p s hp hs ⟨h1,by omega⟩] at h3
     simp only [cU,h3,vO]
     by_cases hc:e.2+fM p s x≥s.worth
     ·simp only [if_pos hc];exact .inr ⟨hx x (by simp),trivial⟩
     ·simp only [if_neg hc]
      exact ih (e.1,e.2+fM p s x) (fun y hy=>hx y (by simp [hy])) (by have:=(fT hp hs x).1;simp only;omega) (by simp only;omega)
   have hpos:∀ x∈upto s.day (min k (s.day+720)),0≤x:=fun x hx=>by have:=DA.1 hx;omega
   rcases key (upto s.day (min k (s.day+720))) (0,0) hpos (by simp) (by simp only;omega) with ⟨h1,vs,h2⟩ | ⟨h1,h2⟩
   ·simp only at h1 h2
    rw [h2];simp [DD,h0,h1]
   ·simp only at h1 h2
    rw [h2];simp [DD,h0]
end Go.Proofs.Ytnnifohchhjkhaa.Fi
namespace Go.Proofs.Ytnnifohchhjkhaa.Fi
open Go Go.Sx Go.Fine
variable {its:ITS} [hD:ItsD its]
set_option maxRecDepth 10000
attribute [local simp] Bool.and_assoc Bool.or_assoc
theorem aD8 (n:Nat) (p:Acc) (s:Held) (k:Int) (hp:p.ok=true) (hs:s.ok=true) (hk:eO k=true):D its (n+5) lX [.row 24 (p.ts.map Tariff.cv),.row 9 (p.ss.map Held.cv),.row 7 (p.ns.map Note.cv),ci s.src,ci s.beast,ci s.sort,ci s.eats,ci s.worth,ci s.drv,ci s.day,ci s.known,ci s.til,ci k]=some [ci (lot p s k).owner,ci (lot p s k).stop,ci (lot p s k).fin,ci (lot p s k).day]:=by
 rw [SX]
 have hb:=Held.ok_b hs
 have hl:(notes p s k).length≤1000:=Nat.le_trans (lT _ _) (by have:=p.ok_len hp;omega)
 have ho:∀ x∈notes p s k,x.ok=true:=fun x hx=>p.ok_n hp (YD hx)
 have e1:wr (s.day+360)=s.day+360:=by rw [bE] <;> omega
 have e2:wr (s.day+361)=s.day+361:=by rw [bE] <;> omega
 have e2':wr (s.day+360+1)=s.day+361:=by rw [bE] <;> omega
 have e3:wr (s.day+720)=s.day+720:=by rw [bE] <;> omega
 have hfv:(if (decide (lS (notes p s k)<0) || decide (lS (notes p s k) > s.day+360))=true then s.day+361 else -1)=vR s (notes p s k):=by simp [vR]
 have hel:ends p s k=[(1,least 2 (notes p s k)),(2,DD p s k),(3,vR s (notes p s k)),(4,s.day+720)]:=rfl
 simp only [DX,aDl _ _ _ _ hp,aD,bN,VJ _ _ hl ho,aE2 _ _ _ _ hp hs hk,aZ,dE,e1,e2',e3]
 rw [UR 5 (fun i=>[ci (i:Int),ci (if 0<i then -1 else 0),ci (if 1<i then -1 else 0),ci (if 2<i then -1 else 0),ci (if 3<i then -1 else 0),ci (if 4<i then -1 else 0)]) (some (.br 0 [ci (-1),ci (-1),ci (-1),ci (-1),ci (-1)])) ?hv1 (fun i hi=>?hs1) ?he1 ?hr1]
 case hv1=>rfl
 case hr1=>simp
 case hs1 =>
  have w1:wr 1=1:=by decide
  have w2:wr 2=2:=by decide
  have w3:wr 3=3:=by decide
  have w4:wr 4=4:=by decide
  have w5:wr 5=5:=by decide
  have:i=0∨i=1∨i=2∨i=3∨i=4:=by omega
  rcases this with rfl | rfl | rfl | rfl | rfl <;> simp [w1,w2,w3,w4,w5]
 case he1=>simp
 simp only [cD]
 rw [jG (notes p s k) (fun i (x:Int)=>[ci (i:Int),ci (-1),ci x,ci (-1),ci (-1),ci (-1)]) (qL 2) 2 (fun x=>[ci (-1),ci x,ci (-1),ci (-1),ci (-1)]) (-1) ?hv2 (fun i hi x=>?hs2) (fun x=>?he2)]
 case hv2=>rfl
 case he2=>simp
 case hs2 =>
  have hw:=aQ (show i<9223372036854775807 by omega)
  by_cases hk:(notes p s k)[i].kind=2 <;> simp [hi,aR,bK,Note.cv,hw,hk,qL] <;> grind
 rw [← HG]
 simp only [cD,aZ,dE,aEL,aBc,cY,XZ,aEK,ite_self,hfv]
 rw [jG ((0,-1)::ends p s k) (fun i (x:Int×Int)=>[ci (i:Int),ci (vQ (notes p s k)),ci (lS (notes p s k)),ci x.1,ci x.2]) (gO k) 4 (fun x=>[ci (vQ (notes p s k)),ci (lS (notes p s k)),ci x.1,ci x.2]) (0,-1) ?hv (fun i hi x=>?hs) (fun x=>?he)]
 case hv=>rfl
 case he=>simp [hel]
 case hs =>
  have hi:i<5:=hi
  have:i=0∨i=1∨i=2∨i=3∨i=4:=by omega
  have w1:wr 1=1:=by decide
  have w2:wr 2=2:=by decide
  have w3:wr 3=3:=by decide
  have w4:wr 4=4:=by decide
  have w5:wr 5=5:=by decide
  rcases this with rfl | rfl | rfl | rfl | rfl <;> simp [hel,gO,aBb,aBa,w1,w2,w3,w4,w5] <;> grind
 ·have:gO k (0,-1) (0,-1)=(0,-1):=by simp [gO]
  simp [lot,this]
end Go.Proofs.Ytnnifohchhjkhaa.Fi
namespace Go.Proofs.Ytnnifohchhjkhaa.Fi
open Go Go.Sx Go.Fine
variable {its:ITS} [hD:ItsD its]
set_option maxRecDepth 10000
attribute [local simp] Bool.and_assoc Bool.or_assoc
attribute [simp] aD8
theorem aDm (x:Lot) (h1:-1≤x.day) (h2:x.day≤100000):wr (x.day - 1)=x.day - 1:=by rw [bE] <;> omega
@[simp] theorem aGL (n:Nat) (s:Held) (x:Lot) (k:Int) (h1:-1≤x.day) (h2:x.day≤100000):D its (n+2) uB [ci s.src,ci s.beast,ci s.sort,ci s.eats,ci s.worth,ci s.drv,ci s.day,ci s.known,ci s.til,ci x.owner,ci x.stop,ci x.fin,ci x.day,ci k]=some [.fn bV [.ref [ci s.day],.ref [ci (jU x k)]]]:=by
  rw [SW]
  have e:=aDm x h1 h2
  simp only [DV,jU,vI,vJ,kU]
  by_cases hc:x.fin=2
  ·simp [hc]
  ·by_cases hd:x.fin=0 <;> simp [hc,hd,e]
theorem aDn (t:Tariff) (b:Bool):cis (Tariff.cvb t b) 0 24=t.cv:=rfl
theorem aBA (t:Tariff) (o:Nat) (h:o<24):oks [li] t.cv o=true:=NQ rfl h
def ZE (p:Acc) (s:Held) (x:Lot) (a:Int×Int×Int) (d:Int):Int×Int×Int:=(a.1,wr (a.2.1+fM p s d),if x.stop<0∨d<x.stop then wr (a.2.2+kV (bH p d) s.sort) else a.2.2)
theorem PE {p:Acc} (hp:p.ok=true) {s:Held} (hs:s.ok=true) (x:Lot):∀ (l:List Int) (a:Int×Int×Int),0≤a.2.1→0≤a.2.2→a.2.1+l.length*100000<9223372036854775808→a.2.2+l.length*100000<9223372036854775808 →
  l.foldl (ZE p s x) a=(a.1,a.2.1+sumOf (fM p s) l,a.2.2+sumOf (qK p s x) l)
 | [],a,_,_,_,_=>by simp [sumOf]
 | d::l,a,h1,h2,h3,h4=>by
  obtain ⟨b1,b2,_⟩:=fT hp hs d
  obtain ⟨c1,c2⟩:=(qM hp hs d).2
  have hl:(((d::l).length:Nat):Int)*100000=l.length*100000+100000:=by simp [Int.add_mul]
  rw [hl] at h3 h4
  have e1:wr (a.2.1+fM p s d)=a.2.1+fM p s d:=by rw [bE] <;> omega
  have e2:wr (a.2.2+kV (bH p d) s.sort)=a.2.2+kV (bH p d) s.sort:=by rw [bE] <;> omega
  have e3:ZE p s x a d=(a.1,a.2.1+fM p s d,a.2.2+qK p s x d):=by
   unfold ZE qK;rw [e1,e2];split <;> simp
  have f:=sS hp hs x d
  rw [List.foldl_cons,e3,PE hp hs x l _ (by simp only;omega) (by simp only;omega) (by simp only;omega) (by simp only;omega)]
  simp only [DF,Prod.mk.injEq,true_and]
  omega
@[simp] theorem aGM (n:Nat) (p:Acc) (s:Held) (x:Lot) (k:Int) (hp:p.ok=true) (hs:s.ok=true) (hk:eO k=true) (h1:-1≤x.day) (h2:x.day≤100000):D its (n+4) nA [.row 24 (p.ts.map Tariff.cv),.row 9 (p.ss.map Held.cv),.row 7 (p.ns.map Note.cv),ci s.src,ci s.beast,ci s.sort,ci s.eats,ci s.worth,ci s.drv,ci s.day,ci s.known,ci s.til,ci x.owner,ci x.stop,ci x.fin,ci x.day,ci k]=some [ci (iP p s x k).head,ci (iP p s x k).feed,ci (iP p s x k).fine]:=by
  rw [FN]
  have hb:=Held.ok_b hs
  simp only [eO,within,Bool.and_eq_true,decide_eq_true_eq] at hk
  have hf:=p.ok_fits hp
  have hs1:(0:Int)≤s.sort:=by omega
  have hs2:s.sort<10:=by omega
  have hs3:1+s.sort.toNat*1<24:=by omega
  have hs4:11+s.sort.toNat*1<24:=by omega
  have hlb:-2≤jU x k∧jU x k≤100000:=by unfold jU;split <;> (try split) <;> omega
  have hl:=UV s x k hb.2.2.2.2.2.1.1 hk.2 h2
  unfold sW
  simp only [aD7 _ _ _ _ _ hf,aD,aDn,hs1,hs2,decide_true,Bool.and_self,aE,aBA _ _ hs3,aBA _ _ hs4,Int.ofNat_eq_natCast,Int.cast_ofNat_Int,aGL _ _ _ _ h1 h2,aBc]
  rw [show List.getD [CV.fn bV [.ref [ci s.day],.ref [ci (jU x k)]]] 0 dC=CV.fn bV [.ref [ci s.day],.ref [ci (jU x k)]] from rfl,VK _ _ _ (by omega) (by omega)]
  obtain ⟨h0,hh0⟩:∃ h0,h0=if s.day≤k then xY (bH p s.day) s.sort else 0:=⟨_,rfl⟩
  have e0:(if decide (s.day≤k)=true then [ci (gi (bH p s.day).cv (1+s.sort.toNat*1)),ci 0,ci 0] else [ci 0,ci 0,ci 0])=[ci h0,ci 0,ci 0]:=by
   rw [hh0];simp [xY]
  rw [e0]
  rw [RY (fun (a:Int×Int×Int)=>[ci a.1,ci a.2.1,ci a.2.2]) (ZE p s x) (h0,0,0) ?hv (fun d a=>?hs)]
  case hv=>rfl
  case hs =>
   by_cases hc:x.stop<0
   ·simp [hp,hs,hc,ZE,kV]
   ·by_cases hd:d<x.stop <;> simp [hp,hs,hc,hd,ZE,kV]
  ·rw [show upto s.day (jU x k)=oO s x k from rfl,PE hp hs x _ _ (by simp) (by simp) (by simp only;omega) (by simp only;omega)]
   simp [iP,hh0]
end Go.Proofs.Ytnnifohchhjkhaa.Fi
namespace Go.Proofs.Ytnnifohchhjkhaa.Fi
open Go Go.Sx Go.Fine
variable {its:ITS} [hD:ItsD its]
set_option maxRecDepth 10000
attribute [local simp] Bool.and_assoc Bool.or_assoc
def ED (p:Acc) (y k:Int):Fine.Lot×Int:=if (dN p y k).2=0 then (lot p (dN p y k).1 k,0) else (⟨0,0,0,0⟩,(dN p y k).2)
def lF (p:Acc) (y k:Int):Charge×Int:=if (dN p y k).2=0 then (iP p (dN p y k).1 (lot p (dN p y k).1 k) k,0) else (⟨0,0,0⟩,(dN p y k).2)
@[simp] theorem aIz (n:Nat) (p:Acc) (y k:Int) (hp:p.fits):D its (n+11) uA [.row 24 (p.ts.map Tariff.cv),.row 9 (p.ss.map Held.cv),.row 7 (p.ns.map Note.cv),ci y,ci k]=some [ci (ED p y k).1.owner,ci (ED p y k).1.stop,ci (ED p y k).1.fin,ci (ED p y k).1.day,ci (ED p y k).2]:=by
  rw [SV]
  simp only [DU,PD _ _ _ _ hp,aD,Held.cve,aZ,dE,vJ,kU]
  by_cases he:(dN p y k).2=0
  ·obtain ⟨hok,hk,hm,hs,_⟩:=HZ he
   have hk':=hk
   simp only [eO,within,Bool.and_eq_true,decide_eq_true_eq] at hk'
   obtain ⟨h1,h2,_⟩:=UT p (dN p y k).1 k (by omega)
   simp [he,ED,hok,hs,hk,h1,(by omega:(lot p (dN p y k).1 k).day≤100000)]
  ·simp [he,ED]
@[simp] theorem aFh (n:Nat) (p:Acc) (y k:Int) (hp:p.fits):D its (n+11) cG [.row 24 (p.ts.map Tariff.cv),.row 9 (p.ss.map Held.cv),.row 7 (p.ns.map Note.cv),ci y,ci k]=some [ci (lF p y k).1.head,ci (lF p y k).1.feed,ci (lF p y k).1.fine,ci (lF p y k).2]:=by
  rw [DT]
  simp only [qW,PD _ _ _ _ hp,aD,Held.cve,aZ,dE,vJ,kU]
  by_cases he:(dN p y k).2=0
  ·obtain ⟨hok,hk,hm,hs,_⟩:=HZ he
   have hk':=hk
   simp only [eO,within,Bool.and_eq_true,decide_eq_true_eq] at hk'
   obtain ⟨h1,h2,_⟩:=UT p (dN p y k).1 k (by omega)
   simp [he,lF,hok,hs,hk,h1,(by omega:(lot p (dN p y k).1 k).day≤100000)]
  ·simp [he,lF]
end Go.Proofs.Ytnnifohchhjkhaa.Fi
