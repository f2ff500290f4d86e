/-
  Proved: each stay that counts, and has begun, is inside, or in just one way ended; no beast is forfeit whose owner was known within the year, none is held beyond MaxKept days; the buyer pays no more than the feed cost; conditions: none.
-/
import Derived.KernelRfl
import Derived.Test.YtabhbdehbpmpkaaProg
import Derived.Test.YtabhbdehbpmpkaaP08
namespace Go.Proofs.Ytabhbdehbpmpkaa
open Go Go.Sx
set_option maxRecDepth 100000
set_option maxHeartbeats 0
noncomputable section
def R_r06_Made (M : Den) (a0_0 a0_1 a0_2 : List (List CV)) : Option Ou :=
    blkO 0 (loopD (fun v0 =>
            seqO (iteB (decide ((gi v0 1) < (il a0_0)))
                (some (.nx [cb (decide ((gi v0 1) < 3))]))
                (some (.nx [cb false]))) fun v1 =>
            iteB (gb v1 0)
              (chk (inb (gi v0 1) a0_0) <|
              chk (oks (List.replicate 6 li) (el a0_0 (gi v0 1)) 0) <|
              callO (M n_r06_Mod [ci (gi (el a0_0 (gi v0 1)) 0), ci 12]) fun v2 =>
              callO (M n_r06_Mod [ci (gi (el a0_0 (gi v0 1)) 1), ci 31]) fun v3 =>
              callO (M n_r06_Mod [ci (gi (el a0_0 (gi v0 1)) 2), ci 30]) fun v4 =>
              blkO 2 (loopD (fun v5 =>
                  iteB (decide ((gi v5 0) ≤ 3))
                    (callO (M n_r06_Mod [ci (wr ((gi (el a0_0 (gi v0 1)) 3) + (gi v5 0))), ci 40]) fun v6 =>
                    chk ((decide (0 ≤ (gi v5 0))) && (decide ((gi v5 0) < (Int.ofNat 10)))) <|
                    chk (oks [li] (cis v5 1 24) (1 + ((Int.toNat (gi v5 0)) * 1))) <|
                    callO (M n_r06_Mod [ci (wr ((gi (el a0_0 (gi v0 1)) 4) * (gi v5 0))), ci 9]) fun v7 =>
                    chk ((decide (0 ≤ (gi v5 0))) && (decide ((gi v5 0) < (Int.ofNat 10)))) <|
                    chk (oks [li] [ci (if (decide (0 = (1 + ((Int.toNat (gi v5 0)) * 1)))) = true then gi v6 0 else gi v5 1), ci (if (decide (1 = (1 + ((Int.toNat (gi v5 0)) * 1)))) = true then gi v6 0 else gi v5 2), ci (if (decide (2 = (1 + ((Int.toNat (gi v5 0)) * 1)))) = true then gi v6 0 else gi v5 3), ci (if (decide (3 = (1 + ((Int.toNat (gi v5 0)) * 1)))) = true then gi v6 0 else gi v5 4), ci (if (decide (4 = (1 + ((Int.toNat (gi v5 0)) * 1)))) = true then gi v6 0 else gi v5 5), ci (if (decide (5 = (1 + ((Int.toNat (gi v5 0)) * 1)))) = true then gi v6 0 else gi v5 6), ci (if (decide (6 = (1 + ((Int.toNat (gi v5 0)) * 1)))) = true then gi v6 0 else gi v5 7), ci (if (decide (7 = (1 + ((Int.toNat (gi v5 0)) * 1)))) = true then gi v6 0 else gi v5 8), ci (if (decide (8 = (1 + ((Int.toNat (gi v5 0)) * 1)))) = true then gi v6 0 else gi v5 9), ci (if (decide (9 = (1 + ((Int.toNat (gi v5 0)) * 1)))) = true then gi v6 0 else gi v5 10), ci (if (decide (10 = (1 + ((Int.toNat (gi v5 0)) * 1)))) = true then gi v6 0 else gi v5 11), ci (if (decide (11 = (1 + ((Int.toNat (gi v5 0)) * 1)))) = true then gi v6 0 else gi v5 12), ci (if (decide (12 = (1 + ((Int.toNat (gi v5 0)) * 1)))) = true then gi v6 0 else gi v5 13), ci (if (decide (13 = (1 + ((Int.toNat (gi v5 0)) * 1)))) = true then gi v6 0 else gi v5 14), ci (if (decide (14 = (1 + ((Int.toNat (gi v5 0)) * 1)))) = true then gi v6 0 else gi v5 15), ci (if (decide (15 = (1 + ((Int.toNat (gi v5 0)) * 1)))) = true then gi v6 0 else gi v5 16), ci (if (decide (16 = (1 + ((Int.toNat (gi v5 0)) * 1)))) = true then gi v6 0 else gi v5 17), ci (if (decide (17 = (1 + ((Int.toNat (gi v5 0)) * 1)))) = true then gi v6 0 else gi v5 18), ci (if (decide (18 = (1 + ((Int.toNat (gi v5 0)) * 1)))) = true then gi v6 0 else gi v5 19), ci (if (decide (19 = (1 + ((Int.toNat (gi v5 0)) * 1)))) = true then gi v6 0 else gi v5 20), ci (if (decide (20 = (1 + ((Int.toNat (gi v5 0)) * 1)))) = true then gi v6 0 else gi v5 21), ci (if (decide (21 = (1 + ((Int.toNat (gi v5 0)) * 1)))) = true then gi v6 0 else gi v5 22), ci (if (decide (22 = (1 + ((Int.toNat (gi v5 0)) * 1)))) = true then gi v6 0 else gi v5 23), ci (if (decide (23 = (1 + ((Int.toNat (gi v5 0)) * 1)))) = true then gi v6 0 else gi v5 24)] (11 + ((Int.toNat (gi v5 0)) * 1))) <|
                    some (.nx [ci (wr ((gi v5 0) + 1)), ci (if (decide (0 = (11 + ((Int.toNat (gi v5 0)) * 1)))) = true then gi v7 0 else if (decide (0 = (1 + ((Int.toNat (gi v5 0)) * 1)))) = true then gi v6 0 else gi v5 1), ci (if (decide (1 = (11 + ((Int.toNat (gi v5 0)) * 1)))) = true then gi v7 0 else if (decide (1 = (1 + ((Int.toNat (gi v5 0)) * 1)))) = true then gi v6 0 else gi v5 2), ci (if (decide (2 = (11 + ((Int.toNat (gi v5 0)) * 1)))) = true then gi v7 0 else if (decide (2 = (1 + ((Int.toNat (gi v5 0)) * 1)))) = true then gi v6 0 else gi v5 3), ci (if (decide (3 = (11 + ((Int.toNat (gi v5 0)) * 1)))) = true then gi v7 0 else if (decide (3 = (1 + ((Int.toNat (gi v5 0)) * 1)))) = true then gi v6 0 else gi v5 4), ci (if (decide (4 = (11 + ((Int.toNat (gi v5 0)) * 1)))) = true then gi v7 0 else if (decide (4 = (1 + ((Int.toNat (gi v5 0)) * 1)))) = true then gi v6 0 else gi v5 5), ci (if (decide (5 = (11 + ((Int.toNat (gi v5 0)) * 1)))) = true then gi v7 0 else if (decide (5 = (1 + ((Int.toNat (gi v5 0)) * 1)))) = true then gi v6 0 else gi v5 6), ci (if (decide (6 = (11 + ((Int.toNat (gi v5 0)) * 1)))) = true then gi v7 0 else if (decide (6 = (1 + ((Int.toNat (gi v5 0)) * 1)))) = true then gi v6 0 else gi v5 7), ci (if (decide (7 = (11 + ((Int.toNat (gi v5 0)) * 1)))) = true then gi v7 0 else if (decide (7 = (1 + ((Int.toNat (gi v5 0)) * 1)))) = true then gi v6 0 else gi v5 8), ci (if (decide (8 = (11 + ((Int.toNat (gi v5 0)) * 1)))) = true then gi v7 0 else if (decide (8 = (1 + ((Int.toNat (gi v5 0)) * 1)))) = true then gi v6 0 else gi v5 9), ci (if (decide (9 = (11 + ((Int.toNat (gi v5 0)) * 1)))) = true then gi v7 0 else if (decide (9 = (1 + ((Int.toNat (gi v5 0)) * 1)))) = true then gi v6 0 else gi v5 10), ci (if (decide (10 = (11 + ((Int.toNat (gi v5 0)) * 1)))) = true then gi v7 0 else if (decide (10 = (1 + ((Int.toNat (gi v5 0)) * 1)))) = true then gi v6 0 else gi v5 11), ci (if (decide (11 = (11 + ((Int.toNat (gi v5 0)) * 1)))) = true then gi v7 0 else if (decide (11 = (1 + ((Int.toNat (gi v5 0)) * 1)))) = true then gi v6 0 else gi v5 12), ci (if (decide (12 = (11 + ((Int.toNat (gi v5 0)) * 1)))) = true then gi v7 0 else if (decide (12 = (1 + ((Int.toNat (gi v5 0)) * 1)))) = true then gi v6 0 else gi v5 13), ci (if (decide (13 = (11 + ((Int.toNat (gi v5 0)) * 1)))) = true then gi v7 0 else if (decide (13 = (1 + ((Int.toNat (gi v5 0)) * 1)))) = true then gi v6 0 else gi v5 14), ci (if (decide (14 = (11 + ((Int.toNat (gi v5 0)) * 1)))) = true then gi v7 0 else if (decide (14 = (1 + ((Int.toNat (gi v5 0)) * 1)))) = true then gi v6 0 else gi v5 15), ci (if (decide (15 = (11 + ((Int.toNat (gi v5 0)) * 1)))) = true then gi v7 0 else if (decide (15 = (1 + ((Int.toNat (gi v5 0)) * 1)))) = true then gi v6 0 else gi v5 16), ci (if (decide (16 = (11 + ((Int.toNat (gi v5 0)) * 1)))) = true then gi v7 0 else if (decide (16 = (1 + ((Int.toNat (gi v5 0)) * 1)))) = true then gi v6 0 else gi v5 17), ci (if (decide (17 = (11 + ((Int.toNat (gi v5 0)) * 1)))) = true then gi v7 0 else if (decide (17 = (1 + ((Int.toNat (gi v5 0)) * 1)))) = true then gi v6 0 else gi v5 18), ci (if (decide (18 = (11 + ((Int.toNat (gi v5 0)) * 1)))) = true then gi v7 0 else if (decide (18 = (1 + ((Int.toNat (gi v5 0)) * 1)))) = true then gi v6 0 else gi v5 19), ci (if (decide (19 = (11 + ((Int.toNat (gi v5 0)) * 1)))) = true then gi v7 0 else if (decide (19 = (1 + ((Int.toNat (gi v5 0)) * 1)))) = true then gi v6 0 else gi v5 20), ci (if (decide (20 = (11 + ((Int.toNat (gi v5 0)) * 1)))) = true then gi v7 0 else if (decide (20 = (1 + ((Int.toNat (gi v5 0)) * 1)))) = true then gi v6 0 else gi v5 21), ci (if (decide (21 = (11 + ((Int.toNat (gi v5 0)) * 1)))) = true then gi v7 0 else if (decide (21 = (1 + ((Int.toNat (gi v5 0)) * 1)))) = true then gi v6 0 else gi v5 22), ci (if (decide (22 = (11 + ((Int.toNat (gi v5 0)) * 1)))) = true then gi v7 0 else if (decide (22 = (1 + ((Int.toNat (gi v5 0)) * 1)))) = true then gi v6 0 else gi v5 23), ci (if (decide (23 = (11 + ((Int.toNat (gi v5 0)) * 1)))) = true then gi v7 0 else if (decide (23 = (1 + ((Int.toNat (gi v5 0)) * 1)))) = true then gi v6 0 else gi v5 24)]))
                    (some (.br 2 (cis v5 1 24)))) [ci 1, ci (gi v0 0), ci 0, ci 0, ci 0, ci 0, ci 0, ci 0, ci 0, ci 0, ci 0, ci 0, ci 0, ci 0, ci 0, ci 0, ci 0, ci 0, ci 0, ci 0, ci 0, ci 0, ci (gi v2 0), ci (gi v3 0), ci (gi v4 0)]) fun v5 =>
              chk (fitA (List.length (gr v0 4)) 1 192) <|
              callO (M n_r06_Mod [ci (gi (el a0_0 (gi v0 1)) 5), ci 60]) fun v6 =>
              some (.nx [ci (wr ((wr ((gi v0 0) + 1)) + (gi v6 0))), ci (wr ((gi v0 1) + 1)), CV.row 9 (gr v0 2), CV.row 7 (gr v0 3), CV.row 24 ((gr v0 4) ++ (chunk 24 1 (cis v5 0 24)))]))
              (some (.br 0 [CV.row 9 (gr v0 2), CV.row 7 (gr v0 3), CV.row 24 (gr v0 4)]))) ([ci 0, ci 0, CV.row 9 [], CV.row 7 [], CV.row 24 []])) fun v0 =>
        blkO 4 (loopD (fun v1 =>
            seqO (iteB (decide ((gi v1 0) < (il a0_1)))
                (some (.nx [cb (decide ((gi v1 0) < 4))]))
                (some (.nx [cb false]))) fun v2 =>
            iteB (gb v2 0)
              (chk (inb (gi v1 0) a0_1) <|
              chk (oks (List.replicate 7 li) (el a0_1 (gi v1 0)) 0) <|
              callO (M n_r06_Mod [ci (gi (el a0_1 (gi v1 0)) 0), ci 5]) fun v3 =>
              callO (M n_r06_Mod [ci (gi (el a0_1 (gi v1 0)) 0), ci 3]) fun v4 =>
              callO (M n_r06_Mod [ci (gi (el a0_1 (gi v1 0)) 1), ci 40]) fun v5 =>
              callO (M n_r06_Mod [ci (gi (el a0_1 (gi v1 0)) 2), ci 900]) fun v6 =>
              callO (M n_r06_Mod [ci (gi (el a0_1 (gi v1 0)) 3), ci 6]) fun v7 =>
              callO (M n_r06_Mod [ci (gi (el a0_1 (gi v1 0)) 4), ci 40]) fun v8 =>
              callO (M n_r06_Mod [ci (gi (el a0_1 (gi v1 0)) 5), ci 60]) fun v9 =>
              callO (M n_r06_Mod [ci (gi (el a0_1 (gi v1 0)) 6), ci 6]) fun v10 =>
              seqO (iteB ((gi v10 0) == 0)
                  (callO (M n_r06_Mod [ci (gi (el a0_1 (gi v1 0)) 6), ci 300]) fun v11 =>
                  some (.nx [ci (wr (10 + (gi v1 0))), ci (wr (1 + (gi v3 0))), ci (wr (1 + (gi v4 0))), ci (gi v5 0), ci (gi v6 0), ci (gi v7 0), ci (gi v8 0), ci (gi v9 0), ci (wr ((wr ((gi v9 0) + 1)) + (gi v11 0)))]))
                  (some (.nx [ci (wr (10 + (gi v1 0))), ci (wr (1 + (gi v3 0))), ci (wr (1 + (gi v4 0))), ci (gi v5 0), ci (gi v6 0), ci (gi v7 0), ci (gi v8 0), ci (gi v9 0), ci 0]))) fun v11 =>
              chk (fitA (List.length (gr v1 1)) 1 72) <|
              some (.nx [ci (wr ((gi v1 0) + 1)), CV.row 9 ((gr v1 1) ++ (chunk 9 1 (cis v11 0 9))), CV.row 7 (gr v1 2), CV.row 24 (gr v1 3)]))
              (some (.br 4 [CV.row 9 (gr v1 1), CV.row 7 (gr v1 2), CV.row 24 (gr v1 3)]))) [ci 0, CV.row 9 (gr v0 0), CV.row 7 (gr v0 1), CV.row 24 (gr v0 2)]) fun v1 =>
        blkO 6 (loopD (fun v2 =>
            seqO (iteB (decide ((gi v2 0) < (il a0_2)))
                (some (.nx [cb (decide ((gi v2 0) < 8))]))
                (some (.nx [cb false]))) fun v3 =>
            iteB (gb v3 0)
              (chk (inb (gi v2 0) a0_2) <|
              chk (oks (List.replicate 6 li) (el a0_2 (gi v2 0)) 0) <|
              callO (M n_r06_Mod [ci (gi (el a0_2 (gi v2 0)) 0), ci 4]) fun v4 =>
              callO (M n_r06_Mod [ci (gi (el a0_2 (gi v2 0)) 1), ci 3]) fun v5 =>
              callO (M n_r06_Mod [ci (gi (el a0_2 (gi v2 0)) 2), ci 450]) fun v6 =>
              callO (M n_r06_Mod [ci (gi (el a0_2 (gi v2 0)) 3), ci 500]) fun v7 =>
              seqO (iteB ((wr (1 + (gi v5 0))) != 2)
                  (callO (M n_r06_Mod [ci (gi (el a0_2 (gi v2 0)) 4), ci 5]) fun v8 =>
                  some (.nx [ci (wr (20 + (gi v2 0))), ci (wr (10 + (gi v4 0))), ci (wr (1 + (gi v5 0))), ci (wr (1 + (gi v8 0))), ci (gi v6 0), ci (gi v7 0), ci 0]))
                  (some (.nx [ci (wr (20 + (gi v2 0))), ci (wr (10 + (gi v4 0))), ci (wr (1 + (gi v5 0))), ci 0, ci (gi v6 0), ci (gi v7 0), ci 0]))) fun v8 =>
              callO (M n_r06_Mod [ci (gi (el a0_2 (gi v2 0)) 5), ci 5]) fun v9 =>
              seqO (iteB ((gi v9 0) == 0)
                  (callO (M n_r06_Mod [ci (gi (el a0_2 (gi v2 0)) 5), ci 200]) fun v10 =>
                  some (.nx (cat [cis v8 0 6, [ci (wr ((wr ((gi v8 5) + 1)) + (gi v10 0)))]])))
                  (some (.nx (cis v8 0 7)))) fun v10 =>
              chk (fitA (List.length (gr v2 2)) 1 56) <|
              some (.nx [ci (wr ((gi v2 0) + 1)), CV.row 9 (gr v2 1), CV.row 7 ((gr v2 2) ++ (chunk 7 1 (cis v10 0 7))), CV.row 24 (gr v2 3)]))
              (some (.br 6 [CV.row 9 (gr v2 1), CV.row 7 (gr v2 2), CV.row 24 (gr v2 3)]))) [ci 0, CV.row 9 (gr v1 0), CV.row 7 (gr v1 1), CV.row 24 (gr v1 2)]) fun v2 =>
        some (.ret [CV.row 24 (gr v2 2), CV.row 9 (gr v2 0), CV.row 7 (gr v2 1)])
theorem r_r06_Made (M : Den) (a0_0 a0_1 a0_2 : List (List CV)) : evF Try.prog sg M fe24 (bodyOf Try.f24) [(.row 6 a0_0), (.row 7 a0_1), (.row 6 a0_2)] = retO (R_r06_Made M a0_0 a0_1 a0_2) := by kernel_rfl
theorem q_r06_Made (n : Nat) (a0_0 a0_1 a0_2 : List (List CV)) : D (n + 1) n_r06_Made [(.row 6 a0_0), (.row 7 a0_1), (.row 6 a0_2)] = retO (R_r06_Made (D n) a0_0 a0_1 a0_2) := (show D (n + 1) n_r06_Made [(.row 6 a0_0), (.row 7 a0_1), (.row 6 a0_2)] = evF Try.prog sg (D n) fe24 (bodyOf Try.f24) [(.row 6 a0_0), (.row 7 a0_1), (.row 6 a0_2)] from rfl).trans (r_r06_Made (D n) a0_0 a0_1 a0_2)
def R_fine_whose (M : Den) (a0 : List (List CV)) : Option Ou :=
    blkO 0 (loopD (fun v0 =>
            iteB (decide ((gi v0 1) < (il a0)))
              (blkO 1 (chk (inb (gi v0 1) a0) <|
                chk (oks (List.replicate 7 li) (el a0 (gi v0 1)) 0) <|
                iteB ((gi (el a0 (gi v0 1)) 2) == 2)
                  (some (.br 1 (cat [[ci (gi v0 0)], cis v0 2 14])))
                  (seqO (iteB (decide ((gi v0 0) < 0))
                      (some (.nx [cb true]))
                      (some (.nx [cb (decide ((gi (el a0 (gi v0 1)) 4) < (gi v0 0)))]))) fun v1 =>
                  seqO (iteB (gb v1 0)
                      (some (.nx [ci (gi (el a0 (gi v0 1)) 4)]))
                      (some (.nx [ci (gi v0 0)]))) fun v2 =>
                  seqO (iteB ((gi (el a0 (gi v0 1)) 2) == 1)
                      (some (.nx [cb (decide ((gi (el a0 (gi v0 1)) 4) < (gi v0 6)))]))
                      (some (.nx [cb false]))) fun v3 =>
                  seqO (iteB (gb v3 0)
                      (some (.nx (cis (el a0 (gi v0 1)) 0 7)))
                      (some (.nx (cis v0 2 7)))) fun v4 =>
                  seqO (iteB ((gi (el a0 (gi v0 1)) 2) == 3)
                      (some (.nx [cb (decide ((gi (el a0 (gi v0 1)) 5) ≥ (gi v0 14)))]))
                      (some (.nx [cb false]))) fun v5 =>
                  seqO (iteB (gb v5 0)
                      (some (.nx (cis (el a0 (gi v0 1)) 0 7)))
                      (some (.nx (cis v0 9 7)))) fun v6 =>
                  some (.br 1 (cat [[ci (gi v2 0)], cis v4 0 7, cis v6 0 7])))) fun v1 =>
              some (.nx (cat [[ci (gi v1 0), ci (wr ((gi v0 1) + 1))], cis v1 1 14])))
              (some (.br 0 (cat [[ci (gi v0 0)], cis v0 2 14])))) [ci (-1), ci 0, ci 0, ci 0, ci 0, ci 0, ci 100001, ci 0, ci 0, ci 0, ci 0, ci 0, ci 0, ci 0, ci (-1), ci 0]) fun v0 =>
        iteB ((gi v0 11) != 0)
          (some (.ret [ci (gi v0 11), ci (gi v0 0)]))
          (some (.ret [ci (gi v0 4), ci (gi v0 0)]))
theorem r_fine_whose (M : Den) (a0 : List (List CV)) : evF Try.prog sg M fe113 (bodyOf Try.f113) [(.row 7 a0)] = retO (R_fine_whose M a0) := by kernel_rfl
theorem q_fine_whose (n : Nat) (a0 : List (List CV)) : D (n + 1) n_fine_whose [(.row 7 a0)] = retO (R_fine_whose (D n) a0) := (show D (n + 1) n_fine_whose [(.row 7 a0)] = evF Try.prog sg (D n) fe113 (bodyOf Try.f113) [(.row 7 a0)] from rfl).trans (r_fine_whose (D n) a0)
def R_fine_Noted (M : Den) (a0_0 a0_1 a0_2 : List (List CV)) (a1_0 a1_1 a1_2 a1_3 a1_4 a1_5 a1_6 : Int) : Option Ou :=
    callO (M n_fine_Check [CV.row 24 a0_0, CV.row 9 a0_1, CV.row 7 a0_2]) fun v0 =>
        iteB ((gi v0 0) != 0)
          (some (.ret ([CV.row 24 [], CV.row 9 [], CV.row 7 [], ci (gi v0 0)])))
          (callO (M n_slices_BinarySearchFunc_Note ([CV.row 7 a0_2, ci a1_0, ci a1_1, ci a1_2, ci a1_3, ci a1_4, ci a1_5, ci a1_6, CV.fn n_fine_Noted_c1 []])) fun v1 =>
          seqO (callO (M n_fine_CheckNote [ci a1_0, ci a1_1, ci a1_2, ci a1_3, ci a1_4, ci a1_5, ci a1_6]) fun v2 =>
            iteB ((gi v2 0) != 0)
              (some (.nx [cb true]))
              (some (.nx [cb (gb v1 1)]))) fun v2 =>
          iteB (gb v2 0)
            (some (.ret ([CV.row 24 [], CV.row 9 [], CV.row 7 [], ci 62])))
            (iteB ((il a0_2) == 60)
              (some (.ret ([CV.row 24 [], CV.row 9 [], CV.row 7 [], ci 2])))
              (callO (M n_slices_Clone_Tariff [CV.row 24 a0_0]) fun v3 =>
              callO (M n_slices_Clone_Held [CV.row 9 a0_1]) fun v4 =>
              callO (M n_slices_Clone_Note [CV.row 7 a0_2]) fun v5 =>
              chk (ownR 7 34 v5) <|
              callO (M n_slices_Insert_Note []) fun v6 =>
              chk (insR 7 34 56 v6) <|
              chk ((decide (0 ≤ (gi v1 0))) && ((decide ((gi v1 0) ≤ (il (gr v5 0)))) && (fitA (List.length (gr v5 0)) 1 56))) <|
              some (.ret ([CV.row 24 (gr v3 0), CV.row 9 (gr v4 0), CV.row 7 ((List.take (Int.toNat (gi v1 0)) (gr v5 0)) ++ ([ci a1_0, ci a1_1, ci a1_2, ci a1_3, ci a1_4, ci a1_5, ci a1_6] :: (List.drop (Int.toNat (gi v1 0)) (gr v5 0)))), ci 0])))))
theorem r_fine_Noted (M : Den) (a0_0 a0_1 a0_2 : List (List CV)) (a1_0 a1_1 a1_2 a1_3 a1_4 a1_5 a1_6 : Int) : evF Try.prog sg M fe13 (bodyOf Try.f13) [(.row 24 a0_0), (.row 9 a0_1), (.row 7 a0_2), (ci a1_0), (ci a1_1), (ci a1_2), (ci a1_3), (ci a1_4), (ci a1_5), (ci a1_6)] = retO (R_fine_Noted M a0_0 a0_1 a0_2 a1_0 a1_1 a1_2 a1_3 a1_4 a1_5 a1_6) := by kernel_rfl
theorem q_fine_Noted (n : Nat) (a0_0 a0_1 a0_2 : List (List CV)) (a1_0 a1_1 a1_2 a1_3 a1_4 a1_5 a1_6 : Int) : D (n + 1) n_fine_Noted [(.row 24 a0_0), (.row 9 a0_1), (.row 7 a0_2), (ci a1_0), (ci a1_1), (ci a1_2), (ci a1_3), (ci a1_4), (ci a1_5), (ci a1_6)] = retO (R_fine_Noted (D n) a0_0 a0_1 a0_2 a1_0 a1_1 a1_2 a1_3 a1_4 a1_5 a1_6) := (show D (n + 1) n_fine_Noted [(.row 24 a0_0), (.row 9 a0_1), (.row 7 a0_2), (ci a1_0), (ci a1_1), (ci a1_2), (ci a1_3), (ci a1_4), (ci a1_5), (ci a1_6)] = evF Try.prog sg (D n) fe13 (bodyOf Try.f13) [(.row 24 a0_0), (.row 9 a0_1), (.row 7 a0_2), (ci a1_0), (ci a1_1), (ci a1_2), (ci a1_3), (ci a1_4), (ci a1_5), (ci a1_6)] from rfl).trans (r_fine_Noted (D n) a0_0 a0_1 a0_2 a1_0 a1_1 a1_2 a1_3 a1_4 a1_5 a1_6)
def R_fine_areRising_Tariff (M : Den) (a0 : List (List CV)) (a1 : Int) (a2 a3 : CV) : Option Ou :=
    blkO 0 (loopD (fun v0 =>
            iteB (decide ((gi v0 0) < (il a0)))
              (chk (inb (gi v0 0) a0) <|
              chk (oks (List.replicate 24 li) (el a0 (gi v0 0)) 0) <|
              seqO (callO (callV sg M a2 (cis (el a0 (gi v0 0)) 0 24) [.agg (List.replicate 24 li)] [.one li]) fun v1 =>
                iteB ((gi v1 0) != 0)
                  (some (.nx [cb true]))
                  (iteB (decide ((gi v0 0) > 0))
                    (chk (inb (wr ((gi v0 0) - 1)) a0) <|
                    chk (oks (List.replicate 24 li) (el a0 (wr ((gi v0 0) - 1))) 0) <|
                    callO (callV sg M a3 (cis (el a0 (wr ((gi v0 0) - 1))) 0 24) [.agg (List.replicate 24 li)] [.one li]) fun v2 =>
                    callO (callV sg M a3 (cis (el a0 (gi v0 0)) 0 24) [.agg (List.replicate 24 li)] [.one li]) fun v3 =>
                    some (.nx [cb (decide ((gi v2 0) ≥ (gi v3 0)))]))
                    (some (.nx [cb false])))) fun v1 =>
              iteB (gb v1 0)
                (some (.ret [cb false]))
                (some (.nx [ci (wr ((gi v0 0) + 1))])))
              (some (.br 0 []))) [ci 0]) fun v0 =>
        some (.ret [cb (decide ((il a0) ≤ a1))])
theorem r_fine_areRising_Tariff (M : Den) (a0 : List (List CV)) (a1 : Int) (a2 a3 : CV) : evF Try.prog sg M fe65 (bodyOf Try.f65) [(.row 24 a0), (ci a1), a2, a3] = retO (R_fine_areRising_Tariff M a0 a1 a2 a3) := by kernel_rfl
theorem q_fine_areRising_Tariff (n : Nat) (a0 : List (List CV)) (a1 : Int) (a2 a3 : CV) : D (n + 1) n_fine_areRising_Tariff [(.row 24 a0), (ci a1), a2, a3] = retO (R_fine_areRising_Tariff (D n) a0 a1 a2 a3) := (show D (n + 1) n_fine_areRising_Tariff [(.row 24 a0), (ci a1), a2, a3] = evF Try.prog sg (D n) fe65 (bodyOf Try.f65) [(.row 24 a0), (ci a1), a2, a3] from rfl).trans (r_fine_areRising_Tariff (D n) a0 a1 a2 a3)
def R_fine_CheckTariff (M : Den) (a0_0 a0_1 a0_2 a0_3 a0_4 a0_5 a0_6 a0_7 a0_8 a0_9 a0_10 a0_11 a0_12 a0_13 a0_14 a0_15 a0_16 a0_17 a0_18 a0_19 a0_20 a0_21 a0_22 a0_23 : Int) : Option Ou :=
    seqO (callO (M n_fine_isDay [ci a0_0]) fun v0 =>
          iteB (!(gb v0 0))
            (some (.nx [cb true]))
            (callO (M n_fine_isRow [ci a0_1, ci a0_2, ci a0_3, ci a0_4, ci a0_5, ci a0_6, ci a0_7, ci a0_8, ci a0_9, ci a0_10]) fun v1 =>
            iteB (!(gb v1 0))
              (some (.nx [cb true]))
              (callO (M n_fine_isRow [ci a0_11, ci a0_12, ci a0_13, ci a0_14, ci a0_15, ci a0_16, ci a0_17, ci a0_18, ci a0_19, ci a0_20]) fun v2 =>
              iteB (!(gb v2 0))
                (some (.nx [cb true]))
                (callO (M n_fine_within [ci a0_21, ci 0, ci 10000]) fun v3 =>
                iteB (!(gb v3 0))
                  (some (.nx [cb true]))
                  (callO (M n_fine_within [ci a0_22, ci 0, ci 60]) fun v4 =>
                  iteB (!(gb v4 0))
                    (some (.nx [cb true]))
                    (callO (M n_fine_within [ci a0_23, ci 0, ci 60]) fun v5 =>
                    iteB (!(gb v5 0))
                      (some (.nx [cb true]))
                      (some (.nx [cb (decide ((wr (a0_22 + a0_23)) > 60))])))))))) fun v0 =>
        iteB (gb v0 0)
          (some (.ret [ci 60]))
          (some (.ret [ci 0]))
theorem r_fine_CheckTariff (M : Den) (a0_0 a0_1 a0_2 a0_3 a0_4 a0_5 a0_6 a0_7 a0_8 a0_9 a0_10 a0_11 a0_12 a0_13 a0_14 a0_15 a0_16 a0_17 a0_18 a0_19 a0_20 a0_21 a0_22 a0_23 : Int) : evF Try.prog sg M fe18 (bodyOf Try.f18) [(ci a0_0), (ci a0_1), (ci a0_2), (ci a0_3), (ci a0_4), (ci a0_5), (ci a0_6), (ci a0_7), (ci a0_8), (ci a0_9), (ci a0_10), (ci a0_11), (ci a0_12), (ci a0_13), (ci a0_14), (ci a0_15), (ci a0_16), (ci a0_17), (ci a0_18), (ci a0_19), (ci a0_20), (ci a0_21), (ci a0_22), (ci a0_23)] = retO (R_fine_CheckTariff M a0_0 a0_1 a0_2 a0_3 a0_4 a0_5 a0_6 a0_7 a0_8 a0_9 a0_10 a0_11 a0_12 a0_13 a0_14 a0_15 a0_16 a0_17 a0_18 a0_19 a0_20 a0_21 a0_22 a0_23) := by kernel_rfl
theorem q_fine_CheckTariff (n : Nat) (a0_0 a0_1 a0_2 a0_3 a0_4 a0_5 a0_6 a0_7 a0_8 a0_9 a0_10 a0_11 a0_12 a0_13 a0_14 a0_15 a0_16 a0_17 a0_18 a0_19 a0_20 a0_21 a0_22 a0_23 : Int) : D (n + 1) n_fine_CheckTariff [(ci a0_0), (ci a0_1), (ci a0_2), (ci a0_3), (ci a0_4), (ci a0_5), (ci a0_6), (ci a0_7), (ci a0_8), (ci a0_9), (ci a0_10), (ci a0_11), (ci a0_12), (ci a0_13), (ci a0_14), (ci a0_15), (ci a0_16), (ci a0_17), (ci a0_18), (ci a0_19), (ci a0_20), (ci a0_21), (ci a0_22), (ci a0_23)] = retO (R_fine_CheckTariff (D n) a0_0 a0_1 a0_2 a0_3 a0_4 a0_5 a0_6 a0_7 a0_8 a0_9 a0_10 a0_11 a0_12 a0_13 a0_14 a0_15 a0_16 a0_17 a0_18 a0_19 a0_20 a0_21 a0_22 a0_23) := (show D (n + 1) n_fine_CheckTariff [(ci a0_0), (ci a0_1), (ci a0_2), (ci a0_3), (ci a0_4), (ci a0_5), (ci a0_6), (ci a0_7), (ci a0_8), (ci a0_9), (ci a0_10), (ci a0_11), (ci a0_12), (ci a0_13), (ci a0_14), (ci a0_15), (ci a0_16), (ci a0_17), (ci a0_18), (ci a0_19), (ci a0_20), (ci a0_21), (ci a0_22), (ci a0_23)] = evF Try.prog sg (D n) fe18 (bodyOf Try.f18) [(ci a0_0), (ci a0_1), (ci a0_2), (ci a0_3), (ci a0_4), (ci a0_5), (ci a0_6), (ci a0_7), (ci a0_8), (ci a0_9), (ci a0_10), (ci a0_11), (ci a0_12), (ci a0_13), (ci a0_14), (ci a0_15), (ci a0_16), (ci a0_17), (ci a0_18), (ci a0_19), (ci a0_20), (ci a0_21), (ci a0_22), (ci a0_23)] from rfl).trans (r_fine_CheckTariff (D n) a0_0 a0_1 a0_2 a0_3 a0_4 a0_5 a0_6 a0_7 a0_8 a0_9 a0_10 a0_11 a0_12 a0_13 a0_14 a0_15 a0_16 a0_17 a0_18 a0_19 a0_20 a0_21 a0_22 a0_23)
def R_fine_stayOf (M : Den) (a0_0 a0_1 a0_2 : List (List CV)) (a1 a2 : Int) : Option Ou :=
    callO (M n_fine_check ([CV.row 24 a0_0, CV.row 9 a0_1, CV.row 7 a0_2, CV.row 1 (chunk 1 1 [ci a2])])) fun v0 =>
        iteB ((gi v0 0) != 0)
          (some (.ret [ci 0, ci 0, ci 0, ci 0, ci 0, ci 0, ci 0, ci 0, ci 0, ci (gi v0 0)]))
          (callO (M n_fine_stays [CV.row 24 a0_0, CV.row 9 a0_1, CV.row 7 a0_2, ci a2]) fun v1 =>
          blkO 0 (loopD (fun v2 =>
              iteB (decide ((gi v2 0) < (il (gr v1 0))))
                (chk (inb (gi v2 0) (gr v1 0)) <|
                chk (oks (List.replicate 9 li) (el (gr v1 0) (gi v2 0)) 0) <|
                iteB ((gi (el (gr v1 0) (gi v2 0)) 0) == a1)
                  (some (.ret (cat [cis (el (gr v1 0) (gi v2 0)) 0 9, [ci 0]])))
                  (some (.nx (cat [[ci (wr ((gi v2 0) + 1))], cis v2 1 9]))))
                (some (.br 0 (cis v2 1 9)))) [ci 0, ci 0, ci 0, ci 0, ci 0, ci 0, ci 0, ci 0, ci 0, ci 0]) fun v2 =>
          some (.ret [ci 0, ci 0, ci 0, ci 0, ci 0, ci 0, ci 0, ci 0, ci 0, ci 65]))
theorem r_fine_stayOf (M : Den) (a0_0 a0_1 a0_2 : List (List CV)) (a1 a2 : Int) : evF Try.prog sg M fe78 (bodyOf Try.f78) [(.row 24 a0_0), (.row 9 a0_1), (.row 7 a0_2), (ci a1), (ci a2)] = retO (R_fine_stayOf M a0_0 a0_1 a0_2 a1 a2) := by kernel_rfl
theorem q_fine_stayOf (n : Nat) (a0_0 a0_1 a0_2 : List (List CV)) (a1 a2 : Int) : D (n + 1) n_fine_stayOf [(.row 24 a0_0), (.row 9 a0_1), (.row 7 a0_2), (ci a1), (ci a2)] = retO (R_fine_stayOf (D n) a0_0 a0_1 a0_2 a1 a2) := (show D (n + 1) n_fine_stayOf [(.row 24 a0_0), (.row 9 a0_1), (.row 7 a0_2), (ci a1), (ci a2)] = evF Try.prog sg (D n) fe78 (bodyOf Try.f78) [(.row 24 a0_0), (.row 9 a0_1), (.row 7 a0_2), (ci a1), (ci a2)] from rfl).trans (r_fine_stayOf (D n) a0_0 a0_1 a0_2 a1 a2)
def R_fine_Ended (M : Den) (a0_0 a0_1 a0_2 : List (List CV)) (a1 a2 : Int) : Option Ou :=
    callO (M n_fine_Check [CV.row 24 a0_0, CV.row 9 a0_1, CV.row 7 a0_2]) fun v0 =>
        iteB ((gi v0 0) != 0)
          (some (.ret ([CV.row 1 [], ci (gi v0 0)])))
          (callO (M n_fine_within [ci a1, ci 0, ci 4]) fun v1 =>
          iteB (!(gb v1 0))
            (some (.ret ([CV.row 1 [], ci 1])))
            (callO (M n_fine_isDay [ci a2]) fun v2 =>
            iteB (!(gb v2 0))
              (some (.ret ([CV.row 1 [], ci 6])))
              (callO (M n_fine_ended ([CV.row 24 a0_0, CV.row 9 a0_1, CV.row 7 a0_2, ci a2, CV.fn n_fine_Ended_c1 ([CV.ref [ci a1]])])) fun v3 =>
              some (.ret [CV.row 1 (gr v3 0), ci 0]))))
theorem r_fine_Ended (M : Den) (a0_0 a0_1 a0_2 : List (List CV)) (a1 a2 : Int) : evF Try.prog sg M fe54 (bodyOf Try.f54) [(.row 24 a0_0), (.row 9 a0_1), (.row 7 a0_2), (ci a1), (ci a2)] = retO (R_fine_Ended M a0_0 a0_1 a0_2 a1 a2) := by kernel_rfl
theorem q_fine_Ended (n : Nat) (a0_0 a0_1 a0_2 : List (List CV)) (a1 a2 : Int) : D (n + 1) n_fine_Ended [(.row 24 a0_0), (.row 9 a0_1), (.row 7 a0_2), (ci a1), (ci a2)] = retO (R_fine_Ended (D n) a0_0 a0_1 a0_2 a1 a2) := (show D (n + 1) n_fine_Ended [(.row 24 a0_0), (.row 9 a0_1), (.row 7 a0_2), (ci a1), (ci a2)] = evF Try.prog sg (D n) fe54 (bodyOf Try.f54) [(.row 24 a0_0), (.row 9 a0_1), (.row 7 a0_2), (ci a1), (ci a2)] from rfl).trans (r_fine_Ended (D n) a0_0 a0_1 a0_2 a1 a2)
def R_fine_Check (M : Den) (a0_0 a0_1 a0_2 : List (List CV)) : Option Ou :=
    callO (M n_fine_areRising_Tariff ([CV.row 24 a0_0, ci 8, CV.fn n_fine_CheckTariff [], CV.fn n_fine_Check_c1 []])) fun v0 =>
        seqO (iteB (!(gb v0 0))
            (some (.nx [cb true]))
            (callO (M n_fine_areRising_Held ([CV.row 9 a0_1, ci 60, CV.fn n_fine_CheckHeld [], CV.fn n_fine_heldOf []])) fun v1 =>
            iteB (!(gb v1 0))
              (some (.nx [cb true]))
              (callO (M n_fine_areRising_Note ([CV.row 7 a0_2, ci 60, CV.fn n_fine_CheckNote [], CV.fn n_fine_noteOf []])) fun v2 =>
              some (.nx [cb (!(gb v2 0))])))) fun v1 =>
        iteB (gb v1 0)
          (some (.ret [ci 63]))
          (some (.ret [ci 0]))
theorem r_fine_Check (M : Den) (a0_0 a0_1 a0_2 : List (List CV)) : evF Try.prog sg M fe16 (bodyOf Try.f16) [(.row 24 a0_0), (.row 9 a0_1), (.row 7 a0_2)] = retO (R_fine_Check M a0_0 a0_1 a0_2) := by kernel_rfl
theorem q_fine_Check (n : Nat) (a0_0 a0_1 a0_2 : List (List CV)) : D (n + 1) n_fine_Check [(.row 24 a0_0), (.row 9 a0_1), (.row 7 a0_2)] = retO (R_fine_Check (D n) a0_0 a0_1 a0_2) := (show D (n + 1) n_fine_Check [(.row 24 a0_0), (.row 9 a0_1), (.row 7 a0_2)] = evF Try.prog sg (D n) fe16 (bodyOf Try.f16) [(.row 24 a0_0), (.row 9 a0_1), (.row 7 a0_2)] from rfl).trans (r_fine_Check (D n) a0_0 a0_1 a0_2)
def R_slices_IndexFunc_Held (M : Den) (a0 : List (List CV)) (a1 : CV) : Option Ou :=
    blkO 0 (loopD (fun v0 =>
            iteB (decide ((gi v0 0) < (il a0)))
              (chk (inb (gi v0 0) a0) <|
              chk (oks (List.replicate 9 li) (el a0 (gi v0 0)) 0) <|
              callO (callV sg M a1 (cis (el a0 (gi v0 0)) 0 9) [.agg (List.replicate 9 li)] [.one lb]) fun v1 =>
              iteB (gb v1 0)
                (some (.ret [ci (gi v0 0)]))
                (some (.nx [ci (wr ((gi v0 0) + 1))])))
              (some (.br 0 []))) [ci 0]) fun v0 =>
        some (.ret [ci (-1)])
theorem r_slices_IndexFunc_Held (M : Den) (a0 : List (List CV)) (a1 : CV) : evF Try.prog sg M fe126 (bodyOf Try.f126) [(.row 9 a0), a1] = retO (R_slices_IndexFunc_Held M a0 a1) := by kernel_rfl
theorem q_slices_IndexFunc_Held (n : Nat) (a0 : List (List CV)) (a1 : CV) : D (n + 1) n_slices_IndexFunc_Held [(.row 9 a0), a1] = retO (R_slices_IndexFunc_Held (D n) a0 a1) := (show D (n + 1) n_slices_IndexFunc_Held [(.row 9 a0), a1] = evF Try.prog sg (D n) fe126 (bodyOf Try.f126) [(.row 9 a0), a1] from rfl).trans (r_slices_IndexFunc_Held (D n) a0 a1)
def R_fine_sources (M : Den) (a0 : List (List CV)) : Option Ou :=
    blkO 0 (loopD (fun v0 =>
            iteB (decide ((gi v0 0) < (il a0)))
              (chk (inb (gi v0 0) a0) <|
              chk (oks (List.replicate 9 li) (el a0 (gi v0 0)) 0) <|
              chk (fitA (List.length (gr v0 1)) 1 8) <|
              some (.nx ([ci (wr ((gi v0 0) + 1)), CV.row 1 ((gr v0 1) ++ (chunk 1 1 [ci (gi (el a0 (gi v0 0)) 0)]))])))
              (some (.br 0 [CV.row 1 (gr v0 1)]))) ([ci 0, CV.row 1 []])) fun v0 =>
        some (.ret [CV.row 1 (gr v0 0)])
theorem r_fine_sources (M : Den) (a0 : List (List CV)) : evF Try.prog sg M fe90 (bodyOf Try.f90) [(.row 9 a0)] = retO (R_fine_sources M a0) := by kernel_rfl
theorem q_fine_sources (n : Nat) (a0 : List (List CV)) : D (n + 1) n_fine_sources [(.row 9 a0)] = retO (R_fine_sources (D n) a0) := (show D (n + 1) n_fine_sources [(.row 9 a0)] = evF Try.prog sg (D n) fe90 (bodyOf Try.f90) [(.row 9 a0)] from rfl).trans (r_fine_sources (D n) a0)
def R_cmp_Compare_int (M : Den) (a0 a1 : Int) : Option Ou :=
    callO (M n_cmp_isNaN_int [ci a0]) fun v0 =>
        callO (M n_cmp_isNaN_int [ci a1]) fun v1 =>
        iteB (gb v0 0)
          (iteB (gb v1 0)
            (some (.ret [ci 0]))
            (some (.ret [ci (-1)])))
          (iteB (gb v1 0)
            (some (.ret [ci 1]))
            (iteB (decide (a0 < a1))
              (some (.ret [ci (-1)]))
              (iteB (decide (a0 > a1))
                (some (.ret [ci 1]))
                (some (.ret [ci 0])))))
theorem r_cmp_Compare_int (M : Den) (a0 a1 : Int) : evF Try.prog sg M fe59 (bodyOf Try.f59) [(ci a0), (ci a1)] = retO (R_cmp_Compare_int M a0 a1) := by kernel_rfl
theorem q_cmp_Compare_int (n : Nat) (a0 a1 : Int) : D (n + 1) n_cmp_Compare_int [(ci a0), (ci a1)] = retO (R_cmp_Compare_int (D n) a0 a1) := (show D (n + 1) n_cmp_Compare_int [(ci a0), (ci a1)] = evF Try.prog sg (D n) fe59 (bodyOf Try.f59) [(ci a0), (ci a1)] from rfl).trans (r_cmp_Compare_int (D n) a0 a1)
def R_fine_areTimes (M : Den) (a0 a1 a2 : Int) : Option Ou :=
    callO (M n_fine_isDay [ci a0]) fun v0 =>
        iteB (gb v0 0)
          (callO (M n_fine_isDay [ci a1]) fun v1 =>
          iteB (gb v1 0)
            (iteB (a2 == 0)
              (some (.ret [cb true]))
              (iteB (decide (a1 < a2))
                (some (.ret [cb (decide (a2 ≤ 100000))]))
                (some (.ret [cb false]))))
            (some (.ret [cb false])))
          (some (.ret [cb false]))
theorem r_fine_areTimes (M : Den) (a0 a1 a2 : Int) : evF Try.prog sg M fe76 (bodyOf Try.f76) [(ci a0), (ci a1), (ci a2)] = retO (R_fine_areTimes M a0 a1 a2) := by kernel_rfl
theorem q_fine_areTimes (n : Nat) (a0 a1 a2 : Int) : D (n + 1) n_fine_areTimes [(ci a0), (ci a1), (ci a2)] = retO (R_fine_areTimes (D n) a0 a1 a2) := (show D (n + 1) n_fine_areTimes [(ci a0), (ci a1), (ci a2)] = evF Try.prog sg (D n) fe76 (bodyOf Try.f76) [(ci a0), (ci a1), (ci a2)] from rfl).trans (r_fine_areTimes (D n) a0 a1 a2)
def R_fine_fed (M : Den) (a0_0 a0_1 a0_2 a0_3 a0_4 a0_5 a0_6 a0_7 a0_8 a1_0 a1_1 a1_2 a1_3 a2 : Int) : Option Ou :=
    seqO (iteB (a1_2 == 2)
            (some (.nx [ci a1_3]))
            (seqO (iteB (a1_2 != 0)
                (some (.nx [ci (wr (a1_3 - 1))]))
                (some (.nx [ci a2]))) fun v0 =>
            some (.nx [ci (gi v0 0)]))) fun v0 =>
        callO (M n_fine_days [ci a0_6, ci (gi v0 0)]) fun v1 =>
        some (.ret [List.getD v1 0 dC])
theorem r_fine_fed (M : Den) (a0_0 a0_1 a0_2 a0_3 a0_4 a0_5 a0_6 a0_7 a0_8 a1_0 a1_1 a1_2 a1_3 a2 : Int) : evF Try.prog sg M fe84 (bodyOf Try.f84) [(ci a0_0), (ci a0_1), (ci a0_2), (ci a0_3), (ci a0_4), (ci a0_5), (ci a0_6), (ci a0_7), (ci a0_8), (ci a1_0), (ci a1_1), (ci a1_2), (ci a1_3), (ci a2)] = retO (R_fine_fed M a0_0 a0_1 a0_2 a0_3 a0_4 a0_5 a0_6 a0_7 a0_8 a1_0 a1_1 a1_2 a1_3 a2) := by kernel_rfl
theorem q_fine_fed (n : Nat) (a0_0 a0_1 a0_2 a0_3 a0_4 a0_5 a0_6 a0_7 a0_8 a1_0 a1_1 a1_2 a1_3 a2 : Int) : D (n + 1) n_fine_fed [(ci a0_0), (ci a0_1), (ci a0_2), (ci a0_3), (ci a0_4), (ci a0_5), (ci a0_6), (ci a0_7), (ci a0_8), (ci a1_0), (ci a1_1), (ci a1_2), (ci a1_3), (ci a2)] = retO (R_fine_fed (D n) a0_0 a0_1 a0_2 a0_3 a0_4 a0_5 a0_6 a0_7 a0_8 a1_0 a1_1 a1_2 a1_3 a2) := (show D (n + 1) n_fine_fed [(ci a0_0), (ci a0_1), (ci a0_2), (ci a0_3), (ci a0_4), (ci a0_5), (ci a0_6), (ci a0_7), (ci a0_8), (ci a1_0), (ci a1_1), (ci a1_2), (ci a1_3), (ci a2)] = evF Try.prog sg (D n) fe84 (bodyOf Try.f84) [(ci a0_0), (ci a0_1), (ci a0_2), (ci a0_3), (ci a0_4), (ci a0_5), (ci a0_6), (ci a0_7), (ci a0_8), (ci a1_0), (ci a1_1), (ci a1_2), (ci a1_3), (ci a2)] from rfl).trans (r_fine_fed (D n) a0_0 a0_1 a0_2 a0_3 a0_4 a0_5 a0_6 a0_7 a0_8 a1_0 a1_1 a1_2 a1_3 a2)
def R_fine_counts (M : Den) (a0 a1 a2 : Int) : Option Ou :=
    iteB (decide (a0 ≤ a2))
          (iteB (a1 == 0)
            (some (.ret [cb true]))
            (some (.ret [cb (decide (a1 > a2))])))
          (some (.ret [cb false]))
theorem r_fine_counts (M : Den) (a0 a1 a2 : Int) : evF Try.prog sg M fe128 (bodyOf Try.f128) [(ci a0), (ci a1), (ci a2)] = retO (R_fine_counts M a0 a1 a2) := by kernel_rfl
theorem q_fine_counts (n : Nat) (a0 a1 a2 : Int) : D (n + 1) n_fine_counts [(ci a0), (ci a1), (ci a2)] = retO (R_fine_counts (D n) a0 a1 a2) := (show D (n + 1) n_fine_counts [(ci a0), (ci a1), (ci a2)] = evF Try.prog sg (D n) fe128 (bodyOf Try.f128) [(ci a0), (ci a1), (ci a2)] from rfl).trans (r_fine_counts (D n) a0 a1 a2)
def R_slices_Clone_Tariff (M : Den) (a0 : List (List CV)) : Option Ou :=
    nilD a0
          (some (.ret ([CV.row 24 []])))
          (chk (fitA 0 (List.length a0) 192) <|
          some (.ret [CV.row 24 a0]))
theorem r_slices_Clone_Tariff (M : Den) (a0 : List (List CV)) : evF Try.prog sg M fe60 (bodyOf Try.f60) [(.row 24 a0)] = retO (R_slices_Clone_Tariff M a0) := by kernel_rfl
theorem q_slices_Clone_Tariff (n : Nat) (a0 : List (List CV)) : D (n + 1) n_slices_Clone_Tariff [(.row 24 a0)] = retO (R_slices_Clone_Tariff (D n) a0) := (show D (n + 1) n_slices_Clone_Tariff [(.row 24 a0)] = evF Try.prog sg (D n) fe60 (bodyOf Try.f60) [(.row 24 a0)] from rfl).trans (r_slices_Clone_Tariff (D n) a0)
def R_fine_stays_c1 (M : Den) (a0_0 a0_1 a0_2 a0_3 a0_4 a0_5 a0_6 a0_7 a0_8 : Int) (a1 : List CV) : Option Ou :=
    chk (oks [li] a1 0) <|
        callO (M n_fine_counts [ci a0_7, ci a0_8, ci (gi a1 0)]) fun v0 =>
        some (.ret [cb (!(gb v0 0))])
theorem r_fine_stays_c1 (M : Den) (a0_0 a0_1 a0_2 a0_3 a0_4 a0_5 a0_6 a0_7 a0_8 : Int) (a1 : List CV) : evF Try.prog sg M fe127 (bodyOf Try.f127) [(ci a0_0), (ci a0_1), (ci a0_2), (ci a0_3), (ci a0_4), (ci a0_5), (ci a0_6), (ci a0_7), (ci a0_8), (.ref a1)] = retO (R_fine_stays_c1 M a0_0 a0_1 a0_2 a0_3 a0_4 a0_5 a0_6 a0_7 a0_8 a1) := by kernel_rfl
theorem q_fine_stays_c1 (n : Nat) (a0_0 a0_1 a0_2 a0_3 a0_4 a0_5 a0_6 a0_7 a0_8 : Int) (a1 : List CV) : D (n + 1) n_fine_stays_c1 [(ci a0_0), (ci a0_1), (ci a0_2), (ci a0_3), (ci a0_4), (ci a0_5), (ci a0_6), (ci a0_7), (ci a0_8), (.ref a1)] = retO (R_fine_stays_c1 (D n) a0_0 a0_1 a0_2 a0_3 a0_4 a0_5 a0_6 a0_7 a0_8 a1) := (show D (n + 1) n_fine_stays_c1 [(ci a0_0), (ci a0_1), (ci a0_2), (ci a0_3), (ci a0_4), (ci a0_5), (ci a0_6), (ci a0_7), (ci a0_8), (.ref a1)] = evF Try.prog sg (D n) fe127 (bodyOf Try.f127) [(ci a0_0), (ci a0_1), (ci a0_2), (ci a0_3), (ci a0_4), (ci a0_5), (ci a0_6), (ci a0_7), (ci a0_8), (.ref a1)] from rfl).trans (r_fine_stays_c1 (D n) a0_0 a0_1 a0_2 a0_3 a0_4 a0_5 a0_6 a0_7 a0_8 a1)
def R_fine_Noted_c1 (M : Den) (a0_0 a0_1 a0_2 a0_3 a0_4 a0_5 a0_6 a1_0 a1_1 a1_2 a1_3 a1_4 a1_5 a1_6 : Int) : Option Ou :=
    callO (M n_cmp_Compare_int [ci a0_0, ci a1_0]) fun v0 =>
        some (.ret [ci (gi v0 0)])
theorem r_fine_Noted_c1 (M : Den) (a0_0 a0_1 a0_2 a0_3 a0_4 a0_5 a0_6 a1_0 a1_1 a1_2 a1_3 a1_4 a1_5 a1_6 : Int) : evF Try.prog sg M fe58 (bodyOf Try.f58) [(ci a0_0), (ci a0_1), (ci a0_2), (ci a0_3), (ci a0_4), (ci a0_5), (ci a0_6), (ci a1_0), (ci a1_1), (ci a1_2), (ci a1_3), (ci a1_4), (ci a1_5), (ci a1_6)] = retO (R_fine_Noted_c1 M a0_0 a0_1 a0_2 a0_3 a0_4 a0_5 a0_6 a1_0 a1_1 a1_2 a1_3 a1_4 a1_5 a1_6) := by kernel_rfl
theorem q_fine_Noted_c1 (n : Nat) (a0_0 a0_1 a0_2 a0_3 a0_4 a0_5 a0_6 a1_0 a1_1 a1_2 a1_3 a1_4 a1_5 a1_6 : Int) : D (n + 1) n_fine_Noted_c1 [(ci a0_0), (ci a0_1), (ci a0_2), (ci a0_3), (ci a0_4), (ci a0_5), (ci a0_6), (ci a1_0), (ci a1_1), (ci a1_2), (ci a1_3), (ci a1_4), (ci a1_5), (ci a1_6)] = retO (R_fine_Noted_c1 (D n) a0_0 a0_1 a0_2 a0_3 a0_4 a0_5 a0_6 a1_0 a1_1 a1_2 a1_3 a1_4 a1_5 a1_6) := (show D (n + 1) n_fine_Noted_c1 [(ci a0_0), (ci a0_1), (ci a0_2), (ci a0_3), (ci a0_4), (ci a0_5), (ci a0_6), (ci a1_0), (ci a1_1), (ci a1_2), (ci a1_3), (ci a1_4), (ci a1_5), (ci a1_6)] = evF Try.prog sg (D n) fe58 (bodyOf Try.f58) [(ci a0_0), (ci a0_1), (ci a0_2), (ci a0_3), (ci a0_4), (ci a0_5), (ci a0_6), (ci a1_0), (ci a1_1), (ci a1_2), (ci a1_3), (ci a1_4), (ci a1_5), (ci a1_6)] from rfl).trans (r_fine_Noted_c1 (D n) a0_0 a0_1 a0_2 a0_3 a0_4 a0_5 a0_6 a1_0 a1_1 a1_2 a1_3 a1_4 a1_5 a1_6)
def R_fine_noteOf (M : Den) (a0_0 a0_1 a0_2 a0_3 a0_4 a0_5 a0_6 : Int) : Option Ou :=
    some (.ret [ci a0_0])
theorem r_fine_noteOf (M : Den) (a0_0 a0_1 a0_2 a0_3 a0_4 a0_5 a0_6 : Int) : evF Try.prog sg M fe70 (bodyOf Try.f70) [(ci a0_0), (ci a0_1), (ci a0_2), (ci a0_3), (ci a0_4), (ci a0_5), (ci a0_6)] = retO (R_fine_noteOf M a0_0 a0_1 a0_2 a0_3 a0_4 a0_5 a0_6) := by kernel_rfl
theorem q_fine_noteOf (n : Nat) (a0_0 a0_1 a0_2 a0_3 a0_4 a0_5 a0_6 : Int) : D (n + 1) n_fine_noteOf [(ci a0_0), (ci a0_1), (ci a0_2), (ci a0_3), (ci a0_4), (ci a0_5), (ci a0_6)] = retO (R_fine_noteOf (D n) a0_0 a0_1 a0_2 a0_3 a0_4 a0_5 a0_6) := (show D (n + 1) n_fine_noteOf [(ci a0_0), (ci a0_1), (ci a0_2), (ci a0_3), (ci a0_4), (ci a0_5), (ci a0_6)] = evF Try.prog sg (D n) fe70 (bodyOf Try.f70) [(ci a0_0), (ci a0_1), (ci a0_2), (ci a0_3), (ci a0_4), (ci a0_5), (ci a0_6)] from rfl).trans (r_fine_noteOf (D n) a0_0 a0_1 a0_2 a0_3 a0_4 a0_5 a0_6)
end
end Go.Proofs.Ytabhbdehbpmpkaa
namespace Go.Proofs.Ytabhbdehbpmpkaa
open Go Go.Sx
set_option maxRecDepth 100000
set_option maxHeartbeats 0
noncomputable section
def R_law06_FineEnds (M : Den) (a0_0 a0_1 a0_2 : List (List CV)) (a1 : Int) : Option Ou :=
    callO (M n_law06_sane []) fun v0 =>
        callO (M n_r06_Made [CV.row 6 a0_0, CV.row 7 a0_1, CV.row 6 a0_2]) fun v1 =>
        callO (M n_r06_Mod [ci a1, ci 900]) fun v2 =>
        callO (M n_fine_Inside [CV.row 24 (gr v1 0), CV.row 9 (gr v1 1), CV.row 7 (gr v1 2), ci (gi v2 0)]) fun v3 =>
        callO (M n_fine_Stays [CV.row 24 (gr v1 0), CV.row 9 (gr v1 1), CV.row 7 (gr v1 2), ci (gi v2 0)]) fun v4 =>
        seqO (iteB (!(gb v0 0))
            (some (.nx [cb true]))
            (iteB ((gi v3 1) != 0)
              (some (.nx [cb true]))
              (some (.nx [cb ((gi v4 1) != 0)])))) fun v5 =>
        iteB (gb v5 0)
          (some (.ret [cb false]))
          (blkO 0 (loopD (fun v6 =>
              iteB (decide ((gi v6 0) < (il (gr v1 1))))
                (blkO 1 (chk (inb (gi v6 0) (gr v1 1)) <|
                  chk (oks (List.replicate 9 li) (el (gr v1 1) (gi v6 0)) 0) <|
                  callO (M n_r06_Has [CV.row 1 (gr v4 0), ci (gi (el (gr v1 1) (gi v6 0)) 0)]) fun v7 =>
                  iteB (!(gb v7 0))
                    (callO (M n_r06_Has [CV.row 1 (gr v3 0), ci (gi (el (gr v1 1) (gi v6 0)) 0)]) fun v8 =>
                    iteB (gb v8 0)
                      (some (.ret [cb false]))
                      (some (.br 1 [])))
                    (blkO 2 (loopD (fun v8 =>
                        iteB (decide ((gi v8 1) ≤ 4))
                          (callO (M n_fine_Ended [CV.row 24 (gr v1 0), CV.row 9 (gr v1 1), CV.row 7 (gr v1 2), ci (gi v8 1), ci (gi v2 0)]) fun v9 =>
                          iteB ((gi v9 1) != 0)
                            (some (.ret [cb false]))
                            (callO (M n_r06_Has [CV.row 1 (gr v9 0), ci (gi (el (gr v1 1) (gi v6 0)) 0)]) fun v10 =>
                            seqO (iteB (gb v10 0)
                                (some (.nx [ci (wr ((gi v8 0) + 1))]))
                                (some (.nx [ci (gi v8 0)]))) fun v11 =>
                            some (.nx [ci (gi v11 0), ci (wr ((gi v8 1) + 1))])))
                          (some (.br 2 [ci (gi v8 0)]))) [ci 0, ci 1]) fun v8 =>
                    callO (M n_r06_Has [CV.row 1 (gr v3 0), ci (gi (el (gr v1 1) (gi v6 0)) 0)]) fun v9 =>
                    seqO (iteB (gb v9 0)
                        (some (.nx [ci (wr ((gi v8 0) + 1))]))
                        (some (.nx [ci (gi v8 0)]))) fun v10 =>
                    callO (M n_fine_Lot [CV.row 24 (gr v1 0), CV.row 9 (gr v1 1), CV.row 7 (gr v1 2), ci (gi (el (gr v1 1) (gi v6 0)) 0), ci (gi v2 0)]) fun v11 =>
                    callO (M n_fine_Charged [CV.row 24 (gr v1 0), CV.row 9 (gr v1 1), CV.row 7 (gr v1 2), ci (gi (el (gr v1 1) (gi v6 0)) 0), ci (gi v2 0)]) fun v12 =>
                    callO (M n_fine_Fed [CV.row 24 (gr v1 0), CV.row 9 (gr v1 1), CV.row 7 (gr v1 2), ci (gi (el (gr v1 1) (gi v6 0)) 0), ci (gi v2 0)]) fun v13 =>
                    seqO (iteB ((gi v11 4) != 0)
                        (some (.nx [cb true]))
                        (iteB ((gi v12 3) != 0)
                          (some (.nx [cb true]))
                          (iteB ((gi v13 1) != 0)
                            (some (.nx [cb true]))
                            (iteB (decide ((gi v10 0) > 1))
                              (some (.nx [cb true]))
                              (iteB (decide ((gi (el (gr v1 1) (gi v6 0)) 6) ≤ (gi v2 0)))
                                (iteB ((gi v10 0) != 1)
                                  (some (.nx [cb true]))
                                  (some (.nx [cb (decide ((gi v13 0) > 721))])))
                                (some (.nx [cb (decide ((gi v13 0) > 721))]))))))) fun v14 =>
                    iteB (gb v14 0)
                      (some (.ret [cb false]))
                      (seqO (iteB ((gi v11 2) == 3)
                          (iteB (decide ((gi v11 1) ≥ 0))
                            (iteB (decide ((gi v11 1) ≤ (wr ((gi (el (gr v1 1) (gi v6 0)) 6) + 360))))
                              (some (.nx [cb true]))
                              (iteB ((gi v11 2) == 2)
                                (iteB (decide ((gi (el (gr v1 1) (gi v6 0)) 4) > (gi v12 1)))
                                  (some (.nx [cb true]))
                                  (iteB ((gi v11 2) == 0)
                                    (some (.nx [cb (decide ((wr ((gi (el (gr v1 1) (gi v6 0)) 6) + 720)) ≤ (gi v2 0)))]))
                                    (some (.nx [cb false]))))
                                (iteB ((gi v11 2) == 0)
                                  (some (.nx [cb (decide ((wr ((gi (el (gr v1 1) (gi v6 0)) 6) + 720)) ≤ (gi v2 0)))]))
                                  (some (.nx [cb false])))))
                            (iteB ((gi v11 2) == 2)
                              (iteB (decide ((gi (el (gr v1 1) (gi v6 0)) 4) > (gi v12 1)))
                                (some (.nx [cb true]))
                                (iteB ((gi v11 2) == 0)
                                  (some (.nx [cb (decide ((wr ((gi (el (gr v1 1) (gi v6 0)) 6) + 720)) ≤ (gi v2 0)))]))
                                  (some (.nx [cb false]))))
                              (iteB ((gi v11 2) == 0)
                                (some (.nx [cb (decide ((wr ((gi (el (gr v1 1) (gi v6 0)) 6) + 720)) ≤ (gi v2 0)))]))
                                (some (.nx [cb false])))))
                          (iteB ((gi v11 2) == 2)
                            (iteB (decide ((gi (el (gr v1 1) (gi v6 0)) 4) > (gi v12 1)))
                              (some (.nx [cb true]))
                              (iteB ((gi v11 2) == 0)
                                (some (.nx [cb (decide ((wr ((gi (el (gr v1 1) (gi v6 0)) 6) + 720)) ≤ (gi v2 0)))]))
                                (some (.nx [cb false]))))
                            (iteB ((gi v11 2) == 0)
                              (some (.nx [cb (decide ((wr ((gi (el (gr v1 1) (gi v6 0)) 6) + 720)) ≤ (gi v2 0)))]))
                              (some (.nx [cb false]))))) fun v15 =>
                      iteB (gb v15 0)
                        (some (.ret [cb false]))
                        (some (.br 1 []))))) fun v7 =>
                some (.nx [ci (wr ((gi v6 0) + 1))]))
                (some (.br 0 []))) [ci 0]) fun v6 =>
          some (.ret [cb true]))
theorem r_law06_FineEnds (M : Den) (a0_0 a0_1 a0_2 : List (List CV)) (a1 : Int) : evF Try.prog sg M fe11 (bodyOf Try.f11) [(.row 6 a0_0), (.row 7 a0_1), (.row 6 a0_2), (ci a1)] = retO (R_law06_FineEnds M a0_0 a0_1 a0_2 a1) := by kernel_rfl
theorem q_law06_FineEnds (n : Nat) (a0_0 a0_1 a0_2 : List (List CV)) (a1 : Int) : D (n + 1) n_law06_FineEnds [(.row 6 a0_0), (.row 7 a0_1), (.row 6 a0_2), (ci a1)] = retO (R_law06_FineEnds (D n) a0_0 a0_1 a0_2 a1) := (show D (n + 1) n_law06_FineEnds [(.row 6 a0_0), (.row 7 a0_1), (.row 6 a0_2), (ci a1)] = evF Try.prog sg (D n) fe11 (bodyOf Try.f11) [(.row 6 a0_0), (.row 7 a0_1), (.row 6 a0_2), (ci a1)] from rfl).trans (r_law06_FineEnds (D n) a0_0 a0_1 a0_2 a1)
def R_law06_sane (M : Den)  : Option Ou :=
    callO (M n_law06_example []) fun v0 =>
        callO (M n_fine_Lot [CV.row 24 (gr v0 0), CV.row 9 (gr v0 1), CV.row 7 (gr v0 2), ci 1, ci 14]) fun v1 =>
        callO (M n_fine_Charged [CV.row 24 (gr v0 0), CV.row 9 (gr v0 1), CV.row 7 (gr v0 2), ci 1, ci 13]) fun v2 =>
        callO (M n_fine_Lot [CV.row 24 (gr v0 0), CV.row 9 (gr v0 1), CV.row 7 (gr v0 2), ci 1, ci 20]) fun v3 =>
        callO (M n_fine_Dues [CV.row 24 (gr v0 0), CV.row 9 (gr v0 1), CV.row 7 (gr v0 2), ci 1, ci 20]) fun v4 =>
        callO (M n_fine_Posts ([CV.row 24 (gr v0 0), CV.row 9 (gr v0 1), CV.row 7 (gr v0 2), CV.row 1 (chunk 1 3 [ci 13, ci 14, ci 20])])) fun v5 =>
        callO (M n_fine_Noted [CV.row 24 (gr v0 0), CV.row 9 (gr v0 1), CV.row 7 (gr v0 2), ci 4, ci 1, ci 3, ci 6, ci 18, ci 18, ci 0]) fun v6 =>
        callO (M n_fine_Posts ([CV.row 24 (gr v6 0), CV.row 9 (gr v6 1), CV.row 7 (gr v6 2), CV.row 1 (chunk 1 2 [ci 15, ci 18])])) fun v7 =>
        callO (M n_fine_Owed [CV.row 24 (gr v0 0), CV.row 9 (gr v0 1), CV.row 7 (gr v0 2), ci 3, ci 20]) fun v8 =>
        callO (M n_fine_Lot [CV.row 24 (gr v0 0), CV.row 9 (gr v0 1), CV.val (Value.slice none 0 0), ci 1, ci 100]) fun v9 =>
        seqO (iteB ((gi v1 4) == 0)
            (iteB ((gi v2 3) == 0)
              (iteB ((gi v3 4) == 0)
                (iteB ((gi v4 4) == 0)
                  (iteB ((gi v5 1) == 0)
                    (iteB ((gi v6 3) == 0)
                      (iteB ((gi v7 1) == 0)
                        (iteB ((gi v8 1) == 0)
                          (some (.nx [cb ((gi v9 4) == 0)]))
                          (some (.nx [cb false])))
                        (some (.nx [cb false])))
                      (some (.nx [cb false])))
                    (some (.nx [cb false])))
                  (some (.nx [cb false])))
                (some (.nx [cb false])))
              (some (.nx [cb false])))
            (some (.nx [cb false]))) fun v10 =>
        seqO (iteB (((gi v1 0) == 3) && (((gi v1 1) == 13) && (((gi v1 2) == 0) && (((gi v1 3) == (-1)) && true))))
            (iteB (((gi v3 0) == 3) && (((gi v3 1) == 13) && (((gi v3 2) == 1) && (((gi v3 3) == 15) && true))))
              (some (.nx [cb (((gi v9 0) == 0) && (((gi v9 1) == (-1)) && (((gi v9 2) == 2) && (((gi v9 3) == 59) && true))))]))
              (some (.nx [cb false])))
            (some (.nx [cb false]))) fun v11 =>
        seqO (iteB (((gi v2 0) == 12) && (((gi v2 1) == 40) && (((gi v2 2) == 16) && true)))
            (iteB (((gi v4 0) == 5) && (((gi v4 1) == 24) && (((gi v4 2) == 12) && (((gi v4 3) == 38) && true))))
              (some (.nx [cb ((gi v8 0) == 74)]))
              (some (.nx [cb false])))
            (some (.nx [cb false]))) fun v12 =>
        callO (M n_r06_Same ([CV.row 5 (gr v5 0), CV.row 5 (chunk 5 3 [ci 14, ci 1, ci 5, ci 0, ci 38, ci 14, ci 1, ci 5, ci 1, ci 24, ci 14, ci 1, ci 5, ci 11, ci 12])])) fun v13 =>
        iteB (gb v10 0)
          (iteB (gb v11 0)
            (iteB (gb v12 0)
              (iteB (gb v13 0)
                (iteB ((il (gr v7 0)) == 9)
                  (chk (inb 3 (gr v7 0)) <|
                  chk (oks (List.replicate 5 li) (List.getD (gr v7 0) 3 []) 0) <|
                  some (.ret ([cb (((gi (List.getD (gr v7 0) 3 []) 0) == 18) && (((gi (List.getD (gr v7 0) 3 []) 1) == 1) && (((gi (List.getD (gr v7 0) 3 []) 2) == 5) && (((gi (List.getD (gr v7 0) 3 []) 3) == 0) && (((gi (List.getD (gr v7 0) 3 []) 4) == (-38)) && true)))))])))
                  (some (.ret [cb false])))
                (some (.ret [cb false])))
              (some (.ret [cb false])))
            (some (.ret [cb false])))
          (some (.ret [cb false]))
theorem r_law06_sane (M : Den)  : evF Try.prog sg M fe12 (bodyOf Try.f12) [] = retO (R_law06_sane M ) := by kernel_rfl
theorem q_law06_sane (n : Nat)  : D (n + 1) n_law06_sane [] = retO (R_law06_sane (D n) ) := (show D (n + 1) n_law06_sane [] = evF Try.prog sg (D n) fe12 (bodyOf Try.f12) [] from rfl).trans (r_law06_sane (D n) )
def R_fine_stays (M : Den) (a0_0 a0_1 a0_2 : List (List CV)) (a1 : Int) : Option Ou :=
    inlO (nilD a0_1
            (some (.ret ([CV.row 9 []])))
            (chk (fitA 0 (List.length a0_1) 72) <|
            some (.ret [CV.row 9 a0_1]))) fun v0 =>
        inlO (callO (M n_slices_IndexFunc_Held ([CV.row 9 (gr v0 0), CV.fn n_fine_stays_c1 ([CV.ref [ci a1]])])) fun v1 =>
          iteB ((gi v1 0) == (-1))
            (some (.ret [CV.row 9 (gr v0 0)]))
            (blkO 0 (loopD (fun v2 =>
                iteB (decide ((gi v2 1) < (il (gr v2 2))))
                  (chk (inb (gi v2 1) (gr v2 2)) <|
                  chk (decide ((Int.toNat (gi v2 1)) < (List.length (gr v2 2)))) <|
                  chk (oks (List.replicate 9 li) (el (gr v2 2) (gi v2 1)) 0) <|
                  callO (M n_fine_stays_c1 (cat [cis (el (gr v2 2) (gi v2 1)) 0 9, [CV.ref [ci a1]]])) fun v3 =>
                  seqO (iteB (!(gb v3 0))
                      (chk (inb (gi v2 0) (gr v2 2)) <|
                      chk ((decide ((Int.toNat (gi v2 0)) < (List.length (gr v2 2)))) && (decide (9 ≤ 9))) <|
                      some (.nx [ci (wr ((gi v2 0) + 1)), CV.row 9 (List.set (gr v2 2) (Int.toNat (gi v2 0)) (spl (el (gr v2 2) (gi v2 0)) 0 (cis (el (gr v2 2) (gi v2 1)) 0 9)))]))
                      (some (.nx [ci (gi v2 0), CV.row 9 (gr v2 2)]))) fun v4 =>
                  some (.nx [ci (gi v4 0), ci (wr ((gi v2 1) + 1)), CV.row 9 (gr v4 1)]))
                  (some (.br 0 [ci (gi v2 0), CV.row 9 (gr v2 2)]))) [ci (gi v1 0), ci (wr ((gi v1 0) + 1)), CV.row 9 (gr v0 0)]) fun v2 =>
            chk ((decide (0 ≤ (gi v2 0))) && (decide ((gi v2 0) ≤ (il (gr v2 1))))) <|
            chk ((decide (0 ≤ (gi v2 0))) && (decide ((gi v2 0) ≤ (il ((List.take (Int.toNat (gi v2 0)) (gr v2 1)) ++ (List.replicate ((List.length (gr v2 1)) - (Int.toNat (gi v2 0))) [ci 0, ci 0, ci 0, ci 0, ci 0, ci 0, ci 0, ci 0, ci 0])))))) <|
            some (.ret ([CV.row 9 (List.take (Int.toNat (gi v2 0)) ((List.take (Int.toNat (gi v2 0)) (gr v2 1)) ++ (List.replicate ((List.length (gr v2 1)) - (Int.toNat (gi v2 0))) [ci 0, ci 0, ci 0, ci 0, ci 0, ci 0, ci 0, ci 0, ci 0])))])))) fun v1 =>
        some (.ret [CV.row 9 (gr v1 0)])
theorem r_fine_stays (M : Den) (a0_0 a0_1 a0_2 : List (List CV)) (a1 : Int) : evF Try.prog sg M fe92 (bodyOf Try.f92) [(.row 24 a0_0), (.row 9 a0_1), (.row 7 a0_2), (ci a1)] = retO (R_fine_stays M a0_0 a0_1 a0_2 a1) := by kernel_rfl
theorem q_fine_stays (n : Nat) (a0_0 a0_1 a0_2 : List (List CV)) (a1 : Int) : D (n + 1) n_fine_stays [(.row 24 a0_0), (.row 9 a0_1), (.row 7 a0_2), (ci a1)] = retO (R_fine_stays (D n) a0_0 a0_1 a0_2 a1) := (show D (n + 1) n_fine_stays [(.row 24 a0_0), (.row 9 a0_1), (.row 7 a0_2), (ci a1)] = evF Try.prog sg (D n) fe92 (bodyOf Try.f92) [(.row 24 a0_0), (.row 9 a0_1), (.row 7 a0_2), (ci a1)] from rfl).trans (r_fine_stays (D n) a0_0 a0_1 a0_2 a1)
def R_fine_charge (M : Den) (a0_0 a0_1 a0_2 : List (List CV)) (a1_0 a1_1 a1_2 a1_3 a1_4 a1_5 a1_6 a1_7 a1_8 a2_0 a2_1 a2_2 a2_3 a3 : Int) : Option Ou :=
    seqO (iteB (decide (a1_6 ≤ a3))
            (callO (M n_fine_inForce [CV.row 24 a0_0, CV.row 9 a0_1, CV.row 7 a0_2, ci a1_6]) fun v0 =>
            chk ((decide (0 ≤ a1_2)) && (decide (a1_2 < (Int.ofNat 10)))) <|
            chk (oks [li] (cis v0 0 24) (1 + ((Int.toNat a1_2) * 1))) <|
            some (.nx [ci (gi (cis v0 0 24) (1 + ((Int.toNat a1_2) * 1))), ci 0, ci 0]))
            (some (.nx [ci 0, ci 0, ci 0]))) fun v0 =>
        callO (M n_fine_fed [ci a1_0, ci a1_1, ci a1_2, ci a1_3, ci a1_4, ci a1_5, ci a1_6, ci a1_7, ci a1_8, ci a2_0, ci a2_1, ci a2_2, ci a2_3, ci a3]) fun v1 =>
        seqO (rangeO (itV sg M (List.getD v1 0 dC)) (fun x2 v2 =>
            callO (M n_fine_inForce [CV.row 24 a0_0, CV.row 9 a0_1, CV.row 7 a0_2, ci x2]) fun v3 =>
            callO (M n_fine_daily [CV.row 24 a0_0, CV.row 9 a0_1, CV.row 7 a0_2, ci a1_0, ci a1_1, ci a1_2, ci a1_3, ci a1_4, ci a1_5, ci a1_6, ci a1_7, ci a1_8, ci x2]) fun v4 =>
            seqO (iteB (decide (a2_1 < 0))
                (some (.nx [cb true]))
                (some (.nx [cb (decide (x2 < a2_1))]))) fun v5 =>
            seqO (iteB (gb v5 0)
                (chk ((decide (0 ≤ a1_2)) && (decide (a1_2 < (Int.ofNat 10)))) <|
                chk (oks [li] (cis v3 0 24) (11 + ((Int.toNat a1_2) * 1))) <|
                some (.nx [ci (gi v2 0), ci (wr ((gi v2 1) + (gi v4 0))), ci (wr ((gi v2 2) + (gi (cis v3 0 24) (11 + ((Int.toNat a1_2) * 1)))))]))
                (some (.nx [ci (gi v2 0), ci (wr ((gi v2 1) + (gi v4 0))), ci (gi v2 2)]))) fun v6 =>
            some (.nx [ci (gi v6 0), ci (gi v6 1), ci (gi v6 2)])) [ci (gi v0 0), ci (gi v0 1), ci (gi v0 2)]) fun v2 =>
        some (.ret [ci (gi v2 0), ci (gi v2 1), ci (gi v2 2)])
theorem r_fine_charge (M : Den) (a0_0 a0_1 a0_2 : List (List CV)) (a1_0 a1_1 a1_2 a1_3 a1_4 a1_5 a1_6 a1_7 a1_8 a2_0 a2_1 a2_2 a2_3 a3 : Int) : evF Try.prog sg M fe80 (bodyOf Try.f80) [(.row 24 a0_0), (.row 9 a0_1), (.row 7 a0_2), (ci a1_0), (ci a1_1), (ci a1_2), (ci a1_3), (ci a1_4), (ci a1_5), (ci a1_6), (ci a1_7), (ci a1_8), (ci a2_0), (ci a2_1), (ci a2_2), (ci a2_3), (ci a3)] = retO (R_fine_charge M a0_0 a0_1 a0_2 a1_0 a1_1 a1_2 a1_3 a1_4 a1_5 a1_6 a1_7 a1_8 a2_0 a2_1 a2_2 a2_3 a3) := by kernel_rfl
theorem q_fine_charge (n : Nat) (a0_0 a0_1 a0_2 : List (List CV)) (a1_0 a1_1 a1_2 a1_3 a1_4 a1_5 a1_6 a1_7 a1_8 a2_0 a2_1 a2_2 a2_3 a3 : Int) : D (n + 1) n_fine_charge [(.row 24 a0_0), (.row 9 a0_1), (.row 7 a0_2), (ci a1_0), (ci a1_1), (ci a1_2), (ci a1_3), (ci a1_4), (ci a1_5), (ci a1_6), (ci a1_7), (ci a1_8), (ci a2_0), (ci a2_1), (ci a2_2), (ci a2_3), (ci a3)] = retO (R_fine_charge (D n) a0_0 a0_1 a0_2 a1_0 a1_1 a1_2 a1_3 a1_4 a1_5 a1_6 a1_7 a1_8 a2_0 a2_1 a2_2 a2_3 a3) := (show D (n + 1) n_fine_charge [(.row 24 a0_0), (.row 9 a0_1), (.row 7 a0_2), (ci a1_0), (ci a1_1), (ci a1_2), (ci a1_3), (ci a1_4), (ci a1_5), (ci a1_6), (ci a1_7), (ci a1_8), (ci a2_0), (ci a2_1), (ci a2_2), (ci a2_3), (ci a3)] = evF Try.prog sg (D n) fe80 (bodyOf Try.f80) [(.row 24 a0_0), (.row 9 a0_1), (.row 7 a0_2), (ci a1_0), (ci a1_1), (ci a1_2), (ci a1_3), (ci a1_4), (ci a1_5), (ci a1_6), (ci a1_7), (ci a1_8), (ci a2_0), (ci a2_1), (ci a2_2), (ci a2_3), (ci a3)] from rfl).trans (r_fine_charge (D n) a0_0 a0_1 a0_2 a1_0 a1_1 a1_2 a1_3 a1_4 a1_5 a1_6 a1_7 a1_8 a2_0 a2_1 a2_2 a2_3 a3)
def R_fine_Owed (M : Den) (a0_0 a0_1 a0_2 : List (List CV)) (a1 a2 : Int) : Option Ou :=
    callO (M n_fine_Check [CV.row 24 a0_0, CV.row 9 a0_1, CV.row 7 a0_2]) fun v0 =>
        iteB ((gi v0 0) != 0)
          (some (.ret [ci 0, ci (gi v0 0)]))
          (callO (M n_fine_within [ci a1, ci 1, ci 99]) fun v1 =>
          iteB (!(gb v1 0))
            (some (.ret [ci 0, ci 1]))
            (callO (M n_fine_isDay [ci a2]) fun v2 =>
            iteB (!(gb v2 0))
              (some (.ret [ci 0, ci 6]))
              (callO (M n_fine_stays [CV.row 24 a0_0, CV.row 9 a0_1, CV.row 7 a0_2, ci a2]) fun v3 =>
              blkO 0 (loopD (fun v4 =>
                  iteB (decide ((gi v4 1) < (il (gr v3 0))))
                    (chk (inb (gi v4 1) (gr v3 0)) <|
                    chk (oks (List.replicate 9 li) (el (gr v3 0) (gi v4 1)) 0) <|
                    callO (M n_fine_due (cat [[CV.row 24 a0_0, CV.row 9 a0_1, CV.row 7 a0_2], cis (el (gr v3 0) (gi v4 1)) 0 9, [ci a2]])) fun v5 =>
                    seqO (iteB ((gi v5 0) == (wr (2 + a1)))
                        (some (.nx [ci (wr ((gi v4 0) + (wr ((wr ((gi v5 1) + (gi v5 2))) + (gi v5 3)))))]))
                        (some (.nx [ci (gi v4 0)]))) fun v6 =>
                    some (.nx [ci (gi v6 0), ci (wr ((gi v4 1) + 1))]))
                    (some (.br 0 [ci (gi v4 0)]))) [ci 0, ci 0]) fun v4 =>
              some (.ret [ci (gi v4 0), ci 0]))))
theorem r_fine_Owed (M : Den) (a0_0 a0_1 a0_2 : List (List CV)) (a1 a2 : Int) : evF Try.prog sg M fe56 (bodyOf Try.f56) [(.row 24 a0_0), (.row 9 a0_1), (.row 7 a0_2), (ci a1), (ci a2)] = retO (R_fine_Owed M a0_0 a0_1 a0_2 a1 a2) := by kernel_rfl
theorem q_fine_Owed (n : Nat) (a0_0 a0_1 a0_2 : List (List CV)) (a1 a2 : Int) : D (n + 1) n_fine_Owed [(.row 24 a0_0), (.row 9 a0_1), (.row 7 a0_2), (ci a1), (ci a2)] = retO (R_fine_Owed (D n) a0_0 a0_1 a0_2 a1 a2) := (show D (n + 1) n_fine_Owed [(.row 24 a0_0), (.row 9 a0_1), (.row 7 a0_2), (ci a1), (ci a2)] = evF Try.prog sg (D n) fe56 (bodyOf Try.f56) [(.row 24 a0_0), (.row 9 a0_1), (.row 7 a0_2), (ci a1), (ci a2)] from rfl).trans (r_fine_Owed (D n) a0_0 a0_1 a0_2 a1 a2)
def R_fine_areRising_Held (M : Den) (a0 : List (List CV)) (a1 : Int) (a2 a3 : CV) : Option Ou :=
    blkO 0 (loopD (fun v0 =>
            iteB (decide ((gi v0 0) < (il a0)))
              (chk (inb (gi v0 0) a0) <|
              chk (oks (List.replicate 9 li) (el a0 (gi v0 0)) 0) <|
              seqO (callO (callV sg M a2 (cis (el a0 (gi v0 0)) 0 9) [.agg (List.replicate 9 li)] [.one li]) fun v1 =>
                iteB ((gi v1 0) != 0)
                  (some (.nx [cb true]))
                  (iteB (decide ((gi v0 0) > 0))
                    (chk (inb (wr ((gi v0 0) - 1)) a0) <|
                    chk (oks (List.replicate 9 li) (el a0 (wr ((gi v0 0) - 1))) 0) <|
                    callO (callV sg M a3 (cis (el a0 (wr ((gi v0 0) - 1))) 0 9) [.agg (List.replicate 9 li)] [.one li]) fun v2 =>
                    callO (callV sg M a3 (cis (el a0 (gi v0 0)) 0 9) [.agg (List.replicate 9 li)] [.one li]) fun v3 =>
                    some (.nx [cb (decide ((gi v2 0) ≥ (gi v3 0)))]))
                    (some (.nx [cb false])))) fun v1 =>
              iteB (gb v1 0)
                (some (.ret [cb false]))
                (some (.nx [ci (wr ((gi v0 0) + 1))])))
              (some (.br 0 []))) [ci 0]) fun v0 =>
        some (.ret [cb (decide ((il a0) ≤ a1))])
theorem r_fine_areRising_Held (M : Den) (a0 : List (List CV)) (a1 : Int) (a2 a3 : CV) : evF Try.prog sg M fe67 (bodyOf Try.f67) [(.row 9 a0), (ci a1), a2, a3] = retO (R_fine_areRising_Held M a0 a1 a2 a3) := by kernel_rfl
theorem q_fine_areRising_Held (n : Nat) (a0 : List (List CV)) (a1 : Int) (a2 a3 : CV) : D (n + 1) n_fine_areRising_Held [(.row 9 a0), (ci a1), a2, a3] = retO (R_fine_areRising_Held (D n) a0 a1 a2 a3) := (show D (n + 1) n_fine_areRising_Held [(.row 9 a0), (ci a1), a2, a3] = evF Try.prog sg (D n) fe67 (bodyOf Try.f67) [(.row 9 a0), (ci a1), a2, a3] from rfl).trans (r_fine_areRising_Held (D n) a0 a1 a2 a3)
def R_fine_CheckNote (M : Den) (a0_0 a0_1 a0_2 a0_3 a0_4 a0_5 a0_6 : Int) : Option Ou :=
    callO (M n_fine_within [ci a0_3, ci 1, ci 99]) fun v0 =>
        seqO (iteB (a0_2 == 2)
            (iteB (a0_3 == 0)
              (some (.nx [cb true]))
              (iteB (a0_2 == 1)
                (some (.nx [cb (gb v0 0)]))
                (iteB (a0_2 == 3)
                  (some (.nx [cb (gb v0 0)]))
                  (some (.nx [cb false])))))
            (iteB (a0_2 == 1)
              (some (.nx [cb (gb v0 0)]))
              (iteB (a0_2 == 3)
                (some (.nx [cb (gb v0 0)]))
                (some (.nx [cb false]))))) fun v1 =>
        seqO (iteB (!(gb v1 0))
            (some (.nx [cb true]))
            (callO (M n_fine_within [ci a0_0, ci 1, ci 99999]) fun v2 =>
            iteB (!(gb v2 0))
              (some (.nx [cb true]))
              (callO (M n_fine_within [ci a0_1, ci 1, ci 99999]) fun v3 =>
              iteB (!(gb v3 0))
                (some (.nx [cb true]))
                (callO (M n_fine_areTimes [ci a0_4, ci a0_5, ci a0_6]) fun v4 =>
                some (.nx [cb (!(gb v4 0))]))))) fun v2 =>
        iteB (gb v2 0)
          (some (.ret [ci 62]))
          (some (.ret [ci 0]))
theorem r_fine_CheckNote (M : Den) (a0_0 a0_1 a0_2 a0_3 a0_4 a0_5 a0_6 : Int) : evF Try.prog sg M fe22 (bodyOf Try.f22) [(ci a0_0), (ci a0_1), (ci a0_2), (ci a0_3), (ci a0_4), (ci a0_5), (ci a0_6)] = retO (R_fine_CheckNote M a0_0 a0_1 a0_2 a0_3 a0_4 a0_5 a0_6) := by kernel_rfl
theorem q_fine_CheckNote (n : Nat) (a0_0 a0_1 a0_2 a0_3 a0_4 a0_5 a0_6 : Int) : D (n + 1) n_fine_CheckNote [(ci a0_0), (ci a0_1), (ci a0_2), (ci a0_3), (ci a0_4), (ci a0_5), (ci a0_6)] = retO (R_fine_CheckNote (D n) a0_0 a0_1 a0_2 a0_3 a0_4 a0_5 a0_6) := (show D (n + 1) n_fine_CheckNote [(ci a0_0), (ci a0_1), (ci a0_2), (ci a0_3), (ci a0_4), (ci a0_5), (ci a0_6)] = evF Try.prog sg (D n) fe22 (bodyOf Try.f22) [(ci a0_0), (ci a0_1), (ci a0_2), (ci a0_3), (ci a0_4), (ci a0_5), (ci a0_6)] from rfl).trans (r_fine_CheckNote (D n) a0_0 a0_1 a0_2 a0_3 a0_4 a0_5 a0_6)
def R_r06_Same (M : Den) (a0 a1 : List (List CV)) : Option Ou :=
    blkO 0 (loopD (fun v0 =>
            seqO (iteB (decide ((gi v0 1) < (il a0)))
                (some (.nx [cb (gb v0 0)]))
                (some (.nx [cb false]))) fun v1 =>
            iteB (gb v1 0)
              (chk (inb (gi v0 1) a0) <|
              chk (oks (List.replicate 5 li) (el a0 (gi v0 1)) 0) <|
              chk (inb (gi v0 1) a1) <|
              chk (oks (List.replicate 5 li) (el a1 (gi v0 1)) 0) <|
              some (.nx [cb (((gi (el a0 (gi v0 1)) 0) == (gi (el a1 (gi v0 1)) 0)) && (((gi (el a0 (gi v0 1)) 1) == (gi (el a1 (gi v0 1)) 1)) && (((gi (el a0 (gi v0 1)) 2) == (gi (el a1 (gi v0 1)) 2)) && (((gi (el a0 (gi v0 1)) 3) == (gi (el a1 (gi v0 1)) 3)) && (((gi (el a0 (gi v0 1)) 4) == (gi (el a1 (gi v0 1)) 4)) && true))))), ci (wr ((gi v0 1) + 1))]))
              (some (.br 0 [cb (gb v0 0)]))) [cb ((il a0) == (il a1)), ci 0]) fun v0 =>
        some (.ret [cb (gb v0 0)])
theorem r_r06_Same (M : Den) (a0 a1 : List (List CV)) : evF Try.prog sg M fe48 (bodyOf Try.f48) [(.row 5 a0), (.row 5 a1)] = retO (R_r06_Same M a0 a1) := by kernel_rfl
theorem q_r06_Same (n : Nat) (a0 a1 : List (List CV)) : D (n + 1) n_r06_Same [(.row 5 a0), (.row 5 a1)] = retO (R_r06_Same (D n) a0 a1) := (show D (n + 1) n_r06_Same [(.row 5 a0), (.row 5 a1)] = evF Try.prog sg (D n) fe48 (bodyOf Try.f48) [(.row 5 a0), (.row 5 a1)] from rfl).trans (r_r06_Same (D n) a0 a1)
def R_fine_inForce (M : Den) (a0_0 a0_1 a0_2 : List (List CV)) (a1 : Int) : Option Ou :=
    blkO 0 (loopD (fun v0 =>
            iteB (decide ((gi v0 1) < (il a0_0)))
              (chk (inb (gi v0 1) a0_0) <|
              chk (oks (List.replicate 24 li) (el a0_0 (gi v0 1)) 0) <|
              seqO (iteB (decide ((gi (el a0_0 (gi v0 1)) 0) ≤ a1))
                  (some (.nx (cat [[cb true], cis (el a0_0 (gi v0 1)) 0 24])))
                  (some (.nx (cat [[cb (gb v0 0)], cis v0 2 24])))) fun v1 =>
              some (.nx (cat [[cb (gb v1 0), ci (wr ((gi v0 1) + 1))], cis v1 1 24])))
              (some (.br 0 (cat [[cb (gb v0 0)], cis v0 2 24])))) [cb false, ci 0, ci 0, ci 0, ci 0, ci 0, ci 0, ci 0, ci 0, ci 0, ci 0, ci 0, ci 0, ci 0, ci 0, ci 0, ci 0, ci 0, ci 0, ci 0, ci 0, ci 0, ci 0, ci 0, ci 0, ci 0]) fun v0 =>
        some (.ret (cat [cis v0 1 24, [cb (gb v0 0)]]))
theorem r_fine_inForce (M : Den) (a0_0 a0_1 a0_2 : List (List CV)) (a1 : Int) : evF Try.prog sg M fe94 (bodyOf Try.f94) [(.row 24 a0_0), (.row 9 a0_1), (.row 7 a0_2), (ci a1)] = retO (R_fine_inForce M a0_0 a0_1 a0_2 a1) := by kernel_rfl
theorem q_fine_inForce (n : Nat) (a0_0 a0_1 a0_2 : List (List CV)) (a1 : Int) : D (n + 1) n_fine_inForce [(.row 24 a0_0), (.row 9 a0_1), (.row 7 a0_2), (ci a1)] = retO (R_fine_inForce (D n) a0_0 a0_1 a0_2 a1) := (show D (n + 1) n_fine_inForce [(.row 24 a0_0), (.row 9 a0_1), (.row 7 a0_2), (ci a1)] = evF Try.prog sg (D n) fe94 (bodyOf Try.f94) [(.row 24 a0_0), (.row 9 a0_1), (.row 7 a0_2), (ci a1)] from rfl).trans (r_fine_inForce (D n) a0_0 a0_1 a0_2 a1)
def R_fine_ended_c1 (M : Den) (a0_0 a0_1 a0_2 a0_3 a0_4 a0_5 a0_6 a0_7 a0_8 : Int) (a1 a2 a3 : List CV) : Option Ou :=
    chk (oks [.raw] a1 0) <|
        chk (oks [.row 24, .row 9, .row 7] a2 0) <|
        chk (oks [li] a3 0) <|
        callO (M n_fine_lot [CV.row 24 (gr a2 0), CV.row 9 (gr a2 1), CV.row 7 (gr a2 2), ci a0_0, ci a0_1, ci a0_2, ci a0_3, ci a0_4, ci a0_5, ci a0_6, ci a0_7, ci a0_8, ci (gi a3 0)]) fun v0 =>
        callO (callV sg M (List.getD a1 0 dC) (cat [[ci a0_0, ci a0_1, ci a0_2, ci a0_3, ci a0_4, ci a0_5, ci a0_6, ci a0_7, ci a0_8], cis v0 0 4]) [.agg (List.replicate 9 li), .agg (List.replicate 4 li)] [.one lb]) fun v1 =>
        some (.ret [cb (!(gb v1 0))])
theorem r_fine_ended_c1 (M : Den) (a0_0 a0_1 a0_2 a0_3 a0_4 a0_5 a0_6 a0_7 a0_8 : Int) (a1 a2 a3 : List CV) : evF Try.prog sg M fe132 (bodyOf Try.f132) [(ci a0_0), (ci a0_1), (ci a0_2), (ci a0_3), (ci a0_4), (ci a0_5), (ci a0_6), (ci a0_7), (ci a0_8), (.ref a1), (.ref a2), (.ref a3)] = retO (R_fine_ended_c1 M a0_0 a0_1 a0_2 a0_3 a0_4 a0_5 a0_6 a0_7 a0_8 a1 a2 a3) := by kernel_rfl
theorem q_fine_ended_c1 (n : Nat) (a0_0 a0_1 a0_2 a0_3 a0_4 a0_5 a0_6 a0_7 a0_8 : Int) (a1 a2 a3 : List CV) : D (n + 1) n_fine_ended_c1 [(ci a0_0), (ci a0_1), (ci a0_2), (ci a0_3), (ci a0_4), (ci a0_5), (ci a0_6), (ci a0_7), (ci a0_8), (.ref a1), (.ref a2), (.ref a3)] = retO (R_fine_ended_c1 (D n) a0_0 a0_1 a0_2 a0_3 a0_4 a0_5 a0_6 a0_7 a0_8 a1 a2 a3) := (show D (n + 1) n_fine_ended_c1 [(ci a0_0), (ci a0_1), (ci a0_2), (ci a0_3), (ci a0_4), (ci a0_5), (ci a0_6), (ci a0_7), (ci a0_8), (.ref a1), (.ref a2), (.ref a3)] = evF Try.prog sg (D n) fe132 (bodyOf Try.f132) [(ci a0_0), (ci a0_1), (ci a0_2), (ci a0_3), (ci a0_4), (ci a0_5), (ci a0_6), (ci a0_7), (ci a0_8), (.ref a1), (.ref a2), (.ref a3)] from rfl).trans (r_fine_ended_c1 (D n) a0_0 a0_1 a0_2 a0_3 a0_4 a0_5 a0_6 a0_7 a0_8 a1 a2 a3)
def R_slices_IndexFunc_Note (M : Den) (a0 : List (List CV)) (a1 : CV) : Option Ou :=
    blkO 0 (loopD (fun v0 =>
            iteB (decide ((gi v0 0) < (il a0)))
              (chk (inb (gi v0 0) a0) <|
              chk (oks (List.replicate 7 li) (el a0 (gi v0 0)) 0) <|
              callO (callV sg M a1 (cis (el a0 (gi v0 0)) 0 7) [.agg (List.replicate 7 li)] [.one lb]) fun v1 =>
              iteB (gb v1 0)
                (some (.ret [ci (gi v0 0)]))
                (some (.nx [ci (wr ((gi v0 0) + 1))])))
              (some (.br 0 []))) [ci 0]) fun v0 =>
        some (.ret [ci (-1)])
theorem r_slices_IndexFunc_Note (M : Den) (a0 : List (List CV)) (a1 : CV) : evF Try.prog sg M fe137 (bodyOf Try.f137) [(.row 7 a0), a1] = retO (R_slices_IndexFunc_Note M a0 a1) := by kernel_rfl
theorem q_slices_IndexFunc_Note (n : Nat) (a0 : List (List CV)) (a1 : CV) : D (n + 1) n_slices_IndexFunc_Note [(.row 7 a0), a1] = retO (R_slices_IndexFunc_Note (D n) a0 a1) := (show D (n + 1) n_slices_IndexFunc_Note [(.row 7 a0), a1] = evF Try.prog sg (D n) fe137 (bodyOf Try.f137) [(.row 7 a0), a1] from rfl).trans (r_slices_IndexFunc_Note (D n) a0 a1)
def R_fine_Charged (M : Den) (a0_0 a0_1 a0_2 : List (List CV)) (a1 a2 : Int) : Option Ou :=
    callO (M n_fine_stayOf [CV.row 24 a0_0, CV.row 9 a0_1, CV.row 7 a0_2, ci a1, ci a2]) fun v0 =>
        iteB ((gi v0 9) != 0)
          (some (.ret [ci 0, ci 0, ci 0, ci (gi v0 9)]))
          (callO (M n_fine_lot (cat [[CV.row 24 a0_0, CV.row 9 a0_1, CV.row 7 a0_2], cis v0 0 9, [ci a2]])) fun v1 =>
          callO (M n_fine_charge (cat [[CV.row 24 a0_0, CV.row 9 a0_1, CV.row 7 a0_2], cis v0 0 9, cis v1 0 4, [ci a2]])) fun v2 =>
          some (.ret [ci (gi v2 0), ci (gi v2 1), ci (gi v2 2), ci 0]))
theorem r_fine_Charged (M : Den) (a0_0 a0_1 a0_2 : List (List CV)) (a1 a2 : Int) : evF Try.prog sg M fe27 (bodyOf Try.f27) [(.row 24 a0_0), (.row 9 a0_1), (.row 7 a0_2), (ci a1), (ci a2)] = retO (R_fine_Charged M a0_0 a0_1 a0_2 a1 a2) := by kernel_rfl
theorem q_fine_Charged (n : Nat) (a0_0 a0_1 a0_2 : List (List CV)) (a1 a2 : Int) : D (n + 1) n_fine_Charged [(.row 24 a0_0), (.row 9 a0_1), (.row 7 a0_2), (ci a1), (ci a2)] = retO (R_fine_Charged (D n) a0_0 a0_1 a0_2 a1 a2) := (show D (n + 1) n_fine_Charged [(.row 24 a0_0), (.row 9 a0_1), (.row 7 a0_2), (ci a1), (ci a2)] = evF Try.prog sg (D n) fe27 (bodyOf Try.f27) [(.row 24 a0_0), (.row 9 a0_1), (.row 7 a0_2), (ci a1), (ci a2)] from rfl).trans (r_fine_Charged (D n) a0_0 a0_1 a0_2 a1 a2)
def R_fine_Posts (M : Den) (a0_0 a0_1 a0_2 a1 : List (List CV)) : Option Ou :=
    callO (M n_fine_Check [CV.row 24 a0_0, CV.row 9 a0_1, CV.row 7 a0_2]) fun v0 =>
        iteB ((gi v0 0) != 0)
          (some (.ret ([CV.row 5 [], ci (gi v0 0)])))
          (callO (M n_fine_areDays [CV.row 1 a1]) fun v1 =>
          iteB (!(gb v1 0))
            (some (.ret ([CV.row 5 [], ci 66])))
            (callO (M n_fine_postings [CV.row 24 a0_0, CV.row 9 a0_1, CV.row 7 a0_2, CV.row 1 a1]) fun v2 =>
            some (.ret [CV.row 5 (gr v2 0), ci 0])))
theorem r_fine_Posts (M : Den) (a0_0 a0_1 a0_2 a1 : List (List CV)) : evF Try.prog sg M fe44 (bodyOf Try.f44) [(.row 24 a0_0), (.row 9 a0_1), (.row 7 a0_2), (.row 1 a1)] = retO (R_fine_Posts M a0_0 a0_1 a0_2 a1) := by kernel_rfl
theorem q_fine_Posts (n : Nat) (a0_0 a0_1 a0_2 a1 : List (List CV)) : D (n + 1) n_fine_Posts [(.row 24 a0_0), (.row 9 a0_1), (.row 7 a0_2), (.row 1 a1)] = retO (R_fine_Posts (D n) a0_0 a0_1 a0_2 a1) := (show D (n + 1) n_fine_Posts [(.row 24 a0_0), (.row 9 a0_1), (.row 7 a0_2), (.row 1 a1)] = evF Try.prog sg (D n) fe44 (bodyOf Try.f44) [(.row 24 a0_0), (.row 9 a0_1), (.row 7 a0_2), (.row 1 a1)] from rfl).trans (r_fine_Posts (D n) a0_0 a0_1 a0_2 a1)
def R_fine_Stays (M : Den) (a0_0 a0_1 a0_2 : List (List CV)) (a1 : Int) : Option Ou :=
    callO (M n_fine_check ([CV.row 24 a0_0, CV.row 9 a0_1, CV.row 7 a0_2, CV.row 1 (chunk 1 1 [ci a1])])) fun v0 =>
        iteB ((gi v0 0) != 0)
          (some (.ret ([CV.row 1 [], ci (gi v0 0)])))
          (callO (M n_fine_stays [CV.row 24 a0_0, CV.row 9 a0_1, CV.row 7 a0_2, ci a1]) fun v1 =>
          callO (M n_fine_sources [CV.row 9 (gr v1 0)]) fun v2 =>
          some (.ret [CV.row 1 (gr v2 0), ci 0]))
theorem r_fine_Stays (M : Den) (a0_0 a0_1 a0_2 : List (List CV)) (a1 : Int) : evF Try.prog sg M fe39 (bodyOf Try.f39) [(.row 24 a0_0), (.row 9 a0_1), (.row 7 a0_2), (ci a1)] = retO (R_fine_Stays M a0_0 a0_1 a0_2 a1) := by kernel_rfl
theorem q_fine_Stays (n : Nat) (a0_0 a0_1 a0_2 : List (List CV)) (a1 : Int) : D (n + 1) n_fine_Stays [(.row 24 a0_0), (.row 9 a0_1), (.row 7 a0_2), (ci a1)] = retO (R_fine_Stays (D n) a0_0 a0_1 a0_2 a1) := (show D (n + 1) n_fine_Stays [(.row 24 a0_0), (.row 9 a0_1), (.row 7 a0_2), (ci a1)] = evF Try.prog sg (D n) fe39 (bodyOf Try.f39) [(.row 24 a0_0), (.row 9 a0_1), (.row 7 a0_2), (ci a1)] from rfl).trans (r_fine_Stays (D n) a0_0 a0_1 a0_2 a1)
def R_fine_Dues (M : Den) (a0_0 a0_1 a0_2 : List (List CV)) (a1 a2 : Int) : Option Ou :=
    callO (M n_fine_stayOf [CV.row 24 a0_0, CV.row 9 a0_1, CV.row 7 a0_2, ci a1, ci a2]) fun v0 =>
        iteB ((gi v0 9) != 0)
          (some (.ret [ci 0, ci 0, ci 0, ci 0, ci (gi v0 9)]))
          (callO (M n_fine_due (cat [[CV.row 24 a0_0, CV.row 9 a0_1, CV.row 7 a0_2], cis v0 0 9, [ci a2]])) fun v1 =>
          some (.ret (cat [cis v1 0 4, [ci 0]])))
theorem r_fine_Dues (M : Den) (a0_0 a0_1 a0_2 : List (List CV)) (a1 a2 : Int) : evF Try.prog sg M fe28 (bodyOf Try.f28) [(.row 24 a0_0), (.row 9 a0_1), (.row 7 a0_2), (ci a1), (ci a2)] = retO (R_fine_Dues M a0_0 a0_1 a0_2 a1 a2) := by kernel_rfl
theorem q_fine_Dues (n : Nat) (a0_0 a0_1 a0_2 : List (List CV)) (a1 a2 : Int) : D (n + 1) n_fine_Dues [(.row 24 a0_0), (.row 9 a0_1), (.row 7 a0_2), (ci a1), (ci a2)] = retO (R_fine_Dues (D n) a0_0 a0_1 a0_2 a1 a2) := (show D (n + 1) n_fine_Dues [(.row 24 a0_0), (.row 9 a0_1), (.row 7 a0_2), (ci a1), (ci a2)] = evF Try.prog sg (D n) fe28 (bodyOf Try.f28) [(.row 24 a0_0), (.row 9 a0_1), (.row 7 a0_2), (ci a1), (ci a2)] from rfl).trans (r_fine_Dues (D n) a0_0 a0_1 a0_2 a1 a2)
def R_fine_Inside_c1 (M : Den) (a0_0 a0_1 a0_2 a0_3 a0_4 a0_5 a0_6 a0_7 a0_8 a1_0 a1_1 a1_2 a1_3 : Int) (a2 : List CV) : Option Ou :=
    chk (oks [li] a2 0) <|
        iteB (decide (a0_6 ≤ (gi a2 0)))
          (some (.ret [cb (a1_2 == 0)]))
          (some (.ret [cb false]))
theorem r_fine_Inside_c1 (M : Den) (a0_0 a0_1 a0_2 a0_3 a0_4 a0_5 a0_6 a0_7 a0_8 a1_0 a1_1 a1_2 a1_3 : Int) (a2 : List CV) : evF Try.prog sg M fe106 (bodyOf Try.f106) [(ci a0_0), (ci a0_1), (ci a0_2), (ci a0_3), (ci a0_4), (ci a0_5), (ci a0_6), (ci a0_7), (ci a0_8), (ci a1_0), (ci a1_1), (ci a1_2), (ci a1_3), (.ref a2)] = retO (R_fine_Inside_c1 M a0_0 a0_1 a0_2 a0_3 a0_4 a0_5 a0_6 a0_7 a0_8 a1_0 a1_1 a1_2 a1_3 a2) := by kernel_rfl
theorem q_fine_Inside_c1 (n : Nat) (a0_0 a0_1 a0_2 a0_3 a0_4 a0_5 a0_6 a0_7 a0_8 a1_0 a1_1 a1_2 a1_3 : Int) (a2 : List CV) : D (n + 1) n_fine_Inside_c1 [(ci a0_0), (ci a0_1), (ci a0_2), (ci a0_3), (ci a0_4), (ci a0_5), (ci a0_6), (ci a0_7), (ci a0_8), (ci a1_0), (ci a1_1), (ci a1_2), (ci a1_3), (.ref a2)] = retO (R_fine_Inside_c1 (D n) a0_0 a0_1 a0_2 a0_3 a0_4 a0_5 a0_6 a0_7 a0_8 a1_0 a1_1 a1_2 a1_3 a2) := (show D (n + 1) n_fine_Inside_c1 [(ci a0_0), (ci a0_1), (ci a0_2), (ci a0_3), (ci a0_4), (ci a0_5), (ci a0_6), (ci a0_7), (ci a0_8), (ci a1_0), (ci a1_1), (ci a1_2), (ci a1_3), (.ref a2)] = evF Try.prog sg (D n) fe106 (bodyOf Try.f106) [(ci a0_0), (ci a0_1), (ci a0_2), (ci a0_3), (ci a0_4), (ci a0_5), (ci a0_6), (ci a0_7), (ci a0_8), (ci a1_0), (ci a1_1), (ci a1_2), (ci a1_3), (.ref a2)] from rfl).trans (r_fine_Inside_c1 (D n) a0_0 a0_1 a0_2 a0_3 a0_4 a0_5 a0_6 a0_7 a0_8 a1_0 a1_1 a1_2 a1_3 a2)
def R_slices_ContainsFunc_int (M : Den) (a0 : List (List CV)) (a1 : CV) : Option Ou :=
    callO (M n_slices_IndexFunc_int [CV.row 1 a0, a1]) fun v0 =>
        some (.ret [cb (decide ((gi v0 0) ≥ 0))])
theorem r_slices_ContainsFunc_int (M : Den) (a0 : List (List CV)) (a1 : CV) : evF Try.prog sg M fe111 (bodyOf Try.f111) [(.row 1 a0), a1] = retO (R_slices_ContainsFunc_int M a0 a1) := by kernel_rfl
theorem q_slices_ContainsFunc_int (n : Nat) (a0 : List (List CV)) (a1 : CV) : D (n + 1) n_slices_ContainsFunc_int [(.row 1 a0), a1] = retO (R_slices_ContainsFunc_int (D n) a0 a1) := (show D (n + 1) n_slices_ContainsFunc_int [(.row 1 a0), a1] = evF Try.prog sg (D n) fe111 (bodyOf Try.f111) [(.row 1 a0), a1] from rfl).trans (r_slices_ContainsFunc_int (D n) a0 a1)
def R_fine_Ended_c1 (M : Den) (a0_0 a0_1 a0_2 a0_3 a0_4 a0_5 a0_6 a0_7 a0_8 a1_0 a1_1 a1_2 a1_3 : Int) (a2 : List CV) : Option Ou :=
    chk (oks [li] a2 0) <|
        some (.ret [cb (a1_2 == (gi a2 0))])
theorem r_fine_Ended_c1 (M : Den) (a0_0 a0_1 a0_2 a0_3 a0_4 a0_5 a0_6 a0_7 a0_8 a1_0 a1_1 a1_2 a1_3 : Int) (a2 : List CV) : evF Try.prog sg M fe107 (bodyOf Try.f107) [(ci a0_0), (ci a0_1), (ci a0_2), (ci a0_3), (ci a0_4), (ci a0_5), (ci a0_6), (ci a0_7), (ci a0_8), (ci a1_0), (ci a1_1), (ci a1_2), (ci a1_3), (.ref a2)] = retO (R_fine_Ended_c1 M a0_0 a0_1 a0_2 a0_3 a0_4 a0_5 a0_6 a0_7 a0_8 a1_0 a1_1 a1_2 a1_3 a2) := by kernel_rfl
theorem q_fine_Ended_c1 (n : Nat) (a0_0 a0_1 a0_2 a0_3 a0_4 a0_5 a0_6 a0_7 a0_8 a1_0 a1_1 a1_2 a1_3 : Int) (a2 : List CV) : D (n + 1) n_fine_Ended_c1 [(ci a0_0), (ci a0_1), (ci a0_2), (ci a0_3), (ci a0_4), (ci a0_5), (ci a0_6), (ci a0_7), (ci a0_8), (ci a1_0), (ci a1_1), (ci a1_2), (ci a1_3), (.ref a2)] = retO (R_fine_Ended_c1 (D n) a0_0 a0_1 a0_2 a0_3 a0_4 a0_5 a0_6 a0_7 a0_8 a1_0 a1_1 a1_2 a1_3 a2) := (show D (n + 1) n_fine_Ended_c1 [(ci a0_0), (ci a0_1), (ci a0_2), (ci a0_3), (ci a0_4), (ci a0_5), (ci a0_6), (ci a0_7), (ci a0_8), (ci a1_0), (ci a1_1), (ci a1_2), (ci a1_3), (.ref a2)] = evF Try.prog sg (D n) fe107 (bodyOf Try.f107) [(ci a0_0), (ci a0_1), (ci a0_2), (ci a0_3), (ci a0_4), (ci a0_5), (ci a0_6), (ci a0_7), (ci a0_8), (ci a1_0), (ci a1_1), (ci a1_2), (ci a1_3), (.ref a2)] from rfl).trans (r_fine_Ended_c1 (D n) a0_0 a0_1 a0_2 a0_3 a0_4 a0_5 a0_6 a0_7 a0_8 a1_0 a1_1 a1_2 a1_3 a2)
end
end Go.Proofs.Ytabhbdehbpmpkaa
namespace Go.Proofs.Ytabhbdehbpmpkaa
open Go Go.Sx
set_option maxRecDepth 100000
set_option maxHeartbeats 0
noncomputable section
def R_fine_ended (M : Den) (a0_0 a0_1 a0_2 : List (List CV)) (a1 : Int) (a2 : CV) : Option Ou :=
    inlO (inlO (nilD a0_1
              (some (.ret ([CV.row 9 []])))
              (chk (fitA 0 (List.length a0_1) 72) <|
              some (.ret [CV.row 9 a0_1]))) fun v0 =>
          inlO (callO (M n_slices_IndexFunc_Held ([CV.row 9 (gr v0 0), CV.fn n_fine_stays_c1 ([CV.ref [ci a1]])])) fun v1 =>
            iteB ((gi v1 0) == (-1))
              (some (.ret [CV.row 9 (gr v0 0)]))
              (blkO 0 (loopD (fun v2 =>
                  iteB (decide ((gi v2 1) < (il (gr v2 2))))
                    (chk (inb (gi v2 1) (gr v2 2)) <|
                    chk (decide ((Int.toNat (gi v2 1)) < (List.length (gr v2 2)))) <|
                    chk (oks (List.replicate 9 li) (el (gr v2 2) (gi v2 1)) 0) <|
                    callO (M n_fine_stays_c1 (cat [cis (el (gr v2 2) (gi v2 1)) 0 9, [CV.ref [ci a1]]])) fun v3 =>
                    seqO (iteB (!(gb v3 0))
                        (chk (inb (gi v2 0) (gr v2 2)) <|
                        chk ((decide ((Int.toNat (gi v2 0)) < (List.length (gr v2 2)))) && (decide (9 ≤ 9))) <|
                        some (.nx [ci (wr ((gi v2 0) + 1)), CV.row 9 (List.set (gr v2 2) (Int.toNat (gi v2 0)) (spl (el (gr v2 2) (gi v2 0)) 0 (cis (el (gr v2 2) (gi v2 1)) 0 9)))]))
                        (some (.nx [ci (gi v2 0), CV.row 9 (gr v2 2)]))) fun v4 =>
                    some (.nx [ci (gi v4 0), ci (wr ((gi v2 1) + 1)), CV.row 9 (gr v4 1)]))
                    (some (.br 0 [ci (gi v2 0), CV.row 9 (gr v2 2)]))) [ci (gi v1 0), ci (wr ((gi v1 0) + 1)), CV.row 9 (gr v0 0)]) fun v2 =>
              chk ((decide (0 ≤ (gi v2 0))) && (decide ((gi v2 0) ≤ (il (gr v2 1))))) <|
              chk ((decide (0 ≤ (gi v2 0))) && (decide ((gi v2 0) ≤ (il ((List.take (Int.toNat (gi v2 0)) (gr v2 1)) ++ (List.replicate ((List.length (gr v2 1)) - (Int.toNat (gi v2 0))) [ci 0, ci 0, ci 0, ci 0, ci 0, ci 0, ci 0, ci 0, ci 0])))))) <|
              some (.ret ([CV.row 9 (List.take (Int.toNat (gi v2 0)) ((List.take (Int.toNat (gi v2 0)) (gr v2 1)) ++ (List.replicate ((List.length (gr v2 1)) - (Int.toNat (gi v2 0))) [ci 0, ci 0, ci 0, ci 0, ci 0, ci 0, ci 0, ci 0, ci 0])))])))) fun v1 =>
          some (.ret [CV.row 9 (gr v1 0)])) fun v0 =>
        inlO (callO (M n_slices_IndexFunc_Held ([CV.row 9 (gr v0 0), CV.fn n_fine_ended_c1 ([CV.ref [a2], CV.ref [CV.row 24 a0_0, CV.row 9 a0_1, CV.row 7 a0_2], CV.ref [ci a1]])])) fun v1 =>
          iteB ((gi v1 0) == (-1))
            (some (.ret [CV.row 9 (gr v0 0)]))
            (blkO 0 (loopD (fun v2 =>
                iteB (decide ((gi v2 1) < (il (gr v2 2))))
                  (chk (inb (gi v2 1) (gr v2 2)) <|
                  chk (decide ((Int.toNat (gi v2 1)) < (List.length (gr v2 2)))) <|
                  chk (oks (List.replicate 9 li) (el (gr v2 2) (gi v2 1)) 0) <|
                  callO (M n_fine_ended_c1 (cat [cis (el (gr v2 2) (gi v2 1)) 0 9, [CV.ref [a2], CV.ref [CV.row 24 a0_0, CV.row 9 a0_1, CV.row 7 a0_2], CV.ref [ci a1]]])) fun v3 =>
                  seqO (iteB (!(gb v3 0))
                      (chk (inb (gi v2 0) (gr v2 2)) <|
                      chk ((decide ((Int.toNat (gi v2 0)) < (List.length (gr v2 2)))) && (decide (9 ≤ 9))) <|
                      some (.nx [ci (wr ((gi v2 0) + 1)), CV.row 9 (List.set (gr v2 2) (Int.toNat (gi v2 0)) (spl (el (gr v2 2) (gi v2 0)) 0 (cis (el (gr v2 2) (gi v2 1)) 0 9)))]))
                      (some (.nx [ci (gi v2 0), CV.row 9 (gr v2 2)]))) fun v4 =>
                  some (.nx [ci (gi v4 0), ci (wr ((gi v2 1) + 1)), CV.row 9 (gr v4 1)]))
                  (some (.br 0 [ci (gi v2 0), CV.row 9 (gr v2 2)]))) [ci (gi v1 0), ci (wr ((gi v1 0) + 1)), CV.row 9 (gr v0 0)]) fun v2 =>
            chk ((decide (0 ≤ (gi v2 0))) && (decide ((gi v2 0) ≤ (il (gr v2 1))))) <|
            chk ((decide (0 ≤ (gi v2 0))) && (decide ((gi v2 0) ≤ (il ((List.take (Int.toNat (gi v2 0)) (gr v2 1)) ++ (List.replicate ((List.length (gr v2 1)) - (Int.toNat (gi v2 0))) [ci 0, ci 0, ci 0, ci 0, ci 0, ci 0, ci 0, ci 0, ci 0])))))) <|
            some (.ret ([CV.row 9 (List.take (Int.toNat (gi v2 0)) ((List.take (Int.toNat (gi v2 0)) (gr v2 1)) ++ (List.replicate ((List.length (gr v2 1)) - (Int.toNat (gi v2 0))) [ci 0, ci 0, ci 0, ci 0, ci 0, ci 0, ci 0, ci 0, ci 0])))])))) fun v1 =>
        callO (M n_fine_sources [CV.row 9 (gr v1 0)]) fun v2 =>
        some (.ret [CV.row 1 (gr v2 0)])
theorem r_fine_ended (M : Den) (a0_0 a0_1 a0_2 : List (List CV)) (a1 : Int) (a2 : CV) : evF Try.prog sg M fe105 (bodyOf Try.f105) [(.row 24 a0_0), (.row 9 a0_1), (.row 7 a0_2), (ci a1), a2] = retO (R_fine_ended M a0_0 a0_1 a0_2 a1 a2) := by kernel_rfl
theorem q_fine_ended (n : Nat) (a0_0 a0_1 a0_2 : List (List CV)) (a1 : Int) (a2 : CV) : D (n + 1) n_fine_ended [(.row 24 a0_0), (.row 9 a0_1), (.row 7 a0_2), (ci a1), a2] = retO (R_fine_ended (D n) a0_0 a0_1 a0_2 a1 a2) := (show D (n + 1) n_fine_ended [(.row 24 a0_0), (.row 9 a0_1), (.row 7 a0_2), (ci a1), a2] = evF Try.prog sg (D n) fe105 (bodyOf Try.f105) [(.row 24 a0_0), (.row 9 a0_1), (.row 7 a0_2), (ci a1), a2] from rfl).trans (r_fine_ended (D n) a0_0 a0_1 a0_2 a1 a2)
def R_fine_lot (M : Den) (a0_0 a0_1 a0_2 : List (List CV)) (a1_0 a1_1 a1_2 a1_3 a1_4 a1_5 a1_6 a1_7 a1_8 a2 : Int) : Option Ou :=
    callO (M n_fine_notes [CV.row 24 a0_0, CV.row 9 a0_1, CV.row 7 a0_2, ci a1_0, ci a1_1, ci a1_2, ci a1_3, ci a1_4, ci a1_5, ci a1_6, ci a1_7, ci a1_8, ci a2]) fun v0 =>
        callO (M n_fine_whose [CV.row 7 (gr v0 0)]) fun v1 =>
        blkO 0 (loopD (fun v2 =>
            iteB (decide ((gi v2 0) < 5))
              (chk ((decide (0 ≤ (gi v2 0))) && (decide ((gi v2 0) < (Int.ofNat 5)))) <|
              chk (oks [li] (cis v2 1 5) (0 + ((Int.toNat (gi v2 0)) * 1))) <|
              some (.nx [ci (wr ((gi v2 0) + 1)), ci (if (decide (0 = (0 + ((Int.toNat (gi v2 0)) * 1)))) = true then (-1) else gi v2 1), ci (if (decide (1 = (0 + ((Int.toNat (gi v2 0)) * 1)))) = true then (-1) else gi v2 2), ci (if (decide (2 = (0 + ((Int.toNat (gi v2 0)) * 1)))) = true then (-1) else gi v2 3), ci (if (decide (3 = (0 + ((Int.toNat (gi v2 0)) * 1)))) = true then (-1) else gi v2 4), ci (if (decide (4 = (0 + ((Int.toNat (gi v2 0)) * 1)))) = true then (-1) else gi v2 5)]))
              (some (.br 0 (cis v2 1 5)))) [ci 0, ci 0, ci 0, ci 0, ci 0, ci 0]) fun v2 =>
        blkO 2 (loopD (fun v3 =>
            iteB (decide ((gi v3 0) < (il (gr v0 0))))
              (chk (inb (gi v3 0) (gr v0 0)) <|
              chk (oks (List.replicate 7 li) (el (gr v0 0) (gi v3 0)) 0) <|
              seqO (iteB ((gi (el (gr v0 0) (gi v3 0)) 2) == 2)
                  (iteB (decide ((gi v3 2) < 0))
                    (some (.nx [cb true]))
                    (some (.nx [cb (decide ((gi (el (gr v0 0) (gi v3 0)) 4) < (gi v3 2)))])))
                  (some (.nx [cb false]))) fun v4 =>
              seqO (iteB (gb v4 0)
                  (some (.nx [ci (gi v3 1), ci (gi (el (gr v0 0) (gi v3 0)) 4), ci (gi v3 3), ci (gi v3 4), ci (gi v3 5)]))
                  (some (.nx (cis v3 1 5)))) fun v5 =>
              some (.nx (cat [[ci (wr ((gi v3 0) + 1))], cis v5 0 5])))
              (some (.br 2 (cis v3 1 5)))) (cat [[ci 0], cis v2 0 5])) fun v3 =>
        callO (M n_fine_sold [CV.row 24 a0_0, CV.row 9 a0_1, CV.row 7 a0_2, ci a1_0, ci a1_1, ci a1_2, ci a1_3, ci a1_4, ci a1_5, ci a1_6, ci a1_7, ci a1_8, ci a2]) fun v4 =>
        seqO (iteB (decide ((gi v1 1) < 0))
            (some (.nx [cb true]))
            (some (.nx [cb (decide ((gi v1 1) > (wr (a1_6 + 360))))]))) fun v5 =>
        seqO (iteB (gb v5 0)
            (some (.nx [ci (gi v3 0), ci (gi v3 1), ci (gi v4 0), ci (wr ((wr (a1_6 + 360)) + 1)), ci (gi v3 4)]))
            (some (.nx [ci (gi v3 0), ci (gi v3 1), ci (gi v4 0), ci (gi v3 3), ci (gi v3 4)]))) fun v6 =>
        blkO 4 (loopD (fun v7 =>
            iteB (decide ((gi v7 0) < 5))
              (blkO 5 (chk (((decide (0 ≤ (gi v7 0))) && (decide ((gi v7 0) < (Int.ofNat 5)))) && (oks [li] (cat [cis v6 0 4, [ci (wr (a1_6 + 720))]]) (Int.toNat (gi v7 0)))) <|
                seqO (iteB (decide ((gi (cat [cis v6 0 4, [ci (wr (a1_6 + 720))]]) (Int.toNat (gi v7 0))) < 0))
                    (some (.nx [cb true]))
                    (some (.nx ([cb (decide ((gi (cat [cis v6 0 4, [ci (wr (a1_6 + 720))]]) (Int.toNat (gi v7 0))) > a2))])))) fun v8 =>
                iteB (gb v8 0)
                  (some (.br 5 (cis v7 1 4)))
                  (seqO (iteB (decide ((gi v7 4) < 0))
                      (some (.nx [cb true]))
                      (some (.nx ([cb (decide ((gi (cat [cis v6 0 4, [ci (wr (a1_6 + 720))]]) (Int.toNat (gi v7 0))) < (gi v7 4)))])))) fun v9 =>
                  seqO (iteB (gb v9 0)
                      (some (.nx ([ci (gi v7 1), ci (gi v7 2), ci (gi v7 0), ci (gi (cat [cis v6 0 4, [ci (wr (a1_6 + 720))]]) (Int.toNat (gi v7 0)))])))
                      (some (.nx (cis v7 1 4)))) fun v10 =>
                  some (.br 5 (cis v10 0 4)))) fun v8 =>
              some (.nx (cat [[ci (wr ((gi v7 0) + 1))], cis v8 0 4])))
              (some (.br 4 (cis v7 1 4)))) [ci 0, ci (gi v1 0), ci (gi v1 1), ci 0, ci (-1)]) fun v7 =>
        some (.ret (cis v7 0 4))
theorem r_fine_lot (M : Den) (a0_0 a0_1 a0_2 : List (List CV)) (a1_0 a1_1 a1_2 a1_3 a1_4 a1_5 a1_6 a1_7 a1_8 a2 : Int) : evF Try.prog sg M fe79 (bodyOf Try.f79) [(.row 24 a0_0), (.row 9 a0_1), (.row 7 a0_2), (ci a1_0), (ci a1_1), (ci a1_2), (ci a1_3), (ci a1_4), (ci a1_5), (ci a1_6), (ci a1_7), (ci a1_8), (ci a2)] = retO (R_fine_lot M a0_0 a0_1 a0_2 a1_0 a1_1 a1_2 a1_3 a1_4 a1_5 a1_6 a1_7 a1_8 a2) := by kernel_rfl
theorem q_fine_lot (n : Nat) (a0_0 a0_1 a0_2 : List (List CV)) (a1_0 a1_1 a1_2 a1_3 a1_4 a1_5 a1_6 a1_7 a1_8 a2 : Int) : D (n + 1) n_fine_lot [(.row 24 a0_0), (.row 9 a0_1), (.row 7 a0_2), (ci a1_0), (ci a1_1), (ci a1_2), (ci a1_3), (ci a1_4), (ci a1_5), (ci a1_6), (ci a1_7), (ci a1_8), (ci a2)] = retO (R_fine_lot (D n) a0_0 a0_1 a0_2 a1_0 a1_1 a1_2 a1_3 a1_4 a1_5 a1_6 a1_7 a1_8 a2) := (show D (n + 1) n_fine_lot [(.row 24 a0_0), (.row 9 a0_1), (.row 7 a0_2), (ci a1_0), (ci a1_1), (ci a1_2), (ci a1_3), (ci a1_4), (ci a1_5), (ci a1_6), (ci a1_7), (ci a1_8), (ci a2)] = evF Try.prog sg (D n) fe79 (bodyOf Try.f79) [(.row 24 a0_0), (.row 9 a0_1), (.row 7 a0_2), (ci a1_0), (ci a1_1), (ci a1_2), (ci a1_3), (ci a1_4), (ci a1_5), (ci a1_6), (ci a1_7), (ci a1_8), (ci a2)] from rfl).trans (r_fine_lot (D n) a0_0 a0_1 a0_2 a1_0 a1_1 a1_2 a1_3 a1_4 a1_5 a1_6 a1_7 a1_8 a2)
def R_fine_notes (M : Den) (a0_0 a0_1 a0_2 : List (List CV)) (a1_0 a1_1 a1_2 a1_3 a1_4 a1_5 a1_6 a1_7 a1_8 a2 : Int) : Option Ou :=
    inlO (nilD a0_2
            (some (.ret ([CV.row 7 []])))
            (chk (fitA 0 (List.length a0_2) 56) <|
            some (.ret [CV.row 7 a0_2]))) fun v0 =>
        inlO (callO (M n_slices_IndexFunc_Note ([CV.row 7 (gr v0 0), CV.fn n_fine_notes_c1 ([CV.ref [ci a2], CV.ref [ci a1_0, ci a1_1, ci a1_2, ci a1_3, ci a1_4, ci a1_5, ci a1_6, ci a1_7, ci a1_8]])])) fun v1 =>
          iteB ((gi v1 0) == (-1))
            (some (.ret [CV.row 7 (gr v0 0)]))
            (blkO 0 (loopD (fun v2 =>
                iteB (decide ((gi v2 1) < (il (gr v2 2))))
                  (chk (inb (gi v2 1) (gr v2 2)) <|
                  chk (decide ((Int.toNat (gi v2 1)) < (List.length (gr v2 2)))) <|
                  chk (oks (List.replicate 7 li) (el (gr v2 2) (gi v2 1)) 0) <|
                  callO (M n_fine_notes_c1 (cat [cis (el (gr v2 2) (gi v2 1)) 0 7, [CV.ref [ci a2], CV.ref [ci a1_0, ci a1_1, ci a1_2, ci a1_3, ci a1_4, ci a1_5, ci a1_6, ci a1_7, ci a1_8]]])) fun v3 =>
                  seqO (iteB (!(gb v3 0))
                      (chk (inb (gi v2 0) (gr v2 2)) <|
                      chk ((decide ((Int.toNat (gi v2 0)) < (List.length (gr v2 2)))) && (decide (7 ≤ 7))) <|
                      some (.nx [ci (wr ((gi v2 0) + 1)), CV.row 7 (List.set (gr v2 2) (Int.toNat (gi v2 0)) (spl (el (gr v2 2) (gi v2 0)) 0 (cis (el (gr v2 2) (gi v2 1)) 0 7)))]))
                      (some (.nx [ci (gi v2 0), CV.row 7 (gr v2 2)]))) fun v4 =>
                  some (.nx [ci (gi v4 0), ci (wr ((gi v2 1) + 1)), CV.row 7 (gr v4 1)]))
                  (some (.br 0 [ci (gi v2 0), CV.row 7 (gr v2 2)]))) [ci (gi v1 0), ci (wr ((gi v1 0) + 1)), CV.row 7 (gr v0 0)]) fun v2 =>
            chk ((decide (0 ≤ (gi v2 0))) && (decide ((gi v2 0) ≤ (il (gr v2 1))))) <|
            chk ((decide (0 ≤ (gi v2 0))) && (decide ((gi v2 0) ≤ (il ((List.take (Int.toNat (gi v2 0)) (gr v2 1)) ++ (List.replicate ((List.length (gr v2 1)) - (Int.toNat (gi v2 0))) [ci 0, ci 0, ci 0, ci 0, ci 0, ci 0, ci 0])))))) <|
            some (.ret ([CV.row 7 (List.take (Int.toNat (gi v2 0)) ((List.take (Int.toNat (gi v2 0)) (gr v2 1)) ++ (List.replicate ((List.length (gr v2 1)) - (Int.toNat (gi v2 0))) [ci 0, ci 0, ci 0, ci 0, ci 0, ci 0, ci 0])))])))) fun v1 =>
        some (.ret [CV.row 7 (gr v1 0)])
theorem r_fine_notes (M : Den) (a0_0 a0_1 a0_2 : List (List CV)) (a1_0 a1_1 a1_2 a1_3 a1_4 a1_5 a1_6 a1_7 a1_8 a2 : Int) : evF Try.prog sg M fe98 (bodyOf Try.f98) [(.row 24 a0_0), (.row 9 a0_1), (.row 7 a0_2), (ci a1_0), (ci a1_1), (ci a1_2), (ci a1_3), (ci a1_4), (ci a1_5), (ci a1_6), (ci a1_7), (ci a1_8), (ci a2)] = retO (R_fine_notes M a0_0 a0_1 a0_2 a1_0 a1_1 a1_2 a1_3 a1_4 a1_5 a1_6 a1_7 a1_8 a2) := by kernel_rfl
theorem q_fine_notes (n : Nat) (a0_0 a0_1 a0_2 : List (List CV)) (a1_0 a1_1 a1_2 a1_3 a1_4 a1_5 a1_6 a1_7 a1_8 a2 : Int) : D (n + 1) n_fine_notes [(.row 24 a0_0), (.row 9 a0_1), (.row 7 a0_2), (ci a1_0), (ci a1_1), (ci a1_2), (ci a1_3), (ci a1_4), (ci a1_5), (ci a1_6), (ci a1_7), (ci a1_8), (ci a2)] = retO (R_fine_notes (D n) a0_0 a0_1 a0_2 a1_0 a1_1 a1_2 a1_3 a1_4 a1_5 a1_6 a1_7 a1_8 a2) := (show D (n + 1) n_fine_notes [(.row 24 a0_0), (.row 9 a0_1), (.row 7 a0_2), (ci a1_0), (ci a1_1), (ci a1_2), (ci a1_3), (ci a1_4), (ci a1_5), (ci a1_6), (ci a1_7), (ci a1_8), (ci a2)] = evF Try.prog sg (D n) fe98 (bodyOf Try.f98) [(.row 24 a0_0), (.row 9 a0_1), (.row 7 a0_2), (ci a1_0), (ci a1_1), (ci a1_2), (ci a1_3), (ci a1_4), (ci a1_5), (ci a1_6), (ci a1_7), (ci a1_8), (ci a2)] from rfl).trans (r_fine_notes (D n) a0_0 a0_1 a0_2 a1_0 a1_1 a1_2 a1_3 a1_4 a1_5 a1_6 a1_7 a1_8 a2)
def R_slices_BinarySearchFunc_Note (M : Den) (a0 : List (List CV)) (a1_0 a1_1 a1_2 a1_3 a1_4 a1_5 a1_6 : Int) (a2 : CV) : Option Ou :=
    blkO 0 (loopD (fun v0 =>
            iteB (decide ((gi v0 0) < (gi v0 1)))
              (chk (inb (wr (Int.fdiv (IntKind.wrap .u64 (wr ((gi v0 0) + (gi v0 1)))) 2)) a0) <|
              chk (oks (List.replicate 7 li) (el a0 (wr (Int.fdiv (IntKind.wrap .u64 (wr ((gi v0 0) + (gi v0 1)))) 2))) 0) <|
              callO (callV sg M a2 (cat [cis (el a0 (wr (Int.fdiv (IntKind.wrap .u64 (wr ((gi v0 0) + (gi v0 1)))) 2))) 0 7, [ci a1_0, ci a1_1, ci a1_2, ci a1_3, ci a1_4, ci a1_5, ci a1_6]]) [.agg (List.replicate 7 li), .agg (List.replicate 7 li)] [.one li]) fun v1 =>
              seqO (iteB (decide ((gi v1 0) < 0))
                  (some (.nx [ci (wr ((wr (Int.fdiv (IntKind.wrap .u64 (wr ((gi v0 0) + (gi v0 1)))) 2)) + 1)), ci (gi v0 1)]))
                  (some (.nx [ci (gi v0 0), ci (wr (Int.fdiv (IntKind.wrap .u64 (wr ((gi v0 0) + (gi v0 1)))) 2))]))) fun v2 =>
              some (.nx [ci (gi v2 0), ci (gi v2 1)]))
              (some (.br 0 [ci (gi v0 0)]))) [ci 0, ci (il a0)]) fun v0 =>
        iteB (decide ((gi v0 0) < (il a0)))
          (chk (inb (gi v0 0) a0) <|
          chk (oks (List.replicate 7 li) (el a0 (gi v0 0)) 0) <|
          callO (callV sg M a2 (cat [cis (el a0 (gi v0 0)) 0 7, [ci a1_0, ci a1_1, ci a1_2, ci a1_3, ci a1_4, ci a1_5, ci a1_6]]) [.agg (List.replicate 7 li), .agg (List.replicate 7 li)] [.one li]) fun v1 =>
          some (.ret [ci (gi v0 0), cb ((gi v1 0) == 0)]))
          (some (.ret [ci (gi v0 0), cb false]))
theorem r_slices_BinarySearchFunc_Note (M : Den) (a0 : List (List CV)) (a1_0 a1_1 a1_2 a1_3 a1_4 a1_5 a1_6 : Int) (a2 : CV) : evF Try.prog sg M fe57 (bodyOf Try.f57) [(.row 7 a0), (ci a1_0), (ci a1_1), (ci a1_2), (ci a1_3), (ci a1_4), (ci a1_5), (ci a1_6), a2] = retO (R_slices_BinarySearchFunc_Note M a0 a1_0 a1_1 a1_2 a1_3 a1_4 a1_5 a1_6 a2) := by kernel_rfl
theorem q_slices_BinarySearchFunc_Note (n : Nat) (a0 : List (List CV)) (a1_0 a1_1 a1_2 a1_3 a1_4 a1_5 a1_6 : Int) (a2 : CV) : D (n + 1) n_slices_BinarySearchFunc_Note [(.row 7 a0), (ci a1_0), (ci a1_1), (ci a1_2), (ci a1_3), (ci a1_4), (ci a1_5), (ci a1_6), a2] = retO (R_slices_BinarySearchFunc_Note (D n) a0 a1_0 a1_1 a1_2 a1_3 a1_4 a1_5 a1_6 a2) := (show D (n + 1) n_slices_BinarySearchFunc_Note [(.row 7 a0), (ci a1_0), (ci a1_1), (ci a1_2), (ci a1_3), (ci a1_4), (ci a1_5), (ci a1_6), a2] = evF Try.prog sg (D n) fe57 (bodyOf Try.f57) [(.row 7 a0), (ci a1_0), (ci a1_1), (ci a1_2), (ci a1_3), (ci a1_4), (ci a1_5), (ci a1_6), a2] from rfl).trans (r_slices_BinarySearchFunc_Note (D n) a0 a1_0 a1_1 a1_2 a1_3 a1_4 a1_5 a1_6 a2)
def R_fine_due (M : Den) (a0_0 a0_1 a0_2 : List (List CV)) (a1_0 a1_1 a1_2 a1_3 a1_4 a1_5 a1_6 a1_7 a1_8 a2 : Int) : Option Ou :=
    callO (M n_fine_lot [CV.row 24 a0_0, CV.row 9 a0_1, CV.row 7 a0_2, ci a1_0, ci a1_1, ci a1_2, ci a1_3, ci a1_4, ci a1_5, ci a1_6, ci a1_7, ci a1_8, ci a2]) fun v0 =>
        callO (M n_fine_charge (cat [[CV.row 24 a0_0, CV.row 9 a0_1, CV.row 7 a0_2, ci a1_0, ci a1_1, ci a1_2, ci a1_3, ci a1_4, ci a1_5, ci a1_6, ci a1_7, ci a1_8], cis v0 0 4, [ci a2]])) fun v1 =>
        seqO (iteB ((gi v0 2) == 2)
            (some (.nx [ci 2, ci a1_4]))
            (seqO (iteB ((gi v0 2) != 3)
                (some (.nx [cb ((gi v0 0) != 0)]))
                (some (.nx [cb false]))) fun v2 =>
            seqO (iteB (gb v2 0)
                (some (.nx [ci (wr (2 + (gi v0 0))), ci (wr ((wr ((gi v1 0) + (gi v1 1))) + (gi v1 2)))]))
                (some (.nx [ci (-1), ci 0]))) fun v3 =>
            some (.nx [ci (gi v3 0), ci (gi v3 1)]))) fun v2 =>
        callO (M n_fine_inForce [CV.row 24 a0_0, CV.row 9 a0_1, CV.row 7 a0_2, ci a1_6]) fun v3 =>
        seqO (iteB (a1_5 != 0)
            (some (.nx [ci (gi v2 0), ci (wr (Int.tdiv (wr ((gi v2 1) * (gi v3 22))) 60)), ci (wr (Int.tdiv (wr ((gi v2 1) * (gi v3 23))) 60)), ci 0]))
            (some (.nx [ci (gi v2 0), ci (wr (Int.tdiv (wr ((gi v2 1) * (gi v3 22))) 60)), ci 0, ci 0]))) fun v4 =>
        some (.ret [ci (gi v4 0), ci (gi v4 1), ci (gi v4 2), ci (wr ((wr ((gi v2 1) - (gi v4 1))) - (gi v4 2)))])
theorem r_fine_due (M : Den) (a0_0 a0_1 a0_2 : List (List CV)) (a1_0 a1_1 a1_2 a1_3 a1_4 a1_5 a1_6 a1_7 a1_8 a2 : Int) : evF Try.prog sg M fe81 (bodyOf Try.f81) [(.row 24 a0_0), (.row 9 a0_1), (.row 7 a0_2), (ci a1_0), (ci a1_1), (ci a1_2), (ci a1_3), (ci a1_4), (ci a1_5), (ci a1_6), (ci a1_7), (ci a1_8), (ci a2)] = retO (R_fine_due M a0_0 a0_1 a0_2 a1_0 a1_1 a1_2 a1_3 a1_4 a1_5 a1_6 a1_7 a1_8 a2) := by kernel_rfl
theorem q_fine_due (n : Nat) (a0_0 a0_1 a0_2 : List (List CV)) (a1_0 a1_1 a1_2 a1_3 a1_4 a1_5 a1_6 a1_7 a1_8 a2 : Int) : D (n + 1) n_fine_due [(.row 24 a0_0), (.row 9 a0_1), (.row 7 a0_2), (ci a1_0), (ci a1_1), (ci a1_2), (ci a1_3), (ci a1_4), (ci a1_5), (ci a1_6), (ci a1_7), (ci a1_8), (ci a2)] = retO (R_fine_due (D n) a0_0 a0_1 a0_2 a1_0 a1_1 a1_2 a1_3 a1_4 a1_5 a1_6 a1_7 a1_8 a2) := (show D (n + 1) n_fine_due [(.row 24 a0_0), (.row 9 a0_1), (.row 7 a0_2), (ci a1_0), (ci a1_1), (ci a1_2), (ci a1_3), (ci a1_4), (ci a1_5), (ci a1_6), (ci a1_7), (ci a1_8), (ci a2)] = evF Try.prog sg (D n) fe81 (bodyOf Try.f81) [(.row 24 a0_0), (.row 9 a0_1), (.row 7 a0_2), (ci a1_0), (ci a1_1), (ci a1_2), (ci a1_3), (ci a1_4), (ci a1_5), (ci a1_6), (ci a1_7), (ci a1_8), (ci a2)] from rfl).trans (r_fine_due (D n) a0_0 a0_1 a0_2 a1_0 a1_1 a1_2 a1_3 a1_4 a1_5 a1_6 a1_7 a1_8 a2)
def R_fine_areRising_Note (M : Den) (a0 : List (List CV)) (a1 : Int) (a2 a3 : CV) : Option Ou :=
    blkO 0 (loopD (fun v0 =>
            iteB (decide ((gi v0 0) < (il a0)))
              (chk (inb (gi v0 0) a0) <|
              chk (oks (List.replicate 7 li) (el a0 (gi v0 0)) 0) <|
              seqO (callO (callV sg M a2 (cis (el a0 (gi v0 0)) 0 7) [.agg (List.replicate 7 li)] [.one li]) fun v1 =>
                iteB ((gi v1 0) != 0)
                  (some (.nx [cb true]))
                  (iteB (decide ((gi v0 0) > 0))
                    (chk (inb (wr ((gi v0 0) - 1)) a0) <|
                    chk (oks (List.replicate 7 li) (el a0 (wr ((gi v0 0) - 1))) 0) <|
                    callO (callV sg M a3 (cis (el a0 (wr ((gi v0 0) - 1))) 0 7) [.agg (List.replicate 7 li)] [.one li]) fun v2 =>
                    callO (callV sg M a3 (cis (el a0 (gi v0 0)) 0 7) [.agg (List.replicate 7 li)] [.one li]) fun v3 =>
                    some (.nx [cb (decide ((gi v2 0) ≥ (gi v3 0)))]))
                    (some (.nx [cb false])))) fun v1 =>
              iteB (gb v1 0)
                (some (.ret [cb false]))
                (some (.nx [ci (wr ((gi v0 0) + 1))])))
              (some (.br 0 []))) [ci 0]) fun v0 =>
        some (.ret [cb (decide ((il a0) ≤ a1))])
theorem r_fine_areRising_Note (M : Den) (a0 : List (List CV)) (a1 : Int) (a2 a3 : CV) : evF Try.prog sg M fe69 (bodyOf Try.f69) [(.row 7 a0), (ci a1), a2, a3] = retO (R_fine_areRising_Note M a0 a1 a2 a3) := by kernel_rfl
theorem q_fine_areRising_Note (n : Nat) (a0 : List (List CV)) (a1 : Int) (a2 a3 : CV) : D (n + 1) n_fine_areRising_Note [(.row 7 a0), (ci a1), a2, a3] = retO (R_fine_areRising_Note (D n) a0 a1 a2 a3) := (show D (n + 1) n_fine_areRising_Note [(.row 7 a0), (ci a1), a2, a3] = evF Try.prog sg (D n) fe69 (bodyOf Try.f69) [(.row 7 a0), (ci a1), a2, a3] from rfl).trans (r_fine_areRising_Note (D n) a0 a1 a2 a3)
def R_fine_CheckHeld (M : Den) (a0_0 a0_1 a0_2 a0_3 a0_4 a0_5 a0_6 a0_7 a0_8 : Int) : Option Ou :=
    seqO (callO (M n_fine_within [ci a0_0, ci 1, ci 99999]) fun v0 =>
          iteB (!(gb v0 0))
            (some (.nx [cb true]))
            (callO (M n_fine_within [ci a0_1, ci 1, ci 9999]) fun v1 =>
            iteB (!(gb v1 0))
              (some (.nx [cb true]))
              (callO (M n_fine_within [ci a0_2, ci 1, ci 9]) fun v2 =>
              iteB (!(gb v2 0))
                (some (.nx [cb true]))
                (callO (M n_fine_within [ci a0_3, ci 0, ci 100]) fun v3 =>
                iteB (!(gb v3 0))
                  (some (.nx [cb true]))
                  (callO (M n_fine_within [ci a0_4, ci 0, ci 100000]) fun v4 =>
                  iteB (!(gb v4 0))
                    (some (.nx [cb true]))
                    (callO (M n_fine_within [ci a0_5, ci 0, ci 99]) fun v5 =>
                    iteB (!(gb v5 0))
                      (some (.nx [cb true]))
                      (callO (M n_fine_areTimes [ci a0_6, ci a0_7, ci a0_8]) fun v6 =>
                      some (.nx [cb (!(gb v6 0))])))))))) fun v0 =>
        iteB (gb v0 0)
          (some (.ret [ci 61]))
          (some (.ret [ci 0]))
theorem r_fine_CheckHeld (M : Den) (a0_0 a0_1 a0_2 a0_3 a0_4 a0_5 a0_6 a0_7 a0_8 : Int) : evF Try.prog sg M fe20 (bodyOf Try.f20) [(ci a0_0), (ci a0_1), (ci a0_2), (ci a0_3), (ci a0_4), (ci a0_5), (ci a0_6), (ci a0_7), (ci a0_8)] = retO (R_fine_CheckHeld M a0_0 a0_1 a0_2 a0_3 a0_4 a0_5 a0_6 a0_7 a0_8) := by kernel_rfl
theorem q_fine_CheckHeld (n : Nat) (a0_0 a0_1 a0_2 a0_3 a0_4 a0_5 a0_6 a0_7 a0_8 : Int) : D (n + 1) n_fine_CheckHeld [(ci a0_0), (ci a0_1), (ci a0_2), (ci a0_3), (ci a0_4), (ci a0_5), (ci a0_6), (ci a0_7), (ci a0_8)] = retO (R_fine_CheckHeld (D n) a0_0 a0_1 a0_2 a0_3 a0_4 a0_5 a0_6 a0_7 a0_8) := (show D (n + 1) n_fine_CheckHeld [(ci a0_0), (ci a0_1), (ci a0_2), (ci a0_3), (ci a0_4), (ci a0_5), (ci a0_6), (ci a0_7), (ci a0_8)] = evF Try.prog sg (D n) fe20 (bodyOf Try.f20) [(ci a0_0), (ci a0_1), (ci a0_2), (ci a0_3), (ci a0_4), (ci a0_5), (ci a0_6), (ci a0_7), (ci a0_8)] from rfl).trans (r_fine_CheckHeld (D n) a0_0 a0_1 a0_2 a0_3 a0_4 a0_5 a0_6 a0_7 a0_8)
def R_fine_areDays (M : Den) (a0 : List (List CV)) : Option Ou :=
    blkO 0 (loopD (fun v0 =>
            iteB (decide ((gi v0 0) < (il a0)))
              (chk (inb (gi v0 0) a0) <|
              chk (oks [li] (el a0 (gi v0 0)) 0) <|
              seqO (callO (M n_fine_isDay [ci (gi (el a0 (gi v0 0)) 0)]) fun v1 =>
                iteB (!(gb v1 0))
                  (some (.nx [cb true]))
                  (iteB (decide ((gi v0 0) > 0))
                    (chk (inb (wr ((gi v0 0) - 1)) a0) <|
                    chk (oks [li] (el a0 (wr ((gi v0 0) - 1))) 0) <|
                    some (.nx [cb (decide ((gi (el a0 (wr ((gi v0 0) - 1))) 0) ≥ (gi (el a0 (gi v0 0)) 0)))]))
                    (some (.nx [cb false])))) fun v1 =>
              iteB (gb v1 0)
                (some (.ret [cb false]))
                (some (.nx [ci (wr ((gi v0 0) + 1))])))
              (some (.br 0 []))) [ci 0]) fun v0 =>
        some (.ret [cb (decide ((il a0) ≤ 12))])
theorem r_fine_areDays (M : Den) (a0 : List (List CV)) : evF Try.prog sg M fe100 (bodyOf Try.f100) [(.row 1 a0)] = retO (R_fine_areDays M a0) := by kernel_rfl
theorem q_fine_areDays (n : Nat) (a0 : List (List CV)) : D (n + 1) n_fine_areDays [(.row 1 a0)] = retO (R_fine_areDays (D n) a0) := (show D (n + 1) n_fine_areDays [(.row 1 a0)] = evF Try.prog sg (D n) fe100 (bodyOf Try.f100) [(.row 1 a0)] from rfl).trans (r_fine_areDays (D n) a0)
def R_fine_sold (M : Den) (a0_0 a0_1 a0_2 : List (List CV)) (a1_0 a1_1 a1_2 a1_3 a1_4 a1_5 a1_6 a1_7 a1_8 a2 : Int) : Option Ou :=
    iteB (a1_4 == 0)
          (some (.ret [ci (-1)]))
          (callO (M n_fine_days [ci a1_6, ci (if (wr (a1_6 + 720)) < a2 then wr (a1_6 + 720) else a2)]) fun v0 =>
          seqO (rangeO (itV sg M (List.getD v0 0 dC)) (fun x1 v1 =>
              callO (M n_fine_daily [CV.row 24 a0_0, CV.row 9 a0_1, CV.row 7 a0_2, ci a1_0, ci a1_1, ci a1_2, ci a1_3, ci a1_4, ci a1_5, ci a1_6, ci a1_7, ci a1_8, ci x1]) fun v2 =>
              inlO (some (.ret [ci (wr ((gi v1 1) + (gi v2 0)))])) fun v3 =>
              iteB (decide ((gi v3 0) ≥ a1_4))
                (some (.ret [ci x1]))
                (some (.nx [ci (gi v1 0), ci (gi v3 0)]))) [ci 0, ci 0]) fun v1 =>
          some (.ret [ci (-1)]))
theorem r_fine_sold (M : Den) (a0_0 a0_1 a0_2 : List (List CV)) (a1_0 a1_1 a1_2 a1_3 a1_4 a1_5 a1_6 a1_7 a1_8 a2 : Int) : evF Try.prog sg M fe114 (bodyOf Try.f114) [(.row 24 a0_0), (.row 9 a0_1), (.row 7 a0_2), (ci a1_0), (ci a1_1), (ci a1_2), (ci a1_3), (ci a1_4), (ci a1_5), (ci a1_6), (ci a1_7), (ci a1_8), (ci a2)] = retO (R_fine_sold M a0_0 a0_1 a0_2 a1_0 a1_1 a1_2 a1_3 a1_4 a1_5 a1_6 a1_7 a1_8 a2) := by kernel_rfl
theorem q_fine_sold (n : Nat) (a0_0 a0_1 a0_2 : List (List CV)) (a1_0 a1_1 a1_2 a1_3 a1_4 a1_5 a1_6 a1_7 a1_8 a2 : Int) : D (n + 1) n_fine_sold [(.row 24 a0_0), (.row 9 a0_1), (.row 7 a0_2), (ci a1_0), (ci a1_1), (ci a1_2), (ci a1_3), (ci a1_4), (ci a1_5), (ci a1_6), (ci a1_7), (ci a1_8), (ci a2)] = retO (R_fine_sold (D n) a0_0 a0_1 a0_2 a1_0 a1_1 a1_2 a1_3 a1_4 a1_5 a1_6 a1_7 a1_8 a2) := (show D (n + 1) n_fine_sold [(.row 24 a0_0), (.row 9 a0_1), (.row 7 a0_2), (ci a1_0), (ci a1_1), (ci a1_2), (ci a1_3), (ci a1_4), (ci a1_5), (ci a1_6), (ci a1_7), (ci a1_8), (ci a2)] = evF Try.prog sg (D n) fe114 (bodyOf Try.f114) [(.row 24 a0_0), (.row 9 a0_1), (.row 7 a0_2), (ci a1_0), (ci a1_1), (ci a1_2), (ci a1_3), (ci a1_4), (ci a1_5), (ci a1_6), (ci a1_7), (ci a1_8), (ci a2)] from rfl).trans (r_fine_sold (D n) a0_0 a0_1 a0_2 a1_0 a1_1 a1_2 a1_3 a1_4 a1_5 a1_6 a1_7 a1_8 a2)
def R_fine_Fed (M : Den) (a0_0 a0_1 a0_2 : List (List CV)) (a1 a2 : Int) : Option Ou :=
    callO (M n_fine_stayOf [CV.row 24 a0_0, CV.row 9 a0_1, CV.row 7 a0_2, ci a1, ci a2]) fun v0 =>
        iteB ((gi v0 9) != 0)
          (some (.ret [ci 0, ci (gi v0 9)]))
          (callO (M n_fine_lot (cat [[CV.row 24 a0_0, CV.row 9 a0_1, CV.row 7 a0_2], cis v0 0 9, [ci a2]])) fun v1 =>
          callO (M n_fine_fed (cat [cis v0 0 9, cis v1 0 4, [ci a2]])) fun v2 =>
          seqO (rangeO (itV sg M (List.getD v2 0 dC)) (fun x3 v3 =>
              some (.nx [ci (wr ((gi v3 0) + 1))])) [ci 0]) fun v3 =>
          some (.ret [ci (gi v3 0), ci 0]))
theorem r_fine_Fed (M : Den) (a0_0 a0_1 a0_2 : List (List CV)) (a1 a2 : Int) : evF Try.prog sg M fe30 (bodyOf Try.f30) [(.row 24 a0_0), (.row 9 a0_1), (.row 7 a0_2), (ci a1), (ci a2)] = retO (R_fine_Fed M a0_0 a0_1 a0_2 a1 a2) := by kernel_rfl
theorem q_fine_Fed (n : Nat) (a0_0 a0_1 a0_2 : List (List CV)) (a1 a2 : Int) : D (n + 1) n_fine_Fed [(.row 24 a0_0), (.row 9 a0_1), (.row 7 a0_2), (ci a1), (ci a2)] = retO (R_fine_Fed (D n) a0_0 a0_1 a0_2 a1 a2) := (show D (n + 1) n_fine_Fed [(.row 24 a0_0), (.row 9 a0_1), (.row 7 a0_2), (ci a1), (ci a2)] = evF Try.prog sg (D n) fe30 (bodyOf Try.f30) [(.row 24 a0_0), (.row 9 a0_1), (.row 7 a0_2), (ci a1), (ci a2)] from rfl).trans (r_fine_Fed (D n) a0_0 a0_1 a0_2 a1 a2)
def R_fine_notes_c1 (M : Den) (a0_0 a0_1 a0_2 a0_3 a0_4 a0_5 a0_6 : Int) (a1 a2 : List CV) : Option Ou :=
    chk (oks [li] a1 0) <|
        callO (M n_fine_counts [ci a0_5, ci a0_6, ci (gi a1 0)]) fun v0 =>
        iteB (!(gb v0 0))
          (some (.ret [cb true]))
          (chk (oks [li] (List.drop 0 a2) 0) <|
          iteB (a0_1 != (gi (List.drop 0 a2) 0))
            (some (.ret [cb true]))
            (chk (oks [li] (List.drop 6 a2) 0) <|
            chk (oks [li] a1 0) <|
            callO (M n_fine_within [ci a0_4, ci (gi (List.drop 6 a2) 0), ci (gi a1 0)]) fun v1 =>
            some (.ret [cb (!(gb v1 0))])))
theorem r_fine_notes_c1 (M : Den) (a0_0 a0_1 a0_2 a0_3 a0_4 a0_5 a0_6 : Int) (a1 a2 : List CV) : evF Try.prog sg M fe129 (bodyOf Try.f129) [(ci a0_0), (ci a0_1), (ci a0_2), (ci a0_3), (ci a0_4), (ci a0_5), (ci a0_6), (.ref a1), (.ref a2)] = retO (R_fine_notes_c1 M a0_0 a0_1 a0_2 a0_3 a0_4 a0_5 a0_6 a1 a2) := by kernel_rfl
theorem q_fine_notes_c1 (n : Nat) (a0_0 a0_1 a0_2 a0_3 a0_4 a0_5 a0_6 : Int) (a1 a2 : List CV) : D (n + 1) n_fine_notes_c1 [(ci a0_0), (ci a0_1), (ci a0_2), (ci a0_3), (ci a0_4), (ci a0_5), (ci a0_6), (.ref a1), (.ref a2)] = retO (R_fine_notes_c1 (D n) a0_0 a0_1 a0_2 a0_3 a0_4 a0_5 a0_6 a1 a2) := (show D (n + 1) n_fine_notes_c1 [(ci a0_0), (ci a0_1), (ci a0_2), (ci a0_3), (ci a0_4), (ci a0_5), (ci a0_6), (.ref a1), (.ref a2)] = evF Try.prog sg (D n) fe129 (bodyOf Try.f129) [(ci a0_0), (ci a0_1), (ci a0_2), (ci a0_3), (ci a0_4), (ci a0_5), (ci a0_6), (.ref a1), (.ref a2)] from rfl).trans (r_fine_notes_c1 (D n) a0_0 a0_1 a0_2 a0_3 a0_4 a0_5 a0_6 a1 a2)
def R_slices_IndexFunc_int (M : Den) (a0 : List (List CV)) (a1 : CV) : Option Ou :=
    blkO 0 (loopD (fun v0 =>
            iteB (decide ((gi v0 0) < (il a0)))
              (chk (inb (gi v0 0) a0) <|
              chk (oks [li] (el a0 (gi v0 0)) 0) <|
              callO (callV sg M a1 [ci (gi (el a0 (gi v0 0)) 0)] [.one li] [.one lb]) fun v1 =>
              iteB (gb v1 0)
                (some (.ret [ci (gi v0 0)]))
                (some (.nx [ci (wr ((gi v0 0) + 1))])))
              (some (.br 0 []))) [ci 0]) fun v0 =>
        some (.ret [ci (-1)])
theorem r_slices_IndexFunc_int (M : Den) (a0 : List (List CV)) (a1 : CV) : evF Try.prog sg M fe134 (bodyOf Try.f134) [(.row 1 a0), a1] = retO (R_slices_IndexFunc_int M a0 a1) := by kernel_rfl
theorem q_slices_IndexFunc_int (n : Nat) (a0 : List (List CV)) (a1 : CV) : D (n + 1) n_slices_IndexFunc_int [(.row 1 a0), a1] = retO (R_slices_IndexFunc_int (D n) a0 a1) := (show D (n + 1) n_slices_IndexFunc_int [(.row 1 a0), a1] = evF Try.prog sg (D n) fe134 (bodyOf Try.f134) [(.row 1 a0), a1] from rfl).trans (r_slices_IndexFunc_int (D n) a0 a1)
def R_r06_Has (M : Den) (a0 : List (List CV)) (a1 : Int) : Option Ou :=
    blkO 0 (loopD (fun v0 =>
            iteB (decide ((gi v0 0) < (il a0)))
              (chk (inb (gi v0 0) a0) <|
              chk (oks [li] (el a0 (gi v0 0)) 0) <|
              iteB ((gi (el a0 (gi v0 0)) 0) == a1)
                (some (.ret [cb true]))
                (some (.nx [ci (wr ((gi v0 0) + 1))])))
              (some (.br 0 []))) [ci 0]) fun v0 =>
        some (.ret [cb false])
theorem r_r06_Has (M : Den) (a0 : List (List CV)) (a1 : Int) : evF Try.prog sg M fe36 (bodyOf Try.f36) [(.row 1 a0), (ci a1)] = retO (R_r06_Has M a0 a1) := by kernel_rfl
theorem q_r06_Has (n : Nat) (a0 : List (List CV)) (a1 : Int) : D (n + 1) n_r06_Has [(.row 1 a0), (ci a1)] = retO (R_r06_Has (D n) a0 a1) := (show D (n + 1) n_r06_Has [(.row 1 a0), (ci a1)] = evF Try.prog sg (D n) fe36 (bodyOf Try.f36) [(.row 1 a0), (ci a1)] from rfl).trans (r_r06_Has (D n) a0 a1)
def R_fine_Lot (M : Den) (a0_0 a0_1 a0_2 : List (List CV)) (a1 a2 : Int) : Option Ou :=
    callO (M n_fine_stayOf [CV.row 24 a0_0, CV.row 9 a0_1, CV.row 7 a0_2, ci a1, ci a2]) fun v0 =>
        iteB ((gi v0 9) != 0)
          (some (.ret [ci 0, ci 0, ci 0, ci 0, ci (gi v0 9)]))
          (callO (M n_fine_lot (cat [[CV.row 24 a0_0, CV.row 9 a0_1, CV.row 7 a0_2], cis v0 0 9, [ci a2]])) fun v1 =>
          some (.ret (cat [cis v1 0 4, [ci 0]])))
theorem r_fine_Lot (M : Den) (a0_0 a0_1 a0_2 : List (List CV)) (a1 a2 : Int) : evF Try.prog sg M fe26 (bodyOf Try.f26) [(.row 24 a0_0), (.row 9 a0_1), (.row 7 a0_2), (ci a1), (ci a2)] = retO (R_fine_Lot M a0_0 a0_1 a0_2 a1 a2) := by kernel_rfl
theorem q_fine_Lot (n : Nat) (a0_0 a0_1 a0_2 : List (List CV)) (a1 a2 : Int) : D (n + 1) n_fine_Lot [(.row 24 a0_0), (.row 9 a0_1), (.row 7 a0_2), (ci a1), (ci a2)] = retO (R_fine_Lot (D n) a0_0 a0_1 a0_2 a1 a2) := (show D (n + 1) n_fine_Lot [(.row 24 a0_0), (.row 9 a0_1), (.row 7 a0_2), (ci a1), (ci a2)] = evF Try.prog sg (D n) fe26 (bodyOf Try.f26) [(.row 24 a0_0), (.row 9 a0_1), (.row 7 a0_2), (ci a1), (ci a2)] from rfl).trans (r_fine_Lot (D n) a0_0 a0_1 a0_2 a1 a2)
def R_fine_isRow (M : Den) (a0_0 a0_1 a0_2 a0_3 a0_4 a0_5 a0_6 a0_7 a0_8 a0_9 : Int) : Option Ou :=
    iteB (a0_0 == 0)
          (callO (M n_slices_ContainsFunc_int ([CV.row 1 (chunk 1 10 [ci a0_0, ci a0_1, ci a0_2, ci a0_3, ci a0_4, ci a0_5, ci a0_6, ci a0_7, ci a0_8, ci a0_9]), CV.fn n_fine_isRow_c1 []])) fun v0 =>
          some (.ret [cb (!(gb v0 0))]))
          (some (.ret [cb false]))
theorem r_fine_isRow (M : Den) (a0_0 a0_1 a0_2 a0_3 a0_4 a0_5 a0_6 a0_7 a0_8 a0_9 : Int) : evF Try.prog sg M fe72 (bodyOf Try.f72) [(ci a0_0), (ci a0_1), (ci a0_2), (ci a0_3), (ci a0_4), (ci a0_5), (ci a0_6), (ci a0_7), (ci a0_8), (ci a0_9)] = retO (R_fine_isRow M a0_0 a0_1 a0_2 a0_3 a0_4 a0_5 a0_6 a0_7 a0_8 a0_9) := by kernel_rfl
theorem q_fine_isRow (n : Nat) (a0_0 a0_1 a0_2 a0_3 a0_4 a0_5 a0_6 a0_7 a0_8 a0_9 : Int) : D (n + 1) n_fine_isRow [(ci a0_0), (ci a0_1), (ci a0_2), (ci a0_3), (ci a0_4), (ci a0_5), (ci a0_6), (ci a0_7), (ci a0_8), (ci a0_9)] = retO (R_fine_isRow (D n) a0_0 a0_1 a0_2 a0_3 a0_4 a0_5 a0_6 a0_7 a0_8 a0_9) := (show D (n + 1) n_fine_isRow [(ci a0_0), (ci a0_1), (ci a0_2), (ci a0_3), (ci a0_4), (ci a0_5), (ci a0_6), (ci a0_7), (ci a0_8), (ci a0_9)] = evF Try.prog sg (D n) fe72 (bodyOf Try.f72) [(ci a0_0), (ci a0_1), (ci a0_2), (ci a0_3), (ci a0_4), (ci a0_5), (ci a0_6), (ci a0_7), (ci a0_8), (ci a0_9)] from rfl).trans (r_fine_isRow (D n) a0_0 a0_1 a0_2 a0_3 a0_4 a0_5 a0_6 a0_7 a0_8 a0_9)
def R_slices_Clone_Held (M : Den) (a0 : List (List CV)) : Option Ou :=
    nilD a0
          (some (.ret ([CV.row 9 []])))
          (chk (fitA 0 (List.length a0) 72) <|
          some (.ret [CV.row 9 a0]))
theorem r_slices_Clone_Held (M : Den) (a0 : List (List CV)) : evF Try.prog sg M fe61 (bodyOf Try.f61) [(.row 9 a0)] = retO (R_slices_Clone_Held M a0) := by kernel_rfl
theorem q_slices_Clone_Held (n : Nat) (a0 : List (List CV)) : D (n + 1) n_slices_Clone_Held [(.row 9 a0)] = retO (R_slices_Clone_Held (D n) a0) := (show D (n + 1) n_slices_Clone_Held [(.row 9 a0)] = evF Try.prog sg (D n) fe61 (bodyOf Try.f61) [(.row 9 a0)] from rfl).trans (r_slices_Clone_Held (D n) a0)
def R_r06_Mod (M : Den) (a0 a1 : Int) : Option Ou :=
    chk (a1 != 0) <|
        chk (a1 != 0) <|
        some (.ret [ci (Int.tmod (wr ((Int.tmod a0 a1) + a1)) a1)])
theorem r_r06_Mod (M : Den) (a0 a1 : Int) : evF Try.prog sg M fe25 (bodyOf Try.f25) [(ci a0), (ci a1)] = retO (R_r06_Mod M a0 a1) := by kernel_rfl
theorem q_r06_Mod (n : Nat) (a0 a1 : Int) : D (n + 1) n_r06_Mod [(ci a0), (ci a1)] = retO (R_r06_Mod (D n) a0 a1) := (show D (n + 1) n_r06_Mod [(ci a0), (ci a1)] = evF Try.prog sg (D n) fe25 (bodyOf Try.f25) [(ci a0), (ci a1)] from rfl).trans (r_r06_Mod (D n) a0 a1)
def R_fine_isRow_c1 (M : Den) (a0 : Int) : Option Ou :=
    callO (M n_fine_within [ci a0, ci 0, ci 10000]) fun v0 =>
        some (.ret [cb (!(gb v0 0))])
theorem r_fine_isRow_c1 (M : Den) (a0 : Int) : evF Try.prog sg M fe112 (bodyOf Try.f112) [(ci a0)] = retO (R_fine_isRow_c1 M a0) := by kernel_rfl
theorem q_fine_isRow_c1 (n : Nat) (a0 : Int) : D (n + 1) n_fine_isRow_c1 [(ci a0)] = retO (R_fine_isRow_c1 (D n) a0) := (show D (n + 1) n_fine_isRow_c1 [(ci a0)] = evF Try.prog sg (D n) fe112 (bodyOf Try.f112) [(ci a0)] from rfl).trans (r_fine_isRow_c1 (D n) a0)
def R_fine_isDay (M : Den) (a0 : Int) : Option Ou :=
    callO (M n_fine_within [ci a0, ci 0, ci 100000]) fun v0 =>
        some (.ret [cb (gb v0 0)])
theorem r_fine_isDay (M : Den) (a0 : Int) : evF Try.prog sg M fe71 (bodyOf Try.f71) [(ci a0)] = retO (R_fine_isDay M a0) := by kernel_rfl
theorem q_fine_isDay (n : Nat) (a0 : Int) : D (n + 1) n_fine_isDay [(ci a0)] = retO (R_fine_isDay (D n) a0) := (show D (n + 1) n_fine_isDay [(ci a0)] = evF Try.prog sg (D n) fe71 (bodyOf Try.f71) [(ci a0)] from rfl).trans (r_fine_isDay (D n) a0)
def R_fine_days (M : Den) (a0 a1 : Int) : Option Ou :=
    some (.ret ([CV.fn n_fine_days_c1 ([CV.ref [ci a0], CV.ref [ci a1]])]))
theorem r_fine_days (M : Den) (a0 a1 : Int) : evF Try.prog sg M fe120 (bodyOf Try.f120) [(ci a0), (ci a1)] = retO (R_fine_days M a0 a1) := by kernel_rfl
theorem q_fine_days (n : Nat) (a0 a1 : Int) : D (n + 1) n_fine_days [(ci a0), (ci a1)] = retO (R_fine_days (D n) a0 a1) := (show D (n + 1) n_fine_days [(ci a0), (ci a1)] = evF Try.prog sg (D n) fe120 (bodyOf Try.f120) [(ci a0), (ci a1)] from rfl).trans (r_fine_days (D n) a0 a1)
def R_fine_heldOf (M : Den) (a0_0 a0_1 a0_2 a0_3 a0_4 a0_5 a0_6 a0_7 a0_8 : Int) : Option Ou :=
    some (.ret [ci a0_0])
theorem r_fine_heldOf (M : Den) (a0_0 a0_1 a0_2 a0_3 a0_4 a0_5 a0_6 a0_7 a0_8 : Int) : evF Try.prog sg M fe68 (bodyOf Try.f68) [(ci a0_0), (ci a0_1), (ci a0_2), (ci a0_3), (ci a0_4), (ci a0_5), (ci a0_6), (ci a0_7), (ci a0_8)] = retO (R_fine_heldOf M a0_0 a0_1 a0_2 a0_3 a0_4 a0_5 a0_6 a0_7 a0_8) := by kernel_rfl
theorem q_fine_heldOf (n : Nat) (a0_0 a0_1 a0_2 a0_3 a0_4 a0_5 a0_6 a0_7 a0_8 : Int) : D (n + 1) n_fine_heldOf [(ci a0_0), (ci a0_1), (ci a0_2), (ci a0_3), (ci a0_4), (ci a0_5), (ci a0_6), (ci a0_7), (ci a0_8)] = retO (R_fine_heldOf (D n) a0_0 a0_1 a0_2 a0_3 a0_4 a0_5 a0_6 a0_7 a0_8) := (show D (n + 1) n_fine_heldOf [(ci a0_0), (ci a0_1), (ci a0_2), (ci a0_3), (ci a0_4), (ci a0_5), (ci a0_6), (ci a0_7), (ci a0_8)] = evF Try.prog sg (D n) fe68 (bodyOf Try.f68) [(ci a0_0), (ci a0_1), (ci a0_2), (ci a0_3), (ci a0_4), (ci a0_5), (ci a0_6), (ci a0_7), (ci a0_8)] from rfl).trans (r_fine_heldOf (D n) a0_0 a0_1 a0_2 a0_3 a0_4 a0_5 a0_6 a0_7 a0_8)
end
end Go.Proofs.Ytabhbdehbpmpkaa
namespace Go.Proofs.Ytabhbdehbpmpkaa
open Go Go.Sx Go.Fine
set_option maxRecDepth 100000
theorem shp_int {n : Nat} {c : List CV} (h : Shp Try.prog (n + 1) 3 c) : ∃ m : Int, c = [ci m] ∧ -9223372036854775808 ≤ m ∧ m < 9223372036854775808 := by
  simp only [Shp, Try.underlying3] at h
  obtain ⟨m, rfl, hm⟩ := h
  refine ⟨m, rfl, ?_⟩
  simp [Lit.wf, IntKind.min, IntKind.max, IntKind.signed, IntKind.bits] at hm
  omega
theorem shp_ints {n : Nat} : ∀ {k : Nat} {c : List CV}, ShpL (Shp Try.prog (n + 1)) (List.replicate k 3) c → ∃ l : List Int, l.length = k ∧ c = l.map ci
  | 0, c, h => ⟨[], rfl, h⟩
  | k + 1, c, h => by
    simp only [List.replicate_succ, ShpL] at h
    obtain ⟨a, b, rfl, h1, h2⟩ := h
    obtain ⟨m, rfl, _⟩ := shp_int h1
    obtain ⟨l, h3, rfl⟩ := shp_ints h2
    exact ⟨m :: l, by simp [h3], rfl⟩
theorem rows_cv {A : Type} {cv : A → List CV} : ∀ {es : List (List CV)}, (∀ x ∈ es, ∃ a, x = cv a) → ∃ l : List A, es = l.map cv
  | [], _ => ⟨[], rfl⟩
  | e :: es, h => by
    obtain ⟨a, rfl⟩ := h e (by simp)
    obtain ⟨l, rfl⟩ := rows_cv (es := es) fun x hx => h x (by simp [hx])
    exact ⟨a :: l, rfl⟩
theorem reach_len {n m : Nat} (h : n * m ≤ reachBytes) (hm : 2 ≤ m) : n < 100000000000000 := by
  have h1 : n * 2 ≤ n * m := Nat.mul_le_mul_left _ hm
  have h2 : reachBytes < 2 ^ 47 := by decide
  omega
end Go.Proofs.Ytabhbdehbpmpkaa
namespace Go.Proofs.Ytabhbdehbpmpkaa
open Go Go.Sx
set_option maxRecDepth 100000
theorem en11 : ∃ fn, EntOk Try.prog 11 fe11 fn ∧ bodyOf Try.f11 = bodyOf fn := ⟨Try.f11, ⟨by kernel_rfl, by kernel_rfl, by kernel_rfl, by kernel_rfl, by kernel_rfl⟩, rfl⟩
theorem en12 : ∃ fn, EntOk Try.prog 12 fe12 fn ∧ bodyOf Try.f12 = bodyOf fn := ⟨Try.f12, ⟨by kernel_rfl, by kernel_rfl, by kernel_rfl, by kernel_rfl, by kernel_rfl⟩, rfl⟩
theorem en13 : ∃ fn, EntOk Try.prog 13 fe13 fn ∧ bodyOf Try.f13 = bodyOf fn := ⟨Try.f13, ⟨by kernel_rfl, by kernel_rfl, by kernel_rfl, by kernel_rfl, by kernel_rfl⟩, rfl⟩
theorem en16 : ∃ fn, EntOk Try.prog 16 fe16 fn ∧ bodyOf Try.f16 = bodyOf fn := ⟨Try.f16, ⟨by kernel_rfl, by kernel_rfl, by kernel_rfl, by kernel_rfl, by kernel_rfl⟩, rfl⟩
theorem en18 : ∃ fn, EntOk Try.prog 18 fe18 fn ∧ bodyOf Try.f18 = bodyOf fn := ⟨Try.f18, ⟨by kernel_rfl, by kernel_rfl, by kernel_rfl, by kernel_rfl, by kernel_rfl⟩, rfl⟩
theorem en20 : ∃ fn, EntOk Try.prog 20 fe20 fn ∧ bodyOf Try.f20 = bodyOf fn := ⟨Try.f20, ⟨by kernel_rfl, by kernel_rfl, by kernel_rfl, by kernel_rfl, by kernel_rfl⟩, rfl⟩
theorem en22 : ∃ fn, EntOk Try.prog 22 fe22 fn ∧ bodyOf Try.f22 = bodyOf fn := ⟨Try.f22, ⟨by kernel_rfl, by kernel_rfl, by kernel_rfl, by kernel_rfl, by kernel_rfl⟩, rfl⟩
theorem en24 : ∃ fn, EntOk Try.prog 24 fe24 fn ∧ bodyOf Try.f24 = bodyOf fn := ⟨Try.f24, ⟨by kernel_rfl, by kernel_rfl, by kernel_rfl, by kernel_rfl, by kernel_rfl⟩, rfl⟩
theorem en25 : ∃ fn, EntOk Try.prog 25 fe25 fn ∧ bodyOf Try.f25 = bodyOf fn := ⟨Try.f25, ⟨by kernel_rfl, by kernel_rfl, by kernel_rfl, by kernel_rfl, by kernel_rfl⟩, rfl⟩
theorem en26 : ∃ fn, EntOk Try.prog 26 fe26 fn ∧ bodyOf Try.f26 = bodyOf fn := ⟨Try.f26, ⟨by kernel_rfl, by kernel_rfl, by kernel_rfl, by kernel_rfl, by kernel_rfl⟩, rfl⟩
theorem en27 : ∃ fn, EntOk Try.prog 27 fe27 fn ∧ bodyOf Try.f27 = bodyOf fn := ⟨Try.f27, ⟨by kernel_rfl, by kernel_rfl, by kernel_rfl, by kernel_rfl, by kernel_rfl⟩, rfl⟩
theorem en28 : ∃ fn, EntOk Try.prog 28 fe28 fn ∧ bodyOf Try.f28 = bodyOf fn := ⟨Try.f28, ⟨by kernel_rfl, by kernel_rfl, by kernel_rfl, by kernel_rfl, by kernel_rfl⟩, rfl⟩
theorem en30 : ∃ fn, EntOk Try.prog 30 fe30 fn ∧ bodyOf Try.f30 = bodyOf fn := ⟨Try.f30, ⟨by kernel_rfl, by kernel_rfl, by kernel_rfl, by kernel_rfl, by kernel_rfl⟩, rfl⟩
theorem en36 : ∃ fn, EntOk Try.prog 36 fe36 fn ∧ bodyOf Try.f36 = bodyOf fn := ⟨Try.f36, ⟨by kernel_rfl, by kernel_rfl, by kernel_rfl, by kernel_rfl, by kernel_rfl⟩, rfl⟩
theorem en39 : ∃ fn, EntOk Try.prog 39 fe39 fn ∧ bodyOf Try.f39 = bodyOf fn := ⟨Try.f39, ⟨by kernel_rfl, by kernel_rfl, by kernel_rfl, by kernel_rfl, by kernel_rfl⟩, rfl⟩
theorem en44 : ∃ fn, EntOk Try.prog 44 fe44 fn ∧ bodyOf Try.f44 = bodyOf fn := ⟨Try.f44, ⟨by kernel_rfl, by kernel_rfl, by kernel_rfl, by kernel_rfl, by kernel_rfl⟩, rfl⟩
theorem en48 : ∃ fn, EntOk Try.prog 48 fe48 fn ∧ bodyOf Try.f48 = bodyOf fn := ⟨Try.f48, ⟨by kernel_rfl, by kernel_rfl, by kernel_rfl, by kernel_rfl, by kernel_rfl⟩, rfl⟩
theorem en53 : ∃ fn, EntOk Try.prog 53 fe53 fn ∧ bodyOf Try.f53 = bodyOf fn := ⟨Try.f53, ⟨by kernel_rfl, by kernel_rfl, by kernel_rfl, by kernel_rfl, by kernel_rfl⟩, rfl⟩
theorem en54 : ∃ fn, EntOk Try.prog 54 fe54 fn ∧ bodyOf Try.f54 = bodyOf fn := ⟨Try.f54, ⟨by kernel_rfl, by kernel_rfl, by kernel_rfl, by kernel_rfl, by kernel_rfl⟩, rfl⟩
theorem en55 : ∃ fn, EntOk Try.prog 55 fe55 fn ∧ bodyOf Try.f55 = bodyOf fn := ⟨Try.f55, ⟨by kernel_rfl, by kernel_rfl, by kernel_rfl, by kernel_rfl, by kernel_rfl⟩, rfl⟩
theorem en56 : ∃ fn, EntOk Try.prog 56 fe56 fn ∧ bodyOf Try.f56 = bodyOf fn := ⟨Try.f56, ⟨by kernel_rfl, by kernel_rfl, by kernel_rfl, by kernel_rfl, by kernel_rfl⟩, rfl⟩
theorem en57 : ∃ fn, EntOk Try.prog 57 fe57 fn ∧ bodyOf Try.f57 = bodyOf fn := ⟨Try.f57, ⟨by kernel_rfl, by kernel_rfl, by kernel_rfl, by kernel_rfl, by kernel_rfl⟩, rfl⟩
theorem en58 : ∃ fn, EntOk Try.prog 58 fe58 fn ∧ bodyOf Try.f58 = bodyOf fn := ⟨Try.f58, ⟨by kernel_rfl, by kernel_rfl, by kernel_rfl, by kernel_rfl, by kernel_rfl⟩, rfl⟩
theorem en59 : ∃ fn, EntOk Try.prog 59 fe59 fn ∧ bodyOf Try.f59 = bodyOf fn := ⟨Try.f59, ⟨by kernel_rfl, by kernel_rfl, by kernel_rfl, by kernel_rfl, by kernel_rfl⟩, rfl⟩
theorem en60 : ∃ fn, EntOk Try.prog 60 fe60 fn ∧ bodyOf Try.f60 = bodyOf fn := ⟨Try.f60, ⟨by kernel_rfl, by kernel_rfl, by kernel_rfl, by kernel_rfl, by kernel_rfl⟩, rfl⟩
theorem en61 : ∃ fn, EntOk Try.prog 61 fe61 fn ∧ bodyOf Try.f61 = bodyOf fn := ⟨Try.f61, ⟨by kernel_rfl, by kernel_rfl, by kernel_rfl, by kernel_rfl, by kernel_rfl⟩, rfl⟩
theorem en65 : ∃ fn, EntOk Try.prog 65 fe65 fn ∧ bodyOf Try.f65 = bodyOf fn := ⟨Try.f65, ⟨by kernel_rfl, by kernel_rfl, by kernel_rfl, by kernel_rfl, by kernel_rfl⟩, rfl⟩
theorem en66 : ∃ fn, EntOk Try.prog 66 fe66 fn ∧ bodyOf Try.f66 = bodyOf fn := ⟨Try.f66, ⟨by kernel_rfl, by kernel_rfl, by kernel_rfl, by kernel_rfl, by kernel_rfl⟩, rfl⟩
theorem en67 : ∃ fn, EntOk Try.prog 67 fe67 fn ∧ bodyOf Try.f67 = bodyOf fn := ⟨Try.f67, ⟨by kernel_rfl, by kernel_rfl, by kernel_rfl, by kernel_rfl, by kernel_rfl⟩, rfl⟩
theorem en68 : ∃ fn, EntOk Try.prog 68 fe68 fn ∧ bodyOf Try.f68 = bodyOf fn := ⟨Try.f68, ⟨by kernel_rfl, by kernel_rfl, by kernel_rfl, by kernel_rfl, by kernel_rfl⟩, rfl⟩
theorem en69 : ∃ fn, EntOk Try.prog 69 fe69 fn ∧ bodyOf Try.f69 = bodyOf fn := ⟨Try.f69, ⟨by kernel_rfl, by kernel_rfl, by kernel_rfl, by kernel_rfl, by kernel_rfl⟩, rfl⟩
theorem en70 : ∃ fn, EntOk Try.prog 70 fe70 fn ∧ bodyOf Try.f70 = bodyOf fn := ⟨Try.f70, ⟨by kernel_rfl, by kernel_rfl, by kernel_rfl, by kernel_rfl, by kernel_rfl⟩, rfl⟩
theorem en71 : ∃ fn, EntOk Try.prog 71 fe71 fn ∧ bodyOf Try.f71 = bodyOf fn := ⟨Try.f71, ⟨by kernel_rfl, by kernel_rfl, by kernel_rfl, by kernel_rfl, by kernel_rfl⟩, rfl⟩
theorem en72 : ∃ fn, EntOk Try.prog 72 fe72 fn ∧ bodyOf Try.f72 = bodyOf fn := ⟨Try.f72, ⟨by kernel_rfl, by kernel_rfl, by kernel_rfl, by kernel_rfl, by kernel_rfl⟩, rfl⟩
theorem en73 : ∃ fn, EntOk Try.prog 73 fe73 fn ∧ bodyOf Try.f73 = bodyOf fn := ⟨Try.f73, ⟨by kernel_rfl, by kernel_rfl, by kernel_rfl, by kernel_rfl, by kernel_rfl⟩, rfl⟩
theorem en76 : ∃ fn, EntOk Try.prog 76 fe76 fn ∧ bodyOf Try.f76 = bodyOf fn := ⟨Try.f76, ⟨by kernel_rfl, by kernel_rfl, by kernel_rfl, by kernel_rfl, by kernel_rfl⟩, rfl⟩
theorem en78 : ∃ fn, EntOk Try.prog 78 fe78 fn ∧ bodyOf Try.f78 = bodyOf fn := ⟨Try.f78, ⟨by kernel_rfl, by kernel_rfl, by kernel_rfl, by kernel_rfl, by kernel_rfl⟩, rfl⟩
theorem en79 : ∃ fn, EntOk Try.prog 79 fe79 fn ∧ bodyOf Try.f79 = bodyOf fn := ⟨Try.f79, ⟨by kernel_rfl, by kernel_rfl, by kernel_rfl, by kernel_rfl, by kernel_rfl⟩, rfl⟩
theorem en80 : ∃ fn, EntOk Try.prog 80 fe80 fn ∧ bodyOf Try.f80 = bodyOf fn := ⟨Try.f80, ⟨by kernel_rfl, by kernel_rfl, by kernel_rfl, by kernel_rfl, by kernel_rfl⟩, rfl⟩
theorem en81 : ∃ fn, EntOk Try.prog 81 fe81 fn ∧ bodyOf Try.f81 = bodyOf fn := ⟨Try.f81, ⟨by kernel_rfl, by kernel_rfl, by kernel_rfl, by kernel_rfl, by kernel_rfl⟩, rfl⟩
theorem en84 : ∃ fn, EntOk Try.prog 84 fe84 fn ∧ bodyOf Try.f84 = bodyOf fn := ⟨Try.f84, ⟨by kernel_rfl, by kernel_rfl, by kernel_rfl, by kernel_rfl, by kernel_rfl⟩, rfl⟩
theorem en88 : ∃ fn, EntOk Try.prog 88 fe88 fn ∧ bodyOf Try.f88 = bodyOf fn := ⟨Try.f88, ⟨by kernel_rfl, by kernel_rfl, by kernel_rfl, by kernel_rfl, by kernel_rfl⟩, rfl⟩
theorem en90 : ∃ fn, EntOk Try.prog 90 fe90 fn ∧ bodyOf Try.f90 = bodyOf fn := ⟨Try.f90, ⟨by kernel_rfl, by kernel_rfl, by kernel_rfl, by kernel_rfl, by kernel_rfl⟩, rfl⟩
theorem en92 : ∃ fn, EntOk Try.prog 92 fe92 fn ∧ bodyOf Try.f92 = bodyOf fn := ⟨Try.f92, ⟨by kernel_rfl, by kernel_rfl, by kernel_rfl, by kernel_rfl, by kernel_rfl⟩, rfl⟩
theorem en94 : ∃ fn, EntOk Try.prog 94 fe94 fn ∧ bodyOf Try.f94 = bodyOf fn := ⟨Try.f94, ⟨by kernel_rfl, by kernel_rfl, by kernel_rfl, by kernel_rfl, by kernel_rfl⟩, rfl⟩
theorem en98 : ∃ fn, EntOk Try.prog 98 fe98 fn ∧ bodyOf Try.f98 = bodyOf fn := ⟨Try.f98, ⟨by kernel_rfl, by kernel_rfl, by kernel_rfl, by kernel_rfl, by kernel_rfl⟩, rfl⟩
theorem en100 : ∃ fn, EntOk Try.prog 100 fe100 fn ∧ bodyOf Try.f100 = bodyOf fn := ⟨Try.f100, ⟨by kernel_rfl, by kernel_rfl, by kernel_rfl, by kernel_rfl, by kernel_rfl⟩, rfl⟩
theorem en101 : ∃ fn, EntOk Try.prog 101 fe101 fn ∧ bodyOf Try.f101 = bodyOf fn := ⟨Try.f101, ⟨by kernel_rfl, by kernel_rfl, by kernel_rfl, by kernel_rfl, by kernel_rfl⟩, rfl⟩
theorem en105 : ∃ fn, EntOk Try.prog 105 fe105 fn ∧ bodyOf Try.f105 = bodyOf fn := ⟨Try.f105, ⟨by kernel_rfl, by kernel_rfl, by kernel_rfl, by kernel_rfl, by kernel_rfl⟩, rfl⟩
theorem en106 : ∃ fn, EntOk Try.prog 106 fe106 fn ∧ bodyOf Try.f106 = bodyOf fn := ⟨Try.f106, ⟨by kernel_rfl, by kernel_rfl, by kernel_rfl, by kernel_rfl, by kernel_rfl⟩, rfl⟩
theorem en107 : ∃ fn, EntOk Try.prog 107 fe107 fn ∧ bodyOf Try.f107 = bodyOf fn := ⟨Try.f107, ⟨by kernel_rfl, by kernel_rfl, by kernel_rfl, by kernel_rfl, by kernel_rfl⟩, rfl⟩
theorem en108 : ∃ fn, EntOk Try.prog 108 fe108 fn ∧ bodyOf Try.f108 = bodyOf fn := ⟨Try.f108, ⟨by kernel_rfl, by kernel_rfl, by kernel_rfl, by kernel_rfl, by kernel_rfl⟩, rfl⟩
theorem en111 : ∃ fn, EntOk Try.prog 111 fe111 fn ∧ bodyOf Try.f111 = bodyOf fn := ⟨Try.f111, ⟨by kernel_rfl, by kernel_rfl, by kernel_rfl, by kernel_rfl, by kernel_rfl⟩, rfl⟩
theorem en112 : ∃ fn, EntOk Try.prog 112 fe112 fn ∧ bodyOf Try.f112 = bodyOf fn := ⟨Try.f112, ⟨by kernel_rfl, by kernel_rfl, by kernel_rfl, by kernel_rfl, by kernel_rfl⟩, rfl⟩
theorem en113 : ∃ fn, EntOk Try.prog 113 fe113 fn ∧ bodyOf Try.f113 = bodyOf fn := ⟨Try.f113, ⟨by kernel_rfl, by kernel_rfl, by kernel_rfl, by kernel_rfl, by kernel_rfl⟩, rfl⟩
theorem en114 : ∃ fn, EntOk Try.prog 114 fe114 fn ∧ bodyOf Try.f114 = bodyOf fn := ⟨Try.f114, ⟨by kernel_rfl, by kernel_rfl, by kernel_rfl, by kernel_rfl, by kernel_rfl⟩, rfl⟩
theorem en115 : ∃ fn, EntOk Try.prog 115 fe115 fn ∧ bodyOf Try.f115 = bodyOf fn := ⟨Try.f115, ⟨by kernel_rfl, by kernel_rfl, by kernel_rfl, by kernel_rfl, by kernel_rfl⟩, rfl⟩
theorem en120 : ∃ fn, EntOk Try.prog 120 fe120 fn ∧ bodyOf Try.f120 = bodyOf fn := ⟨Try.f120, ⟨by kernel_rfl, by kernel_rfl, by kernel_rfl, by kernel_rfl, by kernel_rfl⟩, rfl⟩
theorem en122 : ∃ fn, EntOk Try.prog 122 fe122 fn ∧ bodyOf Try.f122 = bodyOf fn := ⟨Try.f122, ⟨by kernel_rfl, by kernel_rfl, by kernel_rfl, by kernel_rfl, by kernel_rfl⟩, rfl⟩
theorem en126 : ∃ fn, EntOk Try.prog 126 fe126 fn ∧ bodyOf Try.f126 = bodyOf fn := ⟨Try.f126, ⟨by kernel_rfl, by kernel_rfl, by kernel_rfl, by kernel_rfl, by kernel_rfl⟩, rfl⟩
theorem en127 : ∃ fn, EntOk Try.prog 127 fe127 fn ∧ bodyOf Try.f127 = bodyOf fn := ⟨Try.f127, ⟨by kernel_rfl, by kernel_rfl, by kernel_rfl, by kernel_rfl, by kernel_rfl⟩, rfl⟩
theorem en128 : ∃ fn, EntOk Try.prog 128 fe128 fn ∧ bodyOf Try.f128 = bodyOf fn := ⟨Try.f128, ⟨by kernel_rfl, by kernel_rfl, by kernel_rfl, by kernel_rfl, by kernel_rfl⟩, rfl⟩
theorem en129 : ∃ fn, EntOk Try.prog 129 fe129 fn ∧ bodyOf Try.f129 = bodyOf fn := ⟨Try.f129, ⟨by kernel_rfl, by kernel_rfl, by kernel_rfl, by kernel_rfl, by kernel_rfl⟩, rfl⟩
theorem en132 : ∃ fn, EntOk Try.prog 132 fe132 fn ∧ bodyOf Try.f132 = bodyOf fn := ⟨Try.f132, ⟨by kernel_rfl, by kernel_rfl, by kernel_rfl, by kernel_rfl, by kernel_rfl⟩, rfl⟩
theorem en134 : ∃ fn, EntOk Try.prog 134 fe134 fn ∧ bodyOf Try.f134 = bodyOf fn := ⟨Try.f134, ⟨by kernel_rfl, by kernel_rfl, by kernel_rfl, by kernel_rfl, by kernel_rfl⟩, rfl⟩
theorem en137 : ∃ fn, EntOk Try.prog 137 fe137 fn ∧ bodyOf Try.f137 = bodyOf fn := ⟨Try.f137, ⟨by kernel_rfl, by kernel_rfl, by kernel_rfl, by kernel_rfl, by kernel_rfl⟩, rfl⟩
theorem tb_ok : ∀ e ∈ tb, ∃ fn, EntOk Try.prog e.1 e.2.1 fn ∧ e.2.2 = bodyOf fn := by
  intro e he
  unfold tb at he
  rcases List.mem_cons.1 he with rfl | he
  · exact en11
  rcases List.mem_cons.1 he with rfl | he
  · exact en12
  rcases List.mem_cons.1 he with rfl | he
  · exact en13
  rcases List.mem_cons.1 he with rfl | he
  · exact en16
  rcases List.mem_cons.1 he with rfl | he
  · exact en18
  rcases List.mem_cons.1 he with rfl | he
  · exact en20
  rcases List.mem_cons.1 he with rfl | he
  · exact en22
  rcases List.mem_cons.1 he with rfl | he
  · exact en24
  rcases List.mem_cons.1 he with rfl | he
  · exact en25
  rcases List.mem_cons.1 he with rfl | he
  · exact en26
  rcases List.mem_cons.1 he with rfl | he
  · exact en27
  rcases List.mem_cons.1 he with rfl | he
  · exact en28
  rcases List.mem_cons.1 he with rfl | he
  · exact en30
  rcases List.mem_cons.1 he with rfl | he
  · exact en36
  rcases List.mem_cons.1 he with rfl | he
  · exact en39
  rcases List.mem_cons.1 he with rfl | he
  · exact en44
  rcases List.mem_cons.1 he with rfl | he
  · exact en48
  rcases List.mem_cons.1 he with rfl | he
  · exact en53
  rcases List.mem_cons.1 he with rfl | he
  · exact en54
  rcases List.mem_cons.1 he with rfl | he
  · exact en55
  rcases List.mem_cons.1 he with rfl | he
  · exact en56
  rcases List.mem_cons.1 he with rfl | he
  · exact en57
  rcases List.mem_cons.1 he with rfl | he
  · exact en58
  rcases List.mem_cons.1 he with rfl | he
  · exact en59
  rcases List.mem_cons.1 he with rfl | he
  · exact en60
  rcases List.mem_cons.1 he with rfl | he
  · exact en61
  rcases List.mem_cons.1 he with rfl | he
  · exact en65
  rcases List.mem_cons.1 he with rfl | he
  · exact en66
  rcases List.mem_cons.1 he with rfl | he
  · exact en67
  rcases List.mem_cons.1 he with rfl | he
  · exact en68
  rcases List.mem_cons.1 he with rfl | he
  · exact en69
  rcases List.mem_cons.1 he with rfl | he
  · exact en70
  rcases List.mem_cons.1 he with rfl | he
  · exact en71
  rcases List.mem_cons.1 he with rfl | he
  · exact en72
  rcases List.mem_cons.1 he with rfl | he
  · exact en73
  rcases List.mem_cons.1 he with rfl | he
  · exact en76
  rcases List.mem_cons.1 he with rfl | he
  · exact en78
  rcases List.mem_cons.1 he with rfl | he
  · exact en79
  rcases List.mem_cons.1 he with rfl | he
  · exact en80
  rcases List.mem_cons.1 he with rfl | he
  · exact en81
  rcases List.mem_cons.1 he with rfl | he
  · exact en84
  rcases List.mem_cons.1 he with rfl | he
  · exact en88
  rcases List.mem_cons.1 he with rfl | he
  · exact en90
  rcases List.mem_cons.1 he with rfl | he
  · exact en92
  rcases List.mem_cons.1 he with rfl | he
  · exact en94
  rcases List.mem_cons.1 he with rfl | he
  · exact en98
  rcases List.mem_cons.1 he with rfl | he
  · exact en100
  rcases List.mem_cons.1 he with rfl | he
  · exact en101
  rcases List.mem_cons.1 he with rfl | he
  · exact en105
  rcases List.mem_cons.1 he with rfl | he
  · exact en106
  rcases List.mem_cons.1 he with rfl | he
  · exact en107
  rcases List.mem_cons.1 he with rfl | he
  · exact en108
  rcases List.mem_cons.1 he with rfl | he
  · exact en111
  rcases List.mem_cons.1 he with rfl | he
  · exact en112
  rcases List.mem_cons.1 he with rfl | he
  · exact en113
  rcases List.mem_cons.1 he with rfl | he
  · exact en114
  rcases List.mem_cons.1 he with rfl | he
  · exact en115
  rcases List.mem_cons.1 he with rfl | he
  · exact en120
  rcases List.mem_cons.1 he with rfl | he
  · exact en122
  rcases List.mem_cons.1 he with rfl | he
  · exact en126
  rcases List.mem_cons.1 he with rfl | he
  · exact en127
  rcases List.mem_cons.1 he with rfl | he
  · exact en128
  rcases List.mem_cons.1 he with rfl | he
  · exact en129
  rcases List.mem_cons.1 he with rfl | he
  · exact en132
  rcases List.mem_cons.1 he with rfl | he
  · exact en134
  rcases List.mem_cons.1 he with rfl | he
  · exact en137
  cases he
end Go.Proofs.Ytabhbdehbpmpkaa
namespace Go.Proofs.Ytabhbdehbpmpkaa
open Go Go.Sx Go.Fine
set_option maxRecDepth 10000
attribute [local simp] Bool.and_assoc Bool.or_assoc
theorem v_isRow_c1 (M : Den) (x : CV) : callV sg M (.fn n_fine_isRow_c1 []) [x] [.one li] [.one lb] = M n_fine_isRow_c1 [x] := rfl
theorem v_check_c1 (M : Den) (x : CV) : callV sg M (.fn n_fine_check_c1 []) [x] [.one li] [.one lb] = M n_fine_check_c1 [x] := rfl
@[simp] theorem w_within (n : Nat) (a b c : Int) : D (n + 1) n_fine_within [ci a, ci b, ci c] = some [cb (within a b c)] := by
  rw [q_fine_within]; simp [R_fine_within, within]
@[simp] theorem w_isDay (n : Nat) (a : Int) : D (n + 2) n_fine_isDay [ci a] = some [cb (isDay a)] := by
  rw [q_fine_isDay]; simp [R_fine_isDay, isDay]
@[simp] theorem w_areTimes (n : Nat) (a b c : Int) : D (n + 3) n_fine_areTimes [ci a, ci b, ci c] = some [cb (areTimes a b c)] := by
  rw [q_fine_areTimes]; simp [R_fine_areTimes, areTimes, retO_ite]
@[simp] theorem w_counts (n : Nat) (a b c : Int) : D (n + 1) n_fine_counts [ci a, ci b, ci c] = some [cb (counts a b c)] := by
  rw [q_fine_counts]; simp [R_fine_counts, counts, retO_ite]
@[simp] theorem w_isRow_c1 (n : Nat) (a : Int) : D (n + 2) n_fine_isRow_c1 [ci a] = some [cb (!within a 0 10000)] := by
  rw [q_fine_isRow_c1]; simp [R_fine_isRow_c1]
@[simp] theorem w_check_c1 (n : Nat) (a : Int) : D (n + 3) n_fine_check_c1 [ci a] = some [cb (!isDay a)] := by
  rw [q_fine_check_c1]; simp [R_fine_check_c1]
@[simp] theorem w_isNaN (n : Nat) (a : Int) : D (n + 1) n_cmp_isNaN_int [ci a] = some [cb false] := by
  rw [q_cmp_isNaN_int]; simp [R_cmp_isNaN_int]
@[simp] theorem w_Compare (n : Nat) (a b : Int) : D (n + 2) n_cmp_Compare_int [ci a, ci b] = some [ci (if a < b then -1 else if a > b then 1 else 0)] := by
  rw [q_cmp_Compare_int]; simp [R_cmp_Compare_int]
@[simp] theorem w_days (n : Nat) (a b : Int) : D (n + 1) n_fine_days [ci a, ci b] = some [.fn n_fine_days_c1 [.ref [ci a], .ref [ci b]]] := by
  rw [q_fine_days]; simp [R_fine_days]
end Go.Proofs.Ytabhbdehbpmpkaa
namespace Go.Proofs.Ytabhbdehbpmpkaa
open Go Go.Sx Go.Fine
set_option maxRecDepth 10000
attribute [local simp] Bool.and_assoc Bool.or_assoc
@[simp] theorem w_CheckHeld (n : Nat) (s : Held) : D (n + 4) n_fine_CheckHeld [ci s.src, ci s.beast, ci s.sort, ci s.eats, ci s.worth, ci s.drv, ci s.day, ci s.known, ci s.til] = some [ci (if s.ok = true then 0 else 61)] := by
  rw [q_fine_CheckHeld]; simp [R_fine_CheckHeld, Held.ok]; grind
@[simp] theorem w_CheckNote (n : Nat) (s : Note) : D (n + 4) n_fine_CheckNote [ci s.src, ci s.stay, ci s.kind, ci s.owner, ci s.day, ci s.known, ci s.til] = some [ci (if s.ok = true then 0 else 62)] := by
  rw [q_fine_CheckNote]; simp [R_fine_CheckNote, Note.ok]; grind
theorem w_IndexFunc_int (n : Nat) (l : List Int) (f : CV) (p : Int → Bool) (hl : l.length < 9223372036854775807) (hf : ∀ x ∈ l, callV sg (D n) f [ci x] [.one li] [.one lb] = some [cb (p x)]) :
    D (n + 1) n_slices_IndexFunc_int [.row 1 (ints l), f] = some [ci (match (List.range l.length).find? (fun i => p (l.getD i 0)) with | some i => (i : Int) | none => -1)] := by
  have hg : ∀ i (h : i < l.length), l.getD i 0 = l[i] := fun i h => by simp [h]
  have hf' : ∀ i (h : i < l.length), callV sg (D n) f [ci l[i]] [.one li] [.one lb] = some [cb (p l[i])] := fun i h => hf _ (List.getElem_mem h)
  rw [q_slices_IndexFunc_int]
  unfold R_slices_IndexFunc_int
  rw [loop_find l.length (fun i => [ci (i : Int)]) (fun i => p (l.getD i 0)) (fun i => some (.ret [ci (i : Int)])) (some (.br 0 [])) ?hv ?hR ?hX
    (fun i hi hp => ?h1) (fun i hi hp => ?h2) ?h3]
  case hv => rfl
  case hR => simp
  case hX => simp
  case h3 => simp [ints]
  case h1 =>
    rw [hg i hi] at hp
    simp [ints, hi, hp, inb_map, el_map, hf', wr_nat (show i < 9223372036854775807 by omega)]
  case h2 =>
    rw [hg i hi] at hp
    simp [ints, hi, hp, inb_map, el_map, hf']
  · cases (List.range l.length).find? fun i => p (l.getD i 0) <;> simp
theorem find_any {l : List Int} {p : Int → Bool} : (∃ i, (List.range l.length).find? (fun i => p (l.getD i 0)) = some i) ↔ l.any p = true := by
  constructor
  · rintro ⟨i, hi⟩
    have h1 := List.find?_some hi
    have h2 := List.mem_of_find?_eq_some hi
    rw [List.mem_range] at h2
    simp only [List.any_eq_true]
    exact ⟨l[i], List.getElem_mem h2, by simpa [h2] using h1⟩
  · intro h
    obtain ⟨x, hx, hp⟩ := List.any_eq_true.1 h
    obtain ⟨i, hi, rfl⟩ := List.mem_iff_getElem.1 hx
    cases hf : (List.range l.length).find? (fun i => p (l.getD i 0)) with
    | some j => exact ⟨j, rfl⟩
    | none =>
      rw [List.find?_eq_none] at hf
      have := hf i (by simpa using hi)
      simp [hi, hp] at this
theorem w_ContainsFunc_int (n : Nat) (l : List Int) (f : CV) (p : Int → Bool) (hl : l.length < 9223372036854775807) (hf : ∀ x ∈ l, callV sg (D n) f [ci x] [.one li] [.one lb] = some [cb (p x)]) :
    D (n + 2) n_slices_ContainsFunc_int [.row 1 (ints l), f] = some [cb (l.any p)] := by
  rw [q_slices_ContainsFunc_int]
  simp only [R_slices_ContainsFunc_int, w_IndexFunc_int n l f p hl hf]
  have key := @find_any l p
  cases hh : (List.range l.length).find? (fun i => p (l.getD i 0)) with
  | some i => simp [key.1 ⟨i, hh⟩]
  | none =>
    have : l.any p = false := by
      cases hc : l.any p with
      | false => rfl
      | true => obtain ⟨i, hi⟩ := key.2 hc; rw [hh] at hi; cases hi
    simp [this]
theorem w_isRow (n : Nat) (a0 a1 a2 a3 a4 a5 a6 a7 a8 a9 : Int) : D (n + 5) n_fine_isRow [ci a0, ci a1, ci a2, ci a3, ci a4, ci a5, ci a6, ci a7, ci a8, ci a9] = some [cb (rowOk [a0, a1, a2, a3, a4, a5, a6, a7, a8, a9])] := by
  rw [q_fine_isRow]
  have := w_ContainsFunc_int (n + 2) [a0, a1, a2, a3, a4, a5, a6, a7, a8, a9] (.fn n_fine_isRow_c1 []) (fun x => !within x 0 10000) (by simp) (fun x _ => by rw [v_isRow_c1]; simp)
  simp only [ints, List.map_cons, List.map_nil] at this
  simp [R_fine_isRow, this, retO_ite, rowOk, List.all_cons]
attribute [simp] w_isRow
@[simp] theorem w_CheckTariff (n : Nat) (t : Tariff) : D (n + 6) n_fine_CheckTariff [ci t.frm, ci t.h0, ci t.h1, ci t.h2, ci t.h3, ci t.h4, ci t.h5, ci t.h6, ci t.h7, ci t.h8, ci t.h9, ci t.d0, ci t.d1, ci t.d2, ci t.d3, ci t.d4, ci t.d5, ci t.d6, ci t.d7, ci t.d8, ci t.d9, ci t.feed, ci t.hay, ci t.drv] = some [ci (if t.ok = true then 0 else 60)] := by
  rw [q_fine_CheckTariff]
  by_cases hw : within t.hay 0 60 = true ∧ within t.drv 0 60 = true
  · have e : wr (t.hay + t.drv) = t.hay + t.drv := by
      simp only [within, Bool.and_eq_true, decide_eq_true_eq] at hw
      rw [wr_of (by omega) (by omega)]
    simp [R_fine_CheckTariff, Tariff.ok, Tariff.hs, Tariff.ds, hw, e]; grind
  · simp [R_fine_CheckTariff, Tariff.ok, Tariff.hs, Tariff.ds]; grind
end Go.Proofs.Ytabhbdehbpmpkaa
