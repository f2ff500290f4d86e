/-
  Proved: the postings of days, whether postings are those, and what a party got, are as the chapter says; conditions: none.
-/
import Derived.KernelRfl
import Derived.Test.YtabhbdehbpmpkaaProg
import Derived.Test.YtabhbdehbpmpkaaP09
namespace Go.Proofs.Ytabhbdehbpmpkaa
open Go Go.Sx
set_option maxRecDepth 100000
set_option maxHeartbeats 0
noncomputable section
def R_law06_sane (M : Den)  : Option Ou :=
    callO (M n_law06_example []) fun v0 =>
        callO (M n_fine_Lot [CV.row 24 (gr v0 0), CV.row 9 (gr v0 1), CV.row 7 (gr v0 2), ci 1, ci 14]) fun v1 =>
        callO (M n_fine_Charged [CV.row 24 (gr v0 0), CV.row 9 (gr v0 1), CV.row 7 (gr v0 2), ci 1, ci 13]) fun v2 =>
        callO (M n_fine_Lot [CV.row 24 (gr v0 0), CV.row 9 (gr v0 1), CV.row 7 (gr v0 2), ci 1, ci 20]) fun v3 =>
        callO (M n_fine_Dues [CV.row 24 (gr v0 0), CV.row 9 (gr v0 1), CV.row 7 (gr v0 2), ci 1, ci 20]) fun v4 =>
        callO (M n_fine_Posts ([CV.row 24 (gr v0 0), CV.row 9 (gr v0 1), CV.row 7 (gr v0 2), CV.row 1 (chunk 1 3 [ci 13, ci 14, ci 20])])) fun v5 =>
        callO (M n_fine_Noted [CV.row 24 (gr v0 0), CV.row 9 (gr v0 1), CV.row 7 (gr v0 2), ci 4, ci 1, ci 3, ci 6, ci 18, ci 18, ci 0]) fun v6 =>
        callO (M n_fine_Posts ([CV.row 24 (gr v6 0), CV.row 9 (gr v6 1), CV.row 7 (gr v6 2), CV.row 1 (chunk 1 2 [ci 15, ci 18])])) fun v7 =>
        callO (M n_fine_Owed [CV.row 24 (gr v0 0), CV.row 9 (gr v0 1), CV.row 7 (gr v0 2), ci 3, ci 20]) fun v8 =>
        callO (M n_fine_Lot [CV.row 24 (gr v0 0), CV.row 9 (gr v0 1), CV.val (Value.slice none 0 0), ci 1, ci 100]) fun v9 =>
        seqO (iteB ((gi v1 4) == 0)
            (iteB ((gi v2 3) == 0)
              (iteB ((gi v3 4) == 0)
                (iteB ((gi v4 4) == 0)
                  (iteB ((gi v5 1) == 0)
                    (iteB ((gi v6 3) == 0)
                      (iteB ((gi v7 1) == 0)
                        (iteB ((gi v8 1) == 0)
                          (some (.nx [cb ((gi v9 4) == 0)]))
                          (some (.nx [cb false])))
                        (some (.nx [cb false])))
                      (some (.nx [cb false])))
                    (some (.nx [cb false])))
                  (some (.nx [cb false])))
                (some (.nx [cb false])))
              (some (.nx [cb false])))
            (some (.nx [cb false]))) fun v10 =>
        seqO (iteB (((gi v1 0) == 3) && (((gi v1 1) == 13) && (((gi v1 2) == 0) && (((gi v1 3) == (-1)) && true))))
            (iteB (((gi v3 0) == 3) && (((gi v3 1) == 13) && (((gi v3 2) == 1) && (((gi v3 3) == 15) && true))))
              (some (.nx [cb (((gi v9 0) == 0) && (((gi v9 1) == (-1)) && (((gi v9 2) == 2) && (((gi v9 3) == 59) && true))))]))
              (some (.nx [cb false])))
            (some (.nx [cb false]))) fun v11 =>
        seqO (iteB (((gi v2 0) == 12) && (((gi v2 1) == 40) && (((gi v2 2) == 16) && true)))
            (iteB (((gi v4 0) == 5) && (((gi v4 1) == 24) && (((gi v4 2) == 12) && (((gi v4 3) == 38) && true))))
              (some (.nx [cb ((gi v8 0) == 74)]))
              (some (.nx [cb false])))
            (some (.nx [cb false]))) fun v12 =>
        callO (M n_r06_Same ([CV.row 5 (gr v5 0), CV.row 5 (chunk 5 3 [ci 14, ci 1, ci 5, ci 0, ci 38, ci 14, ci 1, ci 5, ci 1, ci 24, ci 14, ci 1, ci 5, ci 11, ci 12])])) fun v13 =>
        iteB (gb v10 0)
          (iteB (gb v11 0)
            (iteB (gb v12 0)
              (iteB (gb v13 0)
                (iteB ((il (gr v7 0)) == 9)
                  (chk (inb 3 (gr v7 0)) <|
                  chk (oks (List.replicate 5 li) (List.getD (gr v7 0) 3 []) 0) <|
                  some (.ret ([cb (((gi (List.getD (gr v7 0) 3 []) 0) == 18) && (((gi (List.getD (gr v7 0) 3 []) 1) == 1) && (((gi (List.getD (gr v7 0) 3 []) 2) == 5) && (((gi (List.getD (gr v7 0) 3 []) 3) == 0) && (((gi (List.getD (gr v7 0) 3 []) 4) == (-38)) && true)))))])))
                  (some (.ret [cb false])))
                (some (.ret [cb false])))
              (some (.ret [cb false])))
            (some (.ret [cb false])))
          (some (.ret [cb false]))
theorem r_law06_sane (M : Den)  : evF Try.prog sg M fe12 (bodyOf Try.f12) [] = retO (R_law06_sane M ) := by kernel_rfl
theorem q_law06_sane (n : Nat)  : D (n + 1) n_law06_sane [] = retO (R_law06_sane (D n) ) := (show D (n + 1) n_law06_sane [] = evF Try.prog sg (D n) fe12 (bodyOf Try.f12) [] from rfl).trans (r_law06_sane (D n) )
def R_r06_Check (M : Den) (a0_0 a0_1 a0_2 : List (List CV)) : Option Ou :=
    seqO (iteB (decide ((il a0_0) > 8))
            (some (.nx [cb true]))
            (iteB (decide ((il a0_1) > 60))
              (some (.nx [cb true]))
              (some (.nx [cb (decide ((il a0_2) > 60))])))) fun v0 =>
        iteB (gb v0 0)
          (some (.ret [ci 63]))
          (blkO 0 (loopD (fun v1 =>
              iteB (decide ((gi v1 0) < (il a0_0)))
                (seqO (chk (inb (gi v1 0) a0_0) <|
                  chk (oks (List.replicate 24 li) (el a0_0 (gi v1 0)) 0) <|
                  callO (M n_r06_CheckTariff (cis (el a0_0 (gi v1 0)) 0 24)) fun v2 =>
                  iteB ((gi v2 0) != 0)
                    (some (.nx [cb true]))
                    (iteB (decide ((gi v1 0) > 0))
                      (chk (inb (wr ((gi v1 0) - 1)) a0_0) <|
                      chk (oks [li] (List.drop 0 (el a0_0 (wr ((gi v1 0) - 1)))) 0) <|
                      chk (inb (gi v1 0) a0_0) <|
                      chk (oks [li] (List.drop 0 (el a0_0 (gi v1 0))) 0) <|
                      some (.nx [cb (decide ((gi (List.drop 0 (el a0_0 (wr ((gi v1 0) - 1)))) 0) ≥ (gi (List.drop 0 (el a0_0 (gi v1 0))) 0)))]))
                      (some (.nx [cb false])))) fun v2 =>
                iteB (gb v2 0)
                  (some (.ret [ci 63]))
                  (some (.nx [ci (wr ((gi v1 0) + 1))])))
                (some (.br 0 []))) [ci 0]) fun v1 =>
          blkO 2 (loopD (fun v2 =>
              iteB (decide ((gi v2 0) < (il a0_1)))
                (seqO (chk (inb (gi v2 0) a0_1) <|
                  chk (oks (List.replicate 9 li) (el a0_1 (gi v2 0)) 0) <|
                  callO (M n_r06_CheckHeld (cis (el a0_1 (gi v2 0)) 0 9)) fun v3 =>
                  iteB ((gi v3 0) != 0)
                    (some (.nx [cb true]))
                    (iteB (decide ((gi v2 0) > 0))
                      (chk (inb (wr ((gi v2 0) - 1)) a0_1) <|
                      chk (oks [li] (List.drop 0 (el a0_1 (wr ((gi v2 0) - 1)))) 0) <|
                      chk (inb (gi v2 0) a0_1) <|
                      chk (oks [li] (List.drop 0 (el a0_1 (gi v2 0))) 0) <|
                      some (.nx [cb (decide ((gi (List.drop 0 (el a0_1 (wr ((gi v2 0) - 1)))) 0) ≥ (gi (List.drop 0 (el a0_1 (gi v2 0))) 0)))]))
                      (some (.nx [cb false])))) fun v3 =>
                iteB (gb v3 0)
                  (some (.ret [ci 63]))
                  (some (.nx [ci (wr ((gi v2 0) + 1))])))
                (some (.br 2 []))) [ci 0]) fun v2 =>
          blkO 4 (loopD (fun v3 =>
              iteB (decide ((gi v3 0) < (il a0_2)))
                (seqO (chk (inb (gi v3 0) a0_2) <|
                  chk (oks (List.replicate 7 li) (el a0_2 (gi v3 0)) 0) <|
                  callO (M n_r06_CheckNote (cis (el a0_2 (gi v3 0)) 0 7)) fun v4 =>
                  iteB ((gi v4 0) != 0)
                    (some (.nx [cb true]))
                    (iteB (decide ((gi v3 0) > 0))
                      (chk (inb (wr ((gi v3 0) - 1)) a0_2) <|
                      chk (oks [li] (List.drop 0 (el a0_2 (wr ((gi v3 0) - 1)))) 0) <|
                      chk (inb (gi v3 0) a0_2) <|
                      chk (oks [li] (List.drop 0 (el a0_2 (gi v3 0))) 0) <|
                      some (.nx [cb (decide ((gi (List.drop 0 (el a0_2 (wr ((gi v3 0) - 1)))) 0) ≥ (gi (List.drop 0 (el a0_2 (gi v3 0))) 0)))]))
                      (some (.nx [cb false])))) fun v4 =>
                iteB (gb v4 0)
                  (some (.ret [ci 63]))
                  (some (.nx [ci (wr ((gi v3 0) + 1))])))
                (some (.br 4 []))) [ci 0]) fun v3 =>
          some (.ret [ci 0]))
theorem r_r06_Check (M : Den) (a0_0 a0_1 a0_2 : List (List CV)) : evF Try.prog sg M fe17 (bodyOf Try.f17) [(.row 24 a0_0), (.row 9 a0_1), (.row 7 a0_2)] = retO (R_r06_Check M a0_0 a0_1 a0_2) := by kernel_rfl
theorem q_r06_Check (n : Nat) (a0_0 a0_1 a0_2 : List (List CV)) : D (n + 1) n_r06_Check [(.row 24 a0_0), (.row 9 a0_1), (.row 7 a0_2)] = retO (R_r06_Check (D n) a0_0 a0_1 a0_2) := (show D (n + 1) n_r06_Check [(.row 24 a0_0), (.row 9 a0_1), (.row 7 a0_2)] = evF Try.prog sg (D n) fe17 (bodyOf Try.f17) [(.row 24 a0_0), (.row 9 a0_1), (.row 7 a0_2)] from rfl).trans (r_r06_Check (D n) a0_0 a0_1 a0_2)
def R_fine_notes (M : Den) (a0_0 a0_1 a0_2 : List (List CV)) (a1_0 a1_1 a1_2 a1_3 a1_4 a1_5 a1_6 a1_7 a1_8 a2 : Int) : Option Ou :=
    inlO (nilD a0_2
            (some (.ret ([CV.row 7 []])))
            (chk (fitA 0 (List.length a0_2) 56) <|
            some (.ret [CV.row 7 a0_2]))) fun v0 =>
        inlO (callO (M n_slices_IndexFunc_Note ([CV.row 7 (gr v0 0), CV.fn n_fine_notes_c1 ([CV.ref [ci a2], CV.ref [ci a1_0, ci a1_1, ci a1_2, ci a1_3, ci a1_4, ci a1_5, ci a1_6, ci a1_7, ci a1_8]])])) fun v1 =>
          iteB ((gi v1 0) == (-1))
            (some (.ret [CV.row 7 (gr v0 0)]))
            (blkO 0 (loopD (fun v2 =>
                iteB (decide ((gi v2 1) < (il (gr v2 2))))
                  (chk (inb (gi v2 1) (gr v2 2)) <|
                  chk (decide ((Int.toNat (gi v2 1)) < (List.length (gr v2 2)))) <|
                  chk (oks (List.replicate 7 li) (el (gr v2 2) (gi v2 1)) 0) <|
                  callO (M n_fine_notes_c1 (cat [cis (el (gr v2 2) (gi v2 1)) 0 7, [CV.ref [ci a2], CV.ref [ci a1_0, ci a1_1, ci a1_2, ci a1_3, ci a1_4, ci a1_5, ci a1_6, ci a1_7, ci a1_8]]])) fun v3 =>
                  seqO (iteB (!(gb v3 0))
                      (chk (inb (gi v2 0) (gr v2 2)) <|
                      chk ((decide ((Int.toNat (gi v2 0)) < (List.length (gr v2 2)))) && (decide (7 ≤ 7))) <|
                      some (.nx [ci (wr ((gi v2 0) + 1)), CV.row 7 (List.set (gr v2 2) (Int.toNat (gi v2 0)) (spl (el (gr v2 2) (gi v2 0)) 0 (cis (el (gr v2 2) (gi v2 1)) 0 7)))]))
                      (some (.nx [ci (gi v2 0), CV.row 7 (gr v2 2)]))) fun v4 =>
                  some (.nx [ci (gi v4 0), ci (wr ((gi v2 1) + 1)), CV.row 7 (gr v4 1)]))
                  (some (.br 0 [ci (gi v2 0), CV.row 7 (gr v2 2)]))) [ci (gi v1 0), ci (wr ((gi v1 0) + 1)), CV.row 7 (gr v0 0)]) fun v2 =>
            chk ((decide (0 ≤ (gi v2 0))) && (decide ((gi v2 0) ≤ (il (gr v2 1))))) <|
            chk ((decide (0 ≤ (gi v2 0))) && (decide ((gi v2 0) ≤ (il ((List.take (Int.toNat (gi v2 0)) (gr v2 1)) ++ (List.replicate ((List.length (gr v2 1)) - (Int.toNat (gi v2 0))) [ci 0, ci 0, ci 0, ci 0, ci 0, ci 0, ci 0])))))) <|
            some (.ret ([CV.row 7 (List.take (Int.toNat (gi v2 0)) ((List.take (Int.toNat (gi v2 0)) (gr v2 1)) ++ (List.replicate ((List.length (gr v2 1)) - (Int.toNat (gi v2 0))) [ci 0, ci 0, ci 0, ci 0, ci 0, ci 0, ci 0])))])))) fun v1 =>
        some (.ret [CV.row 7 (gr v1 0)])
theorem r_fine_notes (M : Den) (a0_0 a0_1 a0_2 : List (List CV)) (a1_0 a1_1 a1_2 a1_3 a1_4 a1_5 a1_6 a1_7 a1_8 a2 : Int) : evF Try.prog sg M fe98 (bodyOf Try.f98) [(.row 24 a0_0), (.row 9 a0_1), (.row 7 a0_2), (ci a1_0), (ci a1_1), (ci a1_2), (ci a1_3), (ci a1_4), (ci a1_5), (ci a1_6), (ci a1_7), (ci a1_8), (ci a2)] = retO (R_fine_notes M a0_0 a0_1 a0_2 a1_0 a1_1 a1_2 a1_3 a1_4 a1_5 a1_6 a1_7 a1_8 a2) := by kernel_rfl
theorem q_fine_notes (n : Nat) (a0_0 a0_1 a0_2 : List (List CV)) (a1_0 a1_1 a1_2 a1_3 a1_4 a1_5 a1_6 a1_7 a1_8 a2 : Int) : D (n + 1) n_fine_notes [(.row 24 a0_0), (.row 9 a0_1), (.row 7 a0_2), (ci a1_0), (ci a1_1), (ci a1_2), (ci a1_3), (ci a1_4), (ci a1_5), (ci a1_6), (ci a1_7), (ci a1_8), (ci a2)] = retO (R_fine_notes (D n) a0_0 a0_1 a0_2 a1_0 a1_1 a1_2 a1_3 a1_4 a1_5 a1_6 a1_7 a1_8 a2) := (show D (n + 1) n_fine_notes [(.row 24 a0_0), (.row 9 a0_1), (.row 7 a0_2), (ci a1_0), (ci a1_1), (ci a1_2), (ci a1_3), (ci a1_4), (ci a1_5), (ci a1_6), (ci a1_7), (ci a1_8), (ci a2)] = evF Try.prog sg (D n) fe98 (bodyOf Try.f98) [(.row 24 a0_0), (.row 9 a0_1), (.row 7 a0_2), (ci a1_0), (ci a1_1), (ci a1_2), (ci a1_3), (ci a1_4), (ci a1_5), (ci a1_6), (ci a1_7), (ci a1_8), (ci a2)] from rfl).trans (r_fine_notes (D n) a0_0 a0_1 a0_2 a1_0 a1_1 a1_2 a1_3 a1_4 a1_5 a1_6 a1_7 a1_8 a2)
def R_r06_charged (M : Den) (a0_0 a0_1 a0_2 : List (List CV)) (a1_0 a1_1 a1_2 a1_3 a1_4 a1_5 a1_6 a1_7 a1_8 a2 : Int) : Option Ou :=
    iteB (decide (a1_6 > a2))
          (some (.ret [ci 0, ci 0, ci 0]))
          (callO (M n_r06_lot [CV.row 24 a0_0, CV.row 9 a0_1, CV.row 7 a0_2, ci a1_0, ci a1_1, ci a1_2, ci a1_3, ci a1_4, ci a1_5, ci a1_6, ci a1_7, ci a1_8, ci a2]) fun v0 =>
          callO (M n_r06_inForce [CV.row 24 a0_0, CV.row 9 a0_1, CV.row 7 a0_2, ci a1_6]) fun v1 =>
          chk ((decide (0 ≤ a1_2)) && (decide (a1_2 < (Int.ofNat 10)))) <|
          chk (oks [li] (cis v1 0 24) (1 + ((Int.toNat a1_2) * 1))) <|
          blkO 0 (loopD (fun v2 =>
              callO (M n_r06_last (cat [cis v0 0 4, [ci a2]])) fun v3 =>
              iteB (decide ((gi v2 0) ≤ (gi v3 0)))
                (callO (M n_r06_inForce [CV.row 24 a0_0, CV.row 9 a0_1, CV.row 7 a0_2, ci (gi v2 0)]) fun v4 =>
                callO (M n_r06_fed [CV.row 24 a0_0, CV.row 9 a0_1, CV.row 7 a0_2, ci a1_0, ci a1_1, ci a1_2, ci a1_3, ci a1_4, ci a1_5, ci a1_6, ci a1_7, ci a1_8, ci (gi v2 0)]) fun v5 =>
                seqO (iteB (decide ((gi v0 1) < 0))
                    (some (.nx [cb true]))
                    (some (.nx [cb (decide ((gi v2 0) < (gi v0 1)))]))) fun v6 =>
                seqO (iteB (gb v6 0)
                    (chk ((decide (0 ≤ a1_2)) && (decide (a1_2 < (Int.ofNat 10)))) <|
                    chk (oks [li] (cis v4 0 24) (11 + ((Int.toNat a1_2) * 1))) <|
                    some (.nx [ci (gi v2 1), ci (wr ((gi v2 2) + (gi v5 0))), ci (wr ((gi v2 3) + (gi (cis v4 0 24) (11 + ((Int.toNat a1_2) * 1)))))]))
                    (some (.nx [ci (gi v2 1), ci (wr ((gi v2 2) + (gi v5 0))), ci (gi v2 3)]))) fun v7 =>
                some (.nx [ci (wr ((gi v2 0) + 1)), ci (gi v7 0), ci (gi v7 1), ci (gi v7 2)]))
                (some (.br 0 [ci (gi v2 1), ci (gi v2 2), ci (gi v2 3)]))) [ci a1_6, ci (gi (cis v1 0 24) (1 + ((Int.toNat a1_2) * 1))), ci 0, ci 0]) fun v2 =>
          some (.ret [ci (gi v2 0), ci (gi v2 1), ci (gi v2 2)]))
theorem r_r06_charged (M : Den) (a0_0 a0_1 a0_2 : List (List CV)) (a1_0 a1_1 a1_2 a1_3 a1_4 a1_5 a1_6 a1_7 a1_8 a2 : Int) : evF Try.prog sg M fe86 (bodyOf Try.f86) [(.row 24 a0_0), (.row 9 a0_1), (.row 7 a0_2), (ci a1_0), (ci a1_1), (ci a1_2), (ci a1_3), (ci a1_4), (ci a1_5), (ci a1_6), (ci a1_7), (ci a1_8), (ci a2)] = retO (R_r06_charged M a0_0 a0_1 a0_2 a1_0 a1_1 a1_2 a1_3 a1_4 a1_5 a1_6 a1_7 a1_8 a2) := by kernel_rfl
theorem q_r06_charged (n : Nat) (a0_0 a0_1 a0_2 : List (List CV)) (a1_0 a1_1 a1_2 a1_3 a1_4 a1_5 a1_6 a1_7 a1_8 a2 : Int) : D (n + 1) n_r06_charged [(.row 24 a0_0), (.row 9 a0_1), (.row 7 a0_2), (ci a1_0), (ci a1_1), (ci a1_2), (ci a1_3), (ci a1_4), (ci a1_5), (ci a1_6), (ci a1_7), (ci a1_8), (ci a2)] = retO (R_r06_charged (D n) a0_0 a0_1 a0_2 a1_0 a1_1 a1_2 a1_3 a1_4 a1_5 a1_6 a1_7 a1_8 a2) := (show D (n + 1) n_r06_charged [(.row 24 a0_0), (.row 9 a0_1), (.row 7 a0_2), (ci a1_0), (ci a1_1), (ci a1_2), (ci a1_3), (ci a1_4), (ci a1_5), (ci a1_6), (ci a1_7), (ci a1_8), (ci a2)] = evF Try.prog sg (D n) fe86 (bodyOf Try.f86) [(.row 24 a0_0), (.row 9 a0_1), (.row 7 a0_2), (ci a1_0), (ci a1_1), (ci a1_2), (ci a1_3), (ci a1_4), (ci a1_5), (ci a1_6), (ci a1_7), (ci a1_8), (ci a2)] from rfl).trans (r_r06_charged (D n) a0_0 a0_1 a0_2 a1_0 a1_1 a1_2 a1_3 a1_4 a1_5 a1_6 a1_7 a1_8 a2)
def R_slices_BinarySearchFunc_Note (M : Den) (a0 : List (List CV)) (a1_0 a1_1 a1_2 a1_3 a1_4 a1_5 a1_6 : Int) (a2 : CV) : Option Ou :=
    blkO 0 (loopD (fun v0 =>
            iteB (decide ((gi v0 0) < (gi v0 1)))
              (chk (inb (wr (Int.fdiv (IntKind.wrap .u64 (wr ((gi v0 0) + (gi v0 1)))) 2)) a0) <|
              chk (oks (List.replicate 7 li) (el a0 (wr (Int.fdiv (IntKind.wrap .u64 (wr ((gi v0 0) + (gi v0 1)))) 2))) 0) <|
              callO (callV sg M a2 (cat [cis (el a0 (wr (Int.fdiv (IntKind.wrap .u64 (wr ((gi v0 0) + (gi v0 1)))) 2))) 0 7, [ci a1_0, ci a1_1, ci a1_2, ci a1_3, ci a1_4, ci a1_5, ci a1_6]]) [.agg (List.replicate 7 li), .agg (List.replicate 7 li)] [.one li]) fun v1 =>
              seqO (iteB (decide ((gi v1 0) < 0))
                  (some (.nx [ci (wr ((wr (Int.fdiv (IntKind.wrap .u64 (wr ((gi v0 0) + (gi v0 1)))) 2)) + 1)), ci (gi v0 1)]))
                  (some (.nx [ci (gi v0 0), ci (wr (Int.fdiv (IntKind.wrap .u64 (wr ((gi v0 0) + (gi v0 1)))) 2))]))) fun v2 =>
              some (.nx [ci (gi v2 0), ci (gi v2 1)]))
              (some (.br 0 [ci (gi v0 0)]))) [ci 0, ci (il a0)]) fun v0 =>
        iteB (decide ((gi v0 0) < (il a0)))
          (chk (inb (gi v0 0) a0) <|
          chk (oks (List.replicate 7 li) (el a0 (gi v0 0)) 0) <|
          callO (callV sg M a2 (cat [cis (el a0 (gi v0 0)) 0 7, [ci a1_0, ci a1_1, ci a1_2, ci a1_3, ci a1_4, ci a1_5, ci a1_6]]) [.agg (List.replicate 7 li), .agg (List.replicate 7 li)] [.one li]) fun v1 =>
          some (.ret [ci (gi v0 0), cb ((gi v1 0) == 0)]))
          (some (.ret [ci (gi v0 0), cb false]))
theorem r_slices_BinarySearchFunc_Note (M : Den) (a0 : List (List CV)) (a1_0 a1_1 a1_2 a1_3 a1_4 a1_5 a1_6 : Int) (a2 : CV) : evF Try.prog sg M fe57 (bodyOf Try.f57) [(.row 7 a0), (ci a1_0), (ci a1_1), (ci a1_2), (ci a1_3), (ci a1_4), (ci a1_5), (ci a1_6), a2] = retO (R_slices_BinarySearchFunc_Note M a0 a1_0 a1_1 a1_2 a1_3 a1_4 a1_5 a1_6 a2) := by kernel_rfl
theorem q_slices_BinarySearchFunc_Note (n : Nat) (a0 : List (List CV)) (a1_0 a1_1 a1_2 a1_3 a1_4 a1_5 a1_6 : Int) (a2 : CV) : D (n + 1) n_slices_BinarySearchFunc_Note [(.row 7 a0), (ci a1_0), (ci a1_1), (ci a1_2), (ci a1_3), (ci a1_4), (ci a1_5), (ci a1_6), a2] = retO (R_slices_BinarySearchFunc_Note (D n) a0 a1_0 a1_1 a1_2 a1_3 a1_4 a1_5 a1_6 a2) := (show D (n + 1) n_slices_BinarySearchFunc_Note [(.row 7 a0), (ci a1_0), (ci a1_1), (ci a1_2), (ci a1_3), (ci a1_4), (ci a1_5), (ci a1_6), a2] = evF Try.prog sg (D n) fe57 (bodyOf Try.f57) [(.row 7 a0), (ci a1_0), (ci a1_1), (ci a1_2), (ci a1_3), (ci a1_4), (ci a1_5), (ci a1_6), a2] from rfl).trans (r_slices_BinarySearchFunc_Note (D n) a0 a1_0 a1_1 a1_2 a1_3 a1_4 a1_5 a1_6 a2)
def R_fine_due (M : Den) (a0_0 a0_1 a0_2 : List (List CV)) (a1_0 a1_1 a1_2 a1_3 a1_4 a1_5 a1_6 a1_7 a1_8 a2 : Int) : Option Ou :=
    callO (M n_fine_lot [CV.row 24 a0_0, CV.row 9 a0_1, CV.row 7 a0_2, ci a1_0, ci a1_1, ci a1_2, ci a1_3, ci a1_4, ci a1_5, ci a1_6, ci a1_7, ci a1_8, ci a2]) fun v0 =>
        callO (M n_fine_charge (cat [[CV.row 24 a0_0, CV.row 9 a0_1, CV.row 7 a0_2, ci a1_0, ci a1_1, ci a1_2, ci a1_3, ci a1_4, ci a1_5, ci a1_6, ci a1_7, ci a1_8], cis v0 0 4, [ci a2]])) fun v1 =>
        seqO (iteB ((gi v0 2) == 2)
            (some (.nx [ci 2, ci a1_4]))
            (seqO (iteB ((gi v0 2) != 3)
                (some (.nx [cb ((gi v0 0) != 0)]))
                (some (.nx [cb false]))) fun v2 =>
            seqO (iteB (gb v2 0)
                (some (.nx [ci (wr (2 + (gi v0 0))), ci (wr ((wr ((gi v1 0) + (gi v1 1))) + (gi v1 2)))]))
                (some (.nx [ci (-1), ci 0]))) fun v3 =>
            some (.nx [ci (gi v3 0), ci (gi v3 1)]))) fun v2 =>
        callO (M n_fine_inForce [CV.row 24 a0_0, CV.row 9 a0_1, CV.row 7 a0_2, ci a1_6]) fun v3 =>
        seqO (iteB (a1_5 != 0)
            (some (.nx [ci (gi v2 0), ci (wr (Int.tdiv (wr ((gi v2 1) * (gi v3 22))) 60)), ci (wr (Int.tdiv (wr ((gi v2 1) * (gi v3 23))) 60)), ci 0]))
            (some (.nx [ci (gi v2 0), ci (wr (Int.tdiv (wr ((gi v2 1) * (gi v3 22))) 60)), ci 0, ci 0]))) fun v4 =>
        some (.ret [ci (gi v4 0), ci (gi v4 1), ci (gi v4 2), ci (wr ((wr ((gi v2 1) - (gi v4 1))) - (gi v4 2)))])
theorem r_fine_due (M : Den) (a0_0 a0_1 a0_2 : List (List CV)) (a1_0 a1_1 a1_2 a1_3 a1_4 a1_5 a1_6 a1_7 a1_8 a2 : Int) : evF Try.prog sg M fe81 (bodyOf Try.f81) [(.row 24 a0_0), (.row 9 a0_1), (.row 7 a0_2), (ci a1_0), (ci a1_1), (ci a1_2), (ci a1_3), (ci a1_4), (ci a1_5), (ci a1_6), (ci a1_7), (ci a1_8), (ci a2)] = retO (R_fine_due M a0_0 a0_1 a0_2 a1_0 a1_1 a1_2 a1_3 a1_4 a1_5 a1_6 a1_7 a1_8 a2) := by kernel_rfl
theorem q_fine_due (n : Nat) (a0_0 a0_1 a0_2 : List (List CV)) (a1_0 a1_1 a1_2 a1_3 a1_4 a1_5 a1_6 a1_7 a1_8 a2 : Int) : D (n + 1) n_fine_due [(.row 24 a0_0), (.row 9 a0_1), (.row 7 a0_2), (ci a1_0), (ci a1_1), (ci a1_2), (ci a1_3), (ci a1_4), (ci a1_5), (ci a1_6), (ci a1_7), (ci a1_8), (ci a2)] = retO (R_fine_due (D n) a0_0 a0_1 a0_2 a1_0 a1_1 a1_2 a1_3 a1_4 a1_5 a1_6 a1_7 a1_8 a2) := (show D (n + 1) n_fine_due [(.row 24 a0_0), (.row 9 a0_1), (.row 7 a0_2), (ci a1_0), (ci a1_1), (ci a1_2), (ci a1_3), (ci a1_4), (ci a1_5), (ci a1_6), (ci a1_7), (ci a1_8), (ci a2)] = evF Try.prog sg (D n) fe81 (bodyOf Try.f81) [(.row 24 a0_0), (.row 9 a0_1), (.row 7 a0_2), (ci a1_0), (ci a1_1), (ci a1_2), (ci a1_3), (ci a1_4), (ci a1_5), (ci a1_6), (ci a1_7), (ci a1_8), (ci a2)] from rfl).trans (r_fine_due (D n) a0_0 a0_1 a0_2 a1_0 a1_1 a1_2 a1_3 a1_4 a1_5 a1_6 a1_7 a1_8 a2)
def R_fine_areRising_Tariff (M : Den) (a0 : List (List CV)) (a1 : Int) (a2 a3 : CV) : Option Ou :=
    blkO 0 (loopD (fun v0 =>
            iteB (decide ((gi v0 0) < (il a0)))
              (chk (inb (gi v0 0) a0) <|
              chk (oks (List.replicate 24 li) (el a0 (gi v0 0)) 0) <|
              seqO (callO (callV sg M a2 (cis (el a0 (gi v0 0)) 0 24) [.agg (List.replicate 24 li)] [.one li]) fun v1 =>
                iteB ((gi v1 0) != 0)
                  (some (.nx [cb true]))
                  (iteB (decide ((gi v0 0) > 0))
                    (chk (inb (wr ((gi v0 0) - 1)) a0) <|
                    chk (oks (List.replicate 24 li) (el a0 (wr ((gi v0 0) - 1))) 0) <|
                    callO (callV sg M a3 (cis (el a0 (wr ((gi v0 0) - 1))) 0 24) [.agg (List.replicate 24 li)] [.one li]) fun v2 =>
                    callO (callV sg M a3 (cis (el a0 (gi v0 0)) 0 24) [.agg (List.replicate 24 li)] [.one li]) fun v3 =>
                    some (.nx [cb (decide ((gi v2 0) ≥ (gi v3 0)))]))
                    (some (.nx [cb false])))) fun v1 =>
              iteB (gb v1 0)
                (some (.ret [cb false]))
                (some (.nx [ci (wr ((gi v0 0) + 1))])))
              (some (.br 0 []))) [ci 0]) fun v0 =>
        some (.ret [cb (decide ((il a0) ≤ a1))])
theorem r_fine_areRising_Tariff (M : Den) (a0 : List (List CV)) (a1 : Int) (a2 a3 : CV) : evF Try.prog sg M fe65 (bodyOf Try.f65) [(.row 24 a0), (ci a1), a2, a3] = retO (R_fine_areRising_Tariff M a0 a1 a2 a3) := by kernel_rfl
theorem q_fine_areRising_Tariff (n : Nat) (a0 : List (List CV)) (a1 : Int) (a2 a3 : CV) : D (n + 1) n_fine_areRising_Tariff [(.row 24 a0), (ci a1), a2, a3] = retO (R_fine_areRising_Tariff (D n) a0 a1 a2 a3) := (show D (n + 1) n_fine_areRising_Tariff [(.row 24 a0), (ci a1), a2, a3] = evF Try.prog sg (D n) fe65 (bodyOf Try.f65) [(.row 24 a0), (ci a1), a2, a3] from rfl).trans (r_fine_areRising_Tariff (D n) a0 a1 a2 a3)
def R_fine_areRising_Held (M : Den) (a0 : List (List CV)) (a1 : Int) (a2 a3 : CV) : Option Ou :=
    blkO 0 (loopD (fun v0 =>
            iteB (decide ((gi v0 0) < (il a0)))
              (chk (inb (gi v0 0) a0) <|
              chk (oks (List.replicate 9 li) (el a0 (gi v0 0)) 0) <|
              seqO (callO (callV sg M a2 (cis (el a0 (gi v0 0)) 0 9) [.agg (List.replicate 9 li)] [.one li]) fun v1 =>
                iteB ((gi v1 0) != 0)
                  (some (.nx [cb true]))
                  (iteB (decide ((gi v0 0) > 0))
                    (chk (inb (wr ((gi v0 0) - 1)) a0) <|
                    chk (oks (List.replicate 9 li) (el a0 (wr ((gi v0 0) - 1))) 0) <|
                    callO (callV sg M a3 (cis (el a0 (wr ((gi v0 0) - 1))) 0 9) [.agg (List.replicate 9 li)] [.one li]) fun v2 =>
                    callO (callV sg M a3 (cis (el a0 (gi v0 0)) 0 9) [.agg (List.replicate 9 li)] [.one li]) fun v3 =>
                    some (.nx [cb (decide ((gi v2 0) ≥ (gi v3 0)))]))
                    (some (.nx [cb false])))) fun v1 =>
              iteB (gb v1 0)
                (some (.ret [cb false]))
                (some (.nx [ci (wr ((gi v0 0) + 1))])))
              (some (.br 0 []))) [ci 0]) fun v0 =>
        some (.ret [cb (decide ((il a0) ≤ a1))])
theorem r_fine_areRising_Held (M : Den) (a0 : List (List CV)) (a1 : Int) (a2 a3 : CV) : evF Try.prog sg M fe67 (bodyOf Try.f67) [(.row 9 a0), (ci a1), a2, a3] = retO (R_fine_areRising_Held M a0 a1 a2 a3) := by kernel_rfl
theorem q_fine_areRising_Held (n : Nat) (a0 : List (List CV)) (a1 : Int) (a2 a3 : CV) : D (n + 1) n_fine_areRising_Held [(.row 9 a0), (ci a1), a2, a3] = retO (R_fine_areRising_Held (D n) a0 a1 a2 a3) := (show D (n + 1) n_fine_areRising_Held [(.row 9 a0), (ci a1), a2, a3] = evF Try.prog sg (D n) fe67 (bodyOf Try.f67) [(.row 9 a0), (ci a1), a2, a3] from rfl).trans (r_fine_areRising_Held (D n) a0 a1 a2 a3)
def R_fine_Balance (M : Den) (a0_0 a0_1 a0_2 a1 : List (List CV)) (a2 : Int) : Option Ou :=
    callO (M n_fine_Posts [CV.row 24 a0_0, CV.row 9 a0_1, CV.row 7 a0_2, CV.row 1 a1]) fun v0 =>
        iteB ((gi v0 1) != 0)
          (some (.ret [ci 0, ci (gi v0 1)]))
          (callO (M n_fine_within [ci a2, ci 0, ci 101]) fun v1 =>
          iteB (!(gb v1 0))
            (some (.ret [ci 0, ci 68]))
            (blkO 0 (loopD (fun v2 =>
                iteB (decide ((gi v2 1) < (il (gr v0 0))))
                  (chk (inb (gi v2 1) (gr v0 0)) <|
                  chk (oks (List.replicate 5 li) (el (gr v0 0) (gi v2 1)) 0) <|
                  seqO (iteB ((gi (el (gr v0 0) (gi v2 1)) 3) == a2)
                      (some (.nx [ci (wr ((gi v2 0) + (gi (el (gr v0 0) (gi v2 1)) 4)))]))
                      (some (.nx [ci (gi v2 0)]))) fun v3 =>
                  seqO (iteB ((gi (el (gr v0 0) (gi v2 1)) 2) == a2)
                      (some (.nx [ci (wr ((gi v3 0) - (gi (el (gr v0 0) (gi v2 1)) 4)))]))
                      (some (.nx [ci (gi v3 0)]))) fun v4 =>
                  some (.nx [ci (gi v4 0), ci (wr ((gi v2 1) + 1))]))
                  (some (.br 0 [ci (gi v2 0)]))) [ci 0, ci 0]) fun v2 =>
            some (.ret [ci (gi v2 0), ci 0])))
theorem r_fine_Balance (M : Den) (a0_0 a0_1 a0_2 a1 : List (List CV)) (a2 : Int) : evF Try.prog sg M fe46 (bodyOf Try.f46) [(.row 24 a0_0), (.row 9 a0_1), (.row 7 a0_2), (.row 1 a1), (ci a2)] = retO (R_fine_Balance M a0_0 a0_1 a0_2 a1 a2) := by kernel_rfl
theorem q_fine_Balance (n : Nat) (a0_0 a0_1 a0_2 a1 : List (List CV)) (a2 : Int) : D (n + 1) n_fine_Balance [(.row 24 a0_0), (.row 9 a0_1), (.row 7 a0_2), (.row 1 a1), (ci a2)] = retO (R_fine_Balance (D n) a0_0 a0_1 a0_2 a1 a2) := (show D (n + 1) n_fine_Balance [(.row 24 a0_0), (.row 9 a0_1), (.row 7 a0_2), (.row 1 a1), (ci a2)] = evF Try.prog sg (D n) fe46 (bodyOf Try.f46) [(.row 24 a0_0), (.row 9 a0_1), (.row 7 a0_2), (.row 1 a1), (ci a2)] from rfl).trans (r_fine_Balance (D n) a0_0 a0_1 a0_2 a1 a2)
def R_fine_CheckNote (M : Den) (a0_0 a0_1 a0_2 a0_3 a0_4 a0_5 a0_6 : Int) : Option Ou :=
    callO (M n_fine_within [ci a0_3, ci 1, ci 99]) fun v0 =>
        seqO (iteB (a0_2 == 2)
            (iteB (a0_3 == 0)
              (some (.nx [cb true]))
              (iteB (a0_2 == 1)
                (some (.nx [cb (gb v0 0)]))
                (iteB (a0_2 == 3)
                  (some (.nx [cb (gb v0 0)]))
                  (some (.nx [cb false])))))
            (iteB (a0_2 == 1)
              (some (.nx [cb (gb v0 0)]))
              (iteB (a0_2 == 3)
                (some (.nx [cb (gb v0 0)]))
                (some (.nx [cb false]))))) fun v1 =>
        seqO (iteB (!(gb v1 0))
            (some (.nx [cb true]))
            (callO (M n_fine_within [ci a0_0, ci 1, ci 99999]) fun v2 =>
            iteB (!(gb v2 0))
              (some (.nx [cb true]))
              (callO (M n_fine_within [ci a0_1, ci 1, ci 99999]) fun v3 =>
              iteB (!(gb v3 0))
                (some (.nx [cb true]))
                (callO (M n_fine_areTimes [ci a0_4, ci a0_5, ci a0_6]) fun v4 =>
                some (.nx [cb (!(gb v4 0))]))))) fun v2 =>
        iteB (gb v2 0)
          (some (.ret [ci 62]))
          (some (.ret [ci 0]))
theorem r_fine_CheckNote (M : Den) (a0_0 a0_1 a0_2 a0_3 a0_4 a0_5 a0_6 : Int) : evF Try.prog sg M fe22 (bodyOf Try.f22) [(ci a0_0), (ci a0_1), (ci a0_2), (ci a0_3), (ci a0_4), (ci a0_5), (ci a0_6)] = retO (R_fine_CheckNote M a0_0 a0_1 a0_2 a0_3 a0_4 a0_5 a0_6) := by kernel_rfl
theorem q_fine_CheckNote (n : Nat) (a0_0 a0_1 a0_2 a0_3 a0_4 a0_5 a0_6 : Int) : D (n + 1) n_fine_CheckNote [(ci a0_0), (ci a0_1), (ci a0_2), (ci a0_3), (ci a0_4), (ci a0_5), (ci a0_6)] = retO (R_fine_CheckNote (D n) a0_0 a0_1 a0_2 a0_3 a0_4 a0_5 a0_6) := (show D (n + 1) n_fine_CheckNote [(ci a0_0), (ci a0_1), (ci a0_2), (ci a0_3), (ci a0_4), (ci a0_5), (ci a0_6)] = evF Try.prog sg (D n) fe22 (bodyOf Try.f22) [(ci a0_0), (ci a0_1), (ci a0_2), (ci a0_3), (ci a0_4), (ci a0_5), (ci a0_6)] from rfl).trans (r_fine_CheckNote (D n) a0_0 a0_1 a0_2 a0_3 a0_4 a0_5 a0_6)
def R_fine_CheckHeld (M : Den) (a0_0 a0_1 a0_2 a0_3 a0_4 a0_5 a0_6 a0_7 a0_8 : Int) : Option Ou :=
    seqO (callO (M n_fine_within [ci a0_0, ci 1, ci 99999]) fun v0 =>
          iteB (!(gb v0 0))
            (some (.nx [cb true]))
            (callO (M n_fine_within [ci a0_1, ci 1, ci 9999]) fun v1 =>
            iteB (!(gb v1 0))
              (some (.nx [cb true]))
              (callO (M n_fine_within [ci a0_2, ci 1, ci 9]) fun v2 =>
              iteB (!(gb v2 0))
                (some (.nx [cb true]))
                (callO (M n_fine_within [ci a0_3, ci 0, ci 100]) fun v3 =>
                iteB (!(gb v3 0))
                  (some (.nx [cb true]))
                  (callO (M n_fine_within [ci a0_4, ci 0, ci 100000]) fun v4 =>
                  iteB (!(gb v4 0))
                    (some (.nx [cb true]))
                    (callO (M n_fine_within [ci a0_5, ci 0, ci 99]) fun v5 =>
                    iteB (!(gb v5 0))
                      (some (.nx [cb true]))
                      (callO (M n_fine_areTimes [ci a0_6, ci a0_7, ci a0_8]) fun v6 =>
                      some (.nx [cb (!(gb v6 0))])))))))) fun v0 =>
        iteB (gb v0 0)
          (some (.ret [ci 61]))
          (some (.ret [ci 0]))
theorem r_fine_CheckHeld (M : Den) (a0_0 a0_1 a0_2 a0_3 a0_4 a0_5 a0_6 a0_7 a0_8 : Int) : evF Try.prog sg M fe20 (bodyOf Try.f20) [(ci a0_0), (ci a0_1), (ci a0_2), (ci a0_3), (ci a0_4), (ci a0_5), (ci a0_6), (ci a0_7), (ci a0_8)] = retO (R_fine_CheckHeld M a0_0 a0_1 a0_2 a0_3 a0_4 a0_5 a0_6 a0_7 a0_8) := by kernel_rfl
theorem q_fine_CheckHeld (n : Nat) (a0_0 a0_1 a0_2 a0_3 a0_4 a0_5 a0_6 a0_7 a0_8 : Int) : D (n + 1) n_fine_CheckHeld [(ci a0_0), (ci a0_1), (ci a0_2), (ci a0_3), (ci a0_4), (ci a0_5), (ci a0_6), (ci a0_7), (ci a0_8)] = retO (R_fine_CheckHeld (D n) a0_0 a0_1 a0_2 a0_3 a0_4 a0_5 a0_6 a0_7 a0_8) := (show D (n + 1) n_fine_CheckHeld [(ci a0_0), (ci a0_1), (ci a0_2), (ci a0_3), (ci a0_4), (ci a0_5), (ci a0_6), (ci a0_7), (ci a0_8)] = evF Try.prog sg (D n) fe20 (bodyOf Try.f20) [(ci a0_0), (ci a0_1), (ci a0_2), (ci a0_3), (ci a0_4), (ci a0_5), (ci a0_6), (ci a0_7), (ci a0_8)] from rfl).trans (r_fine_CheckHeld (D n) a0_0 a0_1 a0_2 a0_3 a0_4 a0_5 a0_6 a0_7 a0_8)
def R_r06_inForce (M : Den) (a0_0 a0_1 a0_2 : List (List CV)) (a1 : Int) : Option Ou :=
    blkO 0 (loopD (fun v0 =>
            iteB (decide ((gi v0 0) ≥ 0))
              (chk (inb (gi v0 0) a0_0) <|
              chk (oks [li] (List.drop 0 (el a0_0 (gi v0 0))) 0) <|
              iteB (decide ((gi (List.drop 0 (el a0_0 (gi v0 0))) 0) ≤ a1))
                (chk (inb (gi v0 0) a0_0) <|
                chk (oks (List.replicate 24 li) (el a0_0 (gi v0 0)) 0) <|
                some (.ret (cat [cis (el a0_0 (gi v0 0)) 0 24, [cb true]])))
                (some (.nx (cat [[ci (wr ((gi v0 0) - 1))], cis v0 1 24]))))
              (some (.br 0 (cis v0 1 24)))) [ci (wr ((il a0_0) - 1)), ci 0, ci 0, ci 0, ci 0, ci 0, ci 0, ci 0, ci 0, ci 0, ci 0, ci 0, ci 0, ci 0, ci 0, ci 0, ci 0, ci 0, ci 0, ci 0, ci 0, ci 0, ci 0, ci 0, ci 0]) fun v0 =>
        some (.ret [ci 0, ci 0, ci 0, ci 0, ci 0, ci 0, ci 0, ci 0, ci 0, ci 0, ci 0, ci 0, ci 0, ci 0, ci 0, ci 0, ci 0, ci 0, ci 0, ci 0, ci 0, ci 0, ci 0, ci 0, cb false])
theorem r_r06_inForce (M : Den) (a0_0 a0_1 a0_2 : List (List CV)) (a1 : Int) : evF Try.prog sg M fe95 (bodyOf Try.f95) [(.row 24 a0_0), (.row 9 a0_1), (.row 7 a0_2), (ci a1)] = retO (R_r06_inForce M a0_0 a0_1 a0_2 a1) := by kernel_rfl
theorem q_r06_inForce (n : Nat) (a0_0 a0_1 a0_2 : List (List CV)) (a1 : Int) : D (n + 1) n_r06_inForce [(.row 24 a0_0), (.row 9 a0_1), (.row 7 a0_2), (ci a1)] = retO (R_r06_inForce (D n) a0_0 a0_1 a0_2 a1) := (show D (n + 1) n_r06_inForce [(.row 24 a0_0), (.row 9 a0_1), (.row 7 a0_2), (ci a1)] = evF Try.prog sg (D n) fe95 (bodyOf Try.f95) [(.row 24 a0_0), (.row 9 a0_1), (.row 7 a0_2), (ci a1)] from rfl).trans (r_r06_inForce (D n) a0_0 a0_1 a0_2 a1)
def R_fine_areDays (M : Den) (a0 : List (List CV)) : Option Ou :=
    blkO 0 (loopD (fun v0 =>
            iteB (decide ((gi v0 0) < (il a0)))
              (chk (inb (gi v0 0) a0) <|
              chk (oks [li] (el a0 (gi v0 0)) 0) <|
              seqO (callO (M n_fine_isDay [ci (gi (el a0 (gi v0 0)) 0)]) fun v1 =>
                iteB (!(gb v1 0))
                  (some (.nx [cb true]))
                  (iteB (decide ((gi v0 0) > 0))
                    (chk (inb (wr ((gi v0 0) - 1)) a0) <|
                    chk (oks [li] (el a0 (wr ((gi v0 0) - 1))) 0) <|
                    some (.nx [cb (decide ((gi (el a0 (wr ((gi v0 0) - 1))) 0) ≥ (gi (el a0 (gi v0 0)) 0)))]))
                    (some (.nx [cb false])))) fun v1 =>
              iteB (gb v1 0)
                (some (.ret [cb false]))
                (some (.nx [ci (wr ((gi v0 0) + 1))])))
              (some (.br 0 []))) [ci 0]) fun v0 =>
        some (.ret [cb (decide ((il a0) ≤ 12))])
theorem r_fine_areDays (M : Den) (a0 : List (List CV)) : evF Try.prog sg M fe100 (bodyOf Try.f100) [(.row 1 a0)] = retO (R_fine_areDays M a0) := by kernel_rfl
theorem q_fine_areDays (n : Nat) (a0 : List (List CV)) : D (n + 1) n_fine_areDays [(.row 1 a0)] = retO (R_fine_areDays (D n) a0) := (show D (n + 1) n_fine_areDays [(.row 1 a0)] = evF Try.prog sg (D n) fe100 (bodyOf Try.f100) [(.row 1 a0)] from rfl).trans (r_fine_areDays (D n) a0)
def R_r06_areRates (M : Den) (a0_0 a0_1 a0_2 a0_3 a0_4 a0_5 a0_6 a0_7 a0_8 a0_9 : Int) : Option Ou :=
    blkO 0 (loopD (fun v0 =>
            iteB (decide ((gi v0 0) < 10))
              (chk ((decide (0 ≤ (gi v0 0))) && (decide ((gi v0 0) < (Int.ofNat 10)))) <|
              chk (oks [li] [ci a0_0, ci a0_1, ci a0_2, ci a0_3, ci a0_4, ci a0_5, ci a0_6, ci a0_7, ci a0_8, ci a0_9] (0 + ((Int.toNat (gi v0 0)) * 1))) <|
              callO (M n_r06_In ([ci (gi [ci a0_0, ci a0_1, ci a0_2, ci a0_3, ci a0_4, ci a0_5, ci a0_6, ci a0_7, ci a0_8, ci a0_9] (0 + ((Int.toNat (gi v0 0)) * 1))), ci 0, ci 10000])) fun v1 =>
              iteB (!(gb v1 0))
                (some (.ret [cb false]))
                (some (.nx [ci (wr ((gi v0 0) + 1))])))
              (some (.br 0 []))) [ci 0]) fun v0 =>
        some (.ret [cb (a0_0 == 0)])
theorem r_r06_areRates (M : Den) (a0_0 a0_1 a0_2 a0_3 a0_4 a0_5 a0_6 a0_7 a0_8 a0_9 : Int) : evF Try.prog sg M fe75 (bodyOf Try.f75) [(ci a0_0), (ci a0_1), (ci a0_2), (ci a0_3), (ci a0_4), (ci a0_5), (ci a0_6), (ci a0_7), (ci a0_8), (ci a0_9)] = retO (R_r06_areRates M a0_0 a0_1 a0_2 a0_3 a0_4 a0_5 a0_6 a0_7 a0_8 a0_9) := by kernel_rfl
theorem q_r06_areRates (n : Nat) (a0_0 a0_1 a0_2 a0_3 a0_4 a0_5 a0_6 a0_7 a0_8 a0_9 : Int) : D (n + 1) n_r06_areRates [(ci a0_0), (ci a0_1), (ci a0_2), (ci a0_3), (ci a0_4), (ci a0_5), (ci a0_6), (ci a0_7), (ci a0_8), (ci a0_9)] = retO (R_r06_areRates (D n) a0_0 a0_1 a0_2 a0_3 a0_4 a0_5 a0_6 a0_7 a0_8 a0_9) := (show D (n + 1) n_r06_areRates [(ci a0_0), (ci a0_1), (ci a0_2), (ci a0_3), (ci a0_4), (ci a0_5), (ci a0_6), (ci a0_7), (ci a0_8), (ci a0_9)] = evF Try.prog sg (D n) fe75 (bodyOf Try.f75) [(ci a0_0), (ci a0_1), (ci a0_2), (ci a0_3), (ci a0_4), (ci a0_5), (ci a0_6), (ci a0_7), (ci a0_8), (ci a0_9)] from rfl).trans (r_r06_areRates (D n) a0_0 a0_1 a0_2 a0_3 a0_4 a0_5 a0_6 a0_7 a0_8 a0_9)
def R_slices_IndexFunc_Note (M : Den) (a0 : List (List CV)) (a1 : CV) : Option Ou :=
    blkO 0 (loopD (fun v0 =>
            iteB (decide ((gi v0 0) < (il a0)))
              (chk (inb (gi v0 0) a0) <|
              chk (oks (List.replicate 7 li) (el a0 (gi v0 0)) 0) <|
              callO (callV sg M a1 (cis (el a0 (gi v0 0)) 0 7) [.agg (List.replicate 7 li)] [.one lb]) fun v1 =>
              iteB (gb v1 0)
                (some (.ret [ci (gi v0 0)]))
                (some (.nx [ci (wr ((gi v0 0) + 1))])))
              (some (.br 0 []))) [ci 0]) fun v0 =>
        some (.ret [ci (-1)])
theorem r_slices_IndexFunc_Note (M : Den) (a0 : List (List CV)) (a1 : CV) : evF Try.prog sg M fe137 (bodyOf Try.f137) [(.row 7 a0), a1] = retO (R_slices_IndexFunc_Note M a0 a1) := by kernel_rfl
theorem q_slices_IndexFunc_Note (n : Nat) (a0 : List (List CV)) (a1 : CV) : D (n + 1) n_slices_IndexFunc_Note [(.row 7 a0), a1] = retO (R_slices_IndexFunc_Note (D n) a0 a1) := (show D (n + 1) n_slices_IndexFunc_Note [(.row 7 a0), a1] = evF Try.prog sg (D n) fe137 (bodyOf Try.f137) [(.row 7 a0), a1] from rfl).trans (r_slices_IndexFunc_Note (D n) a0 a1)
def R_cmp_Compare_int (M : Den) (a0 a1 : Int) : Option Ou :=
    callO (M n_cmp_isNaN_int [ci a0]) fun v0 =>
        callO (M n_cmp_isNaN_int [ci a1]) fun v1 =>
        iteB (gb v0 0)
          (iteB (gb v1 0)
            (some (.ret [ci 0]))
            (some (.ret [ci (-1)])))
          (iteB (gb v1 0)
            (some (.ret [ci 1]))
            (iteB (decide (a0 < a1))
              (some (.ret [ci (-1)]))
              (iteB (decide (a0 > a1))
                (some (.ret [ci 1]))
                (some (.ret [ci 0])))))
theorem r_cmp_Compare_int (M : Den) (a0 a1 : Int) : evF Try.prog sg M fe59 (bodyOf Try.f59) [(ci a0), (ci a1)] = retO (R_cmp_Compare_int M a0 a1) := by kernel_rfl
theorem q_cmp_Compare_int (n : Nat) (a0 a1 : Int) : D (n + 1) n_cmp_Compare_int [(ci a0), (ci a1)] = retO (R_cmp_Compare_int (D n) a0 a1) := (show D (n + 1) n_cmp_Compare_int [(ci a0), (ci a1)] = evF Try.prog sg (D n) fe59 (bodyOf Try.f59) [(ci a0), (ci a1)] from rfl).trans (r_cmp_Compare_int (D n) a0 a1)
def R_fine_areTimes (M : Den) (a0 a1 a2 : Int) : Option Ou :=
    callO (M n_fine_isDay [ci a0]) fun v0 =>
        iteB (gb v0 0)
          (callO (M n_fine_isDay [ci a1]) fun v1 =>
          iteB (gb v1 0)
            (iteB (a2 == 0)
              (some (.ret [cb true]))
              (iteB (decide (a1 < a2))
                (some (.ret [cb (decide (a2 ≤ 100000))]))
                (some (.ret [cb false]))))
            (some (.ret [cb false])))
          (some (.ret [cb false]))
theorem r_fine_areTimes (M : Den) (a0 a1 a2 : Int) : evF Try.prog sg M fe76 (bodyOf Try.f76) [(ci a0), (ci a1), (ci a2)] = retO (R_fine_areTimes M a0 a1 a2) := by kernel_rfl
theorem q_fine_areTimes (n : Nat) (a0 a1 a2 : Int) : D (n + 1) n_fine_areTimes [(ci a0), (ci a1), (ci a2)] = retO (R_fine_areTimes (D n) a0 a1 a2) := (show D (n + 1) n_fine_areTimes [(ci a0), (ci a1), (ci a2)] = evF Try.prog sg (D n) fe76 (bodyOf Try.f76) [(ci a0), (ci a1), (ci a2)] from rfl).trans (r_fine_areTimes (D n) a0 a1 a2)
def R_fine_Lot (M : Den) (a0_0 a0_1 a0_2 : List (List CV)) (a1 a2 : Int) : Option Ou :=
    callO (M n_fine_stayOf [CV.row 24 a0_0, CV.row 9 a0_1, CV.row 7 a0_2, ci a1, ci a2]) fun v0 =>
        iteB ((gi v0 9) != 0)
          (some (.ret [ci 0, ci 0, ci 0, ci 0, ci (gi v0 9)]))
          (callO (M n_fine_lot (cat [[CV.row 24 a0_0, CV.row 9 a0_1, CV.row 7 a0_2], cis v0 0 9, [ci a2]])) fun v1 =>
          some (.ret (cat [cis v1 0 4, [ci 0]])))
theorem r_fine_Lot (M : Den) (a0_0 a0_1 a0_2 : List (List CV)) (a1 a2 : Int) : evF Try.prog sg M fe26 (bodyOf Try.f26) [(.row 24 a0_0), (.row 9 a0_1), (.row 7 a0_2), (ci a1), (ci a2)] = retO (R_fine_Lot M a0_0 a0_1 a0_2 a1 a2) := by kernel_rfl
theorem q_fine_Lot (n : Nat) (a0_0 a0_1 a0_2 : List (List CV)) (a1 a2 : Int) : D (n + 1) n_fine_Lot [(.row 24 a0_0), (.row 9 a0_1), (.row 7 a0_2), (ci a1), (ci a2)] = retO (R_fine_Lot (D n) a0_0 a0_1 a0_2 a1 a2) := (show D (n + 1) n_fine_Lot [(.row 24 a0_0), (.row 9 a0_1), (.row 7 a0_2), (ci a1), (ci a2)] = evF Try.prog sg (D n) fe26 (bodyOf Try.f26) [(.row 24 a0_0), (.row 9 a0_1), (.row 7 a0_2), (ci a1), (ci a2)] from rfl).trans (r_fine_Lot (D n) a0_0 a0_1 a0_2 a1 a2)
def R_r06_CheckPosts (M : Den) (a0_0 a0_1 a0_2 a1 a2 : List (List CV)) : Option Ou :=
    callO (M n_r06_Posts [CV.row 24 a0_0, CV.row 9 a0_1, CV.row 7 a0_2, CV.row 1 a1]) fun v0 =>
        iteB ((gi v0 1) != 0)
          (some (.ret [ci (gi v0 1)]))
          (callO (M n_r06_Same [CV.row 5 (gr v0 0), CV.row 5 a2]) fun v1 =>
          iteB (!(gb v1 0))
            (some (.ret [ci 67]))
            (some (.ret [ci 0])))
theorem r_r06_CheckPosts (M : Den) (a0_0 a0_1 a0_2 a1 a2 : List (List CV)) : evF Try.prog sg M fe50 (bodyOf Try.f50) [(.row 24 a0_0), (.row 9 a0_1), (.row 7 a0_2), (.row 1 a1), (.row 5 a2)] = retO (R_r06_CheckPosts M a0_0 a0_1 a0_2 a1 a2) := by kernel_rfl
theorem q_r06_CheckPosts (n : Nat) (a0_0 a0_1 a0_2 a1 a2 : List (List CV)) : D (n + 1) n_r06_CheckPosts [(.row 24 a0_0), (.row 9 a0_1), (.row 7 a0_2), (.row 1 a1), (.row 5 a2)] = retO (R_r06_CheckPosts (D n) a0_0 a0_1 a0_2 a1 a2) := (show D (n + 1) n_r06_CheckPosts [(.row 24 a0_0), (.row 9 a0_1), (.row 7 a0_2), (.row 1 a1), (.row 5 a2)] = evF Try.prog sg (D n) fe50 (bodyOf Try.f50) [(.row 24 a0_0), (.row 9 a0_1), (.row 7 a0_2), (.row 1 a1), (.row 5 a2)] from rfl).trans (r_r06_CheckPosts (D n) a0_0 a0_1 a0_2 a1 a2)
def R_fine_counts (M : Den) (a0 a1 a2 : Int) : Option Ou :=
    iteB (decide (a0 ≤ a2))
          (iteB (a1 == 0)
            (some (.ret [cb true]))
            (some (.ret [cb (decide (a1 > a2))])))
          (some (.ret [cb false]))
theorem r_fine_counts (M : Den) (a0 a1 a2 : Int) : evF Try.prog sg M fe128 (bodyOf Try.f128) [(ci a0), (ci a1), (ci a2)] = retO (R_fine_counts M a0 a1 a2) := by kernel_rfl
theorem q_fine_counts (n : Nat) (a0 a1 a2 : Int) : D (n + 1) n_fine_counts [(ci a0), (ci a1), (ci a2)] = retO (R_fine_counts (D n) a0 a1 a2) := (show D (n + 1) n_fine_counts [(ci a0), (ci a1), (ci a2)] = evF Try.prog sg (D n) fe128 (bodyOf Try.f128) [(ci a0), (ci a1), (ci a2)] from rfl).trans (r_fine_counts (D n) a0 a1 a2)
def R_r06_fed (M : Den) (a0_0 a0_1 a0_2 : List (List CV)) (a1_0 a1_1 a1_2 a1_3 a1_4 a1_5 a1_6 a1_7 a1_8 a2 : Int) : Option Ou :=
    callO (M n_r06_inForce [CV.row 24 a0_0, CV.row 9 a0_1, CV.row 7 a0_2, ci a2]) fun v0 =>
        some (.ret [ci (wr (Int.tdiv (wr (a1_3 * (gi v0 21))) 10))])
theorem r_r06_fed (M : Den) (a0_0 a0_1 a0_2 : List (List CV)) (a1_0 a1_1 a1_2 a1_3 a1_4 a1_5 a1_6 a1_7 a1_8 a2 : Int) : evF Try.prog sg M fe121 (bodyOf Try.f121) [(.row 24 a0_0), (.row 9 a0_1), (.row 7 a0_2), (ci a1_0), (ci a1_1), (ci a1_2), (ci a1_3), (ci a1_4), (ci a1_5), (ci a1_6), (ci a1_7), (ci a1_8), (ci a2)] = retO (R_r06_fed M a0_0 a0_1 a0_2 a1_0 a1_1 a1_2 a1_3 a1_4 a1_5 a1_6 a1_7 a1_8 a2) := by kernel_rfl
theorem q_r06_fed (n : Nat) (a0_0 a0_1 a0_2 : List (List CV)) (a1_0 a1_1 a1_2 a1_3 a1_4 a1_5 a1_6 a1_7 a1_8 a2 : Int) : D (n + 1) n_r06_fed [(.row 24 a0_0), (.row 9 a0_1), (.row 7 a0_2), (ci a1_0), (ci a1_1), (ci a1_2), (ci a1_3), (ci a1_4), (ci a1_5), (ci a1_6), (ci a1_7), (ci a1_8), (ci a2)] = retO (R_r06_fed (D n) a0_0 a0_1 a0_2 a1_0 a1_1 a1_2 a1_3 a1_4 a1_5 a1_6 a1_7 a1_8 a2) := (show D (n + 1) n_r06_fed [(.row 24 a0_0), (.row 9 a0_1), (.row 7 a0_2), (ci a1_0), (ci a1_1), (ci a1_2), (ci a1_3), (ci a1_4), (ci a1_5), (ci a1_6), (ci a1_7), (ci a1_8), (ci a2)] = evF Try.prog sg (D n) fe121 (bodyOf Try.f121) [(.row 24 a0_0), (.row 9 a0_1), (.row 7 a0_2), (ci a1_0), (ci a1_1), (ci a1_2), (ci a1_3), (ci a1_4), (ci a1_5), (ci a1_6), (ci a1_7), (ci a1_8), (ci a2)] from rfl).trans (r_r06_fed (D n) a0_0 a0_1 a0_2 a1_0 a1_1 a1_2 a1_3 a1_4 a1_5 a1_6 a1_7 a1_8 a2)
def R_slices_ContainsFunc_int (M : Den) (a0 : List (List CV)) (a1 : CV) : Option Ou :=
    callO (M n_slices_IndexFunc_int [CV.row 1 a0, a1]) fun v0 =>
        some (.ret [cb (decide ((gi v0 0) ≥ 0))])
theorem r_slices_ContainsFunc_int (M : Den) (a0 : List (List CV)) (a1 : CV) : evF Try.prog sg M fe111 (bodyOf Try.f111) [(.row 1 a0), a1] = retO (R_slices_ContainsFunc_int M a0 a1) := by kernel_rfl
theorem q_slices_ContainsFunc_int (n : Nat) (a0 : List (List CV)) (a1 : CV) : D (n + 1) n_slices_ContainsFunc_int [(.row 1 a0), a1] = retO (R_slices_ContainsFunc_int (D n) a0 a1) := (show D (n + 1) n_slices_ContainsFunc_int [(.row 1 a0), a1] = evF Try.prog sg (D n) fe111 (bodyOf Try.f111) [(.row 1 a0), a1] from rfl).trans (r_slices_ContainsFunc_int (D n) a0 a1)
def R_fine_check_c1 (M : Den) (a0 : Int) : Option Ou :=
    callO (M n_fine_isDay [ci a0]) fun v0 =>
        some (.ret [cb (!(gb v0 0))])
theorem r_fine_check_c1 (M : Den) (a0 : Int) : evF Try.prog sg M fe122 (bodyOf Try.f122) [(ci a0)] = retO (R_fine_check_c1 M a0) := by kernel_rfl
theorem q_fine_check_c1 (n : Nat) (a0 : Int) : D (n + 1) n_fine_check_c1 [(ci a0)] = retO (R_fine_check_c1 (D n) a0) := (show D (n + 1) n_fine_check_c1 [(ci a0)] = evF Try.prog sg (D n) fe122 (bodyOf Try.f122) [(ci a0)] from rfl).trans (r_fine_check_c1 (D n) a0)
def R_fine_Check_c1 (M : Den) (a0_0 a0_1 a0_2 a0_3 a0_4 a0_5 a0_6 a0_7 a0_8 a0_9 a0_10 a0_11 a0_12 a0_13 a0_14 a0_15 a0_16 a0_17 a0_18 a0_19 a0_20 a0_21 a0_22 a0_23 : Int) : Option Ou :=
    some (.ret [ci a0_0])
theorem r_fine_Check_c1 (M : Den) (a0_0 a0_1 a0_2 a0_3 a0_4 a0_5 a0_6 a0_7 a0_8 a0_9 a0_10 a0_11 a0_12 a0_13 a0_14 a0_15 a0_16 a0_17 a0_18 a0_19 a0_20 a0_21 a0_22 a0_23 : Int) : evF Try.prog sg M fe66 (bodyOf Try.f66) [(ci a0_0), (ci a0_1), (ci a0_2), (ci a0_3), (ci a0_4), (ci a0_5), (ci a0_6), (ci a0_7), (ci a0_8), (ci a0_9), (ci a0_10), (ci a0_11), (ci a0_12), (ci a0_13), (ci a0_14), (ci a0_15), (ci a0_16), (ci a0_17), (ci a0_18), (ci a0_19), (ci a0_20), (ci a0_21), (ci a0_22), (ci a0_23)] = retO (R_fine_Check_c1 M a0_0 a0_1 a0_2 a0_3 a0_4 a0_5 a0_6 a0_7 a0_8 a0_9 a0_10 a0_11 a0_12 a0_13 a0_14 a0_15 a0_16 a0_17 a0_18 a0_19 a0_20 a0_21 a0_22 a0_23) := by kernel_rfl
theorem q_fine_Check_c1 (n : Nat) (a0_0 a0_1 a0_2 a0_3 a0_4 a0_5 a0_6 a0_7 a0_8 a0_9 a0_10 a0_11 a0_12 a0_13 a0_14 a0_15 a0_16 a0_17 a0_18 a0_19 a0_20 a0_21 a0_22 a0_23 : Int) : D (n + 1) n_fine_Check_c1 [(ci a0_0), (ci a0_1), (ci a0_2), (ci a0_3), (ci a0_4), (ci a0_5), (ci a0_6), (ci a0_7), (ci a0_8), (ci a0_9), (ci a0_10), (ci a0_11), (ci a0_12), (ci a0_13), (ci a0_14), (ci a0_15), (ci a0_16), (ci a0_17), (ci a0_18), (ci a0_19), (ci a0_20), (ci a0_21), (ci a0_22), (ci a0_23)] = retO (R_fine_Check_c1 (D n) a0_0 a0_1 a0_2 a0_3 a0_4 a0_5 a0_6 a0_7 a0_8 a0_9 a0_10 a0_11 a0_12 a0_13 a0_14 a0_15 a0_16 a0_17 a0_18 a0_19 a0_20 a0_21 a0_22 a0_23) := (show D (n + 1) n_fine_Check_c1 [(ci a0_0), (ci a0_1), (ci a0_2), (ci a0_3), (ci a0_4), (ci a0_5), (ci a0_6), (ci a0_7), (ci a0_8), (ci a0_9), (ci a0_10), (ci a0_11), (ci a0_12), (ci a0_13), (ci a0_14), (ci a0_15), (ci a0_16), (ci a0_17), (ci a0_18), (ci a0_19), (ci a0_20), (ci a0_21), (ci a0_22), (ci a0_23)] = evF Try.prog sg (D n) fe66 (bodyOf Try.f66) [(ci a0_0), (ci a0_1), (ci a0_2), (ci a0_3), (ci a0_4), (ci a0_5), (ci a0_6), (ci a0_7), (ci a0_8), (ci a0_9), (ci a0_10), (ci a0_11), (ci a0_12), (ci a0_13), (ci a0_14), (ci a0_15), (ci a0_16), (ci a0_17), (ci a0_18), (ci a0_19), (ci a0_20), (ci a0_21), (ci a0_22), (ci a0_23)] from rfl).trans (r_fine_Check_c1 (D n) a0_0 a0_1 a0_2 a0_3 a0_4 a0_5 a0_6 a0_7 a0_8 a0_9 a0_10 a0_11 a0_12 a0_13 a0_14 a0_15 a0_16 a0_17 a0_18 a0_19 a0_20 a0_21 a0_22 a0_23)
end
end Go.Proofs.Ytabhbdehbpmpkaa
namespace Go.Proofs.Ytabhbdehbpmpkaa
open Go Go.Sx Go.Fine
set_option maxRecDepth 100000
theorem shp_int {n : Nat} {c : List CV} (h : Shp Try.prog (n + 1) 3 c) : ∃ m : Int, c = [ci m] ∧ -9223372036854775808 ≤ m ∧ m < 9223372036854775808 := by
  simp only [Shp, Try.underlying3] at h
  obtain ⟨m, rfl, hm⟩ := h
  refine ⟨m, rfl, ?_⟩
  simp [Lit.wf, IntKind.min, IntKind.max, IntKind.signed, IntKind.bits] at hm
  omega
theorem shp_ints {n : Nat} : ∀ {k : Nat} {c : List CV}, ShpL (Shp Try.prog (n + 1)) (List.replicate k 3) c → ∃ l : List Int, l.length = k ∧ c = l.map ci
  | 0, c, h => ⟨[], rfl, h⟩
  | k + 1, c, h => by
    simp only [List.replicate_succ, ShpL] at h
    obtain ⟨a, b, rfl, h1, h2⟩ := h
    obtain ⟨m, rfl, _⟩ := shp_int h1
    obtain ⟨l, h3, rfl⟩ := shp_ints h2
    exact ⟨m :: l, by simp [h3], rfl⟩
theorem ten {l : List Int} (h : l.length = 10) : ∃ a0 a1 a2 a3 a4 a5 a6 a7 a8 a9, l = [a0, a1, a2, a3, a4, a5, a6, a7, a8, a9] := by
  match l, h with
  | [a0, a1, a2, a3, a4, a5, a6, a7, a8, a9], _ => exact ⟨_, _, _, _, _, _, _, _, _, _, rfl⟩
theorem shp_rates {n : Nat} {c : List CV} (h : Shp Try.prog (n + 2) 28 c) : ∃ a0 a1 a2 a3 a4 a5 a6 a7 a8 a9, c = [ci a0, ci a1, ci a2, ci a3, ci a4, ci a5, ci a6, ci a7, ci a8, ci a9] := by
  simp only [Shp, Try.underlying28] at h
  obtain ⟨l, hl, rfl⟩ := shp_ints h
  obtain ⟨a0, a1, a2, a3, a4, a5, a6, a7, a8, a9, rfl⟩ := ten hl
  exact ⟨a0, a1, a2, a3, a4, a5, a6, a7, a8, a9, rfl⟩
theorem shp_tariff {n : Nat} {c : List CV} (h : Shp Try.prog (n + 3) 30 c) : ∃ t : Tariff, c = t.cv := by
  rw [Shp] at h
  simp only [Try.underlying30, List.map_cons, List.map_nil, ShpL] at h
  obtain ⟨_, _, rfl, h1, _, _, rfl, h2, _, _, rfl, h3, _, _, rfl, h4, _, _, rfl, h5, _, _, rfl, h6, rfl⟩ := h
  obtain ⟨m1, rfl, _⟩ := shp_int h1
  obtain ⟨a0, a1, a2, a3, a4, a5, a6, a7, a8, a9, rfl⟩ := shp_rates h2
  obtain ⟨b0, b1, b2, b3, b4, b5, b6, b7, b8, b9, rfl⟩ := shp_rates h3
  obtain ⟨m4, rfl, _⟩ := shp_int h4
  obtain ⟨m5, rfl, _⟩ := shp_int h5
  obtain ⟨m6, rfl, _⟩ := shp_int h6
  exact ⟨⟨m1, a0, a1, a2, a3, a4, a5, a6, a7, a8, a9, b0, b1, b2, b3, b4, b5, b6, b7, b8, b9, m4, m5, m6⟩, rfl⟩
theorem shp_held {n : Nat} {c : List CV} (h : Shp Try.prog (n + 2) 32 c) : ∃ t : Held, c = t.cv := by
  rw [Shp] at h
  simp only [Try.underlying32, List.map_cons, List.map_nil, ShpL] at h
  obtain ⟨_, _, rfl, h1, _, _, rfl, h2, _, _, rfl, h3, _, _, rfl, h4, _, _, rfl, h5, _, _, rfl, h6, _, _, rfl, h7, _, _, rfl, h8, _, _, rfl, h9, rfl⟩ := h
  obtain ⟨m1, rfl, _⟩ := shp_int h1
  obtain ⟨m2, rfl, _⟩ := shp_int h2
  obtain ⟨m3, rfl, _⟩ := shp_int h3
  obtain ⟨m4, rfl, _⟩ := shp_int h4
  obtain ⟨m5, rfl, _⟩ := shp_int h5
  obtain ⟨m6, rfl, _⟩ := shp_int h6
  obtain ⟨m7, rfl, _⟩ := shp_int h7
  obtain ⟨m8, rfl, _⟩ := shp_int h8
  obtain ⟨m9, rfl, _⟩ := shp_int h9
  exact ⟨⟨m1, m2, m3, m4, m5, m6, m7, m8, m9⟩, rfl⟩
theorem shp_note {n : Nat} {c : List CV} (h : Shp Try.prog (n + 2) 34 c) : ∃ t : Note, c = t.cv := by
  rw [Shp] at h
  simp only [Try.underlying34, List.map_cons, List.map_nil, ShpL] at h
  obtain ⟨_, _, rfl, h1, _, _, rfl, h2, _, _, rfl, h3, _, _, rfl, h4, _, _, rfl, h5, _, _, rfl, h6, _, _, rfl, h7, rfl⟩ := h
  obtain ⟨m1, rfl, _⟩ := shp_int h1
  obtain ⟨m2, rfl, _⟩ := shp_int h2
  obtain ⟨m3, rfl, _⟩ := shp_int h3
  obtain ⟨m4, rfl, _⟩ := shp_int h4
  obtain ⟨m5, rfl, _⟩ := shp_int h5
  obtain ⟨m6, rfl, _⟩ := shp_int h6
  obtain ⟨m7, rfl, _⟩ := shp_int h7
  exact ⟨⟨m1, m2, m3, m4, m5, m6, m7⟩, rfl⟩
theorem rows_cv {A : Type} {cv : A → List CV} : ∀ {es : List (List CV)}, (∀ x ∈ es, ∃ a, x = cv a) → ∃ l : List A, es = l.map cv
  | [], _ => ⟨[], rfl⟩
  | e :: es, h => by
    obtain ⟨a, rfl⟩ := h e (by simp)
    obtain ⟨l, rfl⟩ := rows_cv (es := es) fun x hx => h x (by simp [hx])
    exact ⟨a :: l, rfl⟩
theorem reach_len {n m : Nat} (h : n * m ≤ reachBytes) (hm : 2 ≤ m) : n < 100000000000000 := by
  have h1 : n * 2 ≤ n * m := Nat.mul_le_mul_left _ hm
  have h2 : reachBytes < 2 ^ 47 := by decide
  omega
theorem shp_acc {n : Nat} {c : List CV} (h : Shp Try.prog (n + 5) 26 c) : ∃ p : Fine.Acc, p.fits ∧ c = [.row 24 (p.ts.map Tariff.cv), .row 9 (p.ss.map Held.cv), .row 7 (p.ns.map Note.cv)] := by
  have c30 : Try.prog.cellsOf 30 = 24 := by kernel_rfl
  have c32 : Try.prog.cellsOf 32 = 9 := by kernel_rfl
  have c34 : Try.prog.cellsOf 34 = 7 := by kernel_rfl
  have b30 : Try.prog.bytesOf 30 = 192 := by kernel_rfl
  have b32 : Try.prog.bytesOf 32 = 72 := by kernel_rfl
  have b34 : Try.prog.bytesOf 34 = 56 := by kernel_rfl
  rw [Shp] at h
  simp only [Try.underlying26, List.map_cons, List.map_nil, ShpL] at h
  obtain ⟨_, _, rfl, h1, _, _, rfl, h2, _, _, rfl, h3, rfl⟩ := h
  rw [Shp] at h1 h2 h3
  simp only [Try.underlying22, c30, b30] at h1
  simp only [Try.underlying23, c32, b32] at h2
  simp only [Try.underlying24, c34, b34] at h3
  obtain ⟨e1, rfl, r1, s1⟩ := h1
  obtain ⟨e2, rfl, r2, s2⟩ := h2
  obtain ⟨e3, rfl, r3, s3⟩ := h3
  obtain ⟨l1, rfl⟩ := rows_cv fun x hx => shp_tariff (r1 x hx)
  obtain ⟨l2, rfl⟩ := rows_cv fun x hx => shp_held (r2 x hx)
  obtain ⟨l3, rfl⟩ := rows_cv fun x hx => shp_note (r3 x hx)
  simp only [List.length_map] at s1 s2 s3
  exact ⟨⟨l1, l2, l3⟩, ⟨reach_len s1 (by decide), reach_len s2 (by decide), reach_len s3 (by decide)⟩, rfl⟩
end Go.Proofs.Ytabhbdehbpmpkaa
namespace Go.Proofs.Ytabhbdehbpmpkaa
open Go Go.Sx
set_option maxRecDepth 100000
theorem en9 : ∃ fn, EntOk Try.prog 9 fe9 fn ∧ bodyOf Try.f9 = bodyOf fn := ⟨Try.f9, ⟨by kernel_rfl, by kernel_rfl, by kernel_rfl, by kernel_rfl, by kernel_rfl⟩, rfl⟩
theorem en12 : ∃ fn, EntOk Try.prog 12 fe12 fn ∧ bodyOf Try.f12 = bodyOf fn := ⟨Try.f12, ⟨by kernel_rfl, by kernel_rfl, by kernel_rfl, by kernel_rfl, by kernel_rfl⟩, rfl⟩
theorem en13 : ∃ fn, EntOk Try.prog 13 fe13 fn ∧ bodyOf Try.f13 = bodyOf fn := ⟨Try.f13, ⟨by kernel_rfl, by kernel_rfl, by kernel_rfl, by kernel_rfl, by kernel_rfl⟩, rfl⟩
theorem en16 : ∃ fn, EntOk Try.prog 16 fe16 fn ∧ bodyOf Try.f16 = bodyOf fn := ⟨Try.f16, ⟨by kernel_rfl, by kernel_rfl, by kernel_rfl, by kernel_rfl, by kernel_rfl⟩, rfl⟩
theorem en17 : ∃ fn, EntOk Try.prog 17 fe17 fn ∧ bodyOf Try.f17 = bodyOf fn := ⟨Try.f17, ⟨by kernel_rfl, by kernel_rfl, by kernel_rfl, by kernel_rfl, by kernel_rfl⟩, rfl⟩
theorem en18 : ∃ fn, EntOk Try.prog 18 fe18 fn ∧ bodyOf Try.f18 = bodyOf fn := ⟨Try.f18, ⟨by kernel_rfl, by kernel_rfl, by kernel_rfl, by kernel_rfl, by kernel_rfl⟩, rfl⟩
theorem en19 : ∃ fn, EntOk Try.prog 19 fe19 fn ∧ bodyOf Try.f19 = bodyOf fn := ⟨Try.f19, ⟨by kernel_rfl, by kernel_rfl, by kernel_rfl, by kernel_rfl, by kernel_rfl⟩, rfl⟩
theorem en20 : ∃ fn, EntOk Try.prog 20 fe20 fn ∧ bodyOf Try.f20 = bodyOf fn := ⟨Try.f20, ⟨by kernel_rfl, by kernel_rfl, by kernel_rfl, by kernel_rfl, by kernel_rfl⟩, rfl⟩
theorem en21 : ∃ fn, EntOk Try.prog 21 fe21 fn ∧ bodyOf Try.f21 = bodyOf fn := ⟨Try.f21, ⟨by kernel_rfl, by kernel_rfl, by kernel_rfl, by kernel_rfl, by kernel_rfl⟩, rfl⟩
theorem en22 : ∃ fn, EntOk Try.prog 22 fe22 fn ∧ bodyOf Try.f22 = bodyOf fn := ⟨Try.f22, ⟨by kernel_rfl, by kernel_rfl, by kernel_rfl, by kernel_rfl, by kernel_rfl⟩, rfl⟩
theorem en23 : ∃ fn, EntOk Try.prog 23 fe23 fn ∧ bodyOf Try.f23 = bodyOf fn := ⟨Try.f23, ⟨by kernel_rfl, by kernel_rfl, by kernel_rfl, by kernel_rfl, by kernel_rfl⟩, rfl⟩
theorem en26 : ∃ fn, EntOk Try.prog 26 fe26 fn ∧ bodyOf Try.f26 = bodyOf fn := ⟨Try.f26, ⟨by kernel_rfl, by kernel_rfl, by kernel_rfl, by kernel_rfl, by kernel_rfl⟩, rfl⟩
theorem en27 : ∃ fn, EntOk Try.prog 27 fe27 fn ∧ bodyOf Try.f27 = bodyOf fn := ⟨Try.f27, ⟨by kernel_rfl, by kernel_rfl, by kernel_rfl, by kernel_rfl, by kernel_rfl⟩, rfl⟩
theorem en28 : ∃ fn, EntOk Try.prog 28 fe28 fn ∧ bodyOf Try.f28 = bodyOf fn := ⟨Try.f28, ⟨by kernel_rfl, by kernel_rfl, by kernel_rfl, by kernel_rfl, by kernel_rfl⟩, rfl⟩
theorem en44 : ∃ fn, EntOk Try.prog 44 fe44 fn ∧ bodyOf Try.f44 = bodyOf fn := ⟨Try.f44, ⟨by kernel_rfl, by kernel_rfl, by kernel_rfl, by kernel_rfl, by kernel_rfl⟩, rfl⟩
theorem en45 : ∃ fn, EntOk Try.prog 45 fe45 fn ∧ bodyOf Try.f45 = bodyOf fn := ⟨Try.f45, ⟨by kernel_rfl, by kernel_rfl, by kernel_rfl, by kernel_rfl, by kernel_rfl⟩, rfl⟩
theorem en46 : ∃ fn, EntOk Try.prog 46 fe46 fn ∧ bodyOf Try.f46 = bodyOf fn := ⟨Try.f46, ⟨by kernel_rfl, by kernel_rfl, by kernel_rfl, by kernel_rfl, by kernel_rfl⟩, rfl⟩
theorem en47 : ∃ fn, EntOk Try.prog 47 fe47 fn ∧ bodyOf Try.f47 = bodyOf fn := ⟨Try.f47, ⟨by kernel_rfl, by kernel_rfl, by kernel_rfl, by kernel_rfl, by kernel_rfl⟩, rfl⟩
theorem en48 : ∃ fn, EntOk Try.prog 48 fe48 fn ∧ bodyOf Try.f48 = bodyOf fn := ⟨Try.f48, ⟨by kernel_rfl, by kernel_rfl, by kernel_rfl, by kernel_rfl, by kernel_rfl⟩, rfl⟩
theorem en49 : ∃ fn, EntOk Try.prog 49 fe49 fn ∧ bodyOf Try.f49 = bodyOf fn := ⟨Try.f49, ⟨by kernel_rfl, by kernel_rfl, by kernel_rfl, by kernel_rfl, by kernel_rfl⟩, rfl⟩
theorem en50 : ∃ fn, EntOk Try.prog 50 fe50 fn ∧ bodyOf Try.f50 = bodyOf fn := ⟨Try.f50, ⟨by kernel_rfl, by kernel_rfl, by kernel_rfl, by kernel_rfl, by kernel_rfl⟩, rfl⟩
theorem en55 : ∃ fn, EntOk Try.prog 55 fe55 fn ∧ bodyOf Try.f55 = bodyOf fn := ⟨Try.f55, ⟨by kernel_rfl, by kernel_rfl, by kernel_rfl, by kernel_rfl, by kernel_rfl⟩, rfl⟩
theorem en56 : ∃ fn, EntOk Try.prog 56 fe56 fn ∧ bodyOf Try.f56 = bodyOf fn := ⟨Try.f56, ⟨by kernel_rfl, by kernel_rfl, by kernel_rfl, by kernel_rfl, by kernel_rfl⟩, rfl⟩
theorem en57 : ∃ fn, EntOk Try.prog 57 fe57 fn ∧ bodyOf Try.f57 = bodyOf fn := ⟨Try.f57, ⟨by kernel_rfl, by kernel_rfl, by kernel_rfl, by kernel_rfl, by kernel_rfl⟩, rfl⟩
theorem en58 : ∃ fn, EntOk Try.prog 58 fe58 fn ∧ bodyOf Try.f58 = bodyOf fn := ⟨Try.f58, ⟨by kernel_rfl, by kernel_rfl, by kernel_rfl, by kernel_rfl, by kernel_rfl⟩, rfl⟩
theorem en59 : ∃ fn, EntOk Try.prog 59 fe59 fn ∧ bodyOf Try.f59 = bodyOf fn := ⟨Try.f59, ⟨by kernel_rfl, by kernel_rfl, by kernel_rfl, by kernel_rfl, by kernel_rfl⟩, rfl⟩
theorem en60 : ∃ fn, EntOk Try.prog 60 fe60 fn ∧ bodyOf Try.f60 = bodyOf fn := ⟨Try.f60, ⟨by kernel_rfl, by kernel_rfl, by kernel_rfl, by kernel_rfl, by kernel_rfl⟩, rfl⟩
theorem en61 : ∃ fn, EntOk Try.prog 61 fe61 fn ∧ bodyOf Try.f61 = bodyOf fn := ⟨Try.f61, ⟨by kernel_rfl, by kernel_rfl, by kernel_rfl, by kernel_rfl, by kernel_rfl⟩, rfl⟩
theorem en65 : ∃ fn, EntOk Try.prog 65 fe65 fn ∧ bodyOf Try.f65 = bodyOf fn := ⟨Try.f65, ⟨by kernel_rfl, by kernel_rfl, by kernel_rfl, by kernel_rfl, by kernel_rfl⟩, rfl⟩
theorem en66 : ∃ fn, EntOk Try.prog 66 fe66 fn ∧ bodyOf Try.f66 = bodyOf fn := ⟨Try.f66, ⟨by kernel_rfl, by kernel_rfl, by kernel_rfl, by kernel_rfl, by kernel_rfl⟩, rfl⟩
theorem en67 : ∃ fn, EntOk Try.prog 67 fe67 fn ∧ bodyOf Try.f67 = bodyOf fn := ⟨Try.f67, ⟨by kernel_rfl, by kernel_rfl, by kernel_rfl, by kernel_rfl, by kernel_rfl⟩, rfl⟩
theorem en68 : ∃ fn, EntOk Try.prog 68 fe68 fn ∧ bodyOf Try.f68 = bodyOf fn := ⟨Try.f68, ⟨by kernel_rfl, by kernel_rfl, by kernel_rfl, by kernel_rfl, by kernel_rfl⟩, rfl⟩
theorem en69 : ∃ fn, EntOk Try.prog 69 fe69 fn ∧ bodyOf Try.f69 = bodyOf fn := ⟨Try.f69, ⟨by kernel_rfl, by kernel_rfl, by kernel_rfl, by kernel_rfl, by kernel_rfl⟩, rfl⟩
theorem en70 : ∃ fn, EntOk Try.prog 70 fe70 fn ∧ bodyOf Try.f70 = bodyOf fn := ⟨Try.f70, ⟨by kernel_rfl, by kernel_rfl, by kernel_rfl, by kernel_rfl, by kernel_rfl⟩, rfl⟩
theorem en71 : ∃ fn, EntOk Try.prog 71 fe71 fn ∧ bodyOf Try.f71 = bodyOf fn := ⟨Try.f71, ⟨by kernel_rfl, by kernel_rfl, by kernel_rfl, by kernel_rfl, by kernel_rfl⟩, rfl⟩
theorem en72 : ∃ fn, EntOk Try.prog 72 fe72 fn ∧ bodyOf Try.f72 = bodyOf fn := ⟨Try.f72, ⟨by kernel_rfl, by kernel_rfl, by kernel_rfl, by kernel_rfl, by kernel_rfl⟩, rfl⟩
theorem en73 : ∃ fn, EntOk Try.prog 73 fe73 fn ∧ bodyOf Try.f73 = bodyOf fn := ⟨Try.f73, ⟨by kernel_rfl, by kernel_rfl, by kernel_rfl, by kernel_rfl, by kernel_rfl⟩, rfl⟩
theorem en74 : ∃ fn, EntOk Try.prog 74 fe74 fn ∧ bodyOf Try.f74 = bodyOf fn := ⟨Try.f74, ⟨by kernel_rfl, by kernel_rfl, by kernel_rfl, by kernel_rfl, by kernel_rfl⟩, rfl⟩
theorem en75 : ∃ fn, EntOk Try.prog 75 fe75 fn ∧ bodyOf Try.f75 = bodyOf fn := ⟨Try.f75, ⟨by kernel_rfl, by kernel_rfl, by kernel_rfl, by kernel_rfl, by kernel_rfl⟩, rfl⟩
theorem en76 : ∃ fn, EntOk Try.prog 76 fe76 fn ∧ bodyOf Try.f76 = bodyOf fn := ⟨Try.f76, ⟨by kernel_rfl, by kernel_rfl, by kernel_rfl, by kernel_rfl, by kernel_rfl⟩, rfl⟩
theorem en77 : ∃ fn, EntOk Try.prog 77 fe77 fn ∧ bodyOf Try.f77 = bodyOf fn := ⟨Try.f77, ⟨by kernel_rfl, by kernel_rfl, by kernel_rfl, by kernel_rfl, by kernel_rfl⟩, rfl⟩
theorem en78 : ∃ fn, EntOk Try.prog 78 fe78 fn ∧ bodyOf Try.f78 = bodyOf fn := ⟨Try.f78, ⟨by kernel_rfl, by kernel_rfl, by kernel_rfl, by kernel_rfl, by kernel_rfl⟩, rfl⟩
theorem en79 : ∃ fn, EntOk Try.prog 79 fe79 fn ∧ bodyOf Try.f79 = bodyOf fn := ⟨Try.f79, ⟨by kernel_rfl, by kernel_rfl, by kernel_rfl, by kernel_rfl, by kernel_rfl⟩, rfl⟩
theorem en80 : ∃ fn, EntOk Try.prog 80 fe80 fn ∧ bodyOf Try.f80 = bodyOf fn := ⟨Try.f80, ⟨by kernel_rfl, by kernel_rfl, by kernel_rfl, by kernel_rfl, by kernel_rfl⟩, rfl⟩
theorem en81 : ∃ fn, EntOk Try.prog 81 fe81 fn ∧ bodyOf Try.f81 = bodyOf fn := ⟨Try.f81, ⟨by kernel_rfl, by kernel_rfl, by kernel_rfl, by kernel_rfl, by kernel_rfl⟩, rfl⟩
theorem en83 : ∃ fn, EntOk Try.prog 83 fe83 fn ∧ bodyOf Try.f83 = bodyOf fn := ⟨Try.f83, ⟨by kernel_rfl, by kernel_rfl, by kernel_rfl, by kernel_rfl, by kernel_rfl⟩, rfl⟩
theorem en84 : ∃ fn, EntOk Try.prog 84 fe84 fn ∧ bodyOf Try.f84 = bodyOf fn := ⟨Try.f84, ⟨by kernel_rfl, by kernel_rfl, by kernel_rfl, by kernel_rfl, by kernel_rfl⟩, rfl⟩
theorem en85 : ∃ fn, EntOk Try.prog 85 fe85 fn ∧ bodyOf Try.f85 = bodyOf fn := ⟨Try.f85, ⟨by kernel_rfl, by kernel_rfl, by kernel_rfl, by kernel_rfl, by kernel_rfl⟩, rfl⟩
theorem en86 : ∃ fn, EntOk Try.prog 86 fe86 fn ∧ bodyOf Try.f86 = bodyOf fn := ⟨Try.f86, ⟨by kernel_rfl, by kernel_rfl, by kernel_rfl, by kernel_rfl, by kernel_rfl⟩, rfl⟩
theorem en87 : ∃ fn, EntOk Try.prog 87 fe87 fn ∧ bodyOf Try.f87 = bodyOf fn := ⟨Try.f87, ⟨by kernel_rfl, by kernel_rfl, by kernel_rfl, by kernel_rfl, by kernel_rfl⟩, rfl⟩
theorem en88 : ∃ fn, EntOk Try.prog 88 fe88 fn ∧ bodyOf Try.f88 = bodyOf fn := ⟨Try.f88, ⟨by kernel_rfl, by kernel_rfl, by kernel_rfl, by kernel_rfl, by kernel_rfl⟩, rfl⟩
theorem en92 : ∃ fn, EntOk Try.prog 92 fe92 fn ∧ bodyOf Try.f92 = bodyOf fn := ⟨Try.f92, ⟨by kernel_rfl, by kernel_rfl, by kernel_rfl, by kernel_rfl, by kernel_rfl⟩, rfl⟩
theorem en94 : ∃ fn, EntOk Try.prog 94 fe94 fn ∧ bodyOf Try.f94 = bodyOf fn := ⟨Try.f94, ⟨by kernel_rfl, by kernel_rfl, by kernel_rfl, by kernel_rfl, by kernel_rfl⟩, rfl⟩
theorem en95 : ∃ fn, EntOk Try.prog 95 fe95 fn ∧ bodyOf Try.f95 = bodyOf fn := ⟨Try.f95, ⟨by kernel_rfl, by kernel_rfl, by kernel_rfl, by kernel_rfl, by kernel_rfl⟩, rfl⟩
theorem en97 : ∃ fn, EntOk Try.prog 97 fe97 fn ∧ bodyOf Try.f97 = bodyOf fn := ⟨Try.f97, ⟨by kernel_rfl, by kernel_rfl, by kernel_rfl, by kernel_rfl, by kernel_rfl⟩, rfl⟩
theorem en98 : ∃ fn, EntOk Try.prog 98 fe98 fn ∧ bodyOf Try.f98 = bodyOf fn := ⟨Try.f98, ⟨by kernel_rfl, by kernel_rfl, by kernel_rfl, by kernel_rfl, by kernel_rfl⟩, rfl⟩
theorem en99 : ∃ fn, EntOk Try.prog 99 fe99 fn ∧ bodyOf Try.f99 = bodyOf fn := ⟨Try.f99, ⟨by kernel_rfl, by kernel_rfl, by kernel_rfl, by kernel_rfl, by kernel_rfl⟩, rfl⟩
theorem en100 : ∃ fn, EntOk Try.prog 100 fe100 fn ∧ bodyOf Try.f100 = bodyOf fn := ⟨Try.f100, ⟨by kernel_rfl, by kernel_rfl, by kernel_rfl, by kernel_rfl, by kernel_rfl⟩, rfl⟩
theorem en101 : ∃ fn, EntOk Try.prog 101 fe101 fn ∧ bodyOf Try.f101 = bodyOf fn := ⟨Try.f101, ⟨by kernel_rfl, by kernel_rfl, by kernel_rfl, by kernel_rfl, by kernel_rfl⟩, rfl⟩
theorem en102 : ∃ fn, EntOk Try.prog 102 fe102 fn ∧ bodyOf Try.f102 = bodyOf fn := ⟨Try.f102, ⟨by kernel_rfl, by kernel_rfl, by kernel_rfl, by kernel_rfl, by kernel_rfl⟩, rfl⟩
theorem en103 : ∃ fn, EntOk Try.prog 103 fe103 fn ∧ bodyOf Try.f103 = bodyOf fn := ⟨Try.f103, ⟨by kernel_rfl, by kernel_rfl, by kernel_rfl, by kernel_rfl, by kernel_rfl⟩, rfl⟩
theorem en104 : ∃ fn, EntOk Try.prog 104 fe104 fn ∧ bodyOf Try.f104 = bodyOf fn := ⟨Try.f104, ⟨by kernel_rfl, by kernel_rfl, by kernel_rfl, by kernel_rfl, by kernel_rfl⟩, rfl⟩
theorem en108 : ∃ fn, EntOk Try.prog 108 fe108 fn ∧ bodyOf Try.f108 = bodyOf fn := ⟨Try.f108, ⟨by kernel_rfl, by kernel_rfl, by kernel_rfl, by kernel_rfl, by kernel_rfl⟩, rfl⟩
theorem en111 : ∃ fn, EntOk Try.prog 111 fe111 fn ∧ bodyOf Try.f111 = bodyOf fn := ⟨Try.f111, ⟨by kernel_rfl, by kernel_rfl, by kernel_rfl, by kernel_rfl, by kernel_rfl⟩, rfl⟩
theorem en112 : ∃ fn, EntOk Try.prog 112 fe112 fn ∧ bodyOf Try.f112 = bodyOf fn := ⟨Try.f112, ⟨by kernel_rfl, by kernel_rfl, by kernel_rfl, by kernel_rfl, by kernel_rfl⟩, rfl⟩
theorem en113 : ∃ fn, EntOk Try.prog 113 fe113 fn ∧ bodyOf Try.f113 = bodyOf fn := ⟨Try.f113, ⟨by kernel_rfl, by kernel_rfl, by kernel_rfl, by kernel_rfl, by kernel_rfl⟩, rfl⟩
theorem en114 : ∃ fn, EntOk Try.prog 114 fe114 fn ∧ bodyOf Try.f114 = bodyOf fn := ⟨Try.f114, ⟨by kernel_rfl, by kernel_rfl, by kernel_rfl, by kernel_rfl, by kernel_rfl⟩, rfl⟩
theorem en115 : ∃ fn, EntOk Try.prog 115 fe115 fn ∧ bodyOf Try.f115 = bodyOf fn := ⟨Try.f115, ⟨by kernel_rfl, by kernel_rfl, by kernel_rfl, by kernel_rfl, by kernel_rfl⟩, rfl⟩
theorem en116 : ∃ fn, EntOk Try.prog 116 fe116 fn ∧ bodyOf Try.f116 = bodyOf fn := ⟨Try.f116, ⟨by kernel_rfl, by kernel_rfl, by kernel_rfl, by kernel_rfl, by kernel_rfl⟩, rfl⟩
theorem en117 : ∃ fn, EntOk Try.prog 117 fe117 fn ∧ bodyOf Try.f117 = bodyOf fn := ⟨Try.f117, ⟨by kernel_rfl, by kernel_rfl, by kernel_rfl, by kernel_rfl, by kernel_rfl⟩, rfl⟩
theorem en118 : ∃ fn, EntOk Try.prog 118 fe118 fn ∧ bodyOf Try.f118 = bodyOf fn := ⟨Try.f118, ⟨by kernel_rfl, by kernel_rfl, by kernel_rfl, by kernel_rfl, by kernel_rfl⟩, rfl⟩
theorem en119 : ∃ fn, EntOk Try.prog 119 fe119 fn ∧ bodyOf Try.f119 = bodyOf fn := ⟨Try.f119, ⟨by kernel_rfl, by kernel_rfl, by kernel_rfl, by kernel_rfl, by kernel_rfl⟩, rfl⟩
theorem en120 : ∃ fn, EntOk Try.prog 120 fe120 fn ∧ bodyOf Try.f120 = bodyOf fn := ⟨Try.f120, ⟨by kernel_rfl, by kernel_rfl, by kernel_rfl, by kernel_rfl, by kernel_rfl⟩, rfl⟩
theorem en121 : ∃ fn, EntOk Try.prog 121 fe121 fn ∧ bodyOf Try.f121 = bodyOf fn := ⟨Try.f121, ⟨by kernel_rfl, by kernel_rfl, by kernel_rfl, by kernel_rfl, by kernel_rfl⟩, rfl⟩
theorem en122 : ∃ fn, EntOk Try.prog 122 fe122 fn ∧ bodyOf Try.f122 = bodyOf fn := ⟨Try.f122, ⟨by kernel_rfl, by kernel_rfl, by kernel_rfl, by kernel_rfl, by kernel_rfl⟩, rfl⟩
theorem en126 : ∃ fn, EntOk Try.prog 126 fe126 fn ∧ bodyOf Try.f126 = bodyOf fn := ⟨Try.f126, ⟨by kernel_rfl, by kernel_rfl, by kernel_rfl, by kernel_rfl, by kernel_rfl⟩, rfl⟩
theorem en127 : ∃ fn, EntOk Try.prog 127 fe127 fn ∧ bodyOf Try.f127 = bodyOf fn := ⟨Try.f127, ⟨by kernel_rfl, by kernel_rfl, by kernel_rfl, by kernel_rfl, by kernel_rfl⟩, rfl⟩
theorem en128 : ∃ fn, EntOk Try.prog 128 fe128 fn ∧ bodyOf Try.f128 = bodyOf fn := ⟨Try.f128, ⟨by kernel_rfl, by kernel_rfl, by kernel_rfl, by kernel_rfl, by kernel_rfl⟩, rfl⟩
theorem en129 : ∃ fn, EntOk Try.prog 129 fe129 fn ∧ bodyOf Try.f129 = bodyOf fn := ⟨Try.f129, ⟨by kernel_rfl, by kernel_rfl, by kernel_rfl, by kernel_rfl, by kernel_rfl⟩, rfl⟩
theorem en131 : ∃ fn, EntOk Try.prog 131 fe131 fn ∧ bodyOf Try.f131 = bodyOf fn := ⟨Try.f131, ⟨by kernel_rfl, by kernel_rfl, by kernel_rfl, by kernel_rfl, by kernel_rfl⟩, rfl⟩
theorem en134 : ∃ fn, EntOk Try.prog 134 fe134 fn ∧ bodyOf Try.f134 = bodyOf fn := ⟨Try.f134, ⟨by kernel_rfl, by kernel_rfl, by kernel_rfl, by kernel_rfl, by kernel_rfl⟩, rfl⟩
theorem en137 : ∃ fn, EntOk Try.prog 137 fe137 fn ∧ bodyOf Try.f137 = bodyOf fn := ⟨Try.f137, ⟨by kernel_rfl, by kernel_rfl, by kernel_rfl, by kernel_rfl, by kernel_rfl⟩, rfl⟩
theorem en138 : ∃ fn, EntOk Try.prog 138 fe138 fn ∧ bodyOf Try.f138 = bodyOf fn := ⟨Try.f138, ⟨by kernel_rfl, by kernel_rfl, by kernel_rfl, by kernel_rfl, by kernel_rfl⟩, rfl⟩
theorem tb_ok : ∀ e ∈ tb, ∃ fn, EntOk Try.prog e.1 e.2.1 fn ∧ e.2.2 = bodyOf fn := by
  intro e he
  unfold tb at he
  rcases List.mem_cons.1 he with rfl | he
  · exact en9
  rcases List.mem_cons.1 he with rfl | he
  · exact en12
  rcases List.mem_cons.1 he with rfl | he
  · exact en13
  rcases List.mem_cons.1 he with rfl | he
  · exact en16
  rcases List.mem_cons.1 he with rfl | he
  · exact en17
  rcases List.mem_cons.1 he with rfl | he
  · exact en18
  rcases List.mem_cons.1 he with rfl | he
  · exact en19
  rcases List.mem_cons.1 he with rfl | he
  · exact en20
  rcases List.mem_cons.1 he with rfl | he
  · exact en21
  rcases List.mem_cons.1 he with rfl | he
  · exact en22
  rcases List.mem_cons.1 he with rfl | he
  · exact en23
  rcases List.mem_cons.1 he with rfl | he
  · exact en26
  rcases List.mem_cons.1 he with rfl | he
  · exact en27
  rcases List.mem_cons.1 he with rfl | he
  · exact en28
  rcases List.mem_cons.1 he with rfl | he
  · exact en44
  rcases List.mem_cons.1 he with rfl | he
  · exact en45
  rcases List.mem_cons.1 he with rfl | he
  · exact en46
  rcases List.mem_cons.1 he with rfl | he
  · exact en47
  rcases List.mem_cons.1 he with rfl | he
  · exact en48
  rcases List.mem_cons.1 he with rfl | he
  · exact en49
  rcases List.mem_cons.1 he with rfl | he
  · exact en50
  rcases List.mem_cons.1 he with rfl | he
  · exact en55
  rcases List.mem_cons.1 he with rfl | he
  · exact en56
  rcases List.mem_cons.1 he with rfl | he
  · exact en57
  rcases List.mem_cons.1 he with rfl | he
  · exact en58
  rcases List.mem_cons.1 he with rfl | he
  · exact en59
  rcases List.mem_cons.1 he with rfl | he
  · exact en60
  rcases List.mem_cons.1 he with rfl | he
  · exact en61
  rcases List.mem_cons.1 he with rfl | he
  · exact en65
  rcases List.mem_cons.1 he with rfl | he
  · exact en66
  rcases List.mem_cons.1 he with rfl | he
  · exact en67
  rcases List.mem_cons.1 he with rfl | he
  · exact en68
  rcases List.mem_cons.1 he with rfl | he
  · exact en69
  rcases List.mem_cons.1 he with rfl | he
  · exact en70
  rcases List.mem_cons.1 he with rfl | he
  · exact en71
  rcases List.mem_cons.1 he with rfl | he
  · exact en72
  rcases List.mem_cons.1 he with rfl | he
  · exact en73
  rcases List.mem_cons.1 he with rfl | he
  · exact en74
  rcases List.mem_cons.1 he with rfl | he
  · exact en75
  rcases List.mem_cons.1 he with rfl | he
  · exact en76
  rcases List.mem_cons.1 he with rfl | he
  · exact en77
  rcases List.mem_cons.1 he with rfl | he
  · exact en78
  rcases List.mem_cons.1 he with rfl | he
  · exact en79
  rcases List.mem_cons.1 he with rfl | he
  · exact en80
  rcases List.mem_cons.1 he with rfl | he
  · exact en81
  rcases List.mem_cons.1 he with rfl | he
  · exact en83
  rcases List.mem_cons.1 he with rfl | he
  · exact en84
  rcases List.mem_cons.1 he with rfl | he
  · exact en85
  rcases List.mem_cons.1 he with rfl | he
  · exact en86
  rcases List.mem_cons.1 he with rfl | he
  · exact en87
  rcases List.mem_cons.1 he with rfl | he
  · exact en88
  rcases List.mem_cons.1 he with rfl | he
  · exact en92
  rcases List.mem_cons.1 he with rfl | he
  · exact en94
  rcases List.mem_cons.1 he with rfl | he
  · exact en95
  rcases List.mem_cons.1 he with rfl | he
  · exact en97
  rcases List.mem_cons.1 he with rfl | he
  · exact en98
  rcases List.mem_cons.1 he with rfl | he
  · exact en99
  rcases List.mem_cons.1 he with rfl | he
  · exact en100
  rcases List.mem_cons.1 he with rfl | he
  · exact en101
  rcases List.mem_cons.1 he with rfl | he
  · exact en102
  rcases List.mem_cons.1 he with rfl | he
  · exact en103
  rcases List.mem_cons.1 he with rfl | he
  · exact en104
  rcases List.mem_cons.1 he with rfl | he
  · exact en108
  rcases List.mem_cons.1 he with rfl | he
  · exact en111
  rcases List.mem_cons.1 he with rfl | he
  · exact en112
  rcases List.mem_cons.1 he with rfl | he
  · exact en113
  rcases List.mem_cons.1 he with rfl | he
  · exact en114
  rcases List.mem_cons.1 he with rfl | he
  · exact en115
  rcases List.mem_cons.1 he with rfl | he
  · exact en116
  rcases List.mem_cons.1 he with rfl | he
  · exact en117
  rcases List.mem_cons.1 he with rfl | he
  · exact en118
  rcases List.mem_cons.1 he with rfl | he
  · exact en119
  rcases List.mem_cons.1 he with rfl | he
  · exact en120
  rcases List.mem_cons.1 he with rfl | he
  · exact en121
  rcases List.mem_cons.1 he with rfl | he
  · exact en122
  rcases List.mem_cons.1 he with rfl | he
  · exact en126
  rcases List.mem_cons.1 he with rfl | he
  · exact en127
  rcases List.mem_cons.1 he with rfl | he
  · exact en128
  rcases List.mem_cons.1 he with rfl | he
  · exact en129
  rcases List.mem_cons.1 he with rfl | he
  · exact en131
  rcases List.mem_cons.1 he with rfl | he
  · exact en134
  rcases List.mem_cons.1 he with rfl | he
  · exact en137
  rcases List.mem_cons.1 he with rfl | he
  · exact en138
  cases he
end Go.Proofs.Ytabhbdehbpmpkaa
namespace Go.Proofs.Ytabhbdehbpmpkaa
open Go Go.Sx Go.Fine
set_option maxRecDepth 10000
attribute [local simp] Bool.and_assoc Bool.or_assoc
theorem v_isRow_c1 (M : Den) (x : CV) : callV sg M (.fn n_fine_isRow_c1 []) [x] [.one li] [.one lb] = M n_fine_isRow_c1 [x] := rfl
theorem v_check_c1 (M : Den) (x : CV) : callV sg M (.fn n_fine_check_c1 []) [x] [.one li] [.one lb] = M n_fine_check_c1 [x] := rfl
@[simp] theorem w_within (n : Nat) (a b c : Int) : D (n + 1) n_fine_within [ci a, ci b, ci c] = some [cb (within a b c)] := by
  rw [q_fine_within]; simp [R_fine_within, within]
@[simp] theorem w_In (n : Nat) (a b c : Int) : D (n + 1) n_r06_In [ci a, ci b, ci c] = some [cb (within a b c)] := by
  rw [q_r06_In]; simp [R_r06_In, within]
@[simp] theorem w_isDay (n : Nat) (a : Int) : D (n + 2) n_fine_isDay [ci a] = some [cb (isDay a)] := by
  rw [q_fine_isDay]; simp [R_fine_isDay, isDay]
@[simp] theorem w_areTimes (n : Nat) (a b c : Int) : D (n + 3) n_fine_areTimes [ci a, ci b, ci c] = some [cb (areTimes a b c)] := by
  rw [q_fine_areTimes]; simp [R_fine_areTimes, areTimes, retO_ite]
@[simp] theorem w_isUntil (n : Nat) (b c : Int) : D (n + 2) n_r06_isUntil [ci b, ci c] = some [cb (isDay b && (c == 0 || decide (b < c) && decide (c ≤ 100000)))] := by
  rw [q_r06_isUntil]; simp [R_r06_isUntil, isDay, retO_ite]
@[simp] theorem w_counts (n : Nat) (a b c : Int) : D (n + 1) n_fine_counts [ci a, ci b, ci c] = some [cb (counts a b c)] := by
  rw [q_fine_counts]; simp [R_fine_counts, counts, retO_ite]
@[simp] theorem w_counts' (n : Nat) (a b c : Int) : D (n + 1) n_r06_counts [ci a, ci b, ci c] = some [cb (counts a b c)] := by
  rw [q_r06_counts]; simp [R_r06_counts, counts, retO_ite]
@[simp] theorem w_isRow_c1 (n : Nat) (a : Int) : D (n + 2) n_fine_isRow_c1 [ci a] = some [cb (!within a 0 10000)] := by
  rw [q_fine_isRow_c1]; simp [R_fine_isRow_c1]
@[simp] theorem w_check_c1 (n : Nat) (a : Int) : D (n + 3) n_fine_check_c1 [ci a] = some [cb (!isDay a)] := by
  rw [q_fine_check_c1]; simp [R_fine_check_c1]
@[simp] theorem w_isNaN (n : Nat) (a : Int) : D (n + 1) n_cmp_isNaN_int [ci a] = some [cb false] := by
  rw [q_cmp_isNaN_int]; simp [R_cmp_isNaN_int]
@[simp] theorem w_Compare (n : Nat) (a b : Int) : D (n + 2) n_cmp_Compare_int [ci a, ci b] = some [ci (if a < b then -1 else if a > b then 1 else 0)] := by
  rw [q_cmp_Compare_int]; simp [R_cmp_Compare_int]
@[simp] theorem w_days (n : Nat) (a b : Int) : D (n + 1) n_fine_days [ci a, ci b] = some [.fn n_fine_days_c1 [.ref [ci a], .ref [ci b]]] := by
  rw [q_fine_days]; simp [R_fine_days]
end Go.Proofs.Ytabhbdehbpmpkaa
namespace Go.Proofs.Ytabhbdehbpmpkaa
open Go Go.Sx Go.Fine
set_option maxRecDepth 10000
attribute [local simp] Bool.and_assoc Bool.or_assoc
@[simp] theorem w_CheckHeld (n : Nat) (s : Held) : D (n + 4) n_fine_CheckHeld [ci s.src, ci s.beast, ci s.sort, ci s.eats, ci s.worth, ci s.drv, ci s.day, ci s.known, ci s.til] = some [ci (if s.ok = true then 0 else 61)] := by
  rw [q_fine_CheckHeld]; simp [R_fine_CheckHeld, Held.ok]; grind
@[simp] theorem w_CheckHeld' (n : Nat) (s : Held) : D (n + 3) n_r06_CheckHeld [ci s.src, ci s.beast, ci s.sort, ci s.eats, ci s.worth, ci s.drv, ci s.day, ci s.known, ci s.til] = some [ci (if s.ok = true then 0 else 61)] := by
  rw [q_r06_CheckHeld]; simp [R_r06_CheckHeld, Held.ok, areTimes, isDay]; grind
@[simp] theorem w_CheckNote (n : Nat) (s : Note) : D (n + 4) n_fine_CheckNote [ci s.src, ci s.stay, ci s.kind, ci s.owner, ci s.day, ci s.known, ci s.til] = some [ci (if s.ok = true then 0 else 62)] := by
  rw [q_fine_CheckNote]; simp [R_fine_CheckNote, Note.ok]; grind
@[simp] theorem w_CheckNote' (n : Nat) (s : Note) : D (n + 3) n_r06_CheckNote [ci s.src, ci s.stay, ci s.kind, ci s.owner, ci s.day, ci s.known, ci s.til] = some [ci (if s.ok = true then 0 else 62)] := by
  rw [q_r06_CheckNote]; simp [R_r06_CheckNote, Note.ok, areTimes, isDay]; grind
theorem w_IndexFunc_int (n : Nat) (l : List Int) (f : CV) (p : Int → Bool) (hl : l.length < 9223372036854775807) (hf : ∀ x ∈ l, callV sg (D n) f [ci x] [.one li] [.one lb] = some [cb (p x)]) :
    D (n + 1) n_slices_IndexFunc_int [.row 1 (ints l), f] = some [ci (match (List.range l.length).find? (fun i => p (l.getD i 0)) with | some i => (i : Int) | none => -1)] := by
  have hg : ∀ i (h : i < l.length), l.getD i 0 = l[i] := fun i h => by simp [h]
  have hf' : ∀ i (h : i < l.length), callV sg (D n) f [ci l[i]] [.one li] [.one lb] = some [cb (p l[i])] := fun i h => hf _ (List.getElem_mem h)
  rw [q_slices_IndexFunc_int]
  unfold R_slices_IndexFunc_int
  rw [loop_find l.length (fun i => [ci (i : Int)]) (fun i => p (l.getD i 0)) (fun i => some (.ret [ci (i : Int)])) (some (.br 0 [])) ?hv ?hR ?hX
    (fun i hi hp => ?h1) (fun i hi hp => ?h2) ?h3]
  case hv => rfl
  case hR => simp
  case hX => simp
  case h3 => simp [ints]
  case h1 =>
    rw [hg i hi] at hp
    simp [ints, hi, hp, inb_map, el_map, hf', wr_nat (show i < 9223372036854775807 by omega)]
  case h2 =>
    rw [hg i hi] at hp
    simp [ints, hi, hp, inb_map, el_map, hf']
  · cases (List.range l.length).find? fun i => p (l.getD i 0) <;> simp
theorem find_any {l : List Int} {p : Int → Bool} : (∃ i, (List.range l.length).find? (fun i => p (l.getD i 0)) = some i) ↔ l.any p = true := by
  constructor
  · rintro ⟨i, hi⟩
    have h1 := List.find?_some hi
    have h2 := List.mem_of_find?_eq_some hi
    rw [List.mem_range] at h2
    simp only [List.any_eq_true]
    exact ⟨l[i], List.getElem_mem h2, by simpa [h2] using h1⟩
  · intro h
    obtain ⟨x, hx, hp⟩ := List.any_eq_true.1 h
    obtain ⟨i, hi, rfl⟩ := List.mem_iff_getElem.1 hx
    cases hf : (List.range l.length).find? (fun i => p (l.getD i 0)) with
    | some j => exact ⟨j, rfl⟩
    | none =>
      rw [List.find?_eq_none] at hf
      have := hf i (by simpa using hi)
      simp [hi, hp] at this
theorem w_ContainsFunc_int (n : Nat) (l : List Int) (f : CV) (p : Int → Bool) (hl : l.length < 9223372036854775807) (hf : ∀ x ∈ l, callV sg (D n) f [ci x] [.one li] [.one lb] = some [cb (p x)]) :
    D (n + 2) n_slices_ContainsFunc_int [.row 1 (ints l), f] = some [cb (l.any p)] := by
  rw [q_slices_ContainsFunc_int]
  simp only [R_slices_ContainsFunc_int, w_IndexFunc_int n l f p hl hf]
  have key := @find_any l p
  cases hh : (List.range l.length).find? (fun i => p (l.getD i 0)) with
  | some i => simp [key.1 ⟨i, hh⟩]
  | none =>
    have : l.any p = false := by
      cases hc : l.any p with
      | false => rfl
      | true => obtain ⟨i, hi⟩ := key.2 hc; rw [hh] at hi; cases hi
    simp [this]
theorem w_isRow (n : Nat) (a0 a1 a2 a3 a4 a5 a6 a7 a8 a9 : Int) : D (n + 5) n_fine_isRow [ci a0, ci a1, ci a2, ci a3, ci a4, ci a5, ci a6, ci a7, ci a8, ci a9] = some [cb (rowOk [a0, a1, a2, a3, a4, a5, a6, a7, a8, a9])] := by
  rw [q_fine_isRow]
  have := w_ContainsFunc_int (n + 2) [a0, a1, a2, a3, a4, a5, a6, a7, a8, a9] (.fn n_fine_isRow_c1 []) (fun x => !within x 0 10000) (by simp) (fun x _ => by rw [v_isRow_c1]; simp)
  simp only [ints, List.map_cons, List.map_nil] at this
  simp [R_fine_isRow, this, retO_ite, rowOk, List.all_cons]
attribute [simp] w_isRow
@[simp] theorem w_CheckTariff (n : Nat) (t : Tariff) : D (n + 6) n_fine_CheckTariff [ci t.frm, ci t.h0, ci t.h1, ci t.h2, ci t.h3, ci t.h4, ci t.h5, ci t.h6, ci t.h7, ci t.h8, ci t.h9, ci t.d0, ci t.d1, ci t.d2, ci t.d3, ci t.d4, ci t.d5, ci t.d6, ci t.d7, ci t.d8, ci t.d9, ci t.feed, ci t.hay, ci t.drv] = some [ci (if t.ok = true then 0 else 60)] := by
  rw [q_fine_CheckTariff]
  by_cases hw : within t.hay 0 60 = true ∧ within t.drv 0 60 = true
  · have e : wr (t.hay + t.drv) = t.hay + t.drv := by
      simp only [within, Bool.and_eq_true, decide_eq_true_eq] at hw
      rw [wr_of (by omega) (by omega)]
    simp [R_fine_CheckTariff, Tariff.ok, Tariff.hs, Tariff.ds, hw, e]; grind
  · simp [R_fine_CheckTariff, Tariff.ok, Tariff.hs, Tariff.ds]; grind
@[simp] theorem w_areRates (n : Nat) (a0 a1 a2 a3 a4 a5 a6 a7 a8 a9 : Int) : D (n + 2) n_r06_areRates [ci a0, ci a1, ci a2, ci a3, ci a4, ci a5, ci a6, ci a7, ci a8, ci a9] = some [cb (rowOk [a0, a1, a2, a3, a4, a5, a6, a7, a8, a9])] := by
  rw [q_r06_areRates]
  unfold R_r06_areRates
  obtain ⟨l, hl⟩ : ∃ l, l = [a0, a1, a2, a3, a4, a5, a6, a7, a8, a9] := ⟨_, rfl⟩
  have hc : [ci a0, ci a1, ci a2, ci a3, ci a4, ci a5, ci a6, ci a7, ci a8, ci a9] = l.map ci := by rw [hl]; rfl
  have hn : l.length = 10 := by rw [hl]; rfl
  have hg : ∀ (i : Nat) (h : i < 10), gi (l.map ci) i = l[i] := fun i h => by simp [gi, hn, h]
  have ho : ∀ (i : Nat) (h : i < 10), oks [li] (l.map ci) i = true := fun i h => oks_int1 (by simp [intsFrom, ok_ci]) (by simp [hn, h])
  rw [hc, ← hl]
  rw [loop_find 10 (fun i => [ci (i : Int)]) (fun i => !within (l.getD i 0) 0 10000) (fun i => some (.ret [cb false])) (some (.br 0 [])) ?hv ?hR ?hX
    (fun i hi hp => ?h1) (fun i hi hp => ?h2) ?h3]
  case hv => rfl
  case hR => simp
  case hX => simp
  case h3 => simp
  case h1 =>
    have hp' : within l[i] 0 10000 = true := by simpa [hn, hi] using hp
    have hi' : (i : Int) < 10 := by omega
    simp [hi, hi', hg, ho, hp', wr_nat (show i < 9223372036854775807 by omega)]
  case h2 =>
    have hp' : within l[i] 0 10000 = false := by simpa [hn, hi] using hp
    have hi' : (i : Int) < 10 := by omega
    simp [hi, hi', hg, ho, hp']
  · rw [← hn]
    have key := @find_any l (fun x => !within x 0 10000)
    have hh0 : l.head?.getD 1 = a0 := by rw [hl]; rfl
    cases hh : (List.range l.length).find? (fun i => !within (l.getD i 0) 0 10000) with
    | some i =>
      have h1 := key.1 ⟨i, hh⟩
      have : l.all (fun x => within x 0 10000) = false := by
        rw [← Bool.not_eq_true, List.all_eq_true]; intro hc
        obtain ⟨x, hx, hp⟩ := List.any_eq_true.1 h1
        rw [hc x hx] at hp; cases hp
      simp [rowOk, this]
    | none =>
      have : l.all (fun x => within x 0 10000) = true := by
        rw [List.all_eq_true]; intro x hx
        cases hc : within x 0 10000 with
        | true => rfl
        | false =>
          obtain ⟨i, hi⟩ := key.2 (List.any_eq_true.2 ⟨x, hx, by simp [hc]⟩)
          exact absurd (hi.symm.trans hh) (by simp)
      simp [rowOk, this, hh0]
@[simp] theorem w_CheckTariff' (n : Nat) (t : Tariff) : D (n + 3) n_r06_CheckTariff [ci t.frm, ci t.h0, ci t.h1, ci t.h2, ci t.h3, ci t.h4, ci t.h5, ci t.h6, ci t.h7, ci t.h8, ci t.h9, ci t.d0, ci t.d1, ci t.d2, ci t.d3, ci t.d4, ci t.d5, ci t.d6, ci t.d7, ci t.d8, ci t.d9, ci t.feed, ci t.hay, ci t.drv] = some [ci (if t.ok = true then 0 else 60)] := by
  rw [q_r06_CheckTariff]
  by_cases hw : within t.hay 0 60 = true ∧ within t.drv 0 60 = true
  · have e : wr (t.hay + t.drv) = t.hay + t.drv := by
      simp only [within, Bool.and_eq_true, decide_eq_true_eq] at hw
      rw [wr_of (by omega) (by omega)]
    simp [R_r06_CheckTariff, Tariff.ok, Tariff.hs, Tariff.ds, isDay, hw, e]; grind
  · simp [R_r06_CheckTariff, Tariff.ok, Tariff.hs, Tariff.ds, isDay]; grind
end Go.Proofs.Ytabhbdehbpmpkaa
namespace Go.Proofs.Ytabhbdehbpmpkaa
open Go Go.Sx Go.Fine
set_option maxRecDepth 10000
attribute [local simp] Bool.and_assoc Bool.or_assoc
theorem rising_iff : ∀ {l : List Int}, rising l = true ↔ ∀ i (h : i + 1 < l.length), l[i] < l[i + 1]
  | [] => by simp [rising]
  | [x] => by simp [rising]
  | x :: y :: l => by
    have ih := @rising_iff (y :: l)
    rw [rising, Bool.and_eq_true, ih]
    simp only [decide_eq_true_eq]
    constructor
    · rintro ⟨h1, h2⟩ i hi
      cases i with
      | zero => simpa using h1
      | succ i => exact h2 i (by simpa using hi)
    · intro h
      exact ⟨by simpa using h 0 (by simp), fun i hi => h (i + 1) (by simpa using hi)⟩
def bad {A : Type} (ok : A → Bool) (num : A → Int) (l : List A) (i : Nat) : Bool := match l[i]? with
  | some x => !ok x || (decide (0 < i) && match l[i - 1]? with
    | some y => decide (num x ≤ num y)
    | none => false)
  | none => false
theorem bad_none {A : Type} (ok : A → Bool) (num : A → Int) (l : List A) : ((List.range l.length).find? (bad ok num l)).isNone = (l.all ok && rising (l.map num)) := by
  rw [Bool.eq_iff_iff, Option.isNone_iff_eq_none, List.find?_eq_none, Bool.and_eq_true, List.all_eq_true, rising_iff]
  simp only [List.mem_range, List.length_map, List.getElem_map]
  constructor
  · intro h
    refine ⟨fun x hx => ?_, fun i hi => ?_⟩
    · obtain ⟨i, hi, rfl⟩ := List.mem_iff_getElem.1 hx
      have := h i hi
      simp only [bad, List.getElem?_eq_getElem hi] at this
      simp only [Bool.or_eq_true, not_or, Bool.not_eq_true', Bool.not_eq_false] at this
      exact this.1
    · have := h (i + 1) hi
      simp only [bad, List.getElem?_eq_getElem hi, Nat.add_sub_cancel, List.getElem?_eq_getElem (show i < l.length by omega)] at this
      simp only [Bool.or_eq_true, not_or, Bool.and_eq_true, decide_eq_true_eq, Nat.zero_lt_succ, true_and] at this
      omega
  · rintro ⟨h1, h2⟩ i hi
    simp only [bad, List.getElem?_eq_getElem hi, h1 _ (List.getElem_mem hi), Bool.not_true, Bool.false_or, Bool.and_eq_true, decide_eq_true_eq, not_and]
    intro h0
    rw [List.getElem?_eq_getElem (show i - 1 < l.length by omega)]
    have := h2 (i - 1) (by omega)
    simp only [Nat.sub_add_cancel h0] at this
    simp only [decide_eq_true_eq]
    omega
theorem v_Tariff (M : Den) (t : Tariff) : callV sg M (.fn n_fine_CheckTariff []) [ci t.frm, ci t.h0, ci t.h1, ci t.h2, ci t.h3, ci t.h4, ci t.h5, ci t.h6, ci t.h7, ci t.h8, ci t.h9, ci t.d0, ci t.d1, ci t.d2, ci t.d3, ci t.d4, ci t.d5, ci t.d6, ci t.d7, ci t.d8, ci t.d9, ci t.feed, ci t.hay, ci t.drv] [.agg [li, li, li, li, li, li, li, li, li, li, li, li, li, li, li, li, li, li, li, li, li, li, li, li]] [.one li] = M n_fine_CheckTariff [ci t.frm, ci t.h0, ci t.h1, ci t.h2, ci t.h3, ci t.h4, ci t.h5, ci t.h6, ci t.h7, ci t.h8, ci t.h9, ci t.d0, ci t.d1, ci t.d2, ci t.d3, ci t.d4, ci t.d5, ci t.d6, ci t.d7, ci t.d8, ci t.d9, ci t.feed, ci t.hay, ci t.drv] := rfl
theorem v_num_Tariff (M : Den) (t : Tariff) : callV sg M (.fn n_fine_Check_c1 []) [ci t.frm, ci t.h0, ci t.h1, ci t.h2, ci t.h3, ci t.h4, ci t.h5, ci t.h6, ci t.h7, ci t.h8, ci t.h9, ci t.d0, ci t.d1, ci t.d2, ci t.d3, ci t.d4, ci t.d5, ci t.d6, ci t.d7, ci t.d8, ci t.d9, ci t.feed, ci t.hay, ci t.drv] [.agg [li, li, li, li, li, li, li, li, li, li, li, li, li, li, li, li, li, li, li, li, li, li, li, li]] [.one li] = M n_fine_Check_c1 [ci t.frm, ci t.h0, ci t.h1, ci t.h2, ci t.h3, ci t.h4, ci t.h5, ci t.h6, ci t.h7, ci t.h8, ci t.h9, ci t.d0, ci t.d1, ci t.d2, ci t.d3, ci t.d4, ci t.d5, ci t.d6, ci t.d7, ci t.d8, ci t.d9, ci t.feed, ci t.hay, ci t.drv] := rfl
@[simp] theorem w_num_Tariff (n : Nat) (t : Tariff) : D (n + 1) n_fine_Check_c1 [ci t.frm, ci t.h0, ci t.h1, ci t.h2, ci t.h3, ci t.h4, ci t.h5, ci t.h6, ci t.h7, ci t.h8, ci t.h9, ci t.d0, ci t.d1, ci t.d2, ci t.d3, ci t.d4, ci t.d5, ci t.d6, ci t.d7, ci t.d8, ci t.d9, ci t.feed, ci t.hay, ci t.drv] = some [ci t.frm] := by
  rw [q_fine_Check_c1]; simp [R_fine_Check_c1]
@[simp] theorem w_areRising_Tariff (n : Nat) (l : List Tariff) (most : Int) (hl : l.length < 100000000000000) : D (n + 7) n_fine_areRising_Tariff [.row 24 (l.map Tariff.cv), ci most, .fn n_fine_CheckTariff [], .fn n_fine_Check_c1 []] = some [cb (l.all Tariff.ok && rising (l.map Tariff.frm) && decide ((l.length : Int) ≤ most))] := by
  rw [q_fine_areRising_Tariff]
  unfold R_fine_areRising_Tariff
  rw [loop_find l.length (fun i => [ci (i : Int)]) (bad Tariff.ok Tariff.frm l) (fun i => some (.ret [cb false])) (some (.br 0 [])) ?hv ?hR ?hX
    (fun i hi hp => ?h1) (fun i hi hp => ?h2) ?h3]
  case hv => rfl
  case hR => simp
  case hX => simp
  case h3 => simp
  case h1 =>
    have hw := wr_nat (show i < 9223372036854775807 by omega)
    by_cases h0 : i = 0
    · subst h0
      simp [bad, hi] at hp
      have hw1 : wr 1 = 1 := by decide
      simp [hi, inb_map0, el_map0, Tariff.cv, v_Tariff, hp, hw1]
    · have h0' : 0 < i := by omega
      have hj : i - 1 < l.length := by omega
      have hwj := wr_pred h0' (show i < 9223372036854775807 by omega)
      simp only [bad, List.getElem?_eq_getElem hi, List.getElem?_eq_getElem hj, h0', decide_true, Bool.true_and, Bool.or_eq_false_iff, Bool.not_eq_false', decide_eq_false_iff_not] at hp
      simp [hi, hj, inb_map, el_map, Tariff.cv, v_Tariff, v_num_Tariff, hp, hw, hwj, h0']
  case h2 =>
    by_cases h0 : i = 0
    · subst h0
      simp [bad, hi] at hp
      simp [hi, inb_map0, el_map0, Tariff.cv, v_Tariff, hp]
    · have h0' : 0 < i := by omega
      have hj : i - 1 < l.length := by omega
      have hwj := wr_pred h0' (show i < 9223372036854775807 by omega)
      simp only [bad, List.getElem?_eq_getElem hi, List.getElem?_eq_getElem hj, h0', decide_true, Bool.true_and, Bool.or_eq_true, Bool.not_eq_true', decide_eq_true_eq] at hp
      cases hk : l[i].ok with
      | false => simp [hi, hj, inb_map, el_map, Tariff.cv, v_Tariff, v_num_Tariff, hk, hwj, h0']
      | true =>
        have hp' : l[i].frm ≤ l[i - 1].frm := by simpa [hk] using hp
        simp [hi, hj, inb_map, el_map, Tariff.cv, v_Tariff, v_num_Tariff, hk, hp', hwj, h0']
  · rw [← bad_none Tariff.ok Tariff.frm l]
    cases (List.range l.length).find? (bad Tariff.ok Tariff.frm l) <;> simp
theorem v_Held (M : Den) (t : Held) : callV sg M (.fn n_fine_CheckHeld []) [ci t.src, ci t.beast, ci t.sort, ci t.eats, ci t.worth, ci t.drv, ci t.day, ci t.known, ci t.til] [.agg [li, li, li, li, li, li, li, li, li]] [.one li] = M n_fine_CheckHeld [ci t.src, ci t.beast, ci t.sort, ci t.eats, ci t.worth, ci t.drv, ci t.day, ci t.known, ci t.til] := rfl
theorem v_num_Held (M : Den) (t : Held) : callV sg M (.fn n_fine_heldOf []) [ci t.src, ci t.beast, ci t.sort, ci t.eats, ci t.worth, ci t.drv, ci t.day, ci t.known, ci t.til] [.agg [li, li, li, li, li, li, li, li, li]] [.one li] = M n_fine_heldOf [ci t.src, ci t.beast, ci t.sort, ci t.eats, ci t.worth, ci t.drv, ci t.day, ci t.known, ci t.til] := rfl
@[simp] theorem w_num_Held (n : Nat) (t : Held) : D (n + 1) n_fine_heldOf [ci t.src, ci t.beast, ci t.sort, ci t.eats, ci t.worth, ci t.drv, ci t.day, ci t.known, ci t.til] = some [ci t.src] := by
  rw [q_fine_heldOf]; simp [R_fine_heldOf]
@[simp] theorem w_areRising_Held (n : Nat) (l : List Held) (most : Int) (hl : l.length < 100000000000000) : D (n + 7) n_fine_areRising_Held [.row 9 (l.map Held.cv), ci most, .fn n_fine_CheckHeld [], .fn n_fine_heldOf []] = some [cb (l.all Held.ok && rising (l.map Held.src) && decide ((l.length : Int) ≤ most))] := by
  rw [q_fine_areRising_Held]
  unfold R_fine_areRising_Held
  rw [loop_find l.length (fun i => [ci (i : Int)]) (bad Held.ok Held.src l) (fun i => some (.ret [cb false])) (some (.br 0 [])) ?hv ?hR ?hX
    (fun i hi hp => ?h1) (fun i hi hp => ?h2) ?h3]
  case hv => rfl
  case hR => simp
  case hX => simp
  case h3 => simp
  case h1 =>
    have hw := wr_nat (show i < 9223372036854775807 by omega)
    by_cases h0 : i = 0
    · subst h0
      simp [bad, hi] at hp
      have hw1 : wr 1 = 1 := by decide
      simp [hi, inb_map0, el_map0, Held.cv, v_Held, hp, hw1]
    · have h0' : 0 < i := by omega
      have hj : i - 1 < l.length := by omega
      have hwj := wr_pred h0' (show i < 9223372036854775807 by omega)
      simp only [bad, List.getElem?_eq_getElem hi, List.getElem?_eq_getElem hj, h0', decide_true, Bool.true_and, Bool.or_eq_false_iff, Bool.not_eq_false', decide_eq_false_iff_not] at hp
      simp [hi, hj, inb_map, el_map, Held.cv, v_Held, v_num_Held, hp, hw, hwj, h0']
  case h2 =>
    by_cases h0 : i = 0
    · subst h0
      simp [bad, hi] at hp
      simp [hi, inb_map0, el_map0, Held.cv, v_Held, hp]
    · have h0' : 0 < i := by omega
      have hj : i - 1 < l.length := by omega
      have hwj := wr_pred h0' (show i < 9223372036854775807 by omega)
      simp only [bad, List.getElem?_eq_getElem hi, List.getElem?_eq_getElem hj, h0', decide_true, Bool.true_and, Bool.or_eq_true, Bool.not_eq_true', decide_eq_true_eq] at hp
      cases hk : l[i].ok with
      | false => simp [hi, hj, inb_map, el_map, Held.cv, v_Held, v_num_Held, hk, hwj, h0']
      | true =>
        have hp' : l[i].src ≤ l[i - 1].src := by simpa [hk] using hp
        simp [hi, hj, inb_map, el_map, Held.cv, v_Held, v_num_Held, hk, hp', hwj, h0']
  · rw [← bad_none Held.ok Held.src l]
    cases (List.range l.length).find? (bad Held.ok Held.src l) <;> simp
theorem v_Note (M : Den) (t : Note) : callV sg M (.fn n_fine_CheckNote []) [ci t.src, ci t.stay, ci t.kind, ci t.owner, ci t.day, ci t.known, ci t.til] [.agg [li, li, li, li, li, li, li]] [.one li] = M n_fine_CheckNote [ci t.src, ci t.stay, ci t.kind, ci t.owner, ci t.day, ci t.known, ci t.til] := rfl
theorem v_num_Note (M : Den) (t : Note) : callV sg M (.fn n_fine_noteOf []) [ci t.src, ci t.stay, ci t.kind, ci t.owner, ci t.day, ci t.known, ci t.til] [.agg [li, li, li, li, li, li, li]] [.one li] = M n_fine_noteOf [ci t.src, ci t.stay, ci t.kind, ci t.owner, ci t.day, ci t.known, ci t.til] := rfl
@[simp] theorem w_num_Note (n : Nat) (t : Note) : D (n + 1) n_fine_noteOf [ci t.src, ci t.stay, ci t.kind, ci t.owner, ci t.day, ci t.known, ci t.til] = some [ci t.src] := by
  rw [q_fine_noteOf]; simp [R_fine_noteOf]
@[simp] theorem w_areRising_Note (n : Nat) (l : List Note) (most : Int) (hl : l.length < 100000000000000) : D (n + 7) n_fine_areRising_Note [.row 7 (l.map Note.cv), ci most, .fn n_fine_CheckNote [], .fn n_fine_noteOf []] = some [cb (l.all Note.ok && rising (l.map Note.src) && decide ((l.length : Int) ≤ most))] := by
  rw [q_fine_areRising_Note]
  unfold R_fine_areRising_Note
  rw [loop_find l.length (fun i => [ci (i : Int)]) (bad Note.ok Note.src l) (fun i => some (.ret [cb false])) (some (.br 0 [])) ?hv ?hR ?hX
    (fun i hi hp => ?h1) (fun i hi hp => ?h2) ?h3]
  case hv => rfl
  case hR => simp
  case hX => simp
  case h3 => simp
  case h1 =>
    have hw := wr_nat (show i < 9223372036854775807 by omega)
    by_cases h0 : i = 0
    · subst h0
      simp [bad, hi] at hp
      have hw1 : wr 1 = 1 := by decide
      simp [hi, inb_map0, el_map0, Note.cv, v_Note, hp, hw1]
    · have h0' : 0 < i := by omega
      have hj : i - 1 < l.length := by omega
      have hwj := wr_pred h0' (show i < 9223372036854775807 by omega)
      simp only [bad, List.getElem?_eq_getElem hi, List.getElem?_eq_getElem hj, h0', decide_true, Bool.true_and, Bool.or_eq_false_iff, Bool.not_eq_false', decide_eq_false_iff_not] at hp
      simp [hi, hj, inb_map, el_map, Note.cv, v_Note, v_num_Note, hp, hw, hwj, h0']
  case h2 =>
    by_cases h0 : i = 0
    · subst h0
      simp [bad, hi] at hp
      simp [hi, inb_map0, el_map0, Note.cv, v_Note, hp]
    · have h0' : 0 < i := by omega
      have hj : i - 1 < l.length := by omega
      have hwj := wr_pred h0' (show i < 9223372036854775807 by omega)
      simp only [bad, List.getElem?_eq_getElem hi, List.getElem?_eq_getElem hj, h0', decide_true, Bool.true_and, Bool.or_eq_true, Bool.not_eq_true', decide_eq_true_eq] at hp
      cases hk : l[i].ok with
      | false => simp [hi, hj, inb_map, el_map, Note.cv, v_Note, v_num_Note, hk, hwj, h0']
      | true =>
        have hp' : l[i].src ≤ l[i - 1].src := by simpa [hk] using hp
        simp [hi, hj, inb_map, el_map, Note.cv, v_Note, v_num_Note, hk, hp', hwj, h0']
  · rw [← bad_none Note.ok Note.src l]
    cases (List.range l.length).find? (bad Note.ok Note.src l) <;> simp
end Go.Proofs.Ytabhbdehbpmpkaa
namespace Go.Proofs.Ytabhbdehbpmpkaa
open Go Go.Sx Go.Fine
set_option maxRecDepth 10000
attribute [local simp] Bool.and_assoc Bool.or_assoc
@[simp] theorem w_Check (n : Nat) (p : Acc) (hp : p.fits) : D (n + 8) n_fine_Check [.row 24 (p.ts.map Tariff.cv), .row 9 (p.ss.map Held.cv), .row 7 (p.ns.map Note.cv)] = some [ci (check p)] := by
  rw [q_fine_Check]
  obtain ⟨h1, h2, h3⟩ := hp
  have e1 : ((p.ts.length : Int) ≤ 8) = (p.ts.length ≤ 8) := by apply propext; omega
  have e2 : ((p.ss.length : Int) ≤ 60) = (p.ss.length ≤ 60) := by apply propext; omega
  have e3 : ((p.ns.length : Int) ≤ 60) = (p.ns.length ≤ 60) := by apply propext; omega
  simp [R_fine_Check, h1, h2, h3, check, Acc.ok, listOk, e1, e2, e3]; grind
theorem ck_Tariff (n : Nat) (l : List Tariff) (hl : l.length < 100000000000000) (K : List CV → Option Ou) : blkO 0 (loopD (fun v =>
          iteB (decide ((gi v 0) < (il (l.map Tariff.cv))))
            (seqO (chk (inb (gi v 0) (l.map Tariff.cv)) <|
              chk (oks (List.replicate 24 li) (el (l.map Tariff.cv) (gi v 0)) 0) <|
              callO (D (n + 3) n_r06_CheckTariff (cis (el (l.map Tariff.cv) (gi v 0)) 0 24)) fun v2 =>
              iteB ((gi v2 0) != 0)
                (some (.nx [cb true]))
                (iteB (decide ((gi v 0) > 0))
                  (chk (inb (wr ((gi v 0) - 1)) (l.map Tariff.cv)) <|
                  chk (oks [li] (List.drop 0 (el (l.map Tariff.cv) (wr ((gi v 0) - 1)))) 0) <|
                  chk (inb (gi v 0) (l.map Tariff.cv)) <|
                  chk (oks [li] (List.drop 0 (el (l.map Tariff.cv) (gi v 0))) 0) <|
                  some (.nx [cb (decide ((gi (List.drop 0 (el (l.map Tariff.cv) (wr ((gi v 0) - 1)))) 0) ≥ (gi (List.drop 0 (el (l.map Tariff.cv) (gi v 0))) 0)))]))
                  (some (.nx [cb false])))) fun v2 =>
            iteB (gb v2 0)
              (some (.ret [ci 63]))
              (some (.nx [ci (wr ((gi v 0) + 1))])))
            (some (.br 0 []))) [ci 0]) K = if (l.all Tariff.ok && rising (l.map Tariff.frm)) = true then K [] else some (.ret [ci 63]) := by
  rw [loop_find l.length (fun i => [ci (i : Int)]) (bad Tariff.ok Tariff.frm l) (fun i => some (.ret [ci 63])) (some (.br 0 [])) ?hv ?hR ?hX
    (fun i hi hp => ?h1) (fun i hi hp => ?h2) ?h3]
  case hv => rfl
  case hR => simp
  case hX => simp
  case h3 => simp
  case h1 =>
    have hw := wr_nat (show i < 9223372036854775807 by omega)
    by_cases h0 : i = 0
    · subst h0
      simp [bad, hi] at hp
      have hw1 : wr 1 = 1 := by decide
      simp [hi, inb_map0, el_map0, Tariff.cv, hp, hw1]
    · have h0' : 0 < i := by omega
      have hj : i - 1 < l.length := by omega
      have hwj := wr_pred h0' (show i < 9223372036854775807 by omega)
      simp only [bad, List.getElem?_eq_getElem hi, List.getElem?_eq_getElem hj, h0', decide_true, Bool.true_and, Bool.or_eq_false_iff, Bool.not_eq_false', decide_eq_false_iff_not] at hp
      simp [hi, hj, inb_map, el_map, Tariff.cv, hp, hw, hwj, h0']
  case h2 =>
    by_cases h0 : i = 0
    · subst h0
      simp [bad, hi] at hp
      simp [hi, inb_map0, el_map0, Tariff.cv, hp]
    · have h0' : 0 < i := by omega
      have hj : i - 1 < l.length := by omega
      have hwj := wr_pred h0' (show i < 9223372036854775807 by omega)
      simp only [bad, List.getElem?_eq_getElem hi, List.getElem?_eq_getElem hj, h0', decide_true, Bool.true_and, Bool.or_eq_true, Bool.not_eq_true', decide_eq_true_eq] at hp
      cases hk : l[i].ok with
      | false => simp [hi, hj, inb_map, el_map, Tariff.cv, hk, hwj, h0']
      | true =>
        have hp' : l[i].frm ≤ l[i - 1].frm := by simpa [hk] using hp
        simp [hi, hj, inb_map, el_map, Tariff.cv, hk, hp', hwj, h0']
  · rw [← bad_none Tariff.ok Tariff.frm l]
    cases (List.range l.length).find? (bad Tariff.ok Tariff.frm l) <;> simp
theorem ck_Held (n : Nat) (l : List Held) (hl : l.length < 100000000000000) (K : List CV → Option Ou) : blkO 2 (loopD (fun v =>
          iteB (decide ((gi v 0) < (il (l.map Held.cv))))
            (seqO (chk (inb (gi v 0) (l.map Held.cv)) <|
              chk (oks (List.replicate 9 li) (el (l.map Held.cv) (gi v 0)) 0) <|
              callO (D (n + 3) n_r06_CheckHeld (cis (el (l.map Held.cv) (gi v 0)) 0 9)) fun v2 =>
              iteB ((gi v2 0) != 0)
                (some (.nx [cb true]))
                (iteB (decide ((gi v 0) > 0))
                  (chk (inb (wr ((gi v 0) - 1)) (l.map Held.cv)) <|
                  chk (oks [li] (List.drop 0 (el (l.map Held.cv) (wr ((gi v 0) - 1)))) 0) <|
                  chk (inb (gi v 0) (l.map Held.cv)) <|
                  chk (oks [li] (List.drop 0 (el (l.map Held.cv) (gi v 0))) 0) <|
                  some (.nx [cb (decide ((gi (List.drop 0 (el (l.map Held.cv) (wr ((gi v 0) - 1)))) 0) ≥ (gi (List.drop 0 (el (l.map Held.cv) (gi v 0))) 0)))]))
                  (some (.nx [cb false])))) fun v2 =>
            iteB (gb v2 0)
              (some (.ret [ci 63]))
              (some (.nx [ci (wr ((gi v 0) + 1))])))
            (some (.br 2 []))) [ci 0]) K = if (l.all Held.ok && rising (l.map Held.src)) = true then K [] else some (.ret [ci 63]) := by
  rw [loop_find l.length (fun i => [ci (i : Int)]) (bad Held.ok Held.src l) (fun i => some (.ret [ci 63])) (some (.br 2 [])) ?hv ?hR ?hX
    (fun i hi hp => ?h1) (fun i hi hp => ?h2) ?h3]
  case hv => rfl
  case hR => simp
  case hX => simp
  case h3 => simp
  case h1 =>
    have hw := wr_nat (show i < 9223372036854775807 by omega)
    by_cases h0 : i = 0
    · subst h0
      simp [bad, hi] at hp
      have hw1 : wr 1 = 1 := by decide
      simp [hi, inb_map0, el_map0, Held.cv, hp, hw1]
    · have h0' : 0 < i := by omega
      have hj : i - 1 < l.length := by omega
      have hwj := wr_pred h0' (show i < 9223372036854775807 by omega)
      simp only [bad, List.getElem?_eq_getElem hi, List.getElem?_eq_getElem hj, h0', decide_true, Bool.true_and, Bool.or_eq_false_iff, Bool.not_eq_false', decide_eq_false_iff_not] at hp
      simp [hi, hj, inb_map, el_map, Held.cv, hp, hw, hwj, h0']
  case h2 =>
    by_cases h0 : i = 0
    · subst h0
      simp [bad, hi] at hp
      simp [hi, inb_map0, el_map0, Held.cv, hp]
    · have h0' : 0 < i := by omega
      have hj : i - 1 < l.length := by omega
      have hwj := wr_pred h0' (show i < 9223372036854775807 by omega)
      simp only [bad, List.getElem?_eq_getElem hi, List.getElem?_eq_getElem hj, h0', decide_true, Bool.true_and, Bool.or_eq_true, Bool.not_eq_true', decide_eq_true_eq] at hp
      cases hk : l[i].ok with
      | false => simp [hi, hj, inb_map, el_map, Held.cv, hk, hwj, h0']
      | true =>
        have hp' : l[i].src ≤ l[i - 1].src := by simpa [hk] using hp
        simp [hi, hj, inb_map, el_map, Held.cv, hk, hp', hwj, h0']
  · rw [← bad_none Held.ok Held.src l]
    cases (List.range l.length).find? (bad Held.ok Held.src l) <;> simp
theorem ck_Note (n : Nat) (l : List Note) (hl : l.length < 100000000000000) (K : List CV → Option Ou) : blkO 4 (loopD (fun v =>
          iteB (decide ((gi v 0) < (il (l.map Note.cv))))
            (seqO (chk (inb (gi v 0) (l.map Note.cv)) <|
              chk (oks (List.replicate 7 li) (el (l.map Note.cv) (gi v 0)) 0) <|
              callO (D (n + 3) n_r06_CheckNote (cis (el (l.map Note.cv) (gi v 0)) 0 7)) fun v2 =>
              iteB ((gi v2 0) != 0)
                (some (.nx [cb true]))
                (iteB (decide ((gi v 0) > 0))
                  (chk (inb (wr ((gi v 0) - 1)) (l.map Note.cv)) <|
                  chk (oks [li] (List.drop 0 (el (l.map Note.cv) (wr ((gi v 0) - 1)))) 0) <|
                  chk (inb (gi v 0) (l.map Note.cv)) <|
                  chk (oks [li] (List.drop 0 (el (l.map Note.cv) (gi v 0))) 0) <|
                  some (.nx [cb (decide ((gi (List.drop 0 (el (l.map Note.cv) (wr ((gi v 0) - 1)))) 0) ≥ (gi (List.drop 0 (el (l.map Note.cv) (gi v 0))) 0)))]))
                  (some (.nx [cb false])))) fun v2 =>
            iteB (gb v2 0)
              (some (.ret [ci 63]))
              (some (.nx [ci (wr ((gi v 0) + 1))])))
            (some (.br 4 []))) [ci 0]) K = if (l.all Note.ok && rising (l.map Note.src)) = true then K [] else some (.ret [ci 63]) := by
  rw [loop_find l.length (fun i => [ci (i : Int)]) (bad Note.ok Note.src l) (fun i => some (.ret [ci 63])) (some (.br 4 [])) ?hv ?hR ?hX
    (fun i hi hp => ?h1) (fun i hi hp => ?h2) ?h3]
  case hv => rfl
  case hR => simp
  case hX => simp
  case h3 => simp
  case h1 =>
    have hw := wr_nat (show i < 9223372036854775807 by omega)
    by_cases h0 : i = 0
    · subst h0
      simp [bad, hi] at hp
      have hw1 : wr 1 = 1 := by decide
      simp [hi, inb_map0, el_map0, Note.cv, hp, hw1]
    · have h0' : 0 < i := by omega
      have hj : i - 1 < l.length := by omega
      have hwj := wr_pred h0' (show i < 9223372036854775807 by omega)
      simp only [bad, List.getElem?_eq_getElem hi, List.getElem?_eq_getElem hj, h0', decide_true, Bool.true_and, Bool.or_eq_false_iff, Bool.not_eq_false', decide_eq_false_iff_not] at hp
      simp [hi, hj, inb_map, el_map, Note.cv, hp, hw, hwj, h0']
  case h2 =>
    by_cases h0 : i = 0
    · subst h0
      simp [bad, hi] at hp
      simp [hi, inb_map0, el_map0, Note.cv, hp]
    · have h0' : 0 < i := by omega
      have hj : i - 1 < l.length := by omega
      have hwj := wr_pred h0' (show i < 9223372036854775807 by omega)
      simp only [bad, List.getElem?_eq_getElem hi, List.getElem?_eq_getElem hj, h0', decide_true, Bool.true_and, Bool.or_eq_true, Bool.not_eq_true', decide_eq_true_eq] at hp
      cases hk : l[i].ok with
      | false => simp [hi, hj, inb_map, el_map, Note.cv, hk, hwj, h0']
      | true =>
        have hp' : l[i].src ≤ l[i - 1].src := by simpa [hk] using hp
        simp [hi, hj, inb_map, el_map, Note.cv, hk, hp', hwj, h0']
  · rw [← bad_none Note.ok Note.src l]
    cases (List.range l.length).find? (bad Note.ok Note.src l) <;> simp
@[simp] theorem w_Check' (n : Nat) (p : Acc) (hp : p.fits) : D (n + 4) n_r06_Check [.row 24 (p.ts.map Tariff.cv), .row 9 (p.ss.map Held.cv), .row 7 (p.ns.map Note.cv)] = some [ci (check p)] := by
  rw [q_r06_Check]
  obtain ⟨h1, h2, h3⟩ := hp
  unfold R_r06_Check
  simp only [ck_Tariff _ _ h1, ck_Held _ _ h2, ck_Note _ _ h3]
  have e1 : ((p.ts.length : Int) > 8) = ¬ (p.ts.length ≤ 8) := by apply propext; omega
  have e2 : ((p.ss.length : Int) > 60) = ¬ (p.ss.length ≤ 60) := by apply propext; omega
  have e3 : ((p.ns.length : Int) > 60) = ¬ (p.ns.length ≤ 60) := by apply propext; omega
  simp [check, Acc.ok, listOk, e1, e2, e3, retO_ite]; grind
@[simp] theorem w_check (n : Nat) (p : Acc) (l : List Int) (hp : p.fits) (hl : l.length < 9223372036854775807) : D (n + 9) n_fine_check [.row 24 (p.ts.map Tariff.cv), .row 9 (p.ss.map Held.cv), .row 7 (p.ns.map Note.cv), .row 1 (ints l)] = some [ci (if p.ok then (if l.all isDay then 0 else 6) else 63)] := by
  rw [q_fine_check]
  have h1 := w_ContainsFunc_int (n + 6) l (.fn n_fine_check_c1 []) (fun x => !isDay x) hl (fun x _ => by rw [v_check_c1]; simp)
  have h2 : l.any (fun x => !isDay x) = !l.all isDay := by rw [List.not_all_eq_any_not]
  rw [h2] at h1
  generalize l.all isDay = b at h1 ⊢
  simp [R_fine_check, hp, check, h1, retO_ite]
  cases b <;> simp <;> grind
end Go.Proofs.Ytabhbdehbpmpkaa
namespace Go.Proofs.Ytabhbdehbpmpkaa
open Go Go.Sx Go.Fine
set_option maxRecDepth 10000
attribute [local simp] Bool.and_assoc Bool.or_assoc
theorem last_fold {A : Type} (p : A → Bool) (z : A) : ∀ (l : List A) (s : A × Bool), l.foldl (fun s t => if p t = true then (t, true) else s) s = match (l.filter p).getLast? with
    | some t => (t, true)
    | none => s
  | [], s => rfl
  | a :: l, s => by
    rw [List.foldl_cons, last_fold p z l]
    cases hp : p a with
    | true =>
      rw [List.filter_cons_of_pos hp, List.getLast?_cons]
      cases (l.filter p).getLast? <;> simp
    | false => rw [List.filter_cons_of_neg (by simp [hp])]; simp
def Tariff.cvb (t : Tariff) (b : Bool) : List CV := [ci t.frm, ci t.h0, ci t.h1, ci t.h2, ci t.h3, ci t.h4, ci t.h5, ci t.h6, ci t.h7, ci t.h8, ci t.h9, ci t.d0, ci t.d1, ci t.d2, ci t.d3, ci t.d4, ci t.d5, ci t.d6, ci t.d7, ci t.d8, ci t.d9, ci t.feed, ci t.hay, ci t.drv, cb b]
@[simp] theorem w_inForce (n : Nat) (l : List Tariff) (ss ns : List (List CV)) (d : Int) (hl : l.length < 100000000000000) : D (n + 1) n_fine_inForce [.row 24 (l.map Tariff.cv), .row 9 ss, .row 7 ns, ci d] =
    some (match (l.filter fun t => decide (t.frm ≤ d)).getLast? with | some t => Tariff.cvb t true | none => Tariff.cvb tz false) := by
  rw [q_fine_inForce]
  unfold R_fine_inForce
  rw [loop_foldl l (fun i (s : Tariff × Bool) => cb s.2 :: ci (i : Int) :: s.1.cv) (fun s t => if decide (t.frm ≤ d) = true then (t, true) else s) 0 (fun s => cb s.2 :: s.1.cv) (tz, false) ?hv (fun i h s => ?hs) (fun s => ?he)]
  case hv => simp [Tariff.cv, tz]
  case he => simp [Tariff.cv]
  case hs =>
    have hw := wr_nat (show i < 9223372036854775807 by omega)
    by_cases hc : l[i].frm ≤ d <;> simp [h, inb_map, el_map, Tariff.cv, hw, hc]
  · rw [last_fold _ tz]
    cases (l.filter fun t => decide (t.frm ≤ d)).getLast? <;> simp [Tariff.cv, Tariff.cvb]
@[simp] theorem w_inForce' (n : Nat) (l : List Tariff) (ss ns : List (List CV)) (d : Int) (hl : l.length < 100000000000000) : D (n + 1) n_r06_inForce [.row 24 (l.map Tariff.cv), .row 9 ss, .row 7 ns, ci d] =
    some (match (l.filter fun t => decide (t.frm ≤ d)).getLast? with | some t => Tariff.cvb t true | none => Tariff.cvb tz false) := by
  rw [q_r06_inForce]
  unfold R_r06_inForce
  have hrl : l.reverse.length = l.length := List.length_reverse
  rw [loop_findL (fun t => decide (t.frm ≤ d)) (fun t => some (.ret (Tariff.cvb t true))) (some (.br 0 tz.cv)) l.reverse (fun j => ci (l.length - 1 - (j : Int)) :: tz.cv) ?hv ?hR ?hX (fun i h hp => ?h1) (fun i h hp => ?h2) ?h3]
  case hv =>
    have : wr ((l.length : Int) - 1) = l.length - 1 := by rw [wr_of] <;> omega
    simp [Tariff.cv, tz, this]
  case hR => simp
  case hX => simp
  case h3 =>
    rw [hrl, show (l.length : Int) - 1 - (l.length : Nat) = -1 by omega]
    simp [Tariff.cv, tz]
  case h1 =>
    rw [hrl] at h
    have e1 : (l.length : Int) - 1 - (i : Int) = ((l.length - 1 - i : Nat) : Int) := by omega
    have e2 : l.length - 1 - i < l.length := by omega
    have e3 : wr (((l.length - 1 - i : Nat) : Int) - 1) = (l.length : Int) - 1 - ((i + 1 : Nat) : Int) := by rw [wr_of] <;> omega
    rw [e1]
    rw [List.getElem_reverse] at hp
    simp only [decide_eq_false_iff_not] at hp
    have e4 : (0 : Int) ≤ ((l.length - 1 - i : Nat) : Int) := by omega
    simp only [gi_z, e4, iteB_eq, ge_iff_le, decide_true, if_true, inb_map e2, el_map e2, chk_true]
    simp [Tariff.cv, tz, hp, e3]
  case h2 =>
    rw [hrl] at h
    have e1 : (l.length : Int) - 1 - (i : Int) = ((l.length - 1 - i : Nat) : Int) := by omega
    have e2 : l.length - 1 - i < l.length := by omega
    rw [e1]
    rw [List.getElem_reverse] at hp ⊢
    simp only [decide_eq_true_eq] at hp
    have e4 : (0 : Int) ≤ ((l.length - 1 - i : Nat) : Int) := by omega
    simp only [gi_z, e4, iteB_eq, ge_iff_le, decide_true, if_true, inb_map e2, el_map e2, chk_true]
    simp [Tariff.cv, hp, Tariff.cvb]
  · have : l.reverse.find? (fun t => decide (t.frm ≤ d)) = (l.filter fun t => decide (t.frm ≤ d)).getLast? := by
      rw [← List.head?_filter, List.filter_reverse, List.head?_reverse]
    rw [this]
    cases (l.filter fun t => decide (t.frm ≤ d)).getLast? <;> simp [Tariff.cv, Tariff.cvb, tz]
end Go.Proofs.Ytabhbdehbpmpkaa
namespace Go.Proofs.Ytabhbdehbpmpkaa
open Go Go.Sx Go.Fine
set_option maxRecDepth 10000
attribute [local simp] Bool.and_assoc Bool.or_assoc
theorem w_inF (n : Nat) (p : Acc) (ss ns : List (List CV)) (d : Int) (hp : p.fits) : D (n + 1) n_fine_inForce [.row 24 (p.ts.map Tariff.cv), .row 9 ss, .row 7 ns, ci d] = some (Tariff.cvb (inForce p d) (inF p d).isSome) := by
  rw [w_inForce _ _ _ _ _ hp.1]
  unfold inForce inF
  cases (p.ts.filter fun t => decide (t.frm ≤ d)).getLast? <;> rfl
theorem w_inF' (n : Nat) (p : Acc) (ss ns : List (List CV)) (d : Int) (hp : p.fits) : D (n + 1) n_r06_inForce [.row 24 (p.ts.map Tariff.cv), .row 9 ss, .row 7 ns, ci d] = some (Tariff.cvb (inForce p d) (inF p d).isSome) := by
  rw [w_inForce' _ _ _ _ _ hp.1]
  unfold inForce inF
  cases (p.ts.filter fun t => decide (t.frm ≤ d)).getLast? <;> rfl
attribute [-simp] w_inForce w_inForce'
attribute [simp] w_inF w_inF'
@[simp] theorem w_daily (n : Nat) (p : Acc) (s : Held) (d : Int) (hp : p.ok = true) (hs : s.ok = true) : D (n + 2) n_fine_daily [.row 24 (p.ts.map Tariff.cv), .row 9 (p.ss.map Held.cv), .row 7 (p.ns.map Note.cv), ci s.src, ci s.beast, ci s.sort, ci s.eats, ci s.worth, ci s.drv, ci s.day, ci s.known, ci s.til, ci d] = some [ci (daily p s d)] := by
  rw [q_fine_daily]
  obtain ⟨h1, h2, h3, h4⟩ := daily_bounds hp hs d
  have e1 : wr (s.eats * (inForce p d).feed) = s.eats * (inForce p d).feed := by rw [wr_of] <;> omega
  have e2 : wr (Int.tdiv (s.eats * (inForce p d).feed) 10) = daily p s d := by unfold daily at *; rw [wr_of] <;> omega
  simp [R_fine_daily, p.ok_fits hp, Tariff.cvb, e1, e2]
@[simp] theorem w_fed' (n : Nat) (p : Acc) (s : Held) (d : Int) (hp : p.ok = true) (hs : s.ok = true) : D (n + 2) n_r06_fed [.row 24 (p.ts.map Tariff.cv), .row 9 (p.ss.map Held.cv), .row 7 (p.ns.map Note.cv), ci s.src, ci s.beast, ci s.sort, ci s.eats, ci s.worth, ci s.drv, ci s.day, ci s.known, ci s.til, ci d] = some [ci (daily p s d)] := by
  rw [q_r06_fed]
  obtain ⟨h1, h2, h3, h4⟩ := daily_bounds hp hs d
  have e1 : wr (s.eats * (inForce p d).feed) = s.eats * (inForce p d).feed := by rw [wr_of] <;> omega
  have e2 : wr (Int.tdiv (s.eats * (inForce p d).feed) 10) = daily p s d := by unfold daily at *; rw [wr_of] <;> omega
  simp [R_r06_fed, p.ok_fits hp, Tariff.cvb, e1, e2]
@[simp] theorem ints_1 (x : Int) : ints [x] = [[ci x]] := rfl
theorem w_IndexFunc_Held (n : Nat) (l : List Held) (f : CV) (q : Held → Bool) (hl : l.length < 9223372036854775807) (hf : ∀ t ∈ l, callV sg (D n) f [ci t.src, ci t.beast, ci t.sort, ci t.eats, ci t.worth, ci t.drv, ci t.day, ci t.known, ci t.til] [.agg [li, li, li, li, li, li, li, li, li]] [.one lb] = some [cb (q t)]) :
    D (n + 1) n_slices_IndexFunc_Held [.row 9 (l.map Held.cv), f] = some [ci (idxI (l.findIdx? q))] := by
  rw [q_slices_IndexFunc_Held]
  unfold R_slices_IndexFunc_Held
  have hf' : ∀ i (h : i < l.length), callV sg (D n) f [ci l[i].src, ci l[i].beast, ci l[i].sort, ci l[i].eats, ci l[i].worth, ci l[i].drv, ci l[i].day, ci l[i].known, ci l[i].til] [.agg [li, li, li, li, li, li, li, li, li]] [.one lb] = some [cb (q l[i])] := fun i h => hf _ (List.getElem_mem h)
  rw [loop_idx q l (fun i => some (.ret [ci (i : Int)])) (some (.br 0 [])) (fun i => [ci (i : Int)]) ?hv ?hR ?hX (fun i hi hp => ?h1) (fun i hi hp => ?h2) ?h3]
  case hv => rfl
  case hR => simp
  case hX => simp
  case h3 => simp
  case h1 =>
    have hw := wr_nat (show i < 9223372036854775807 by omega)
    simp [hi, inb_map, el_map, Held.cv, hf', hp, hw]
  case h2 => simp [hi, inb_map, el_map, Held.cv, hf', hp]
  · cases l.findIdx? q <;> simp [idxI]
theorem cv_Held_len (t : Held) : t.cv.length = 9 := rfl
theorem cv_Held_oks (t : Held) : oks (List.replicate 9 li) t.cv 0 = true := rfl
theorem cv_Held_cis (t : Held) : cis t.cv 0 9 = t.cv := rfl
theorem w_IndexFunc_Note (n : Nat) (l : List Note) (f : CV) (q : Note → Bool) (hl : l.length < 9223372036854775807) (hf : ∀ t ∈ l, callV sg (D n) f [ci t.src, ci t.stay, ci t.kind, ci t.owner, ci t.day, ci t.known, ci t.til] [.agg [li, li, li, li, li, li, li]] [.one lb] = some [cb (q t)]) :
    D (n + 1) n_slices_IndexFunc_Note [.row 7 (l.map Note.cv), f] = some [ci (idxI (l.findIdx? q))] := by
  rw [q_slices_IndexFunc_Note]
  unfold R_slices_IndexFunc_Note
  have hf' : ∀ i (h : i < l.length), callV sg (D n) f [ci l[i].src, ci l[i].stay, ci l[i].kind, ci l[i].owner, ci l[i].day, ci l[i].known, ci l[i].til] [.agg [li, li, li, li, li, li, li]] [.one lb] = some [cb (q l[i])] := fun i h => hf _ (List.getElem_mem h)
  rw [loop_idx q l (fun i => some (.ret [ci (i : Int)])) (some (.br 0 [])) (fun i => [ci (i : Int)]) ?hv ?hR ?hX (fun i hi hp => ?h1) (fun i hi hp => ?h2) ?h3]
  case hv => rfl
  case hR => simp
  case hX => simp
  case h3 => simp
  case h1 =>
    have hw := wr_nat (show i < 9223372036854775807 by omega)
    simp [hi, inb_map, el_map, Note.cv, hf', hp, hw]
  case h2 => simp [hi, inb_map, el_map, Note.cv, hf', hp]
  · cases l.findIdx? q <;> simp [idxI]
theorem cv_Note_len (t : Note) : t.cv.length = 7 := rfl
theorem cv_Note_oks (t : Note) : oks (List.replicate 7 li) t.cv 0 = true := rfl
theorem cv_Note_cis (t : Note) : cis t.cv 0 7 = t.cv := rfl
theorem v_stays_c1 (M : Den) (s : Held) (c : List CV) : callV sg M (.fn n_fine_stays_c1 [.ref c]) [ci s.src, ci s.beast, ci s.sort, ci s.eats, ci s.worth, ci s.drv, ci s.day, ci s.known, ci s.til] [.agg [li, li, li, li, li, li, li, li, li]] [.one lb] = M n_fine_stays_c1 [ci s.src, ci s.beast, ci s.sort, ci s.eats, ci s.worth, ci s.drv, ci s.day, ci s.known, ci s.til, .ref c] := rfl
@[simp] theorem w_stays_c1 (n : Nat) (s : Held) (k : Int) : D (n + 2) n_fine_stays_c1 [ci s.src, ci s.beast, ci s.sort, ci s.eats, ci s.worth, ci s.drv, ci s.day, ci s.known, ci s.til, .ref [ci k]] = some [cb (!counts s.known s.til k)] := by
  rw [q_fine_stays_c1]; simp [R_fine_stays_c1]
@[simp] theorem w_stays (n : Nat) (p : Acc) (k : Int) (hp : p.ok = true) : D (n + 4) n_fine_stays [.row 24 (p.ts.map Tariff.cv), .row 9 (p.ss.map Held.cv), .row 7 (p.ns.map Note.cv), ci k] = some [.row 9 ((stays p k).map Held.cv)] := by
  rw [q_fine_stays]
  obtain ⟨_, h1, _⟩ := p.ok_len hp
  have hix := w_IndexFunc_Held (n + 2) p.ss (.fn n_fine_stays_c1 [.ref [ci k]]) (fun s => !counts s.known s.til k) (by omega) (fun s _ => by rw [v_stays_c1]; simp)
  have hd := del_row 9 Held.cv hz.cv cv_Held_len cv_Held_oks cv_Held_cis (fun s => !counts s.known s.til k) p.ss (by omega) hix (call := fun c => D (n + 3) n_fine_stays_c1 (cat [c, [.ref [ci k]]])) (fun s _ => by simp [Held.cv])
  have hc := clone_row 9 72 Held.cv p.ss (by omega) (by omega)
  unfold R_fine_stays
  rw [hc]
  simp only [inlO_ret, gr_z]
  change retO (inlO (delX _ (fun c => D (n + 3) n_fine_stays_c1 (cat [c, [.ref [ci k]]])) 9 hz.cv (p.ss.map Held.cv)) _) = _
  rw [hd]
  simp [stays]
theorem v_notes_c1 (M : Den) (x : Note) (c d : List CV) : callV sg M (.fn n_fine_notes_c1 [.ref c, .ref d]) [ci x.src, ci x.stay, ci x.kind, ci x.owner, ci x.day, ci x.known, ci x.til] [.agg [li, li, li, li, li, li, li]] [.one lb] = M n_fine_notes_c1 [ci x.src, ci x.stay, ci x.kind, ci x.owner, ci x.day, ci x.known, ci x.til, .ref c, .ref d] := rfl
@[simp] theorem w_notes_c1 (n : Nat) (x : Note) (s : Held) (k : Int) : D (n + 2) n_fine_notes_c1 [ci x.src, ci x.stay, ci x.kind, ci x.owner, ci x.day, ci x.known, ci x.til, .ref [ci k], .ref [ci s.src, ci s.beast, ci s.sort, ci s.eats, ci s.worth, ci s.drv, ci s.day, ci s.known, ci s.til]] = some [cb (!(counts x.known x.til k && x.stay == s.src && within x.day s.day k))] := by
  rw [q_fine_notes_c1]; simp [R_fine_notes_c1, retO_ite]
@[simp] theorem w_notes (n : Nat) (p : Acc) (s : Held) (k : Int) (hp : p.ok = true) : D (n + 4) n_fine_notes [.row 24 (p.ts.map Tariff.cv), .row 9 (p.ss.map Held.cv), .row 7 (p.ns.map Note.cv), ci s.src, ci s.beast, ci s.sort, ci s.eats, ci s.worth, ci s.drv, ci s.day, ci s.known, ci s.til, ci k] = some [.row 7 ((notes p s k).map Note.cv)] := by
  rw [q_fine_notes]
  obtain ⟨_, _, h1⟩ := p.ok_len hp
  have hix := w_IndexFunc_Note (n + 2) p.ns (.fn n_fine_notes_c1 [.ref [ci k], .ref [ci s.src, ci s.beast, ci s.sort, ci s.eats, ci s.worth, ci s.drv, ci s.day, ci s.known, ci s.til]]) (fun x => !(counts x.known x.til k && x.stay == s.src && within x.day s.day k)) (by omega) (fun x _ => by rw [v_notes_c1]; simp)
  have hd := del_row 7 Note.cv (List.replicate 7 (ci 0)) cv_Note_len cv_Note_oks cv_Note_cis (fun x => !(counts x.known x.til k && x.stay == s.src && within x.day s.day k)) p.ns (by omega) hix (call := fun c => D (n + 3) n_fine_notes_c1 (cat [c, [.ref [ci k], .ref [ci s.src, ci s.beast, ci s.sort, ci s.eats, ci s.worth, ci s.drv, ci s.day, ci s.known, ci s.til]]])) (fun x _ => by simp [Note.cv])
  have hc := clone_row 7 56 Note.cv p.ns (by omega) (by omega)
  unfold R_fine_notes
  rw [hc]
  simp only [inlO_ret, gr_z]
  change retO (inlO (delX _ (fun c => D (n + 3) n_fine_notes_c1 (cat [c, [.ref [ci k], .ref [ci s.src, ci s.beast, ci s.sort, ci s.eats, ci s.worth, ci s.drv, ci s.day, ci s.known, ci s.til]]])) 7 (List.replicate 7 (ci 0)) (p.ns.map Note.cv)) _) = _
  rw [hd]
  simp [notes]
end Go.Proofs.Ytabhbdehbpmpkaa
namespace Go.Proofs.Ytabhbdehbpmpkaa
open Go Go.Sx Go.Fine
set_option maxRecDepth 10000
attribute [local simp] Bool.and_assoc Bool.or_assoc
theorem w_check1 (n : Nat) (p : Acc) (k : Int) (hp : p.fits) : D (n + 9) n_fine_check [.row 24 (p.ts.map Tariff.cv), .row 9 (p.ss.map Held.cv), .row 7 (p.ns.map Note.cv), .row 1 [[ci k]]] = some [ci (asked p k)] := by
  have := w_check n p [k] hp (by simp)
  rw [ints_1] at this
  rw [this]; simp [asked]
@[simp] theorem w_says (n : Nat) (p : Acc) (s : Held) (k : Int) (hp : p.ok = true) : D (n + 2) n_r06_says [.row 24 (p.ts.map Tariff.cv), .row 9 (p.ss.map Held.cv), .row 7 (p.ns.map Note.cv), ci s.src, ci s.beast, ci s.sort, ci s.eats, ci s.worth, ci s.drv, ci s.day, ci s.known, ci s.til, ci k] = some [.row 7 ((notes p s k).map Note.cv)] := by
  rw [q_r06_says]
  obtain ⟨_, _, h1⟩ := p.ok_len hp
  unfold R_r06_says
  rw [loop_coll p.ns (fun x => counts x.known x.til k && x.stay == s.src && within x.day s.day k) Note.cv 7 0 ?hv (fun i hi es hes => ?hs) (fun es => ?he)]
  case hv => rfl
  case he => simp
  case hs =>
    have hw := wr_nat (show i < 9223372036854775807 by omega)
    have hf : fitA es.length 1 56 = true := fitA_of (by omega) (by omega)
    cases hc : (counts p.ns[i].known p.ns[i].til k && p.ns[i].stay == s.src && within p.ns[i].day s.day k) with
    | true => simp [Bool.and_eq_true] at hc; simp [hi, inb_map, el_map, Note.cv, hf, hw, hc]
    | false => simp [Bool.and_eq_false_iff] at hc; simp [hi, inb_map, el_map, Note.cv, hf, hw]; grind
  · simp [notes]
theorem asked_ok {p : Acc} {k : Int} (h : asked p k = 0) : p.ok = true ∧ isDay k = true := by
  unfold asked at h
  cases h1 : p.ok <;> cases h2 : isDay k <;> simp [h1, h2] at h ⊢
def Held.cve (s : Held) (e : Int) : List CV := [ci s.src, ci s.beast, ci s.sort, ci s.eats, ci s.worth, ci s.drv, ci s.day, ci s.known, ci s.til, ci e]
@[simp] theorem w_stayOf (n : Nat) (p : Acc) (y k : Int) (hp : p.fits) : D (n + 10) n_fine_stayOf [.row 24 (p.ts.map Tariff.cv), .row 9 (p.ss.map Held.cv), .row 7 (p.ns.map Note.cv), ci y, ci k] = some (Held.cve (stayOf p y k).1 (stayOf p y k).2) := by
  rw [q_fine_stayOf]
  unfold R_fine_stayOf
  have hck := w_check1 n p k hp
  simp only [chunk_s, chunk_z, List.take_succ_cons, List.take_zero]
  rw [hck]
  simp only [callO_val, gi_z, bne_dec, iteB_eq]
  by_cases ha : asked p k = 0
  · obtain ⟨hok, _⟩ := asked_ok ha
    obtain ⟨_, h1, _⟩ := p.ok_len hok
    have h2 : (stays p k).length ≤ 60 := Nat.le_trans (filter_len _ _) h1
    simp only [ha, decide_true, Bool.not_true, Bool.false_eq_true, if_false, w_stays _ _ _ hok, callO_val, gr_z]
    rw [loop_findL (fun s => s.src == y) (fun s => some (.ret (Held.cve s 0))) (some (.br 0 hz.cv)) (stays p k) (fun i => ci (i : Int) :: hz.cv) ?hv ?hR ?hX (fun i hi hq => ?h1) (fun i hi hq => ?h2) ?h3]
    case hv => rfl
    case hR => simp
    case hX => simp
    case h3 => simp [Held.cv, hz]
    case h1 =>
      have hw := wr_nat (show i < 9223372036854775807 by omega)
      simp at hq
      simp [hi, inb_map, el_map, Held.cv, hw, hq, hz]
    case h2 =>
      simp at hq
      simp [hi, inb_map, el_map, Held.cv, hq, Held.cve]
    · simp only [stayOf, ha, if_true]
      cases (stays p k).find? fun s => s.src == y <;> simp [Held.cve, hz]
  · simp [ha, stayOf, Held.cve, hz]
theorem stayOf_ok {p : Acc} {y k : Int} (h : (stayOf p y k).2 = 0) : p.ok = true ∧ isDay k = true ∧ (stayOf p y k).1 ∈ stays p k ∧ (stayOf p y k).1.ok = true ∧ (stayOf p y k).1.src = y := by
  unfold stayOf at h ⊢
  split at h
  · rename_i ha
    obtain ⟨h1, h2⟩ := asked_ok ha
    rw [if_pos ha]
    cases hf : (stays p k).find? fun s => s.src == y with
    | none => rw [hf] at h; simp at h
    | some s =>
      have hm := List.mem_of_find?_eq_some hf
      have hs := List.find?_some hf
      exact ⟨h1, h2, hm, p.ok_s h1 (stays_mem hm), by simpa using hs⟩
  · rename_i ha; exact absurd h ha
end Go.Proofs.Ytabhbdehbpmpkaa
namespace Go.Proofs.Ytabhbdehbpmpkaa
open Go Go.Sx Go.Fine
set_option maxRecDepth 10000
attribute [local simp] Bool.and_assoc Bool.or_assoc
@[simp] theorem w_least (n : Nat) (l : List Note) (k : Int) (hl : l.length ≤ 1000) : D (n + 1) n_r06_least [.row 7 (l.map Note.cv), ci k] = some [ci (least k l)] := by
  rw [q_r06_least]
  unfold R_r06_least
  rw [loop_foldl l (fun i (s : Int) => [ci s, ci (i : Int)]) (leastS k) 0 (fun s => [ci s]) (-1) ?hv (fun i hi s => ?hs) (fun s => ?he)]
  case hv => rfl
  case he => simp
  case hs =>
    have hw := wr_nat (show i < 9223372036854775807 by omega)
    by_cases hk : l[i].kind = k <;> simp [hi, inb_map, el_map, Note.cv, hw, hk, leastS]
    grind
  · simp [least_def]
@[simp] theorem w_stop (n : Nat) (l : List Note) (hl : l.length ≤ 1000) : D (n + 2) n_r06_stop [.row 7 (l.map Note.cv)] = some [ci (stopOf l)] := by
  rw [q_r06_stop]
  simp [R_r06_stop, hl, stopOf]
  grind
theorem w_owner (n : Nat) (l : List Note) (hl : l.length ≤ 1000) (ho : ∀ x ∈ l, x.ok = true) : D (n + 2) n_r06_owner [.row 7 (l.map Note.cv)] = some [ci (ownerOf l)] := by
  rw [q_r06_owner]
  unfold R_r06_owner
  rw [loop_foldl l (fun i (s : Note) => ci s.owner :: ci (i : Int) :: s.cv) judgeS 0 (fun s => ci s.owner :: s.cv) j0 ?hv (fun i hi s => ?hs) (fun s => ?he)]
  case hv => simp [Note.cv, j0]
  case he => simp [Note.cv]
  case hs =>
    have hw := wr_nat (show i < 9223372036854775807 by omega)
    by_cases hk : l[i].kind = 3
    · by_cases hd : s.known ≤ l[i].known <;> simp [hi, inb_map, el_map, Note.cv, hw, hk, hd, judgeS]
    · simp [hi, inb_map, el_map, Note.cv, hw, hk, judgeS]
  · have hj := judge_fold l
    have hn := judge_owner l ho
    rw [hj] at hn
    simp only [blkO_br, gi_z, iteB_eq, ownerOf, hj]
    by_cases h0 : 0 < (l.foldl judgeS j0).owner
    · simp [h0]
    · have hz : (l.foldl judgeS j0).owner = 0 := by omega
      simp only [hz, gt_iff_lt, Int.lt_irrefl, decide_false, Bool.false_eq_true, if_false, w_least _ _ _ hl, callO_val, gi_z]
      have hrl : l.reverse.length = l.length := List.length_reverse
      rw [loop_foldl l.reverse (fun i (s : Int) => [ci s, ci (l.length - 1 - (i : Int))]) (fun (s : Int) x => if x.kind = 1 ∧ x.day = least 1 l then x.owner else s) 2 (fun s => [ci s]) 0 ?hv (fun i hi s => ?hs) (fun s => ?he)]
      case hv =>
        have : wr ((l.length : Int) - 1) = l.length - 1 := by rw [wr_of] <;> omega
        simp [this]
      case he =>
        rw [hrl, show (l.length : Int) - 1 - (l.length : Nat) = -1 by omega]
        simp
      case hs =>
        rw [hrl] at hi
        have e1 : (l.length : Int) - 1 - (i : Int) = ((l.length - 1 - i : Nat) : Int) := by omega
        have e2 : l.length - 1 - i < l.length := by omega
        have e3 : wr (((l.length - 1 - i : Nat) : Int) - 1) = (l.length : Int) - 1 - ((i + 1 : Nat) : Int) := by rw [wr_of] <;> omega
        have e4 : (0 : Int) ≤ ((l.length - 1 - i : Nat) : Int) := by omega
        rw [e1, List.getElem_reverse]
        simp only [gi_z, gi_s, e4, iteB_eq, ge_iff_le, decide_true, if_true, inb_map e2, el_map e2, chk_true, e3]
        by_cases hk : l[l.length - 1 - i].kind = 1
        · by_cases hd : l[l.length - 1 - i].day = least 1 l <;> simp [Note.cv, hk, hd]
        · simp [Note.cv, hk]
      · rw [claim_back]; simp
theorem w_whose (n : Nat) (l : List Note) (hl : l.length ≤ 1000) (ho : ∀ x ∈ l, x.ok = true) : D (n + 1) n_fine_whose [.row 7 (l.map Note.cv)] = some [ci (ownerOf l), ci (stopOf l)] := by
  rw [q_fine_whose]
  unfold R_fine_whose
  rw [loop_foldl l (fun i (s : Int × Note × Note) => ci s.1 :: ci (i : Int) :: (s.2.1.cv ++ s.2.2.cv)) (fun s x => (stopS s.1 x, claimS s.2.1 x, judgeS s.2.2 x)) 0 (fun s => ci s.1 :: (s.2.1.cv ++ s.2.2.cv)) (-1, c0, j0) ?hv (fun i hi s => ?hs) (fun s => ?he)]
  case hv => simp [Note.cv, j0, c0]
  case he => simp [Note.cv]
  case hs =>
    have hw := wr_nat (show i < 9223372036854775807 by omega)
    have hk := (Note.ok_b (ho _ (List.getElem_mem hi))).2.2.1
    rcases hk with ⟨hk, _⟩ | ⟨hk | hk, _⟩
    · simp [hi, inb_map, el_map, Note.cv, hw, hk, stopS, claimS, judgeS]
    · by_cases hd : l[i].day < s.2.1.day <;> simp [hi, inb_map, el_map, Note.cv, hw, hk, hd, stopS, claimS, judgeS] <;> grind
    · by_cases hd : s.2.2.known ≤ l[i].known <;> simp [hi, inb_map, el_map, Note.cv, hw, hk, hd, stopS, claimS, judgeS] <;> grind
  · have h3 : l.foldl (fun (s : Int × Note × Note) x => (stopS s.1 x, claimS s.2.1 x, judgeS s.2.2 x)) (-1, c0, j0) = (l.foldl stopS (-1), l.foldl claimS c0, l.foldl judgeS j0) := by
      have key : ∀ (l : List Note) (a : Int) (b c : Note), l.foldl (fun (s : Int × Note × Note) x => (stopS s.1 x, claimS s.2.1 x, judgeS s.2.2 x)) (a, b, c) = (l.foldl stopS a, l.foldl claimS b, l.foldl judgeS c) := by
        intro l
        induction l with
        | nil => intros; rfl
        | cons x l ih => intro a b c; simp only [List.foldl_cons]; exact ih _ _ _
      exact key _ _ _ _
    have hj := judge_fold l
    have hn := judge_owner l ho
    rw [h3, stop_fold l ho]
    rw [hj] at hn
    simp [Note.cv, ownerOf, hj, (claim_fold l ho).1]
    grind
attribute [simp] w_whose w_owner
theorem w_days_c1 (n : Nat) (a b : Int) (h1 : -9223372036854775808 ≤ a) (h2 : b < 9223372036854775807) : D (n + 1) n_fine_days_c1 [.ref [ci a], .ref [ci b]] = some ((upto a b).map ci) := by
  show daysIt [.ref [ci a], .ref [ci b]] = _
  simp only [daysIt, ci]
  rw [if_pos ⟨h1, h2⟩]
theorem it_days (n : Nat) (a b : Int) (h1 : -9223372036854775808 ≤ a) (h2 : b < 9223372036854775807) : itV sg (D (n + 1)) (.fn n_fine_days_c1 [.ref [ci a], .ref [ci b]]) = some (upto a b) := by
  have hs : sg n_fine_days_c1 = none := rfl
  simp only [itV, hs, w_days_c1 n a b h1 h2, intsOf_ci]
theorem sold_step (p : Acc) (s : Held) (hp : p.ok = true) (hs : s.ok = true) {x : Int} {e : Int} (he : 0 ≤ e ∧ e ≤ s.worth) : wr (e + daily p s x) = e + daily p s x := by
  obtain ⟨h1, h2, _⟩ := daily_bounds hp hs x
  have := (Held.ok_b hs).2.2.2.1
  rw [wr_of] <;> omega
@[simp] theorem w_sold (n : Nat) (p : Acc) (s : Held) (k : Int) (hp : p.ok = true) (hs : s.ok = true) (hk : isDay k = true) : D (n + 3) n_fine_sold [.row 24 (p.ts.map Tariff.cv), .row 9 (p.ss.map Held.cv), .row 7 (p.ns.map Note.cv), ci s.src, ci s.beast, ci s.sort, ci s.eats, ci s.worth, ci s.drv, ci s.day, ci s.known, ci s.til, ci k] = some [ci (sold p s k)] := by
  rw [q_fine_sold]
  unfold R_fine_sold
  have hb := Held.ok_b hs
  simp only [isDay, within, Bool.and_eq_true, decide_eq_true_eq] at hk
  by_cases h0 : s.worth = 0
  · simp [h0, sold]
  · have e1 : wr (s.day + 720) = s.day + 720 := by rw [wr_of] <;> omega
    have e2 : (if s.day + 720 < k then s.day + 720 else k) = min k (s.day + 720) := by omega
    simp only [iteB_eq, beq_dec, h0, decide_false, Bool.false_eq_true, if_false, e1, e2, w_days, callO_val]
    rw [show List.getD [CV.fn n_fine_days_c1 [.ref [ci s.day], .ref [ci (min k (s.day + 720))]]] 0 dC = CV.fn n_fine_days_c1 [.ref [ci s.day], .ref [ci (min k (s.day + 720))]] from rfl, it_days _ _ _ (by omega) (by omega)]
    generalize hst : (fun (x1 : Int) (v1 : List CV) => _) = step
    have hstep : ∀ (x : Int) (e : Int × Int), step x [ci e.1, ci e.2] = if wr (e.2 + daily p s x) ≥ s.worth then some (Ou.ret [ci x]) else some (Ou.nx [ci e.1, ci (wr (e.2 + daily p s x))]) := by
      intro x e
      rw [← hst]
      simp [hp, hs]; grind
    rw [rangeO_of (xs := upto s.day (min k (s.day + 720))) (step := step) (vs := [ci 0, ci 0]) (fun l => range_total (fun (e : Int × Int) => [ci e.1, ci e.2]) (fun x e => by
      rw [hstep]
      split
      · exact .inr ⟨_, rfl, by simp⟩
      · exact .inl ⟨(e.1, wr (e.2 + daily p s x)), rfl⟩) l (0, 0))]
    have key : ∀ (xs : List Int) (e : Int × Int), (∀ x ∈ xs, 0 ≤ x) → 0 ≤ e.2 → e.2 < s.worth → (soldL p s e.2 xs = -1 ∧ ∃ vs, rangeL step xs [ci e.1, ci e.2] = some (.nx vs)) ∨ (0 ≤ soldL p s e.2 xs ∧ rangeL step xs [ci e.1, ci e.2] = some (.ret [ci (soldL p s e.2 xs)])) := by
      intro xs
      induction xs with
      | nil => intro e _ _ _; exact .inl ⟨rfl, _, rfl⟩
      | cons x xs ih =>
        intro e hx h1 h2
        have h3 := hstep x e
        rw [sold_step p s hp hs ⟨h1, by omega⟩] at h3
        simp only [rangeL, h3, soldL]
        by_cases hc : e.2 + daily p s x ≥ s.worth
        · simp only [if_pos hc]; exact .inr ⟨hx x (by simp), trivial⟩
        · simp only [if_neg hc]
          exact ih (e.1, e.2 + daily p s x) (fun y hy => hx y (by simp [hy])) (by have := (daily_bounds hp hs x).1; simp only; omega) (by simp only; omega)
    have hpos : ∀ x ∈ upto s.day (min k (s.day + 720)), 0 ≤ x := fun x hx => by have := mem_upto.1 hx; omega
    rcases key (upto s.day (min k (s.day + 720))) (0, 0) hpos (by simp) (by simp only; omega) with ⟨h1, vs, h2⟩ | ⟨h1, h2⟩
    · simp only at h1 h2
      rw [h2]; simp [sold, h0, h1]
    · simp only at h1 h2
      rw [h2]; simp [sold, h0]
@[simp] theorem w_market (n : Nat) (p : Acc) (s : Held) (k : Int) (hp : p.ok = true) (hs : s.ok = true) (hk : isDay k = true) : D (n + 3) n_r06_market [.row 24 (p.ts.map Tariff.cv), .row 9 (p.ss.map Held.cv), .row 7 (p.ns.map Note.cv), ci s.src, ci s.beast, ci s.sort, ci s.eats, ci s.worth, ci s.drv, ci s.day, ci s.known, ci s.til, ci k] = some [ci (sold p s k)] := by
  rw [q_r06_market]
  unfold R_r06_market
  have hb := Held.ok_b hs
  simp only [isDay, within, Bool.and_eq_true, decide_eq_true_eq] at hk
  have e1 : wr (s.day + 720) = s.day + 720 := by rw [wr_of] <;> omega
  simp only [e1]
  generalize hst : (fun (v0 : List CV) => _) = step
  have hstep : ∀ (e d : Int), step [ci e, ci d] = if d ≤ k ∧ d ≤ s.day + 720 ∧ 0 < s.worth then (if wr (e + daily p s d) ≥ s.worth then some (Ou.ret [ci d]) else some (Ou.nx [ci (wr (e + daily p s d)), ci (wr (d + 1))])) else some (Ou.br 0 []) := by
    intro e d
    rw [← hst]
    simp [hp, hs]; grind
  by_cases h0 : s.worth = 0
  · rw [loop_end (hstep 0 s.day) (by rw [if_neg (by omega)]; simp), if_neg (by omega)]
    simp [sold, h0]
  · have key : ∀ (m : Nat) (e d : Int), (min k (s.day + 720) + 1 - d).toNat = m → 0 ≤ d → 0 ≤ e → e < s.worth → (soldL p s e (upto d (min k (s.day + 720))) = -1 ∧ loopD step [ci e, ci d] = some (.br 0 [])) ∨ (0 ≤ soldL p s e (upto d (min k (s.day + 720))) ∧ loopD step [ci e, ci d] = some (.ret [ci (soldL p s e (upto d (min k (s.day + 720))))])) := by
      intro m
      induction m with
      | zero =>
        intro e d hm h1 h2 h3
        rw [upto_nil (by omega)]
        refine .inl ⟨rfl, ?_⟩
        rw [loop_end (hstep e d) (by rw [if_neg (by omega)]; simp), if_neg (by omega)]
      | succ m ih =>
        intro e d hm h1 h2 h3
        have h4 := hstep e d
        have hd : wr (d + 1) = d + 1 := by rw [wr_of] <;> omega
        rw [if_pos (by omega), sold_step p s hp hs ⟨h2, by omega⟩, hd] at h4
        rw [upto_cons (by omega), soldL]
        by_cases hc : e + daily p s d ≥ s.worth
        · rw [if_pos hc] at h4 ⊢
          exact .inr ⟨h1, loop_end h4 (by simp)⟩
        · rw [if_neg hc] at h4 ⊢
          rw [loop_eq h4]
          exact ih _ _ (by omega) (by omega) (by have := (daily_bounds hp hs d).1; omega) (by omega)
    rcases key _ 0 s.day rfl (by omega) (by omega) (by omega) with ⟨h1, h2⟩ | ⟨h1, h2⟩
    · rw [h2]; simp [sold, h0, h1]
    · rw [h2]; simp [sold, h0]
end Go.Proofs.Ytabhbdehbpmpkaa
namespace Go.Proofs.Ytabhbdehbpmpkaa
open Go Go.Sx Go.Fine
set_option maxRecDepth 10000
attribute [local simp] Bool.and_assoc Bool.or_assoc
theorem w_lot' (n : Nat) (p : Acc) (s : Held) (k : Int) (hp : p.ok = true) (hs : s.ok = true) (hk : isDay k = true) : D (n + 4) n_r06_lot [.row 24 (p.ts.map Tariff.cv), .row 9 (p.ss.map Held.cv), .row 7 (p.ns.map Note.cv), ci s.src, ci s.beast, ci s.sort, ci s.eats, ci s.worth, ci s.drv, ci s.day, ci s.known, ci s.til, ci k] = some [ci (lot p s k).owner, ci (lot p s k).stop, ci (lot p s k).fin, ci (lot p s k).day] := by
  rw [q_r06_lot]
  have hb := Held.ok_b hs
  have hl : (notes p s k).length ≤ 1000 := Nat.le_trans (filter_len _ _) (by have := p.ok_len hp; omega)
  have ho : ∀ x ∈ notes p s k, x.ok = true := fun x hx => p.ok_n hp (notes_mem hx)
  have e1 : wr (s.day + 360) = s.day + 360 := by rw [wr_of] <;> omega
  have e2 : wr (s.day + 361) = s.day + 361 := by rw [wr_of] <;> omega
  have e2' : wr (s.day + 360 + 1) = s.day + 361 := by rw [wr_of] <;> omega
  have e3 : wr (s.day + 720) = s.day + 720 := by rw [wr_of] <;> omega
  have hfv : (if (decide (stopOf (notes p s k) < 0) || decide (stopOf (notes p s k) > s.day + 360)) = true then s.day + 361 else -1) = forfeit s (notes p s k) := by simp [forfeit]
  have hel : ends p s k = [(1, least 2 (notes p s k)), (2, sold p s k), (3, forfeit s (notes p s k)), (4, s.day + 720)] := rfl
  simp only [R_r06_lot, w_says _ _ _ _ hp, callO_val, gr_z, w_owner _ _ hl ho, w_stop _ _ hl, w_least _ _ _ hl, w_market _ _ _ _ hp hs hk, gi_z, e1, e2, e3, seq_or, seq_if, gb_z, ite_cells, ite_ci, ite_self, hfv]
  rw [loop_foldl (ends p s k) (fun i (x : Int × Int) => [ci ((i + 1 : Nat) : Int), ci (ownerOf (notes p s k)), ci (stopOf (notes p s k)), ci x.1, ci x.2]) (lotStep k) 0 (fun x => [ci (ownerOf (notes p s k)), ci (stopOf (notes p s k)), ci x.1, ci x.2]) (0, -1) ?hv (fun i hi x => ?hs) (fun x => ?he)]
  case hv => rfl
  case he => simp [hel]
  case hs =>
    have hi : i < 4 := hi
    have : i = 0 ∨ i = 1 ∨ i = 2 ∨ i = 3 := by omega
    have w2 : wr 2 = 2 := by decide
    have w3 : wr 3 = 3 := by decide
    have w4 : wr 4 = 4 := by decide
    have w5 : wr 5 = 5 := by decide
    rcases this with rfl | rfl | rfl | rfl <;> simp [hel, lotStep, w2, w3, w4, w5] <;> grind
  · simp [lot]
theorem w_lot (n : Nat) (p : Acc) (s : Held) (k : Int) (hp : p.ok = true) (hs : s.ok = true) (hk : isDay k = true) : D (n + 5) n_fine_lot [.row 24 (p.ts.map Tariff.cv), .row 9 (p.ss.map Held.cv), .row 7 (p.ns.map Note.cv), ci s.src, ci s.beast, ci s.sort, ci s.eats, ci s.worth, ci s.drv, ci s.day, ci s.known, ci s.til, ci k] = some [ci (lot p s k).owner, ci (lot p s k).stop, ci (lot p s k).fin, ci (lot p s k).day] := by
  rw [q_fine_lot]
  have hb := Held.ok_b hs
  have hl : (notes p s k).length ≤ 1000 := Nat.le_trans (filter_len _ _) (by have := p.ok_len hp; omega)
  have ho : ∀ x ∈ notes p s k, x.ok = true := fun x hx => p.ok_n hp (notes_mem hx)
  have e1 : wr (s.day + 360) = s.day + 360 := by rw [wr_of] <;> omega
  have e2 : wr (s.day + 361) = s.day + 361 := by rw [wr_of] <;> omega
  have e2' : wr (s.day + 360 + 1) = s.day + 361 := by rw [wr_of] <;> omega
  have e3 : wr (s.day + 720) = s.day + 720 := by rw [wr_of] <;> omega
  have hfv : (if (decide (stopOf (notes p s k) < 0) || decide (stopOf (notes p s k) > s.day + 360)) = true then s.day + 361 else -1) = forfeit s (notes p s k) := by simp [forfeit]
  have hel : ends p s k = [(1, least 2 (notes p s k)), (2, sold p s k), (3, forfeit s (notes p s k)), (4, s.day + 720)] := rfl
  simp only [R_fine_lot, w_notes _ _ _ _ hp, callO_val, gr_z, w_whose _ _ hl ho, w_sold _ _ _ _ hp hs hk, gi_z, gi_s, e1, e2', e3]
  rw [loop_ix 5 (fun i => [ci (i : Int), ci (if 0 < i then -1 else 0), ci (if 1 < i then -1 else 0), ci (if 2 < i then -1 else 0), ci (if 3 < i then -1 else 0), ci (if 4 < i then -1 else 0)]) (some (.br 0 [ci (-1), ci (-1), ci (-1), ci (-1), ci (-1)])) ?hv1 (fun i hi => ?hs1) ?he1 ?hr1]
  case hv1 => rfl
  case hr1 => simp
  case hs1 =>
    have w1 : wr 1 = 1 := by decide
    have w2 : wr 2 = 2 := by decide
    have w3 : wr 3 = 3 := by decide
    have w4 : wr 4 = 4 := by decide
    have w5 : wr 5 = 5 := by decide
    have : i = 0 ∨ i = 1 ∨ i = 2 ∨ i = 3 ∨ i = 4 := by omega
    rcases this with rfl | rfl | rfl | rfl | rfl <;> simp [w1, w2, w3, w4, w5]
  case he1 => simp
  simp only [blkO_br]
  rw [loop_foldl (notes p s k) (fun i (x : Int) => [ci (i : Int), ci (-1), ci x, ci (-1), ci (-1), ci (-1)]) (leastS 2) 2 (fun x => [ci (-1), ci x, ci (-1), ci (-1), ci (-1)]) (-1) ?hv2 (fun i hi x => ?hs2) (fun x => ?he2)]
  case hv2 => rfl
  case he2 => simp
  case hs2 =>
    have hw := wr_nat (show i < 9223372036854775807 by omega)
    by_cases hk : (notes p s k)[i].kind = 2 <;> simp [hi, inb_map, el_map, Note.cv, hw, hk, leastS] <;> grind
  rw [← least_def]
  simp only [blkO_br, gi_z, gi_s, seq_or, seq_if, gb_z, ite_cells, ite_ci, ite_self, hfv]
  rw [loop_foldl ((0, -1) :: ends p s k) (fun i (x : Int × Int) => [ci (i : Int), ci (ownerOf (notes p s k)), ci (stopOf (notes p s k)), ci x.1, ci x.2]) (lotStep k) 4 (fun x => [ci (ownerOf (notes p s k)), ci (stopOf (notes p s k)), ci x.1, ci x.2]) (0, -1) ?hv (fun i hi x => ?hs) (fun x => ?he)]
  case hv => rfl
  case he => simp [hel]
  case hs =>
    have hi : i < 5 := hi
    have : i = 0 ∨ i = 1 ∨ i = 2 ∨ i = 3 ∨ i = 4 := by omega
    have w1 : wr 1 = 1 := by decide
    have w2 : wr 2 = 2 := by decide
    have w3 : wr 3 = 3 := by decide
    have w4 : wr 4 = 4 := by decide
    have w5 : wr 5 = 5 := by decide
    rcases this with rfl | rfl | rfl | rfl | rfl <;> simp [hel, lotStep, blkO_ite, seqO_ite, w1, w2, w3, w4, w5] <;> grind
  · have : lotStep k (0, -1) (0, -1) = (0, -1) := by simp [lotStep]
    simp [lot, this]
end Go.Proofs.Ytabhbdehbpmpkaa
