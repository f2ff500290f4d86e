/-
  Proved: up to the last one of its days the postings for a stay add up to its due, as known then; what other payers paid they got back; no Amount is 0, no two postings have one day, stay, From and To; all Balances add up to 0, and what the lord, the hayward and the driver get is what is paid; conditions: none.
-/
import Derived.KernelRfl
import Derived.Test.YtabhbdehbpmpkaaProg
import Derived.Test.YtabhbdehbpmpkaaP08
namespace Go.Proofs.Ytabhbdehbpmpkaa
open Go Go.Sx
set_option maxRecDepth 100000
set_option maxHeartbeats 0
noncomputable section
def R_law06_FinePaid (M : Den) (a0_0 a0_1 a0_2 a1 : List (List CV)) : Option Ou :=  callO (M n_law06_sane []) fun v0 => callO (M n_r06_Made [CV.row 6 a0_0, CV.row 7 a0_1, CV.row 6 a0_2]) fun v1 => callO (M n_law06_days [CV.row 1 a1]) fun v2 => callO (M n_fine_Posts [CV.row 24 (gr v1 0), CV.row 9 (gr v1 1), CV.row 7 (gr v1 2), CV.row 1 (gr v2 0)]) fun v3 => seqO (iteB (!(gb v0 0)) (some (.nx [cb true])) (iteB ((gi v3 1) != 0) (some (.nx [cb true])) (callO (M n_fine_CheckPosts [CV.row 24 (gr v1 0), CV.row 9 (gr v1 1), CV.row 7 (gr v1 2), CV.row 1 (gr v2 0), CV.row 5 (gr v3 0)]) fun v4 => some (.nx [cb ((gi v4 0) != 0)])))) fun v4 => iteB (gb v4 0) (some (.ret [cb false])) (blkO 0 (loopD (fun v5 => iteB (decide ((gi v5 0) < (il (gr v3 0)))) (chk (inb (gi v5 0) (gr v3 0)) <| chk (oks (List.replicate 5 li) (el (gr v3 0) (gi v5 0)) 0) <| seqO (iteB ((gi (el (gr v3 0) (gi v5 0)) 4) == 0) (some (.nx [cb true])) (iteB ((gi (el (gr v3 0) (gi v5 0)) 2) == (gi (el (gr v3 0) (gi v5 0)) 3)) (some (.nx [cb true])) (callO (M n_r06_Has [CV.row 1 (gr v2 0), ci (gi (el (gr v3 0) (gi v5 0)) 0)]) fun v6 => some (.nx [cb (!(gb v6 0))])))) fun v6 => iteB (gb v6 0) (some (.ret [cb false])) (blkO 2 (loopD (fun v7 => iteB (decide ((gi v7 0) < (gi v5 0))) (chk (inb (gi v7 0) (gr v3 0)) <| chk (oks (List.replicate 5 li) (el (gr v3 0) (gi v7 0)) 0) <| seqO (iteB ((gi (el (gr v3 0) (gi v7 0)) 0) == (gi (el (gr v3 0) (gi v5 0)) 0)) (iteB ((gi (el (gr v3 0) (gi v7 0)) 1) == (gi (el (gr v3 0) (gi v5 0)) 1)) (iteB ((gi (el (gr v3 0) (gi v7 0)) 2) == (gi (el (gr v3 0) (gi v5 0)) 2)) (some (.nx [cb ((gi (el (gr v3 0) (gi v7 0)) 3) == (gi (el (gr v3 0) (gi v5 0)) 3))])) (some (.nx [cb false]))) (some (.nx [cb false]))) (some (.nx [cb false]))) fun v8 => iteB (gb v8 0) (some (.ret [cb false])) (some (.nx [ci (wr ((gi v7 0) + 1))]))) (some (.br 2 []))) [ci 0]) fun v7 => some (.nx [ci (wr ((gi v5 0) + 1))]))) (some (.br 0 []))) [ci 0]) fun v5 => blkO 4 (loopD (fun v6 => iteB (decide ((gi v6 1) ≤ 10)) (callO (M n_fine_Balance [CV.row 24 (gr v1 0), CV.row 9 (gr v1 1), CV.row 7 (gr v1 2), CV.row 1 (gr v2 0), ci (gi v6 1)]) fun v7 => iteB ((gi v7 1) != 0) (some (.ret [cb false])) (some (.nx [ci (wr ((gi v6 0) + (gi v7 0))), ci (wr ((gi v6 1) + 1))]))) (some (.br 4 [ci (gi v6 0)]))) [ci 0, ci 0]) fun v6 => seqO (iteB ((gi v6 0) != 0) (some (.nx [cb true])) (some (.nx [cb ((il (gr v2 0)) == 0)]))) fun v7 => iteB (gb v7 0) (iteB ((gi v6 0) == 0) (some (.ret [cb ((il (gr v3 0)) == 0)])) (some (.ret [cb false]))) (blkO 6 (loopD (fun v8 => iteB (decide ((gi v8 0) < (il (gr v1 1)))) (chk (inb (gi v8 0) (gr v1 1)) <| chk (oks (List.replicate 9 li) (el (gr v1 1) (gi v8 0)) 0) <| callO (M n_law06_settled (cat [[CV.row 24 (gr v1 0), CV.row 9 (gr v1 1), CV.row 7 (gr v1 2)], cis (el (gr v1 1) (gi v8 0)) 0 9, [CV.row 1 (gr v2 0), CV.val (Value.slice none 0 0), CV.row 5 (gr v3 0)]])) fun v9 => iteB (!(gb v9 0)) (some (.ret [cb false])) (some (.nx [ci (wr ((gi v8 0) + 1))]))) (some (.br 6 []))) [ci 0]) fun v8 => some (.ret [cb true])))
theorem q_law06_FinePaid (n : Nat) (a0_0 a0_1 a0_2 a1 : List (List CV)) : D (n + 1) n_law06_FinePaid [(.row 6 a0_0), (.row 7 a0_1), (.row 6 a0_2), (.row 1 a1)] = retO (R_law06_FinePaid (D n) a0_0 a0_1 a0_2 a1) := by kernel_rfl
def R_law06_sane (M : Den)  : Option Ou :=  callO (M n_law06_example []) fun v0 => callO (M n_fine_Lot [CV.row 24 (gr v0 0), CV.row 9 (gr v0 1), CV.row 7 (gr v0 2), ci 1, ci 14]) fun v1 => callO (M n_fine_Charged [CV.row 24 (gr v0 0), CV.row 9 (gr v0 1), CV.row 7 (gr v0 2), ci 1, ci 13]) fun v2 => callO (M n_fine_Lot [CV.row 24 (gr v0 0), CV.row 9 (gr v0 1), CV.row 7 (gr v0 2), ci 1, ci 20]) fun v3 => callO (M n_fine_Dues [CV.row 24 (gr v0 0), CV.row 9 (gr v0 1), CV.row 7 (gr v0 2), ci 1, ci 20]) fun v4 => callO (M n_fine_Posts ([CV.row 24 (gr v0 0), CV.row 9 (gr v0 1), CV.row 7 (gr v0 2), CV.row 1 (chunk 1 3 [ci 13, ci 14, ci 20])])) fun v5 => callO (M n_fine_Noted [CV.row 24 (gr v0 0), CV.row 9 (gr v0 1), CV.row 7 (gr v0 2), ci 4, ci 1, ci 3, ci 6, ci 18, ci 18, ci 0]) fun v6 => callO (M n_fine_Posts ([CV.row 24 (gr v6 0), CV.row 9 (gr v6 1), CV.row 7 (gr v6 2), CV.row 1 (chunk 1 2 [ci 15, ci 18])])) fun v7 => callO (M n_fine_Owed [CV.row 24 (gr v0 0), CV.row 9 (gr v0 1), CV.row 7 (gr v0 2), ci 3, ci 20]) fun v8 => callO (M n_fine_Lot [CV.row 24 (gr v0 0), CV.row 9 (gr v0 1), CV.val (Value.slice none 0 0), ci 1, ci 100]) fun v9 => seqO (iteB ((gi v1 4) == 0) (iteB ((gi v2 3) == 0) (iteB ((gi v3 4) == 0) (iteB ((gi v4 4) == 0) (iteB ((gi v5 1) == 0) (iteB ((gi v6 3) == 0) (iteB ((gi v7 1) == 0) (iteB ((gi v8 1) == 0) (some (.nx [cb ((gi v9 4) == 0)])) (some (.nx [cb false]))) (some (.nx [cb false]))) (some (.nx [cb false]))) (some (.nx [cb false]))) (some (.nx [cb false]))) (some (.nx [cb false]))) (some (.nx [cb false]))) (some (.nx [cb false]))) fun v10 => seqO (iteB (((gi v1 0) == 3) && (((gi v1 1) == 13) && (((gi v1 2) == 0) && (((gi v1 3) == (-1)) && true)))) (iteB (((gi v3 0) == 3) && (((gi v3 1) == 13) && (((gi v3 2) == 1) && (((gi v3 3) == 15) && true)))) (some (.nx [cb (((gi v9 0) == 0) && (((gi v9 1) == (-1)) && (((gi v9 2) == 2) && (((gi v9 3) == 59) && true))))])) (some (.nx [cb false]))) (some (.nx [cb false]))) fun v11 => seqO (iteB (((gi v2 0) == 12) && (((gi v2 1) == 40) && (((gi v2 2) == 16) && true))) (iteB (((gi v4 0) == 5) && (((gi v4 1) == 24) && (((gi v4 2) == 12) && (((gi v4 3) == 38) && true)))) (some (.nx [cb ((gi v8 0) == 74)])) (some (.nx [cb false]))) (some (.nx [cb false]))) fun v12 => callO (M n_r06_Same ([CV.row 5 (gr v5 0), CV.row 5 (chunk 5 3 [ci 14, ci 1, ci 5, ci 0, ci 38, ci 14, ci 1, ci 5, ci 1, ci 24, ci 14, ci 1, ci 5, ci 11, ci 12])])) fun v13 => iteB (gb v10 0) (iteB (gb v11 0) (iteB (gb v12 0) (iteB (gb v13 0) (iteB ((il (gr v7 0)) == 9) (chk (inb 3 (gr v7 0)) <| chk (oks (List.replicate 5 li) (List.getD (gr v7 0) 3 []) 0) <| some (.ret ([cb (((gi (List.getD (gr v7 0) 3 []) 0) == 18) && (((gi (List.getD (gr v7 0) 3 []) 1) == 1) && (((gi (List.getD (gr v7 0) 3 []) 2) == 5) && (((gi (List.getD (gr v7 0) 3 []) 3) == 0) && (((gi (List.getD (gr v7 0) 3 []) 4) == (-38)) && true)))))]))) (some (.ret [cb false]))) (some (.ret [cb false]))) (some (.ret [cb false]))) (some (.ret [cb false]))) (some (.ret [cb false]))
theorem q_law06_sane (n : Nat)  : D (n + 1) n_law06_sane [] = retO (R_law06_sane (D n) ) := by kernel_rfl
def R_fine_notes (M : Den) (a0_0 a0_1 a0_2 : List (List CV)) (a1_0 a1_1 a1_2 a1_3 a1_4 a1_5 a1_6 a1_7 a1_8 a2 : Int) : Option Ou :=  inlO (nilD a0_2 (some (.ret ([CV.row 7 []]))) (chk (fitA 0 (List.length a0_2) 56) <| some (.ret [CV.row 7 a0_2]))) fun v0 => inlO (callO (M n_slices_IndexFunc_Note ([CV.row 7 (gr v0 0), CV.fn n_fine_notes_c1 ([CV.ref [ci a2], CV.ref [ci a1_0, ci a1_1, ci a1_2, ci a1_3, ci a1_4, ci a1_5, ci a1_6, ci a1_7, ci a1_8]])])) fun v1 => iteB ((gi v1 0) == (-1)) (some (.ret [CV.row 7 (gr v0 0)])) (blkO 0 (loopD (fun v2 => iteB (decide ((gi v2 1) < (il (gr v2 2)))) (chk (inb (gi v2 1) (gr v2 2)) <| chk (decide ((Int.toNat (gi v2 1)) < (List.length (gr v2 2)))) <| chk (oks (List.replicate 7 li) (el (gr v2 2) (gi v2 1)) 0) <| callO (M n_fine_notes_c1 (cat [cis (el (gr v2 2) (gi v2 1)) 0 7, [CV.ref [ci a2], CV.ref [ci a1_0, ci a1_1, ci a1_2, ci a1_3, ci a1_4, ci a1_5, ci a1_6, ci a1_7, ci a1_8]]])) fun v3 => seqO (iteB (!(gb v3 0)) (chk (inb (gi v2 0) (gr v2 2)) <| chk ((decide ((Int.toNat (gi v2 0)) < (List.length (gr v2 2)))) && (decide (7 ≤ 7))) <| some (.nx [ci (wr ((gi v2 0) + 1)), CV.row 7 (List.set (gr v2 2) (Int.toNat (gi v2 0)) (spl (el (gr v2 2) (gi v2 0)) 0 (cis (el (gr v2 2) (gi v2 1)) 0 7)))])) (some (.nx [ci (gi v2 0), CV.row 7 (gr v2 2)]))) fun v4 => some (.nx [ci (gi v4 0), ci (wr ((gi v2 1) + 1)), CV.row 7 (gr v4 1)])) (some (.br 0 [ci (gi v2 0), CV.row 7 (gr v2 2)]))) [ci (gi v1 0), ci (wr ((gi v1 0) + 1)), CV.row 7 (gr v0 0)]) fun v2 => chk ((decide (0 ≤ (gi v2 0))) && (decide ((gi v2 0) ≤ (il (gr v2 1))))) <| chk ((decide (0 ≤ (gi v2 0))) && (decide ((gi v2 0) ≤ (il ((List.take (Int.toNat (gi v2 0)) (gr v2 1)) ++ (List.replicate ((List.length (gr v2 1)) - (Int.toNat (gi v2 0))) [ci 0, ci 0, ci 0, ci 0, ci 0, ci 0, ci 0])))))) <| some (.ret ([CV.row 7 (List.take (Int.toNat (gi v2 0)) ((List.take (Int.toNat (gi v2 0)) (gr v2 1)) ++ (List.replicate ((List.length (gr v2 1)) - (Int.toNat (gi v2 0))) [ci 0, ci 0, ci 0, ci 0, ci 0, ci 0, ci 0])))])))) fun v1 => some (.ret [CV.row 7 (gr v1 0)])
theorem q_fine_notes (n : Nat) (a0_0 a0_1 a0_2 : List (List CV)) (a1_0 a1_1 a1_2 a1_3 a1_4 a1_5 a1_6 a1_7 a1_8 a2 : Int) : D (n + 1) n_fine_notes [(.row 24 a0_0), (.row 9 a0_1), (.row 7 a0_2), (ci a1_0), (ci a1_1), (ci a1_2), (ci a1_3), (ci a1_4), (ci a1_5), (ci a1_6), (ci a1_7), (ci a1_8), (ci a2)] = retO (R_fine_notes (D n) a0_0 a0_1 a0_2 a1_0 a1_1 a1_2 a1_3 a1_4 a1_5 a1_6 a1_7 a1_8 a2) := by kernel_rfl
def R_fine_charge (M : Den) (a0_0 a0_1 a0_2 : List (List CV)) (a1_0 a1_1 a1_2 a1_3 a1_4 a1_5 a1_6 a1_7 a1_8 a2_0 a2_1 a2_2 a2_3 a3 : Int) : Option Ou :=  seqO (iteB (decide (a1_6 ≤ a3)) (callO (M n_fine_inForce [CV.row 24 a0_0, CV.row 9 a0_1, CV.row 7 a0_2, ci a1_6]) fun v0 => chk ((decide (0 ≤ a1_2)) && (decide (a1_2 < (Int.ofNat 10)))) <| chk (oks [li] (cis v0 0 24) (1 + ((Int.toNat a1_2) * 1))) <| some (.nx [ci (gi (cis v0 0 24) (1 + ((Int.toNat a1_2) * 1))), ci 0, ci 0])) (some (.nx [ci 0, ci 0, ci 0]))) fun v0 => callO (M n_fine_fed [ci a1_0, ci a1_1, ci a1_2, ci a1_3, ci a1_4, ci a1_5, ci a1_6, ci a1_7, ci a1_8, ci a2_0, ci a2_1, ci a2_2, ci a2_3, ci a3]) fun v1 => seqO (rangeO (itV sg M (List.getD v1 0 dC)) (fun x2 v2 => callO (M n_fine_inForce [CV.row 24 a0_0, CV.row 9 a0_1, CV.row 7 a0_2, ci x2]) fun v3 => callO (M n_fine_daily [CV.row 24 a0_0, CV.row 9 a0_1, CV.row 7 a0_2, ci a1_0, ci a1_1, ci a1_2, ci a1_3, ci a1_4, ci a1_5, ci a1_6, ci a1_7, ci a1_8, ci x2]) fun v4 => seqO (iteB (decide (a2_1 < 0)) (some (.nx [cb true])) (some (.nx [cb (decide (x2 < a2_1))]))) fun v5 => seqO (iteB (gb v5 0) (chk ((decide (0 ≤ a1_2)) && (decide (a1_2 < (Int.ofNat 10)))) <| chk (oks [li] (cis v3 0 24) (11 + ((Int.toNat a1_2) * 1))) <| some (.nx [ci (gi v2 0), ci (wr ((gi v2 1) + (gi v4 0))), ci (wr ((gi v2 2) + (gi (cis v3 0 24) (11 + ((Int.toNat a1_2) * 1)))))])) (some (.nx [ci (gi v2 0), ci (wr ((gi v2 1) + (gi v4 0))), ci (gi v2 2)]))) fun v6 => some (.nx [ci (gi v6 0), ci (gi v6 1), ci (gi v6 2)])) [ci (gi v0 0), ci (gi v0 1), ci (gi v0 2)]) fun v2 => some (.ret [ci (gi v2 0), ci (gi v2 1), ci (gi v2 2)])
theorem q_fine_charge (n : Nat) (a0_0 a0_1 a0_2 : List (List CV)) (a1_0 a1_1 a1_2 a1_3 a1_4 a1_5 a1_6 a1_7 a1_8 a2_0 a2_1 a2_2 a2_3 a3 : Int) : D (n + 1) n_fine_charge [(.row 24 a0_0), (.row 9 a0_1), (.row 7 a0_2), (ci a1_0), (ci a1_1), (ci a1_2), (ci a1_3), (ci a1_4), (ci a1_5), (ci a1_6), (ci a1_7), (ci a1_8), (ci a2_0), (ci a2_1), (ci a2_2), (ci a2_3), (ci a3)] = retO (R_fine_charge (D n) a0_0 a0_1 a0_2 a1_0 a1_1 a1_2 a1_3 a1_4 a1_5 a1_6 a1_7 a1_8 a2_0 a2_1 a2_2 a2_3 a3) := by kernel_rfl
def R_fine_Noted (M : Den) (a0_0 a0_1 a0_2 : List (List CV)) (a1_0 a1_1 a1_2 a1_3 a1_4 a1_5 a1_6 : Int) : Option Ou :=  callO (M n_fine_Check [CV.row 24 a0_0, CV.row 9 a0_1, CV.row 7 a0_2]) fun v0 => iteB ((gi v0 0) != 0) (some (.ret ([CV.row 24 [], CV.row 9 [], CV.row 7 [], ci (gi v0 0)]))) (callO (M n_slices_BinarySearchFunc_Note ([CV.row 7 a0_2, ci a1_0, ci a1_1, ci a1_2, ci a1_3, ci a1_4, ci a1_5, ci a1_6, CV.fn n_fine_Noted_c1 []])) fun v1 => seqO (callO (M n_fine_CheckNote [ci a1_0, ci a1_1, ci a1_2, ci a1_3, ci a1_4, ci a1_5, ci a1_6]) fun v2 => iteB ((gi v2 0) != 0) (some (.nx [cb true])) (some (.nx [cb (gb v1 1)]))) fun v2 => iteB (gb v2 0) (some (.ret ([CV.row 24 [], CV.row 9 [], CV.row 7 [], ci 62]))) (iteB ((il a0_2) == 60) (some (.ret ([CV.row 24 [], CV.row 9 [], CV.row 7 [], ci 2]))) (callO (M n_slices_Clone_Tariff [CV.row 24 a0_0]) fun v3 => callO (M n_slices_Clone_Held [CV.row 9 a0_1]) fun v4 => callO (M n_slices_Clone_Note [CV.row 7 a0_2]) fun v5 => chk (ownR 7 34 v5) <| callO (M n_slices_Insert_Note []) fun v6 => chk (insR 7 34 56 v6) <| chk ((decide (0 ≤ (gi v1 0))) && ((decide ((gi v1 0) ≤ (il (gr v5 0)))) && (fitA (List.length (gr v5 0)) 1 56))) <| some (.ret ([CV.row 24 (gr v3 0), CV.row 9 (gr v4 0), CV.row 7 ((List.take (Int.toNat (gi v1 0)) (gr v5 0)) ++ ([ci a1_0, ci a1_1, ci a1_2, ci a1_3, ci a1_4, ci a1_5, ci a1_6] :: (List.drop (Int.toNat (gi v1 0)) (gr v5 0)))), ci 0])))))
theorem q_fine_Noted (n : Nat) (a0_0 a0_1 a0_2 : List (List CV)) (a1_0 a1_1 a1_2 a1_3 a1_4 a1_5 a1_6 : Int) : D (n + 1) n_fine_Noted [(.row 24 a0_0), (.row 9 a0_1), (.row 7 a0_2), (ci a1_0), (ci a1_1), (ci a1_2), (ci a1_3), (ci a1_4), (ci a1_5), (ci a1_6)] = retO (R_fine_Noted (D n) a0_0 a0_1 a0_2 a1_0 a1_1 a1_2 a1_3 a1_4 a1_5 a1_6) := by kernel_rfl
def R_fine_areRising_Tariff (M : Den) (a0 : List (List CV)) (a1 : Int) (a2 a3 : CV) : Option Ou :=  blkO 0 (loopD (fun v0 => iteB (decide ((gi v0 0) < (il a0))) (chk (inb (gi v0 0) a0) <| chk (oks (List.replicate 24 li) (el a0 (gi v0 0)) 0) <| seqO (callO (callV sg M a2 (cis (el a0 (gi v0 0)) 0 24) [.agg (List.replicate 24 li)] [.one li]) fun v1 => iteB ((gi v1 0) != 0) (some (.nx [cb true])) (iteB (decide ((gi v0 0) > 0)) (chk (inb (wr ((gi v0 0) - 1)) a0) <| chk (oks (List.replicate 24 li) (el a0 (wr ((gi v0 0) - 1))) 0) <| callO (callV sg M a3 (cis (el a0 (wr ((gi v0 0) - 1))) 0 24) [.agg (List.replicate 24 li)] [.one li]) fun v2 => callO (callV sg M a3 (cis (el a0 (gi v0 0)) 0 24) [.agg (List.replicate 24 li)] [.one li]) fun v3 => some (.nx [cb (decide ((gi v2 0) ≥ (gi v3 0)))])) (some (.nx [cb false])))) fun v1 => iteB (gb v1 0) (some (.ret [cb false])) (some (.nx [ci (wr ((gi v0 0) + 1))]))) (some (.br 0 []))) [ci 0]) fun v0 => some (.ret [cb (decide ((il a0) ≤ a1))])
theorem q_fine_areRising_Tariff (n : Nat) (a0 : List (List CV)) (a1 : Int) (a2 a3 : CV) : D (n + 1) n_fine_areRising_Tariff [(.row 24 a0), (ci a1), a2, a3] = retO (R_fine_areRising_Tariff (D n) a0 a1 a2 a3) := by kernel_rfl
def R_fine_Balance (M : Den) (a0_0 a0_1 a0_2 a1 : List (List CV)) (a2 : Int) : Option Ou :=  callO (M n_fine_Posts [CV.row 24 a0_0, CV.row 9 a0_1, CV.row 7 a0_2, CV.row 1 a1]) fun v0 => iteB ((gi v0 1) != 0) (some (.ret [ci 0, ci (gi v0 1)])) (callO (M n_fine_within [ci a2, ci 0, ci 101]) fun v1 => iteB (!(gb v1 0)) (some (.ret [ci 0, ci 68])) (blkO 0 (loopD (fun v2 => iteB (decide ((gi v2 1) < (il (gr v0 0)))) (chk (inb (gi v2 1) (gr v0 0)) <| chk (oks (List.replicate 5 li) (el (gr v0 0) (gi v2 1)) 0) <| seqO (iteB ((gi (el (gr v0 0) (gi v2 1)) 3) == a2) (some (.nx [ci (wr ((gi v2 0) + (gi (el (gr v0 0) (gi v2 1)) 4)))])) (some (.nx [ci (gi v2 0)]))) fun v3 => seqO (iteB ((gi (el (gr v0 0) (gi v2 1)) 2) == a2) (some (.nx [ci (wr ((gi v3 0) - (gi (el (gr v0 0) (gi v2 1)) 4)))])) (some (.nx [ci (gi v3 0)]))) fun v4 => some (.nx [ci (gi v4 0), ci (wr ((gi v2 1) + 1))])) (some (.br 0 [ci (gi v2 0)]))) [ci 0, ci 0]) fun v2 => some (.ret [ci (gi v2 0), ci 0])))
theorem q_fine_Balance (n : Nat) (a0_0 a0_1 a0_2 a1 : List (List CV)) (a2 : Int) : D (n + 1) n_fine_Balance [(.row 24 a0_0), (.row 9 a0_1), (.row 7 a0_2), (.row 1 a1), (ci a2)] = retO (R_fine_Balance (D n) a0_0 a0_1 a0_2 a1 a2) := by kernel_rfl
def R_fine_CheckHeld (M : Den) (a0_0 a0_1 a0_2 a0_3 a0_4 a0_5 a0_6 a0_7 a0_8 : Int) : Option Ou :=  seqO (callO (M n_fine_within [ci a0_0, ci 1, ci 99999]) fun v0 => iteB (!(gb v0 0)) (some (.nx [cb true])) (callO (M n_fine_within [ci a0_1, ci 1, ci 9999]) fun v1 => iteB (!(gb v1 0)) (some (.nx [cb true])) (callO (M n_fine_within [ci a0_2, ci 1, ci 9]) fun v2 => iteB (!(gb v2 0)) (some (.nx [cb true])) (callO (M n_fine_within [ci a0_3, ci 0, ci 100]) fun v3 => iteB (!(gb v3 0)) (some (.nx [cb true])) (callO (M n_fine_within [ci a0_4, ci 0, ci 100000]) fun v4 => iteB (!(gb v4 0)) (some (.nx [cb true])) (callO (M n_fine_within [ci a0_5, ci 0, ci 99]) fun v5 => iteB (!(gb v5 0)) (some (.nx [cb true])) (callO (M n_fine_areTimes [ci a0_6, ci a0_7, ci a0_8]) fun v6 => some (.nx [cb (!(gb v6 0))])))))))) fun v0 => iteB (gb v0 0) (some (.ret [ci 61])) (some (.ret [ci 0]))
theorem q_fine_CheckHeld (n : Nat) (a0_0 a0_1 a0_2 a0_3 a0_4 a0_5 a0_6 a0_7 a0_8 : Int) : D (n + 1) n_fine_CheckHeld [(ci a0_0), (ci a0_1), (ci a0_2), (ci a0_3), (ci a0_4), (ci a0_5), (ci a0_6), (ci a0_7), (ci a0_8)] = retO (R_fine_CheckHeld (D n) a0_0 a0_1 a0_2 a0_3 a0_4 a0_5 a0_6 a0_7 a0_8) := by kernel_rfl
def R_slices_Equal_Posting (M : Den) (a0 a1 : List (List CV)) : Option Ou :=  iteB ((il a0) != (il a1)) (some (.ret [cb false])) (blkO 0 (loopD (fun v0 => iteB (decide ((gi v0 0) < (il a0))) (chk (inb (gi v0 0) a0) <| chk (oks (List.replicate 5 li) (el a0 (gi v0 0)) 0) <| chk (inb (gi v0 0) a1) <| chk (oks (List.replicate 5 li) (el a1 (gi v0 0)) 0) <| iteB (!(((gi (el a0 (gi v0 0)) 0) == (gi (el a1 (gi v0 0)) 0)) && (((gi (el a0 (gi v0 0)) 1) == (gi (el a1 (gi v0 0)) 1)) && (((gi (el a0 (gi v0 0)) 2) == (gi (el a1 (gi v0 0)) 2)) && (((gi (el a0 (gi v0 0)) 3) == (gi (el a1 (gi v0 0)) 3)) && (((gi (el a0 (gi v0 0)) 4) == (gi (el a1 (gi v0 0)) 4)) && true)))))) (some (.ret [cb false])) (some (.nx [ci (wr ((gi v0 0) + 1))]))) (some (.br 0 []))) [ci 0]) fun v0 => some (.ret [cb true]))
theorem q_slices_Equal_Posting (n : Nat) (a0 a1 : List (List CV)) : D (n + 1) n_slices_Equal_Posting [(.row 5 a0), (.row 5 a1)] = retO (R_slices_Equal_Posting (D n) a0 a1) := by kernel_rfl
def R_law06_days (M : Den) (a0 : List (List CV)) : Option Ou :=  blkO 0 (loopD (fun v0 => seqO (iteB (decide ((gi v0 1) < (il a0))) (some (.nx [cb (decide ((gi v0 1) < 6))])) (some (.nx [cb false]))) fun v1 => iteB (gb v1 0) (chk (inb (gi v0 1) a0) <| chk (oks [li] (el a0 (gi v0 1)) 0) <| callO (M n_r06_Mod [ci (gi (el a0 (gi v0 1)) 0), ci 200]) fun v2 => chk (fitA (List.length (gr v0 2)) 1 8) <| some (.nx ([ci (wr ((wr ((gi v0 0) + 1)) + (gi v2 0))), ci (wr ((gi v0 1) + 1)), CV.row 1 ((gr v0 2) ++ (chunk 1 1 [ci (wr ((wr ((gi v0 0) + 1)) + (gi v2 0)))]))]))) (some (.br 0 [CV.row 1 (gr v0 2)]))) ([ci 0, ci 0, CV.row 1 []])) fun v0 => some (.ret [CV.row 1 (gr v0 0)])
theorem q_law06_days (n : Nat) (a0 : List (List CV)) : D (n + 1) n_law06_days [(.row 1 a0)] = retO (R_law06_days (D n) a0) := by kernel_rfl
def R_slices_IndexFunc_Held (M : Den) (a0 : List (List CV)) (a1 : CV) : Option Ou :=  blkO 0 (loopD (fun v0 => iteB (decide ((gi v0 0) < (il a0))) (chk (inb (gi v0 0) a0) <| chk (oks (List.replicate 9 li) (el a0 (gi v0 0)) 0) <| callO (callV sg M a1 (cis (el a0 (gi v0 0)) 0 9) [.agg (List.replicate 9 li)] [.one lb]) fun v1 => iteB (gb v1 0) (some (.ret [ci (gi v0 0)])) (some (.nx [ci (wr ((gi v0 0) + 1))]))) (some (.br 0 []))) [ci 0]) fun v0 => some (.ret [ci (-1)])
theorem q_slices_IndexFunc_Held (n : Nat) (a0 : List (List CV)) (a1 : CV) : D (n + 1) n_slices_IndexFunc_Held [(.row 9 a0), a1] = retO (R_slices_IndexFunc_Held (D n) a0 a1) := by kernel_rfl
def R_fine_notes_c1 (M : Den) (a0_0 a0_1 a0_2 a0_3 a0_4 a0_5 a0_6 : Int) (a1 a2 : List CV) : Option Ou :=  chk (oks [li] a1 0) <| callO (M n_fine_counts [ci a0_5, ci a0_6, ci (gi a1 0)]) fun v0 => iteB (!(gb v0 0)) (some (.ret [cb true])) (chk (oks [li] (List.drop 0 a2) 0) <| iteB (a0_1 != (gi (List.drop 0 a2) 0)) (some (.ret [cb true])) (chk (oks [li] (List.drop 6 a2) 0) <| chk (oks [li] a1 0) <| callO (M n_fine_within [ci a0_4, ci (gi (List.drop 6 a2) 0), ci (gi a1 0)]) fun v1 => some (.ret [cb (!(gb v1 0))])))
theorem q_fine_notes_c1 (n : Nat) (a0_0 a0_1 a0_2 a0_3 a0_4 a0_5 a0_6 : Int) (a1 a2 : List CV) : D (n + 1) n_fine_notes_c1 [(ci a0_0), (ci a0_1), (ci a0_2), (ci a0_3), (ci a0_4), (ci a0_5), (ci a0_6), (.ref a1), (.ref a2)] = retO (R_fine_notes_c1 (D n) a0_0 a0_1 a0_2 a0_3 a0_4 a0_5 a0_6 a1 a2) := by kernel_rfl
def R_cmp_Compare_int (M : Den) (a0 a1 : Int) : Option Ou :=  callO (M n_cmp_isNaN_int [ci a0]) fun v0 => callO (M n_cmp_isNaN_int [ci a1]) fun v1 => iteB (gb v0 0) (iteB (gb v1 0) (some (.ret [ci 0])) (some (.ret [ci (-1)]))) (iteB (gb v1 0) (some (.ret [ci 1])) (iteB (decide (a0 < a1)) (some (.ret [ci (-1)])) (iteB (decide (a0 > a1)) (some (.ret [ci 1])) (some (.ret [ci 0])))))
theorem q_cmp_Compare_int (n : Nat) (a0 a1 : Int) : D (n + 1) n_cmp_Compare_int [(ci a0), (ci a1)] = retO (R_cmp_Compare_int (D n) a0 a1) := by kernel_rfl
def R_r06_Has (M : Den) (a0 : List (List CV)) (a1 : Int) : Option Ou :=  blkO 0 (loopD (fun v0 => iteB (decide ((gi v0 0) < (il a0))) (chk (inb (gi v0 0) a0) <| chk (oks [li] (el a0 (gi v0 0)) 0) <| iteB ((gi (el a0 (gi v0 0)) 0) == a1) (some (.ret [cb true])) (some (.nx [ci (wr ((gi v0 0) + 1))]))) (some (.br 0 []))) [ci 0]) fun v0 => some (.ret [cb false])
theorem q_r06_Has (n : Nat) (a0 : List (List CV)) (a1 : Int) : D (n + 1) n_r06_Has [(.row 1 a0), (ci a1)] = retO (R_r06_Has (D n) a0 a1) := by kernel_rfl
def R_fine_Lot (M : Den) (a0_0 a0_1 a0_2 : List (List CV)) (a1 a2 : Int) : Option Ou :=  callO (M n_fine_stayOf [CV.row 24 a0_0, CV.row 9 a0_1, CV.row 7 a0_2, ci a1, ci a2]) fun v0 => iteB ((gi v0 9) != 0) (some (.ret [ci 0, ci 0, ci 0, ci 0, ci (gi v0 9)])) (callO (M n_fine_lot (cat [[CV.row 24 a0_0, CV.row 9 a0_1, CV.row 7 a0_2], cis v0 0 9, [ci a2]])) fun v1 => some (.ret (cat [cis v1 0 4, [ci 0]])))
theorem q_fine_Lot (n : Nat) (a0_0 a0_1 a0_2 : List (List CV)) (a1 a2 : Int) : D (n + 1) n_fine_Lot [(.row 24 a0_0), (.row 9 a0_1), (.row 7 a0_2), (ci a1), (ci a2)] = retO (R_fine_Lot (D n) a0_0 a0_1 a0_2 a1 a2) := by kernel_rfl
def R_fine_check (M : Den) (a0_0 a0_1 a0_2 a1 : List (List CV)) : Option Ou :=  callO (M n_fine_Check [CV.row 24 a0_0, CV.row 9 a0_1, CV.row 7 a0_2]) fun v0 => iteB ((gi v0 0) != 0) (some (.ret [ci (gi v0 0)])) (callO (M n_slices_ContainsFunc_int ([CV.row 1 a1, CV.fn n_fine_check_c1 []])) fun v1 => iteB (gb v1 0) (some (.ret [ci 6])) (some (.ret [ci 0])))
theorem q_fine_check (n : Nat) (a0_0 a0_1 a0_2 a1 : List (List CV)) : D (n + 1) n_fine_check [(.row 24 a0_0), (.row 9 a0_1), (.row 7 a0_2), (.row 1 a1)] = retO (R_fine_check (D n) a0_0 a0_1 a0_2 a1) := by kernel_rfl
def R_fine_counts (M : Den) (a0 a1 a2 : Int) : Option Ou :=  iteB (decide (a0 ≤ a2)) (iteB (a1 == 0) (some (.ret [cb true])) (some (.ret [cb (decide (a1 > a2))]))) (some (.ret [cb false]))
theorem q_fine_counts (n : Nat) (a0 a1 a2 : Int) : D (n + 1) n_fine_counts [(ci a0), (ci a1), (ci a2)] = retO (R_fine_counts (D n) a0 a1 a2) := by kernel_rfl
def R_slices_Clone_Held (M : Den) (a0 : List (List CV)) : Option Ou :=  nilD a0 (some (.ret ([CV.row 9 []]))) (chk (fitA 0 (List.length a0) 72) <| some (.ret [CV.row 9 a0]))
theorem q_slices_Clone_Held (n : Nat) (a0 : List (List CV)) : D (n + 1) n_slices_Clone_Held [(.row 9 a0)] = retO (R_slices_Clone_Held (D n) a0) := by kernel_rfl
def R_r06_Mod (M : Den) (a0 a1 : Int) : Option Ou :=  chk (a1 != 0) <| chk (a1 != 0) <| some (.ret [ci (Int.tmod (wr ((Int.tmod a0 a1) + a1)) a1)])
theorem q_r06_Mod (n : Nat) (a0 a1 : Int) : D (n + 1) n_r06_Mod [(ci a0), (ci a1)] = retO (R_r06_Mod (D n) a0 a1) := by kernel_rfl
def R_slices_ContainsFunc_int (M : Den) (a0 : List (List CV)) (a1 : CV) : Option Ou :=  callO (M n_slices_IndexFunc_int [CV.row 1 a0, a1]) fun v0 => some (.ret [cb (decide ((gi v0 0) ≥ 0))])
theorem q_slices_ContainsFunc_int (n : Nat) (a0 : List (List CV)) (a1 : CV) : D (n + 1) n_slices_ContainsFunc_int [(.row 1 a0), a1] = retO (R_slices_ContainsFunc_int (D n) a0 a1) := by kernel_rfl
def R_fine_check_c1 (M : Den) (a0 : Int) : Option Ou :=  callO (M n_fine_isDay [ci a0]) fun v0 => some (.ret [cb (!(gb v0 0))])
theorem q_fine_check_c1 (n : Nat) (a0 : Int) : D (n + 1) n_fine_check_c1 [(ci a0)] = retO (R_fine_check_c1 (D n) a0) := by kernel_rfl
def R_cmp_isNaN_int (M : Den) (a0 : Int) : Option Ou :=  some (.ret [cb (a0 != a0)])
theorem q_cmp_isNaN_int (n : Nat) (a0 : Int) : D (n + 1) n_cmp_isNaN_int [(ci a0)] = retO (R_cmp_isNaN_int (D n) a0) := by kernel_rfl
def R_fine_heldOf (M : Den) (a0_0 a0_1 a0_2 a0_3 a0_4 a0_5 a0_6 a0_7 a0_8 : Int) : Option Ou :=  some (.ret [ci a0_0])
theorem q_fine_heldOf (n : Nat) (a0_0 a0_1 a0_2 a0_3 a0_4 a0_5 a0_6 a0_7 a0_8 : Int) : D (n + 1) n_fine_heldOf [(ci a0_0), (ci a0_1), (ci a0_2), (ci a0_3), (ci a0_4), (ci a0_5), (ci a0_6), (ci a0_7), (ci a0_8)] = retO (R_fine_heldOf (D n) a0_0 a0_1 a0_2 a0_3 a0_4 a0_5 a0_6 a0_7 a0_8) := by kernel_rfl
end
end Go.Proofs.Ytabhbdehbpmpkaa
namespace Go.Proofs.Ytabhbdehbpmpkaa
open Go Go.Sx
set_option maxRecDepth 100000
set_option maxHeartbeats 0
noncomputable section
def R_fine_lot (M : Den) (a0_0 a0_1 a0_2 : List (List CV)) (a1_0 a1_1 a1_2 a1_3 a1_4 a1_5 a1_6 a1_7 a1_8 a2 : Int) : Option Ou :=  callO (M n_fine_notes [CV.row 24 a0_0, CV.row 9 a0_1, CV.row 7 a0_2, ci a1_0, ci a1_1, ci a1_2, ci a1_3, ci a1_4, ci a1_5, ci a1_6, ci a1_7, ci a1_8, ci a2]) fun v0 => callO (M n_fine_whose [CV.row 7 (gr v0 0)]) fun v1 => blkO 0 (loopD (fun v2 => iteB (decide ((gi v2 0) < 5)) (chk ((decide (0 ≤ (gi v2 0))) && (decide ((gi v2 0) < (Int.ofNat 5)))) <| chk (oks [li] (cis v2 1 5) (0 + ((Int.toNat (gi v2 0)) * 1))) <| some (.nx [ci (wr ((gi v2 0) + 1)), ci (if (decide (0 = (0 + ((Int.toNat (gi v2 0)) * 1)))) = true then (-1) else gi v2 1), ci (if (decide (1 = (0 + ((Int.toNat (gi v2 0)) * 1)))) = true then (-1) else gi v2 2), ci (if (decide (2 = (0 + ((Int.toNat (gi v2 0)) * 1)))) = true then (-1) else gi v2 3), ci (if (decide (3 = (0 + ((Int.toNat (gi v2 0)) * 1)))) = true then (-1) else gi v2 4), ci (if (decide (4 = (0 + ((Int.toNat (gi v2 0)) * 1)))) = true then (-1) else gi v2 5)])) (some (.br 0 (cis v2 1 5)))) [ci 0, ci 0, ci 0, ci 0, ci 0, ci 0]) fun v2 => blkO 2 (loopD (fun v3 => iteB (decide ((gi v3 0) < (il (gr v0 0)))) (chk (inb (gi v3 0) (gr v0 0)) <| chk (oks (List.replicate 7 li) (el (gr v0 0) (gi v3 0)) 0) <| seqO (iteB ((gi (el (gr v0 0) (gi v3 0)) 2) == 2) (iteB (decide ((gi v3 2) < 0)) (some (.nx [cb true])) (some (.nx [cb (decide ((gi (el (gr v0 0) (gi v3 0)) 4) < (gi v3 2)))]))) (some (.nx [cb false]))) fun v4 => seqO (iteB (gb v4 0) (some (.nx [ci (gi v3 1), ci (gi (el (gr v0 0) (gi v3 0)) 4), ci (gi v3 3), ci (gi v3 4), ci (gi v3 5)])) (some (.nx (cis v3 1 5)))) fun v5 => some (.nx (cat [[ci (wr ((gi v3 0) + 1))], cis v5 0 5]))) (some (.br 2 (cis v3 1 5)))) (cat [[ci 0], cis v2 0 5])) fun v3 => callO (M n_fine_sold [CV.row 24 a0_0, CV.row 9 a0_1, CV.row 7 a0_2, ci a1_0, ci a1_1, ci a1_2, ci a1_3, ci a1_4, ci a1_5, ci a1_6, ci a1_7, ci a1_8, ci a2]) fun v4 => seqO (iteB (decide ((gi v1 1) < 0)) (some (.nx [cb true])) (some (.nx [cb (decide ((gi v1 1) > (wr (a1_6 + 360))))]))) fun v5 => seqO (iteB (gb v5 0) (some (.nx [ci (gi v3 0), ci (gi v3 1), ci (gi v4 0), ci (wr ((wr (a1_6 + 360)) + 1)), ci (gi v3 4)])) (some (.nx [ci (gi v3 0), ci (gi v3 1), ci (gi v4 0), ci (gi v3 3), ci (gi v3 4)]))) fun v6 => blkO 4 (loopD (fun v7 => iteB (decide ((gi v7 0) < 5)) (blkO 5 (chk (((decide (0 ≤ (gi v7 0))) && (decide ((gi v7 0) < (Int.ofNat 5)))) && (oks [li] (cat [cis v6 0 4, [ci (wr (a1_6 + 720))]]) (Int.toNat (gi v7 0)))) <| seqO (iteB (decide ((gi (cat [cis v6 0 4, [ci (wr (a1_6 + 720))]]) (Int.toNat (gi v7 0))) < 0)) (some (.nx [cb true])) (some (.nx ([cb (decide ((gi (cat [cis v6 0 4, [ci (wr (a1_6 + 720))]]) (Int.toNat (gi v7 0))) > a2))])))) fun v8 => iteB (gb v8 0) (some (.br 5 (cis v7 1 4))) (seqO (iteB (decide ((gi v7 4) < 0)) (some (.nx [cb true])) (some (.nx ([cb (decide ((gi (cat [cis v6 0 4, [ci (wr (a1_6 + 720))]]) (Int.toNat (gi v7 0))) < (gi v7 4)))])))) fun v9 => seqO (iteB (gb v9 0) (some (.nx ([ci (gi v7 1), ci (gi v7 2), ci (gi v7 0), ci (gi (cat [cis v6 0 4, [ci (wr (a1_6 + 720))]]) (Int.toNat (gi v7 0)))]))) (some (.nx (cis v7 1 4)))) fun v10 => some (.br 5 (cis v10 0 4)))) fun v8 => some (.nx (cat [[ci (wr ((gi v7 0) + 1))], cis v8 0 4]))) (some (.br 4 (cis v7 1 4)))) [ci 0, ci (gi v1 0), ci (gi v1 1), ci 0, ci (-1)]) fun v7 => some (.ret (cis v7 0 4))
theorem q_fine_lot (n : Nat) (a0_0 a0_1 a0_2 : List (List CV)) (a1_0 a1_1 a1_2 a1_3 a1_4 a1_5 a1_6 a1_7 a1_8 a2 : Int) : D (n + 1) n_fine_lot [(.row 24 a0_0), (.row 9 a0_1), (.row 7 a0_2), (ci a1_0), (ci a1_1), (ci a1_2), (ci a1_3), (ci a1_4), (ci a1_5), (ci a1_6), (ci a1_7), (ci a1_8), (ci a2)] = retO (R_fine_lot (D n) a0_0 a0_1 a0_2 a1_0 a1_1 a1_2 a1_3 a1_4 a1_5 a1_6 a1_7 a1_8 a2) := by kernel_rfl
def R_law06_settled (M : Den) (a0_0 a0_1 a0_2 : List (List CV)) (a1_0 a1_1 a1_2 a1_3 a1_4 a1_5 a1_6 a1_7 a1_8 : Int) (a2_0 a2_1 a3 : List (List CV)) : Option Ou :=  chk (inb (wr ((il a2_0) - 1)) a2_0) <| chk (oks [li] (el a2_0 (wr ((il a2_0) - 1))) 0) <| callO (M n_fine_Dues [CV.row 24 a0_0, CV.row 9 a0_1, CV.row 7 a0_2, ci a1_0, ci (gi (el a2_0 (wr ((il a2_0) - 1))) 0)]) fun v0 => seqO (iteB ((gi v0 4) == 65) (some (.nx [ci (-1), ci 0, ci 0, ci 0])) (iteB ((gi v0 4) != 0) (some (.ret [cb false])) (some (.nx (cis v0 0 4))))) fun v1 => blkO 0 (loopD (fun v2 => iteB (decide ((gi v2 0) ≤ 7)) (blkO 2 (loopD (fun v3 => iteB (decide ((gi v3 0) < (il a3))) (blkO 3 (chk (inb (gi v3 0) a3) <| chk (oks (List.replicate 5 li) (el a3 (gi v3 0)) 0) <| seqO (iteB ((gi (el a3 (gi v3 0)) 1) != a1_0) (some (.nx [cb true])) (some (.nx [cb ((gi (el a3 (gi v3 0)) 2) != (gi v2 0))]))) fun v4 => iteB (gb v4 0) (some (.br 3 [ci (gi v3 1), ci (gi v3 2), ci (gi v3 3)])) (seqO (iteB ((gi (el a3 (gi v3 0)) 3) == 0) (some (.nx [ci (wr ((gi v3 1) + (gi (el a3 (gi v3 0)) 4))), ci (gi v3 2), ci (gi v3 3)])) (seqO (iteB ((gi (el a3 (gi v3 0)) 3) == 1) (some (.nx [ci (gi v3 1), ci (wr ((gi v3 2) + (gi (el a3 (gi v3 0)) 4))), ci (gi v3 3)])) (iteB ((gi (el a3 (gi v3 0)) 3) == (wr (2 + a1_5))) (some (.nx [ci (gi v3 1), ci (gi v3 2), ci (wr ((gi v3 3) + (gi (el a3 (gi v3 0)) 4)))])) (some (.ret [cb false])))) fun v5 => some (.nx [ci (gi v5 0), ci (gi v5 1), ci (gi v5 2)]))) fun v5 => some (.br 3 [ci (gi v5 0), ci (gi v5 1), ci (gi v5 2)]))) fun v4 => some (.nx [ci (wr ((gi v3 0) + 1)), ci (gi v4 0), ci (gi v4 1), ci (gi v4 2)])) (some (.br 2 [ci (gi v3 1), ci (gi v3 2), ci (gi v3 3)]))) [ci 0, ci 0, ci 0, ci 0]) fun v3 => seqO (iteB ((gi v1 0) == (gi v2 0)) (some (.nx [ci (gi v1 3), ci (gi v1 1), ci (gi v1 2)])) (some (.nx [ci 0, ci 0, ci 0]))) fun v4 => seqO (iteB ((gi v2 0) == (wr (2 + a1_5))) (some (.nx [ci (gi v4 0), ci (gi v4 1), ci 0])) (some (.nx [ci (gi v4 0), ci (gi v4 1), ci (gi v4 2)]))) fun v5 => iteB (!(((gi v3 0) == (gi v5 0)) && (((gi v3 1) == (gi v5 1)) && (((gi v3 2) == (gi v5 2)) && true)))) (some (.ret [cb false])) (some (.nx [ci (wr ((gi v2 0) + 1))]))) (some (.br 0 []))) [ci 2]) fun v2 => some (.ret [cb true])
theorem q_law06_settled (n : Nat) (a0_0 a0_1 a0_2 : List (List CV)) (a1_0 a1_1 a1_2 a1_3 a1_4 a1_5 a1_6 a1_7 a1_8 : Int) (a2_0 a2_1 a3 : List (List CV)) : D (n + 1) n_law06_settled [(.row 24 a0_0), (.row 9 a0_1), (.row 7 a0_2), (ci a1_0), (ci a1_1), (ci a1_2), (ci a1_3), (ci a1_4), (ci a1_5), (ci a1_6), (ci a1_7), (ci a1_8), (.row 1 a2_0), (.row 1 a2_1), (.row 5 a3)] = retO (R_law06_settled (D n) a0_0 a0_1 a0_2 a1_0 a1_1 a1_2 a1_3 a1_4 a1_5 a1_6 a1_7 a1_8 a2_0 a2_1 a3) := by kernel_rfl
def R_fine_stays (M : Den) (a0_0 a0_1 a0_2 : List (List CV)) (a1 : Int) : Option Ou :=  inlO (nilD a0_1 (some (.ret ([CV.row 9 []]))) (chk (fitA 0 (List.length a0_1) 72) <| some (.ret [CV.row 9 a0_1]))) fun v0 => inlO (callO (M n_slices_IndexFunc_Held ([CV.row 9 (gr v0 0), CV.fn n_fine_stays_c1 ([CV.ref [ci a1]])])) fun v1 => iteB ((gi v1 0) == (-1)) (some (.ret [CV.row 9 (gr v0 0)])) (blkO 0 (loopD (fun v2 => iteB (decide ((gi v2 1) < (il (gr v2 2)))) (chk (inb (gi v2 1) (gr v2 2)) <| chk (decide ((Int.toNat (gi v2 1)) < (List.length (gr v2 2)))) <| chk (oks (List.replicate 9 li) (el (gr v2 2) (gi v2 1)) 0) <| callO (M n_fine_stays_c1 (cat [cis (el (gr v2 2) (gi v2 1)) 0 9, [CV.ref [ci a1]]])) fun v3 => seqO (iteB (!(gb v3 0)) (chk (inb (gi v2 0) (gr v2 2)) <| chk ((decide ((Int.toNat (gi v2 0)) < (List.length (gr v2 2)))) && (decide (9 ≤ 9))) <| some (.nx [ci (wr ((gi v2 0) + 1)), CV.row 9 (List.set (gr v2 2) (Int.toNat (gi v2 0)) (spl (el (gr v2 2) (gi v2 0)) 0 (cis (el (gr v2 2) (gi v2 1)) 0 9)))])) (some (.nx [ci (gi v2 0), CV.row 9 (gr v2 2)]))) fun v4 => some (.nx [ci (gi v4 0), ci (wr ((gi v2 1) + 1)), CV.row 9 (gr v4 1)])) (some (.br 0 [ci (gi v2 0), CV.row 9 (gr v2 2)]))) [ci (gi v1 0), ci (wr ((gi v1 0) + 1)), CV.row 9 (gr v0 0)]) fun v2 => chk ((decide (0 ≤ (gi v2 0))) && (decide ((gi v2 0) ≤ (il (gr v2 1))))) <| chk ((decide (0 ≤ (gi v2 0))) && (decide ((gi v2 0) ≤ (il ((List.take (Int.toNat (gi v2 0)) (gr v2 1)) ++ (List.replicate ((List.length (gr v2 1)) - (Int.toNat (gi v2 0))) [ci 0, ci 0, ci 0, ci 0, ci 0, ci 0, ci 0, ci 0, ci 0])))))) <| some (.ret ([CV.row 9 (List.take (Int.toNat (gi v2 0)) ((List.take (Int.toNat (gi v2 0)) (gr v2 1)) ++ (List.replicate ((List.length (gr v2 1)) - (Int.toNat (gi v2 0))) [ci 0, ci 0, ci 0, ci 0, ci 0, ci 0, ci 0, ci 0, ci 0])))])))) fun v1 => some (.ret [CV.row 9 (gr v1 0)])
theorem q_fine_stays (n : Nat) (a0_0 a0_1 a0_2 : List (List CV)) (a1 : Int) : D (n + 1) n_fine_stays [(.row 24 a0_0), (.row 9 a0_1), (.row 7 a0_2), (ci a1)] = retO (R_fine_stays (D n) a0_0 a0_1 a0_2 a1) := by kernel_rfl
def R_fine_whose (M : Den) (a0 : List (List CV)) : Option Ou :=  blkO 0 (loopD (fun v0 => iteB (decide ((gi v0 1) < (il a0))) (blkO 1 (chk (inb (gi v0 1) a0) <| chk (oks (List.replicate 7 li) (el a0 (gi v0 1)) 0) <| iteB ((gi (el a0 (gi v0 1)) 2) == 2) (some (.br 1 (cat [[ci (gi v0 0)], cis v0 2 14]))) (seqO (iteB (decide ((gi v0 0) < 0)) (some (.nx [cb true])) (some (.nx [cb (decide ((gi (el a0 (gi v0 1)) 4) < (gi v0 0)))]))) fun v1 => seqO (iteB (gb v1 0) (some (.nx [ci (gi (el a0 (gi v0 1)) 4)])) (some (.nx [ci (gi v0 0)]))) fun v2 => seqO (iteB ((gi (el a0 (gi v0 1)) 2) == 1) (some (.nx [cb (decide ((gi (el a0 (gi v0 1)) 4) < (gi v0 6)))])) (some (.nx [cb false]))) fun v3 => seqO (iteB (gb v3 0) (some (.nx (cis (el a0 (gi v0 1)) 0 7))) (some (.nx (cis v0 2 7)))) fun v4 => seqO (iteB ((gi (el a0 (gi v0 1)) 2) == 3) (some (.nx [cb (decide ((gi (el a0 (gi v0 1)) 5) ≥ (gi v0 14)))])) (some (.nx [cb false]))) fun v5 => seqO (iteB (gb v5 0) (some (.nx (cis (el a0 (gi v0 1)) 0 7))) (some (.nx (cis v0 9 7)))) fun v6 => some (.br 1 (cat [[ci (gi v2 0)], cis v4 0 7, cis v6 0 7])))) fun v1 => some (.nx (cat [[ci (gi v1 0), ci (wr ((gi v0 1) + 1))], cis v1 1 14]))) (some (.br 0 (cat [[ci (gi v0 0)], cis v0 2 14])))) [ci (-1), ci 0, ci 0, ci 0, ci 0, ci 0, ci 100001, ci 0, ci 0, ci 0, ci 0, ci 0, ci 0, ci 0, ci (-1), ci 0]) fun v0 => iteB ((gi v0 11) != 0) (some (.ret [ci (gi v0 11), ci (gi v0 0)])) (some (.ret [ci (gi v0 4), ci (gi v0 0)]))
theorem q_fine_whose (n : Nat) (a0 : List (List CV)) : D (n + 1) n_fine_whose [(.row 7 a0)] = retO (R_fine_whose (D n) a0) := by kernel_rfl
def R_slices_BinarySearchFunc_Note (M : Den) (a0 : List (List CV)) (a1_0 a1_1 a1_2 a1_3 a1_4 a1_5 a1_6 : Int) (a2 : CV) : Option Ou :=  blkO 0 (loopD (fun v0 => iteB (decide ((gi v0 0) < (gi v0 1))) (chk (inb (wr (Int.fdiv (IntKind.wrap .u64 (wr ((gi v0 0) + (gi v0 1)))) 2)) a0) <| chk (oks (List.replicate 7 li) (el a0 (wr (Int.fdiv (IntKind.wrap .u64 (wr ((gi v0 0) + (gi v0 1)))) 2))) 0) <| callO (callV sg M a2 (cat [cis (el a0 (wr (Int.fdiv (IntKind.wrap .u64 (wr ((gi v0 0) + (gi v0 1)))) 2))) 0 7, [ci a1_0, ci a1_1, ci a1_2, ci a1_3, ci a1_4, ci a1_5, ci a1_6]]) [.agg (List.replicate 7 li), .agg (List.replicate 7 li)] [.one li]) fun v1 => seqO (iteB (decide ((gi v1 0) < 0)) (some (.nx [ci (wr ((wr (Int.fdiv (IntKind.wrap .u64 (wr ((gi v0 0) + (gi v0 1)))) 2)) + 1)), ci (gi v0 1)])) (some (.nx [ci (gi v0 0), ci (wr (Int.fdiv (IntKind.wrap .u64 (wr ((gi v0 0) + (gi v0 1)))) 2))]))) fun v2 => some (.nx [ci (gi v2 0), ci (gi v2 1)])) (some (.br 0 [ci (gi v0 0)]))) [ci 0, ci (il a0)]) fun v0 => iteB (decide ((gi v0 0) < (il a0))) (chk (inb (gi v0 0) a0) <| chk (oks (List.replicate 7 li) (el a0 (gi v0 0)) 0) <| callO (callV sg M a2 (cat [cis (el a0 (gi v0 0)) 0 7, [ci a1_0, ci a1_1, ci a1_2, ci a1_3, ci a1_4, ci a1_5, ci a1_6]]) [.agg (List.replicate 7 li), .agg (List.replicate 7 li)] [.one li]) fun v1 => some (.ret [ci (gi v0 0), cb ((gi v1 0) == 0)])) (some (.ret [ci (gi v0 0), cb false]))
theorem q_slices_BinarySearchFunc_Note (n : Nat) (a0 : List (List CV)) (a1_0 a1_1 a1_2 a1_3 a1_4 a1_5 a1_6 : Int) (a2 : CV) : D (n + 1) n_slices_BinarySearchFunc_Note [(.row 7 a0), (ci a1_0), (ci a1_1), (ci a1_2), (ci a1_3), (ci a1_4), (ci a1_5), (ci a1_6), a2] = retO (R_slices_BinarySearchFunc_Note (D n) a0 a1_0 a1_1 a1_2 a1_3 a1_4 a1_5 a1_6 a2) := by kernel_rfl
def R_fine_Owed (M : Den) (a0_0 a0_1 a0_2 : List (List CV)) (a1 a2 : Int) : Option Ou :=  callO (M n_fine_Check [CV.row 24 a0_0, CV.row 9 a0_1, CV.row 7 a0_2]) fun v0 => iteB ((gi v0 0) != 0) (some (.ret [ci 0, ci (gi v0 0)])) (callO (M n_fine_within [ci a1, ci 1, ci 99]) fun v1 => iteB (!(gb v1 0)) (some (.ret [ci 0, ci 1])) (callO (M n_fine_isDay [ci a2]) fun v2 => iteB (!(gb v2 0)) (some (.ret [ci 0, ci 6])) (callO (M n_fine_stays [CV.row 24 a0_0, CV.row 9 a0_1, CV.row 7 a0_2, ci a2]) fun v3 => blkO 0 (loopD (fun v4 => iteB (decide ((gi v4 1) < (il (gr v3 0)))) (chk (inb (gi v4 1) (gr v3 0)) <| chk (oks (List.replicate 9 li) (el (gr v3 0) (gi v4 1)) 0) <| callO (M n_fine_due (cat [[CV.row 24 a0_0, CV.row 9 a0_1, CV.row 7 a0_2], cis (el (gr v3 0) (gi v4 1)) 0 9, [ci a2]])) fun v5 => seqO (iteB ((gi v5 0) == (wr (2 + a1))) (some (.nx [ci (wr ((gi v4 0) + (wr ((wr ((gi v5 1) + (gi v5 2))) + (gi v5 3)))))])) (some (.nx [ci (gi v4 0)]))) fun v6 => some (.nx [ci (gi v6 0), ci (wr ((gi v4 1) + 1))])) (some (.br 0 [ci (gi v4 0)]))) [ci 0, ci 0]) fun v4 => some (.ret [ci (gi v4 0), ci 0]))))
theorem q_fine_Owed (n : Nat) (a0_0 a0_1 a0_2 : List (List CV)) (a1 a2 : Int) : D (n + 1) n_fine_Owed [(.row 24 a0_0), (.row 9 a0_1), (.row 7 a0_2), (ci a1), (ci a2)] = retO (R_fine_Owed (D n) a0_0 a0_1 a0_2 a1 a2) := by kernel_rfl
def R_fine_areRising_Note (M : Den) (a0 : List (List CV)) (a1 : Int) (a2 a3 : CV) : Option Ou :=  blkO 0 (loopD (fun v0 => iteB (decide ((gi v0 0) < (il a0))) (chk (inb (gi v0 0) a0) <| chk (oks (List.replicate 7 li) (el a0 (gi v0 0)) 0) <| seqO (callO (callV sg M a2 (cis (el a0 (gi v0 0)) 0 7) [.agg (List.replicate 7 li)] [.one li]) fun v1 => iteB ((gi v1 0) != 0) (some (.nx [cb true])) (iteB (decide ((gi v0 0) > 0)) (chk (inb (wr ((gi v0 0) - 1)) a0) <| chk (oks (List.replicate 7 li) (el a0 (wr ((gi v0 0) - 1))) 0) <| callO (callV sg M a3 (cis (el a0 (wr ((gi v0 0) - 1))) 0 7) [.agg (List.replicate 7 li)] [.one li]) fun v2 => callO (callV sg M a3 (cis (el a0 (gi v0 0)) 0 7) [.agg (List.replicate 7 li)] [.one li]) fun v3 => some (.nx [cb (decide ((gi v2 0) ≥ (gi v3 0)))])) (some (.nx [cb false])))) fun v1 => iteB (gb v1 0) (some (.ret [cb false])) (some (.nx [ci (wr ((gi v0 0) + 1))]))) (some (.br 0 []))) [ci 0]) fun v0 => some (.ret [cb (decide ((il a0) ≤ a1))])
theorem q_fine_areRising_Note (n : Nat) (a0 : List (List CV)) (a1 : Int) (a2 a3 : CV) : D (n + 1) n_fine_areRising_Note [(.row 7 a0), (ci a1), a2, a3] = retO (R_fine_areRising_Note (D n) a0 a1 a2 a3) := by kernel_rfl
def R_fine_CheckNote (M : Den) (a0_0 a0_1 a0_2 a0_3 a0_4 a0_5 a0_6 : Int) : Option Ou :=  callO (M n_fine_within [ci a0_3, ci 1, ci 99]) fun v0 => seqO (iteB (a0_2 == 2) (iteB (a0_3 == 0) (some (.nx [cb true])) (iteB (a0_2 == 1) (some (.nx [cb (gb v0 0)])) (iteB (a0_2 == 3) (some (.nx [cb (gb v0 0)])) (some (.nx [cb false]))))) (iteB (a0_2 == 1) (some (.nx [cb (gb v0 0)])) (iteB (a0_2 == 3) (some (.nx [cb (gb v0 0)])) (some (.nx [cb false]))))) fun v1 => seqO (iteB (!(gb v1 0)) (some (.nx [cb true])) (callO (M n_fine_within [ci a0_0, ci 1, ci 99999]) fun v2 => iteB (!(gb v2 0)) (some (.nx [cb true])) (callO (M n_fine_within [ci a0_1, ci 1, ci 99999]) fun v3 => iteB (!(gb v3 0)) (some (.nx [cb true])) (callO (M n_fine_areTimes [ci a0_4, ci a0_5, ci a0_6]) fun v4 => some (.nx [cb (!(gb v4 0))]))))) fun v2 => iteB (gb v2 0) (some (.ret [ci 62])) (some (.ret [ci 0]))
theorem q_fine_CheckNote (n : Nat) (a0_0 a0_1 a0_2 a0_3 a0_4 a0_5 a0_6 : Int) : D (n + 1) n_fine_CheckNote [(ci a0_0), (ci a0_1), (ci a0_2), (ci a0_3), (ci a0_4), (ci a0_5), (ci a0_6)] = retO (R_fine_CheckNote (D n) a0_0 a0_1 a0_2 a0_3 a0_4 a0_5 a0_6) := by kernel_rfl
def R_fine_stayOf (M : Den) (a0_0 a0_1 a0_2 : List (List CV)) (a1 a2 : Int) : Option Ou :=  callO (M n_fine_check ([CV.row 24 a0_0, CV.row 9 a0_1, CV.row 7 a0_2, CV.row 1 (chunk 1 1 [ci a2])])) fun v0 => iteB ((gi v0 0) != 0) (some (.ret [ci 0, ci 0, ci 0, ci 0, ci 0, ci 0, ci 0, ci 0, ci 0, ci (gi v0 0)])) (callO (M n_fine_stays [CV.row 24 a0_0, CV.row 9 a0_1, CV.row 7 a0_2, ci a2]) fun v1 => blkO 0 (loopD (fun v2 => iteB (decide ((gi v2 0) < (il (gr v1 0)))) (chk (inb (gi v2 0) (gr v1 0)) <| chk (oks (List.replicate 9 li) (el (gr v1 0) (gi v2 0)) 0) <| iteB ((gi (el (gr v1 0) (gi v2 0)) 0) == a1) (some (.ret (cat [cis (el (gr v1 0) (gi v2 0)) 0 9, [ci 0]]))) (some (.nx (cat [[ci (wr ((gi v2 0) + 1))], cis v2 1 9])))) (some (.br 0 (cis v2 1 9)))) [ci 0, ci 0, ci 0, ci 0, ci 0, ci 0, ci 0, ci 0, ci 0, ci 0]) fun v2 => some (.ret [ci 0, ci 0, ci 0, ci 0, ci 0, ci 0, ci 0, ci 0, ci 0, ci 65]))
theorem q_fine_stayOf (n : Nat) (a0_0 a0_1 a0_2 : List (List CV)) (a1 a2 : Int) : D (n + 1) n_fine_stayOf [(.row 24 a0_0), (.row 9 a0_1), (.row 7 a0_2), (ci a1), (ci a2)] = retO (R_fine_stayOf (D n) a0_0 a0_1 a0_2 a1 a2) := by kernel_rfl
def R_fine_areDays (M : Den) (a0 : List (List CV)) : Option Ou :=  blkO 0 (loopD (fun v0 => iteB (decide ((gi v0 0) < (il a0))) (chk (inb (gi v0 0) a0) <| chk (oks [li] (el a0 (gi v0 0)) 0) <| seqO (callO (M n_fine_isDay [ci (gi (el a0 (gi v0 0)) 0)]) fun v1 => iteB (!(gb v1 0)) (some (.nx [cb true])) (iteB (decide ((gi v0 0) > 0)) (chk (inb (wr ((gi v0 0) - 1)) a0) <| chk (oks [li] (el a0 (wr ((gi v0 0) - 1))) 0) <| some (.nx [cb (decide ((gi (el a0 (wr ((gi v0 0) - 1))) 0) ≥ (gi (el a0 (gi v0 0)) 0)))])) (some (.nx [cb false])))) fun v1 => iteB (gb v1 0) (some (.ret [cb false])) (some (.nx [ci (wr ((gi v0 0) + 1))]))) (some (.br 0 []))) [ci 0]) fun v0 => some (.ret [cb (decide ((il a0) ≤ 12))])
theorem q_fine_areDays (n : Nat) (a0 : List (List CV)) : D (n + 1) n_fine_areDays [(.row 1 a0)] = retO (R_fine_areDays (D n) a0) := by kernel_rfl
def R_fine_sold (M : Den) (a0_0 a0_1 a0_2 : List (List CV)) (a1_0 a1_1 a1_2 a1_3 a1_4 a1_5 a1_6 a1_7 a1_8 a2 : Int) : Option Ou :=  iteB (a1_4 == 0) (some (.ret [ci (-1)])) (callO (M n_fine_days [ci a1_6, ci (if (wr (a1_6 + 720)) < a2 then wr (a1_6 + 720) else a2)]) fun v0 => seqO (rangeO (itV sg M (List.getD v0 0 dC)) (fun x1 v1 => callO (M n_fine_daily [CV.row 24 a0_0, CV.row 9 a0_1, CV.row 7 a0_2, ci a1_0, ci a1_1, ci a1_2, ci a1_3, ci a1_4, ci a1_5, ci a1_6, ci a1_7, ci a1_8, ci x1]) fun v2 => inlO (some (.ret [ci (wr ((gi v1 1) + (gi v2 0)))])) fun v3 => iteB (decide ((gi v3 0) ≥ a1_4)) (some (.ret [ci x1])) (some (.nx [ci (gi v1 0), ci (gi v3 0)]))) [ci 0, ci 0]) fun v1 => some (.ret [ci (-1)]))
theorem q_fine_sold (n : Nat) (a0_0 a0_1 a0_2 : List (List CV)) (a1_0 a1_1 a1_2 a1_3 a1_4 a1_5 a1_6 a1_7 a1_8 a2 : Int) : D (n + 1) n_fine_sold [(.row 24 a0_0), (.row 9 a0_1), (.row 7 a0_2), (ci a1_0), (ci a1_1), (ci a1_2), (ci a1_3), (ci a1_4), (ci a1_5), (ci a1_6), (ci a1_7), (ci a1_8), (ci a2)] = retO (R_fine_sold (D n) a0_0 a0_1 a0_2 a1_0 a1_1 a1_2 a1_3 a1_4 a1_5 a1_6 a1_7 a1_8 a2) := by kernel_rfl
def R_slices_IndexFunc_Note (M : Den) (a0 : List (List CV)) (a1 : CV) : Option Ou :=  blkO 0 (loopD (fun v0 => iteB (decide ((gi v0 0) < (il a0))) (chk (inb (gi v0 0) a0) <| chk (oks (List.replicate 7 li) (el a0 (gi v0 0)) 0) <| callO (callV sg M a1 (cis (el a0 (gi v0 0)) 0 7) [.agg (List.replicate 7 li)] [.one lb]) fun v1 => iteB (gb v1 0) (some (.ret [ci (gi v0 0)])) (some (.nx [ci (wr ((gi v0 0) + 1))]))) (some (.br 0 []))) [ci 0]) fun v0 => some (.ret [ci (-1)])
theorem q_slices_IndexFunc_Note (n : Nat) (a0 : List (List CV)) (a1 : CV) : D (n + 1) n_slices_IndexFunc_Note [(.row 7 a0), a1] = retO (R_slices_IndexFunc_Note (D n) a0 a1) := by kernel_rfl
def R_slices_IndexFunc_int (M : Den) (a0 : List (List CV)) (a1 : CV) : Option Ou :=  blkO 0 (loopD (fun v0 => iteB (decide ((gi v0 0) < (il a0))) (chk (inb (gi v0 0) a0) <| chk (oks [li] (el a0 (gi v0 0)) 0) <| callO (callV sg M a1 [ci (gi (el a0 (gi v0 0)) 0)] [.one li] [.one lb]) fun v1 => iteB (gb v1 0) (some (.ret [ci (gi v0 0)])) (some (.nx [ci (wr ((gi v0 0) + 1))]))) (some (.br 0 []))) [ci 0]) fun v0 => some (.ret [ci (-1)])
theorem q_slices_IndexFunc_int (n : Nat) (a0 : List (List CV)) (a1 : CV) : D (n + 1) n_slices_IndexFunc_int [(.row 1 a0), a1] = retO (R_slices_IndexFunc_int (D n) a0 a1) := by kernel_rfl
def R_fine_areTimes (M : Den) (a0 a1 a2 : Int) : Option Ou :=  callO (M n_fine_isDay [ci a0]) fun v0 => iteB (gb v0 0) (callO (M n_fine_isDay [ci a1]) fun v1 => iteB (gb v1 0) (iteB (a2 == 0) (some (.ret [cb true])) (iteB (decide (a1 < a2)) (some (.ret [cb (decide (a2 ≤ 100000))])) (some (.ret [cb false])))) (some (.ret [cb false]))) (some (.ret [cb false]))
theorem q_fine_areTimes (n : Nat) (a0 a1 a2 : Int) : D (n + 1) n_fine_areTimes [(ci a0), (ci a1), (ci a2)] = retO (R_fine_areTimes (D n) a0 a1 a2) := by kernel_rfl
def R_fine_fed (M : Den) (a0_0 a0_1 a0_2 a0_3 a0_4 a0_5 a0_6 a0_7 a0_8 a1_0 a1_1 a1_2 a1_3 a2 : Int) : Option Ou :=  seqO (iteB (a1_2 == 2) (some (.nx [ci a1_3])) (seqO (iteB (a1_2 != 0) (some (.nx [ci (wr (a1_3 - 1))])) (some (.nx [ci a2]))) fun v0 => some (.nx [ci (gi v0 0)]))) fun v0 => callO (M n_fine_days [ci a0_6, ci (gi v0 0)]) fun v1 => some (.ret [List.getD v1 0 dC])
theorem q_fine_fed (n : Nat) (a0_0 a0_1 a0_2 a0_3 a0_4 a0_5 a0_6 a0_7 a0_8 a1_0 a1_1 a1_2 a1_3 a2 : Int) : D (n + 1) n_fine_fed [(ci a0_0), (ci a0_1), (ci a0_2), (ci a0_3), (ci a0_4), (ci a0_5), (ci a0_6), (ci a0_7), (ci a0_8), (ci a1_0), (ci a1_1), (ci a1_2), (ci a1_3), (ci a2)] = retO (R_fine_fed (D n) a0_0 a0_1 a0_2 a0_3 a0_4 a0_5 a0_6 a0_7 a0_8 a1_0 a1_1 a1_2 a1_3 a2) := by kernel_rfl
def R_fine_CheckPosts (M : Den) (a0_0 a0_1 a0_2 a1 a2 : List (List CV)) : Option Ou :=  callO (M n_fine_Posts [CV.row 24 a0_0, CV.row 9 a0_1, CV.row 7 a0_2, CV.row 1 a1]) fun v0 => iteB ((gi v0 1) != 0) (some (.ret [ci (gi v0 1)])) (callO (M n_slices_Equal_Posting [CV.row 5 (gr v0 0), CV.row 5 a2]) fun v1 => iteB (!(gb v1 0)) (some (.ret [ci 67])) (some (.ret [ci 0])))
theorem q_fine_CheckPosts (n : Nat) (a0_0 a0_1 a0_2 a1 a2 : List (List CV)) : D (n + 1) n_fine_CheckPosts [(.row 24 a0_0), (.row 9 a0_1), (.row 7 a0_2), (.row 1 a1), (.row 5 a2)] = retO (R_fine_CheckPosts (D n) a0_0 a0_1 a0_2 a1 a2) := by kernel_rfl
def R_fine_daily (M : Den) (a0_0 a0_1 a0_2 : List (List CV)) (a1_0 a1_1 a1_2 a1_3 a1_4 a1_5 a1_6 a1_7 a1_8 a2 : Int) : Option Ou :=  callO (M n_fine_inForce [CV.row 24 a0_0, CV.row 9 a0_1, CV.row 7 a0_2, ci a2]) fun v0 => some (.ret [ci (wr (Int.tdiv (wr (a1_3 * (gi v0 21))) 10))])
theorem q_fine_daily (n : Nat) (a0_0 a0_1 a0_2 : List (List CV)) (a1_0 a1_1 a1_2 a1_3 a1_4 a1_5 a1_6 a1_7 a1_8 a2 : Int) : D (n + 1) n_fine_daily [(.row 24 a0_0), (.row 9 a0_1), (.row 7 a0_2), (ci a1_0), (ci a1_1), (ci a1_2), (ci a1_3), (ci a1_4), (ci a1_5), (ci a1_6), (ci a1_7), (ci a1_8), (ci a2)] = retO (R_fine_daily (D n) a0_0 a0_1 a0_2 a1_0 a1_1 a1_2 a1_3 a1_4 a1_5 a1_6 a1_7 a1_8 a2) := by kernel_rfl
def R_fine_within (M : Den) (a0 a1 a2 : Int) : Option Ou :=  iteB (decide (a1 ≤ a0)) (some (.ret [cb (decide (a0 ≤ a2))])) (some (.ret [cb false]))
theorem q_fine_within (n : Nat) (a0 a1 a2 : Int) : D (n + 1) n_fine_within [(ci a0), (ci a1), (ci a2)] = retO (R_fine_within (D n) a0 a1 a2) := by kernel_rfl
def R_fine_isRow_c1 (M : Den) (a0 : Int) : Option Ou :=  callO (M n_fine_within [ci a0, ci 0, ci 10000]) fun v0 => some (.ret [cb (!(gb v0 0))])
theorem q_fine_isRow_c1 (n : Nat) (a0 : Int) : D (n + 1) n_fine_isRow_c1 [(ci a0)] = retO (R_fine_isRow_c1 (D n) a0) := by kernel_rfl
def R_fine_Noted_c1 (M : Den) (a0_0 a0_1 a0_2 a0_3 a0_4 a0_5 a0_6 a1_0 a1_1 a1_2 a1_3 a1_4 a1_5 a1_6 : Int) : Option Ou :=  callO (M n_cmp_Compare_int [ci a0_0, ci a1_0]) fun v0 => some (.ret [ci (gi v0 0)])
theorem q_fine_Noted_c1 (n : Nat) (a0_0 a0_1 a0_2 a0_3 a0_4 a0_5 a0_6 a1_0 a1_1 a1_2 a1_3 a1_4 a1_5 a1_6 : Int) : D (n + 1) n_fine_Noted_c1 [(ci a0_0), (ci a0_1), (ci a0_2), (ci a0_3), (ci a0_4), (ci a0_5), (ci a0_6), (ci a1_0), (ci a1_1), (ci a1_2), (ci a1_3), (ci a1_4), (ci a1_5), (ci a1_6)] = retO (R_fine_Noted_c1 (D n) a0_0 a0_1 a0_2 a0_3 a0_4 a0_5 a0_6 a1_0 a1_1 a1_2 a1_3 a1_4 a1_5 a1_6) := by kernel_rfl
def R_fine_noteOf (M : Den) (a0_0 a0_1 a0_2 a0_3 a0_4 a0_5 a0_6 : Int) : Option Ou :=  some (.ret [ci a0_0])
theorem q_fine_noteOf (n : Nat) (a0_0 a0_1 a0_2 a0_3 a0_4 a0_5 a0_6 : Int) : D (n + 1) n_fine_noteOf [(ci a0_0), (ci a0_1), (ci a0_2), (ci a0_3), (ci a0_4), (ci a0_5), (ci a0_6)] = retO (R_fine_noteOf (D n) a0_0 a0_1 a0_2 a0_3 a0_4 a0_5 a0_6) := by kernel_rfl
end
end Go.Proofs.Ytabhbdehbpmpkaa
namespace Go.Proofs.Ytabhbdehbpmpkaa
open Go Go.Sx Go.Fine
set_option maxRecDepth 100000
theorem shp_int {n : Nat} {c : List CV} (h : Shp Try.prog (n + 1) 3 c) : ∃ m : Int, c = [ci m] ∧ -9223372036854775808 ≤ m ∧ m < 9223372036854775808 := by
  simp only [Shp, Try.underlying3] at h
  obtain ⟨m, rfl, hm⟩ := h
  refine ⟨m, rfl, ?_⟩
  simp [Lit.wf, IntKind.min, IntKind.max, IntKind.signed, IntKind.bits] at hm
  omega
theorem shp_ints {n : Nat} : ∀ {k : Nat} {c : List CV}, ShpL (Shp Try.prog (n + 1)) (List.replicate k 3) c → ∃ l : List Int, l.length = k ∧ c = l.map ci
  | 0, c, h => ⟨[], rfl, h⟩
  | k + 1, c, h => by
    simp only [List.replicate_succ, ShpL] at h
    obtain ⟨a, b, rfl, h1, h2⟩ := h
    obtain ⟨m, rfl, _⟩ := shp_int h1
    obtain ⟨l, h3, rfl⟩ := shp_ints h2
    exact ⟨m :: l, by simp [h3], rfl⟩
theorem rows_cv {A : Type} {cv : A → List CV} : ∀ {es : List (List CV)}, (∀ x ∈ es, ∃ a, x = cv a) → ∃ l : List A, es = l.map cv
  | [], _ => ⟨[], rfl⟩
  | e :: es, h => by
    obtain ⟨a, rfl⟩ := h e (by simp)
    obtain ⟨l, rfl⟩ := rows_cv (es := es) fun x hx => h x (by simp [hx])
    exact ⟨a :: l, rfl⟩
theorem reach_len {n m : Nat} (h : n * m ≤ reachBytes) (hm : 2 ≤ m) : n < 100000000000000 := by
  have h1 : n * 2 ≤ n * m := Nat.mul_le_mul_left _ hm
  have h2 : reachBytes < 2 ^ 47 := by decide
  omega
end Go.Proofs.Ytabhbdehbpmpkaa
namespace Go.Proofs.Ytabhbdehbpmpkaa
open Go Go.Sx
set_option maxRecDepth 100000
theorem en10 : ∃ fn, EntOk Try.prog 10 fe10 fn ∧ bodyOf Try.f10 = bodyOf fn := by refine ⟨Try.f10, ⟨?_, ?_, ?_, ?_, ?_⟩, rfl⟩ <;> kernel_rfl
theorem en12 : ∃ fn, EntOk Try.prog 12 fe12 fn ∧ bodyOf Try.f12 = bodyOf fn := by refine ⟨Try.f12, ⟨?_, ?_, ?_, ?_, ?_⟩, rfl⟩ <;> kernel_rfl
theorem en13 : ∃ fn, EntOk Try.prog 13 fe13 fn ∧ bodyOf Try.f13 = bodyOf fn := by refine ⟨Try.f13, ⟨?_, ?_, ?_, ?_, ?_⟩, rfl⟩ <;> kernel_rfl
theorem en16 : ∃ fn, EntOk Try.prog 16 fe16 fn ∧ bodyOf Try.f16 = bodyOf fn := by refine ⟨Try.f16, ⟨?_, ?_, ?_, ?_, ?_⟩, rfl⟩ <;> kernel_rfl
theorem en18 : ∃ fn, EntOk Try.prog 18 fe18 fn ∧ bodyOf Try.f18 = bodyOf fn := by refine ⟨Try.f18, ⟨?_, ?_, ?_, ?_, ?_⟩, rfl⟩ <;> kernel_rfl
theorem en20 : ∃ fn, EntOk Try.prog 20 fe20 fn ∧ bodyOf Try.f20 = bodyOf fn := by refine ⟨Try.f20, ⟨?_, ?_, ?_, ?_, ?_⟩, rfl⟩ <;> kernel_rfl
theorem en22 : ∃ fn, EntOk Try.prog 22 fe22 fn ∧ bodyOf Try.f22 = bodyOf fn := by refine ⟨Try.f22, ⟨?_, ?_, ?_, ?_, ?_⟩, rfl⟩ <;> kernel_rfl
theorem en24 : ∃ fn, EntOk Try.prog 24 fe24 fn ∧ bodyOf Try.f24 = bodyOf fn := by refine ⟨Try.f24, ⟨?_, ?_, ?_, ?_, ?_⟩, rfl⟩ <;> kernel_rfl
theorem en25 : ∃ fn, EntOk Try.prog 25 fe25 fn ∧ bodyOf Try.f25 = bodyOf fn := by refine ⟨Try.f25, ⟨?_, ?_, ?_, ?_, ?_⟩, rfl⟩ <;> kernel_rfl
theorem en26 : ∃ fn, EntOk Try.prog 26 fe26 fn ∧ bodyOf Try.f26 = bodyOf fn := by refine ⟨Try.f26, ⟨?_, ?_, ?_, ?_, ?_⟩, rfl⟩ <;> kernel_rfl
theorem en27 : ∃ fn, EntOk Try.prog 27 fe27 fn ∧ bodyOf Try.f27 = bodyOf fn := by refine ⟨Try.f27, ⟨?_, ?_, ?_, ?_, ?_⟩, rfl⟩ <;> kernel_rfl
theorem en28 : ∃ fn, EntOk Try.prog 28 fe28 fn ∧ bodyOf Try.f28 = bodyOf fn := by refine ⟨Try.f28, ⟨?_, ?_, ?_, ?_, ?_⟩, rfl⟩ <;> kernel_rfl
theorem en36 : ∃ fn, EntOk Try.prog 36 fe36 fn ∧ bodyOf Try.f36 = bodyOf fn := by refine ⟨Try.f36, ⟨?_, ?_, ?_, ?_, ?_⟩, rfl⟩ <;> kernel_rfl
theorem en44 : ∃ fn, EntOk Try.prog 44 fe44 fn ∧ bodyOf Try.f44 = bodyOf fn := by refine ⟨Try.f44, ⟨?_, ?_, ?_, ?_, ?_⟩, rfl⟩ <;> kernel_rfl
theorem en46 : ∃ fn, EntOk Try.prog 46 fe46 fn ∧ bodyOf Try.f46 = bodyOf fn := by refine ⟨Try.f46, ⟨?_, ?_, ?_, ?_, ?_⟩, rfl⟩ <;> kernel_rfl
theorem en48 : ∃ fn, EntOk Try.prog 48 fe48 fn ∧ bodyOf Try.f48 = bodyOf fn := by refine ⟨Try.f48, ⟨?_, ?_, ?_, ?_, ?_⟩, rfl⟩ <;> kernel_rfl
theorem en49 : ∃ fn, EntOk Try.prog 49 fe49 fn ∧ bodyOf Try.f49 = bodyOf fn := by refine ⟨Try.f49, ⟨?_, ?_, ?_, ?_, ?_⟩, rfl⟩ <;> kernel_rfl
theorem en51 : ∃ fn, EntOk Try.prog 51 fe51 fn ∧ bodyOf Try.f51 = bodyOf fn := by refine ⟨Try.f51, ⟨?_, ?_, ?_, ?_, ?_⟩, rfl⟩ <;> kernel_rfl
theorem en52 : ∃ fn, EntOk Try.prog 52 fe52 fn ∧ bodyOf Try.f52 = bodyOf fn := by refine ⟨Try.f52, ⟨?_, ?_, ?_, ?_, ?_⟩, rfl⟩ <;> kernel_rfl
theorem en55 : ∃ fn, EntOk Try.prog 55 fe55 fn ∧ bodyOf Try.f55 = bodyOf fn := by refine ⟨Try.f55, ⟨?_, ?_, ?_, ?_, ?_⟩, rfl⟩ <;> kernel_rfl
theorem en56 : ∃ fn, EntOk Try.prog 56 fe56 fn ∧ bodyOf Try.f56 = bodyOf fn := by refine ⟨Try.f56, ⟨?_, ?_, ?_, ?_, ?_⟩, rfl⟩ <;> kernel_rfl
theorem en57 : ∃ fn, EntOk Try.prog 57 fe57 fn ∧ bodyOf Try.f57 = bodyOf fn := by refine ⟨Try.f57, ⟨?_, ?_, ?_, ?_, ?_⟩, rfl⟩ <;> kernel_rfl
theorem en58 : ∃ fn, EntOk Try.prog 58 fe58 fn ∧ bodyOf Try.f58 = bodyOf fn := by refine ⟨Try.f58, ⟨?_, ?_, ?_, ?_, ?_⟩, rfl⟩ <;> kernel_rfl
theorem en59 : ∃ fn, EntOk Try.prog 59 fe59 fn ∧ bodyOf Try.f59 = bodyOf fn := by refine ⟨Try.f59, ⟨?_, ?_, ?_, ?_, ?_⟩, rfl⟩ <;> kernel_rfl
theorem en60 : ∃ fn, EntOk Try.prog 60 fe60 fn ∧ bodyOf Try.f60 = bodyOf fn := by refine ⟨Try.f60, ⟨?_, ?_, ?_, ?_, ?_⟩, rfl⟩ <;> kernel_rfl
theorem en61 : ∃ fn, EntOk Try.prog 61 fe61 fn ∧ bodyOf Try.f61 = bodyOf fn := by refine ⟨Try.f61, ⟨?_, ?_, ?_, ?_, ?_⟩, rfl⟩ <;> kernel_rfl
theorem en65 : ∃ fn, EntOk Try.prog 65 fe65 fn ∧ bodyOf Try.f65 = bodyOf fn := by refine ⟨Try.f65, ⟨?_, ?_, ?_, ?_, ?_⟩, rfl⟩ <;> kernel_rfl
theorem en66 : ∃ fn, EntOk Try.prog 66 fe66 fn ∧ bodyOf Try.f66 = bodyOf fn := by refine ⟨Try.f66, ⟨?_, ?_, ?_, ?_, ?_⟩, rfl⟩ <;> kernel_rfl
theorem en67 : ∃ fn, EntOk Try.prog 67 fe67 fn ∧ bodyOf Try.f67 = bodyOf fn := by refine ⟨Try.f67, ⟨?_, ?_, ?_, ?_, ?_⟩, rfl⟩ <;> kernel_rfl
theorem en68 : ∃ fn, EntOk Try.prog 68 fe68 fn ∧ bodyOf Try.f68 = bodyOf fn := by refine ⟨Try.f68, ⟨?_, ?_, ?_, ?_, ?_⟩, rfl⟩ <;> kernel_rfl
theorem en69 : ∃ fn, EntOk Try.prog 69 fe69 fn ∧ bodyOf Try.f69 = bodyOf fn := by refine ⟨Try.f69, ⟨?_, ?_, ?_, ?_, ?_⟩, rfl⟩ <;> kernel_rfl
theorem en70 : ∃ fn, EntOk Try.prog 70 fe70 fn ∧ bodyOf Try.f70 = bodyOf fn := by refine ⟨Try.f70, ⟨?_, ?_, ?_, ?_, ?_⟩, rfl⟩ <;> kernel_rfl
theorem en71 : ∃ fn, EntOk Try.prog 71 fe71 fn ∧ bodyOf Try.f71 = bodyOf fn := by refine ⟨Try.f71, ⟨?_, ?_, ?_, ?_, ?_⟩, rfl⟩ <;> kernel_rfl
theorem en72 : ∃ fn, EntOk Try.prog 72 fe72 fn ∧ bodyOf Try.f72 = bodyOf fn := by refine ⟨Try.f72, ⟨?_, ?_, ?_, ?_, ?_⟩, rfl⟩ <;> kernel_rfl
theorem en73 : ∃ fn, EntOk Try.prog 73 fe73 fn ∧ bodyOf Try.f73 = bodyOf fn := by refine ⟨Try.f73, ⟨?_, ?_, ?_, ?_, ?_⟩, rfl⟩ <;> kernel_rfl
theorem en76 : ∃ fn, EntOk Try.prog 76 fe76 fn ∧ bodyOf Try.f76 = bodyOf fn := by refine ⟨Try.f76, ⟨?_, ?_, ?_, ?_, ?_⟩, rfl⟩ <;> kernel_rfl
theorem en78 : ∃ fn, EntOk Try.prog 78 fe78 fn ∧ bodyOf Try.f78 = bodyOf fn := by refine ⟨Try.f78, ⟨?_, ?_, ?_, ?_, ?_⟩, rfl⟩ <;> kernel_rfl
theorem en79 : ∃ fn, EntOk Try.prog 79 fe79 fn ∧ bodyOf Try.f79 = bodyOf fn := by refine ⟨Try.f79, ⟨?_, ?_, ?_, ?_, ?_⟩, rfl⟩ <;> kernel_rfl
theorem en80 : ∃ fn, EntOk Try.prog 80 fe80 fn ∧ bodyOf Try.f80 = bodyOf fn := by refine ⟨Try.f80, ⟨?_, ?_, ?_, ?_, ?_⟩, rfl⟩ <;> kernel_rfl
theorem en81 : ∃ fn, EntOk Try.prog 81 fe81 fn ∧ bodyOf Try.f81 = bodyOf fn := by refine ⟨Try.f81, ⟨?_, ?_, ?_, ?_, ?_⟩, rfl⟩ <;> kernel_rfl
theorem en84 : ∃ fn, EntOk Try.prog 84 fe84 fn ∧ bodyOf Try.f84 = bodyOf fn := by refine ⟨Try.f84, ⟨?_, ?_, ?_, ?_, ?_⟩, rfl⟩ <;> kernel_rfl
theorem en88 : ∃ fn, EntOk Try.prog 88 fe88 fn ∧ bodyOf Try.f88 = bodyOf fn := by refine ⟨Try.f88, ⟨?_, ?_, ?_, ?_, ?_⟩, rfl⟩ <;> kernel_rfl
theorem en92 : ∃ fn, EntOk Try.prog 92 fe92 fn ∧ bodyOf Try.f92 = bodyOf fn := by refine ⟨Try.f92, ⟨?_, ?_, ?_, ?_, ?_⟩, rfl⟩ <;> kernel_rfl
theorem en94 : ∃ fn, EntOk Try.prog 94 fe94 fn ∧ bodyOf Try.f94 = bodyOf fn := by refine ⟨Try.f94, ⟨?_, ?_, ?_, ?_, ?_⟩, rfl⟩ <;> kernel_rfl
theorem en98 : ∃ fn, EntOk Try.prog 98 fe98 fn ∧ bodyOf Try.f98 = bodyOf fn := by refine ⟨Try.f98, ⟨?_, ?_, ?_, ?_, ?_⟩, rfl⟩ <;> kernel_rfl
theorem en100 : ∃ fn, EntOk Try.prog 100 fe100 fn ∧ bodyOf Try.f100 = bodyOf fn := by refine ⟨Try.f100, ⟨?_, ?_, ?_, ?_, ?_⟩, rfl⟩ <;> kernel_rfl
theorem en101 : ∃ fn, EntOk Try.prog 101 fe101 fn ∧ bodyOf Try.f101 = bodyOf fn := by refine ⟨Try.f101, ⟨?_, ?_, ?_, ?_, ?_⟩, rfl⟩ <;> kernel_rfl
theorem en104 : ∃ fn, EntOk Try.prog 104 fe104 fn ∧ bodyOf Try.f104 = bodyOf fn := by refine ⟨Try.f104, ⟨?_, ?_, ?_, ?_, ?_⟩, rfl⟩ <;> kernel_rfl
theorem en108 : ∃ fn, EntOk Try.prog 108 fe108 fn ∧ bodyOf Try.f108 = bodyOf fn := by refine ⟨Try.f108, ⟨?_, ?_, ?_, ?_, ?_⟩, rfl⟩ <;> kernel_rfl
theorem en111 : ∃ fn, EntOk Try.prog 111 fe111 fn ∧ bodyOf Try.f111 = bodyOf fn := by refine ⟨Try.f111, ⟨?_, ?_, ?_, ?_, ?_⟩, rfl⟩ <;> kernel_rfl
theorem en112 : ∃ fn, EntOk Try.prog 112 fe112 fn ∧ bodyOf Try.f112 = bodyOf fn := by refine ⟨Try.f112, ⟨?_, ?_, ?_, ?_, ?_⟩, rfl⟩ <;> kernel_rfl
theorem en113 : ∃ fn, EntOk Try.prog 113 fe113 fn ∧ bodyOf Try.f113 = bodyOf fn := by refine ⟨Try.f113, ⟨?_, ?_, ?_, ?_, ?_⟩, rfl⟩ <;> kernel_rfl
theorem en114 : ∃ fn, EntOk Try.prog 114 fe114 fn ∧ bodyOf Try.f114 = bodyOf fn := by refine ⟨Try.f114, ⟨?_, ?_, ?_, ?_, ?_⟩, rfl⟩ <;> kernel_rfl
theorem en115 : ∃ fn, EntOk Try.prog 115 fe115 fn ∧ bodyOf Try.f115 = bodyOf fn := by refine ⟨Try.f115, ⟨?_, ?_, ?_, ?_, ?_⟩, rfl⟩ <;> kernel_rfl
theorem en120 : ∃ fn, EntOk Try.prog 120 fe120 fn ∧ bodyOf Try.f120 = bodyOf fn := by refine ⟨Try.f120, ⟨?_, ?_, ?_, ?_, ?_⟩, rfl⟩ <;> kernel_rfl
theorem en122 : ∃ fn, EntOk Try.prog 122 fe122 fn ∧ bodyOf Try.f122 = bodyOf fn := by refine ⟨Try.f122, ⟨?_, ?_, ?_, ?_, ?_⟩, rfl⟩ <;> kernel_rfl
theorem en126 : ∃ fn, EntOk Try.prog 126 fe126 fn ∧ bodyOf Try.f126 = bodyOf fn := by refine ⟨Try.f126, ⟨?_, ?_, ?_, ?_, ?_⟩, rfl⟩ <;> kernel_rfl
theorem en127 : ∃ fn, EntOk Try.prog 127 fe127 fn ∧ bodyOf Try.f127 = bodyOf fn := by refine ⟨Try.f127, ⟨?_, ?_, ?_, ?_, ?_⟩, rfl⟩ <;> kernel_rfl
theorem en128 : ∃ fn, EntOk Try.prog 128 fe128 fn ∧ bodyOf Try.f128 = bodyOf fn := by refine ⟨Try.f128, ⟨?_, ?_, ?_, ?_, ?_⟩, rfl⟩ <;> kernel_rfl
theorem en129 : ∃ fn, EntOk Try.prog 129 fe129 fn ∧ bodyOf Try.f129 = bodyOf fn := by refine ⟨Try.f129, ⟨?_, ?_, ?_, ?_, ?_⟩, rfl⟩ <;> kernel_rfl
theorem en134 : ∃ fn, EntOk Try.prog 134 fe134 fn ∧ bodyOf Try.f134 = bodyOf fn := by refine ⟨Try.f134, ⟨?_, ?_, ?_, ?_, ?_⟩, rfl⟩ <;> kernel_rfl
theorem en137 : ∃ fn, EntOk Try.prog 137 fe137 fn ∧ bodyOf Try.f137 = bodyOf fn := by refine ⟨Try.f137, ⟨?_, ?_, ?_, ?_, ?_⟩, rfl⟩ <;> kernel_rfl
theorem tb_ok : ∀ e ∈ tb, ∃ fn, EntOk Try.prog e.1 e.2.1 fn ∧ e.2.2 = bodyOf fn := by
  intro e he
  unfold tb at he
  rcases List.mem_cons.1 he with rfl | he
  · exact en10
  rcases List.mem_cons.1 he with rfl | he
  · exact en12
  rcases List.mem_cons.1 he with rfl | he
  · exact en13
  rcases List.mem_cons.1 he with rfl | he
  · exact en16
  rcases List.mem_cons.1 he with rfl | he
  · exact en18
  rcases List.mem_cons.1 he with rfl | he
  · exact en20
  rcases List.mem_cons.1 he with rfl | he
  · exact en22
  rcases List.mem_cons.1 he with rfl | he
  · exact en24
  rcases List.mem_cons.1 he with rfl | he
  · exact en25
  rcases List.mem_cons.1 he with rfl | he
  · exact en26
  rcases List.mem_cons.1 he with rfl | he
  · exact en27
  rcases List.mem_cons.1 he with rfl | he
  · exact en28
  rcases List.mem_cons.1 he with rfl | he
  · exact en36
  rcases List.mem_cons.1 he with rfl | he
  · exact en44
  rcases List.mem_cons.1 he with rfl | he
  · exact en46
  rcases List.mem_cons.1 he with rfl | he
  · exact en48
  rcases List.mem_cons.1 he with rfl | he
  · exact en49
  rcases List.mem_cons.1 he with rfl | he
  · exact en51
  rcases List.mem_cons.1 he with rfl | he
  · exact en52
  rcases List.mem_cons.1 he with rfl | he
  · exact en55
  rcases List.mem_cons.1 he with rfl | he
  · exact en56
  rcases List.mem_cons.1 he with rfl | he
  · exact en57
  rcases List.mem_cons.1 he with rfl | he
  · exact en58
  rcases List.mem_cons.1 he with rfl | he
  · exact en59
  rcases List.mem_cons.1 he with rfl | he
  · exact en60
  rcases List.mem_cons.1 he with rfl | he
  · exact en61
  rcases List.mem_cons.1 he with rfl | he
  · exact en65
  rcases List.mem_cons.1 he with rfl | he
  · exact en66
  rcases List.mem_cons.1 he with rfl | he
  · exact en67
  rcases List.mem_cons.1 he with rfl | he
  · exact en68
  rcases List.mem_cons.1 he with rfl | he
  · exact en69
  rcases List.mem_cons.1 he with rfl | he
  · exact en70
  rcases List.mem_cons.1 he with rfl | he
  · exact en71
  rcases List.mem_cons.1 he with rfl | he
  · exact en72
  rcases List.mem_cons.1 he with rfl | he
  · exact en73
  rcases List.mem_cons.1 he with rfl | he
  · exact en76
  rcases List.mem_cons.1 he with rfl | he
  · exact en78
  rcases List.mem_cons.1 he with rfl | he
  · exact en79
  rcases List.mem_cons.1 he with rfl | he
  · exact en80
  rcases List.mem_cons.1 he with rfl | he
  · exact en81
  rcases List.mem_cons.1 he with rfl | he
  · exact en84
  rcases List.mem_cons.1 he with rfl | he
  · exact en88
  rcases List.mem_cons.1 he with rfl | he
  · exact en92
  rcases List.mem_cons.1 he with rfl | he
  · exact en94
  rcases List.mem_cons.1 he with rfl | he
  · exact en98
  rcases List.mem_cons.1 he with rfl | he
  · exact en100
  rcases List.mem_cons.1 he with rfl | he
  · exact en101
  rcases List.mem_cons.1 he with rfl | he
  · exact en104
  rcases List.mem_cons.1 he with rfl | he
  · exact en108
  rcases List.mem_cons.1 he with rfl | he
  · exact en111
  rcases List.mem_cons.1 he with rfl | he
  · exact en112
  rcases List.mem_cons.1 he with rfl | he
  · exact en113
  rcases List.mem_cons.1 he with rfl | he
  · exact en114
  rcases List.mem_cons.1 he with rfl | he
  · exact en115
  rcases List.mem_cons.1 he with rfl | he
  · exact en120
  rcases List.mem_cons.1 he with rfl | he
  · exact en122
  rcases List.mem_cons.1 he with rfl | he
  · exact en126
  rcases List.mem_cons.1 he with rfl | he
  · exact en127
  rcases List.mem_cons.1 he with rfl | he
  · exact en128
  rcases List.mem_cons.1 he with rfl | he
  · exact en129
  rcases List.mem_cons.1 he with rfl | he
  · exact en134
  rcases List.mem_cons.1 he with rfl | he
  · exact en137
  cases he
end Go.Proofs.Ytabhbdehbpmpkaa
namespace Go.Proofs.Ytabhbdehbpmpkaa
open Go Go.Sx Go.Fine
set_option maxRecDepth 10000
attribute [local simp] Bool.and_assoc Bool.or_assoc
theorem v_isRow_c1 (M : Den) (x : CV) : callV sg M (.fn n_fine_isRow_c1 []) [x] [.one li] [.one lb] = M n_fine_isRow_c1 [x] := rfl
theorem v_check_c1 (M : Den) (x : CV) : callV sg M (.fn n_fine_check_c1 []) [x] [.one li] [.one lb] = M n_fine_check_c1 [x] := rfl
@[simp] theorem w_within (n : Nat) (a b c : Int) : D (n + 1) n_fine_within [ci a, ci b, ci c] = some [cb (within a b c)] := by
  rw [q_fine_within]; simp [R_fine_within, within]
@[simp] theorem w_isDay (n : Nat) (a : Int) : D (n + 2) n_fine_isDay [ci a] = some [cb (isDay a)] := by
  rw [q_fine_isDay]; simp [R_fine_isDay, isDay]
@[simp] theorem w_areTimes (n : Nat) (a b c : Int) : D (n + 3) n_fine_areTimes [ci a, ci b, ci c] = some [cb (areTimes a b c)] := by
  rw [q_fine_areTimes]; simp [R_fine_areTimes, areTimes, retO_ite]
@[simp] theorem w_counts (n : Nat) (a b c : Int) : D (n + 1) n_fine_counts [ci a, ci b, ci c] = some [cb (counts a b c)] := by
  rw [q_fine_counts]; simp [R_fine_counts, counts, retO_ite]
@[simp] theorem w_isRow_c1 (n : Nat) (a : Int) : D (n + 2) n_fine_isRow_c1 [ci a] = some [cb (!within a 0 10000)] := by
  rw [q_fine_isRow_c1]; simp [R_fine_isRow_c1]
@[simp] theorem w_check_c1 (n : Nat) (a : Int) : D (n + 3) n_fine_check_c1 [ci a] = some [cb (!isDay a)] := by
  rw [q_fine_check_c1]; simp [R_fine_check_c1]
@[simp] theorem w_isNaN (n : Nat) (a : Int) : D (n + 1) n_cmp_isNaN_int [ci a] = some [cb false] := by
  rw [q_cmp_isNaN_int]; simp [R_cmp_isNaN_int]
@[simp] theorem w_Compare (n : Nat) (a b : Int) : D (n + 2) n_cmp_Compare_int [ci a, ci b] = some [ci (if a < b then -1 else if a > b then 1 else 0)] := by
  rw [q_cmp_Compare_int]; simp [R_cmp_Compare_int]
@[simp] theorem w_days (n : Nat) (a b : Int) : D (n + 1) n_fine_days [ci a, ci b] = some [.fn n_fine_days_c1 [.ref [ci a], .ref [ci b]]] := by
  rw [q_fine_days]; simp [R_fine_days]
end Go.Proofs.Ytabhbdehbpmpkaa
namespace Go.Proofs.Ytabhbdehbpmpkaa
open Go Go.Sx Go.Fine
set_option maxRecDepth 10000
attribute [local simp] Bool.and_assoc Bool.or_assoc
@[simp] theorem w_CheckHeld (n : Nat) (s : Held) : D (n + 4) n_fine_CheckHeld [ci s.src, ci s.beast, ci s.sort, ci s.eats, ci s.worth, ci s.drv, ci s.day, ci s.known, ci s.til] = some [ci (if s.ok = true then 0 else 61)] := by
  rw [q_fine_CheckHeld]; simp [R_fine_CheckHeld, Held.ok]; grind
@[simp] theorem w_CheckNote (n : Nat) (s : Note) : D (n + 4) n_fine_CheckNote [ci s.src, ci s.stay, ci s.kind, ci s.owner, ci s.day, ci s.known, ci s.til] = some [ci (if s.ok = true then 0 else 62)] := by
  rw [q_fine_CheckNote]; simp [R_fine_CheckNote, Note.ok]; grind
theorem w_IndexFunc_int (n : Nat) (l : List Int) (f : CV) (p : Int → Bool) (hl : l.length < 9223372036854775807) (hf : ∀ x ∈ l, callV sg (D n) f [ci x] [.one li] [.one lb] = some [cb (p x)]) :
    D (n + 1) n_slices_IndexFunc_int [.row 1 (ints l), f] = some [ci (match (List.range l.length).find? (fun i => p (l.getD i 0)) with | some i => (i : Int) | none => -1)] := by
  have hg : ∀ i (h : i < l.length), l.getD i 0 = l[i] := fun i h => by simp [h]
  have hf' : ∀ i (h : i < l.length), callV sg (D n) f [ci l[i]] [.one li] [.one lb] = some [cb (p l[i])] := fun i h => hf _ (List.getElem_mem h)
  rw [q_slices_IndexFunc_int]
  unfold R_slices_IndexFunc_int
  rw [loop_find l.length (fun i => [ci (i : Int)]) (fun i => p (l.getD i 0)) (fun i => some (.ret [ci (i : Int)])) (some (.br 0 [])) ?hv ?hR ?hX
    (fun i hi hp => ?h1) (fun i hi hp => ?h2) ?h3]
  case hv => rfl
  case hR => simp
  case hX => simp
  case h3 => simp [ints]
  case h1 =>
    rw [hg i hi] at hp
    simp [ints, hi, hp, inb_map, el_map, hf', wr_nat (show i < 9223372036854775807 by omega)]
  case h2 =>
    rw [hg i hi] at hp
    simp [ints, hi, hp, inb_map, el_map, hf']
  · cases (List.range l.length).find? fun i => p (l.getD i 0) <;> simp
theorem find_any {l : List Int} {p : Int → Bool} : (∃ i, (List.range l.length).find? (fun i => p (l.getD i 0)) = some i) ↔ l.any p = true := by
  constructor
  · rintro ⟨i, hi⟩
    have h1 := List.find?_some hi
    have h2 := List.mem_of_find?_eq_some hi
    rw [List.mem_range] at h2
    simp only [List.any_eq_true]
    exact ⟨l[i], List.getElem_mem h2, by simpa [h2] using h1⟩
  · intro h
    obtain ⟨x, hx, hp⟩ := List.any_eq_true.1 h
    obtain ⟨i, hi, rfl⟩ := List.mem_iff_getElem.1 hx
    cases hf : (List.range l.length).find? (fun i => p (l.getD i 0)) with
    | some j => exact ⟨j, rfl⟩
    | none =>
      rw [List.find?_eq_none] at hf
      have := hf i (by simpa using hi)
      simp [hi, hp] at this
theorem w_ContainsFunc_int (n : Nat) (l : List Int) (f : CV) (p : Int → Bool) (hl : l.length < 9223372036854775807) (hf : ∀ x ∈ l, callV sg (D n) f [ci x] [.one li] [.one lb] = some [cb (p x)]) :
    D (n + 2) n_slices_ContainsFunc_int [.row 1 (ints l), f] = some [cb (l.any p)] := by
  rw [q_slices_ContainsFunc_int]
  simp only [R_slices_ContainsFunc_int, w_IndexFunc_int n l f p hl hf]
  have key := @find_any l p
  cases hh : (List.range l.length).find? (fun i => p (l.getD i 0)) with
  | some i => simp [key.1 ⟨i, hh⟩]
  | none =>
    have : l.any p = false := by
      cases hc : l.any p with
      | false => rfl
      | true => obtain ⟨i, hi⟩ := key.2 hc; rw [hh] at hi; cases hi
    simp [this]
theorem w_isRow (n : Nat) (a0 a1 a2 a3 a4 a5 a6 a7 a8 a9 : Int) : D (n + 5) n_fine_isRow [ci a0, ci a1, ci a2, ci a3, ci a4, ci a5, ci a6, ci a7, ci a8, ci a9] = some [cb (rowOk [a0, a1, a2, a3, a4, a5, a6, a7, a8, a9])] := by
  rw [q_fine_isRow]
  have := w_ContainsFunc_int (n + 2) [a0, a1, a2, a3, a4, a5, a6, a7, a8, a9] (.fn n_fine_isRow_c1 []) (fun x => !within x 0 10000) (by simp) (fun x _ => by rw [v_isRow_c1]; simp)
  simp only [ints, List.map_cons, List.map_nil] at this
  simp [R_fine_isRow, this, retO_ite, rowOk, List.all_cons]
attribute [simp] w_isRow
@[simp] theorem w_CheckTariff (n : Nat) (t : Tariff) : D (n + 6) n_fine_CheckTariff [ci t.frm, ci t.h0, ci t.h1, ci t.h2, ci t.h3, ci t.h4, ci t.h5, ci t.h6, ci t.h7, ci t.h8, ci t.h9, ci t.d0, ci t.d1, ci t.d2, ci t.d3, ci t.d4, ci t.d5, ci t.d6, ci t.d7, ci t.d8, ci t.d9, ci t.feed, ci t.hay, ci t.drv] = some [ci (if t.ok = true then 0 else 60)] := by
  rw [q_fine_CheckTariff]
  by_cases hw : within t.hay 0 60 = true ∧ within t.drv 0 60 = true
  · have e : wr (t.hay + t.drv) = t.hay + t.drv := by
      simp only [within, Bool.and_eq_true, decide_eq_true_eq] at hw
      rw [wr_of (by omega) (by omega)]
    simp [R_fine_CheckTariff, Tariff.ok, Tariff.hs, Tariff.ds, hw, e]; grind
  · simp [R_fine_CheckTariff, Tariff.ok, Tariff.hs, Tariff.ds]; grind
end Go.Proofs.Ytabhbdehbpmpkaa
namespace Go.Proofs.Ytabhbdehbpmpkaa
open Go Go.Sx Go.Fine
set_option maxRecDepth 10000
attribute [local simp] Bool.and_assoc Bool.or_assoc
theorem rising_iff : ∀ {l : List Int}, rising l = true ↔ ∀ i (h : i + 1 < l.length), l[i] < l[i + 1]
  | [] => by simp [rising]
  | [x] => by simp [rising]
  | x :: y :: l => by
    have ih := @rising_iff (y :: l)
    rw [rising, Bool.and_eq_true, ih]
    simp only [decide_eq_true_eq]
    constructor
    · rintro ⟨h1, h2⟩ i hi
      cases i with
      | zero => simpa using h1
      | succ i => exact h2 i (by simpa using hi)
    · intro h
      exact ⟨by simpa using h 0 (by simp), fun i hi => h (i + 1) (by simpa using hi)⟩
def bad {A : Type} (ok : A → Bool) (num : A → Int) (l : List A) (i : Nat) : Bool := match l[i]? with
  | some x => !ok x || (decide (0 < i) && match l[i - 1]? with
    | some y => decide (num x ≤ num y)
    | none => false)
  | none => false
theorem bad_none {A : Type} (ok : A → Bool) (num : A → Int) (l : List A) : ((List.range l.length).find? (bad ok num l)).isNone = (l.all ok && rising (l.map num)) := by
  rw [Bool.eq_iff_iff, Option.isNone_iff_eq_none, List.find?_eq_none, Bool.and_eq_true, List.all_eq_true, rising_iff]
  simp only [List.mem_range, List.length_map, List.getElem_map]
  constructor
  · intro h
    refine ⟨fun x hx => ?_, fun i hi => ?_⟩
    · obtain ⟨i, hi, rfl⟩ := List.mem_iff_getElem.1 hx
      have := h i hi
      simp only [bad, List.getElem?_eq_getElem hi] at this
      simp only [Bool.or_eq_true, not_or, Bool.not_eq_true', Bool.not_eq_false] at this
      exact this.1
    · have := h (i + 1) hi
      simp only [bad, List.getElem?_eq_getElem hi, Nat.add_sub_cancel, List.getElem?_eq_getElem (show i < l.length by omega)] at this
      simp only [Bool.or_eq_true, not_or, Bool.and_eq_true, decide_eq_true_eq, Nat.zero_lt_succ, true_and] at this
      omega
  · rintro ⟨h1, h2⟩ i hi
    simp only [bad, List.getElem?_eq_getElem hi, h1 _ (List.getElem_mem hi), Bool.not_true, Bool.false_or, Bool.and_eq_true, decide_eq_true_eq, not_and]
    intro h0
    rw [List.getElem?_eq_getElem (show i - 1 < l.length by omega)]
    have := h2 (i - 1) (by omega)
    simp only [Nat.sub_add_cancel h0] at this
    simp only [decide_eq_true_eq]
    omega
theorem v_Tariff (M : Den) (t : Tariff) : callV sg M (.fn n_fine_CheckTariff []) [ci t.frm, ci t.h0, ci t.h1, ci t.h2, ci t.h3, ci t.h4, ci t.h5, ci t.h6, ci t.h7, ci t.h8, ci t.h9, ci t.d0, ci t.d1, ci t.d2, ci t.d3, ci t.d4, ci t.d5, ci t.d6, ci t.d7, ci t.d8, ci t.d9, ci t.feed, ci t.hay, ci t.drv] [.agg [li, li, li, li, li, li, li, li, li, li, li, li, li, li, li, li, li, li, li, li, li, li, li, li]] [.one li] = M n_fine_CheckTariff [ci t.frm, ci t.h0, ci t.h1, ci t.h2, ci t.h3, ci t.h4, ci t.h5, ci t.h6, ci t.h7, ci t.h8, ci t.h9, ci t.d0, ci t.d1, ci t.d2, ci t.d3, ci t.d4, ci t.d5, ci t.d6, ci t.d7, ci t.d8, ci t.d9, ci t.feed, ci t.hay, ci t.drv] := rfl
theorem v_num_Tariff (M : Den) (t : Tariff) : callV sg M (.fn n_fine_Check_c1 []) [ci t.frm, ci t.h0, ci t.h1, ci t.h2, ci t.h3, ci t.h4, ci t.h5, ci t.h6, ci t.h7, ci t.h8, ci t.h9, ci t.d0, ci t.d1, ci t.d2, ci t.d3, ci t.d4, ci t.d5, ci t.d6, ci t.d7, ci t.d8, ci t.d9, ci t.feed, ci t.hay, ci t.drv] [.agg [li, li, li, li, li, li, li, li, li, li, li, li, li, li, li, li, li, li, li, li, li, li, li, li]] [.one li] = M n_fine_Check_c1 [ci t.frm, ci t.h0, ci t.h1, ci t.h2, ci t.h3, ci t.h4, ci t.h5, ci t.h6, ci t.h7, ci t.h8, ci t.h9, ci t.d0, ci t.d1, ci t.d2, ci t.d3, ci t.d4, ci t.d5, ci t.d6, ci t.d7, ci t.d8, ci t.d9, ci t.feed, ci t.hay, ci t.drv] := rfl
@[simp] theorem w_num_Tariff (n : Nat) (t : Tariff) : D (n + 1) n_fine_Check_c1 [ci t.frm, ci t.h0, ci t.h1, ci t.h2, ci t.h3, ci t.h4, ci t.h5, ci t.h6, ci t.h7, ci t.h8, ci t.h9, ci t.d0, ci t.d1, ci t.d2, ci t.d3, ci t.d4, ci t.d5, ci t.d6, ci t.d7, ci t.d8, ci t.d9, ci t.feed, ci t.hay, ci t.drv] = some [ci t.frm] := by
  rw [q_fine_Check_c1]; simp [R_fine_Check_c1]
@[simp] theorem w_areRising_Tariff (n : Nat) (l : List Tariff) (most : Int) (hl : l.length < 100000000000000) : D (n + 7) n_fine_areRising_Tariff [.row 24 (l.map Tariff.cv), ci most, .fn n_fine_CheckTariff [], .fn n_fine_Check_c1 []] = some [cb (l.all Tariff.ok && rising (l.map Tariff.frm) && decide ((l.length : Int) ≤ most))] := by
  rw [q_fine_areRising_Tariff]
  unfold R_fine_areRising_Tariff
  rw [loop_find l.length (fun i => [ci (i : Int)]) (bad Tariff.ok Tariff.frm l) (fun i => some (.ret [cb false])) (some (.br 0 [])) ?hv ?hR ?hX
    (fun i hi hp => ?h1) (fun i hi hp => ?h2) ?h3]
  case hv => rfl
  case hR => simp
  case hX => simp
  case h3 => simp
  case h1 =>
    have hw := wr_nat (show i < 9223372036854775807 by omega)
    by_cases h0 : i = 0
    · subst h0
      simp [bad, hi] at hp
      have hw1 : wr 1 = 1 := by decide
      simp [hi, inb_map0, el_map0, Tariff.cv, v_Tariff, hp, hw1]
    · have h0' : 0 < i := by omega
      have hj : i - 1 < l.length := by omega
      have hwj := wr_pred h0' (show i < 9223372036854775807 by omega)
      simp only [bad, List.getElem?_eq_getElem hi, List.getElem?_eq_getElem hj, h0', decide_true, Bool.true_and, Bool.or_eq_false_iff, Bool.not_eq_false', decide_eq_false_iff_not] at hp
      simp [hi, hj, inb_map, el_map, Tariff.cv, v_Tariff, v_num_Tariff, hp, hw, hwj, h0']
  case h2 =>
    by_cases h0 : i = 0
    · subst h0
      simp [bad, hi] at hp
      simp [hi, inb_map0, el_map0, Tariff.cv, v_Tariff, hp]
    · have h0' : 0 < i := by omega
      have hj : i - 1 < l.length := by omega
      have hwj := wr_pred h0' (show i < 9223372036854775807 by omega)
      simp only [bad, List.getElem?_eq_getElem hi, List.getElem?_eq_getElem hj, h0', decide_true, Bool.true_and, Bool.or_eq_true, Bool.not_eq_true', decide_eq_true_eq] at hp
      cases hk : l[i].ok with
      | false => simp [hi, hj, inb_map, el_map, Tariff.cv, v_Tariff, v_num_Tariff, hk, hwj, h0']
      | true =>
        have hp' : l[i].frm ≤ l[i - 1].frm := by simpa [hk] using hp
        simp [hi, hj, inb_map, el_map, Tariff.cv, v_Tariff, v_num_Tariff, hk, hp', hwj, h0']
  · rw [← bad_none Tariff.ok Tariff.frm l]
    cases (List.range l.length).find? (bad Tariff.ok Tariff.frm l) <;> simp
theorem v_Held (M : Den) (t : Held) : callV sg M (.fn n_fine_CheckHeld []) [ci t.src, ci t.beast, ci t.sort, ci t.eats, ci t.worth, ci t.drv, ci t.day, ci t.known, ci t.til] [.agg [li, li, li, li, li, li, li, li, li]] [.one li] = M n_fine_CheckHeld [ci t.src, ci t.beast, ci t.sort, ci t.eats, ci t.worth, ci t.drv, ci t.day, ci t.known, ci t.til] := rfl
theorem v_num_Held (M : Den) (t : Held) : callV sg M (.fn n_fine_heldOf []) [ci t.src, ci t.beast, ci t.sort, ci t.eats, ci t.worth, ci t.drv, ci t.day, ci t.known, ci t.til] [.agg [li, li, li, li, li, li, li, li, li]] [.one li] = M n_fine_heldOf [ci t.src, ci t.beast, ci t.sort, ci t.eats, ci t.worth, ci t.drv, ci t.day, ci t.known, ci t.til] := rfl
@[simp] theorem w_num_Held (n : Nat) (t : Held) : D (n + 1) n_fine_heldOf [ci t.src, ci t.beast, ci t.sort, ci t.eats, ci t.worth, ci t.drv, ci t.day, ci t.known, ci t.til] = some [ci t.src] := by
  rw [q_fine_heldOf]; simp [R_fine_heldOf]
@[simp] theorem w_areRising_Held (n : Nat) (l : List Held) (most : Int) (hl : l.length < 100000000000000) : D (n + 7) n_fine_areRising_Held [.row 9 (l.map Held.cv), ci most, .fn n_fine_CheckHeld [], .fn n_fine_heldOf []] = some [cb (l.all Held.ok && rising (l.map Held.src) && decide ((l.length : Int) ≤ most))] := by
  rw [q_fine_areRising_Held]
  unfold R_fine_areRising_Held
  rw [loop_find l.length (fun i => [ci (i : Int)]) (bad Held.ok Held.src l) (fun i => some (.ret [cb false])) (some (.br 0 [])) ?hv ?hR ?hX
    (fun i hi hp => ?h1) (fun i hi hp => ?h2) ?h3]
  case hv => rfl
  case hR => simp
  case hX => simp
  case h3 => simp
  case h1 =>
    have hw := wr_nat (show i < 9223372036854775807 by omega)
    by_cases h0 : i = 0
    · subst h0
      simp [bad, hi] at hp
      have hw1 : wr 1 = 1 := by decide
      simp [hi, inb_map0, el_map0, Held.cv, v_Held, hp, hw1]
    · have h0' : 0 < i := by omega
      have hj : i - 1 < l.length := by omega
      have hwj := wr_pred h0' (show i < 9223372036854775807 by omega)
      simp only [bad, List.getElem?_eq_getElem hi, List.getElem?_eq_getElem hj, h0', decide_true, Bool.true_and, Bool.or_eq_false_iff, Bool.not_eq_false', decide_eq_false_iff_not] at hp
      simp [hi, hj, inb_map, el_map, Held.cv, v_Held, v_num_Held, hp, hw, hwj, h0']
  case h2 =>
    by_cases h0 : i = 0
    · subst h0
      simp [bad, hi] at hp
      simp [hi, inb_map0, el_map0, Held.cv, v_Held, hp]
    · have h0' : 0 < i := by omega
      have hj : i - 1 < l.length := by omega
      have hwj := wr_pred h0' (show i < 9223372036854775807 by omega)
      simp only [bad, List.getElem?_eq_getElem hi, List.getElem?_eq_getElem hj, h0', decide_true, Bool.true_and, Bool.or_eq_true, Bool.not_eq_true', decide_eq_true_eq] at hp
      cases hk : l[i].ok with
      | false => simp [hi, hj, inb_map, el_map, Held.cv, v_Held, v_num_Held, hk, hwj, h0']
      | true =>
        have hp' : l[i].src ≤ l[i - 1].src := by simpa [hk] using hp
        simp [hi, hj, inb_map, el_map, Held.cv, v_Held, v_num_Held, hk, hp', hwj, h0']
  · rw [← bad_none Held.ok Held.src l]
    cases (List.range l.length).find? (bad Held.ok Held.src l) <;> simp
theorem v_Note (M : Den) (t : Note) : callV sg M (.fn n_fine_CheckNote []) [ci t.src, ci t.stay, ci t.kind, ci t.owner, ci t.day, ci t.known, ci t.til] [.agg [li, li, li, li, li, li, li]] [.one li] = M n_fine_CheckNote [ci t.src, ci t.stay, ci t.kind, ci t.owner, ci t.day, ci t.known, ci t.til] := rfl
theorem v_num_Note (M : Den) (t : Note) : callV sg M (.fn n_fine_noteOf []) [ci t.src, ci t.stay, ci t.kind, ci t.owner, ci t.day, ci t.known, ci t.til] [.agg [li, li, li, li, li, li, li]] [.one li] = M n_fine_noteOf [ci t.src, ci t.stay, ci t.kind, ci t.owner, ci t.day, ci t.known, ci t.til] := rfl
@[simp] theorem w_num_Note (n : Nat) (t : Note) : D (n + 1) n_fine_noteOf [ci t.src, ci t.stay, ci t.kind, ci t.owner, ci t.day, ci t.known, ci t.til] = some [ci t.src] := by
  rw [q_fine_noteOf]; simp [R_fine_noteOf]
@[simp] theorem w_areRising_Note (n : Nat) (l : List Note) (most : Int) (hl : l.length < 100000000000000) : D (n + 7) n_fine_areRising_Note [.row 7 (l.map Note.cv), ci most, .fn n_fine_CheckNote [], .fn n_fine_noteOf []] = some [cb (l.all Note.ok && rising (l.map Note.src) && decide ((l.length : Int) ≤ most))] := by
  rw [q_fine_areRising_Note]
  unfold R_fine_areRising_Note
  rw [loop_find l.length (fun i => [ci (i : Int)]) (bad Note.ok Note.src l) (fun i => some (.ret [cb false])) (some (.br 0 [])) ?hv ?hR ?hX
    (fun i hi hp => ?h1) (fun i hi hp => ?h2) ?h3]
  case hv => rfl
  case hR => simp
  case hX => simp
  case h3 => simp
  case h1 =>
    have hw := wr_nat (show i < 9223372036854775807 by omega)
    by_cases h0 : i = 0
    · subst h0
      simp [bad, hi] at hp
      have hw1 : wr 1 = 1 := by decide
      simp [hi, inb_map0, el_map0, Note.cv, v_Note, hp, hw1]
    · have h0' : 0 < i := by omega
      have hj : i - 1 < l.length := by omega
      have hwj := wr_pred h0' (show i < 9223372036854775807 by omega)
      simp only [bad, List.getElem?_eq_getElem hi, List.getElem?_eq_getElem hj, h0', decide_true, Bool.true_and, Bool.or_eq_false_iff, Bool.not_eq_false', decide_eq_false_iff_not] at hp
      simp [hi, hj, inb_map, el_map, Note.cv, v_Note, v_num_Note, hp, hw, hwj, h0']
  case h2 =>
    by_cases h0 : i = 0
    · subst h0
      simp [bad, hi] at hp
      simp [hi, inb_map0, el_map0, Note.cv, v_Note, hp]
    · have h0' : 0 < i := by omega
      have hj : i - 1 < l.length := by omega
      have hwj := wr_pred h0' (show i < 9223372036854775807 by omega)
      simp only [bad, List.getElem?_eq_getElem hi, List.getElem?_eq_getElem hj, h0', decide_true, Bool.true_and, Bool.or_eq_true, Bool.not_eq_true', decide_eq_true_eq] at hp
      cases hk : l[i].ok with
      | false => simp [hi, hj, inb_map, el_map, Note.cv, v_Note, v_num_Note, hk, hwj, h0']
      | true =>
        have hp' : l[i].src ≤ l[i - 1].src := by simpa [hk] using hp
        simp [hi, hj, inb_map, el_map, Note.cv, v_Note, v_num_Note, hk, hp', hwj, h0']
  · rw [← bad_none Note.ok Note.src l]
    cases (List.range l.length).find? (bad Note.ok Note.src l) <;> simp
end Go.Proofs.Ytabhbdehbpmpkaa
namespace Go.Proofs.Ytabhbdehbpmpkaa
open Go Go.Sx Go.Fine
set_option maxRecDepth 10000
attribute [local simp] Bool.and_assoc Bool.or_assoc
@[simp] theorem w_Check (n : Nat) (p : Acc) (hp : p.fits) : D (n + 8) n_fine_Check [.row 24 (p.ts.map Tariff.cv), .row 9 (p.ss.map Held.cv), .row 7 (p.ns.map Note.cv)] = some [ci (check p)] := by
  rw [q_fine_Check]
  obtain ⟨h1, h2, h3⟩ := hp
  have e1 : ((p.ts.length : Int) ≤ 8) = (p.ts.length ≤ 8) := by apply propext; omega
  have e2 : ((p.ss.length : Int) ≤ 60) = (p.ss.length ≤ 60) := by apply propext; omega
  have e3 : ((p.ns.length : Int) ≤ 60) = (p.ns.length ≤ 60) := by apply propext; omega
  simp [R_fine_Check, h1, h2, h3, check, Acc.ok, listOk, e1, e2, e3]; grind
@[simp] theorem w_check (n : Nat) (p : Acc) (l : List Int) (hp : p.fits) (hl : l.length < 9223372036854775807) : D (n + 9) n_fine_check [.row 24 (p.ts.map Tariff.cv), .row 9 (p.ss.map Held.cv), .row 7 (p.ns.map Note.cv), .row 1 (ints l)] = some [ci (if p.ok then (if l.all isDay then 0 else 6) else 63)] := by
  rw [q_fine_check]
  have h1 := w_ContainsFunc_int (n + 6) l (.fn n_fine_check_c1 []) (fun x => !isDay x) hl (fun x _ => by rw [v_check_c1]; simp)
  have h2 : l.any (fun x => !isDay x) = !l.all isDay := by rw [List.not_all_eq_any_not]
  rw [h2] at h1
  generalize l.all isDay = b at h1 ⊢
  simp [R_fine_check, hp, check, h1, retO_ite]
  cases b <;> simp <;> grind
end Go.Proofs.Ytabhbdehbpmpkaa
namespace Go.Proofs.Ytabhbdehbpmpkaa
open Go Go.Sx Go.Fine
set_option maxRecDepth 10000
attribute [local simp] Bool.and_assoc Bool.or_assoc
theorem last_fold {A : Type} (p : A → Bool) (z : A) : ∀ (l : List A) (s : A × Bool), l.foldl (fun s t => if p t = true then (t, true) else s) s = match (l.filter p).getLast? with
    | some t => (t, true)
    | none => s
  | [], s => rfl
  | a :: l, s => by
    rw [List.foldl_cons, last_fold p z l]
    cases hp : p a with
    | true =>
      rw [List.filter_cons_of_pos hp, List.getLast?_cons]
      cases (l.filter p).getLast? <;> simp
    | false => rw [List.filter_cons_of_neg (by simp [hp])]; simp
def Tariff.cvb (t : Tariff) (b : Bool) : List CV := [ci t.frm, ci t.h0, ci t.h1, ci t.h2, ci t.h3, ci t.h4, ci t.h5, ci t.h6, ci t.h7, ci t.h8, ci t.h9, ci t.d0, ci t.d1, ci t.d2, ci t.d3, ci t.d4, ci t.d5, ci t.d6, ci t.d7, ci t.d8, ci t.d9, ci t.feed, ci t.hay, ci t.drv, cb b]
@[simp] theorem w_inForce (n : Nat) (l : List Tariff) (ss ns : List (List CV)) (d : Int) (hl : l.length < 100000000000000) : D (n + 1) n_fine_inForce [.row 24 (l.map Tariff.cv), .row 9 ss, .row 7 ns, ci d] =
    some (match (l.filter fun t => decide (t.frm ≤ d)).getLast? with | some t => Tariff.cvb t true | none => Tariff.cvb tz false) := by
  rw [q_fine_inForce]
  unfold R_fine_inForce
  rw [loop_foldl l (fun i (s : Tariff × Bool) => cb s.2 :: ci (i : Int) :: s.1.cv) (fun s t => if decide (t.frm ≤ d) = true then (t, true) else s) 0 (fun s => cb s.2 :: s.1.cv) (tz, false) ?hv (fun i h s => ?hs) (fun s => ?he)]
  case hv => simp [Tariff.cv, tz]
  case he => simp [Tariff.cv]
  case hs =>
    have hw := wr_nat (show i < 9223372036854775807 by omega)
    by_cases hc : l[i].frm ≤ d <;> simp [h, inb_map, el_map, Tariff.cv, hw, hc]
  · rw [last_fold _ tz]
    cases (l.filter fun t => decide (t.frm ≤ d)).getLast? <;> simp [Tariff.cv, Tariff.cvb]
end Go.Proofs.Ytabhbdehbpmpkaa
namespace Go.Proofs.Ytabhbdehbpmpkaa
open Go Go.Sx Go.Fine
set_option maxRecDepth 10000
attribute [local simp] Bool.and_assoc Bool.or_assoc
theorem w_inF (n : Nat) (p : Acc) (ss ns : List (List CV)) (d : Int) (hp : p.fits) : D (n + 1) n_fine_inForce [.row 24 (p.ts.map Tariff.cv), .row 9 ss, .row 7 ns, ci d] = some (Tariff.cvb (inForce p d) (inF p d).isSome) := by
  rw [w_inForce _ _ _ _ _ hp.1]
  unfold inForce inF
  cases (p.ts.filter fun t => decide (t.frm ≤ d)).getLast? <;> rfl
attribute [-simp] w_inForce
attribute [simp] w_inF
@[simp] theorem w_daily (n : Nat) (p : Acc) (s : Held) (d : Int) (hp : p.ok = true) (hs : s.ok = true) : D (n + 2) n_fine_daily [.row 24 (p.ts.map Tariff.cv), .row 9 (p.ss.map Held.cv), .row 7 (p.ns.map Note.cv), ci s.src, ci s.beast, ci s.sort, ci s.eats, ci s.worth, ci s.drv, ci s.day, ci s.known, ci s.til, ci d] = some [ci (daily p s d)] := by
  rw [q_fine_daily]
  obtain ⟨h1, h2, h3, h4⟩ := daily_bounds hp hs d
  have e1 : wr (s.eats * (inForce p d).feed) = s.eats * (inForce p d).feed := by rw [wr_of] <;> omega
  have e2 : wr (Int.tdiv (s.eats * (inForce p d).feed) 10) = daily p s d := by unfold daily at *; rw [wr_of] <;> omega
  simp [R_fine_daily, p.ok_fits hp, Tariff.cvb, e1, e2]
theorem ints_app (a b : List Int) : ints (a ++ b) = ints a ++ ints b := List.map_append
@[simp] theorem ints_1 (x : Int) : ints [x] = [[ci x]] := rfl
theorem w_IndexFunc_Held (n : Nat) (l : List Held) (f : CV) (q : Held → Bool) (hl : l.length < 9223372036854775807) (hf : ∀ t ∈ l, callV sg (D n) f [ci t.src, ci t.beast, ci t.sort, ci t.eats, ci t.worth, ci t.drv, ci t.day, ci t.known, ci t.til] [.agg [li, li, li, li, li, li, li, li, li]] [.one lb] = some [cb (q t)]) :
    D (n + 1) n_slices_IndexFunc_Held [.row 9 (l.map Held.cv), f] = some [ci (idxI (l.findIdx? q))] := by
  rw [q_slices_IndexFunc_Held]
  unfold R_slices_IndexFunc_Held
  have hf' : ∀ i (h : i < l.length), callV sg (D n) f [ci l[i].src, ci l[i].beast, ci l[i].sort, ci l[i].eats, ci l[i].worth, ci l[i].drv, ci l[i].day, ci l[i].known, ci l[i].til] [.agg [li, li, li, li, li, li, li, li, li]] [.one lb] = some [cb (q l[i])] := fun i h => hf _ (List.getElem_mem h)
  rw [loop_idx q l (fun i => some (.ret [ci (i : Int)])) (some (.br 0 [])) (fun i => [ci (i : Int)]) ?hv ?hR ?hX (fun i hi hp => ?h1) (fun i hi hp => ?h2) ?h3]
  case hv => rfl
  case hR => simp
  case hX => simp
  case h3 => simp
  case h1 =>
    have hw := wr_nat (show i < 9223372036854775807 by omega)
    simp [hi, inb_map, el_map, Held.cv, hf', hp, hw]
  case h2 => simp [hi, inb_map, el_map, Held.cv, hf', hp]
  · cases l.findIdx? q <;> simp [idxI]
theorem cv_Held_len (t : Held) : t.cv.length = 9 := rfl
theorem cv_Held_oks (t : Held) : oks (List.replicate 9 li) t.cv 0 = true := rfl
theorem cv_Held_cis (t : Held) : cis t.cv 0 9 = t.cv := rfl
theorem w_IndexFunc_Note (n : Nat) (l : List Note) (f : CV) (q : Note → Bool) (hl : l.length < 9223372036854775807) (hf : ∀ t ∈ l, callV sg (D n) f [ci t.src, ci t.stay, ci t.kind, ci t.owner, ci t.day, ci t.known, ci t.til] [.agg [li, li, li, li, li, li, li]] [.one lb] = some [cb (q t)]) :
    D (n + 1) n_slices_IndexFunc_Note [.row 7 (l.map Note.cv), f] = some [ci (idxI (l.findIdx? q))] := by
  rw [q_slices_IndexFunc_Note]
  unfold R_slices_IndexFunc_Note
  have hf' : ∀ i (h : i < l.length), callV sg (D n) f [ci l[i].src, ci l[i].stay, ci l[i].kind, ci l[i].owner, ci l[i].day, ci l[i].known, ci l[i].til] [.agg [li, li, li, li, li, li, li]] [.one lb] = some [cb (q l[i])] := fun i h => hf _ (List.getElem_mem h)
  rw [loop_idx q l (fun i => some (.ret [ci (i : Int)])) (some (.br 0 [])) (fun i => [ci (i : Int)]) ?hv ?hR ?hX (fun i hi hp => ?h1) (fun i hi hp => ?h2) ?h3]
  case hv => rfl
  case hR => simp
  case hX => simp
  case h3 => simp
  case h1 =>
    have hw := wr_nat (show i < 9223372036854775807 by omega)
    simp [hi, inb_map, el_map, Note.cv, hf', hp, hw]
  case h2 => simp [hi, inb_map, el_map, Note.cv, hf', hp]
  · cases l.findIdx? q <;> simp [idxI]
theorem cv_Note_len (t : Note) : t.cv.length = 7 := rfl
theorem cv_Note_oks (t : Note) : oks (List.replicate 7 li) t.cv 0 = true := rfl
theorem cv_Note_cis (t : Note) : cis t.cv 0 7 = t.cv := rfl
theorem v_stays_c1 (M : Den) (s : Held) (c : List CV) : callV sg M (.fn n_fine_stays_c1 [.ref c]) [ci s.src, ci s.beast, ci s.sort, ci s.eats, ci s.worth, ci s.drv, ci s.day, ci s.known, ci s.til] [.agg [li, li, li, li, li, li, li, li, li]] [.one lb] = M n_fine_stays_c1 [ci s.src, ci s.beast, ci s.sort, ci s.eats, ci s.worth, ci s.drv, ci s.day, ci s.known, ci s.til, .ref c] := rfl
@[simp] theorem w_stays_c1 (n : Nat) (s : Held) (k : Int) : D (n + 2) n_fine_stays_c1 [ci s.src, ci s.beast, ci s.sort, ci s.eats, ci s.worth, ci s.drv, ci s.day, ci s.known, ci s.til, .ref [ci k]] = some [cb (!counts s.known s.til k)] := by
  rw [q_fine_stays_c1]; simp [R_fine_stays_c1]
@[simp] theorem w_stays (n : Nat) (p : Acc) (k : Int) (hp : p.ok = true) : D (n + 4) n_fine_stays [.row 24 (p.ts.map Tariff.cv), .row 9 (p.ss.map Held.cv), .row 7 (p.ns.map Note.cv), ci k] = some [.row 9 ((stays p k).map Held.cv)] := by
  rw [q_fine_stays]
  obtain ⟨_, h1, _⟩ := p.ok_len hp
  have hix := w_IndexFunc_Held (n + 2) p.ss (.fn n_fine_stays_c1 [.ref [ci k]]) (fun s => !counts s.known s.til k) (by omega) (fun s _ => by rw [v_stays_c1]; simp)
  have hd := del_row 9 Held.cv hz.cv cv_Held_len cv_Held_oks cv_Held_cis (fun s => !counts s.known s.til k) p.ss (by omega) hix (call := fun c => D (n + 3) n_fine_stays_c1 (cat [c, [.ref [ci k]]])) (fun s _ => by simp [Held.cv])
  have hc := clone_row 9 72 Held.cv p.ss (by omega) (by omega)
  unfold R_fine_stays
  rw [hc]
  simp only [inlO_ret, gr_z]
  change retO (inlO (delX _ (fun c => D (n + 3) n_fine_stays_c1 (cat [c, [.ref [ci k]]])) 9 hz.cv (p.ss.map Held.cv)) _) = _
  rw [hd]
  simp [stays]
theorem v_notes_c1 (M : Den) (x : Note) (c d : List CV) : callV sg M (.fn n_fine_notes_c1 [.ref c, .ref d]) [ci x.src, ci x.stay, ci x.kind, ci x.owner, ci x.day, ci x.known, ci x.til] [.agg [li, li, li, li, li, li, li]] [.one lb] = M n_fine_notes_c1 [ci x.src, ci x.stay, ci x.kind, ci x.owner, ci x.day, ci x.known, ci x.til, .ref c, .ref d] := rfl
@[simp] theorem w_notes_c1 (n : Nat) (x : Note) (s : Held) (k : Int) : D (n + 2) n_fine_notes_c1 [ci x.src, ci x.stay, ci x.kind, ci x.owner, ci x.day, ci x.known, ci x.til, .ref [ci k], .ref [ci s.src, ci s.beast, ci s.sort, ci s.eats, ci s.worth, ci s.drv, ci s.day, ci s.known, ci s.til]] = some [cb (!(counts x.known x.til k && x.stay == s.src && within x.day s.day k))] := by
  rw [q_fine_notes_c1]; simp [R_fine_notes_c1, retO_ite]
@[simp] theorem w_notes (n : Nat) (p : Acc) (s : Held) (k : Int) (hp : p.ok = true) : D (n + 4) n_fine_notes [.row 24 (p.ts.map Tariff.cv), .row 9 (p.ss.map Held.cv), .row 7 (p.ns.map Note.cv), ci s.src, ci s.beast, ci s.sort, ci s.eats, ci s.worth, ci s.drv, ci s.day, ci s.known, ci s.til, ci k] = some [.row 7 ((notes p s k).map Note.cv)] := by
  rw [q_fine_notes]
  obtain ⟨_, _, h1⟩ := p.ok_len hp
  have hix := w_IndexFunc_Note (n + 2) p.ns (.fn n_fine_notes_c1 [.ref [ci k], .ref [ci s.src, ci s.beast, ci s.sort, ci s.eats, ci s.worth, ci s.drv, ci s.day, ci s.known, ci s.til]]) (fun x => !(counts x.known x.til k && x.stay == s.src && within x.day s.day k)) (by omega) (fun x _ => by rw [v_notes_c1]; simp)
  have hd := del_row 7 Note.cv (List.replicate 7 (ci 0)) cv_Note_len cv_Note_oks cv_Note_cis (fun x => !(counts x.known x.til k && x.stay == s.src && within x.day s.day k)) p.ns (by omega) hix (call := fun c => D (n + 3) n_fine_notes_c1 (cat [c, [.ref [ci k], .ref [ci s.src, ci s.beast, ci s.sort, ci s.eats, ci s.worth, ci s.drv, ci s.day, ci s.known, ci s.til]]])) (fun x _ => by simp [Note.cv])
  have hc := clone_row 7 56 Note.cv p.ns (by omega) (by omega)
  unfold R_fine_notes
  rw [hc]
  simp only [inlO_ret, gr_z]
  change retO (inlO (delX _ (fun c => D (n + 3) n_fine_notes_c1 (cat [c, [.ref [ci k], .ref [ci s.src, ci s.beast, ci s.sort, ci s.eats, ci s.worth, ci s.drv, ci s.day, ci s.known, ci s.til]]])) 7 (List.replicate 7 (ci 0)) (p.ns.map Note.cv)) _) = _
  rw [hd]
  simp [notes]
end Go.Proofs.Ytabhbdehbpmpkaa
namespace Go.Proofs.Ytabhbdehbpmpkaa
open Go Go.Sx Go.Fine
set_option maxRecDepth 10000
attribute [local simp] Bool.and_assoc Bool.or_assoc
theorem w_check1 (n : Nat) (p : Acc) (k : Int) (hp : p.fits) : D (n + 9) n_fine_check [.row 24 (p.ts.map Tariff.cv), .row 9 (p.ss.map Held.cv), .row 7 (p.ns.map Note.cv), .row 1 [[ci k]]] = some [ci (asked p k)] := by
  have := w_check n p [k] hp (by simp)
  rw [ints_1] at this
  rw [this]; simp [asked]
theorem asked_ok {p : Acc} {k : Int} (h : asked p k = 0) : p.ok = true ∧ isDay k = true := by
  unfold asked at h
  cases h1 : p.ok <;> cases h2 : isDay k <;> simp [h1, h2] at h ⊢
def Held.cve (s : Held) (e : Int) : List CV := [ci s.src, ci s.beast, ci s.sort, ci s.eats, ci s.worth, ci s.drv, ci s.day, ci s.known, ci s.til, ci e]
@[simp] theorem w_stayOf (n : Nat) (p : Acc) (y k : Int) (hp : p.fits) : D (n + 10) n_fine_stayOf [.row 24 (p.ts.map Tariff.cv), .row 9 (p.ss.map Held.cv), .row 7 (p.ns.map Note.cv), ci y, ci k] = some (Held.cve (stayOf p y k).1 (stayOf p y k).2) := by
  rw [q_fine_stayOf]
  unfold R_fine_stayOf
  have hck := w_check1 n p k hp
  simp only [chunk_s, chunk_z, List.take_succ_cons, List.take_zero]
  rw [hck]
  simp only [callO_val, gi_z, bne_dec, iteB_eq]
  by_cases ha : asked p k = 0
  · obtain ⟨hok, _⟩ := asked_ok ha
    obtain ⟨_, h1, _⟩ := p.ok_len hok
    have h2 : (stays p k).length ≤ 60 := Nat.le_trans (filter_len _ _) h1
    simp only [ha, decide_true, Bool.not_true, Bool.false_eq_true, if_false, w_stays _ _ _ hok, callO_val, gr_z]
    rw [loop_findL (fun s => s.src == y) (fun s => some (.ret (Held.cve s 0))) (some (.br 0 hz.cv)) (stays p k) (fun i => ci (i : Int) :: hz.cv) ?hv ?hR ?hX (fun i hi hq => ?h1) (fun i hi hq => ?h2) ?h3]
    case hv => rfl
    case hR => simp
    case hX => simp
    case h3 => simp [Held.cv, hz]
    case h1 =>
      have hw := wr_nat (show i < 9223372036854775807 by omega)
      simp at hq
      simp [hi, inb_map, el_map, Held.cv, hw, hq, hz]
    case h2 =>
      simp at hq
      simp [hi, inb_map, el_map, Held.cv, hq, Held.cve]
    · simp only [stayOf, ha, if_true]
      cases (stays p k).find? fun s => s.src == y <;> simp [Held.cve, hz]
  · simp [ha, stayOf, Held.cve, hz]
theorem stayOf_ok {p : Acc} {y k : Int} (h : (stayOf p y k).2 = 0) : p.ok = true ∧ isDay k = true ∧ (stayOf p y k).1 ∈ stays p k ∧ (stayOf p y k).1.ok = true ∧ (stayOf p y k).1.src = y := by
  unfold stayOf at h ⊢
  split at h
  · rename_i ha
    obtain ⟨h1, h2⟩ := asked_ok ha
    rw [if_pos ha]
    cases hf : (stays p k).find? fun s => s.src == y with
    | none => rw [hf] at h; simp at h
    | some s =>
      have hm := List.mem_of_find?_eq_some hf
      have hs := List.find?_some hf
      exact ⟨h1, h2, hm, p.ok_s h1 (stays_mem hm), by simpa using hs⟩
  · rename_i ha; exact absurd h ha
end Go.Proofs.Ytabhbdehbpmpkaa
namespace Go.Proofs.Ytabhbdehbpmpkaa
open Go Go.Sx Go.Fine
set_option maxRecDepth 10000
attribute [local simp] Bool.and_assoc Bool.or_assoc
theorem w_whose (n : Nat) (l : List Note) (hl : l.length ≤ 1000) (ho : ∀ x ∈ l, x.ok = true) : D (n + 1) n_fine_whose [.row 7 (l.map Note.cv)] = some [ci (ownerOf l), ci (stopOf l)] := by
  rw [q_fine_whose]
  unfold R_fine_whose
  rw [loop_foldl l (fun i (s : Int × Note × Note) => ci s.1 :: ci (i : Int) :: (s.2.1.cv ++ s.2.2.cv)) (fun s x => (stopS s.1 x, claimS s.2.1 x, judgeS s.2.2 x)) 0 (fun s => ci s.1 :: (s.2.1.cv ++ s.2.2.cv)) (-1, c0, j0) ?hv (fun i hi s => ?hs) (fun s => ?he)]
  case hv => simp [Note.cv, j0, c0]
  case he => simp [Note.cv]
  case hs =>
    have hw := wr_nat (show i < 9223372036854775807 by omega)
    have hk := (Note.ok_b (ho _ (List.getElem_mem hi))).2.2.1
    rcases hk with ⟨hk, _⟩ | ⟨hk | hk, _⟩
    · simp [hi, inb_map, el_map, Note.cv, hw, hk, stopS, claimS, judgeS]
    · by_cases hd : l[i].day < s.2.1.day <;> simp [hi, inb_map, el_map, Note.cv, hw, hk, hd, stopS, claimS, judgeS] <;> grind
    · by_cases hd : s.2.2.known ≤ l[i].known <;> simp [hi, inb_map, el_map, Note.cv, hw, hk, hd, stopS, claimS, judgeS] <;> grind
  · have h3 : l.foldl (fun (s : Int × Note × Note) x => (stopS s.1 x, claimS s.2.1 x, judgeS s.2.2 x)) (-1, c0, j0) = (l.foldl stopS (-1), l.foldl claimS c0, l.foldl judgeS j0) := by
      have key : ∀ (l : List Note) (a : Int) (b c : Note), l.foldl (fun (s : Int × Note × Note) x => (stopS s.1 x, claimS s.2.1 x, judgeS s.2.2 x)) (a, b, c) = (l.foldl stopS a, l.foldl claimS b, l.foldl judgeS c) := by
        intro l
        induction l with
        | nil => intros; rfl
        | cons x l ih => intro a b c; simp only [List.foldl_cons]; exact ih _ _ _
      exact key _ _ _ _
    have hj := judge_fold l
    have hn := judge_owner l ho
    rw [h3, stop_fold l ho]
    rw [hj] at hn
    simp [Note.cv, ownerOf, hj, (claim_fold l ho).1]
    grind
attribute [simp] w_whose
theorem w_days_c1 (n : Nat) (a b : Int) (h1 : -9223372036854775808 ≤ a) (h2 : b < 9223372036854775807) : D (n + 1) n_fine_days_c1 [.ref [ci a], .ref [ci b]] = some ((upto a b).map ci) := by
  show daysIt [.ref [ci a], .ref [ci b]] = _
  simp only [daysIt, ci]
  rw [if_pos ⟨h1, h2⟩]
theorem it_days (n : Nat) (a b : Int) (h1 : -9223372036854775808 ≤ a) (h2 : b < 9223372036854775807) : itV sg (D (n + 1)) (.fn n_fine_days_c1 [.ref [ci a], .ref [ci b]]) = some (upto a b) := by
  have hs : sg n_fine_days_c1 = none := rfl
  simp only [itV, hs, w_days_c1 n a b h1 h2, intsOf_ci]
theorem sold_step (p : Acc) (s : Held) (hp : p.ok = true) (hs : s.ok = true) {x : Int} {e : Int} (he : 0 ≤ e ∧ e ≤ s.worth) : wr (e + daily p s x) = e + daily p s x := by
  obtain ⟨h1, h2, _⟩ := daily_bounds hp hs x
  have := (Held.ok_b hs).2.2.2.1
  rw [wr_of] <;> omega
@[simp] theorem w_sold (n : Nat) (p : Acc) (s : Held) (k : Int) (hp : p.ok = true) (hs : s.ok = true) (hk : isDay k = true) : D (n + 3) n_fine_sold [.row 24 (p.ts.map Tariff.cv), .row 9 (p.ss.map Held.cv), .row 7 (p.ns.map Note.cv), ci s.src, ci s.beast, ci s.sort, ci s.eats, ci s.worth, ci s.drv, ci s.day, ci s.known, ci s.til, ci k] = some [ci (sold p s k)] := by
  rw [q_fine_sold]
  unfold R_fine_sold
  have hb := Held.ok_b hs
  simp only [isDay, within, Bool.and_eq_true, decide_eq_true_eq] at hk
  by_cases h0 : s.worth = 0
  · simp [h0, sold]
  · have e1 : wr (s.day + 720) = s.day + 720 := by rw [wr_of] <;> omega
    have e2 : (if s.day + 720 < k then s.day + 720 else k) = min k (s.day + 720) := by omega
    simp only [iteB_eq, beq_dec, h0, decide_false, Bool.false_eq_true, if_false, e1, e2, w_days, callO_val]
    rw [show List.getD [CV.fn n_fine_days_c1 [.ref [ci s.day], .ref [ci (min k (s.day + 720))]]] 0 dC = CV.fn n_fine_days_c1 [.ref [ci s.day], .ref [ci (min k (s.day + 720))]] from rfl, it_days _ _ _ (by omega) (by omega)]
    generalize hst : (fun (x1 : Int) (v1 : List CV) => _) = step
    have hstep : ∀ (x : Int) (e : Int × Int), step x [ci e.1, ci e.2] = if wr (e.2 + daily p s x) ≥ s.worth then some (Ou.ret [ci x]) else some (Ou.nx [ci e.1, ci (wr (e.2 + daily p s x))]) := by
      intro x e
      rw [← hst]
      simp [hp, hs]; grind
    rw [rangeO_of (xs := upto s.day (min k (s.day + 720))) (step := step) (vs := [ci 0, ci 0]) (fun l => range_total (fun (e : Int × Int) => [ci e.1, ci e.2]) (fun x e => by
      rw [hstep]
      split
      · exact .inr ⟨_, rfl, by simp⟩
      · exact .inl ⟨(e.1, wr (e.2 + daily p s x)), rfl⟩) l (0, 0))]
    have key : ∀ (xs : List Int) (e : Int × Int), (∀ x ∈ xs, 0 ≤ x) → 0 ≤ e.2 → e.2 < s.worth → (soldL p s e.2 xs = -1 ∧ ∃ vs, rangeL step xs [ci e.1, ci e.2] = some (.nx vs)) ∨ (0 ≤ soldL p s e.2 xs ∧ rangeL step xs [ci e.1, ci e.2] = some (.ret [ci (soldL p s e.2 xs)])) := by
      intro xs
      induction xs with
      | nil => intro e _ _ _; exact .inl ⟨rfl, _, rfl⟩
      | cons x xs ih =>
        intro e hx h1 h2
        have h3 := hstep x e
        rw [sold_step p s hp hs ⟨h1, by omega⟩] at h3
        simp only [rangeL, h3, soldL]
        by_cases hc : e.2 + daily p s x ≥ s.worth
        · simp only [if_pos hc]; exact .inr ⟨hx x (by simp), trivial⟩
        · simp only [if_neg hc]
          exact ih (e.1, e.2 + daily p s x) (fun y hy => hx y (by simp [hy])) (by have := (daily_bounds hp hs x).1; simp only; omega) (by simp only; omega)
    have hpos : ∀ x ∈ upto s.day (min k (s.day + 720)), 0 ≤ x := fun x hx => by have := mem_upto.1 hx; omega
    rcases key (upto s.day (min k (s.day + 720))) (0, 0) hpos (by simp) (by simp only; omega) with ⟨h1, vs, h2⟩ | ⟨h1, h2⟩
    · simp only at h1 h2
      rw [h2]; simp [sold, h0, h1]
    · simp only at h1 h2
      rw [h2]; simp [sold, h0]
end Go.Proofs.Ytabhbdehbpmpkaa
namespace Go.Proofs.Ytabhbdehbpmpkaa
open Go Go.Sx Go.Fine
set_option maxRecDepth 10000
attribute [local simp] Bool.and_assoc Bool.or_assoc
theorem w_lot (n : Nat) (p : Acc) (s : Held) (k : Int) (hp : p.ok = true) (hs : s.ok = true) (hk : isDay k = true) : D (n + 5) n_fine_lot [.row 24 (p.ts.map Tariff.cv), .row 9 (p.ss.map Held.cv), .row 7 (p.ns.map Note.cv), ci s.src, ci s.beast, ci s.sort, ci s.eats, ci s.worth, ci s.drv, ci s.day, ci s.known, ci s.til, ci k] = some [ci (lot p s k).owner, ci (lot p s k).stop, ci (lot p s k).fin, ci (lot p s k).day] := by
  rw [q_fine_lot]
  have hb := Held.ok_b hs
  have hl : (notes p s k).length ≤ 1000 := Nat.le_trans (filter_len _ _) (by have := p.ok_len hp; omega)
  have ho : ∀ x ∈ notes p s k, x.ok = true := fun x hx => p.ok_n hp (notes_mem hx)
  have e1 : wr (s.day + 360) = s.day + 360 := by rw [wr_of] <;> omega
  have e2 : wr (s.day + 361) = s.day + 361 := by rw [wr_of] <;> omega
  have e2' : wr (s.day + 360 + 1) = s.day + 361 := by rw [wr_of] <;> omega
  have e3 : wr (s.day + 720) = s.day + 720 := by rw [wr_of] <;> omega
  have hfv : (if (decide (stopOf (notes p s k) < 0) || decide (stopOf (notes p s k) > s.day + 360)) = true then s.day + 361 else -1) = forfeit s (notes p s k) := by simp [forfeit]
  have hel : ends p s k = [(1, least 2 (notes p s k)), (2, sold p s k), (3, forfeit s (notes p s k)), (4, s.day + 720)] := rfl
  simp only [R_fine_lot, w_notes _ _ _ _ hp, callO_val, gr_z, w_whose _ _ hl ho, w_sold _ _ _ _ hp hs hk, gi_z, gi_s, e1, e2', e3]
  rw [loop_ix 5 (fun i => [ci (i : Int), ci (if 0 < i then -1 else 0), ci (if 1 < i then -1 else 0), ci (if 2 < i then -1 else 0), ci (if 3 < i then -1 else 0), ci (if 4 < i then -1 else 0)]) (some (.br 0 [ci (-1), ci (-1), ci (-1), ci (-1), ci (-1)])) ?hv1 (fun i hi => ?hs1) ?he1 ?hr1]
  case hv1 => rfl
  case hr1 => simp
  case hs1 =>
    have w1 : wr 1 = 1 := by decide
    have w2 : wr 2 = 2 := by decide
    have w3 : wr 3 = 3 := by decide
    have w4 : wr 4 = 4 := by decide
    have w5 : wr 5 = 5 := by decide
    have : i = 0 ∨ i = 1 ∨ i = 2 ∨ i = 3 ∨ i = 4 := by omega
    rcases this with rfl | rfl | rfl | rfl | rfl <;> simp [w1, w2, w3, w4, w5]
  case he1 => simp
  simp only [blkO_br]
  rw [loop_foldl (notes p s k) (fun i (x : Int) => [ci (i : Int), ci (-1), ci x, ci (-1), ci (-1), ci (-1)]) (leastS 2) 2 (fun x => [ci (-1), ci x, ci (-1), ci (-1), ci (-1)]) (-1) ?hv2 (fun i hi x => ?hs2) (fun x => ?he2)]
  case hv2 => rfl
  case he2 => simp
  case hs2 =>
    have hw := wr_nat (show i < 9223372036854775807 by omega)
    by_cases hk : (notes p s k)[i].kind = 2 <;> simp [hi, inb_map, el_map, Note.cv, hw, hk, leastS] <;> grind
  rw [← least_def]
  simp only [blkO_br, gi_z, gi_s, seq_or, seq_if, gb_z, ite_cells, ite_ci, ite_self, hfv]
  rw [loop_foldl ((0, -1) :: ends p s k) (fun i (x : Int × Int) => [ci (i : Int), ci (ownerOf (notes p s k)), ci (stopOf (notes p s k)), ci x.1, ci x.2]) (lotStep k) 4 (fun x => [ci (ownerOf (notes p s k)), ci (stopOf (notes p s k)), ci x.1, ci x.2]) (0, -1) ?hv (fun i hi x => ?hs) (fun x => ?he)]
  case hv => rfl
  case he => simp [hel]
  case hs =>
    have hi : i < 5 := hi
    have : i = 0 ∨ i = 1 ∨ i = 2 ∨ i = 3 ∨ i = 4 := by omega
    have w1 : wr 1 = 1 := by decide
    have w2 : wr 2 = 2 := by decide
    have w3 : wr 3 = 3 := by decide
    have w4 : wr 4 = 4 := by decide
    have w5 : wr 5 = 5 := by decide
    rcases this with rfl | rfl | rfl | rfl | rfl <;> simp [hel, lotStep, blkO_ite, seqO_ite, w1, w2, w3, w4, w5] <;> grind
  · have : lotStep k (0, -1) (0, -1) = (0, -1) := by simp [lotStep]
    simp [lot, this]
end Go.Proofs.Ytabhbdehbpmpkaa
namespace Go.Proofs.Ytabhbdehbpmpkaa
open Go Go.Sx Go.Fine
set_option maxRecDepth 10000
attribute [local simp] Bool.and_assoc Bool.or_assoc
attribute [simp] w_lot
theorem last_wr (x : Lot) (h1 : -1 ≤ x.day) (h2 : x.day ≤ 100000) : wr (x.day - 1) = x.day - 1 := by rw [wr_of] <;> omega
@[simp] theorem w_fed (n : Nat) (s : Held) (x : Lot) (k : Int) (h1 : -1 ≤ x.day) (h2 : x.day ≤ 100000) : D (n + 2) n_fine_fed [ci s.src, ci s.beast, ci s.sort, ci s.eats, ci s.worth, ci s.drv, ci s.day, ci s.known, ci s.til, ci x.owner, ci x.stop, ci x.fin, ci x.day, ci k] = some [.fn n_fine_days_c1 [.ref [ci s.day], .ref [ci (lastDay x k)]]] := by
  rw [q_fine_fed]
  have e := last_wr x h1 h2
  simp only [R_fine_fed, lastDay, beq_dec, bne_dec, iteB_eq]
  by_cases hc : x.fin = 2
  · simp [hc]
  · by_cases hd : x.fin = 0 <;> simp [hc, hd, e]
theorem cis_cvb (t : Tariff) (b : Bool) : cis (Tariff.cvb t b) 0 24 = t.cv := rfl
theorem oks_cv (t : Tariff) (o : Nat) (h : o < 24) : oks [li] t.cv o = true := oks_int1 rfl h
def runS (p : Acc) (s : Held) (x : Lot) (a : Int × Int × Int) (d : Int) : Int × Int × Int := (a.1, wr (a.2.1 + daily p s d), if x.stop < 0 ∨ d < x.stop then wr (a.2.2 + dailyOf (inForce p d) s.sort) else a.2.2)
theorem run_sums {p : Acc} (hp : p.ok = true) {s : Held} (hs : s.ok = true) (x : Lot) : ∀ (l : List Int) (a : Int × Int × Int), 0 ≤ a.2.1 → 0 ≤ a.2.2 → a.2.1 + l.length * 100000 < 9223372036854775808 → a.2.2 + l.length * 100000 < 9223372036854775808 →
    l.foldl (runS p s x) a = (a.1, a.2.1 + sumOf (daily p s) l, a.2.2 + sumOf (fineOf p s x) l)
  | [], a, _, _, _, _ => by simp [sumOf]
  | d :: l, a, h1, h2, h3, h4 => by
    obtain ⟨b1, b2, _⟩ := daily_bounds hp hs d
    obtain ⟨c1, c2⟩ := (head_bounds hp hs d).2
    have hl : (((d :: l).length : Nat) : Int) * 100000 = l.length * 100000 + 100000 := by simp [Int.add_mul]
    rw [hl] at h3 h4
    have e1 : wr (a.2.1 + daily p s d) = a.2.1 + daily p s d := by rw [wr_of] <;> omega
    have e2 : wr (a.2.2 + dailyOf (inForce p d) s.sort) = a.2.2 + dailyOf (inForce p d) s.sort := by rw [wr_of] <;> omega
    have e3 : runS p s x a d = (a.1, a.2.1 + daily p s d, a.2.2 + fineOf p s x d) := by
      unfold runS fineOf; rw [e1, e2]; split <;> simp
    have f := fineOf_bounds hp hs x d
    rw [List.foldl_cons, e3, run_sums hp hs x l _ (by simp only; omega) (by simp only; omega) (by simp only; omega) (by simp only; omega)]
    simp only [sumOf_cons, Prod.mk.injEq, true_and]
    omega
@[simp] theorem w_charge (n : Nat) (p : Acc) (s : Held) (x : Lot) (k : Int) (hp : p.ok = true) (hs : s.ok = true) (hk : isDay k = true) (h1 : -1 ≤ x.day) (h2 : x.day ≤ 100000) : D (n + 4) n_fine_charge [.row 24 (p.ts.map Tariff.cv), .row 9 (p.ss.map Held.cv), .row 7 (p.ns.map Note.cv), ci s.src, ci s.beast, ci s.sort, ci s.eats, ci s.worth, ci s.drv, ci s.day, ci s.known, ci s.til, ci x.owner, ci x.stop, ci x.fin, ci x.day, ci k] = some [ci (charge p s x k).head, ci (charge p s x k).feed, ci (charge p s x k).fine] := by
  rw [q_fine_charge]
  have hb := Held.ok_b hs
  simp only [isDay, within, Bool.and_eq_true, decide_eq_true_eq] at hk
  have hf := p.ok_fits hp
  have hs1 : (0 : Int) ≤ s.sort := by omega
  have hs2 : s.sort < 10 := by omega
  have hs3 : 1 + s.sort.toNat * 1 < 24 := by omega
  have hs4 : 11 + s.sort.toNat * 1 < 24 := by omega
  have hlb : -2 ≤ lastDay x k ∧ lastDay x k ≤ 100000 := by unfold lastDay; split <;> (try split) <;> omega
  have hl := fed_len s x k hb.2.2.2.2.2.1.1 hk.2 h2
  unfold R_fine_charge
  simp only [w_inF _ _ _ _ _ hf, callO_val, cis_cvb, hs1, hs2, decide_true, Bool.and_self, chk_true, oks_cv _ _ hs3, oks_cv _ _ hs4, Int.ofNat_eq_natCast, Int.cast_ofNat_Int, w_fed _ _ _ _ h1 h2, seq_if]
  rw [show List.getD [CV.fn n_fine_days_c1 [.ref [ci s.day], .ref [ci (lastDay x k)]]] 0 dC = CV.fn n_fine_days_c1 [.ref [ci s.day], .ref [ci (lastDay x k)]] from rfl, it_days _ _ _ (by omega) (by omega)]
  obtain ⟨h0, hh0⟩ : ∃ h0, h0 = if s.day ≤ k then headOf (inForce p s.day) s.sort else 0 := ⟨_, rfl⟩
  have e0 : (if decide (s.day ≤ k) = true then [ci (gi (inForce p s.day).cv (1 + s.sort.toNat * 1)), ci 0, ci 0] else [ci 0, ci 0, ci 0]) = [ci h0, ci 0, ci 0] := by
    rw [hh0]; simp [headOf]
  rw [e0]
  rw [range_fold (fun (a : Int × Int × Int) => [ci a.1, ci a.2.1, ci a.2.2]) (runS p s x) (h0, 0, 0) ?hv (fun d a => ?hs)]
  case hv => rfl
  case hs =>
    by_cases hc : x.stop < 0
    · simp [hp, hs, hc, runS, dailyOf]
    · by_cases hd : d < x.stop <;> simp [hp, hs, hc, hd, runS, dailyOf]
  · rw [show upto s.day (lastDay x k) = fedDays s x k from rfl, run_sums hp hs x _ _ (by simp) (by simp) (by simp only; omega) (by simp only; omega)]
    simp [charge, hh0]
theorem upto_get {a b : Int} {i : Nat} (h : i < (upto a b).length) : (upto a b)[i] = a + i := by simp [upto]
theorem payer_bounds {p : Acc} (hp : p.ok = true) {s : Held} (hs : s.ok = true) (k : Int) (hk : isDay k = true) : 0 ≤ (payer s (lot p s k) (charge p s (lot p s k) k)).2 ∧ (payer s (lot p s k) (charge p s (lot p s k) k)).2 ≤ 50000000000 := by
  have hb := Held.ok_b hs
  simp only [isDay, within, Bool.and_eq_true, decide_eq_true_eq] at hk
  obtain ⟨h1, h2, _⟩ := lot_day p s k (by omega)
  obtain ⟨c1, c2, c3⟩ := charge_bounds hp hs (lot p s k) k hk.2 (by omega)
  unfold payer Charge.sum
  split
  · simp only; omega
  · split <;> simp only <;> omega
theorem shares_wr (y h : Int) (h1 : 0 ≤ y) (h2 : y ≤ 50000000000) (h3 : 0 ≤ h) (h4 : h ≤ 60) : wr (y * h) = y * h ∧ wr (Int.tdiv (y * h) 60) = Int.tdiv (y * h) 60 ∧ 0 ≤ Int.tdiv (y * h) 60 ∧ Int.tdiv (y * h) 60 ≤ y := by
  have a1 : 0 ≤ y * h := Int.mul_nonneg h1 h3
  have a2 : y * h ≤ y * 60 := Int.mul_le_mul_of_nonneg_left h4 h1
  have a3 : Int.tdiv (y * h) 60 = y * h / 60 := Int.tdiv_eq_ediv_of_nonneg a1
  rw [a3]
  refine ⟨by rw [wr_of] <;> omega, by rw [wr_of] <;> omega, by omega, by omega⟩
theorem owner_bounds : ∀ (l : List Note), (∀ n ∈ l, n.ok = true) → 0 ≤ ownerOf l ∧ ownerOf l ≤ 99 := by
  intro l h
  have hj : 0 ≤ (judged l).2 ∧ (judged l).2 ≤ 99 := by
    revert h
    refine snoc_ind (P := fun l => (∀ n ∈ l, n.ok = true) → 0 ≤ (judged l).2 ∧ (judged l).2 ≤ 99) ?_ ?_ l
    · intro _; simp [judged]
    · intro l a ih h
      have ih := ih fun n hn => h n (by simp [hn])
      obtain ⟨_, _, hk, _⟩ := Note.ok_b (h a (by simp))
      simp only [judged, List.foldl_append, List.foldl_cons, List.foldl_nil] at ih ⊢
      split <;> omega
  have hc : 0 ≤ claimer l ∧ claimer l ≤ 99 := by
    unfold claimer
    cases hf : l.find? (fun n => n.kind == 1 && n.day == least 1 l) with
    | none => simp
    | some n =>
      obtain ⟨_, _, hk, _⟩ := Note.ok_b (h n (List.mem_of_find?_eq_some hf))
      simp only [Option.map_some, Option.getD_some]; omega
  unfold ownerOf; split <;> omega
theorem w_due (n : Nat) (p : Acc) (s : Held) (k : Int) (hp : p.ok = true) (hs : s.ok = true) (hk : isDay k = true) : D (n + 6) n_fine_due [.row 24 (p.ts.map Tariff.cv), .row 9 (p.ss.map Held.cv), .row 7 (p.ns.map Note.cv), ci s.src, ci s.beast, ci s.sort, ci s.eats, ci s.worth, ci s.drv, ci s.day, ci s.known, ci s.til, ci k] = some [ci (dueOf p s k).payer, ci (dueOf p s k).hay, ci (dueOf p s k).drv, ci (dueOf p s k).lord] := by
  rw [q_fine_due]
  have hf := p.ok_fits hp
  obtain ⟨y1, y2⟩ := payer_bounds hp hs k hk
  obtain ⟨t1, t2, t3⟩ := hay_bounds hp s.day
  have hk' := hk
  simp only [isDay, within, Bool.and_eq_true, decide_eq_true_eq] at hk'
  obtain ⟨h1, h2, _⟩ := lot_day p s k (by omega)
  obtain ⟨c1, c2, c3⟩ := charge_bounds hp hs (lot p s k) k hk'.2 (by omega)
  have ho := owner_bounds (notes p s k) fun x hx => p.ok_n hp (notes_mem hx)
  have hoo : (lot p s k).owner = ownerOf (notes p s k) := rfl
  obtain ⟨a1, a2, a3, a4⟩ := shares_wr _ (inForce p s.day).hay y1 y2 (by omega) (by omega)
  obtain ⟨b1, b2, b3, b4⟩ := shares_wr _ (inForce p s.day).drv y1 y2 (by omega) (by omega)
  have e1 : wr (2 + (lot p s k).owner) = 2 + (lot p s k).owner := by rw [wr_of] <;> omega
  have e2 : wr ((charge p s (lot p s k) k).head + (charge p s (lot p s k) k).feed) = (charge p s (lot p s k) k).head + (charge p s (lot p s k) k).feed := by rw [wr_of] <;> omega
  have e3 : wr ((charge p s (lot p s k) k).head + (charge p s (lot p s k) k).feed + (charge p s (lot p s k) k).fine) = (charge p s (lot p s k) k).sum := by unfold Charge.sum; rw [wr_of] <;> omega
  simp only [R_fine_due, w_lot _ _ _ _ hp hs hk, callO_val, cis_s, cis_z, cat_s, cat_1, gi_z, gi_s, List.cons_append, List.nil_append, w_charge _ _ _ _ _ hp hs hk h1 (by omega : (lot p s k).day ≤ 100000), w_inF _ _ _ _ _ hf]
  have hy : ∀ K : List CV → Option Ou, (seqO (iteB ((lot p s k).fin == 2)
        (some (.nx [ci 2, ci s.worth]))
        (seqO (iteB ((lot p s k).fin != 3)
            (some (.nx [cb ((lot p s k).owner != 0)]))
            (some (.nx [cb false]))) fun v2 =>
        seqO (iteB (gb v2 0)
            (some (.nx [ci (wr (2 + (lot p s k).owner)), ci (wr ((wr ((charge p s (lot p s k) k).head + (charge p s (lot p s k) k).feed)) + (charge p s (lot p s k) k).fine))]))
            (some (.nx [ci (-1), ci 0]))) fun v3 =>
        some (.nx [ci (gi v3 0), ci (gi v3 1)]))) K) = K [ci (payer s (lot p s k) (charge p s (lot p s k) k)).1, ci (payer s (lot p s k) (charge p s (lot p s k) k)).2] := by
    intro K
    rw [e1, e2, e3]
    unfold payer
    by_cases x1 : (lot p s k).fin = 2
    · simp [x1]
    · by_cases x2 : (lot p s k).fin = 3
      · simp [x2]
      · by_cases x3 : (lot p s k).owner = 0 <;> simp [x1, x2, x3]
  rw [hy]
  unfold dueOf shares
  generalize hyy : payer s (lot p s k) (charge p s (lot p s k) k) = y at *
  by_cases hd : s.drv = 0
  · have e4 : wr (y.2 - (y.2 * (inForce p s.day).hay).tdiv 60) = y.2 - (y.2 * (inForce p s.day).hay).tdiv 60 := by rw [wr_of] <;> omega
    simp [hd, Tariff.cvb, a1, a2, e4]
  · have e4 : wr (y.2 - (y.2 * (inForce p s.day).hay).tdiv 60) = y.2 - (y.2 * (inForce p s.day).hay).tdiv 60 := by rw [wr_of] <;> omega
    have e5 : wr (y.2 - (y.2 * (inForce p s.day).hay).tdiv 60 - (y.2 * (inForce p s.day).drv).tdiv 60) = y.2 - (y.2 * (inForce p s.day).hay).tdiv 60 - (y.2 * (inForce p s.day).drv).tdiv 60 := by rw [wr_of] <;> omega
    simp [hd, Tariff.cvb, a1, a2, b1, b2, e4, e5]
attribute [simp] w_due
end Go.Proofs.Ytabhbdehbpmpkaa
namespace Go.Proofs.Ytabhbdehbpmpkaa
open Go Go.Sx Go.Fine
set_option maxRecDepth 10000
attribute [local simp] Bool.and_assoc Bool.or_assoc
def lotOf (p : Acc) (y k : Int) : Fine.Lot × Int := if (stayOf p y k).2 = 0 then (lot p (stayOf p y k).1 k, 0) else (⟨0, 0, 0, 0⟩, (stayOf p y k).2)
def chargedOf (p : Acc) (y k : Int) : Charge × Int := if (stayOf p y k).2 = 0 then (charge p (stayOf p y k).1 (lot p (stayOf p y k).1 k) k, 0) else (⟨0, 0, 0⟩, (stayOf p y k).2)
def duesOf (p : Acc) (y k : Int) : Due × Int := if (stayOf p y k).2 = 0 then (dueOf p (stayOf p y k).1 k, 0) else (⟨0, 0, 0, 0⟩, (stayOf p y k).2)
@[simp] theorem w_Lot (n : Nat) (p : Acc) (y k : Int) (hp : p.fits) : D (n + 11) n_fine_Lot [.row 24 (p.ts.map Tariff.cv), .row 9 (p.ss.map Held.cv), .row 7 (p.ns.map Note.cv), ci y, ci k] = some [ci (lotOf p y k).1.owner, ci (lotOf p y k).1.stop, ci (lotOf p y k).1.fin, ci (lotOf p y k).1.day, ci (lotOf p y k).2] := by
  rw [q_fine_Lot]
  simp only [R_fine_Lot, w_stayOf _ _ _ _ hp, callO_val, Held.cve, gi_z, gi_s, bne_dec, iteB_eq]
  by_cases he : (stayOf p y k).2 = 0
  · obtain ⟨hok, hk, hm, hs, _⟩ := stayOf_ok he
    have hk' := hk
    simp only [isDay, within, Bool.and_eq_true, decide_eq_true_eq] at hk'
    obtain ⟨h1, h2, _⟩ := lot_day p (stayOf p y k).1 k (by omega)
    simp [he, lotOf, hok, hs, hk, h1, (by omega : (lot p (stayOf p y k).1 k).day ≤ 100000)]
  · simp [he, lotOf]
@[simp] theorem w_Charged (n : Nat) (p : Acc) (y k : Int) (hp : p.fits) : D (n + 11) n_fine_Charged [.row 24 (p.ts.map Tariff.cv), .row 9 (p.ss.map Held.cv), .row 7 (p.ns.map Note.cv), ci y, ci k] = some [ci (chargedOf p y k).1.head, ci (chargedOf p y k).1.feed, ci (chargedOf p y k).1.fine, ci (chargedOf p y k).2] := by
  rw [q_fine_Charged]
  simp only [R_fine_Charged, w_stayOf _ _ _ _ hp, callO_val, Held.cve, gi_z, gi_s, bne_dec, iteB_eq]
  by_cases he : (stayOf p y k).2 = 0
  · obtain ⟨hok, hk, hm, hs, _⟩ := stayOf_ok he
    have hk' := hk
    simp only [isDay, within, Bool.and_eq_true, decide_eq_true_eq] at hk'
    obtain ⟨h1, h2, _⟩ := lot_day p (stayOf p y k).1 k (by omega)
    simp [he, chargedOf, hok, hs, hk, h1, (by omega : (lot p (stayOf p y k).1 k).day ≤ 100000)]
  · simp [he, chargedOf]
@[simp] theorem w_Dues (n : Nat) (p : Acc) (y k : Int) (hp : p.fits) : D (n + 11) n_fine_Dues [.row 24 (p.ts.map Tariff.cv), .row 9 (p.ss.map Held.cv), .row 7 (p.ns.map Note.cv), ci y, ci k] = some [ci (duesOf p y k).1.payer, ci (duesOf p y k).1.hay, ci (duesOf p y k).1.drv, ci (duesOf p y k).1.lord, ci (duesOf p y k).2] := by
  rw [q_fine_Dues]
  simp only [R_fine_Dues, w_stayOf _ _ _ _ hp, callO_val, Held.cve, gi_z, gi_s, bne_dec, iteB_eq]
  by_cases he : (stayOf p y k).2 = 0
  · obtain ⟨hok, hk, hm, hs, _⟩ := stayOf_ok he
    have hk' := hk
    simp only [isDay, within, Bool.and_eq_true, decide_eq_true_eq] at hk'
    obtain ⟨h1, h2, _⟩ := lot_day p (stayOf p y k).1 k (by omega)
    simp [he, duesOf, hok, hs, hk, h1, (by omega : (lot p (stayOf p y k).1 k).day ≤ 100000)]
  · simp [he, duesOf]
end Go.Proofs.Ytabhbdehbpmpkaa
namespace Go.Proofs.Ytabhbdehbpmpkaa
open Go Go.Sx Go.Fine
set_option maxRecDepth 10000
attribute [local simp] Bool.and_assoc Bool.or_assoc
theorem v_Noted_c1 (M : Den) (z x : Note) : callV sg M (.fn n_fine_Noted_c1 []) [ci z.src, ci z.stay, ci z.kind, ci z.owner, ci z.day, ci z.known, ci z.til, ci x.src, ci x.stay, ci x.kind, ci x.owner, ci x.day, ci x.known, ci x.til] [.agg [li, li, li, li, li, li, li], .agg [li, li, li, li, li, li, li]] [.one li] = M n_fine_Noted_c1 [ci z.src, ci z.stay, ci z.kind, ci z.owner, ci z.day, ci z.known, ci z.til, ci x.src, ci x.stay, ci x.kind, ci x.owner, ci x.day, ci x.known, ci x.til] := rfl
@[simp] theorem w_Noted_c1 (n : Nat) (z x : Note) : D (n + 3) n_fine_Noted_c1 [ci z.src, ci z.stay, ci z.kind, ci z.owner, ci z.day, ci z.known, ci z.til, ci x.src, ci x.stay, ci x.kind, ci x.owner, ci x.day, ci x.known, ci x.til] = some [ci (if z.src < x.src then -1 else if z.src > x.src then 1 else 0)] := by
  rw [q_fine_Noted_c1]; simp [R_fine_Noted_c1]
theorem half (a b : Nat) (h : a + b < 1000) : wr (Int.fdiv (IntKind.wrap .u64 (wr ((a : Int) + (b : Int)))) 2) = ((a + b) / 2 : Nat) := by
  have e1 : wr ((a : Int) + b) = ((a + b : Nat) : Int) := by rw [wr_of] <;> omega
  have e2 : IntKind.wrap .u64 ((a + b : Nat) : Int) = ((a + b : Nat) : Int) := by rw [IntKind.wrap_u64]; omega
  rw [e1, e2, Int.fdiv_eq_ediv_of_nonneg _ (by omega), wr_of] <;> omega
theorem acc_lt {p : Acc} (hp : p.ok = true) : ∀ (j i : Nat) (hj : j < p.ns.length) (hi : i < j), p.ns[i].src < p.ns[j].src := by
  simp only [Acc.ok, listOk, Bool.and_eq_true] at hp
  have h1 := rising_iff.1 hp.2.1.2
  intro j i hj hi
  have := rising_lt (l := p.ns.map Note.src) h1 j i (by simpa using hj) hi
  simpa using this
theorem w_BSF (n : Nat) (p : Acc) (x : Note) (hp : p.ok = true) : D (n + 4) n_slices_BinarySearchFunc_Note [.row 7 (p.ns.map Note.cv), ci x.src, ci x.stay, ci x.kind, ci x.owner, ci x.day, ci x.known, ci x.til, .fn n_fine_Noted_c1 []] = some [ci (posN p.ns x.src), cb (p.ns.any fun z => decide (z.src = x.src))] := by
  rw [q_slices_BinarySearchFunc_Note]
  unfold R_slices_BinarySearchFunc_Note
  obtain ⟨_, _, hlen⟩ := p.ok_len hp
  have hlt := acc_lt hp
  obtain ⟨hpos, hiff⟩ := posN_spec hlt x.src
  generalize hst : (fun (v0 : List CV) => _) = step
  have hstep : ∀ (a b : Nat), a < b → b ≤ p.ns.length → step [ci a, ci b] = some (.nx (if ((a + b) / 2 : Nat) < posN p.ns x.src then [ci (((a + b) / 2 + 1 : Nat) : Int), ci b] else [ci a, ci (((a + b) / 2 : Nat) : Int)])) := by
    intro a b h1 h2
    have hh := half a b (by omega)
    obtain ⟨m, hm⟩ : ∃ m, m = (a + b) / 2 := ⟨_, rfl⟩
    have hml : m < p.ns.length := by omega
    have hmm := hiff m hml
    have hw := wr_nat (show m < 9223372036854775807 by omega)
    rw [← hst]
    simp only [gi_z, gi_s, hh, ← hm, show (a : Int) < b by omega, decide_true, iteB_eq, if_true, inb_map hml, el_map hml, chk_true]
    by_cases hc : p.ns[m].src < x.src
    · rw [if_pos (hmm.1 hc)]
      simp [Note.cv, v_Noted_c1, hc, hw]
    · rw [if_neg (fun h => hc (hmm.2 h))]
      by_cases hd : p.ns[m].src > x.src <;> simp [Note.cv, v_Noted_c1, hc, hd]
  have hend : ∀ (a : Nat), step [ci a, ci a] = some (.br 0 [ci a]) := by
    intro a; rw [← hst]; simp
  have key : ∀ (m a b : Nat), b - a = m → a ≤ posN p.ns x.src → posN p.ns x.src ≤ b → b ≤ p.ns.length → loopD step [ci a, ci b] = some (.br 0 [ci (posN p.ns x.src)]) := by
    intro m
    induction m using Nat.strongRecOn with
    | _ m ih =>
      intro a b h1 h2 h3 h4
      by_cases e : a = b
      · subst e
        rw [loop_end (hend a) (by simp), show posN p.ns x.src = a by omega]
      · rw [loop_eq (hstep a b (by omega) h4)]
        split
        · exact ih _ (by omega) _ _ rfl (by omega) h3 h4
        · exact ih _ (by omega) _ _ rfl h2 (by omega) (by omega)
  have hrun := key _ 0 p.ns.length rfl (by omega) hpos (by omega)
  rw [show ([ci 0, ci (il (p.ns.map Note.cv))] : List CV) = [ci ((0 : Nat) : Int), ci p.ns.length] by simp, hrun]
  generalize hi : posN p.ns x.src = i0 at *
  by_cases hlt' : i0 < p.ns.length
  · have hn : ¬ p.ns[i0].src < x.src := fun h => by have := (hiff i0 hlt').1 h; omega
    have hany : (p.ns.any fun z => decide (z.src = x.src)) = decide (p.ns[i0].src = x.src) := by
      rw [Bool.eq_iff_iff, List.any_eq_true]
      constructor
      · rintro ⟨z, hz, he⟩
        obtain ⟨j, hj, rfl⟩ := List.mem_iff_getElem.1 hz
        simp only [decide_eq_true_eq] at he ⊢
        have h5 : ¬ j < i0 := fun h => by have := (hiff j hj).2 h; omega
        by_cases h6 : j = i0
        · subst h6; exact he
        · have := hlt j i0 hj (by omega); omega
      · intro he; exact ⟨_, List.getElem_mem hlt', he⟩
    rw [hany]
    by_cases hd : p.ns[i0].src > x.src
    · simp [hlt', inb_map, el_map, Note.cv, v_Noted_c1, hn, hd, show ¬ p.ns[i0].src = x.src by omega]
    · have he : p.ns[i0].src = x.src := by omega
      simp [hlt', inb_map, el_map, Note.cv, v_Noted_c1, hn, hd]; simp [he]
  · have hany : (p.ns.any fun z => decide (z.src = x.src)) = false := by
      rw [Bool.eq_false_iff]; intro h
      obtain ⟨z, hz, he⟩ := List.any_eq_true.1 h
      obtain ⟨j, hj, rfl⟩ := List.mem_iff_getElem.1 hz
      simp only [decide_eq_true_eq] at he
      have := (hiff j hj).2 (by omega); omega
    simp [hlt', hany]
@[simp] theorem w_Clone_T (n : Nat) (l : List Tariff) (h : l.length ≤ 1000) : D (n + 1) n_slices_Clone_Tariff [.row 24 (l.map Tariff.cv)] = some [.row 24 (l.map Tariff.cv)] := by
  rw [q_slices_Clone_Tariff]
  unfold R_slices_Clone_Tariff
  rw [clone_row _ _ _ _ (by omega) (by omega)]; rfl
@[simp] theorem w_Clone_H (n : Nat) (l : List Held) (h : l.length ≤ 1000) : D (n + 1) n_slices_Clone_Held [.row 9 (l.map Held.cv)] = some [.row 9 (l.map Held.cv)] := by
  rw [q_slices_Clone_Held]
  unfold R_slices_Clone_Held
  rw [clone_row _ _ _ _ (by omega) (by omega)]; rfl
@[simp] theorem w_Clone_N (n : Nat) (l : List Note) (h : l.length ≤ 1000) : D (n + 1) n_slices_Clone_Note [.row 7 (l.map Note.cv)] = some [.row 7 (l.map Note.cv), .fn 34 []] := D_clone n _ (fitA_of (by simp; omega) (by simp; omega))
@[simp] theorem w_Noted (n : Nat) (p : Acc) (x : Note) (hp : p.fits) : D (n + 9) n_fine_Noted [.row 24 (p.ts.map Tariff.cv), .row 9 (p.ss.map Held.cv), .row 7 (p.ns.map Note.cv), ci x.src, ci x.stay, ci x.kind, ci x.owner, ci x.day, ci x.known, ci x.til] = some [.row 24 ((noted p x).1.ts.map Tariff.cv), .row 9 ((noted p x).1.ss.map Held.cv), .row 7 ((noted p x).1.ns.map Note.cv), ci (noted p x).2] := by
  rw [q_fine_Noted]
  simp only [R_fine_Noted, w_Check _ _ hp, callO_val, gi_z, bne_dec, iteB_eq, check]
  cases hok : p.ok with
  | false => simp [noted, hok, Acc.none]
  | true =>
    obtain ⟨l1, l2, l3⟩ := p.ok_len hok
    have hpos := (posN_spec (acc_lt hok) x.src).1
    have hb := w_BSF (n + 4) p x hok
    simp only [if_true, decide_true, Bool.not_true, Bool.false_eq_true, if_false, hb, callO_val]
    cases hx : x.ok with
    | false => simp [noted, hok, hx, Acc.none]
    | true =>
      cases hy : p.ns.any fun z => decide (z.src = x.src) with
      | true => simp [noted, hok, hx, hy, Acc.none]
      | false =>
        by_cases h60 : p.ns.length = 60
        · simp [noted, hok, hx, hy, h60, Acc.none]
        · have hf : fitA p.ns.length 1 56 = true := fitA_of (by omega) (by omega)
          have h60' : ¬ ((p.ns.length : Int) = 60) := by omega
          have l1' : p.ts.length ≤ 1000 := by omega
          have l2' : p.ss.length ≤ 1000 := by omega
          have l3' : p.ns.length ≤ 1000 := by omega
          have hpos' : ((posN p.ns x.src : Nat) : Int) ≤ p.ns.length := by omega
          simp [noted, hok, hx, hy, h60, h60', l1', l2', l3', ownR, insR, D_ins, hf, hpos, List.map_take, List.map_drop, Note.cv]
end Go.Proofs.Ytabhbdehbpmpkaa
namespace Go.Proofs.Ytabhbdehbpmpkaa
open Go Go.Sx Go.Fine
set_option maxRecDepth 10000
attribute [local simp] Bool.and_assoc Bool.or_assoc
def eqP (a b : Post) : Bool := decide (a.day = b.day) && (decide (a.stay = b.stay) && (decide (a.frm = b.frm) && (decide (a.to = b.to) && decide (a.amt = b.amt))))
def eqT (a b : Tariff) : Bool := decide (a.frm = b.frm) && (decide (a.h0 = b.h0) && (decide (a.h1 = b.h1) && (decide (a.h2 = b.h2) && (decide (a.h3 = b.h3) && (decide (a.h4 = b.h4) && (decide (a.h5 = b.h5) && (decide (a.h6 = b.h6) && (decide (a.h7 = b.h7) && (decide (a.h8 = b.h8) && (decide (a.h9 = b.h9) && (decide (a.d0 = b.d0) && (decide (a.d1 = b.d1) && (decide (a.d2 = b.d2) && (decide (a.d3 = b.d3) && (decide (a.d4 = b.d4) && (decide (a.d5 = b.d5) && (decide (a.d6 = b.d6) && (decide (a.d7 = b.d7) && (decide (a.d8 = b.d8) && (decide (a.d9 = b.d9) && (decide (a.feed = b.feed) && (decide (a.hay = b.hay) && (decide (a.drv = b.drv))))))))))))))))))))))))
theorem eqP_refl (a : Post) : eqP a a = true := by simp [eqP]
theorem w_Same (n : Nat) (a b : List Post) (ha : a.length < 9223372036854775807) : D (n + 1) n_r06_Same [.row 5 (a.map Post.cv), .row 5 (b.map Post.cv)] = some [cb (sameL eqP a b)] := by
  rw [q_r06_Same]
  unfold R_r06_Same
  rw [loop_all a.length (decide (a.length = b.length)) (atB eqP a b) 0 ?hv (fun h i hi => ?hs) (fun i => ?hf) (fun h => ?he)]
  case hv =>
    have e : ((a.length : Int) = b.length) = (a.length = b.length) := by apply propext; omega
    simp [e]
  case hf => simp
  case he => simp
  case hs =>
    have hi' : i < b.length := by simp at h; omega
    have hw := wr_nat (show i < 9223372036854775807 by omega)
    simp [hi, hi', inb_map, el_map, Post.cv, hw, atB, eqP]
  · rw [sameL_all]; simp
theorem w_Equal (n : Nat) (a b : List Post) (ha : a.length < 9223372036854775807) : D (n + 1) n_slices_Equal_Posting [.row 5 (a.map Post.cv), .row 5 (b.map Post.cv)] = some [cb (sameL eqP a b)] := by
  rw [q_slices_Equal_Posting]
  unfold R_slices_Equal_Posting
  rw [sameL_all]
  by_cases hl : a.length = b.length
  · have hl' : ((a.length : Int) = b.length) := by omega
    simp only [il_map, bne_dec, hl', decide_true, Bool.not_true, iteB_eq, Bool.false_eq_true, if_false]
    rw [loop_find a.length (fun i => [ci (i : Int)]) (fun i => !atB eqP a b i) (fun _ => some (.ret [cb false])) (some (.br 0 [])) ?hv ?hR ?hX (fun i hi hp => ?h1) (fun i hi hp => ?h2) ?h3]
    case hv => rfl
    case hR => simp
    case hX => simp
    case h3 => simp [hl]
    case h1 =>
      have hi' : i < b.length := by omega
      have hw := wr_nat (show i < 9223372036854775807 by omega)
      simp [atB, hi, hi', eqP] at hp
      have hi2 : (i : Int) < b.length := by omega
      simp [hi, hi', hi2, inb_map, el_map, Post.cv, hw, hp]
    case h2 =>
      have hi' : i < b.length := by omega
      simp [atB, hi, hi', eqP] at hp
      have hi2 : (i : Int) < b.length := by omega
      simp [hi, hi', hi2, inb_map, el_map, Post.cv]
      grind
    · have key : ((List.range a.length).find? (fun i => !atB eqP a b i)).isNone = (List.range a.length).all (atB eqP a b) := by
        rw [Bool.eq_iff_iff, Option.isNone_iff_eq_none, List.find?_eq_none, List.all_eq_true]; simp
      rw [← key]
      cases (List.range a.length).find? (fun i => !atB eqP a b i) <;> simp [hl]
  · have hl' : ¬ ((a.length : Int) = b.length) := by omega
    simp [hl, hl']
@[simp] theorem w_Has (n : Nat) (l : List Int) (x : Int) (hl : l.length < 9223372036854775807) : D (n + 1) n_r06_Has [.row 1 (ints l), ci x] = some [cb (l.any fun y => decide (y = x))] := by
  rw [q_r06_Has]
  unfold R_r06_Has
  rw [loop_findL (fun y => decide (y = x)) (fun _ => some (.ret [cb true])) (some (.br 0 [])) l (fun i => [ci (i : Int)]) ?hv ?hR ?hX (fun i hi hp => ?h1) (fun i hi hp => ?h2) ?h3]
  case hv => rfl
  case hR => simp
  case hX => simp
  case h3 => simp [ints]
  case h1 =>
    have hw := wr_nat (show i < 9223372036854775807 by omega)
    simp at hp
    simp [hi, ints, inb_map, el_map, hw, hp]
  case h2 =>
    simp at hp
    simp [hi, ints, inb_map, el_map, hp]
  · cases hf : l.find? fun y => decide (y = x) with
    | none =>
      rw [List.find?_eq_none] at hf
      have : (l.any fun y => decide (y = x)) = false := by rw [Bool.eq_false_iff]; intro h; obtain ⟨y, h1, h2⟩ := List.any_eq_true.1 h; exact hf y h1 h2
      simp [this]
    | some y =>
      have : (l.any fun y => decide (y = x)) = true := List.any_eq_true.2 ⟨y, List.mem_of_find?_eq_some hf, List.find?_some (p := fun y => decide (y = x)) hf⟩
      simp [this]
end Go.Proofs.Ytabhbdehbpmpkaa
