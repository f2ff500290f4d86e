/-
  Proved: the postings of days, whether postings are those, and what a party got, are as the chapter says; conditions: none.
-/
import Derived.KernelRfl
import Derived.Test.YtabhbdehbpmpkaaP08
namespace Go.Proofs.Ytabhbdehbpmpkaa
open Go Go.Sx
set_option maxRecDepth 100000
set_option maxHeartbeats 0
noncomputable section
def R_fine_postings (M : Den) (a0_0 a0_1 a0_2 a1 : List (List CV)) : Option Ou :=
    blkO 0 (loopD (fun v0 =>
            iteB (decide ((gi v0 0) < (il a1)))
              (chk (inb (gi v0 0) a1) <|
              chk (oks [li] (el a1 (gi v0 0)) 0) <|
              blkO 2 (loopD (fun v1 =>
                  iteB (decide ((gi v1 0) < (il a0_1)))
                    (chk (inb (gi v1 0) a0_1) <|
                    chk (oks (List.replicate 9 li) (el a0_1 (gi v1 0)) 0) <|
                    inlO (callO (M n_fine_counts [ci (gi (el a0_1 (gi v1 0)) 7), ci (gi (el a0_1 (gi v1 0)) 8), ci (gi (el a1 (gi v0 0)) 0)]) fun v2 =>
                      iteB (!(gb v2 0))
                        (some (.ret ([CV.row 3 []])))
                        (callO (M n_fine_due (cat [[CV.row 24 a0_0, CV.row 9 a0_1, CV.row 7 a0_2], cis (el a0_1 (gi v1 0)) 0 9, [ci (gi (el a1 (gi v0 0)) 0)]])) fun v3 =>
                        iteB ((gi v3 0) == (-1))
                          (some (.ret ([CV.row 3 []])))
                          (chk (okEs [(.int .i64), (.int .i64)] (.int .i64) (entM 2 [ci (gi v3 0), ci 1] (.int .i64 0) (List.set (entM 2 [ci (gi v3 0), ci 0] (.int .i64 0) []) 0 [ci (gi v3 0), ci 0, ci (wr (0 + (gi v3 3)))]))) <|
                          chk ((decide (0 ≤ (Int.ofNat (posM 2 [ci (gi v3 0), ci 1] (List.set (entM 2 [ci (gi v3 0), ci 0] (.int .i64 0) []) 0 [ci (gi v3 0), ci 0, ci (wr (0 + (gi v3 3)))]))))) && (decide ((Int.toNat (Int.ofNat (posM 2 [ci (gi v3 0), ci 1] (List.set (entM 2 [ci (gi v3 0), ci 0] (.int .i64 0) []) 0 [ci (gi v3 0), ci 0, ci (wr (0 + (gi v3 3)))])))) < (List.length (entM 2 [ci (gi v3 0), ci 1] (.int .i64 0) (List.set (entM 2 [ci (gi v3 0), ci 0] (.int .i64 0) []) 0 [ci (gi v3 0), ci 0, ci (wr (0 + (gi v3 3)))])))))) <|
                          seqO (iteB ((gi (el a0_1 (gi v1 0)) 5) != 0)
                              (chk (okEs [(.int .i64), (.int .i64)] (.int .i64) (List.set (entM 2 [ci (gi v3 0), ci 1] (.int .i64 0) (List.set (entM 2 [ci (gi v3 0), ci 0] (.int .i64 0) []) 0 [ci (gi v3 0), ci 0, ci (wr (0 + (gi v3 3)))])) (Int.toNat (Int.ofNat (posM 2 [ci (gi v3 0), ci 1] (List.set (entM 2 [ci (gi v3 0), ci 0] (.int .i64 0) []) 0 [ci (gi v3 0), ci 0, ci (wr (0 + (gi v3 3)))])))) ((List.take 2 (el (entM 2 [ci (gi v3 0), ci 1] (.int .i64 0) (List.set (entM 2 [ci (gi v3 0), ci 0] (.int .i64 0) []) 0 [ci (gi v3 0), ci 0, ci (wr (0 + (gi v3 3)))])) (Int.ofNat (posM 2 [ci (gi v3 0), ci 1] (List.set (entM 2 [ci (gi v3 0), ci 0] (.int .i64 0) []) 0 [ci (gi v3 0), ci 0, ci (wr (0 + (gi v3 3)))]))))) ++ ([ci (wr ((cI (lookM 2 [ci (gi v3 0), ci 1] (.int .i64 0) (List.set (entM 2 [ci (gi v3 0), ci 0] (.int .i64 0) []) 0 [ci (gi v3 0), ci 0, ci (wr (0 + (gi v3 3)))]))) + (gi v3 1)))])))) <|
                              chk (okEs [(.int .i64), (.int .i64)] (.int .i64) (List.set (entM 2 [ci (gi v3 0), ci 1] (.int .i64 0) (List.set (entM 2 [ci (gi v3 0), ci 0] (.int .i64 0) []) 0 [ci (gi v3 0), ci 0, ci (wr (0 + (gi v3 3)))])) (Int.toNat (Int.ofNat (posM 2 [ci (gi v3 0), ci 1] (List.set (entM 2 [ci (gi v3 0), ci 0] (.int .i64 0) []) 0 [ci (gi v3 0), ci 0, ci (wr (0 + (gi v3 3)))])))) ((List.take 2 (el (entM 2 [ci (gi v3 0), ci 1] (.int .i64 0) (List.set (entM 2 [ci (gi v3 0), ci 0] (.int .i64 0) []) 0 [ci (gi v3 0), ci 0, ci (wr (0 + (gi v3 3)))])) (Int.ofNat (posM 2 [ci (gi v3 0), ci 1] (List.set (entM 2 [ci (gi v3 0), ci 0] (.int .i64 0) []) 0 [ci (gi v3 0), ci 0, ci (wr (0 + (gi v3 3)))]))))) ++ ([ci (wr ((cI (lookM 2 [ci (gi v3 0), ci 1] (.int .i64 0) (List.set (entM 2 [ci (gi v3 0), ci 0] (.int .i64 0) []) 0 [ci (gi v3 0), ci 0, ci (wr (0 + (gi v3 3)))]))) + (gi v3 1)))])))) <|
                              chk (okEs [(.int .i64), (.int .i64)] (.int .i64) (entM 2 [ci (gi v3 0), ci (wr (2 + (gi (el a0_1 (gi v1 0)) 5)))] (.int .i64 0) (List.set (entM 2 [ci (gi v3 0), ci 1] (.int .i64 0) (List.set (entM 2 [ci (gi v3 0), ci 0] (.int .i64 0) []) 0 [ci (gi v3 0), ci 0, ci (wr (0 + (gi v3 3)))])) (Int.toNat (Int.ofNat (posM 2 [ci (gi v3 0), ci 1] (List.set (entM 2 [ci (gi v3 0), ci 0] (.int .i64 0) []) 0 [ci (gi v3 0), ci 0, ci (wr (0 + (gi v3 3)))])))) ((List.take 2 (el (entM 2 [ci (gi v3 0), ci 1] (.int .i64 0) (List.set (entM 2 [ci (gi v3 0), ci 0] (.int .i64 0) []) 0 [ci (gi v3 0), ci 0, ci (wr (0 + (gi v3 3)))])) (Int.ofNat (posM 2 [ci (gi v3 0), ci 1] (List.set (entM 2 [ci (gi v3 0), ci 0] (.int .i64 0) []) 0 [ci (gi v3 0), ci 0, ci (wr (0 + (gi v3 3)))]))))) ++ ([ci (wr ((cI (lookM 2 [ci (gi v3 0), ci 1] (.int .i64 0) (List.set (entM 2 [ci (gi v3 0), ci 0] (.int .i64 0) []) 0 [ci (gi v3 0), ci 0, ci (wr (0 + (gi v3 3)))]))) + (gi v3 1)))]))))) <|
                              chk ((decide (0 ≤ (Int.ofNat (posM 2 [ci (gi v3 0), ci (wr (2 + (gi (el a0_1 (gi v1 0)) 5)))] (List.set (entM 2 [ci (gi v3 0), ci 1] (.int .i64 0) (List.set (entM 2 [ci (gi v3 0), ci 0] (.int .i64 0) []) 0 [ci (gi v3 0), ci 0, ci (wr (0 + (gi v3 3)))])) (Int.toNat (Int.ofNat (posM 2 [ci (gi v3 0), ci 1] (List.set (entM 2 [ci (gi v3 0), ci 0] (.int .i64 0) []) 0 [ci (gi v3 0), ci 0, ci (wr (0 + (gi v3 3)))])))) ((List.take 2 (el (entM 2 [ci (gi v3 0), ci 1] (.int .i64 0) (List.set (entM 2 [ci (gi v3 0), ci 0] (.int .i64 0) []) 0 [ci (gi v3 0), ci 0, ci (wr (0 + (gi v3 3)))])) (Int.ofNat (posM 2 [ci (gi v3 0), ci 1] (List.set (entM 2 [ci (gi v3 0), ci 0] (.int .i64 0) []) 0 [ci (gi v3 0), ci 0, ci (wr (0 + (gi v3 3)))]))))) ++ ([ci (wr ((cI (lookM 2 [ci (gi v3 0), ci 1] (.int .i64 0) (List.set (entM 2 [ci (gi v3 0), ci 0] (.int .i64 0) []) 0 [ci (gi v3 0), ci 0, ci (wr (0 + (gi v3 3)))]))) + (gi v3 1)))]))))))) && (decide ((Int.toNat (Int.ofNat (posM 2 [ci (gi v3 0), ci (wr (2 + (gi (el a0_1 (gi v1 0)) 5)))] (List.set (entM 2 [ci (gi v3 0), ci 1] (.int .i64 0) (List.set (entM 2 [ci (gi v3 0), ci 0] (.int .i64 0) []) 0 [ci (gi v3 0), ci 0, ci (wr (0 + (gi v3 3)))])) (Int.toNat (Int.ofNat (posM 2 [ci (gi v3 0), ci 1] (List.set (entM 2 [ci (gi v3 0), ci 0] (.int .i64 0) []) 0 [ci (gi v3 0), ci 0, ci (wr (0 + (gi v3 3)))])))) ((List.take 2 (el (entM 2 [ci (gi v3 0), ci 1] (.int .i64 0) (List.set (entM 2 [ci (gi v3 0), ci 0] (.int .i64 0) []) 0 [ci (gi v3 0), ci 0, ci (wr (0 + (gi v3 3)))])) (Int.ofNat (posM 2 [ci (gi v3 0), ci 1] (List.set (entM 2 [ci (gi v3 0), ci 0] (.int .i64 0) []) 0 [ci (gi v3 0), ci 0, ci (wr (0 + (gi v3 3)))]))))) ++ ([ci (wr ((cI (lookM 2 [ci (gi v3 0), ci 1] (.int .i64 0) (List.set (entM 2 [ci (gi v3 0), ci 0] (.int .i64 0) []) 0 [ci (gi v3 0), ci 0, ci (wr (0 + (gi v3 3)))]))) + (gi v3 1)))])))))) < (List.length (entM 2 [ci (gi v3 0), ci (wr (2 + (gi (el a0_1 (gi v1 0)) 5)))] (.int .i64 0) (List.set (entM 2 [ci (gi v3 0), ci 1] (.int .i64 0) (List.set (entM 2 [ci (gi v3 0), ci 0] (.int .i64 0) []) 0 [ci (gi v3 0), ci 0, ci (wr (0 + (gi v3 3)))])) (Int.toNat (Int.ofNat (posM 2 [ci (gi v3 0), ci 1] (List.set (entM 2 [ci (gi v3 0), ci 0] (.int .i64 0) []) 0 [ci (gi v3 0), ci 0, ci (wr (0 + (gi v3 3)))])))) ((List.take 2 (el (entM 2 [ci (gi v3 0), ci 1] (.int .i64 0) (List.set (entM 2 [ci (gi v3 0), ci 0] (.int .i64 0) []) 0 [ci (gi v3 0), ci 0, ci (wr (0 + (gi v3 3)))])) (Int.ofNat (posM 2 [ci (gi v3 0), ci 1] (List.set (entM 2 [ci (gi v3 0), ci 0] (.int .i64 0) []) 0 [ci (gi v3 0), ci 0, ci (wr (0 + (gi v3 3)))]))))) ++ ([ci (wr ((cI (lookM 2 [ci (gi v3 0), ci 1] (.int .i64 0) (List.set (entM 2 [ci (gi v3 0), ci 0] (.int .i64 0) []) 0 [ci (gi v3 0), ci 0, ci (wr (0 + (gi v3 3)))]))) + (gi v3 1)))])))))))) <|
                              some (.nx ([CV.row 3 (List.set (entM 2 [ci (gi v3 0), ci (wr (2 + (gi (el a0_1 (gi v1 0)) 5)))] (.int .i64 0) (List.set (entM 2 [ci (gi v3 0), ci 1] (.int .i64 0) (List.set (entM 2 [ci (gi v3 0), ci 0] (.int .i64 0) []) 0 [ci (gi v3 0), ci 0, ci (wr (0 + (gi v3 3)))])) (Int.toNat (Int.ofNat (posM 2 [ci (gi v3 0), ci 1] (List.set (entM 2 [ci (gi v3 0), ci 0] (.int .i64 0) []) 0 [ci (gi v3 0), ci 0, ci (wr (0 + (gi v3 3)))])))) ((List.take 2 (el (entM 2 [ci (gi v3 0), ci 1] (.int .i64 0) (List.set (entM 2 [ci (gi v3 0), ci 0] (.int .i64 0) []) 0 [ci (gi v3 0), ci 0, ci (wr (0 + (gi v3 3)))])) (Int.ofNat (posM 2 [ci (gi v3 0), ci 1] (List.set (entM 2 [ci (gi v3 0), ci 0] (.int .i64 0) []) 0 [ci (gi v3 0), ci 0, ci (wr (0 + (gi v3 3)))]))))) ++ ([ci (wr ((cI (lookM 2 [ci (gi v3 0), ci 1] (.int .i64 0) (List.set (entM 2 [ci (gi v3 0), ci 0] (.int .i64 0) []) 0 [ci (gi v3 0), ci 0, ci (wr (0 + (gi v3 3)))]))) + (gi v3 1)))])))) (Int.toNat (Int.ofNat (posM 2 [ci (gi v3 0), ci (wr (2 + (gi (el a0_1 (gi v1 0)) 5)))] (List.set (entM 2 [ci (gi v3 0), ci 1] (.int .i64 0) (List.set (entM 2 [ci (gi v3 0), ci 0] (.int .i64 0) []) 0 [ci (gi v3 0), ci 0, ci (wr (0 + (gi v3 3)))])) (Int.toNat (Int.ofNat (posM 2 [ci (gi v3 0), ci 1] (List.set (entM 2 [ci (gi v3 0), ci 0] (.int .i64 0) []) 0 [ci (gi v3 0), ci 0, ci (wr (0 + (gi v3 3)))])))) ((List.take 2 (el (entM 2 [ci (gi v3 0), ci 1] (.int .i64 0) (List.set (entM 2 [ci (gi v3 0), ci 0] (.int .i64 0) []) 0 [ci (gi v3 0), ci 0, ci (wr (0 + (gi v3 3)))])) (Int.ofNat (posM 2 [ci (gi v3 0), ci 1] (List.set (entM 2 [ci (gi v3 0), ci 0] (.int .i64 0) []) 0 [ci (gi v3 0), ci 0, ci (wr (0 + (gi v3 3)))]))))) ++ ([ci (wr ((cI (lookM 2 [ci (gi v3 0), ci 1] (.int .i64 0) (List.set (entM 2 [ci (gi v3 0), ci 0] (.int .i64 0) []) 0 [ci (gi v3 0), ci 0, ci (wr (0 + (gi v3 3)))]))) + (gi v3 1)))])))))) ((List.take 2 (el (entM 2 [ci (gi v3 0), ci (wr (2 + (gi (el a0_1 (gi v1 0)) 5)))] (.int .i64 0) (List.set (entM 2 [ci (gi v3 0), ci 1] (.int .i64 0) (List.set (entM 2 [ci (gi v3 0), ci 0] (.int .i64 0) []) 0 [ci (gi v3 0), ci 0, ci (wr (0 + (gi v3 3)))])) (Int.toNat (Int.ofNat (posM 2 [ci (gi v3 0), ci 1] (List.set (entM 2 [ci (gi v3 0), ci 0] (.int .i64 0) []) 0 [ci (gi v3 0), ci 0, ci (wr (0 + (gi v3 3)))])))) ((List.take 2 (el (entM 2 [ci (gi v3 0), ci 1] (.int .i64 0) (List.set (entM 2 [ci (gi v3 0), ci 0] (.int .i64 0) []) 0 [ci (gi v3 0), ci 0, ci (wr (0 + (gi v3 3)))])) (Int.ofNat (posM 2 [ci (gi v3 0), ci 1] (List.set (entM 2 [ci (gi v3 0), ci 0] (.int .i64 0) []) 0 [ci (gi v3 0), ci 0, ci (wr (0 + (gi v3 3)))]))))) ++ ([ci (wr ((cI (lookM 2 [ci (gi v3 0), ci 1] (.int .i64 0) (List.set (entM 2 [ci (gi v3 0), ci 0] (.int .i64 0) []) 0 [ci (gi v3 0), ci 0, ci (wr (0 + (gi v3 3)))]))) + (gi v3 1)))])))) (Int.ofNat (posM 2 [ci (gi v3 0), ci (wr (2 + (gi (el a0_1 (gi v1 0)) 5)))] (List.set (entM 2 [ci (gi v3 0), ci 1] (.int .i64 0) (List.set (entM 2 [ci (gi v3 0), ci 0] (.int .i64 0) []) 0 [ci (gi v3 0), ci 0, ci (wr (0 + (gi v3 3)))])) (Int.toNat (Int.ofNat (posM 2 [ci (gi v3 0), ci 1] (List.set (entM 2 [ci (gi v3 0), ci 0] (.int .i64 0) []) 0 [ci (gi v3 0), ci 0, ci (wr (0 + (gi v3 3)))])))) ((List.take 2 (el (entM 2 [ci (gi v3 0), ci 1] (.int .i64 0) (List.set (entM 2 [ci (gi v3 0), ci 0] (.int .i64 0) []) 0 [ci (gi v3 0), ci 0, ci (wr (0 + (gi v3 3)))])) (Int.ofNat (posM 2 [ci (gi v3 0), ci 1] (List.set (entM 2 [ci (gi v3 0), ci 0] (.int .i64 0) []) 0 [ci (gi v3 0), ci 0, ci (wr (0 + (gi v3 3)))]))))) ++ ([ci (wr ((cI (lookM 2 [ci (gi v3 0), ci 1] (.int .i64 0) (List.set (entM 2 [ci (gi v3 0), ci 0] (.int .i64 0) []) 0 [ci (gi v3 0), ci 0, ci (wr (0 + (gi v3 3)))]))) + (gi v3 1)))]))))))) ++ ([ci (wr ((cI (lookM 2 [ci (gi v3 0), ci (wr (2 + (gi (el a0_1 (gi v1 0)) 5)))] (.int .i64 0) (List.set (entM 2 [ci (gi v3 0), ci 1] (.int .i64 0) (List.set (entM 2 [ci (gi v3 0), ci 0] (.int .i64 0) []) 0 [ci (gi v3 0), ci 0, ci (wr (0 + (gi v3 3)))])) (Int.toNat (Int.ofNat (posM 2 [ci (gi v3 0), ci 1] (List.set (entM 2 [ci (gi v3 0), ci 0] (.int .i64 0) []) 0 [ci (gi v3 0), ci 0, ci (wr (0 + (gi v3 3)))])))) ((List.take 2 (el (entM 2 [ci (gi v3 0), ci 1] (.int .i64 0) (List.set (entM 2 [ci (gi v3 0), ci 0] (.int .i64 0) []) 0 [ci (gi v3 0), ci 0, ci (wr (0 + (gi v3 3)))])) (Int.ofNat (posM 2 [ci (gi v3 0), ci 1] (List.set (entM 2 [ci (gi v3 0), ci 0] (.int .i64 0) []) 0 [ci (gi v3 0), ci 0, ci (wr (0 + (gi v3 3)))]))))) ++ ([ci (wr ((cI (lookM 2 [ci (gi v3 0), ci 1] (.int .i64 0) (List.set (entM 2 [ci (gi v3 0), ci 0] (.int .i64 0) []) 0 [ci (gi v3 0), ci 0, ci (wr (0 + (gi v3 3)))]))) + (gi v3 1)))]))))) + (gi v3 2)))])))])))
                              (some (.nx ([CV.row 3 (List.set (entM 2 [ci (gi v3 0), ci 1] (.int .i64 0) (List.set (entM 2 [ci (gi v3 0), ci 0] (.int .i64 0) []) 0 [ci (gi v3 0), ci 0, ci (wr (0 + (gi v3 3)))])) (Int.toNat (Int.ofNat (posM 2 [ci (gi v3 0), ci 1] (List.set (entM 2 [ci (gi v3 0), ci 0] (.int .i64 0) []) 0 [ci (gi v3 0), ci 0, ci (wr (0 + (gi v3 3)))])))) ((List.take 2 (el (entM 2 [ci (gi v3 0), ci 1] (.int .i64 0) (List.set (entM 2 [ci (gi v3 0), ci 0] (.int .i64 0) []) 0 [ci (gi v3 0), ci 0, ci (wr (0 + (gi v3 3)))])) (Int.ofNat (posM 2 [ci (gi v3 0), ci 1] (List.set (entM 2 [ci (gi v3 0), ci 0] (.int .i64 0) []) 0 [ci (gi v3 0), ci 0, ci (wr (0 + (gi v3 3)))]))))) ++ ([ci (wr ((cI (lookM 2 [ci (gi v3 0), ci 1] (.int .i64 0) (List.set (entM 2 [ci (gi v3 0), ci 0] (.int .i64 0) []) 0 [ci (gi v3 0), ci 0, ci (wr (0 + (gi v3 3)))]))) + (gi v3 1)))])))])))) fun v4 =>
                          some (.ret [CV.row 3 (gr v4 0)])))) fun v2 =>
                    iteB (decide ((gi v0 0) > 0))
                      (chk (inb (wr ((gi v0 0) - 1)) a1) <|
                      chk (oks [li] (el a1 (wr ((gi v0 0) - 1))) 0) <|
                      inlO (callO (M n_fine_counts [ci (gi (el a0_1 (gi v1 0)) 7), ci (gi (el a0_1 (gi v1 0)) 8), ci (gi (el a1 (wr ((gi v0 0) - 1))) 0)]) fun v3 =>
                        iteB (!(gb v3 0))
                          (some (.ret ([CV.row 3 []])))
                          (callO (M n_fine_due (cat [[CV.row 24 a0_0, CV.row 9 a0_1, CV.row 7 a0_2], cis (el a0_1 (gi v1 0)) 0 9, [ci (gi (el a1 (wr ((gi v0 0) - 1))) 0)]])) fun v4 =>
                          iteB ((gi v4 0) == (-1))
                            (some (.ret ([CV.row 3 []])))
                            (chk (okEs [(.int .i64), (.int .i64)] (.int .i64) (entM 2 [ci (gi v4 0), ci 1] (.int .i64 0) (List.set (entM 2 [ci (gi v4 0), ci 0] (.int .i64 0) []) 0 [ci (gi v4 0), ci 0, ci (wr (0 + (gi v4 3)))]))) <|
                            chk ((decide (0 ≤ (Int.ofNat (posM 2 [ci (gi v4 0), ci 1] (List.set (entM 2 [ci (gi v4 0), ci 0] (.int .i64 0) []) 0 [ci (gi v4 0), ci 0, ci (wr (0 + (gi v4 3)))]))))) && (decide ((Int.toNat (Int.ofNat (posM 2 [ci (gi v4 0), ci 1] (List.set (entM 2 [ci (gi v4 0), ci 0] (.int .i64 0) []) 0 [ci (gi v4 0), ci 0, ci (wr (0 + (gi v4 3)))])))) < (List.length (entM 2 [ci (gi v4 0), ci 1] (.int .i64 0) (List.set (entM 2 [ci (gi v4 0), ci 0] (.int .i64 0) []) 0 [ci (gi v4 0), ci 0, ci (wr (0 + (gi v4 3)))])))))) <|
                            seqO (iteB ((gi (el a0_1 (gi v1 0)) 5) != 0)
                                (chk (okEs [(.int .i64), (.int .i64)] (.int .i64) (List.set (entM 2 [ci (gi v4 0), ci 1] (.int .i64 0) (List.set (entM 2 [ci (gi v4 0), ci 0] (.int .i64 0) []) 0 [ci (gi v4 0), ci 0, ci (wr (0 + (gi v4 3)))])) (Int.toNat (Int.ofNat (posM 2 [ci (gi v4 0), ci 1] (List.set (entM 2 [ci (gi v4 0), ci 0] (.int .i64 0) []) 0 [ci (gi v4 0), ci 0, ci (wr (0 + (gi v4 3)))])))) ((List.take 2 (el (entM 2 [ci (gi v4 0), ci 1] (.int .i64 0) (List.set (entM 2 [ci (gi v4 0), ci 0] (.int .i64 0) []) 0 [ci (gi v4 0), ci 0, ci (wr (0 + (gi v4 3)))])) (Int.ofNat (posM 2 [ci (gi v4 0), ci 1] (List.set (entM 2 [ci (gi v4 0), ci 0] (.int .i64 0) []) 0 [ci (gi v4 0), ci 0, ci (wr (0 + (gi v4 3)))]))))) ++ ([ci (wr ((cI (lookM 2 [ci (gi v4 0), ci 1] (.int .i64 0) (List.set (entM 2 [ci (gi v4 0), ci 0] (.int .i64 0) []) 0 [ci (gi v4 0), ci 0, ci (wr (0 + (gi v4 3)))]))) + (gi v4 1)))])))) <|
                                chk (okEs [(.int .i64), (.int .i64)] (.int .i64) (List.set (entM 2 [ci (gi v4 0), ci 1] (.int .i64 0) (List.set (entM 2 [ci (gi v4 0), ci 0] (.int .i64 0) []) 0 [ci (gi v4 0), ci 0, ci (wr (0 + (gi v4 3)))])) (Int.toNat (Int.ofNat (posM 2 [ci (gi v4 0), ci 1] (List.set (entM 2 [ci (gi v4 0), ci 0] (.int .i64 0) []) 0 [ci (gi v4 0), ci 0, ci (wr (0 + (gi v4 3)))])))) ((List.take 2 (el (entM 2 [ci (gi v4 0), ci 1] (.int .i64 0) (List.set (entM 2 [ci (gi v4 0), ci 0] (.int .i64 0) []) 0 [ci (gi v4 0), ci 0, ci (wr (0 + (gi v4 3)))])) (Int.ofNat (posM 2 [ci (gi v4 0), ci 1] (List.set (entM 2 [ci (gi v4 0), ci 0] (.int .i64 0) []) 0 [ci (gi v4 0), ci 0, ci (wr (0 + (gi v4 3)))]))))) ++ ([ci (wr ((cI (lookM 2 [ci (gi v4 0), ci 1] (.int .i64 0) (List.set (entM 2 [ci (gi v4 0), ci 0] (.int .i64 0) []) 0 [ci (gi v4 0), ci 0, ci (wr (0 + (gi v4 3)))]))) + (gi v4 1)))])))) <|
                                chk (okEs [(.int .i64), (.int .i64)] (.int .i64) (entM 2 [ci (gi v4 0), ci (wr (2 + (gi (el a0_1 (gi v1 0)) 5)))] (.int .i64 0) (List.set (entM 2 [ci (gi v4 0), ci 1] (.int .i64 0) (List.set (entM 2 [ci (gi v4 0), ci 0] (.int .i64 0) []) 0 [ci (gi v4 0), ci 0, ci (wr (0 + (gi v4 3)))])) (Int.toNat (Int.ofNat (posM 2 [ci (gi v4 0), ci 1] (List.set (entM 2 [ci (gi v4 0), ci 0] (.int .i64 0) []) 0 [ci (gi v4 0), ci 0, ci (wr (0 + (gi v4 3)))])))) ((List.take 2 (el (entM 2 [ci (gi v4 0), ci 1] (.int .i64 0) (List.set (entM 2 [ci (gi v4 0), ci 0] (.int .i64 0) []) 0 [ci (gi v4 0), ci 0, ci (wr (0 + (gi v4 3)))])) (Int.ofNat (posM 2 [ci (gi v4 0), ci 1] (List.set (entM 2 [ci (gi v4 0), ci 0] (.int .i64 0) []) 0 [ci (gi v4 0), ci 0, ci (wr (0 + (gi v4 3)))]))))) ++ ([ci (wr ((cI (lookM 2 [ci (gi v4 0), ci 1] (.int .i64 0) (List.set (entM 2 [ci (gi v4 0), ci 0] (.int .i64 0) []) 0 [ci (gi v4 0), ci 0, ci (wr (0 + (gi v4 3)))]))) + (gi v4 1)))]))))) <|
                                chk ((decide (0 ≤ (Int.ofNat (posM 2 [ci (gi v4 0), ci (wr (2 + (gi (el a0_1 (gi v1 0)) 5)))] (List.set (entM 2 [ci (gi v4 0), ci 1] (.int .i64 0) (List.set (entM 2 [ci (gi v4 0), ci 0] (.int .i64 0) []) 0 [ci (gi v4 0), ci 0, ci (wr (0 + (gi v4 3)))])) (Int.toNat (Int.ofNat (posM 2 [ci (gi v4 0), ci 1] (List.set (entM 2 [ci (gi v4 0), ci 0] (.int .i64 0) []) 0 [ci (gi v4 0), ci 0, ci (wr (0 + (gi v4 3)))])))) ((List.take 2 (el (entM 2 [ci (gi v4 0), ci 1] (.int .i64 0) (List.set (entM 2 [ci (gi v4 0), ci 0] (.int .i64 0) []) 0 [ci (gi v4 0), ci 0, ci (wr (0 + (gi v4 3)))])) (Int.ofNat (posM 2 [ci (gi v4 0), ci 1] (List.set (entM 2 [ci (gi v4 0), ci 0] (.int .i64 0) []) 0 [ci (gi v4 0), ci 0, ci (wr (0 + (gi v4 3)))]))))) ++ ([ci (wr ((cI (lookM 2 [ci (gi v4 0), ci 1] (.int .i64 0) (List.set (entM 2 [ci (gi v4 0), ci 0] (.int .i64 0) []) 0 [ci (gi v4 0), ci 0, ci (wr (0 + (gi v4 3)))]))) + (gi v4 1)))]))))))) && (decide ((Int.toNat (Int.ofNat (posM 2 [ci (gi v4 0), ci (wr (2 + (gi (el a0_1 (gi v1 0)) 5)))] (List.set (entM 2 [ci (gi v4 0), ci 1] (.int .i64 0) (List.set (entM 2 [ci (gi v4 0), ci 0] (.int .i64 0) []) 0 [ci (gi v4 0), ci 0, ci (wr (0 + (gi v4 3)))])) (Int.toNat (Int.ofNat (posM 2 [ci (gi v4 0), ci 1] (List.set (entM 2 [ci (gi v4 0), ci 0] (.int .i64 0) []) 0 [ci (gi v4 0), ci 0, ci (wr (0 + (gi v4 3)))])))) ((List.take 2 (el (entM 2 [ci (gi v4 0), ci 1] (.int .i64 0) (List.set (entM 2 [ci (gi v4 0), ci 0] (.int .i64 0) []) 0 [ci (gi v4 0), ci 0, ci (wr (0 + (gi v4 3)))])) (Int.ofNat (posM 2 [ci (gi v4 0), ci 1] (List.set (entM 2 [ci (gi v4 0), ci 0] (.int .i64 0) []) 0 [ci (gi v4 0), ci 0, ci (wr (0 + (gi v4 3)))]))))) ++ ([ci (wr ((cI (lookM 2 [ci (gi v4 0), ci 1] (.int .i64 0) (List.set (entM 2 [ci (gi v4 0), ci 0] (.int .i64 0) []) 0 [ci (gi v4 0), ci 0, ci (wr (0 + (gi v4 3)))]))) + (gi v4 1)))])))))) < (List.length (entM 2 [ci (gi v4 0), ci (wr (2 + (gi (el a0_1 (gi v1 0)) 5)))] (.int .i64 0) (List.set (entM 2 [ci (gi v4 0), ci 1] (.int .i64 0) (List.set (entM 2 [ci (gi v4 0), ci 0] (.int .i64 0) []) 0 [ci (gi v4 0), ci 0, ci (wr (0 + (gi v4 3)))])) (Int.toNat (Int.ofNat (posM 2 [ci (gi v4 0), ci 1] (List.set (entM 2 [ci (gi v4 0), ci 0] (.int .i64 0) []) 0 [ci (gi v4 0), ci 0, ci (wr (0 + (gi v4 3)))])))) ((List.take 2 (el (entM 2 [ci (gi v4 0), ci 1] (.int .i64 0) (List.set (entM 2 [ci (gi v4 0), ci 0] (.int .i64 0) []) 0 [ci (gi v4 0), ci 0, ci (wr (0 + (gi v4 3)))])) (Int.ofNat (posM 2 [ci (gi v4 0), ci 1] (List.set (entM 2 [ci (gi v4 0), ci 0] (.int .i64 0) []) 0 [ci (gi v4 0), ci 0, ci (wr (0 + (gi v4 3)))]))))) ++ ([ci (wr ((cI (lookM 2 [ci (gi v4 0), ci 1] (.int .i64 0) (List.set (entM 2 [ci (gi v4 0), ci 0] (.int .i64 0) []) 0 [ci (gi v4 0), ci 0, ci (wr (0 + (gi v4 3)))]))) + (gi v4 1)))])))))))) <|
                                some (.nx ([CV.row 3 (List.set (entM 2 [ci (gi v4 0), ci (wr (2 + (gi (el a0_1 (gi v1 0)) 5)))] (.int .i64 0) (List.set (entM 2 [ci (gi v4 0), ci 1] (.int .i64 0) (List.set (entM 2 [ci (gi v4 0), ci 0] (.int .i64 0) []) 0 [ci (gi v4 0), ci 0, ci (wr (0 + (gi v4 3)))])) (Int.toNat (Int.ofNat (posM 2 [ci (gi v4 0), ci 1] (List.set (entM 2 [ci (gi v4 0), ci 0] (.int .i64 0) []) 0 [ci (gi v4 0), ci 0, ci (wr (0 + (gi v4 3)))])))) ((List.take 2 (el (entM 2 [ci (gi v4 0), ci 1] (.int .i64 0) (List.set (entM 2 [ci (gi v4 0), ci 0] (.int .i64 0) []) 0 [ci (gi v4 0), ci 0, ci (wr (0 + (gi v4 3)))])) (Int.ofNat (posM 2 [ci (gi v4 0), ci 1] (List.set (entM 2 [ci (gi v4 0), ci 0] (.int .i64 0) []) 0 [ci (gi v4 0), ci 0, ci (wr (0 + (gi v4 3)))]))))) ++ ([ci (wr ((cI (lookM 2 [ci (gi v4 0), ci 1] (.int .i64 0) (List.set (entM 2 [ci (gi v4 0), ci 0] (.int .i64 0) []) 0 [ci (gi v4 0), ci 0, ci (wr (0 + (gi v4 3)))]))) + (gi v4 1)))])))) (Int.toNat (Int.ofNat (posM 2 [ci (gi v4 0), ci (wr (2 + (gi (el a0_1 (gi v1 0)) 5)))] (List.set (entM 2 [ci (gi v4 0), ci 1] (.int .i64 0) (List.set (entM 2 [ci (gi v4 0), ci 0] (.int .i64 0) []) 0 [ci (gi v4 0), ci 0, ci (wr (0 + (gi v4 3)))])) (Int.toNat (Int.ofNat (posM 2 [ci (gi v4 0), ci 1] (List.set (entM 2 [ci (gi v4 0), ci 0] (.int .i64 0) []) 0 [ci (gi v4 0), ci 0, ci (wr (0 + (gi v4 3)))])))) ((List.take 2 (el (entM 2 [ci (gi v4 0), ci 1] (.int .i64 0) (List.set (entM 2 [ci (gi v4 0), ci 0] (.int .i64 0) []) 0 [ci (gi v4 0), ci 0, ci (wr (0 + (gi v4 3)))])) (Int.ofNat (posM 2 [ci (gi v4 0), ci 1] (List.set (entM 2 [ci (gi v4 0), ci 0] (.int .i64 0) []) 0 [ci (gi v4 0), ci 0, ci (wr (0 + (gi v4 3)))]))))) ++ ([ci (wr ((cI (lookM 2 [ci (gi v4 0), ci 1] (.int .i64 0) (List.set (entM 2 [ci (gi v4 0), ci 0] (.int .i64 0) []) 0 [ci (gi v4 0), ci 0, ci (wr (0 + (gi v4 3)))]))) + (gi v4 1)))])))))) ((List.take 2 (el (entM 2 [ci (gi v4 0), ci (wr (2 + (gi (el a0_1 (gi v1 0)) 5)))] (.int .i64 0) (List.set (entM 2 [ci (gi v4 0), ci 1] (.int .i64 0) (List.set (entM 2 [ci (gi v4 0), ci 0] (.int .i64 0) []) 0 [ci (gi v4 0), ci 0, ci (wr (0 + (gi v4 3)))])) (Int.toNat (Int.ofNat (posM 2 [ci (gi v4 0), ci 1] (List.set (entM 2 [ci (gi v4 0), ci 0] (.int .i64 0) []) 0 [ci (gi v4 0), ci 0, ci (wr (0 + (gi v4 3)))])))) ((List.take 2 (el (entM 2 [ci (gi v4 0), ci 1] (.int .i64 0) (List.set (entM 2 [ci (gi v4 0), ci 0] (.int .i64 0) []) 0 [ci (gi v4 0), ci 0, ci (wr (0 + (gi v4 3)))])) (Int.ofNat (posM 2 [ci (gi v4 0), ci 1] (List.set (entM 2 [ci (gi v4 0), ci 0] (.int .i64 0) []) 0 [ci (gi v4 0), ci 0, ci (wr (0 + (gi v4 3)))]))))) ++ ([ci (wr ((cI (lookM 2 [ci (gi v4 0), ci 1] (.int .i64 0) (List.set (entM 2 [ci (gi v4 0), ci 0] (.int .i64 0) []) 0 [ci (gi v4 0), ci 0, ci (wr (0 + (gi v4 3)))]))) + (gi v4 1)))])))) (Int.ofNat (posM 2 [ci (gi v4 0), ci (wr (2 + (gi (el a0_1 (gi v1 0)) 5)))] (List.set (entM 2 [ci (gi v4 0), ci 1] (.int .i64 0) (List.set (entM 2 [ci (gi v4 0), ci 0] (.int .i64 0) []) 0 [ci (gi v4 0), ci 0, ci (wr (0 + (gi v4 3)))])) (Int.toNat (Int.ofNat (posM 2 [ci (gi v4 0), ci 1] (List.set (entM 2 [ci (gi v4 0), ci 0] (.int .i64 0) []) 0 [ci (gi v4 0), ci 0, ci (wr (0 + (gi v4 3)))])))) ((List.take 2 (el (entM 2 [ci (gi v4 0), ci 1] (.int .i64 0) (List.set (entM 2 [ci (gi v4 0), ci 0] (.int .i64 0) []) 0 [ci (gi v4 0), ci 0, ci (wr (0 + (gi v4 3)))])) (Int.ofNat (posM 2 [ci (gi v4 0), ci 1] (List.set (entM 2 [ci (gi v4 0), ci 0] (.int .i64 0) []) 0 [ci (gi v4 0), ci 0, ci (wr (0 + (gi v4 3)))]))))) ++ ([ci (wr ((cI (lookM 2 [ci (gi v4 0), ci 1] (.int .i64 0) (List.set (entM 2 [ci (gi v4 0), ci 0] (.int .i64 0) []) 0 [ci (gi v4 0), ci 0, ci (wr (0 + (gi v4 3)))]))) + (gi v4 1)))]))))))) ++ ([ci (wr ((cI (lookM 2 [ci (gi v4 0), ci (wr (2 + (gi (el a0_1 (gi v1 0)) 5)))] (.int .i64 0) (List.set (entM 2 [ci (gi v4 0), ci 1] (.int .i64 0) (List.set (entM 2 [ci (gi v4 0), ci 0] (.int .i64 0) []) 0 [ci (gi v4 0), ci 0, ci (wr (0 + (gi v4 3)))])) (Int.toNat (Int.ofNat (posM 2 [ci (gi v4 0), ci 1] (List.set (entM 2 [ci (gi v4 0), ci 0] (.int .i64 0) []) 0 [ci (gi v4 0), ci 0, ci (wr (0 + (gi v4 3)))])))) ((List.take 2 (el (entM 2 [ci (gi v4 0), ci 1] (.int .i64 0) (List.set (entM 2 [ci (gi v4 0), ci 0] (.int .i64 0) []) 0 [ci (gi v4 0), ci 0, ci (wr (0 + (gi v4 3)))])) (Int.ofNat (posM 2 [ci (gi v4 0), ci 1] (List.set (entM 2 [ci (gi v4 0), ci 0] (.int .i64 0) []) 0 [ci (gi v4 0), ci 0, ci (wr (0 + (gi v4 3)))]))))) ++ ([ci (wr ((cI (lookM 2 [ci (gi v4 0), ci 1] (.int .i64 0) (List.set (entM 2 [ci (gi v4 0), ci 0] (.int .i64 0) []) 0 [ci (gi v4 0), ci 0, ci (wr (0 + (gi v4 3)))]))) + (gi v4 1)))]))))) + (gi v4 2)))])))])))
                                (some (.nx ([CV.row 3 (List.set (entM 2 [ci (gi v4 0), ci 1] (.int .i64 0) (List.set (entM 2 [ci (gi v4 0), ci 0] (.int .i64 0) []) 0 [ci (gi v4 0), ci 0, ci (wr (0 + (gi v4 3)))])) (Int.toNat (Int.ofNat (posM 2 [ci (gi v4 0), ci 1] (List.set (entM 2 [ci (gi v4 0), ci 0] (.int .i64 0) []) 0 [ci (gi v4 0), ci 0, ci (wr (0 + (gi v4 3)))])))) ((List.take 2 (el (entM 2 [ci (gi v4 0), ci 1] (.int .i64 0) (List.set (entM 2 [ci (gi v4 0), ci 0] (.int .i64 0) []) 0 [ci (gi v4 0), ci 0, ci (wr (0 + (gi v4 3)))])) (Int.ofNat (posM 2 [ci (gi v4 0), ci 1] (List.set (entM 2 [ci (gi v4 0), ci 0] (.int .i64 0) []) 0 [ci (gi v4 0), ci 0, ci (wr (0 + (gi v4 3)))]))))) ++ ([ci (wr ((cI (lookM 2 [ci (gi v4 0), ci 1] (.int .i64 0) (List.set (entM 2 [ci (gi v4 0), ci 0] (.int .i64 0) []) 0 [ci (gi v4 0), ci 0, ci (wr (0 + (gi v4 3)))]))) + (gi v4 1)))])))])))) fun v5 =>
                            some (.ret [CV.row 3 (gr v5 0)])))) fun v3 =>
                      seqO (iteB ((gi (el a0_1 (gi v1 0)) 5) != 0)
                          (some (.nx ([CV.row 1 ([[ci 0], [ci 1], [ci (wr (2 + (gi (el a0_1 (gi v1 0)) 5)))]])])))
                          (some (.nx ([CV.row 1 (chunk 1 2 [ci 0, ci 1])])))) fun v4 =>
                      blkO 4 (loopD (fun v5 =>
                          iteB (decide ((gi v5 0) < (il (gr v4 0))))
                            (chk (inb (gi v5 0) (gr v4 0)) <|
                            chk (decide ((Int.toNat (gi v5 0)) < (List.length (gr v4 0)))) <|
                            chk (oks [li] (el (gr v4 0) (gi v5 0)) 0) <|
                            blkO 6 (loopD (fun v6 =>
                                iteB (decide ((gi v6 0) ≤ 101))
                                  (chk (okEs [(.int .i64), (.int .i64)] (.int .i64) (gr v2 0)) <|
                                  chk (okEs [(.int .i64), (.int .i64)] (.int .i64) (gr v3 0)) <|
                                  seqO (iteB ((wr ((cI (lookM 2 [ci (gi v6 0), ci (gi (el (gr v4 0) (gi v5 0)) 0)] (.int .i64 0) (gr v2 0))) - (cI (lookM 2 [ci (gi v6 0), ci (gi (el (gr v4 0) (gi v5 0)) 0)] (.int .i64 0) (gr v3 0))))) != 0)
                                      (some (.nx [cb ((gi v6 0) != (gi (el (gr v4 0) (gi v5 0)) 0))]))
                                      (some (.nx [cb false]))) fun v7 =>
                                  seqO (iteB (gb v7 0)
                                      (chk (fitA (List.length (gr v6 1)) 1 40) <|
                                      some (.nx ([CV.row 5 ((gr v6 1) ++ (chunk 5 1 ([ci (gi (el a1 (gi v0 0)) 0), ci (gi (el a0_1 (gi v1 0)) 0), ci (gi v6 0), ci (gi (el (gr v4 0) (gi v5 0)) 0), ci (wr ((cI (lookM 2 [ci (gi v6 0), ci (gi (el (gr v4 0) (gi v5 0)) 0)] (.int .i64 0) (gr v2 0))) - (cI (lookM 2 [ci (gi v6 0), ci (gi (el (gr v4 0) (gi v5 0)) 0)] (.int .i64 0) (gr v3 0)))))])))])))
                                      (some (.nx [CV.row 5 (gr v6 1)]))) fun v8 =>
                                  some (.nx [ci (wr ((gi v6 0) + 1)), CV.row 5 (gr v8 0)]))
                                  (some (.br 6 [CV.row 5 (gr v6 1)]))) [ci 2, CV.row 5 (gr v5 1)]) fun v6 =>
                            some (.nx [ci (wr ((gi v5 0) + 1)), CV.row 5 (gr v6 0)]))
                            (some (.br 4 [CV.row 5 (gr v5 1)]))) [ci 0, CV.row 5 (gr v1 1)]) fun v5 =>
                      some (.nx [ci (wr ((gi v1 0) + 1)), CV.row 5 (gr v5 0)]))
                      (seqO (iteB ((gi (el a0_1 (gi v1 0)) 5) != 0)
                          (some (.nx ([CV.row 1 ([[ci 0], [ci 1], [ci (wr (2 + (gi (el a0_1 (gi v1 0)) 5)))]])])))
                          (some (.nx ([CV.row 1 (chunk 1 2 [ci 0, ci 1])])))) fun v3 =>
                      blkO 4 (loopD (fun v4 =>
                          iteB (decide ((gi v4 0) < (il (gr v3 0))))
                            (chk (inb (gi v4 0) (gr v3 0)) <|
                            chk (decide ((Int.toNat (gi v4 0)) < (List.length (gr v3 0)))) <|
                            chk (oks [li] (el (gr v3 0) (gi v4 0)) 0) <|
                            blkO 6 (loopD (fun v5 =>
                                iteB (decide ((gi v5 0) ≤ 101))
                                  (chk (okEs [(.int .i64), (.int .i64)] (.int .i64) (gr v2 0)) <|
                                  seqO (iteB ((wr ((cI (lookM 2 [ci (gi v5 0), ci (gi (el (gr v3 0) (gi v4 0)) 0)] (.int .i64 0) (gr v2 0))) - 0)) != 0)
                                      (some (.nx [cb ((gi v5 0) != (gi (el (gr v3 0) (gi v4 0)) 0))]))
                                      (some (.nx [cb false]))) fun v6 =>
                                  seqO (iteB (gb v6 0)
                                      (chk (fitA (List.length (gr v5 1)) 1 40) <|
                                      some (.nx ([CV.row 5 ((gr v5 1) ++ (chunk 5 1 ([ci (gi (el a1 (gi v0 0)) 0), ci (gi (el a0_1 (gi v1 0)) 0), ci (gi v5 0), ci (gi (el (gr v3 0) (gi v4 0)) 0), ci (wr ((cI (lookM 2 [ci (gi v5 0), ci (gi (el (gr v3 0) (gi v4 0)) 0)] (.int .i64 0) (gr v2 0))) - 0))])))])))
                                      (some (.nx [CV.row 5 (gr v5 1)]))) fun v7 =>
                                  some (.nx [ci (wr ((gi v5 0) + 1)), CV.row 5 (gr v7 0)]))
                                  (some (.br 6 [CV.row 5 (gr v5 1)]))) [ci 2, CV.row 5 (gr v4 1)]) fun v5 =>
                            some (.nx [ci (wr ((gi v4 0) + 1)), CV.row 5 (gr v5 0)]))
                            (some (.br 4 [CV.row 5 (gr v4 1)]))) [ci 0, CV.row 5 (gr v1 1)]) fun v4 =>
                      some (.nx [ci (wr ((gi v1 0) + 1)), CV.row 5 (gr v4 0)])))
                    (some (.br 2 [CV.row 5 (gr v1 1)]))) [ci 0, CV.row 5 (gr v0 1)]) fun v1 =>
              some (.nx [ci (wr ((gi v0 0) + 1)), CV.row 5 (gr v1 0)]))
              (some (.br 0 [CV.row 5 (gr v0 1)]))) ([ci 0, CV.row 5 []])) fun v0 =>
        some (.ret [CV.row 5 (gr v0 0)])
theorem r_fine_postings (M : Den) (a0_0 a0_1 a0_2 a1 : List (List CV)) : evF Try.prog sg M fe101 (bodyOf Try.f101) [(.row 24 a0_0), (.row 9 a0_1), (.row 7 a0_2), (.row 1 a1)] = retO (R_fine_postings M a0_0 a0_1 a0_2 a1) := by kernel_rfl
theorem q_fine_postings (n : Nat) (a0_0 a0_1 a0_2 a1 : List (List CV)) : D (n + 1) n_fine_postings [(.row 24 a0_0), (.row 9 a0_1), (.row 7 a0_2), (.row 1 a1)] = retO (R_fine_postings (D n) a0_0 a0_1 a0_2 a1) := (show D (n + 1) n_fine_postings [(.row 24 a0_0), (.row 9 a0_1), (.row 7 a0_2), (.row 1 a1)] = evF Try.prog sg (D n) fe101 (bodyOf Try.f101) [(.row 24 a0_0), (.row 9 a0_1), (.row 7 a0_2), (.row 1 a1)] from rfl).trans (r_fine_postings (D n) a0_0 a0_1 a0_2 a1)
def R_r06_Same (M : Den) (a0 a1 : List (List CV)) : Option Ou :=
    blkO 0 (loopD (fun v0 =>
            seqO (iteB (decide ((gi v0 1) < (il a0)))
                (some (.nx [cb (gb v0 0)]))
                (some (.nx [cb false]))) fun v1 =>
            iteB (gb v1 0)
              (chk (inb (gi v0 1) a0) <|
              chk (oks (List.replicate 5 li) (el a0 (gi v0 1)) 0) <|
              chk (inb (gi v0 1) a1) <|
              chk (oks (List.replicate 5 li) (el a1 (gi v0 1)) 0) <|
              some (.nx [cb (((gi (el a0 (gi v0 1)) 0) == (gi (el a1 (gi v0 1)) 0)) && (((gi (el a0 (gi v0 1)) 1) == (gi (el a1 (gi v0 1)) 1)) && (((gi (el a0 (gi v0 1)) 2) == (gi (el a1 (gi v0 1)) 2)) && (((gi (el a0 (gi v0 1)) 3) == (gi (el a1 (gi v0 1)) 3)) && (((gi (el a0 (gi v0 1)) 4) == (gi (el a1 (gi v0 1)) 4)) && true))))), ci (wr ((gi v0 1) + 1))]))
              (some (.br 0 [cb (gb v0 0)]))) [cb ((il a0) == (il a1)), ci 0]) fun v0 =>
        some (.ret [cb (gb v0 0)])
theorem r_r06_Same (M : Den) (a0 a1 : List (List CV)) : evF Try.prog sg M fe48 (bodyOf Try.f48) [(.row 5 a0), (.row 5 a1)] = retO (R_r06_Same M a0 a1) := by kernel_rfl
theorem q_r06_Same (n : Nat) (a0 a1 : List (List CV)) : D (n + 1) n_r06_Same [(.row 5 a0), (.row 5 a1)] = retO (R_r06_Same (D n) a0 a1) := (show D (n + 1) n_r06_Same [(.row 5 a0), (.row 5 a1)] = evF Try.prog sg (D n) fe48 (bodyOf Try.f48) [(.row 5 a0), (.row 5 a1)] from rfl).trans (r_r06_Same (D n) a0 a1)
def R_r06_market (M : Den) (a0_0 a0_1 a0_2 : List (List CV)) (a1_0 a1_1 a1_2 a1_3 a1_4 a1_5 a1_6 a1_7 a1_8 a2 : Int) : Option Ou :=
    blkO 0 (loopD (fun v0 =>
            seqO (iteB (decide ((gi v0 1) ≤ a2))
                (iteB (decide ((gi v0 1) ≤ (wr (a1_6 + 720))))
                  (some (.nx [cb (decide (a1_4 > 0))]))
                  (some (.nx [cb false])))
                (some (.nx [cb false]))) fun v1 =>
            iteB (gb v1 0)
              (callO (M n_r06_fed [CV.row 24 a0_0, CV.row 9 a0_1, CV.row 7 a0_2, ci a1_0, ci a1_1, ci a1_2, ci a1_3, ci a1_4, ci a1_5, ci a1_6, ci a1_7, ci a1_8, ci (gi v0 1)]) fun v2 =>
              iteB (decide ((wr ((gi v0 0) + (gi v2 0))) ≥ a1_4))
                (some (.ret [ci (gi v0 1)]))
                (some (.nx [ci (wr ((gi v0 0) + (gi v2 0))), ci (wr ((gi v0 1) + 1))])))
              (some (.br 0 []))) [ci 0, ci a1_6]) fun v0 =>
        some (.ret [ci (-1)])
theorem r_r06_market (M : Den) (a0_0 a0_1 a0_2 : List (List CV)) (a1_0 a1_1 a1_2 a1_3 a1_4 a1_5 a1_6 a1_7 a1_8 a2 : Int) : evF Try.prog sg M fe119 (bodyOf Try.f119) [(.row 24 a0_0), (.row 9 a0_1), (.row 7 a0_2), (ci a1_0), (ci a1_1), (ci a1_2), (ci a1_3), (ci a1_4), (ci a1_5), (ci a1_6), (ci a1_7), (ci a1_8), (ci a2)] = retO (R_r06_market M a0_0 a0_1 a0_2 a1_0 a1_1 a1_2 a1_3 a1_4 a1_5 a1_6 a1_7 a1_8 a2) := by kernel_rfl
theorem q_r06_market (n : Nat) (a0_0 a0_1 a0_2 : List (List CV)) (a1_0 a1_1 a1_2 a1_3 a1_4 a1_5 a1_6 a1_7 a1_8 a2 : Int) : D (n + 1) n_r06_market [(.row 24 a0_0), (.row 9 a0_1), (.row 7 a0_2), (ci a1_0), (ci a1_1), (ci a1_2), (ci a1_3), (ci a1_4), (ci a1_5), (ci a1_6), (ci a1_7), (ci a1_8), (ci a2)] = retO (R_r06_market (D n) a0_0 a0_1 a0_2 a1_0 a1_1 a1_2 a1_3 a1_4 a1_5 a1_6 a1_7 a1_8 a2) := (show D (n + 1) n_r06_market [(.row 24 a0_0), (.row 9 a0_1), (.row 7 a0_2), (ci a1_0), (ci a1_1), (ci a1_2), (ci a1_3), (ci a1_4), (ci a1_5), (ci a1_6), (ci a1_7), (ci a1_8), (ci a2)] = evF Try.prog sg (D n) fe119 (bodyOf Try.f119) [(.row 24 a0_0), (.row 9 a0_1), (.row 7 a0_2), (ci a1_0), (ci a1_1), (ci a1_2), (ci a1_3), (ci a1_4), (ci a1_5), (ci a1_6), (ci a1_7), (ci a1_8), (ci a2)] from rfl).trans (r_r06_market (D n) a0_0 a0_1 a0_2 a1_0 a1_1 a1_2 a1_3 a1_4 a1_5 a1_6 a1_7 a1_8 a2)
def R_fine_Check (M : Den) (a0_0 a0_1 a0_2 : List (List CV)) : Option Ou :=
    callO (M n_fine_areRising_Tariff ([CV.row 24 a0_0, ci 8, CV.fn n_fine_CheckTariff [], CV.fn n_fine_Check_c1 []])) fun v0 =>
        seqO (iteB (!(gb v0 0))
            (some (.nx [cb true]))
            (callO (M n_fine_areRising_Held ([CV.row 9 a0_1, ci 60, CV.fn n_fine_CheckHeld [], CV.fn n_fine_heldOf []])) fun v1 =>
            iteB (!(gb v1 0))
              (some (.nx [cb true]))
              (callO (M n_fine_areRising_Note ([CV.row 7 a0_2, ci 60, CV.fn n_fine_CheckNote [], CV.fn n_fine_noteOf []])) fun v2 =>
              some (.nx [cb (!(gb v2 0))])))) fun v1 =>
        iteB (gb v1 0)
          (some (.ret [ci 63]))
          (some (.ret [ci 0]))
theorem r_fine_Check (M : Den) (a0_0 a0_1 a0_2 : List (List CV)) : evF Try.prog sg M fe16 (bodyOf Try.f16) [(.row 24 a0_0), (.row 9 a0_1), (.row 7 a0_2)] = retO (R_fine_Check M a0_0 a0_1 a0_2) := by kernel_rfl
theorem q_fine_Check (n : Nat) (a0_0 a0_1 a0_2 : List (List CV)) : D (n + 1) n_fine_Check [(.row 24 a0_0), (.row 9 a0_1), (.row 7 a0_2)] = retO (R_fine_Check (D n) a0_0 a0_1 a0_2) := (show D (n + 1) n_fine_Check [(.row 24 a0_0), (.row 9 a0_1), (.row 7 a0_2)] = evF Try.prog sg (D n) fe16 (bodyOf Try.f16) [(.row 24 a0_0), (.row 9 a0_1), (.row 7 a0_2)] from rfl).trans (r_fine_Check (D n) a0_0 a0_1 a0_2)
def R_fine_Charged (M : Den) (a0_0 a0_1 a0_2 : List (List CV)) (a1 a2 : Int) : Option Ou :=
    callO (M n_fine_stayOf [CV.row 24 a0_0, CV.row 9 a0_1, CV.row 7 a0_2, ci a1, ci a2]) fun v0 =>
        iteB ((gi v0 9) != 0)
          (some (.ret [ci 0, ci 0, ci 0, ci (gi v0 9)]))
          (callO (M n_fine_lot (cat [[CV.row 24 a0_0, CV.row 9 a0_1, CV.row 7 a0_2], cis v0 0 9, [ci a2]])) fun v1 =>
          callO (M n_fine_charge (cat [[CV.row 24 a0_0, CV.row 9 a0_1, CV.row 7 a0_2], cis v0 0 9, cis v1 0 4, [ci a2]])) fun v2 =>
          some (.ret [ci (gi v2 0), ci (gi v2 1), ci (gi v2 2), ci 0]))
theorem r_fine_Charged (M : Den) (a0_0 a0_1 a0_2 : List (List CV)) (a1 a2 : Int) : evF Try.prog sg M fe27 (bodyOf Try.f27) [(.row 24 a0_0), (.row 9 a0_1), (.row 7 a0_2), (ci a1), (ci a2)] = retO (R_fine_Charged M a0_0 a0_1 a0_2 a1 a2) := by kernel_rfl
theorem q_fine_Charged (n : Nat) (a0_0 a0_1 a0_2 : List (List CV)) (a1 a2 : Int) : D (n + 1) n_fine_Charged [(.row 24 a0_0), (.row 9 a0_1), (.row 7 a0_2), (ci a1), (ci a2)] = retO (R_fine_Charged (D n) a0_0 a0_1 a0_2 a1 a2) := (show D (n + 1) n_fine_Charged [(.row 24 a0_0), (.row 9 a0_1), (.row 7 a0_2), (ci a1), (ci a2)] = evF Try.prog sg (D n) fe27 (bodyOf Try.f27) [(.row 24 a0_0), (.row 9 a0_1), (.row 7 a0_2), (ci a1), (ci a2)] from rfl).trans (r_fine_Charged (D n) a0_0 a0_1 a0_2 a1 a2)
def R_fine_Posts (M : Den) (a0_0 a0_1 a0_2 a1 : List (List CV)) : Option Ou :=
    callO (M n_fine_Check [CV.row 24 a0_0, CV.row 9 a0_1, CV.row 7 a0_2]) fun v0 =>
        iteB ((gi v0 0) != 0)
          (some (.ret ([CV.row 5 [], ci (gi v0 0)])))
          (callO (M n_fine_areDays [CV.row 1 a1]) fun v1 =>
          iteB (!(gb v1 0))
            (some (.ret ([CV.row 5 [], ci 66])))
            (callO (M n_fine_postings [CV.row 24 a0_0, CV.row 9 a0_1, CV.row 7 a0_2, CV.row 1 a1]) fun v2 =>
            some (.ret [CV.row 5 (gr v2 0), ci 0])))
theorem r_fine_Posts (M : Den) (a0_0 a0_1 a0_2 a1 : List (List CV)) : evF Try.prog sg M fe44 (bodyOf Try.f44) [(.row 24 a0_0), (.row 9 a0_1), (.row 7 a0_2), (.row 1 a1)] = retO (R_fine_Posts M a0_0 a0_1 a0_2 a1) := by kernel_rfl
theorem q_fine_Posts (n : Nat) (a0_0 a0_1 a0_2 a1 : List (List CV)) : D (n + 1) n_fine_Posts [(.row 24 a0_0), (.row 9 a0_1), (.row 7 a0_2), (.row 1 a1)] = retO (R_fine_Posts (D n) a0_0 a0_1 a0_2 a1) := (show D (n + 1) n_fine_Posts [(.row 24 a0_0), (.row 9 a0_1), (.row 7 a0_2), (.row 1 a1)] = evF Try.prog sg (D n) fe44 (bodyOf Try.f44) [(.row 24 a0_0), (.row 9 a0_1), (.row 7 a0_2), (.row 1 a1)] from rfl).trans (r_fine_Posts (D n) a0_0 a0_1 a0_2 a1)
def R_fine_fed (M : Den) (a0_0 a0_1 a0_2 a0_3 a0_4 a0_5 a0_6 a0_7 a0_8 a1_0 a1_1 a1_2 a1_3 a2 : Int) : Option Ou :=
    seqO (iteB (a1_2 == 2)
            (some (.nx [ci a1_3]))
            (seqO (iteB (a1_2 != 0)
                (some (.nx [ci (wr (a1_3 - 1))]))
                (some (.nx [ci a2]))) fun v0 =>
            some (.nx [ci (gi v0 0)]))) fun v0 =>
        callO (M n_fine_days [ci a0_6, ci (gi v0 0)]) fun v1 =>
        some (.ret [List.getD v1 0 dC])
theorem r_fine_fed (M : Den) (a0_0 a0_1 a0_2 a0_3 a0_4 a0_5 a0_6 a0_7 a0_8 a1_0 a1_1 a1_2 a1_3 a2 : Int) : evF Try.prog sg M fe84 (bodyOf Try.f84) [(ci a0_0), (ci a0_1), (ci a0_2), (ci a0_3), (ci a0_4), (ci a0_5), (ci a0_6), (ci a0_7), (ci a0_8), (ci a1_0), (ci a1_1), (ci a1_2), (ci a1_3), (ci a2)] = retO (R_fine_fed M a0_0 a0_1 a0_2 a0_3 a0_4 a0_5 a0_6 a0_7 a0_8 a1_0 a1_1 a1_2 a1_3 a2) := by kernel_rfl
theorem q_fine_fed (n : Nat) (a0_0 a0_1 a0_2 a0_3 a0_4 a0_5 a0_6 a0_7 a0_8 a1_0 a1_1 a1_2 a1_3 a2 : Int) : D (n + 1) n_fine_fed [(ci a0_0), (ci a0_1), (ci a0_2), (ci a0_3), (ci a0_4), (ci a0_5), (ci a0_6), (ci a0_7), (ci a0_8), (ci a1_0), (ci a1_1), (ci a1_2), (ci a1_3), (ci a2)] = retO (R_fine_fed (D n) a0_0 a0_1 a0_2 a0_3 a0_4 a0_5 a0_6 a0_7 a0_8 a1_0 a1_1 a1_2 a1_3 a2) := (show D (n + 1) n_fine_fed [(ci a0_0), (ci a0_1), (ci a0_2), (ci a0_3), (ci a0_4), (ci a0_5), (ci a0_6), (ci a0_7), (ci a0_8), (ci a1_0), (ci a1_1), (ci a1_2), (ci a1_3), (ci a2)] = evF Try.prog sg (D n) fe84 (bodyOf Try.f84) [(ci a0_0), (ci a0_1), (ci a0_2), (ci a0_3), (ci a0_4), (ci a0_5), (ci a0_6), (ci a0_7), (ci a0_8), (ci a1_0), (ci a1_1), (ci a1_2), (ci a1_3), (ci a2)] from rfl).trans (r_fine_fed (D n) a0_0 a0_1 a0_2 a0_3 a0_4 a0_5 a0_6 a0_7 a0_8 a1_0 a1_1 a1_2 a1_3 a2)
def R_fine_isRow (M : Den) (a0_0 a0_1 a0_2 a0_3 a0_4 a0_5 a0_6 a0_7 a0_8 a0_9 : Int) : Option Ou :=
    iteB (a0_0 == 0)
          (callO (M n_slices_ContainsFunc_int ([CV.row 1 (chunk 1 10 [ci a0_0, ci a0_1, ci a0_2, ci a0_3, ci a0_4, ci a0_5, ci a0_6, ci a0_7, ci a0_8, ci a0_9]), CV.fn n_fine_isRow_c1 []])) fun v0 =>
          some (.ret [cb (!(gb v0 0))]))
          (some (.ret [cb false]))
theorem r_fine_isRow (M : Den) (a0_0 a0_1 a0_2 a0_3 a0_4 a0_5 a0_6 a0_7 a0_8 a0_9 : Int) : evF Try.prog sg M fe72 (bodyOf Try.f72) [(ci a0_0), (ci a0_1), (ci a0_2), (ci a0_3), (ci a0_4), (ci a0_5), (ci a0_6), (ci a0_7), (ci a0_8), (ci a0_9)] = retO (R_fine_isRow M a0_0 a0_1 a0_2 a0_3 a0_4 a0_5 a0_6 a0_7 a0_8 a0_9) := by kernel_rfl
theorem q_fine_isRow (n : Nat) (a0_0 a0_1 a0_2 a0_3 a0_4 a0_5 a0_6 a0_7 a0_8 a0_9 : Int) : D (n + 1) n_fine_isRow [(ci a0_0), (ci a0_1), (ci a0_2), (ci a0_3), (ci a0_4), (ci a0_5), (ci a0_6), (ci a0_7), (ci a0_8), (ci a0_9)] = retO (R_fine_isRow (D n) a0_0 a0_1 a0_2 a0_3 a0_4 a0_5 a0_6 a0_7 a0_8 a0_9) := (show D (n + 1) n_fine_isRow [(ci a0_0), (ci a0_1), (ci a0_2), (ci a0_3), (ci a0_4), (ci a0_5), (ci a0_6), (ci a0_7), (ci a0_8), (ci a0_9)] = evF Try.prog sg (D n) fe72 (bodyOf Try.f72) [(ci a0_0), (ci a0_1), (ci a0_2), (ci a0_3), (ci a0_4), (ci a0_5), (ci a0_6), (ci a0_7), (ci a0_8), (ci a0_9)] from rfl).trans (r_fine_isRow (D n) a0_0 a0_1 a0_2 a0_3 a0_4 a0_5 a0_6 a0_7 a0_8 a0_9)
def R_slices_Clone_Tariff (M : Den) (a0 : List (List CV)) : Option Ou :=
    nilD a0
          (some (.ret ([CV.row 24 []])))
          (chk (fitA 0 (List.length a0) 192) <|
          some (.ret [CV.row 24 a0]))
theorem r_slices_Clone_Tariff (M : Den) (a0 : List (List CV)) : evF Try.prog sg M fe60 (bodyOf Try.f60) [(.row 24 a0)] = retO (R_slices_Clone_Tariff M a0) := by kernel_rfl
theorem q_slices_Clone_Tariff (n : Nat) (a0 : List (List CV)) : D (n + 1) n_slices_Clone_Tariff [(.row 24 a0)] = retO (R_slices_Clone_Tariff (D n) a0) := (show D (n + 1) n_slices_Clone_Tariff [(.row 24 a0)] = evF Try.prog sg (D n) fe60 (bodyOf Try.f60) [(.row 24 a0)] from rfl).trans (r_slices_Clone_Tariff (D n) a0)
def R_fine_stays_c1 (M : Den) (a0_0 a0_1 a0_2 a0_3 a0_4 a0_5 a0_6 a0_7 a0_8 : Int) (a1 : List CV) : Option Ou :=
    chk (oks [li] a1 0) <|
        callO (M n_fine_counts [ci a0_7, ci a0_8, ci (gi a1 0)]) fun v0 =>
        some (.ret [cb (!(gb v0 0))])
theorem r_fine_stays_c1 (M : Den) (a0_0 a0_1 a0_2 a0_3 a0_4 a0_5 a0_6 a0_7 a0_8 : Int) (a1 : List CV) : evF Try.prog sg M fe127 (bodyOf Try.f127) [(ci a0_0), (ci a0_1), (ci a0_2), (ci a0_3), (ci a0_4), (ci a0_5), (ci a0_6), (ci a0_7), (ci a0_8), (.ref a1)] = retO (R_fine_stays_c1 M a0_0 a0_1 a0_2 a0_3 a0_4 a0_5 a0_6 a0_7 a0_8 a1) := by kernel_rfl
theorem q_fine_stays_c1 (n : Nat) (a0_0 a0_1 a0_2 a0_3 a0_4 a0_5 a0_6 a0_7 a0_8 : Int) (a1 : List CV) : D (n + 1) n_fine_stays_c1 [(ci a0_0), (ci a0_1), (ci a0_2), (ci a0_3), (ci a0_4), (ci a0_5), (ci a0_6), (ci a0_7), (ci a0_8), (.ref a1)] = retO (R_fine_stays_c1 (D n) a0_0 a0_1 a0_2 a0_3 a0_4 a0_5 a0_6 a0_7 a0_8 a1) := (show D (n + 1) n_fine_stays_c1 [(ci a0_0), (ci a0_1), (ci a0_2), (ci a0_3), (ci a0_4), (ci a0_5), (ci a0_6), (ci a0_7), (ci a0_8), (.ref a1)] = evF Try.prog sg (D n) fe127 (bodyOf Try.f127) [(ci a0_0), (ci a0_1), (ci a0_2), (ci a0_3), (ci a0_4), (ci a0_5), (ci a0_6), (ci a0_7), (ci a0_8), (.ref a1)] from rfl).trans (r_fine_stays_c1 (D n) a0_0 a0_1 a0_2 a0_3 a0_4 a0_5 a0_6 a0_7 a0_8 a1)
def R_fine_Noted_c1 (M : Den) (a0_0 a0_1 a0_2 a0_3 a0_4 a0_5 a0_6 a1_0 a1_1 a1_2 a1_3 a1_4 a1_5 a1_6 : Int) : Option Ou :=
    callO (M n_cmp_Compare_int [ci a0_0, ci a1_0]) fun v0 =>
        some (.ret [ci (gi v0 0)])
theorem r_fine_Noted_c1 (M : Den) (a0_0 a0_1 a0_2 a0_3 a0_4 a0_5 a0_6 a1_0 a1_1 a1_2 a1_3 a1_4 a1_5 a1_6 : Int) : evF Try.prog sg M fe58 (bodyOf Try.f58) [(ci a0_0), (ci a0_1), (ci a0_2), (ci a0_3), (ci a0_4), (ci a0_5), (ci a0_6), (ci a1_0), (ci a1_1), (ci a1_2), (ci a1_3), (ci a1_4), (ci a1_5), (ci a1_6)] = retO (R_fine_Noted_c1 M a0_0 a0_1 a0_2 a0_3 a0_4 a0_5 a0_6 a1_0 a1_1 a1_2 a1_3 a1_4 a1_5 a1_6) := by kernel_rfl
theorem q_fine_Noted_c1 (n : Nat) (a0_0 a0_1 a0_2 a0_3 a0_4 a0_5 a0_6 a1_0 a1_1 a1_2 a1_3 a1_4 a1_5 a1_6 : Int) : D (n + 1) n_fine_Noted_c1 [(ci a0_0), (ci a0_1), (ci a0_2), (ci a0_3), (ci a0_4), (ci a0_5), (ci a0_6), (ci a1_0), (ci a1_1), (ci a1_2), (ci a1_3), (ci a1_4), (ci a1_5), (ci a1_6)] = retO (R_fine_Noted_c1 (D n) a0_0 a0_1 a0_2 a0_3 a0_4 a0_5 a0_6 a1_0 a1_1 a1_2 a1_3 a1_4 a1_5 a1_6) := (show D (n + 1) n_fine_Noted_c1 [(ci a0_0), (ci a0_1), (ci a0_2), (ci a0_3), (ci a0_4), (ci a0_5), (ci a0_6), (ci a1_0), (ci a1_1), (ci a1_2), (ci a1_3), (ci a1_4), (ci a1_5), (ci a1_6)] = evF Try.prog sg (D n) fe58 (bodyOf Try.f58) [(ci a0_0), (ci a0_1), (ci a0_2), (ci a0_3), (ci a0_4), (ci a0_5), (ci a0_6), (ci a1_0), (ci a1_1), (ci a1_2), (ci a1_3), (ci a1_4), (ci a1_5), (ci a1_6)] from rfl).trans (r_fine_Noted_c1 (D n) a0_0 a0_1 a0_2 a0_3 a0_4 a0_5 a0_6 a1_0 a1_1 a1_2 a1_3 a1_4 a1_5 a1_6)
end
end Go.Proofs.Ytabhbdehbpmpkaa
namespace Go.Proofs.Ytabhbdehbpmpkaa
open Go Go.Sx
set_option maxRecDepth 100000
set_option maxHeartbeats 0
noncomputable section
def R_r06_posted (M : Den) (a0_0 a0_1 a0_2 : List (List CV)) (a1_0 a1_1 a1_2 a1_3 a1_4 a1_5 a1_6 a1_7 a1_8 a2_0 a2_1 : Int) : Option Ou :=
    blkO 0 (loopD (fun v0 =>
            iteB (decide ((gi v0 0) < 2))
              (seqO (chk ((decide (0 ≤ (gi v0 0))) && (decide ((gi v0 0) < (Int.ofNat 2)))) <|
                chk (oks [li] [ci a2_0, ci a2_1] (0 + ((Int.toNat (gi v0 0)) * 1))) <|
                iteB (decide ((gi [ci a2_0, ci a2_1] (0 + ((Int.toNat (gi v0 0)) * 1))) ≥ 0))
                  (chk ((decide (0 ≤ (gi v0 0))) && (decide ((gi v0 0) < (Int.ofNat 2)))) <|
                  chk (oks [li] [ci a2_0, ci a2_1] (0 + ((Int.toNat (gi v0 0)) * 1))) <|
                  callO (M n_r06_counts ([ci a1_7, ci a1_8, ci (gi [ci a2_0, ci a2_1] (0 + ((Int.toNat (gi v0 0)) * 1)))])) fun v1 =>
                  some (.nx [cb (gb v1 0)]))
                  (some (.nx [cb false]))) fun v1 =>
              seqO (iteB (gb v1 0)
                  (chk ((decide (0 ≤ (gi v0 0))) && (decide ((gi v0 0) < (Int.ofNat 2)))) <|
                  chk (oks [li] [ci a2_0, ci a2_1] (0 + ((Int.toNat (gi v0 0)) * 1))) <|
                  callO (M n_r06_due ([CV.row 24 a0_0, CV.row 9 a0_1, CV.row 7 a0_2, ci a1_0, ci a1_1, ci a1_2, ci a1_3, ci a1_4, ci a1_5, ci a1_6, ci a1_7, ci a1_8, ci (gi [ci a2_0, ci a2_1] (0 + ((Int.toNat (gi v0 0)) * 1)))])) fun v2 =>
                  chk (inb (gi v0 0) (gr v0 1)) <|
                  chk ((decide ((Int.toNat (gi v0 0)) < (List.length (gr v0 1)))) && (decide (1 ≤ 1))) <|
                  some (.nx ([CV.row 1 (List.set (gr v0 1) (Int.toNat (gi v0 0)) (spl (el (gr v0 1) (gi v0 0)) 0 [ci (gi v2 0)]))])))
                  (some (.nx [CV.row 1 (gr v0 1)]))) fun v2 =>
              some (.nx [ci (wr ((gi v0 0) + 1)), CV.row 1 (gr v2 0)]))
              (some (.br 0 [CV.row 1 (gr v0 1)]))) ([ci 0, CV.row 1 (chunk 1 2 [ci (-1), ci (-1)])])) fun v0 =>
        chk (inb 0 (gr v0 0)) <|
        chk (decide (0 < (List.length (gr v0 0)))) <|
        chk (oks [li] (List.getD (gr v0 0) 0 []) 0) <|
        chk (inb 1 (gr v0 0)) <|
        chk (decide (1 < (List.length (gr v0 0)))) <|
        chk (oks [li] (List.getD (gr v0 0) 1 []) 0) <|
        chk (inb 0 (gr v0 0)) <|
        chk (decide (0 < (List.length (gr v0 0)))) <|
        chk (oks [li] (List.getD (gr v0 0) 0 []) 0) <|
        chk (inb 1 (gr v0 0)) <|
        chk (decide (1 < (List.length (gr v0 0)))) <|
        chk (oks [li] (List.getD (gr v0 0) 1 []) 0) <|
        seqO (iteB ((if (gi (List.getD (gr v0 0) 1 []) 0) < (gi (List.getD (gr v0 0) 0 []) 0) then gi (List.getD (gr v0 0) 1 []) 0 else gi (List.getD (gr v0 0) 0 []) 0) == (if (gi (List.getD (gr v0 0) 1 []) 0) > (gi (List.getD (gr v0 0) 0 []) 0) then gi (List.getD (gr v0 0) 1 []) 0 else gi (List.getD (gr v0 0) 0 []) 0))
            (some (.nx ([CV.row 1 ([[ci (if (gi (List.getD (gr v0 0) 1 []) 0) > (gi (List.getD (gr v0 0) 0 []) 0) then gi (List.getD (gr v0 0) 1 []) 0 else gi (List.getD (gr v0 0) 0 []) 0)]])])))
            (some (.nx ([CV.row 1 (chunk 1 2 ([ci (if (gi (List.getD (gr v0 0) 1 []) 0) < (gi (List.getD (gr v0 0) 0 []) 0) then gi (List.getD (gr v0 0) 1 []) 0 else gi (List.getD (gr v0 0) 0 []) 0), ci (if (gi (List.getD (gr v0 0) 1 []) 0) > (gi (List.getD (gr v0 0) 0 []) 0) then gi (List.getD (gr v0 0) 1 []) 0 else gi (List.getD (gr v0 0) 0 []) 0)]))])))) fun v1 =>
        blkO 2 (loopD (fun v2 =>
            iteB (decide ((gi v2 0) < 3))
              (blkO 4 (loopD (fun v3 =>
                  iteB (decide ((gi v3 0) < (il (gr v1 0))))
                    (blkO 5 (seqO (chk (inb (gi v3 0) (gr v1 0)) <|
                        chk (oks [li] (el (gr v1 0) (gi v3 0)) 0) <|
                        iteB (decide ((gi (el (gr v1 0) (gi v3 0)) 0) < 0))
                          (some (.nx [cb true]))
                          (chk (inb (gi v3 0) (gr v1 0)) <|
                          chk (oks [li] (el (gr v1 0) (gi v3 0)) 0) <|
                          chk ((decide (0 ≤ (gi v2 0))) && (decide ((gi v2 0) < (Int.ofNat 3)))) <|
                          chk (oks [li] [ci 0, ci 1, ci (wr (2 + a1_5))] (0 + ((Int.toNat (gi v2 0)) * 1))) <|
                          iteB ((gi (el (gr v1 0) (gi v3 0)) 0) == (gi [ci 0, ci 1, ci (wr (2 + a1_5))] (0 + ((Int.toNat (gi v2 0)) * 1))))
                            (some (.nx [cb true]))
                            (iteB ((gi v2 0) == 2)
                              (some (.nx [cb (a1_5 == 0)]))
                              (some (.nx [cb false]))))) fun v4 =>
                      iteB (gb v4 0)
                        (some (.br 5 [CV.row 5 (gr v3 1)]))
                        (chk (inb (gi v3 0) (gr v1 0)) <|
                        chk (oks [li] (el (gr v1 0) (gi v3 0)) 0) <|
                        callO (M n_r06_paid [CV.row 24 a0_0, CV.row 9 a0_1, CV.row 7 a0_2, ci a1_0, ci a1_1, ci a1_2, ci a1_3, ci a1_4, ci a1_5, ci a1_6, ci a1_7, ci a1_8, ci a2_1, ci (gi (el (gr v1 0) (gi v3 0)) 0), ci (gi v2 0)]) fun v5 =>
                        chk (inb (gi v3 0) (gr v1 0)) <|
                        chk (oks [li] (el (gr v1 0) (gi v3 0)) 0) <|
                        callO (M n_r06_paid [CV.row 24 a0_0, CV.row 9 a0_1, CV.row 7 a0_2, ci a1_0, ci a1_1, ci a1_2, ci a1_3, ci a1_4, ci a1_5, ci a1_6, ci a1_7, ci a1_8, ci a2_0, ci (gi (el (gr v1 0) (gi v3 0)) 0), ci (gi v2 0)]) fun v6 =>
                        seqO (iteB ((wr ((gi v5 0) - (gi v6 0))) != 0)
                            (chk (inb (gi v3 0) (gr v1 0)) <|
                            chk (oks [li] (el (gr v1 0) (gi v3 0)) 0) <|
                            chk ((decide (0 ≤ (gi v2 0))) && (decide ((gi v2 0) < (Int.ofNat 3)))) <|
                            chk (oks [li] [ci 0, ci 1, ci (wr (2 + a1_5))] (0 + ((Int.toNat (gi v2 0)) * 1))) <|
                            chk (fitA (List.length (gr v3 1)) 1 40) <|
                            some (.nx ([CV.row 5 ((gr v3 1) ++ (chunk 5 1 ([ci a2_1, ci a1_0, ci (gi (el (gr v1 0) (gi v3 0)) 0), ci (gi [ci 0, ci 1, ci (wr (2 + a1_5))] (0 + ((Int.toNat (gi v2 0)) * 1))), ci (wr ((gi v5 0) - (gi v6 0)))])))])))
                            (some (.nx [CV.row 5 (gr v3 1)]))) fun v7 =>
                        some (.br 5 [CV.row 5 (gr v7 0)]))) fun v4 =>
                    some (.nx [ci (wr ((gi v3 0) + 1)), CV.row 5 (gr v4 0)]))
                    (some (.br 4 [CV.row 5 (gr v3 1)]))) [ci 0, CV.row 5 (gr v2 1)]) fun v3 =>
              some (.nx [ci (wr ((gi v2 0) + 1)), CV.row 5 (gr v3 0)]))
              (some (.br 2 [CV.row 5 (gr v2 1)]))) ([ci 0, CV.row 5 []])) fun v2 =>
        some (.ret [CV.row 5 (gr v2 0)])
theorem r_r06_posted (M : Den) (a0_0 a0_1 a0_2 : List (List CV)) (a1_0 a1_1 a1_2 a1_3 a1_4 a1_5 a1_6 a1_7 a1_8 a2_0 a2_1 : Int) : evF Try.prog sg M fe131 (bodyOf Try.f131) [(.row 24 a0_0), (.row 9 a0_1), (.row 7 a0_2), (ci a1_0), (ci a1_1), (ci a1_2), (ci a1_3), (ci a1_4), (ci a1_5), (ci a1_6), (ci a1_7), (ci a1_8), (ci a2_0), (ci a2_1)] = retO (R_r06_posted M a0_0 a0_1 a0_2 a1_0 a1_1 a1_2 a1_3 a1_4 a1_5 a1_6 a1_7 a1_8 a2_0 a2_1) := by kernel_rfl
theorem q_r06_posted (n : Nat) (a0_0 a0_1 a0_2 : List (List CV)) (a1_0 a1_1 a1_2 a1_3 a1_4 a1_5 a1_6 a1_7 a1_8 a2_0 a2_1 : Int) : D (n + 1) n_r06_posted [(.row 24 a0_0), (.row 9 a0_1), (.row 7 a0_2), (ci a1_0), (ci a1_1), (ci a1_2), (ci a1_3), (ci a1_4), (ci a1_5), (ci a1_6), (ci a1_7), (ci a1_8), (ci a2_0), (ci a2_1)] = retO (R_r06_posted (D n) a0_0 a0_1 a0_2 a1_0 a1_1 a1_2 a1_3 a1_4 a1_5 a1_6 a1_7 a1_8 a2_0 a2_1) := (show D (n + 1) n_r06_posted [(.row 24 a0_0), (.row 9 a0_1), (.row 7 a0_2), (ci a1_0), (ci a1_1), (ci a1_2), (ci a1_3), (ci a1_4), (ci a1_5), (ci a1_6), (ci a1_7), (ci a1_8), (ci a2_0), (ci a2_1)] = evF Try.prog sg (D n) fe131 (bodyOf Try.f131) [(.row 24 a0_0), (.row 9 a0_1), (.row 7 a0_2), (ci a1_0), (ci a1_1), (ci a1_2), (ci a1_3), (ci a1_4), (ci a1_5), (ci a1_6), (ci a1_7), (ci a1_8), (ci a2_0), (ci a2_1)] from rfl).trans (r_r06_posted (D n) a0_0 a0_1 a0_2 a1_0 a1_1 a1_2 a1_3 a1_4 a1_5 a1_6 a1_7 a1_8 a2_0 a2_1)
def R_r06_owner (M : Den) (a0 : List (List CV)) : Option Ou :=
    blkO 0 (loopD (fun v0 =>
            iteB (decide ((gi v0 1) < (il a0)))
              (seqO (chk (inb (gi v0 1) a0) <|
                chk (oks [li] (List.drop 2 (el a0 (gi v0 1))) 0) <|
                iteB ((gi (List.drop 2 (el a0 (gi v0 1))) 0) == 3)
                  (chk (inb (gi v0 1) a0) <|
                  chk (oks [li] (List.drop 5 (el a0 (gi v0 1))) 0) <|
                  some (.nx [cb (decide ((gi (List.drop 5 (el a0 (gi v0 1))) 0) ≥ (gi v0 7)))]))
                  (some (.nx [cb false]))) fun v1 =>
              seqO (iteB (gb v1 0)
                  (chk (inb (gi v0 1) a0) <|
                  chk (oks (List.replicate 7 li) (el a0 (gi v0 1)) 0) <|
                  chk (inb (gi v0 1) a0) <|
                  chk (oks [li] (List.drop 3 (el a0 (gi v0 1))) 0) <|
                  some (.nx (cat [[ci (gi (List.drop 3 (el a0 (gi v0 1))) 0)], cis (el a0 (gi v0 1)) 0 7])))
                  (some (.nx (cat [[ci (gi v0 0)], cis v0 2 7])))) fun v2 =>
              some (.nx (cat [[ci (gi v2 0), ci (wr ((gi v0 1) + 1))], cis v2 1 7])))
              (some (.br 0 (cat [[ci (gi v0 0)], cis v0 2 7])))) [ci 0, ci 0, ci 0, ci 0, ci 0, ci 0, ci 0, ci (-1), ci 0]) fun v0 =>
        iteB (decide ((gi v0 0) > 0))
          (some (.ret [ci (gi v0 0)]))
          (callO (M n_r06_least [CV.row 7 a0, ci 1]) fun v1 =>
          blkO 2 (loopD (fun v2 =>
              iteB (decide ((gi v2 1) ≥ 0))
                (seqO (chk (inb (gi v2 1) a0) <|
                  chk (oks [li] (List.drop 2 (el a0 (gi v2 1))) 0) <|
                  iteB ((gi (List.drop 2 (el a0 (gi v2 1))) 0) == 1)
                    (chk (inb (gi v2 1) a0) <|
                    chk (oks [li] (List.drop 4 (el a0 (gi v2 1))) 0) <|
                    some (.nx [cb ((gi (List.drop 4 (el a0 (gi v2 1))) 0) == (gi v1 0))]))
                    (some (.nx [cb false]))) fun v3 =>
                seqO (iteB (gb v3 0)
                    (chk (inb (gi v2 1) a0) <|
                    chk (oks [li] (List.drop 3 (el a0 (gi v2 1))) 0) <|
                    some (.nx [ci (gi (List.drop 3 (el a0 (gi v2 1))) 0)]))
                    (some (.nx [ci (gi v2 0)]))) fun v4 =>
                some (.nx [ci (gi v4 0), ci (wr ((gi v2 1) - 1))]))
                (some (.br 2 [ci (gi v2 0)]))) [ci (gi v0 0), ci (wr ((il a0) - 1))]) fun v2 =>
          some (.ret [ci (gi v2 0)]))
theorem r_r06_owner (M : Den) (a0 : List (List CV)) : evF Try.prog sg M fe116 (bodyOf Try.f116) [(.row 7 a0)] = retO (R_r06_owner M a0) := by kernel_rfl
theorem q_r06_owner (n : Nat) (a0 : List (List CV)) : D (n + 1) n_r06_owner [(.row 7 a0)] = retO (R_r06_owner (D n) a0) := (show D (n + 1) n_r06_owner [(.row 7 a0)] = evF Try.prog sg (D n) fe116 (bodyOf Try.f116) [(.row 7 a0)] from rfl).trans (r_r06_owner (D n) a0)
def R_fine_whose (M : Den) (a0 : List (List CV)) : Option Ou :=
    blkO 0 (loopD (fun v0 =>
            iteB (decide ((gi v0 1) < (il a0)))
              (blkO 1 (chk (inb (gi v0 1) a0) <|
                chk (oks (List.replicate 7 li) (el a0 (gi v0 1)) 0) <|
                iteB ((gi (el a0 (gi v0 1)) 2) == 2)
                  (some (.br 1 (cat [[ci (gi v0 0)], cis v0 2 14])))
                  (seqO (iteB (decide ((gi v0 0) < 0))
                      (some (.nx [cb true]))
                      (some (.nx [cb (decide ((gi (el a0 (gi v0 1)) 4) < (gi v0 0)))]))) fun v1 =>
                  seqO (iteB (gb v1 0)
                      (some (.nx [ci (gi (el a0 (gi v0 1)) 4)]))
                      (some (.nx [ci (gi v0 0)]))) fun v2 =>
                  seqO (iteB ((gi (el a0 (gi v0 1)) 2) == 1)
                      (some (.nx [cb (decide ((gi (el a0 (gi v0 1)) 4) < (gi v0 6)))]))
                      (some (.nx [cb false]))) fun v3 =>
                  seqO (iteB (gb v3 0)
                      (some (.nx (cis (el a0 (gi v0 1)) 0 7)))
                      (some (.nx (cis v0 2 7)))) fun v4 =>
                  seqO (iteB ((gi (el a0 (gi v0 1)) 2) == 3)
                      (some (.nx [cb (decide ((gi (el a0 (gi v0 1)) 5) ≥ (gi v0 14)))]))
                      (some (.nx [cb false]))) fun v5 =>
                  seqO (iteB (gb v5 0)
                      (some (.nx (cis (el a0 (gi v0 1)) 0 7)))
                      (some (.nx (cis v0 9 7)))) fun v6 =>
                  some (.br 1 (cat [[ci (gi v2 0)], cis v4 0 7, cis v6 0 7])))) fun v1 =>
              some (.nx (cat [[ci (gi v1 0), ci (wr ((gi v0 1) + 1))], cis v1 1 14])))
              (some (.br 0 (cat [[ci (gi v0 0)], cis v0 2 14])))) [ci (-1), ci 0, ci 0, ci 0, ci 0, ci 0, ci 100001, ci 0, ci 0, ci 0, ci 0, ci 0, ci 0, ci 0, ci (-1), ci 0]) fun v0 =>
        iteB ((gi v0 11) != 0)
          (some (.ret [ci (gi v0 11), ci (gi v0 0)]))
          (some (.ret [ci (gi v0 4), ci (gi v0 0)]))
theorem r_fine_whose (M : Den) (a0 : List (List CV)) : evF Try.prog sg M fe113 (bodyOf Try.f113) [(.row 7 a0)] = retO (R_fine_whose M a0) := by kernel_rfl
theorem q_fine_whose (n : Nat) (a0 : List (List CV)) : D (n + 1) n_fine_whose [(.row 7 a0)] = retO (R_fine_whose (D n) a0) := (show D (n + 1) n_fine_whose [(.row 7 a0)] = evF Try.prog sg (D n) fe113 (bodyOf Try.f113) [(.row 7 a0)] from rfl).trans (r_fine_whose (D n) a0)
def R_r06_Balance (M : Den) (a0_0 a0_1 a0_2 a1 : List (List CV)) (a2 : Int) : Option Ou :=
    callO (M n_r06_Posts [CV.row 24 a0_0, CV.row 9 a0_1, CV.row 7 a0_2, CV.row 1 a1]) fun v0 =>
        iteB ((gi v0 1) != 0)
          (some (.ret [ci 0, ci (gi v0 1)]))
          (callO (M n_r06_In [ci a2, ci 0, ci 101]) fun v1 =>
          iteB (!(gb v1 0))
            (some (.ret [ci 0, ci 68]))
            (blkO 0 (loopD (fun v2 =>
                iteB (decide ((gi v2 1) < (il (gr v0 0))))
                  (chk (inb (gi v2 1) (gr v0 0)) <|
                  chk (oks [li] (List.drop 3 (el (gr v0 0) (gi v2 1))) 0) <|
                  seqO (iteB ((gi (List.drop 3 (el (gr v0 0) (gi v2 1))) 0) == a2)
                      (chk (inb (gi v2 1) (gr v0 0)) <|
                      chk (oks [li] (List.drop 4 (el (gr v0 0) (gi v2 1))) 0) <|
                      some (.nx [ci (wr ((gi v2 0) + (gi (List.drop 4 (el (gr v0 0) (gi v2 1))) 0)))]))
                      (some (.nx [ci (gi v2 0)]))) fun v3 =>
                  chk (inb (gi v2 1) (gr v0 0)) <|
                  chk (oks [li] (List.drop 2 (el (gr v0 0) (gi v2 1))) 0) <|
                  seqO (iteB ((gi (List.drop 2 (el (gr v0 0) (gi v2 1))) 0) == a2)
                      (chk (inb (gi v2 1) (gr v0 0)) <|
                      chk (oks [li] (List.drop 4 (el (gr v0 0) (gi v2 1))) 0) <|
                      some (.nx [ci (wr ((gi v3 0) - (gi (List.drop 4 (el (gr v0 0) (gi v2 1))) 0)))]))
                      (some (.nx [ci (gi v3 0)]))) fun v4 =>
                  some (.nx [ci (gi v4 0), ci (wr ((gi v2 1) + 1))]))
                  (some (.br 0 [ci (gi v2 0)]))) [ci 0, ci 0]) fun v2 =>
            some (.ret [ci (gi v2 0), ci 0])))
theorem r_r06_Balance (M : Den) (a0_0 a0_1 a0_2 a1 : List (List CV)) (a2 : Int) : evF Try.prog sg M fe47 (bodyOf Try.f47) [(.row 24 a0_0), (.row 9 a0_1), (.row 7 a0_2), (.row 1 a1), (ci a2)] = retO (R_r06_Balance M a0_0 a0_1 a0_2 a1 a2) := by kernel_rfl
theorem q_r06_Balance (n : Nat) (a0_0 a0_1 a0_2 a1 : List (List CV)) (a2 : Int) : D (n + 1) n_r06_Balance [(.row 24 a0_0), (.row 9 a0_1), (.row 7 a0_2), (.row 1 a1), (ci a2)] = retO (R_r06_Balance (D n) a0_0 a0_1 a0_2 a1 a2) := (show D (n + 1) n_r06_Balance [(.row 24 a0_0), (.row 9 a0_1), (.row 7 a0_2), (.row 1 a1), (ci a2)] = evF Try.prog sg (D n) fe47 (bodyOf Try.f47) [(.row 24 a0_0), (.row 9 a0_1), (.row 7 a0_2), (.row 1 a1), (ci a2)] from rfl).trans (r_r06_Balance (D n) a0_0 a0_1 a0_2 a1 a2)
def R_law06_FinePosts (M : Den) (a0_0 a0_1 a0_2 a1 a2 : List (List CV)) : Option Ou :=
    callO (M n_law06_sane []) fun v0 =>
        callO (M n_fine_Posts [CV.row 24 a0_0, CV.row 9 a0_1, CV.row 7 a0_2, CV.row 1 a1]) fun v1 =>
        callO (M n_r06_Posts [CV.row 24 a0_0, CV.row 9 a0_1, CV.row 7 a0_2, CV.row 1 a1]) fun v2 =>
        seqO (iteB (decide ((il a2) > 0))
            (chk (inb 0 a2) <|
            chk (oks [li] (List.drop 3 (List.getD a2 0 [])) 0) <|
            some (.nx ([ci (gi (List.drop 3 (List.getD a2 0 [])) 0)])))
            (some (.nx [ci 0]))) fun v3 =>
        callO (M n_fine_Balance [CV.row 24 a0_0, CV.row 9 a0_1, CV.row 7 a0_2, CV.row 1 a1, ci (gi v3 0)]) fun v4 =>
        callO (M n_r06_Balance [CV.row 24 a0_0, CV.row 9 a0_1, CV.row 7 a0_2, CV.row 1 a1, ci (gi v3 0)]) fun v5 =>
        callO (M n_r06_Same [CV.row 5 (gr v1 0), CV.row 5 (gr v2 0)]) fun v6 =>
        iteB (gb v0 0)
          (iteB (gb v6 0)
            (iteB ((gi v1 1) == (gi v2 1))
              (iteB ((gi v4 0) == (gi v5 0))
                (iteB ((gi v4 1) == (gi v5 1))
                  (callO (M n_fine_CheckPosts [CV.row 24 a0_0, CV.row 9 a0_1, CV.row 7 a0_2, CV.row 1 a1, CV.row 5 a2]) fun v7 =>
                  callO (M n_r06_CheckPosts [CV.row 24 a0_0, CV.row 9 a0_1, CV.row 7 a0_2, CV.row 1 a1, CV.row 5 a2]) fun v8 =>
                  some (.ret [cb ((gi v7 0) == (gi v8 0))]))
                  (some (.ret [cb false])))
                (some (.ret [cb false])))
              (some (.ret [cb false])))
            (some (.ret [cb false])))
          (some (.ret [cb false]))
theorem r_law06_FinePosts (M : Den) (a0_0 a0_1 a0_2 a1 a2 : List (List CV)) : evF Try.prog sg M fe9 (bodyOf Try.f9) [(.row 24 a0_0), (.row 9 a0_1), (.row 7 a0_2), (.row 1 a1), (.row 5 a2)] = retO (R_law06_FinePosts M a0_0 a0_1 a0_2 a1 a2) := by kernel_rfl
theorem q_law06_FinePosts (n : Nat) (a0_0 a0_1 a0_2 a1 a2 : List (List CV)) : D (n + 1) n_law06_FinePosts [(.row 24 a0_0), (.row 9 a0_1), (.row 7 a0_2), (.row 1 a1), (.row 5 a2)] = retO (R_law06_FinePosts (D n) a0_0 a0_1 a0_2 a1 a2) := (show D (n + 1) n_law06_FinePosts [(.row 24 a0_0), (.row 9 a0_1), (.row 7 a0_2), (.row 1 a1), (.row 5 a2)] = evF Try.prog sg (D n) fe9 (bodyOf Try.f9) [(.row 24 a0_0), (.row 9 a0_1), (.row 7 a0_2), (.row 1 a1), (.row 5 a2)] from rfl).trans (r_law06_FinePosts (D n) a0_0 a0_1 a0_2 a1 a2)
def R_r06_due (M : Den) (a0_0 a0_1 a0_2 : List (List CV)) (a1_0 a1_1 a1_2 a1_3 a1_4 a1_5 a1_6 a1_7 a1_8 a2 : Int) : Option Ou :=
    callO (M n_r06_lot [CV.row 24 a0_0, CV.row 9 a0_1, CV.row 7 a0_2, ci a1_0, ci a1_1, ci a1_2, ci a1_3, ci a1_4, ci a1_5, ci a1_6, ci a1_7, ci a1_8, ci a2]) fun v0 =>
        callO (M n_r06_charged [CV.row 24 a0_0, CV.row 9 a0_1, CV.row 7 a0_2, ci a1_0, ci a1_1, ci a1_2, ci a1_3, ci a1_4, ci a1_5, ci a1_6, ci a1_7, ci a1_8, ci a2]) fun v1 =>
        seqO (iteB ((gi v0 2) == 2)
            (some (.nx [ci a1_4, ci 0, ci 0, ci 0, ci 0, ci 2, ci 0, ci 0, ci 0]))
            (seqO (iteB ((gi v0 2) == 3)
                (some (.nx [cb true]))
                (some (.nx [cb ((gi v0 0) == 0)]))) fun v2 =>
            iteB (gb v2 0)
              (some (.ret [ci (-1), ci 0, ci 0, ci 0]))
              (some (.nx [ci (wr ((wr ((gi v1 0) + (gi v1 1))) + (gi v1 2))), ci 0, ci 0, ci 0, ci 0, ci (wr (2 + (gi v0 0))), ci 0, ci 0, ci 0])))) fun v2 =>
        callO (M n_r06_inForce [CV.row 24 a0_0, CV.row 9 a0_1, CV.row 7 a0_2, ci a1_6]) fun v3 =>
        seqO (iteB (decide (a1_5 > 0))
            (some (.nx [ci (gi v2 5), ci (wr (Int.tdiv (wr ((gi v2 0) * (gi v3 22))) 60)), ci (wr (Int.tdiv (wr ((gi v2 0) * (gi v3 23))) 60)), ci (gi v2 8)]))
            (some (.nx [ci (gi v2 5), ci (wr (Int.tdiv (wr ((gi v2 0) * (gi v3 22))) 60)), ci (gi v2 7), ci (gi v2 8)]))) fun v4 =>
        some (.ret [ci (gi v4 0), ci (gi v4 1), ci (gi v4 2), ci (wr ((wr ((gi v2 0) - (gi v4 1))) - (gi v4 2)))])
theorem r_r06_due (M : Den) (a0_0 a0_1 a0_2 : List (List CV)) (a1_0 a1_1 a1_2 a1_3 a1_4 a1_5 a1_6 a1_7 a1_8 a2 : Int) : evF Try.prog sg M fe87 (bodyOf Try.f87) [(.row 24 a0_0), (.row 9 a0_1), (.row 7 a0_2), (ci a1_0), (ci a1_1), (ci a1_2), (ci a1_3), (ci a1_4), (ci a1_5), (ci a1_6), (ci a1_7), (ci a1_8), (ci a2)] = retO (R_r06_due M a0_0 a0_1 a0_2 a1_0 a1_1 a1_2 a1_3 a1_4 a1_5 a1_6 a1_7 a1_8 a2) := by kernel_rfl
theorem q_r06_due (n : Nat) (a0_0 a0_1 a0_2 : List (List CV)) (a1_0 a1_1 a1_2 a1_3 a1_4 a1_5 a1_6 a1_7 a1_8 a2 : Int) : D (n + 1) n_r06_due [(.row 24 a0_0), (.row 9 a0_1), (.row 7 a0_2), (ci a1_0), (ci a1_1), (ci a1_2), (ci a1_3), (ci a1_4), (ci a1_5), (ci a1_6), (ci a1_7), (ci a1_8), (ci a2)] = retO (R_r06_due (D n) a0_0 a0_1 a0_2 a1_0 a1_1 a1_2 a1_3 a1_4 a1_5 a1_6 a1_7 a1_8 a2) := (show D (n + 1) n_r06_due [(.row 24 a0_0), (.row 9 a0_1), (.row 7 a0_2), (ci a1_0), (ci a1_1), (ci a1_2), (ci a1_3), (ci a1_4), (ci a1_5), (ci a1_6), (ci a1_7), (ci a1_8), (ci a2)] = evF Try.prog sg (D n) fe87 (bodyOf Try.f87) [(.row 24 a0_0), (.row 9 a0_1), (.row 7 a0_2), (ci a1_0), (ci a1_1), (ci a1_2), (ci a1_3), (ci a1_4), (ci a1_5), (ci a1_6), (ci a1_7), (ci a1_8), (ci a2)] from rfl).trans (r_r06_due (D n) a0_0 a0_1 a0_2 a1_0 a1_1 a1_2 a1_3 a1_4 a1_5 a1_6 a1_7 a1_8 a2)
def R_r06_CheckNote (M : Den) (a0_0 a0_1 a0_2 a0_3 a0_4 a0_5 a0_6 : Int) : Option Ou :=
    seqO (callO (M n_r06_In [ci a0_0, ci 1, ci 99999]) fun v0 =>
          iteB (!(gb v0 0))
            (some (.nx [cb true]))
            (callO (M n_r06_In [ci a0_1, ci 1, ci 99999]) fun v1 =>
            iteB (!(gb v1 0))
              (some (.nx [cb true]))
              (callO (M n_r06_In [ci a0_4, ci 0, ci 100000]) fun v2 =>
              iteB (!(gb v2 0))
                (some (.nx [cb true]))
                (callO (M n_r06_isUntil [ci a0_5, ci a0_6]) fun v3 =>
                some (.nx [cb (!(gb v3 0))]))))) fun v0 =>
        iteB (gb v0 0)
          (some (.ret [ci 62]))
          (seqO (iteB (a0_2 == 1)
              (callO (M n_r06_In [ci a0_3, ci 1, ci 99]) fun v1 =>
              some (.nx [cb (gb v1 0)]))
              (iteB (a0_2 == 3)
                (callO (M n_r06_In [ci a0_3, ci 1, ci 99]) fun v1 =>
                some (.nx [cb (gb v1 0)]))
                (some (.nx [cb false])))) fun v1 =>
          seqO (iteB (!(gb v1 0))
              (iteB (a0_2 != 2)
                (some (.nx [cb true]))
                (some (.nx [cb (a0_3 != 0)])))
              (some (.nx [cb false]))) fun v2 =>
          iteB (gb v2 0)
            (some (.ret [ci 62]))
            (some (.ret [ci 0])))
theorem r_r06_CheckNote (M : Den) (a0_0 a0_1 a0_2 a0_3 a0_4 a0_5 a0_6 : Int) : evF Try.prog sg M fe23 (bodyOf Try.f23) [(ci a0_0), (ci a0_1), (ci a0_2), (ci a0_3), (ci a0_4), (ci a0_5), (ci a0_6)] = retO (R_r06_CheckNote M a0_0 a0_1 a0_2 a0_3 a0_4 a0_5 a0_6) := by kernel_rfl
theorem q_r06_CheckNote (n : Nat) (a0_0 a0_1 a0_2 a0_3 a0_4 a0_5 a0_6 : Int) : D (n + 1) n_r06_CheckNote [(ci a0_0), (ci a0_1), (ci a0_2), (ci a0_3), (ci a0_4), (ci a0_5), (ci a0_6)] = retO (R_r06_CheckNote (D n) a0_0 a0_1 a0_2 a0_3 a0_4 a0_5 a0_6) := (show D (n + 1) n_r06_CheckNote [(ci a0_0), (ci a0_1), (ci a0_2), (ci a0_3), (ci a0_4), (ci a0_5), (ci a0_6)] = evF Try.prog sg (D n) fe23 (bodyOf Try.f23) [(ci a0_0), (ci a0_1), (ci a0_2), (ci a0_3), (ci a0_4), (ci a0_5), (ci a0_6)] from rfl).trans (r_r06_CheckNote (D n) a0_0 a0_1 a0_2 a0_3 a0_4 a0_5 a0_6)
def R_r06_posts (M : Den) (a0_0 a0_1 a0_2 a1 : List (List CV)) : Option Ou :=
    blkO 0 (loopD (fun v0 =>
            iteB (decide ((gi v0 1) < (il a1)))
              (blkO 2 (loopD (fun v1 =>
                  iteB (decide ((gi v1 0) < (il a0_1)))
                    (chk (inb (gi v1 0) a0_1) <|
                    chk (oks (List.replicate 9 li) (el a0_1 (gi v1 0)) 0) <|
                    chk (inb (gi v0 1) a1) <|
                    chk (oks [li] (el a1 (gi v0 1)) 0) <|
                    callO (M n_r06_posted (cat [[CV.row 24 a0_0, CV.row 9 a0_1, CV.row 7 a0_2], cis (el a0_1 (gi v1 0)) 0 9, [ci (gi v0 0), ci (gi (el a1 (gi v0 1)) 0)]])) fun v2 =>
                    chk (fitA (List.length (gr v1 1)) (List.length (gr v2 0)) 40) <|
                    some (.nx [ci (wr ((gi v1 0) + 1)), CV.row 5 ((gr v1 1) ++ (gr v2 0))]))
                    (some (.br 2 [CV.row 5 (gr v1 1)]))) [ci 0, CV.row 5 (gr v0 2)]) fun v1 =>
              chk (inb (gi v0 1) a1) <|
              chk (oks [li] (el a1 (gi v0 1)) 0) <|
              some (.nx [ci (gi (el a1 (gi v0 1)) 0), ci (wr ((gi v0 1) + 1)), CV.row 5 (gr v1 0)]))
              (some (.br 0 [CV.row 5 (gr v0 2)]))) ([ci (-1), ci 0, CV.row 5 []])) fun v0 =>
        some (.ret [CV.row 5 (gr v0 0)])
theorem r_r06_posts (M : Den) (a0_0 a0_1 a0_2 a1 : List (List CV)) : evF Try.prog sg M fe103 (bodyOf Try.f103) [(.row 24 a0_0), (.row 9 a0_1), (.row 7 a0_2), (.row 1 a1)] = retO (R_r06_posts M a0_0 a0_1 a0_2 a1) := by kernel_rfl
theorem q_r06_posts (n : Nat) (a0_0 a0_1 a0_2 a1 : List (List CV)) : D (n + 1) n_r06_posts [(.row 24 a0_0), (.row 9 a0_1), (.row 7 a0_2), (.row 1 a1)] = retO (R_r06_posts (D n) a0_0 a0_1 a0_2 a1) := (show D (n + 1) n_r06_posts [(.row 24 a0_0), (.row 9 a0_1), (.row 7 a0_2), (.row 1 a1)] = evF Try.prog sg (D n) fe103 (bodyOf Try.f103) [(.row 24 a0_0), (.row 9 a0_1), (.row 7 a0_2), (.row 1 a1)] from rfl).trans (r_r06_posts (D n) a0_0 a0_1 a0_2 a1)
def R_fine_CheckTariff (M : Den) (a0_0 a0_1 a0_2 a0_3 a0_4 a0_5 a0_6 a0_7 a0_8 a0_9 a0_10 a0_11 a0_12 a0_13 a0_14 a0_15 a0_16 a0_17 a0_18 a0_19 a0_20 a0_21 a0_22 a0_23 : Int) : Option Ou :=
    seqO (callO (M n_fine_isDay [ci a0_0]) fun v0 =>
          iteB (!(gb v0 0))
            (some (.nx [cb true]))
            (callO (M n_fine_isRow [ci a0_1, ci a0_2, ci a0_3, ci a0_4, ci a0_5, ci a0_6, ci a0_7, ci a0_8, ci a0_9, ci a0_10]) fun v1 =>
            iteB (!(gb v1 0))
              (some (.nx [cb true]))
              (callO (M n_fine_isRow [ci a0_11, ci a0_12, ci a0_13, ci a0_14, ci a0_15, ci a0_16, ci a0_17, ci a0_18, ci a0_19, ci a0_20]) fun v2 =>
              iteB (!(gb v2 0))
                (some (.nx [cb true]))
                (callO (M n_fine_within [ci a0_21, ci 0, ci 10000]) fun v3 =>
                iteB (!(gb v3 0))
                  (some (.nx [cb true]))
                  (callO (M n_fine_within [ci a0_22, ci 0, ci 60]) fun v4 =>
                  iteB (!(gb v4 0))
                    (some (.nx [cb true]))
                    (callO (M n_fine_within [ci a0_23, ci 0, ci 60]) fun v5 =>
                    iteB (!(gb v5 0))
                      (some (.nx [cb true]))
                      (some (.nx [cb (decide ((wr (a0_22 + a0_23)) > 60))])))))))) fun v0 =>
        iteB (gb v0 0)
          (some (.ret [ci 60]))
          (some (.ret [ci 0]))
theorem r_fine_CheckTariff (M : Den) (a0_0 a0_1 a0_2 a0_3 a0_4 a0_5 a0_6 a0_7 a0_8 a0_9 a0_10 a0_11 a0_12 a0_13 a0_14 a0_15 a0_16 a0_17 a0_18 a0_19 a0_20 a0_21 a0_22 a0_23 : Int) : evF Try.prog sg M fe18 (bodyOf Try.f18) [(ci a0_0), (ci a0_1), (ci a0_2), (ci a0_3), (ci a0_4), (ci a0_5), (ci a0_6), (ci a0_7), (ci a0_8), (ci a0_9), (ci a0_10), (ci a0_11), (ci a0_12), (ci a0_13), (ci a0_14), (ci a0_15), (ci a0_16), (ci a0_17), (ci a0_18), (ci a0_19), (ci a0_20), (ci a0_21), (ci a0_22), (ci a0_23)] = retO (R_fine_CheckTariff M a0_0 a0_1 a0_2 a0_3 a0_4 a0_5 a0_6 a0_7 a0_8 a0_9 a0_10 a0_11 a0_12 a0_13 a0_14 a0_15 a0_16 a0_17 a0_18 a0_19 a0_20 a0_21 a0_22 a0_23) := by kernel_rfl
theorem q_fine_CheckTariff (n : Nat) (a0_0 a0_1 a0_2 a0_3 a0_4 a0_5 a0_6 a0_7 a0_8 a0_9 a0_10 a0_11 a0_12 a0_13 a0_14 a0_15 a0_16 a0_17 a0_18 a0_19 a0_20 a0_21 a0_22 a0_23 : Int) : D (n + 1) n_fine_CheckTariff [(ci a0_0), (ci a0_1), (ci a0_2), (ci a0_3), (ci a0_4), (ci a0_5), (ci a0_6), (ci a0_7), (ci a0_8), (ci a0_9), (ci a0_10), (ci a0_11), (ci a0_12), (ci a0_13), (ci a0_14), (ci a0_15), (ci a0_16), (ci a0_17), (ci a0_18), (ci a0_19), (ci a0_20), (ci a0_21), (ci a0_22), (ci a0_23)] = retO (R_fine_CheckTariff (D n) a0_0 a0_1 a0_2 a0_3 a0_4 a0_5 a0_6 a0_7 a0_8 a0_9 a0_10 a0_11 a0_12 a0_13 a0_14 a0_15 a0_16 a0_17 a0_18 a0_19 a0_20 a0_21 a0_22 a0_23) := (show D (n + 1) n_fine_CheckTariff [(ci a0_0), (ci a0_1), (ci a0_2), (ci a0_3), (ci a0_4), (ci a0_5), (ci a0_6), (ci a0_7), (ci a0_8), (ci a0_9), (ci a0_10), (ci a0_11), (ci a0_12), (ci a0_13), (ci a0_14), (ci a0_15), (ci a0_16), (ci a0_17), (ci a0_18), (ci a0_19), (ci a0_20), (ci a0_21), (ci a0_22), (ci a0_23)] = evF Try.prog sg (D n) fe18 (bodyOf Try.f18) [(ci a0_0), (ci a0_1), (ci a0_2), (ci a0_3), (ci a0_4), (ci a0_5), (ci a0_6), (ci a0_7), (ci a0_8), (ci a0_9), (ci a0_10), (ci a0_11), (ci a0_12), (ci a0_13), (ci a0_14), (ci a0_15), (ci a0_16), (ci a0_17), (ci a0_18), (ci a0_19), (ci a0_20), (ci a0_21), (ci a0_22), (ci a0_23)] from rfl).trans (r_fine_CheckTariff (D n) a0_0 a0_1 a0_2 a0_3 a0_4 a0_5 a0_6 a0_7 a0_8 a0_9 a0_10 a0_11 a0_12 a0_13 a0_14 a0_15 a0_16 a0_17 a0_18 a0_19 a0_20 a0_21 a0_22 a0_23)
def R_r06_least (M : Den) (a0 : List (List CV)) (a1 : Int) : Option Ou :=
    blkO 0 (loopD (fun v0 =>
            iteB (decide ((gi v0 1) < (il a0)))
              (seqO (chk (inb (gi v0 1) a0) <|
                chk (oks [li] (List.drop 2 (el a0 (gi v0 1))) 0) <|
                iteB ((gi (List.drop 2 (el a0 (gi v0 1))) 0) == a1)
                  (iteB (decide ((gi v0 0) < 0))
                    (some (.nx [cb true]))
                    (chk (inb (gi v0 1) a0) <|
                    chk (oks [li] (List.drop 4 (el a0 (gi v0 1))) 0) <|
                    some (.nx [cb (decide ((gi (List.drop 4 (el a0 (gi v0 1))) 0) < (gi v0 0)))])))
                  (some (.nx [cb false]))) fun v1 =>
              seqO (iteB (gb v1 0)
                  (chk (inb (gi v0 1) a0) <|
                  chk (oks [li] (List.drop 4 (el a0 (gi v0 1))) 0) <|
                  some (.nx [ci (gi (List.drop 4 (el a0 (gi v0 1))) 0)]))
                  (some (.nx [ci (gi v0 0)]))) fun v2 =>
              some (.nx [ci (gi v2 0), ci (wr ((gi v0 1) + 1))]))
              (some (.br 0 [ci (gi v0 0)]))) [ci (-1), ci 0]) fun v0 =>
        some (.ret [ci (gi v0 0)])
theorem r_r06_least (M : Den) (a0 : List (List CV)) (a1 : Int) : evF Try.prog sg M fe118 (bodyOf Try.f118) [(.row 7 a0), (ci a1)] = retO (R_r06_least M a0 a1) := by kernel_rfl
theorem q_r06_least (n : Nat) (a0 : List (List CV)) (a1 : Int) : D (n + 1) n_r06_least [(.row 7 a0), (ci a1)] = retO (R_r06_least (D n) a0 a1) := (show D (n + 1) n_r06_least [(.row 7 a0), (ci a1)] = evF Try.prog sg (D n) fe118 (bodyOf Try.f118) [(.row 7 a0), (ci a1)] from rfl).trans (r_r06_least (D n) a0 a1)
def R_r06_areDays (M : Den) (a0 : List (List CV)) : Option Ou :=
    blkO 0 (loopD (fun v0 =>
            iteB (decide ((gi v0 0) < (il a0)))
              (seqO (chk (inb (gi v0 0) a0) <|
                chk (oks [li] (el a0 (gi v0 0)) 0) <|
                callO (M n_r06_In [ci (gi (el a0 (gi v0 0)) 0), ci 0, ci 100000]) fun v1 =>
                iteB (!(gb v1 0))
                  (some (.nx [cb true]))
                  (iteB (decide ((gi v0 0) > 0))
                    (chk (inb (wr ((gi v0 0) - 1)) a0) <|
                    chk (oks [li] (el a0 (wr ((gi v0 0) - 1))) 0) <|
                    chk (inb (gi v0 0) a0) <|
                    chk (oks [li] (el a0 (gi v0 0)) 0) <|
                    some (.nx [cb (decide ((gi (el a0 (wr ((gi v0 0) - 1))) 0) ≥ (gi (el a0 (gi v0 0)) 0)))]))
                    (some (.nx [cb false])))) fun v1 =>
              iteB (gb v1 0)
                (some (.ret [cb false]))
                (some (.nx [ci (wr ((gi v0 0) + 1))])))
              (some (.br 0 []))) [ci 0]) fun v0 =>
        some (.ret [cb (decide ((il a0) ≤ 12))])
theorem r_r06_areDays (M : Den) (a0 : List (List CV)) : evF Try.prog sg M fe102 (bodyOf Try.f102) [(.row 1 a0)] = retO (R_r06_areDays M a0) := by kernel_rfl
theorem q_r06_areDays (n : Nat) (a0 : List (List CV)) : D (n + 1) n_r06_areDays [(.row 1 a0)] = retO (R_r06_areDays (D n) a0) := (show D (n + 1) n_r06_areDays [(.row 1 a0)] = evF Try.prog sg (D n) fe102 (bodyOf Try.f102) [(.row 1 a0)] from rfl).trans (r_r06_areDays (D n) a0)
def R_slices_Equal_Posting (M : Den) (a0 a1 : List (List CV)) : Option Ou :=
    iteB ((il a0) != (il a1))
          (some (.ret [cb false]))
          (blkO 0 (loopD (fun v0 =>
              iteB (decide ((gi v0 0) < (il a0)))
                (chk (inb (gi v0 0) a0) <|
                chk (oks (List.replicate 5 li) (el a0 (gi v0 0)) 0) <|
                chk (inb (gi v0 0) a1) <|
                chk (oks (List.replicate 5 li) (el a1 (gi v0 0)) 0) <|
                iteB (!(((gi (el a0 (gi v0 0)) 0) == (gi (el a1 (gi v0 0)) 0)) && (((gi (el a0 (gi v0 0)) 1) == (gi (el a1 (gi v0 0)) 1)) && (((gi (el a0 (gi v0 0)) 2) == (gi (el a1 (gi v0 0)) 2)) && (((gi (el a0 (gi v0 0)) 3) == (gi (el a1 (gi v0 0)) 3)) && (((gi (el a0 (gi v0 0)) 4) == (gi (el a1 (gi v0 0)) 4)) && true))))))
                  (some (.ret [cb false]))
                  (some (.nx [ci (wr ((gi v0 0) + 1))])))
                (some (.br 0 []))) [ci 0]) fun v0 =>
          some (.ret [cb true]))
theorem r_slices_Equal_Posting (M : Den) (a0 a1 : List (List CV)) : evF Try.prog sg M fe104 (bodyOf Try.f104) [(.row 5 a0), (.row 5 a1)] = retO (R_slices_Equal_Posting M a0 a1) := by kernel_rfl
theorem q_slices_Equal_Posting (n : Nat) (a0 a1 : List (List CV)) : D (n + 1) n_slices_Equal_Posting [(.row 5 a0), (.row 5 a1)] = retO (R_slices_Equal_Posting (D n) a0 a1) := (show D (n + 1) n_slices_Equal_Posting [(.row 5 a0), (.row 5 a1)] = evF Try.prog sg (D n) fe104 (bodyOf Try.f104) [(.row 5 a0), (.row 5 a1)] from rfl).trans (r_slices_Equal_Posting (D n) a0 a1)
def R_r06_paid (M : Den) (a0_0 a0_1 a0_2 : List (List CV)) (a1_0 a1_1 a1_2 a1_3 a1_4 a1_5 a1_6 a1_7 a1_8 a2_0 a2_1 a2_2 : Int) : Option Ou :=
    seqO (iteB (decide (a2_0 < 0))
            (some (.nx [cb true]))
            (callO (M n_r06_counts [ci a1_7, ci a1_8, ci a2_0]) fun v0 =>
            some (.nx [cb (!(gb v0 0))]))) fun v0 =>
        iteB (gb v0 0)
          (some (.ret [ci 0]))
          (callO (M n_r06_due [CV.row 24 a0_0, CV.row 9 a0_1, CV.row 7 a0_2, ci a1_0, ci a1_1, ci a1_2, ci a1_3, ci a1_4, ci a1_5, ci a1_6, ci a1_7, ci a1_8, ci a2_0]) fun v1 =>
          iteB ((gi v1 0) != a2_1)
            (some (.ret [ci 0]))
            (chk (((decide (0 ≤ a2_2)) && (decide (a2_2 < (Int.ofNat 3)))) && (oks [li] [ci (gi v1 3), ci (gi v1 1), ci (gi v1 2)] (Int.toNat a2_2))) <|
            some (.ret ([ci (gi [ci (gi v1 3), ci (gi v1 1), ci (gi v1 2)] (Int.toNat a2_2))]))))
theorem r_r06_paid (M : Den) (a0_0 a0_1 a0_2 : List (List CV)) (a1_0 a1_1 a1_2 a1_3 a1_4 a1_5 a1_6 a1_7 a1_8 a2_0 a2_1 a2_2 : Int) : evF Try.prog sg M fe138 (bodyOf Try.f138) [(.row 24 a0_0), (.row 9 a0_1), (.row 7 a0_2), (ci a1_0), (ci a1_1), (ci a1_2), (ci a1_3), (ci a1_4), (ci a1_5), (ci a1_6), (ci a1_7), (ci a1_8), (ci a2_0), (ci a2_1), (ci a2_2)] = retO (R_r06_paid M a0_0 a0_1 a0_2 a1_0 a1_1 a1_2 a1_3 a1_4 a1_5 a1_6 a1_7 a1_8 a2_0 a2_1 a2_2) := by kernel_rfl
theorem q_r06_paid (n : Nat) (a0_0 a0_1 a0_2 : List (List CV)) (a1_0 a1_1 a1_2 a1_3 a1_4 a1_5 a1_6 a1_7 a1_8 a2_0 a2_1 a2_2 : Int) : D (n + 1) n_r06_paid [(.row 24 a0_0), (.row 9 a0_1), (.row 7 a0_2), (ci a1_0), (ci a1_1), (ci a1_2), (ci a1_3), (ci a1_4), (ci a1_5), (ci a1_6), (ci a1_7), (ci a1_8), (ci a2_0), (ci a2_1), (ci a2_2)] = retO (R_r06_paid (D n) a0_0 a0_1 a0_2 a1_0 a1_1 a1_2 a1_3 a1_4 a1_5 a1_6 a1_7 a1_8 a2_0 a2_1 a2_2) := (show D (n + 1) n_r06_paid [(.row 24 a0_0), (.row 9 a0_1), (.row 7 a0_2), (ci a1_0), (ci a1_1), (ci a1_2), (ci a1_3), (ci a1_4), (ci a1_5), (ci a1_6), (ci a1_7), (ci a1_8), (ci a2_0), (ci a2_1), (ci a2_2)] = evF Try.prog sg (D n) fe138 (bodyOf Try.f138) [(.row 24 a0_0), (.row 9 a0_1), (.row 7 a0_2), (ci a1_0), (ci a1_1), (ci a1_2), (ci a1_3), (ci a1_4), (ci a1_5), (ci a1_6), (ci a1_7), (ci a1_8), (ci a2_0), (ci a2_1), (ci a2_2)] from rfl).trans (r_r06_paid (D n) a0_0 a0_1 a0_2 a1_0 a1_1 a1_2 a1_3 a1_4 a1_5 a1_6 a1_7 a1_8 a2_0 a2_1 a2_2)
def R_slices_IndexFunc_Held (M : Den) (a0 : List (List CV)) (a1 : CV) : Option Ou :=
    blkO 0 (loopD (fun v0 =>
            iteB (decide ((gi v0 0) < (il a0)))
              (chk (inb (gi v0 0) a0) <|
              chk (oks (List.replicate 9 li) (el a0 (gi v0 0)) 0) <|
              callO (callV sg M a1 (cis (el a0 (gi v0 0)) 0 9) [.agg (List.replicate 9 li)] [.one lb]) fun v1 =>
              iteB (gb v1 0)
                (some (.ret [ci (gi v0 0)]))
                (some (.nx [ci (wr ((gi v0 0) + 1))])))
              (some (.br 0 []))) [ci 0]) fun v0 =>
        some (.ret [ci (-1)])
theorem r_slices_IndexFunc_Held (M : Den) (a0 : List (List CV)) (a1 : CV) : evF Try.prog sg M fe126 (bodyOf Try.f126) [(.row 9 a0), a1] = retO (R_slices_IndexFunc_Held M a0 a1) := by kernel_rfl
theorem q_slices_IndexFunc_Held (n : Nat) (a0 : List (List CV)) (a1 : CV) : D (n + 1) n_slices_IndexFunc_Held [(.row 9 a0), a1] = retO (R_slices_IndexFunc_Held (D n) a0 a1) := (show D (n + 1) n_slices_IndexFunc_Held [(.row 9 a0), a1] = evF Try.prog sg (D n) fe126 (bodyOf Try.f126) [(.row 9 a0), a1] from rfl).trans (r_slices_IndexFunc_Held (D n) a0 a1)
def R_slices_IndexFunc_int (M : Den) (a0 : List (List CV)) (a1 : CV) : Option Ou :=
    blkO 0 (loopD (fun v0 =>
            iteB (decide ((gi v0 0) < (il a0)))
              (chk (inb (gi v0 0) a0) <|
              chk (oks [li] (el a0 (gi v0 0)) 0) <|
              callO (callV sg M a1 [ci (gi (el a0 (gi v0 0)) 0)] [.one li] [.one lb]) fun v1 =>
              iteB (gb v1 0)
                (some (.ret [ci (gi v0 0)]))
                (some (.nx [ci (wr ((gi v0 0) + 1))])))
              (some (.br 0 []))) [ci 0]) fun v0 =>
        some (.ret [ci (-1)])
theorem r_slices_IndexFunc_int (M : Den) (a0 : List (List CV)) (a1 : CV) : evF Try.prog sg M fe134 (bodyOf Try.f134) [(.row 1 a0), a1] = retO (R_slices_IndexFunc_int M a0 a1) := by kernel_rfl
theorem q_slices_IndexFunc_int (n : Nat) (a0 : List (List CV)) (a1 : CV) : D (n + 1) n_slices_IndexFunc_int [(.row 1 a0), a1] = retO (R_slices_IndexFunc_int (D n) a0 a1) := (show D (n + 1) n_slices_IndexFunc_int [(.row 1 a0), a1] = evF Try.prog sg (D n) fe134 (bodyOf Try.f134) [(.row 1 a0), a1] from rfl).trans (r_slices_IndexFunc_int (D n) a0 a1)
def R_r06_stop (M : Den) (a0 : List (List CV)) : Option Ou :=
    callO (M n_r06_least [CV.row 7 a0, ci 1]) fun v0 =>
        callO (M n_r06_least [CV.row 7 a0, ci 3]) fun v1 =>
        seqO (iteB (decide ((gi v0 0) < 0))
            (some (.nx [cb true]))
            (iteB (decide ((gi v1 0) ≥ 0))
              (some (.nx [cb (decide ((gi v1 0) < (gi v0 0)))]))
              (some (.nx [cb false])))) fun v2 =>
        iteB (gb v2 0)
          (some (.ret [ci (gi v1 0)]))
          (some (.ret [ci (gi v0 0)]))
theorem r_r06_stop (M : Den) (a0 : List (List CV)) : evF Try.prog sg M fe117 (bodyOf Try.f117) [(.row 7 a0)] = retO (R_r06_stop M a0) := by kernel_rfl
theorem q_r06_stop (n : Nat) (a0 : List (List CV)) : D (n + 1) n_r06_stop [(.row 7 a0)] = retO (R_r06_stop (D n) a0) := (show D (n + 1) n_r06_stop [(.row 7 a0)] = evF Try.prog sg (D n) fe117 (bodyOf Try.f117) [(.row 7 a0)] from rfl).trans (r_r06_stop (D n) a0)
def R_law06_example (M : Den)  : Option Ou :=
    some (.ret ([CV.row 24 (chunk 24 1 [ci 0, ci 0, ci 12, ci 0, ci 0, ci 0, ci 0, ci 0, ci 0, ci 0, ci 0, ci 0, ci 4, ci 0, ci 0, ci 0, ci 0, ci 0, ci 0, ci 0, ci 0, ci 5, ci 20, ci 10]), CV.row 9 (chunk 9 1 [ci 1, ci 7, ci 1, ci 20, ci 500, ci 9, ci 10, ci 10, ci 0]), CV.row 7 (chunk 7 2 [ci 2, ci 1, ci 1, ci 3, ci 13, ci 14, ci 0, ci 3, ci 1, ci 2, ci 0, ci 15, ci 15, ci 0])]))
theorem r_law06_example (M : Den)  : evF Try.prog sg M fe55 (bodyOf Try.f55) [] = retO (R_law06_example M ) := by kernel_rfl
theorem q_law06_example (n : Nat)  : D (n + 1) n_law06_example [] = retO (R_law06_example (D n) ) := (show D (n + 1) n_law06_example [] = evF Try.prog sg (D n) fe55 (bodyOf Try.f55) [] from rfl).trans (r_law06_example (D n) )
def R_fine_CheckPosts (M : Den) (a0_0 a0_1 a0_2 a1 a2 : List (List CV)) : Option Ou :=
    callO (M n_fine_Posts [CV.row 24 a0_0, CV.row 9 a0_1, CV.row 7 a0_2, CV.row 1 a1]) fun v0 =>
        iteB ((gi v0 1) != 0)
          (some (.ret [ci (gi v0 1)]))
          (callO (M n_slices_Equal_Posting [CV.row 5 (gr v0 0), CV.row 5 a2]) fun v1 =>
          iteB (!(gb v1 0))
            (some (.ret [ci 67]))
            (some (.ret [ci 0])))
theorem r_fine_CheckPosts (M : Den) (a0_0 a0_1 a0_2 a1 a2 : List (List CV)) : evF Try.prog sg M fe49 (bodyOf Try.f49) [(.row 24 a0_0), (.row 9 a0_1), (.row 7 a0_2), (.row 1 a1), (.row 5 a2)] = retO (R_fine_CheckPosts M a0_0 a0_1 a0_2 a1 a2) := by kernel_rfl
theorem q_fine_CheckPosts (n : Nat) (a0_0 a0_1 a0_2 a1 a2 : List (List CV)) : D (n + 1) n_fine_CheckPosts [(.row 24 a0_0), (.row 9 a0_1), (.row 7 a0_2), (.row 1 a1), (.row 5 a2)] = retO (R_fine_CheckPosts (D n) a0_0 a0_1 a0_2 a1 a2) := (show D (n + 1) n_fine_CheckPosts [(.row 24 a0_0), (.row 9 a0_1), (.row 7 a0_2), (.row 1 a1), (.row 5 a2)] = evF Try.prog sg (D n) fe49 (bodyOf Try.f49) [(.row 24 a0_0), (.row 9 a0_1), (.row 7 a0_2), (.row 1 a1), (.row 5 a2)] from rfl).trans (r_fine_CheckPosts (D n) a0_0 a0_1 a0_2 a1 a2)
def R_fine_check (M : Den) (a0_0 a0_1 a0_2 a1 : List (List CV)) : Option Ou :=
    callO (M n_fine_Check [CV.row 24 a0_0, CV.row 9 a0_1, CV.row 7 a0_2]) fun v0 =>
        iteB ((gi v0 0) != 0)
          (some (.ret [ci (gi v0 0)]))
          (callO (M n_slices_ContainsFunc_int ([CV.row 1 a1, CV.fn n_fine_check_c1 []])) fun v1 =>
          iteB (gb v1 0)
            (some (.ret [ci 6]))
            (some (.ret [ci 0])))
theorem r_fine_check (M : Den) (a0_0 a0_1 a0_2 a1 : List (List CV)) : evF Try.prog sg M fe88 (bodyOf Try.f88) [(.row 24 a0_0), (.row 9 a0_1), (.row 7 a0_2), (.row 1 a1)] = retO (R_fine_check M a0_0 a0_1 a0_2 a1) := by kernel_rfl
theorem q_fine_check (n : Nat) (a0_0 a0_1 a0_2 a1 : List (List CV)) : D (n + 1) n_fine_check [(.row 24 a0_0), (.row 9 a0_1), (.row 7 a0_2), (.row 1 a1)] = retO (R_fine_check (D n) a0_0 a0_1 a0_2 a1) := (show D (n + 1) n_fine_check [(.row 24 a0_0), (.row 9 a0_1), (.row 7 a0_2), (.row 1 a1)] = evF Try.prog sg (D n) fe88 (bodyOf Try.f88) [(.row 24 a0_0), (.row 9 a0_1), (.row 7 a0_2), (.row 1 a1)] from rfl).trans (r_fine_check (D n) a0_0 a0_1 a0_2 a1)
def R_r06_last (M : Den) (a0_0 a0_1 a0_2 a0_3 a1 : Int) : Option Ou :=
    iteB (a0_2 == 0)
          (some (.ret [ci a1]))
          (iteB (a0_2 == 2)
            (some (.ret [ci a0_3]))
            (some (.ret [ci (wr (a0_3 - 1))])))
theorem r_r06_last (M : Den) (a0_0 a0_1 a0_2 a0_3 a1 : Int) : evF Try.prog sg M fe85 (bodyOf Try.f85) [(ci a0_0), (ci a0_1), (ci a0_2), (ci a0_3), (ci a1)] = retO (R_r06_last M a0_0 a0_1 a0_2 a0_3 a1) := by kernel_rfl
theorem q_r06_last (n : Nat) (a0_0 a0_1 a0_2 a0_3 a1 : Int) : D (n + 1) n_r06_last [(ci a0_0), (ci a0_1), (ci a0_2), (ci a0_3), (ci a1)] = retO (R_r06_last (D n) a0_0 a0_1 a0_2 a0_3 a1) := (show D (n + 1) n_r06_last [(ci a0_0), (ci a0_1), (ci a0_2), (ci a0_3), (ci a1)] = evF Try.prog sg (D n) fe85 (bodyOf Try.f85) [(ci a0_0), (ci a0_1), (ci a0_2), (ci a0_3), (ci a1)] from rfl).trans (r_r06_last (D n) a0_0 a0_1 a0_2 a0_3 a1)
def R_slices_Clone_Held (M : Den) (a0 : List (List CV)) : Option Ou :=
    nilD a0
          (some (.ret ([CV.row 9 []])))
          (chk (fitA 0 (List.length a0) 72) <|
          some (.ret [CV.row 9 a0]))
theorem r_slices_Clone_Held (M : Den) (a0 : List (List CV)) : evF Try.prog sg M fe61 (bodyOf Try.f61) [(.row 9 a0)] = retO (R_slices_Clone_Held M a0) := by kernel_rfl
theorem q_slices_Clone_Held (n : Nat) (a0 : List (List CV)) : D (n + 1) n_slices_Clone_Held [(.row 9 a0)] = retO (R_slices_Clone_Held (D n) a0) := (show D (n + 1) n_slices_Clone_Held [(.row 9 a0)] = evF Try.prog sg (D n) fe61 (bodyOf Try.f61) [(.row 9 a0)] from rfl).trans (r_slices_Clone_Held (D n) a0)
def R_fine_within (M : Den) (a0 a1 a2 : Int) : Option Ou :=
    iteB (decide (a1 ≤ a0))
          (some (.ret [cb (decide (a0 ≤ a2))]))
          (some (.ret [cb false]))
theorem r_fine_within (M : Den) (a0 a1 a2 : Int) : evF Try.prog sg M fe73 (bodyOf Try.f73) [(ci a0), (ci a1), (ci a2)] = retO (R_fine_within M a0 a1 a2) := by kernel_rfl
theorem q_fine_within (n : Nat) (a0 a1 a2 : Int) : D (n + 1) n_fine_within [(ci a0), (ci a1), (ci a2)] = retO (R_fine_within (D n) a0 a1 a2) := (show D (n + 1) n_fine_within [(ci a0), (ci a1), (ci a2)] = evF Try.prog sg (D n) fe73 (bodyOf Try.f73) [(ci a0), (ci a1), (ci a2)] from rfl).trans (r_fine_within (D n) a0 a1 a2)
def R_fine_isRow_c1 (M : Den) (a0 : Int) : Option Ou :=
    callO (M n_fine_within [ci a0, ci 0, ci 10000]) fun v0 =>
        some (.ret [cb (!(gb v0 0))])
theorem r_fine_isRow_c1 (M : Den) (a0 : Int) : evF Try.prog sg M fe112 (bodyOf Try.f112) [(ci a0)] = retO (R_fine_isRow_c1 M a0) := by kernel_rfl
theorem q_fine_isRow_c1 (n : Nat) (a0 : Int) : D (n + 1) n_fine_isRow_c1 [(ci a0)] = retO (R_fine_isRow_c1 (D n) a0) := (show D (n + 1) n_fine_isRow_c1 [(ci a0)] = evF Try.prog sg (D n) fe112 (bodyOf Try.f112) [(ci a0)] from rfl).trans (r_fine_isRow_c1 (D n) a0)
def R_fine_days (M : Den) (a0 a1 : Int) : Option Ou :=
    some (.ret ([CV.fn n_fine_days_c1 ([CV.ref [ci a0], CV.ref [ci a1]])]))
theorem r_fine_days (M : Den) (a0 a1 : Int) : evF Try.prog sg M fe120 (bodyOf Try.f120) [(ci a0), (ci a1)] = retO (R_fine_days M a0 a1) := by kernel_rfl
theorem q_fine_days (n : Nat) (a0 a1 : Int) : D (n + 1) n_fine_days [(ci a0), (ci a1)] = retO (R_fine_days (D n) a0 a1) := (show D (n + 1) n_fine_days [(ci a0), (ci a1)] = evF Try.prog sg (D n) fe120 (bodyOf Try.f120) [(ci a0), (ci a1)] from rfl).trans (r_fine_days (D n) a0 a1)
def R_fine_heldOf (M : Den) (a0_0 a0_1 a0_2 a0_3 a0_4 a0_5 a0_6 a0_7 a0_8 : Int) : Option Ou :=
    some (.ret [ci a0_0])
theorem r_fine_heldOf (M : Den) (a0_0 a0_1 a0_2 a0_3 a0_4 a0_5 a0_6 a0_7 a0_8 : Int) : evF Try.prog sg M fe68 (bodyOf Try.f68) [(ci a0_0), (ci a0_1), (ci a0_2), (ci a0_3), (ci a0_4), (ci a0_5), (ci a0_6), (ci a0_7), (ci a0_8)] = retO (R_fine_heldOf M a0_0 a0_1 a0_2 a0_3 a0_4 a0_5 a0_6 a0_7 a0_8) := by kernel_rfl
theorem q_fine_heldOf (n : Nat) (a0_0 a0_1 a0_2 a0_3 a0_4 a0_5 a0_6 a0_7 a0_8 : Int) : D (n + 1) n_fine_heldOf [(ci a0_0), (ci a0_1), (ci a0_2), (ci a0_3), (ci a0_4), (ci a0_5), (ci a0_6), (ci a0_7), (ci a0_8)] = retO (R_fine_heldOf (D n) a0_0 a0_1 a0_2 a0_3 a0_4 a0_5 a0_6 a0_7 a0_8) := (show D (n + 1) n_fine_heldOf [(ci a0_0), (ci a0_1), (ci a0_2), (ci a0_3), (ci a0_4), (ci a0_5), (ci a0_6), (ci a0_7), (ci a0_8)] = evF Try.prog sg (D n) fe68 (bodyOf Try.f68) [(ci a0_0), (ci a0_1), (ci a0_2), (ci a0_3), (ci a0_4), (ci a0_5), (ci a0_6), (ci a0_7), (ci a0_8)] from rfl).trans (r_fine_heldOf (D n) a0_0 a0_1 a0_2 a0_3 a0_4 a0_5 a0_6 a0_7 a0_8)
end
end Go.Proofs.Ytabhbdehbpmpkaa
namespace Go.Proofs.Ytabhbdehbpmpkaa
open Go Go.Sx
set_option maxRecDepth 100000
set_option maxHeartbeats 0
noncomputable section
def R_fine_lot (M : Den) (a0_0 a0_1 a0_2 : List (List CV)) (a1_0 a1_1 a1_2 a1_3 a1_4 a1_5 a1_6 a1_7 a1_8 a2 : Int) : Option Ou :=
    callO (M n_fine_notes [CV.row 24 a0_0, CV.row 9 a0_1, CV.row 7 a0_2, ci a1_0, ci a1_1, ci a1_2, ci a1_3, ci a1_4, ci a1_5, ci a1_6, ci a1_7, ci a1_8, ci a2]) fun v0 =>
        callO (M n_fine_whose [CV.row 7 (gr v0 0)]) fun v1 =>
        blkO 0 (loopD (fun v2 =>
            iteB (decide ((gi v2 0) < 5))
              (chk ((decide (0 ≤ (gi v2 0))) && (decide ((gi v2 0) < (Int.ofNat 5)))) <|
              chk (oks [li] (cis v2 1 5) (0 + ((Int.toNat (gi v2 0)) * 1))) <|
              some (.nx [ci (wr ((gi v2 0) + 1)), ci (if (decide (0 = (0 + ((Int.toNat (gi v2 0)) * 1)))) = true then (-1) else gi v2 1), ci (if (decide (1 = (0 + ((Int.toNat (gi v2 0)) * 1)))) = true then (-1) else gi v2 2), ci (if (decide (2 = (0 + ((Int.toNat (gi v2 0)) * 1)))) = true then (-1) else gi v2 3), ci (if (decide (3 = (0 + ((Int.toNat (gi v2 0)) * 1)))) = true then (-1) else gi v2 4), ci (if (decide (4 = (0 + ((Int.toNat (gi v2 0)) * 1)))) = true then (-1) else gi v2 5)]))
              (some (.br 0 (cis v2 1 5)))) [ci 0, ci 0, ci 0, ci 0, ci 0, ci 0]) fun v2 =>
        blkO 2 (loopD (fun v3 =>
            iteB (decide ((gi v3 0) < (il (gr v0 0))))
              (chk (inb (gi v3 0) (gr v0 0)) <|
              chk (oks (List.replicate 7 li) (el (gr v0 0) (gi v3 0)) 0) <|
              seqO (iteB ((gi (el (gr v0 0) (gi v3 0)) 2) == 2)
                  (iteB (decide ((gi v3 2) < 0))
                    (some (.nx [cb true]))
                    (some (.nx [cb (decide ((gi (el (gr v0 0) (gi v3 0)) 4) < (gi v3 2)))])))
                  (some (.nx [cb false]))) fun v4 =>
              seqO (iteB (gb v4 0)
                  (some (.nx [ci (gi v3 1), ci (gi (el (gr v0 0) (gi v3 0)) 4), ci (gi v3 3), ci (gi v3 4), ci (gi v3 5)]))
                  (some (.nx (cis v3 1 5)))) fun v5 =>
              some (.nx (cat [[ci (wr ((gi v3 0) + 1))], cis v5 0 5])))
              (some (.br 2 (cis v3 1 5)))) (cat [[ci 0], cis v2 0 5])) fun v3 =>
        callO (M n_fine_sold [CV.row 24 a0_0, CV.row 9 a0_1, CV.row 7 a0_2, ci a1_0, ci a1_1, ci a1_2, ci a1_3, ci a1_4, ci a1_5, ci a1_6, ci a1_7, ci a1_8, ci a2]) fun v4 =>
        seqO (iteB (decide ((gi v1 1) < 0))
            (some (.nx [cb true]))
            (some (.nx [cb (decide ((gi v1 1) > (wr (a1_6 + 360))))]))) fun v5 =>
        seqO (iteB (gb v5 0)
            (some (.nx [ci (gi v3 0), ci (gi v3 1), ci (gi v4 0), ci (wr ((wr (a1_6 + 360)) + 1)), ci (gi v3 4)]))
            (some (.nx [ci (gi v3 0), ci (gi v3 1), ci (gi v4 0), ci (gi v3 3), ci (gi v3 4)]))) fun v6 =>
        blkO 4 (loopD (fun v7 =>
            iteB (decide ((gi v7 0) < 5))
              (blkO 5 (chk (((decide (0 ≤ (gi v7 0))) && (decide ((gi v7 0) < (Int.ofNat 5)))) && (oks [li] (cat [cis v6 0 4, [ci (wr (a1_6 + 720))]]) (Int.toNat (gi v7 0)))) <|
                seqO (iteB (decide ((gi (cat [cis v6 0 4, [ci (wr (a1_6 + 720))]]) (Int.toNat (gi v7 0))) < 0))
                    (some (.nx [cb true]))
                    (some (.nx ([cb (decide ((gi (cat [cis v6 0 4, [ci (wr (a1_6 + 720))]]) (Int.toNat (gi v7 0))) > a2))])))) fun v8 =>
                iteB (gb v8 0)
                  (some (.br 5 (cis v7 1 4)))
                  (seqO (iteB (decide ((gi v7 4) < 0))
                      (some (.nx [cb true]))
                      (some (.nx ([cb (decide ((gi (cat [cis v6 0 4, [ci (wr (a1_6 + 720))]]) (Int.toNat (gi v7 0))) < (gi v7 4)))])))) fun v9 =>
                  seqO (iteB (gb v9 0)
                      (some (.nx ([ci (gi v7 1), ci (gi v7 2), ci (gi v7 0), ci (gi (cat [cis v6 0 4, [ci (wr (a1_6 + 720))]]) (Int.toNat (gi v7 0)))])))
                      (some (.nx (cis v7 1 4)))) fun v10 =>
                  some (.br 5 (cis v10 0 4)))) fun v8 =>
              some (.nx (cat [[ci (wr ((gi v7 0) + 1))], cis v8 0 4])))
              (some (.br 4 (cis v7 1 4)))) [ci 0, ci (gi v1 0), ci (gi v1 1), ci 0, ci (-1)]) fun v7 =>
        some (.ret (cis v7 0 4))
theorem r_fine_lot (M : Den) (a0_0 a0_1 a0_2 : List (List CV)) (a1_0 a1_1 a1_2 a1_3 a1_4 a1_5 a1_6 a1_7 a1_8 a2 : Int) : evF Try.prog sg M fe79 (bodyOf Try.f79) [(.row 24 a0_0), (.row 9 a0_1), (.row 7 a0_2), (ci a1_0), (ci a1_1), (ci a1_2), (ci a1_3), (ci a1_4), (ci a1_5), (ci a1_6), (ci a1_7), (ci a1_8), (ci a2)] = retO (R_fine_lot M a0_0 a0_1 a0_2 a1_0 a1_1 a1_2 a1_3 a1_4 a1_5 a1_6 a1_7 a1_8 a2) := by kernel_rfl
theorem q_fine_lot (n : Nat) (a0_0 a0_1 a0_2 : List (List CV)) (a1_0 a1_1 a1_2 a1_3 a1_4 a1_5 a1_6 a1_7 a1_8 a2 : Int) : D (n + 1) n_fine_lot [(.row 24 a0_0), (.row 9 a0_1), (.row 7 a0_2), (ci a1_0), (ci a1_1), (ci a1_2), (ci a1_3), (ci a1_4), (ci a1_5), (ci a1_6), (ci a1_7), (ci a1_8), (ci a2)] = retO (R_fine_lot (D n) a0_0 a0_1 a0_2 a1_0 a1_1 a1_2 a1_3 a1_4 a1_5 a1_6 a1_7 a1_8 a2) := (show D (n + 1) n_fine_lot [(.row 24 a0_0), (.row 9 a0_1), (.row 7 a0_2), (ci a1_0), (ci a1_1), (ci a1_2), (ci a1_3), (ci a1_4), (ci a1_5), (ci a1_6), (ci a1_7), (ci a1_8), (ci a2)] = evF Try.prog sg (D n) fe79 (bodyOf Try.f79) [(.row 24 a0_0), (.row 9 a0_1), (.row 7 a0_2), (ci a1_0), (ci a1_1), (ci a1_2), (ci a1_3), (ci a1_4), (ci a1_5), (ci a1_6), (ci a1_7), (ci a1_8), (ci a2)] from rfl).trans (r_fine_lot (D n) a0_0 a0_1 a0_2 a1_0 a1_1 a1_2 a1_3 a1_4 a1_5 a1_6 a1_7 a1_8 a2)
def R_r06_lot (M : Den) (a0_0 a0_1 a0_2 : List (List CV)) (a1_0 a1_1 a1_2 a1_3 a1_4 a1_5 a1_6 a1_7 a1_8 a2 : Int) : Option Ou :=
    callO (M n_r06_says [CV.row 24 a0_0, CV.row 9 a0_1, CV.row 7 a0_2, ci a1_0, ci a1_1, ci a1_2, ci a1_3, ci a1_4, ci a1_5, ci a1_6, ci a1_7, ci a1_8, ci a2]) fun v0 =>
        callO (M n_r06_owner [CV.row 7 (gr v0 0)]) fun v1 =>
        callO (M n_r06_stop [CV.row 7 (gr v0 0)]) fun v2 =>
        callO (M n_r06_least [CV.row 7 (gr v0 0), ci 2]) fun v3 =>
        callO (M n_r06_market [CV.row 24 a0_0, CV.row 9 a0_1, CV.row 7 a0_2, ci a1_0, ci a1_1, ci a1_2, ci a1_3, ci a1_4, ci a1_5, ci a1_6, ci a1_7, ci a1_8, ci a2]) fun v4 =>
        seqO (iteB (decide ((gi v2 0) < 0))
            (some (.nx [cb true]))
            (some (.nx [cb (decide ((gi v2 0) > (wr (a1_6 + 360))))]))) fun v5 =>
        seqO (iteB (gb v5 0)
            (some (.nx [ci (-1), ci (gi v3 0), ci (gi v4 0), ci (wr (a1_6 + 361)), ci (wr (a1_6 + 720))]))
            (some (.nx [ci (-1), ci (gi v3 0), ci (gi v4 0), ci (-1), ci (wr (a1_6 + 720))]))) fun v6 =>
        blkO 0 (loopD (fun v7 =>
            iteB (decide ((gi v7 0) < 5))
              (seqO (chk ((decide (0 ≤ (gi v7 0))) && (decide ((gi v7 0) < (Int.ofNat 5)))) <|
                chk (oks [li] (cis v6 0 5) (0 + ((Int.toNat (gi v7 0)) * 1))) <|
                iteB (decide ((gi (cis v6 0 5) (0 + ((Int.toNat (gi v7 0)) * 1))) ≥ 0))
                  (chk ((decide (0 ≤ (gi v7 0))) && (decide ((gi v7 0) < (Int.ofNat 5)))) <|
                  chk (oks [li] (cis v6 0 5) (0 + ((Int.toNat (gi v7 0)) * 1))) <|
                  iteB (decide ((gi (cis v6 0 5) (0 + ((Int.toNat (gi v7 0)) * 1))) ≤ a2))
                    (iteB (decide ((gi v7 4) < 0))
                      (some (.nx [cb true]))
                      (chk ((decide (0 ≤ (gi v7 0))) && (decide ((gi v7 0) < (Int.ofNat 5)))) <|
                      chk (oks [li] (cis v6 0 5) (0 + ((Int.toNat (gi v7 0)) * 1))) <|
                      some (.nx [cb (decide ((gi (cis v6 0 5) (0 + ((Int.toNat (gi v7 0)) * 1))) < (gi v7 4)))])))
                    (some (.nx [cb false])))
                  (some (.nx [cb false]))) fun v8 =>
              seqO (iteB (gb v8 0)
                  (chk ((decide (0 ≤ (gi v7 0))) && (decide ((gi v7 0) < (Int.ofNat 5)))) <|
                  chk (oks [li] (cis v6 0 5) (0 + ((Int.toNat (gi v7 0)) * 1))) <|
                  some (.nx [ci (gi v7 1), ci (gi v7 2), ci (gi v7 0), ci (gi (cis v6 0 5) (0 + ((Int.toNat (gi v7 0)) * 1)))]))
                  (some (.nx (cis v7 1 4)))) fun v9 =>
              some (.nx (cat [[ci (wr ((gi v7 0) + 1))], cis v9 0 4])))
              (some (.br 0 (cis v7 1 4)))) [ci 1, ci (gi v1 0), ci (gi v2 0), ci 0, ci (-1)]) fun v7 =>
        some (.ret (cis v7 0 4))
theorem r_r06_lot (M : Den) (a0_0 a0_1 a0_2 : List (List CV)) (a1_0 a1_1 a1_2 a1_3 a1_4 a1_5 a1_6 a1_7 a1_8 a2 : Int) : evF Try.prog sg M fe83 (bodyOf Try.f83) [(.row 24 a0_0), (.row 9 a0_1), (.row 7 a0_2), (ci a1_0), (ci a1_1), (ci a1_2), (ci a1_3), (ci a1_4), (ci a1_5), (ci a1_6), (ci a1_7), (ci a1_8), (ci a2)] = retO (R_r06_lot M a0_0 a0_1 a0_2 a1_0 a1_1 a1_2 a1_3 a1_4 a1_5 a1_6 a1_7 a1_8 a2) := by kernel_rfl
theorem q_r06_lot (n : Nat) (a0_0 a0_1 a0_2 : List (List CV)) (a1_0 a1_1 a1_2 a1_3 a1_4 a1_5 a1_6 a1_7 a1_8 a2 : Int) : D (n + 1) n_r06_lot [(.row 24 a0_0), (.row 9 a0_1), (.row 7 a0_2), (ci a1_0), (ci a1_1), (ci a1_2), (ci a1_3), (ci a1_4), (ci a1_5), (ci a1_6), (ci a1_7), (ci a1_8), (ci a2)] = retO (R_r06_lot (D n) a0_0 a0_1 a0_2 a1_0 a1_1 a1_2 a1_3 a1_4 a1_5 a1_6 a1_7 a1_8 a2) := (show D (n + 1) n_r06_lot [(.row 24 a0_0), (.row 9 a0_1), (.row 7 a0_2), (ci a1_0), (ci a1_1), (ci a1_2), (ci a1_3), (ci a1_4), (ci a1_5), (ci a1_6), (ci a1_7), (ci a1_8), (ci a2)] = evF Try.prog sg (D n) fe83 (bodyOf Try.f83) [(.row 24 a0_0), (.row 9 a0_1), (.row 7 a0_2), (ci a1_0), (ci a1_1), (ci a1_2), (ci a1_3), (ci a1_4), (ci a1_5), (ci a1_6), (ci a1_7), (ci a1_8), (ci a2)] from rfl).trans (r_r06_lot (D n) a0_0 a0_1 a0_2 a1_0 a1_1 a1_2 a1_3 a1_4 a1_5 a1_6 a1_7 a1_8 a2)
def R_fine_stays (M : Den) (a0_0 a0_1 a0_2 : List (List CV)) (a1 : Int) : Option Ou :=
    inlO (nilD a0_1
            (some (.ret ([CV.row 9 []])))
            (chk (fitA 0 (List.length a0_1) 72) <|
            some (.ret [CV.row 9 a0_1]))) fun v0 =>
        inlO (callO (M n_slices_IndexFunc_Held ([CV.row 9 (gr v0 0), CV.fn n_fine_stays_c1 ([CV.ref [ci a1]])])) fun v1 =>
          iteB ((gi v1 0) == (-1))
            (some (.ret [CV.row 9 (gr v0 0)]))
            (blkO 0 (loopD (fun v2 =>
                iteB (decide ((gi v2 1) < (il (gr v2 2))))
                  (chk (inb (gi v2 1) (gr v2 2)) <|
                  chk (decide ((Int.toNat (gi v2 1)) < (List.length (gr v2 2)))) <|
                  chk (oks (List.replicate 9 li) (el (gr v2 2) (gi v2 1)) 0) <|
                  callO (M n_fine_stays_c1 (cat [cis (el (gr v2 2) (gi v2 1)) 0 9, [CV.ref [ci a1]]])) fun v3 =>
                  seqO (iteB (!(gb v3 0))
                      (chk (inb (gi v2 0) (gr v2 2)) <|
                      chk ((decide ((Int.toNat (gi v2 0)) < (List.length (gr v2 2)))) && (decide (9 ≤ 9))) <|
                      some (.nx [ci (wr ((gi v2 0) + 1)), CV.row 9 (List.set (gr v2 2) (Int.toNat (gi v2 0)) (spl (el (gr v2 2) (gi v2 0)) 0 (cis (el (gr v2 2) (gi v2 1)) 0 9)))]))
                      (some (.nx [ci (gi v2 0), CV.row 9 (gr v2 2)]))) fun v4 =>
                  some (.nx [ci (gi v4 0), ci (wr ((gi v2 1) + 1)), CV.row 9 (gr v4 1)]))
                  (some (.br 0 [ci (gi v2 0), CV.row 9 (gr v2 2)]))) [ci (gi v1 0), ci (wr ((gi v1 0) + 1)), CV.row 9 (gr v0 0)]) fun v2 =>
            chk ((decide (0 ≤ (gi v2 0))) && (decide ((gi v2 0) ≤ (il (gr v2 1))))) <|
            chk ((decide (0 ≤ (gi v2 0))) && (decide ((gi v2 0) ≤ (il ((List.take (Int.toNat (gi v2 0)) (gr v2 1)) ++ (List.replicate ((List.length (gr v2 1)) - (Int.toNat (gi v2 0))) [ci 0, ci 0, ci 0, ci 0, ci 0, ci 0, ci 0, ci 0, ci 0])))))) <|
            some (.ret ([CV.row 9 (List.take (Int.toNat (gi v2 0)) ((List.take (Int.toNat (gi v2 0)) (gr v2 1)) ++ (List.replicate ((List.length (gr v2 1)) - (Int.toNat (gi v2 0))) [ci 0, ci 0, ci 0, ci 0, ci 0, ci 0, ci 0, ci 0, ci 0])))])))) fun v1 =>
        some (.ret [CV.row 9 (gr v1 0)])
theorem r_fine_stays (M : Den) (a0_0 a0_1 a0_2 : List (List CV)) (a1 : Int) : evF Try.prog sg M fe92 (bodyOf Try.f92) [(.row 24 a0_0), (.row 9 a0_1), (.row 7 a0_2), (ci a1)] = retO (R_fine_stays M a0_0 a0_1 a0_2 a1) := by kernel_rfl
theorem q_fine_stays (n : Nat) (a0_0 a0_1 a0_2 : List (List CV)) (a1 : Int) : D (n + 1) n_fine_stays [(.row 24 a0_0), (.row 9 a0_1), (.row 7 a0_2), (ci a1)] = retO (R_fine_stays (D n) a0_0 a0_1 a0_2 a1) := (show D (n + 1) n_fine_stays [(.row 24 a0_0), (.row 9 a0_1), (.row 7 a0_2), (ci a1)] = evF Try.prog sg (D n) fe92 (bodyOf Try.f92) [(.row 24 a0_0), (.row 9 a0_1), (.row 7 a0_2), (ci a1)] from rfl).trans (r_fine_stays (D n) a0_0 a0_1 a0_2 a1)
def R_fine_charge (M : Den) (a0_0 a0_1 a0_2 : List (List CV)) (a1_0 a1_1 a1_2 a1_3 a1_4 a1_5 a1_6 a1_7 a1_8 a2_0 a2_1 a2_2 a2_3 a3 : Int) : Option Ou :=
    seqO (iteB (decide (a1_6 ≤ a3))
            (callO (M n_fine_inForce [CV.row 24 a0_0, CV.row 9 a0_1, CV.row 7 a0_2, ci a1_6]) fun v0 =>
            chk ((decide (0 ≤ a1_2)) && (decide (a1_2 < (Int.ofNat 10)))) <|
            chk (oks [li] (cis v0 0 24) (1 + ((Int.toNat a1_2) * 1))) <|
            some (.nx [ci (gi (cis v0 0 24) (1 + ((Int.toNat a1_2) * 1))), ci 0, ci 0]))
            (some (.nx [ci 0, ci 0, ci 0]))) fun v0 =>
        callO (M n_fine_fed [ci a1_0, ci a1_1, ci a1_2, ci a1_3, ci a1_4, ci a1_5, ci a1_6, ci a1_7, ci a1_8, ci a2_0, ci a2_1, ci a2_2, ci a2_3, ci a3]) fun v1 =>
        seqO (rangeO (itV sg M (List.getD v1 0 dC)) (fun x2 v2 =>
            callO (M n_fine_inForce [CV.row 24 a0_0, CV.row 9 a0_1, CV.row 7 a0_2, ci x2]) fun v3 =>
            callO (M n_fine_daily [CV.row 24 a0_0, CV.row 9 a0_1, CV.row 7 a0_2, ci a1_0, ci a1_1, ci a1_2, ci a1_3, ci a1_4, ci a1_5, ci a1_6, ci a1_7, ci a1_8, ci x2]) fun v4 =>
            seqO (iteB (decide (a2_1 < 0))
                (some (.nx [cb true]))
                (some (.nx [cb (decide (x2 < a2_1))]))) fun v5 =>
            seqO (iteB (gb v5 0)
                (chk ((decide (0 ≤ a1_2)) && (decide (a1_2 < (Int.ofNat 10)))) <|
                chk (oks [li] (cis v3 0 24) (11 + ((Int.toNat a1_2) * 1))) <|
                some (.nx [ci (gi v2 0), ci (wr ((gi v2 1) + (gi v4 0))), ci (wr ((gi v2 2) + (gi (cis v3 0 24) (11 + ((Int.toNat a1_2) * 1)))))]))
                (some (.nx [ci (gi v2 0), ci (wr ((gi v2 1) + (gi v4 0))), ci (gi v2 2)]))) fun v6 =>
            some (.nx [ci (gi v6 0), ci (gi v6 1), ci (gi v6 2)])) [ci (gi v0 0), ci (gi v0 1), ci (gi v0 2)]) fun v2 =>
        some (.ret [ci (gi v2 0), ci (gi v2 1), ci (gi v2 2)])
theorem r_fine_charge (M : Den) (a0_0 a0_1 a0_2 : List (List CV)) (a1_0 a1_1 a1_2 a1_3 a1_4 a1_5 a1_6 a1_7 a1_8 a2_0 a2_1 a2_2 a2_3 a3 : Int) : evF Try.prog sg M fe80 (bodyOf Try.f80) [(.row 24 a0_0), (.row 9 a0_1), (.row 7 a0_2), (ci a1_0), (ci a1_1), (ci a1_2), (ci a1_3), (ci a1_4), (ci a1_5), (ci a1_6), (ci a1_7), (ci a1_8), (ci a2_0), (ci a2_1), (ci a2_2), (ci a2_3), (ci a3)] = retO (R_fine_charge M a0_0 a0_1 a0_2 a1_0 a1_1 a1_2 a1_3 a1_4 a1_5 a1_6 a1_7 a1_8 a2_0 a2_1 a2_2 a2_3 a3) := by kernel_rfl
theorem q_fine_charge (n : Nat) (a0_0 a0_1 a0_2 : List (List CV)) (a1_0 a1_1 a1_2 a1_3 a1_4 a1_5 a1_6 a1_7 a1_8 a2_0 a2_1 a2_2 a2_3 a3 : Int) : D (n + 1) n_fine_charge [(.row 24 a0_0), (.row 9 a0_1), (.row 7 a0_2), (ci a1_0), (ci a1_1), (ci a1_2), (ci a1_3), (ci a1_4), (ci a1_5), (ci a1_6), (ci a1_7), (ci a1_8), (ci a2_0), (ci a2_1), (ci a2_2), (ci a2_3), (ci a3)] = retO (R_fine_charge (D n) a0_0 a0_1 a0_2 a1_0 a1_1 a1_2 a1_3 a1_4 a1_5 a1_6 a1_7 a1_8 a2_0 a2_1 a2_2 a2_3 a3) := (show D (n + 1) n_fine_charge [(.row 24 a0_0), (.row 9 a0_1), (.row 7 a0_2), (ci a1_0), (ci a1_1), (ci a1_2), (ci a1_3), (ci a1_4), (ci a1_5), (ci a1_6), (ci a1_7), (ci a1_8), (ci a2_0), (ci a2_1), (ci a2_2), (ci a2_3), (ci a3)] = evF Try.prog sg (D n) fe80 (bodyOf Try.f80) [(.row 24 a0_0), (.row 9 a0_1), (.row 7 a0_2), (ci a1_0), (ci a1_1), (ci a1_2), (ci a1_3), (ci a1_4), (ci a1_5), (ci a1_6), (ci a1_7), (ci a1_8), (ci a2_0), (ci a2_1), (ci a2_2), (ci a2_3), (ci a3)] from rfl).trans (r_fine_charge (D n) a0_0 a0_1 a0_2 a1_0 a1_1 a1_2 a1_3 a1_4 a1_5 a1_6 a1_7 a1_8 a2_0 a2_1 a2_2 a2_3 a3)
def R_fine_Noted (M : Den) (a0_0 a0_1 a0_2 : List (List CV)) (a1_0 a1_1 a1_2 a1_3 a1_4 a1_5 a1_6 : Int) : Option Ou :=
    callO (M n_fine_Check [CV.row 24 a0_0, CV.row 9 a0_1, CV.row 7 a0_2]) fun v0 =>
        iteB ((gi v0 0) != 0)
          (some (.ret ([CV.row 24 [], CV.row 9 [], CV.row 7 [], ci (gi v0 0)])))
          (callO (M n_slices_BinarySearchFunc_Note ([CV.row 7 a0_2, ci a1_0, ci a1_1, ci a1_2, ci a1_3, ci a1_4, ci a1_5, ci a1_6, CV.fn n_fine_Noted_c1 []])) fun v1 =>
          seqO (callO (M n_fine_CheckNote [ci a1_0, ci a1_1, ci a1_2, ci a1_3, ci a1_4, ci a1_5, ci a1_6]) fun v2 =>
            iteB ((gi v2 0) != 0)
              (some (.nx [cb true]))
              (some (.nx [cb (gb v1 1)]))) fun v2 =>
          iteB (gb v2 0)
            (some (.ret ([CV.row 24 [], CV.row 9 [], CV.row 7 [], ci 62])))
            (iteB ((il a0_2) == 60)
              (some (.ret ([CV.row 24 [], CV.row 9 [], CV.row 7 [], ci 2])))
              (callO (M n_slices_Clone_Tariff [CV.row 24 a0_0]) fun v3 =>
              callO (M n_slices_Clone_Held [CV.row 9 a0_1]) fun v4 =>
              callO (M n_slices_Clone_Note [CV.row 7 a0_2]) fun v5 =>
              chk (ownR 7 34 v5) <|
              callO (M n_slices_Insert_Note []) fun v6 =>
              chk (insR 7 34 56 v6) <|
              chk ((decide (0 ≤ (gi v1 0))) && ((decide ((gi v1 0) ≤ (il (gr v5 0)))) && (fitA (List.length (gr v5 0)) 1 56))) <|
              some (.ret ([CV.row 24 (gr v3 0), CV.row 9 (gr v4 0), CV.row 7 ((List.take (Int.toNat (gi v1 0)) (gr v5 0)) ++ ([ci a1_0, ci a1_1, ci a1_2, ci a1_3, ci a1_4, ci a1_5, ci a1_6] :: (List.drop (Int.toNat (gi v1 0)) (gr v5 0)))), ci 0])))))
theorem r_fine_Noted (M : Den) (a0_0 a0_1 a0_2 : List (List CV)) (a1_0 a1_1 a1_2 a1_3 a1_4 a1_5 a1_6 : Int) : evF Try.prog sg M fe13 (bodyOf Try.f13) [(.row 24 a0_0), (.row 9 a0_1), (.row 7 a0_2), (ci a1_0), (ci a1_1), (ci a1_2), (ci a1_3), (ci a1_4), (ci a1_5), (ci a1_6)] = retO (R_fine_Noted M a0_0 a0_1 a0_2 a1_0 a1_1 a1_2 a1_3 a1_4 a1_5 a1_6) := by kernel_rfl
theorem q_fine_Noted (n : Nat) (a0_0 a0_1 a0_2 : List (List CV)) (a1_0 a1_1 a1_2 a1_3 a1_4 a1_5 a1_6 : Int) : D (n + 1) n_fine_Noted [(.row 24 a0_0), (.row 9 a0_1), (.row 7 a0_2), (ci a1_0), (ci a1_1), (ci a1_2), (ci a1_3), (ci a1_4), (ci a1_5), (ci a1_6)] = retO (R_fine_Noted (D n) a0_0 a0_1 a0_2 a1_0 a1_1 a1_2 a1_3 a1_4 a1_5 a1_6) := (show D (n + 1) n_fine_Noted [(.row 24 a0_0), (.row 9 a0_1), (.row 7 a0_2), (ci a1_0), (ci a1_1), (ci a1_2), (ci a1_3), (ci a1_4), (ci a1_5), (ci a1_6)] = evF Try.prog sg (D n) fe13 (bodyOf Try.f13) [(.row 24 a0_0), (.row 9 a0_1), (.row 7 a0_2), (ci a1_0), (ci a1_1), (ci a1_2), (ci a1_3), (ci a1_4), (ci a1_5), (ci a1_6)] from rfl).trans (r_fine_Noted (D n) a0_0 a0_1 a0_2 a1_0 a1_1 a1_2 a1_3 a1_4 a1_5 a1_6)
def R_fine_Owed (M : Den) (a0_0 a0_1 a0_2 : List (List CV)) (a1 a2 : Int) : Option Ou :=
    callO (M n_fine_Check [CV.row 24 a0_0, CV.row 9 a0_1, CV.row 7 a0_2]) fun v0 =>
        iteB ((gi v0 0) != 0)
          (some (.ret [ci 0, ci (gi v0 0)]))
          (callO (M n_fine_within [ci a1, ci 1, ci 99]) fun v1 =>
          iteB (!(gb v1 0))
            (some (.ret [ci 0, ci 1]))
            (callO (M n_fine_isDay [ci a2]) fun v2 =>
            iteB (!(gb v2 0))
              (some (.ret [ci 0, ci 6]))
              (callO (M n_fine_stays [CV.row 24 a0_0, CV.row 9 a0_1, CV.row 7 a0_2, ci a2]) fun v3 =>
              blkO 0 (loopD (fun v4 =>
                  iteB (decide ((gi v4 1) < (il (gr v3 0))))
                    (chk (inb (gi v4 1) (gr v3 0)) <|
                    chk (oks (List.replicate 9 li) (el (gr v3 0) (gi v4 1)) 0) <|
                    callO (M n_fine_due (cat [[CV.row 24 a0_0, CV.row 9 a0_1, CV.row 7 a0_2], cis (el (gr v3 0) (gi v4 1)) 0 9, [ci a2]])) fun v5 =>
                    seqO (iteB ((gi v5 0) == (wr (2 + a1)))
                        (some (.nx [ci (wr ((gi v4 0) + (wr ((wr ((gi v5 1) + (gi v5 2))) + (gi v5 3)))))]))
                        (some (.nx [ci (gi v4 0)]))) fun v6 =>
                    some (.nx [ci (gi v6 0), ci (wr ((gi v4 1) + 1))]))
                    (some (.br 0 [ci (gi v4 0)]))) [ci 0, ci 0]) fun v4 =>
              some (.ret [ci (gi v4 0), ci 0]))))
theorem r_fine_Owed (M : Den) (a0_0 a0_1 a0_2 : List (List CV)) (a1 a2 : Int) : evF Try.prog sg M fe56 (bodyOf Try.f56) [(.row 24 a0_0), (.row 9 a0_1), (.row 7 a0_2), (ci a1), (ci a2)] = retO (R_fine_Owed M a0_0 a0_1 a0_2 a1 a2) := by kernel_rfl
theorem q_fine_Owed (n : Nat) (a0_0 a0_1 a0_2 : List (List CV)) (a1 a2 : Int) : D (n + 1) n_fine_Owed [(.row 24 a0_0), (.row 9 a0_1), (.row 7 a0_2), (ci a1), (ci a2)] = retO (R_fine_Owed (D n) a0_0 a0_1 a0_2 a1 a2) := (show D (n + 1) n_fine_Owed [(.row 24 a0_0), (.row 9 a0_1), (.row 7 a0_2), (ci a1), (ci a2)] = evF Try.prog sg (D n) fe56 (bodyOf Try.f56) [(.row 24 a0_0), (.row 9 a0_1), (.row 7 a0_2), (ci a1), (ci a2)] from rfl).trans (r_fine_Owed (D n) a0_0 a0_1 a0_2 a1 a2)
def R_r06_CheckHeld (M : Den) (a0_0 a0_1 a0_2 a0_3 a0_4 a0_5 a0_6 a0_7 a0_8 : Int) : Option Ou :=
    seqO (callO (M n_r06_In [ci a0_0, ci 1, ci 99999]) fun v0 =>
          iteB (!(gb v0 0))
            (some (.nx [cb true]))
            (callO (M n_r06_In [ci a0_1, ci 1, ci 9999]) fun v1 =>
            iteB (!(gb v1 0))
              (some (.nx [cb true]))
              (callO (M n_r06_In [ci a0_2, ci 1, ci 9]) fun v2 =>
              iteB (!(gb v2 0))
                (some (.nx [cb true]))
                (callO (M n_r06_In [ci a0_3, ci 0, ci 100]) fun v3 =>
                iteB (!(gb v3 0))
                  (some (.nx [cb true]))
                  (callO (M n_r06_In [ci a0_4, ci 0, ci 100000]) fun v4 =>
                  iteB (!(gb v4 0))
                    (some (.nx [cb true]))
                    (callO (M n_r06_In [ci a0_5, ci 0, ci 99]) fun v5 =>
                    iteB (!(gb v5 0))
                      (some (.nx [cb true]))
                      (callO (M n_r06_In [ci a0_6, ci 0, ci 100000]) fun v6 =>
                      iteB (!(gb v6 0))
                        (some (.nx [cb true]))
                        (callO (M n_r06_isUntil [ci a0_7, ci a0_8]) fun v7 =>
                        some (.nx [cb (!(gb v7 0))]))))))))) fun v0 =>
        iteB (gb v0 0)
          (some (.ret [ci 61]))
          (some (.ret [ci 0]))
theorem r_r06_CheckHeld (M : Den) (a0_0 a0_1 a0_2 a0_3 a0_4 a0_5 a0_6 a0_7 a0_8 : Int) : evF Try.prog sg M fe21 (bodyOf Try.f21) [(ci a0_0), (ci a0_1), (ci a0_2), (ci a0_3), (ci a0_4), (ci a0_5), (ci a0_6), (ci a0_7), (ci a0_8)] = retO (R_r06_CheckHeld M a0_0 a0_1 a0_2 a0_3 a0_4 a0_5 a0_6 a0_7 a0_8) := by kernel_rfl
theorem q_r06_CheckHeld (n : Nat) (a0_0 a0_1 a0_2 a0_3 a0_4 a0_5 a0_6 a0_7 a0_8 : Int) : D (n + 1) n_r06_CheckHeld [(ci a0_0), (ci a0_1), (ci a0_2), (ci a0_3), (ci a0_4), (ci a0_5), (ci a0_6), (ci a0_7), (ci a0_8)] = retO (R_r06_CheckHeld (D n) a0_0 a0_1 a0_2 a0_3 a0_4 a0_5 a0_6 a0_7 a0_8) := (show D (n + 1) n_r06_CheckHeld [(ci a0_0), (ci a0_1), (ci a0_2), (ci a0_3), (ci a0_4), (ci a0_5), (ci a0_6), (ci a0_7), (ci a0_8)] = evF Try.prog sg (D n) fe21 (bodyOf Try.f21) [(ci a0_0), (ci a0_1), (ci a0_2), (ci a0_3), (ci a0_4), (ci a0_5), (ci a0_6), (ci a0_7), (ci a0_8)] from rfl).trans (r_r06_CheckHeld (D n) a0_0 a0_1 a0_2 a0_3 a0_4 a0_5 a0_6 a0_7 a0_8)
def R_fine_areRising_Note (M : Den) (a0 : List (List CV)) (a1 : Int) (a2 a3 : CV) : Option Ou :=
    blkO 0 (loopD (fun v0 =>
            iteB (decide ((gi v0 0) < (il a0)))
              (chk (inb (gi v0 0) a0) <|
              chk (oks (List.replicate 7 li) (el a0 (gi v0 0)) 0) <|
              seqO (callO (callV sg M a2 (cis (el a0 (gi v0 0)) 0 7) [.agg (List.replicate 7 li)] [.one li]) fun v1 =>
                iteB ((gi v1 0) != 0)
                  (some (.nx [cb true]))
                  (iteB (decide ((gi v0 0) > 0))
                    (chk (inb (wr ((gi v0 0) - 1)) a0) <|
                    chk (oks (List.replicate 7 li) (el a0 (wr ((gi v0 0) - 1))) 0) <|
                    callO (callV sg M a3 (cis (el a0 (wr ((gi v0 0) - 1))) 0 7) [.agg (List.replicate 7 li)] [.one li]) fun v2 =>
                    callO (callV sg M a3 (cis (el a0 (gi v0 0)) 0 7) [.agg (List.replicate 7 li)] [.one li]) fun v3 =>
                    some (.nx [cb (decide ((gi v2 0) ≥ (gi v3 0)))]))
                    (some (.nx [cb false])))) fun v1 =>
              iteB (gb v1 0)
                (some (.ret [cb false]))
                (some (.nx [ci (wr ((gi v0 0) + 1))])))
              (some (.br 0 []))) [ci 0]) fun v0 =>
        some (.ret [cb (decide ((il a0) ≤ a1))])
theorem r_fine_areRising_Note (M : Den) (a0 : List (List CV)) (a1 : Int) (a2 a3 : CV) : evF Try.prog sg M fe69 (bodyOf Try.f69) [(.row 7 a0), (ci a1), a2, a3] = retO (R_fine_areRising_Note M a0 a1 a2 a3) := by kernel_rfl
theorem q_fine_areRising_Note (n : Nat) (a0 : List (List CV)) (a1 : Int) (a2 a3 : CV) : D (n + 1) n_fine_areRising_Note [(.row 7 a0), (ci a1), a2, a3] = retO (R_fine_areRising_Note (D n) a0 a1 a2 a3) := (show D (n + 1) n_fine_areRising_Note [(.row 7 a0), (ci a1), a2, a3] = evF Try.prog sg (D n) fe69 (bodyOf Try.f69) [(.row 7 a0), (ci a1), a2, a3] from rfl).trans (r_fine_areRising_Note (D n) a0 a1 a2 a3)
def R_r06_CheckTariff (M : Den) (a0_0 a0_1 a0_2 a0_3 a0_4 a0_5 a0_6 a0_7 a0_8 a0_9 a0_10 a0_11 a0_12 a0_13 a0_14 a0_15 a0_16 a0_17 a0_18 a0_19 a0_20 a0_21 a0_22 a0_23 : Int) : Option Ou :=
    seqO (callO (M n_r06_In [ci a0_0, ci 0, ci 100000]) fun v0 =>
          iteB (!(gb v0 0))
            (some (.nx [cb true]))
            (callO (M n_r06_areRates [ci a0_1, ci a0_2, ci a0_3, ci a0_4, ci a0_5, ci a0_6, ci a0_7, ci a0_8, ci a0_9, ci a0_10]) fun v1 =>
            iteB (!(gb v1 0))
              (some (.nx [cb true]))
              (callO (M n_r06_areRates [ci a0_11, ci a0_12, ci a0_13, ci a0_14, ci a0_15, ci a0_16, ci a0_17, ci a0_18, ci a0_19, ci a0_20]) fun v2 =>
              iteB (!(gb v2 0))
                (some (.nx [cb true]))
                (callO (M n_r06_In [ci a0_21, ci 0, ci 10000]) fun v3 =>
                iteB (!(gb v3 0))
                  (some (.nx [cb true]))
                  (callO (M n_r06_In [ci a0_22, ci 0, ci 60]) fun v4 =>
                  iteB (!(gb v4 0))
                    (some (.nx [cb true]))
                    (callO (M n_r06_In [ci a0_23, ci 0, ci 60]) fun v5 =>
                    iteB (!(gb v5 0))
                      (some (.nx [cb true]))
                      (some (.nx [cb (decide ((wr (a0_22 + a0_23)) > 60))])))))))) fun v0 =>
        iteB (gb v0 0)
          (some (.ret [ci 60]))
          (some (.ret [ci 0]))
theorem r_r06_CheckTariff (M : Den) (a0_0 a0_1 a0_2 a0_3 a0_4 a0_5 a0_6 a0_7 a0_8 a0_9 a0_10 a0_11 a0_12 a0_13 a0_14 a0_15 a0_16 a0_17 a0_18 a0_19 a0_20 a0_21 a0_22 a0_23 : Int) : evF Try.prog sg M fe19 (bodyOf Try.f19) [(ci a0_0), (ci a0_1), (ci a0_2), (ci a0_3), (ci a0_4), (ci a0_5), (ci a0_6), (ci a0_7), (ci a0_8), (ci a0_9), (ci a0_10), (ci a0_11), (ci a0_12), (ci a0_13), (ci a0_14), (ci a0_15), (ci a0_16), (ci a0_17), (ci a0_18), (ci a0_19), (ci a0_20), (ci a0_21), (ci a0_22), (ci a0_23)] = retO (R_r06_CheckTariff M a0_0 a0_1 a0_2 a0_3 a0_4 a0_5 a0_6 a0_7 a0_8 a0_9 a0_10 a0_11 a0_12 a0_13 a0_14 a0_15 a0_16 a0_17 a0_18 a0_19 a0_20 a0_21 a0_22 a0_23) := by kernel_rfl
theorem q_r06_CheckTariff (n : Nat) (a0_0 a0_1 a0_2 a0_3 a0_4 a0_5 a0_6 a0_7 a0_8 a0_9 a0_10 a0_11 a0_12 a0_13 a0_14 a0_15 a0_16 a0_17 a0_18 a0_19 a0_20 a0_21 a0_22 a0_23 : Int) : D (n + 1) n_r06_CheckTariff [(ci a0_0), (ci a0_1), (ci a0_2), (ci a0_3), (ci a0_4), (ci a0_5), (ci a0_6), (ci a0_7), (ci a0_8), (ci a0_9), (ci a0_10), (ci a0_11), (ci a0_12), (ci a0_13), (ci a0_14), (ci a0_15), (ci a0_16), (ci a0_17), (ci a0_18), (ci a0_19), (ci a0_20), (ci a0_21), (ci a0_22), (ci a0_23)] = retO (R_r06_CheckTariff (D n) a0_0 a0_1 a0_2 a0_3 a0_4 a0_5 a0_6 a0_7 a0_8 a0_9 a0_10 a0_11 a0_12 a0_13 a0_14 a0_15 a0_16 a0_17 a0_18 a0_19 a0_20 a0_21 a0_22 a0_23) := (show D (n + 1) n_r06_CheckTariff [(ci a0_0), (ci a0_1), (ci a0_2), (ci a0_3), (ci a0_4), (ci a0_5), (ci a0_6), (ci a0_7), (ci a0_8), (ci a0_9), (ci a0_10), (ci a0_11), (ci a0_12), (ci a0_13), (ci a0_14), (ci a0_15), (ci a0_16), (ci a0_17), (ci a0_18), (ci a0_19), (ci a0_20), (ci a0_21), (ci a0_22), (ci a0_23)] = evF Try.prog sg (D n) fe19 (bodyOf Try.f19) [(ci a0_0), (ci a0_1), (ci a0_2), (ci a0_3), (ci a0_4), (ci a0_5), (ci a0_6), (ci a0_7), (ci a0_8), (ci a0_9), (ci a0_10), (ci a0_11), (ci a0_12), (ci a0_13), (ci a0_14), (ci a0_15), (ci a0_16), (ci a0_17), (ci a0_18), (ci a0_19), (ci a0_20), (ci a0_21), (ci a0_22), (ci a0_23)] from rfl).trans (r_r06_CheckTariff (D n) a0_0 a0_1 a0_2 a0_3 a0_4 a0_5 a0_6 a0_7 a0_8 a0_9 a0_10 a0_11 a0_12 a0_13 a0_14 a0_15 a0_16 a0_17 a0_18 a0_19 a0_20 a0_21 a0_22 a0_23)
def R_r06_says (M : Den) (a0_0 a0_1 a0_2 : List (List CV)) (a1_0 a1_1 a1_2 a1_3 a1_4 a1_5 a1_6 a1_7 a1_8 a2 : Int) : Option Ou :=
    blkO 0 (loopD (fun v0 =>
            iteB (decide ((gi v0 0) < (il a0_2)))
              (chk (inb (gi v0 0) a0_2) <|
              chk (oks (List.replicate 7 li) (el a0_2 (gi v0 0)) 0) <|
              seqO (callO (M n_r06_counts [ci (gi (el a0_2 (gi v0 0)) 5), ci (gi (el a0_2 (gi v0 0)) 6), ci a2]) fun v1 =>
                iteB (gb v1 0)
                  (iteB ((gi (el a0_2 (gi v0 0)) 1) == a1_0)
                    (callO (M n_r06_In [ci (gi (el a0_2 (gi v0 0)) 4), ci a1_6, ci a2]) fun v2 =>
                    some (.nx [cb (gb v2 0)]))
                    (some (.nx [cb false])))
                  (some (.nx [cb false]))) fun v1 =>
              seqO (iteB (gb v1 0)
                  (chk (fitA (List.length (gr v0 1)) 1 56) <|
                  some (.nx [CV.row 7 ((gr v0 1) ++ (chunk 7 1 (cis (el a0_2 (gi v0 0)) 0 7)))]))
                  (some (.nx [CV.row 7 (gr v0 1)]))) fun v2 =>
              some (.nx [ci (wr ((gi v0 0) + 1)), CV.row 7 (gr v2 0)]))
              (some (.br 0 [CV.row 7 (gr v0 1)]))) ([ci 0, CV.row 7 []])) fun v0 =>
        some (.ret [CV.row 7 (gr v0 0)])
theorem r_r06_says (M : Den) (a0_0 a0_1 a0_2 : List (List CV)) (a1_0 a1_1 a1_2 a1_3 a1_4 a1_5 a1_6 a1_7 a1_8 a2 : Int) : evF Try.prog sg M fe99 (bodyOf Try.f99) [(.row 24 a0_0), (.row 9 a0_1), (.row 7 a0_2), (ci a1_0), (ci a1_1), (ci a1_2), (ci a1_3), (ci a1_4), (ci a1_5), (ci a1_6), (ci a1_7), (ci a1_8), (ci a2)] = retO (R_r06_says M a0_0 a0_1 a0_2 a1_0 a1_1 a1_2 a1_3 a1_4 a1_5 a1_6 a1_7 a1_8 a2) := by kernel_rfl
theorem q_r06_says (n : Nat) (a0_0 a0_1 a0_2 : List (List CV)) (a1_0 a1_1 a1_2 a1_3 a1_4 a1_5 a1_6 a1_7 a1_8 a2 : Int) : D (n + 1) n_r06_says [(.row 24 a0_0), (.row 9 a0_1), (.row 7 a0_2), (ci a1_0), (ci a1_1), (ci a1_2), (ci a1_3), (ci a1_4), (ci a1_5), (ci a1_6), (ci a1_7), (ci a1_8), (ci a2)] = retO (R_r06_says (D n) a0_0 a0_1 a0_2 a1_0 a1_1 a1_2 a1_3 a1_4 a1_5 a1_6 a1_7 a1_8 a2) := (show D (n + 1) n_r06_says [(.row 24 a0_0), (.row 9 a0_1), (.row 7 a0_2), (ci a1_0), (ci a1_1), (ci a1_2), (ci a1_3), (ci a1_4), (ci a1_5), (ci a1_6), (ci a1_7), (ci a1_8), (ci a2)] = evF Try.prog sg (D n) fe99 (bodyOf Try.f99) [(.row 24 a0_0), (.row 9 a0_1), (.row 7 a0_2), (ci a1_0), (ci a1_1), (ci a1_2), (ci a1_3), (ci a1_4), (ci a1_5), (ci a1_6), (ci a1_7), (ci a1_8), (ci a2)] from rfl).trans (r_r06_says (D n) a0_0 a0_1 a0_2 a1_0 a1_1 a1_2 a1_3 a1_4 a1_5 a1_6 a1_7 a1_8 a2)
def R_fine_stayOf (M : Den) (a0_0 a0_1 a0_2 : List (List CV)) (a1 a2 : Int) : Option Ou :=
    callO (M n_fine_check ([CV.row 24 a0_0, CV.row 9 a0_1, CV.row 7 a0_2, CV.row 1 (chunk 1 1 [ci a2])])) fun v0 =>
        iteB ((gi v0 0) != 0)
          (some (.ret [ci 0, ci 0, ci 0, ci 0, ci 0, ci 0, ci 0, ci 0, ci 0, ci (gi v0 0)]))
          (callO (M n_fine_stays [CV.row 24 a0_0, CV.row 9 a0_1, CV.row 7 a0_2, ci a2]) fun v1 =>
          blkO 0 (loopD (fun v2 =>
              iteB (decide ((gi v2 0) < (il (gr v1 0))))
                (chk (inb (gi v2 0) (gr v1 0)) <|
                chk (oks (List.replicate 9 li) (el (gr v1 0) (gi v2 0)) 0) <|
                iteB ((gi (el (gr v1 0) (gi v2 0)) 0) == a1)
                  (some (.ret (cat [cis (el (gr v1 0) (gi v2 0)) 0 9, [ci 0]])))
                  (some (.nx (cat [[ci (wr ((gi v2 0) + 1))], cis v2 1 9]))))
                (some (.br 0 (cis v2 1 9)))) [ci 0, ci 0, ci 0, ci 0, ci 0, ci 0, ci 0, ci 0, ci 0, ci 0]) fun v2 =>
          some (.ret [ci 0, ci 0, ci 0, ci 0, ci 0, ci 0, ci 0, ci 0, ci 0, ci 65]))
theorem r_fine_stayOf (M : Den) (a0_0 a0_1 a0_2 : List (List CV)) (a1 a2 : Int) : evF Try.prog sg M fe78 (bodyOf Try.f78) [(.row 24 a0_0), (.row 9 a0_1), (.row 7 a0_2), (ci a1), (ci a2)] = retO (R_fine_stayOf M a0_0 a0_1 a0_2 a1 a2) := by kernel_rfl
theorem q_fine_stayOf (n : Nat) (a0_0 a0_1 a0_2 : List (List CV)) (a1 a2 : Int) : D (n + 1) n_fine_stayOf [(.row 24 a0_0), (.row 9 a0_1), (.row 7 a0_2), (ci a1), (ci a2)] = retO (R_fine_stayOf (D n) a0_0 a0_1 a0_2 a1 a2) := (show D (n + 1) n_fine_stayOf [(.row 24 a0_0), (.row 9 a0_1), (.row 7 a0_2), (ci a1), (ci a2)] = evF Try.prog sg (D n) fe78 (bodyOf Try.f78) [(.row 24 a0_0), (.row 9 a0_1), (.row 7 a0_2), (ci a1), (ci a2)] from rfl).trans (r_fine_stayOf (D n) a0_0 a0_1 a0_2 a1 a2)
def R_fine_inForce (M : Den) (a0_0 a0_1 a0_2 : List (List CV)) (a1 : Int) : Option Ou :=
    blkO 0 (loopD (fun v0 =>
            iteB (decide ((gi v0 1) < (il a0_0)))
              (chk (inb (gi v0 1) a0_0) <|
              chk (oks (List.replicate 24 li) (el a0_0 (gi v0 1)) 0) <|
              seqO (iteB (decide ((gi (el a0_0 (gi v0 1)) 0) ≤ a1))
                  (some (.nx (cat [[cb true], cis (el a0_0 (gi v0 1)) 0 24])))
                  (some (.nx (cat [[cb (gb v0 0)], cis v0 2 24])))) fun v1 =>
              some (.nx (cat [[cb (gb v1 0), ci (wr ((gi v0 1) + 1))], cis v1 1 24])))
              (some (.br 0 (cat [[cb (gb v0 0)], cis v0 2 24])))) [cb false, ci 0, ci 0, ci 0, ci 0, ci 0, ci 0, ci 0, ci 0, ci 0, ci 0, ci 0, ci 0, ci 0, ci 0, ci 0, ci 0, ci 0, ci 0, ci 0, ci 0, ci 0, ci 0, ci 0, ci 0, ci 0]) fun v0 =>
        some (.ret (cat [cis v0 1 24, [cb (gb v0 0)]]))
theorem r_fine_inForce (M : Den) (a0_0 a0_1 a0_2 : List (List CV)) (a1 : Int) : evF Try.prog sg M fe94 (bodyOf Try.f94) [(.row 24 a0_0), (.row 9 a0_1), (.row 7 a0_2), (ci a1)] = retO (R_fine_inForce M a0_0 a0_1 a0_2 a1) := by kernel_rfl
theorem q_fine_inForce (n : Nat) (a0_0 a0_1 a0_2 : List (List CV)) (a1 : Int) : D (n + 1) n_fine_inForce [(.row 24 a0_0), (.row 9 a0_1), (.row 7 a0_2), (ci a1)] = retO (R_fine_inForce (D n) a0_0 a0_1 a0_2 a1) := (show D (n + 1) n_fine_inForce [(.row 24 a0_0), (.row 9 a0_1), (.row 7 a0_2), (ci a1)] = evF Try.prog sg (D n) fe94 (bodyOf Try.f94) [(.row 24 a0_0), (.row 9 a0_1), (.row 7 a0_2), (ci a1)] from rfl).trans (r_fine_inForce (D n) a0_0 a0_1 a0_2 a1)
def R_fine_sold (M : Den) (a0_0 a0_1 a0_2 : List (List CV)) (a1_0 a1_1 a1_2 a1_3 a1_4 a1_5 a1_6 a1_7 a1_8 a2 : Int) : Option Ou :=
    iteB (a1_4 == 0)
          (some (.ret [ci (-1)]))
          (callO (M n_fine_days [ci a1_6, ci (if (wr (a1_6 + 720)) < a2 then wr (a1_6 + 720) else a2)]) fun v0 =>
          seqO (rangeO (itV sg M (List.getD v0 0 dC)) (fun x1 v1 =>
              callO (M n_fine_daily [CV.row 24 a0_0, CV.row 9 a0_1, CV.row 7 a0_2, ci a1_0, ci a1_1, ci a1_2, ci a1_3, ci a1_4, ci a1_5, ci a1_6, ci a1_7, ci a1_8, ci x1]) fun v2 =>
              inlO (some (.ret [ci (wr ((gi v1 1) + (gi v2 0)))])) fun v3 =>
              iteB (decide ((gi v3 0) ≥ a1_4))
                (some (.ret [ci x1]))
                (some (.nx [ci (gi v1 0), ci (gi v3 0)]))) [ci 0, ci 0]) fun v1 =>
          some (.ret [ci (-1)]))
theorem r_fine_sold (M : Den) (a0_0 a0_1 a0_2 : List (List CV)) (a1_0 a1_1 a1_2 a1_3 a1_4 a1_5 a1_6 a1_7 a1_8 a2 : Int) : evF Try.prog sg M fe114 (bodyOf Try.f114) [(.row 24 a0_0), (.row 9 a0_1), (.row 7 a0_2), (ci a1_0), (ci a1_1), (ci a1_2), (ci a1_3), (ci a1_4), (ci a1_5), (ci a1_6), (ci a1_7), (ci a1_8), (ci a2)] = retO (R_fine_sold M a0_0 a0_1 a0_2 a1_0 a1_1 a1_2 a1_3 a1_4 a1_5 a1_6 a1_7 a1_8 a2) := by kernel_rfl
theorem q_fine_sold (n : Nat) (a0_0 a0_1 a0_2 : List (List CV)) (a1_0 a1_1 a1_2 a1_3 a1_4 a1_5 a1_6 a1_7 a1_8 a2 : Int) : D (n + 1) n_fine_sold [(.row 24 a0_0), (.row 9 a0_1), (.row 7 a0_2), (ci a1_0), (ci a1_1), (ci a1_2), (ci a1_3), (ci a1_4), (ci a1_5), (ci a1_6), (ci a1_7), (ci a1_8), (ci a2)] = retO (R_fine_sold (D n) a0_0 a0_1 a0_2 a1_0 a1_1 a1_2 a1_3 a1_4 a1_5 a1_6 a1_7 a1_8 a2) := (show D (n + 1) n_fine_sold [(.row 24 a0_0), (.row 9 a0_1), (.row 7 a0_2), (ci a1_0), (ci a1_1), (ci a1_2), (ci a1_3), (ci a1_4), (ci a1_5), (ci a1_6), (ci a1_7), (ci a1_8), (ci a2)] = evF Try.prog sg (D n) fe114 (bodyOf Try.f114) [(.row 24 a0_0), (.row 9 a0_1), (.row 7 a0_2), (ci a1_0), (ci a1_1), (ci a1_2), (ci a1_3), (ci a1_4), (ci a1_5), (ci a1_6), (ci a1_7), (ci a1_8), (ci a2)] from rfl).trans (r_fine_sold (D n) a0_0 a0_1 a0_2 a1_0 a1_1 a1_2 a1_3 a1_4 a1_5 a1_6 a1_7 a1_8 a2)
def R_fine_notes_c1 (M : Den) (a0_0 a0_1 a0_2 a0_3 a0_4 a0_5 a0_6 : Int) (a1 a2 : List CV) : Option Ou :=
    chk (oks [li] a1 0) <|
        callO (M n_fine_counts [ci a0_5, ci a0_6, ci (gi a1 0)]) fun v0 =>
        iteB (!(gb v0 0))
          (some (.ret [cb true]))
          (chk (oks [li] (List.drop 0 a2) 0) <|
          iteB (a0_1 != (gi (List.drop 0 a2) 0))
            (some (.ret [cb true]))
            (chk (oks [li] (List.drop 6 a2) 0) <|
            chk (oks [li] a1 0) <|
            callO (M n_fine_within [ci a0_4, ci (gi (List.drop 6 a2) 0), ci (gi a1 0)]) fun v1 =>
            some (.ret [cb (!(gb v1 0))])))
theorem r_fine_notes_c1 (M : Den) (a0_0 a0_1 a0_2 a0_3 a0_4 a0_5 a0_6 : Int) (a1 a2 : List CV) : evF Try.prog sg M fe129 (bodyOf Try.f129) [(ci a0_0), (ci a0_1), (ci a0_2), (ci a0_3), (ci a0_4), (ci a0_5), (ci a0_6), (.ref a1), (.ref a2)] = retO (R_fine_notes_c1 M a0_0 a0_1 a0_2 a0_3 a0_4 a0_5 a0_6 a1 a2) := by kernel_rfl
theorem q_fine_notes_c1 (n : Nat) (a0_0 a0_1 a0_2 a0_3 a0_4 a0_5 a0_6 : Int) (a1 a2 : List CV) : D (n + 1) n_fine_notes_c1 [(ci a0_0), (ci a0_1), (ci a0_2), (ci a0_3), (ci a0_4), (ci a0_5), (ci a0_6), (.ref a1), (.ref a2)] = retO (R_fine_notes_c1 (D n) a0_0 a0_1 a0_2 a0_3 a0_4 a0_5 a0_6 a1 a2) := (show D (n + 1) n_fine_notes_c1 [(ci a0_0), (ci a0_1), (ci a0_2), (ci a0_3), (ci a0_4), (ci a0_5), (ci a0_6), (.ref a1), (.ref a2)] = evF Try.prog sg (D n) fe129 (bodyOf Try.f129) [(ci a0_0), (ci a0_1), (ci a0_2), (ci a0_3), (ci a0_4), (ci a0_5), (ci a0_6), (.ref a1), (.ref a2)] from rfl).trans (r_fine_notes_c1 (D n) a0_0 a0_1 a0_2 a0_3 a0_4 a0_5 a0_6 a1 a2)
def R_r06_Posts (M : Den) (a0_0 a0_1 a0_2 a1 : List (List CV)) : Option Ou :=
    callO (M n_r06_Check [CV.row 24 a0_0, CV.row 9 a0_1, CV.row 7 a0_2]) fun v0 =>
        iteB ((gi v0 0) != 0)
          (some (.ret ([CV.row 5 [], ci 63])))
          (callO (M n_r06_areDays [CV.row 1 a1]) fun v1 =>
          iteB (!(gb v1 0))
            (some (.ret ([CV.row 5 [], ci 66])))
            (callO (M n_r06_posts [CV.row 24 a0_0, CV.row 9 a0_1, CV.row 7 a0_2, CV.row 1 a1]) fun v2 =>
            some (.ret [CV.row 5 (gr v2 0), ci 0])))
theorem r_r06_Posts (M : Den) (a0_0 a0_1 a0_2 a1 : List (List CV)) : evF Try.prog sg M fe45 (bodyOf Try.f45) [(.row 24 a0_0), (.row 9 a0_1), (.row 7 a0_2), (.row 1 a1)] = retO (R_r06_Posts M a0_0 a0_1 a0_2 a1) := by kernel_rfl
theorem q_r06_Posts (n : Nat) (a0_0 a0_1 a0_2 a1 : List (List CV)) : D (n + 1) n_r06_Posts [(.row 24 a0_0), (.row 9 a0_1), (.row 7 a0_2), (.row 1 a1)] = retO (R_r06_Posts (D n) a0_0 a0_1 a0_2 a1) := (show D (n + 1) n_r06_Posts [(.row 24 a0_0), (.row 9 a0_1), (.row 7 a0_2), (.row 1 a1)] = evF Try.prog sg (D n) fe45 (bodyOf Try.f45) [(.row 24 a0_0), (.row 9 a0_1), (.row 7 a0_2), (.row 1 a1)] from rfl).trans (r_r06_Posts (D n) a0_0 a0_1 a0_2 a1)
def R_fine_Dues (M : Den) (a0_0 a0_1 a0_2 : List (List CV)) (a1 a2 : Int) : Option Ou :=
    callO (M n_fine_stayOf [CV.row 24 a0_0, CV.row 9 a0_1, CV.row 7 a0_2, ci a1, ci a2]) fun v0 =>
        iteB ((gi v0 9) != 0)
          (some (.ret [ci 0, ci 0, ci 0, ci 0, ci (gi v0 9)]))
          (callO (M n_fine_due (cat [[CV.row 24 a0_0, CV.row 9 a0_1, CV.row 7 a0_2], cis v0 0 9, [ci a2]])) fun v1 =>
          some (.ret (cat [cis v1 0 4, [ci 0]])))
theorem r_fine_Dues (M : Den) (a0_0 a0_1 a0_2 : List (List CV)) (a1 a2 : Int) : evF Try.prog sg M fe28 (bodyOf Try.f28) [(.row 24 a0_0), (.row 9 a0_1), (.row 7 a0_2), (ci a1), (ci a2)] = retO (R_fine_Dues M a0_0 a0_1 a0_2 a1 a2) := by kernel_rfl
theorem q_fine_Dues (n : Nat) (a0_0 a0_1 a0_2 : List (List CV)) (a1 a2 : Int) : D (n + 1) n_fine_Dues [(.row 24 a0_0), (.row 9 a0_1), (.row 7 a0_2), (ci a1), (ci a2)] = retO (R_fine_Dues (D n) a0_0 a0_1 a0_2 a1 a2) := (show D (n + 1) n_fine_Dues [(.row 24 a0_0), (.row 9 a0_1), (.row 7 a0_2), (ci a1), (ci a2)] = evF Try.prog sg (D n) fe28 (bodyOf Try.f28) [(.row 24 a0_0), (.row 9 a0_1), (.row 7 a0_2), (ci a1), (ci a2)] from rfl).trans (r_fine_Dues (D n) a0_0 a0_1 a0_2 a1 a2)
def R_r06_isUntil (M : Den) (a0 a1 : Int) : Option Ou :=
    callO (M n_r06_In [ci a0, ci 0, ci 100000]) fun v0 =>
        iteB (gb v0 0)
          (iteB (a1 == 0)
            (some (.ret [cb true]))
            (iteB (decide (a1 > a0))
              (some (.ret [cb (decide (a1 ≤ 100000))]))
              (some (.ret [cb false]))))
          (some (.ret [cb false]))
theorem r_r06_isUntil (M : Den) (a0 a1 : Int) : evF Try.prog sg M fe77 (bodyOf Try.f77) [(ci a0), (ci a1)] = retO (R_r06_isUntil M a0 a1) := by kernel_rfl
theorem q_r06_isUntil (n : Nat) (a0 a1 : Int) : D (n + 1) n_r06_isUntil [(ci a0), (ci a1)] = retO (R_r06_isUntil (D n) a0 a1) := (show D (n + 1) n_r06_isUntil [(ci a0), (ci a1)] = evF Try.prog sg (D n) fe77 (bodyOf Try.f77) [(ci a0), (ci a1)] from rfl).trans (r_r06_isUntil (D n) a0 a1)
def R_r06_counts (M : Den) (a0 a1 a2 : Int) : Option Ou :=
    iteB (decide (a0 ≤ a2))
          (iteB (a1 == 0)
            (some (.ret [cb true]))
            (some (.ret [cb (decide (a1 > a2))])))
          (some (.ret [cb false]))
theorem r_r06_counts (M : Den) (a0 a1 a2 : Int) : evF Try.prog sg M fe97 (bodyOf Try.f97) [(ci a0), (ci a1), (ci a2)] = retO (R_r06_counts M a0 a1 a2) := by kernel_rfl
theorem q_r06_counts (n : Nat) (a0 a1 a2 : Int) : D (n + 1) n_r06_counts [(ci a0), (ci a1), (ci a2)] = retO (R_r06_counts (D n) a0 a1 a2) := (show D (n + 1) n_r06_counts [(ci a0), (ci a1), (ci a2)] = evF Try.prog sg (D n) fe97 (bodyOf Try.f97) [(ci a0), (ci a1), (ci a2)] from rfl).trans (r_r06_counts (D n) a0 a1 a2)
def R_fine_daily (M : Den) (a0_0 a0_1 a0_2 : List (List CV)) (a1_0 a1_1 a1_2 a1_3 a1_4 a1_5 a1_6 a1_7 a1_8 a2 : Int) : Option Ou :=
    callO (M n_fine_inForce [CV.row 24 a0_0, CV.row 9 a0_1, CV.row 7 a0_2, ci a2]) fun v0 =>
        some (.ret [ci (wr (Int.tdiv (wr (a1_3 * (gi v0 21))) 10))])
theorem r_fine_daily (M : Den) (a0_0 a0_1 a0_2 : List (List CV)) (a1_0 a1_1 a1_2 a1_3 a1_4 a1_5 a1_6 a1_7 a1_8 a2 : Int) : evF Try.prog sg M fe115 (bodyOf Try.f115) [(.row 24 a0_0), (.row 9 a0_1), (.row 7 a0_2), (ci a1_0), (ci a1_1), (ci a1_2), (ci a1_3), (ci a1_4), (ci a1_5), (ci a1_6), (ci a1_7), (ci a1_8), (ci a2)] = retO (R_fine_daily M a0_0 a0_1 a0_2 a1_0 a1_1 a1_2 a1_3 a1_4 a1_5 a1_6 a1_7 a1_8 a2) := by kernel_rfl
theorem q_fine_daily (n : Nat) (a0_0 a0_1 a0_2 : List (List CV)) (a1_0 a1_1 a1_2 a1_3 a1_4 a1_5 a1_6 a1_7 a1_8 a2 : Int) : D (n + 1) n_fine_daily [(.row 24 a0_0), (.row 9 a0_1), (.row 7 a0_2), (ci a1_0), (ci a1_1), (ci a1_2), (ci a1_3), (ci a1_4), (ci a1_5), (ci a1_6), (ci a1_7), (ci a1_8), (ci a2)] = retO (R_fine_daily (D n) a0_0 a0_1 a0_2 a1_0 a1_1 a1_2 a1_3 a1_4 a1_5 a1_6 a1_7 a1_8 a2) := (show D (n + 1) n_fine_daily [(.row 24 a0_0), (.row 9 a0_1), (.row 7 a0_2), (ci a1_0), (ci a1_1), (ci a1_2), (ci a1_3), (ci a1_4), (ci a1_5), (ci a1_6), (ci a1_7), (ci a1_8), (ci a2)] = evF Try.prog sg (D n) fe115 (bodyOf Try.f115) [(.row 24 a0_0), (.row 9 a0_1), (.row 7 a0_2), (ci a1_0), (ci a1_1), (ci a1_2), (ci a1_3), (ci a1_4), (ci a1_5), (ci a1_6), (ci a1_7), (ci a1_8), (ci a2)] from rfl).trans (r_fine_daily (D n) a0_0 a0_1 a0_2 a1_0 a1_1 a1_2 a1_3 a1_4 a1_5 a1_6 a1_7 a1_8 a2)
def R_r06_In (M : Den) (a0 a1 a2 : Int) : Option Ou :=
    iteB (decide (a0 ≥ a1))
          (some (.ret [cb (decide (a0 ≤ a2))]))
          (some (.ret [cb false]))
theorem r_r06_In (M : Den) (a0 a1 a2 : Int) : evF Try.prog sg M fe74 (bodyOf Try.f74) [(ci a0), (ci a1), (ci a2)] = retO (R_r06_In M a0 a1 a2) := by kernel_rfl
theorem q_r06_In (n : Nat) (a0 a1 a2 : Int) : D (n + 1) n_r06_In [(ci a0), (ci a1), (ci a2)] = retO (R_r06_In (D n) a0 a1 a2) := (show D (n + 1) n_r06_In [(ci a0), (ci a1), (ci a2)] = evF Try.prog sg (D n) fe74 (bodyOf Try.f74) [(ci a0), (ci a1), (ci a2)] from rfl).trans (r_r06_In (D n) a0 a1 a2)
def R_fine_isDay (M : Den) (a0 : Int) : Option Ou :=
    callO (M n_fine_within [ci a0, ci 0, ci 100000]) fun v0 =>
        some (.ret [cb (gb v0 0)])
theorem r_fine_isDay (M : Den) (a0 : Int) : evF Try.prog sg M fe71 (bodyOf Try.f71) [(ci a0)] = retO (R_fine_isDay M a0) := by kernel_rfl
theorem q_fine_isDay (n : Nat) (a0 : Int) : D (n + 1) n_fine_isDay [(ci a0)] = retO (R_fine_isDay (D n) a0) := (show D (n + 1) n_fine_isDay [(ci a0)] = evF Try.prog sg (D n) fe71 (bodyOf Try.f71) [(ci a0)] from rfl).trans (r_fine_isDay (D n) a0)
def R_cmp_isNaN_int (M : Den) (a0 : Int) : Option Ou :=
    some (.ret [cb (a0 != a0)])
theorem r_cmp_isNaN_int (M : Den) (a0 : Int) : evF Try.prog sg M fe108 (bodyOf Try.f108) [(ci a0)] = retO (R_cmp_isNaN_int M a0) := by kernel_rfl
theorem q_cmp_isNaN_int (n : Nat) (a0 : Int) : D (n + 1) n_cmp_isNaN_int [(ci a0)] = retO (R_cmp_isNaN_int (D n) a0) := (show D (n + 1) n_cmp_isNaN_int [(ci a0)] = evF Try.prog sg (D n) fe108 (bodyOf Try.f108) [(ci a0)] from rfl).trans (r_cmp_isNaN_int (D n) a0)
def R_fine_noteOf (M : Den) (a0_0 a0_1 a0_2 a0_3 a0_4 a0_5 a0_6 : Int) : Option Ou :=
    some (.ret [ci a0_0])
theorem r_fine_noteOf (M : Den) (a0_0 a0_1 a0_2 a0_3 a0_4 a0_5 a0_6 : Int) : evF Try.prog sg M fe70 (bodyOf Try.f70) [(ci a0_0), (ci a0_1), (ci a0_2), (ci a0_3), (ci a0_4), (ci a0_5), (ci a0_6)] = retO (R_fine_noteOf M a0_0 a0_1 a0_2 a0_3 a0_4 a0_5 a0_6) := by kernel_rfl
theorem q_fine_noteOf (n : Nat) (a0_0 a0_1 a0_2 a0_3 a0_4 a0_5 a0_6 : Int) : D (n + 1) n_fine_noteOf [(ci a0_0), (ci a0_1), (ci a0_2), (ci a0_3), (ci a0_4), (ci a0_5), (ci a0_6)] = retO (R_fine_noteOf (D n) a0_0 a0_1 a0_2 a0_3 a0_4 a0_5 a0_6) := (show D (n + 1) n_fine_noteOf [(ci a0_0), (ci a0_1), (ci a0_2), (ci a0_3), (ci a0_4), (ci a0_5), (ci a0_6)] = evF Try.prog sg (D n) fe70 (bodyOf Try.f70) [(ci a0_0), (ci a0_1), (ci a0_2), (ci a0_3), (ci a0_4), (ci a0_5), (ci a0_6)] from rfl).trans (r_fine_noteOf (D n) a0_0 a0_1 a0_2 a0_3 a0_4 a0_5 a0_6)
end
end Go.Proofs.Ytabhbdehbpmpkaa
