/-
  Proved: up to the last one of its days the postings for a stay add up to its due, as known then; what other payers paid they got back; no Amount is 0, no two postings have one day, stay, From and To; all Balances add up to 0, and what the lord, the hayward and the driver get is what is paid; conditions: none.
-/
import Derived.KernelRfl
import Derived.Test.YtabhbdehbpmpkaaRows
import Derived.Test.YtabhbdehbpmpkaaP09
namespace Go.Proofs.Ytabhbdehbpmpkaa
open Go Go.Sx Go.Fine
set_option maxRecDepth 10000
attribute [local simp] Bool.and_assoc Bool.or_assoc
noncomputable section
def paidX (M : Den) (a0_0 a0_1 a0_2 : List (List CV)) (sc : List CV) (day : Int) : Option Ou := (callO (M n_fine_counts [ci (gi sc 7), ci (gi sc 8), ci day]) fun v2 =>
                      iteB (!(gb v2 0))
                        (some (.ret ([CV.row 3 []])))
                        (callO (M n_fine_due (cat [[CV.row 24 a0_0, CV.row 9 a0_1, CV.row 7 a0_2], cis sc 0 9, [ci day]])) fun v3 =>
                        iteB ((gi v3 0) == (-1))
                          (some (.ret ([CV.row 3 []])))
                          (chk (okEs [(.int .i64), (.int .i64)] (.int .i64) (entM 2 [ci (gi v3 0), ci 1] (.int .i64 0) (List.set (entM 2 [ci (gi v3 0), ci 0] (.int .i64 0) []) 0 [ci (gi v3 0), ci 0, ci (wr (0 + (gi v3 3)))]))) <|
                          chk ((decide (0 ≤ (Int.ofNat (posM 2 [ci (gi v3 0), ci 1] (List.set (entM 2 [ci (gi v3 0), ci 0] (.int .i64 0) []) 0 [ci (gi v3 0), ci 0, ci (wr (0 + (gi v3 3)))]))))) && (decide ((Int.toNat (Int.ofNat (posM 2 [ci (gi v3 0), ci 1] (List.set (entM 2 [ci (gi v3 0), ci 0] (.int .i64 0) []) 0 [ci (gi v3 0), ci 0, ci (wr (0 + (gi v3 3)))])))) < (List.length (entM 2 [ci (gi v3 0), ci 1] (.int .i64 0) (List.set (entM 2 [ci (gi v3 0), ci 0] (.int .i64 0) []) 0 [ci (gi v3 0), ci 0, ci (wr (0 + (gi v3 3)))])))))) <|
                          seqO (iteB ((gi sc 5) != 0)
                              (chk (okEs [(.int .i64), (.int .i64)] (.int .i64) (List.set (entM 2 [ci (gi v3 0), ci 1] (.int .i64 0) (List.set (entM 2 [ci (gi v3 0), ci 0] (.int .i64 0) []) 0 [ci (gi v3 0), ci 0, ci (wr (0 + (gi v3 3)))])) (Int.toNat (Int.ofNat (posM 2 [ci (gi v3 0), ci 1] (List.set (entM 2 [ci (gi v3 0), ci 0] (.int .i64 0) []) 0 [ci (gi v3 0), ci 0, ci (wr (0 + (gi v3 3)))])))) ((List.take 2 (el (entM 2 [ci (gi v3 0), ci 1] (.int .i64 0) (List.set (entM 2 [ci (gi v3 0), ci 0] (.int .i64 0) []) 0 [ci (gi v3 0), ci 0, ci (wr (0 + (gi v3 3)))])) (Int.ofNat (posM 2 [ci (gi v3 0), ci 1] (List.set (entM 2 [ci (gi v3 0), ci 0] (.int .i64 0) []) 0 [ci (gi v3 0), ci 0, ci (wr (0 + (gi v3 3)))]))))) ++ ([ci (wr ((cI (lookM 2 [ci (gi v3 0), ci 1] (.int .i64 0) (List.set (entM 2 [ci (gi v3 0), ci 0] (.int .i64 0) []) 0 [ci (gi v3 0), ci 0, ci (wr (0 + (gi v3 3)))]))) + (gi v3 1)))])))) <|
                              chk (okEs [(.int .i64), (.int .i64)] (.int .i64) (List.set (entM 2 [ci (gi v3 0), ci 1] (.int .i64 0) (List.set (entM 2 [ci (gi v3 0), ci 0] (.int .i64 0) []) 0 [ci (gi v3 0), ci 0, ci (wr (0 + (gi v3 3)))])) (Int.toNat (Int.ofNat (posM 2 [ci (gi v3 0), ci 1] (List.set (entM 2 [ci (gi v3 0), ci 0] (.int .i64 0) []) 0 [ci (gi v3 0), ci 0, ci (wr (0 + (gi v3 3)))])))) ((List.take 2 (el (entM 2 [ci (gi v3 0), ci 1] (.int .i64 0) (List.set (entM 2 [ci (gi v3 0), ci 0] (.int .i64 0) []) 0 [ci (gi v3 0), ci 0, ci (wr (0 + (gi v3 3)))])) (Int.ofNat (posM 2 [ci (gi v3 0), ci 1] (List.set (entM 2 [ci (gi v3 0), ci 0] (.int .i64 0) []) 0 [ci (gi v3 0), ci 0, ci (wr (0 + (gi v3 3)))]))))) ++ ([ci (wr ((cI (lookM 2 [ci (gi v3 0), ci 1] (.int .i64 0) (List.set (entM 2 [ci (gi v3 0), ci 0] (.int .i64 0) []) 0 [ci (gi v3 0), ci 0, ci (wr (0 + (gi v3 3)))]))) + (gi v3 1)))])))) <|
                              chk (okEs [(.int .i64), (.int .i64)] (.int .i64) (entM 2 [ci (gi v3 0), ci (wr (2 + (gi sc 5)))] (.int .i64 0) (List.set (entM 2 [ci (gi v3 0), ci 1] (.int .i64 0) (List.set (entM 2 [ci (gi v3 0), ci 0] (.int .i64 0) []) 0 [ci (gi v3 0), ci 0, ci (wr (0 + (gi v3 3)))])) (Int.toNat (Int.ofNat (posM 2 [ci (gi v3 0), ci 1] (List.set (entM 2 [ci (gi v3 0), ci 0] (.int .i64 0) []) 0 [ci (gi v3 0), ci 0, ci (wr (0 + (gi v3 3)))])))) ((List.take 2 (el (entM 2 [ci (gi v3 0), ci 1] (.int .i64 0) (List.set (entM 2 [ci (gi v3 0), ci 0] (.int .i64 0) []) 0 [ci (gi v3 0), ci 0, ci (wr (0 + (gi v3 3)))])) (Int.ofNat (posM 2 [ci (gi v3 0), ci 1] (List.set (entM 2 [ci (gi v3 0), ci 0] (.int .i64 0) []) 0 [ci (gi v3 0), ci 0, ci (wr (0 + (gi v3 3)))]))))) ++ ([ci (wr ((cI (lookM 2 [ci (gi v3 0), ci 1] (.int .i64 0) (List.set (entM 2 [ci (gi v3 0), ci 0] (.int .i64 0) []) 0 [ci (gi v3 0), ci 0, ci (wr (0 + (gi v3 3)))]))) + (gi v3 1)))]))))) <|
                              chk ((decide (0 ≤ (Int.ofNat (posM 2 [ci (gi v3 0), ci (wr (2 + (gi sc 5)))] (List.set (entM 2 [ci (gi v3 0), ci 1] (.int .i64 0) (List.set (entM 2 [ci (gi v3 0), ci 0] (.int .i64 0) []) 0 [ci (gi v3 0), ci 0, ci (wr (0 + (gi v3 3)))])) (Int.toNat (Int.ofNat (posM 2 [ci (gi v3 0), ci 1] (List.set (entM 2 [ci (gi v3 0), ci 0] (.int .i64 0) []) 0 [ci (gi v3 0), ci 0, ci (wr (0 + (gi v3 3)))])))) ((List.take 2 (el (entM 2 [ci (gi v3 0), ci 1] (.int .i64 0) (List.set (entM 2 [ci (gi v3 0), ci 0] (.int .i64 0) []) 0 [ci (gi v3 0), ci 0, ci (wr (0 + (gi v3 3)))])) (Int.ofNat (posM 2 [ci (gi v3 0), ci 1] (List.set (entM 2 [ci (gi v3 0), ci 0] (.int .i64 0) []) 0 [ci (gi v3 0), ci 0, ci (wr (0 + (gi v3 3)))]))))) ++ ([ci (wr ((cI (lookM 2 [ci (gi v3 0), ci 1] (.int .i64 0) (List.set (entM 2 [ci (gi v3 0), ci 0] (.int .i64 0) []) 0 [ci (gi v3 0), ci 0, ci (wr (0 + (gi v3 3)))]))) + (gi v3 1)))]))))))) && (decide ((Int.toNat (Int.ofNat (posM 2 [ci (gi v3 0), ci (wr (2 + (gi sc 5)))] (List.set (entM 2 [ci (gi v3 0), ci 1] (.int .i64 0) (List.set (entM 2 [ci (gi v3 0), ci 0] (.int .i64 0) []) 0 [ci (gi v3 0), ci 0, ci (wr (0 + (gi v3 3)))])) (Int.toNat (Int.ofNat (posM 2 [ci (gi v3 0), ci 1] (List.set (entM 2 [ci (gi v3 0), ci 0] (.int .i64 0) []) 0 [ci (gi v3 0), ci 0, ci (wr (0 + (gi v3 3)))])))) ((List.take 2 (el (entM 2 [ci (gi v3 0), ci 1] (.int .i64 0) (List.set (entM 2 [ci (gi v3 0), ci 0] (.int .i64 0) []) 0 [ci (gi v3 0), ci 0, ci (wr (0 + (gi v3 3)))])) (Int.ofNat (posM 2 [ci (gi v3 0), ci 1] (List.set (entM 2 [ci (gi v3 0), ci 0] (.int .i64 0) []) 0 [ci (gi v3 0), ci 0, ci (wr (0 + (gi v3 3)))]))))) ++ ([ci (wr ((cI (lookM 2 [ci (gi v3 0), ci 1] (.int .i64 0) (List.set (entM 2 [ci (gi v3 0), ci 0] (.int .i64 0) []) 0 [ci (gi v3 0), ci 0, ci (wr (0 + (gi v3 3)))]))) + (gi v3 1)))])))))) < (List.length (entM 2 [ci (gi v3 0), ci (wr (2 + (gi sc 5)))] (.int .i64 0) (List.set (entM 2 [ci (gi v3 0), ci 1] (.int .i64 0) (List.set (entM 2 [ci (gi v3 0), ci 0] (.int .i64 0) []) 0 [ci (gi v3 0), ci 0, ci (wr (0 + (gi v3 3)))])) (Int.toNat (Int.ofNat (posM 2 [ci (gi v3 0), ci 1] (List.set (entM 2 [ci (gi v3 0), ci 0] (.int .i64 0) []) 0 [ci (gi v3 0), ci 0, ci (wr (0 + (gi v3 3)))])))) ((List.take 2 (el (entM 2 [ci (gi v3 0), ci 1] (.int .i64 0) (List.set (entM 2 [ci (gi v3 0), ci 0] (.int .i64 0) []) 0 [ci (gi v3 0), ci 0, ci (wr (0 + (gi v3 3)))])) (Int.ofNat (posM 2 [ci (gi v3 0), ci 1] (List.set (entM 2 [ci (gi v3 0), ci 0] (.int .i64 0) []) 0 [ci (gi v3 0), ci 0, ci (wr (0 + (gi v3 3)))]))))) ++ ([ci (wr ((cI (lookM 2 [ci (gi v3 0), ci 1] (.int .i64 0) (List.set (entM 2 [ci (gi v3 0), ci 0] (.int .i64 0) []) 0 [ci (gi v3 0), ci 0, ci (wr (0 + (gi v3 3)))]))) + (gi v3 1)))])))))))) <|
                              some (.nx ([CV.row 3 (List.set (entM 2 [ci (gi v3 0), ci (wr (2 + (gi sc 5)))] (.int .i64 0) (List.set (entM 2 [ci (gi v3 0), ci 1] (.int .i64 0) (List.set (entM 2 [ci (gi v3 0), ci 0] (.int .i64 0) []) 0 [ci (gi v3 0), ci 0, ci (wr (0 + (gi v3 3)))])) (Int.toNat (Int.ofNat (posM 2 [ci (gi v3 0), ci 1] (List.set (entM 2 [ci (gi v3 0), ci 0] (.int .i64 0) []) 0 [ci (gi v3 0), ci 0, ci (wr (0 + (gi v3 3)))])))) ((List.take 2 (el (entM 2 [ci (gi v3 0), ci 1] (.int .i64 0) (List.set (entM 2 [ci (gi v3 0), ci 0] (.int .i64 0) []) 0 [ci (gi v3 0), ci 0, ci (wr (0 + (gi v3 3)))])) (Int.ofNat (posM 2 [ci (gi v3 0), ci 1] (List.set (entM 2 [ci (gi v3 0), ci 0] (.int .i64 0) []) 0 [ci (gi v3 0), ci 0, ci (wr (0 + (gi v3 3)))]))))) ++ ([ci (wr ((cI (lookM 2 [ci (gi v3 0), ci 1] (.int .i64 0) (List.set (entM 2 [ci (gi v3 0), ci 0] (.int .i64 0) []) 0 [ci (gi v3 0), ci 0, ci (wr (0 + (gi v3 3)))]))) + (gi v3 1)))])))) (Int.toNat (Int.ofNat (posM 2 [ci (gi v3 0), ci (wr (2 + (gi sc 5)))] (List.set (entM 2 [ci (gi v3 0), ci 1] (.int .i64 0) (List.set (entM 2 [ci (gi v3 0), ci 0] (.int .i64 0) []) 0 [ci (gi v3 0), ci 0, ci (wr (0 + (gi v3 3)))])) (Int.toNat (Int.ofNat (posM 2 [ci (gi v3 0), ci 1] (List.set (entM 2 [ci (gi v3 0), ci 0] (.int .i64 0) []) 0 [ci (gi v3 0), ci 0, ci (wr (0 + (gi v3 3)))])))) ((List.take 2 (el (entM 2 [ci (gi v3 0), ci 1] (.int .i64 0) (List.set (entM 2 [ci (gi v3 0), ci 0] (.int .i64 0) []) 0 [ci (gi v3 0), ci 0, ci (wr (0 + (gi v3 3)))])) (Int.ofNat (posM 2 [ci (gi v3 0), ci 1] (List.set (entM 2 [ci (gi v3 0), ci 0] (.int .i64 0) []) 0 [ci (gi v3 0), ci 0, ci (wr (0 + (gi v3 3)))]))))) ++ ([ci (wr ((cI (lookM 2 [ci (gi v3 0), ci 1] (.int .i64 0) (List.set (entM 2 [ci (gi v3 0), ci 0] (.int .i64 0) []) 0 [ci (gi v3 0), ci 0, ci (wr (0 + (gi v3 3)))]))) + (gi v3 1)))])))))) ((List.take 2 (el (entM 2 [ci (gi v3 0), ci (wr (2 + (gi sc 5)))] (.int .i64 0) (List.set (entM 2 [ci (gi v3 0), ci 1] (.int .i64 0) (List.set (entM 2 [ci (gi v3 0), ci 0] (.int .i64 0) []) 0 [ci (gi v3 0), ci 0, ci (wr (0 + (gi v3 3)))])) (Int.toNat (Int.ofNat (posM 2 [ci (gi v3 0), ci 1] (List.set (entM 2 [ci (gi v3 0), ci 0] (.int .i64 0) []) 0 [ci (gi v3 0), ci 0, ci (wr (0 + (gi v3 3)))])))) ((List.take 2 (el (entM 2 [ci (gi v3 0), ci 1] (.int .i64 0) (List.set (entM 2 [ci (gi v3 0), ci 0] (.int .i64 0) []) 0 [ci (gi v3 0), ci 0, ci (wr (0 + (gi v3 3)))])) (Int.ofNat (posM 2 [ci (gi v3 0), ci 1] (List.set (entM 2 [ci (gi v3 0), ci 0] (.int .i64 0) []) 0 [ci (gi v3 0), ci 0, ci (wr (0 + (gi v3 3)))]))))) ++ ([ci (wr ((cI (lookM 2 [ci (gi v3 0), ci 1] (.int .i64 0) (List.set (entM 2 [ci (gi v3 0), ci 0] (.int .i64 0) []) 0 [ci (gi v3 0), ci 0, ci (wr (0 + (gi v3 3)))]))) + (gi v3 1)))])))) (Int.ofNat (posM 2 [ci (gi v3 0), ci (wr (2 + (gi sc 5)))] (List.set (entM 2 [ci (gi v3 0), ci 1] (.int .i64 0) (List.set (entM 2 [ci (gi v3 0), ci 0] (.int .i64 0) []) 0 [ci (gi v3 0), ci 0, ci (wr (0 + (gi v3 3)))])) (Int.toNat (Int.ofNat (posM 2 [ci (gi v3 0), ci 1] (List.set (entM 2 [ci (gi v3 0), ci 0] (.int .i64 0) []) 0 [ci (gi v3 0), ci 0, ci (wr (0 + (gi v3 3)))])))) ((List.take 2 (el (entM 2 [ci (gi v3 0), ci 1] (.int .i64 0) (List.set (entM 2 [ci (gi v3 0), ci 0] (.int .i64 0) []) 0 [ci (gi v3 0), ci 0, ci (wr (0 + (gi v3 3)))])) (Int.ofNat (posM 2 [ci (gi v3 0), ci 1] (List.set (entM 2 [ci (gi v3 0), ci 0] (.int .i64 0) []) 0 [ci (gi v3 0), ci 0, ci (wr (0 + (gi v3 3)))]))))) ++ ([ci (wr ((cI (lookM 2 [ci (gi v3 0), ci 1] (.int .i64 0) (List.set (entM 2 [ci (gi v3 0), ci 0] (.int .i64 0) []) 0 [ci (gi v3 0), ci 0, ci (wr (0 + (gi v3 3)))]))) + (gi v3 1)))]))))))) ++ ([ci (wr ((cI (lookM 2 [ci (gi v3 0), ci (wr (2 + (gi sc 5)))] (.int .i64 0) (List.set (entM 2 [ci (gi v3 0), ci 1] (.int .i64 0) (List.set (entM 2 [ci (gi v3 0), ci 0] (.int .i64 0) []) 0 [ci (gi v3 0), ci 0, ci (wr (0 + (gi v3 3)))])) (Int.toNat (Int.ofNat (posM 2 [ci (gi v3 0), ci 1] (List.set (entM 2 [ci (gi v3 0), ci 0] (.int .i64 0) []) 0 [ci (gi v3 0), ci 0, ci (wr (0 + (gi v3 3)))])))) ((List.take 2 (el (entM 2 [ci (gi v3 0), ci 1] (.int .i64 0) (List.set (entM 2 [ci (gi v3 0), ci 0] (.int .i64 0) []) 0 [ci (gi v3 0), ci 0, ci (wr (0 + (gi v3 3)))])) (Int.ofNat (posM 2 [ci (gi v3 0), ci 1] (List.set (entM 2 [ci (gi v3 0), ci 0] (.int .i64 0) []) 0 [ci (gi v3 0), ci 0, ci (wr (0 + (gi v3 3)))]))))) ++ ([ci (wr ((cI (lookM 2 [ci (gi v3 0), ci 1] (.int .i64 0) (List.set (entM 2 [ci (gi v3 0), ci 0] (.int .i64 0) []) 0 [ci (gi v3 0), ci 0, ci (wr (0 + (gi v3 3)))]))) + (gi v3 1)))]))))) + (gi v3 2)))])))])))
                              (some (.nx ([CV.row 3 (List.set (entM 2 [ci (gi v3 0), ci 1] (.int .i64 0) (List.set (entM 2 [ci (gi v3 0), ci 0] (.int .i64 0) []) 0 [ci (gi v3 0), ci 0, ci (wr (0 + (gi v3 3)))])) (Int.toNat (Int.ofNat (posM 2 [ci (gi v3 0), ci 1] (List.set (entM 2 [ci (gi v3 0), ci 0] (.int .i64 0) []) 0 [ci (gi v3 0), ci 0, ci (wr (0 + (gi v3 3)))])))) ((List.take 2 (el (entM 2 [ci (gi v3 0), ci 1] (.int .i64 0) (List.set (entM 2 [ci (gi v3 0), ci 0] (.int .i64 0) []) 0 [ci (gi v3 0), ci 0, ci (wr (0 + (gi v3 3)))])) (Int.ofNat (posM 2 [ci (gi v3 0), ci 1] (List.set (entM 2 [ci (gi v3 0), ci 0] (.int .i64 0) []) 0 [ci (gi v3 0), ci 0, ci (wr (0 + (gi v3 3)))]))))) ++ ([ci (wr ((cI (lookM 2 [ci (gi v3 0), ci 1] (.int .i64 0) (List.set (entM 2 [ci (gi v3 0), ci 0] (.int .i64 0) []) 0 [ci (gi v3 0), ci 0, ci (wr (0 + (gi v3 3)))]))) + (gi v3 1)))])))])))) fun v4 =>
                          some (.ret [CV.row 3 (gr v4 0)]))))
def recX1 (rc m1 : List (List CV)) (day src : Int) (out : List (List CV)) : Option Ou := (loopD (fun v4 =>
                          iteB (decide ((gi v4 0) < (il rc)))
                            (chk (inb (gi v4 0) rc) <|
                            chk (decide ((Int.toNat (gi v4 0)) < (List.length rc))) <|
                            chk (oks [li] (el rc (gi v4 0)) 0) <|
                            blkO 6 (loopD (fun v5 =>
                                iteB (decide ((gi v5 0) ≤ 101))
                                  (chk (okEs [(.int .i64), (.int .i64)] (.int .i64) m1) <|
                                  seqO (iteB ((wr ((cI (lookM 2 [ci (gi v5 0), ci (gi (el rc (gi v4 0)) 0)] (.int .i64 0) m1)) - 0)) != 0)
                                      (some (.nx [cb ((gi v5 0) != (gi (el rc (gi v4 0)) 0))]))
                                      (some (.nx [cb false]))) fun v6 =>
                                  seqO (iteB (gb v6 0)
                                      (chk (fitA (List.length (gr v5 1)) 1 40) <|
                                      some (.nx ([CV.row 5 ((gr v5 1) ++ (chunk 5 1 ([ci day, ci src, ci (gi v5 0), ci (gi (el rc (gi v4 0)) 0), ci (wr ((cI (lookM 2 [ci (gi v5 0), ci (gi (el rc (gi v4 0)) 0)] (.int .i64 0) m1)) - 0))])))])))
                                      (some (.nx [CV.row 5 (gr v5 1)]))) fun v7 =>
                                  some (.nx [ci (wr ((gi v5 0) + 1)), CV.row 5 (gr v7 0)]))
                                  (some (.br 6 [CV.row 5 (gr v5 1)]))) [ci 2, CV.row 5 (gr v4 1)]) fun v5 =>
                            some (.nx [ci (wr ((gi v4 0) + 1)), CV.row 5 (gr v5 0)]))
                            (some (.br 4 [CV.row 5 (gr v4 1)]))) [ci 0, CV.row 5 out])
def recX2 (rc m1 m2 : List (List CV)) (day src : Int) (out : List (List CV)) : Option Ou := (loopD (fun v5 =>
                          iteB (decide ((gi v5 0) < (il rc)))
                            (chk (inb (gi v5 0) rc) <|
                            chk (decide ((Int.toNat (gi v5 0)) < (List.length rc))) <|
                            chk (oks [li] (el rc (gi v5 0)) 0) <|
                            blkO 6 (loopD (fun v6 =>
                                iteB (decide ((gi v6 0) ≤ 101))
                                  (chk (okEs [(.int .i64), (.int .i64)] (.int .i64) m1) <|
                                  chk (okEs [(.int .i64), (.int .i64)] (.int .i64) m2) <|
                                  seqO (iteB ((wr ((cI (lookM 2 [ci (gi v6 0), ci (gi (el rc (gi v5 0)) 0)] (.int .i64 0) m1)) - (cI (lookM 2 [ci (gi v6 0), ci (gi (el rc (gi v5 0)) 0)] (.int .i64 0) m2)))) != 0)
                                      (some (.nx [cb ((gi v6 0) != (gi (el rc (gi v5 0)) 0))]))
                                      (some (.nx [cb false]))) fun v7 =>
                                  seqO (iteB (gb v7 0)
                                      (chk (fitA (List.length (gr v6 1)) 1 40) <|
                                      some (.nx ([CV.row 5 ((gr v6 1) ++ (chunk 5 1 ([ci day, ci src, ci (gi v6 0), ci (gi (el rc (gi v5 0)) 0), ci (wr ((cI (lookM 2 [ci (gi v6 0), ci (gi (el rc (gi v5 0)) 0)] (.int .i64 0) m1)) - (cI (lookM 2 [ci (gi v6 0), ci (gi (el rc (gi v5 0)) 0)] (.int .i64 0) m2))))])))])))
                                      (some (.nx [CV.row 5 (gr v6 1)]))) fun v8 =>
                                  some (.nx [ci (wr ((gi v6 0) + 1)), CV.row 5 (gr v8 0)]))
                                  (some (.br 6 [CV.row 5 (gr v6 1)]))) [ci 2, CV.row 5 (gr v5 1)]) fun v6 =>
                            some (.nx [ci (wr ((gi v5 0) + 1)), CV.row 5 (gr v6 0)]))
                            (some (.br 4 [CV.row 5 (gr v5 1)]))) [ci 0, CV.row 5 out])
def postX (M : Den) (a0_0 a0_1 a0_2 a1 : List (List CV)) : Option Ou :=
    blkO 0 (loopD (fun v0 =>
            iteB (decide ((gi v0 0) < (il a1)))
              (chk (inb (gi v0 0) a1) <|
              chk (oks [li] (el a1 (gi v0 0)) 0) <|
              blkO 2 (loopD (fun v1 =>
                  iteB (decide ((gi v1 0) < (il a0_1)))
                    (chk (inb (gi v1 0) a0_1) <|
                    chk (oks (List.replicate 9 li) (el a0_1 (gi v1 0)) 0) <|
                    inlO (paidX M a0_0 a0_1 a0_2 (el a0_1 (gi v1 0)) (gi (el a1 (gi v0 0)) 0)) fun v2 =>
                    iteB (decide ((gi v0 0) > 0))
                      (chk (inb (wr ((gi v0 0) - 1)) a1) <|
                      chk (oks [li] (el a1 (wr ((gi v0 0) - 1))) 0) <|
                      inlO (paidX M a0_0 a0_1 a0_2 (el a0_1 (gi v1 0)) (gi (el a1 (wr ((gi v0 0) - 1))) 0)) fun v3 =>
                      seqO (iteB ((gi (el a0_1 (gi v1 0)) 5) != 0)
                          (some (.nx ([CV.row 1 ([[ci 0], [ci 1], [ci (wr (2 + (gi (el a0_1 (gi v1 0)) 5)))]])])))
                          (some (.nx ([CV.row 1 (chunk 1 2 [ci 0, ci 1])])))) fun v4 =>
                      blkO 4 (recX2 (gr v4 0) (gr v2 0) (gr v3 0) (gi (el a1 (gi v0 0)) 0) (gi (el a0_1 (gi v1 0)) 0) (gr v1 1)) fun v5 =>
                      some (.nx [ci (wr ((gi v1 0) + 1)), CV.row 5 (gr v5 0)]))
                      (seqO (iteB ((gi (el a0_1 (gi v1 0)) 5) != 0)
                          (some (.nx ([CV.row 1 ([[ci 0], [ci 1], [ci (wr (2 + (gi (el a0_1 (gi v1 0)) 5)))]])])))
                          (some (.nx ([CV.row 1 (chunk 1 2 [ci 0, ci 1])])))) fun v3 =>
                      blkO 4 (recX1 (gr v3 0) (gr v2 0) (gi (el a1 (gi v0 0)) 0) (gi (el a0_1 (gi v1 0)) 0) (gr v1 1)) fun v4 =>
                      some (.nx [ci (wr ((gi v1 0) + 1)), CV.row 5 (gr v4 0)])))
                    (some (.br 2 [CV.row 5 (gr v1 1)]))) [ci 0, CV.row 5 (gr v0 1)]) fun v1 =>
              some (.nx [ci (wr ((gi v0 0) + 1)), CV.row 5 (gr v1 0)]))
              (some (.br 0 [CV.row 5 (gr v0 1)]))) ([ci 0, CV.row 5 []])) fun v0 =>
        some (.ret [CV.row 5 (gr v0 0)])
theorem postX_eq (M : Den) (a0_0 a0_1 a0_2 a1 : List (List CV)) : R_fine_postings M a0_0 a0_1 a0_2 a1 = postX M a0_0 a0_1 a0_2 a1 := rfl
end
theorem posM_z (a b : Int) : posM 2 [ci a, ci b] [] = 0 := rfl
theorem posM_s (a b c d : Int) (r : List CV) (es : List (List CV)) : posM 2 [ci a, ci b] ((ci c :: ci d :: r) :: es) = if a = c ∧ b = d then 0 else posM 2 [ci a, ci b] es + 1 := by
  simp only [posM, ci, List.map_cons, List.map_nil, List.take_succ_cons, List.take_zero, cvV, eqB, vEq, Bool.and_true, beq_dec, Bool.and_eq_true, decide_eq_true_eq]
def paidRow (p : Acc) (s : Held) (k : Int) : List (List CV) :=
  if counts s.known s.til k = false ∨ (dueOf p s k).payer = -1 then [] else
    [ci (dueOf p s k).payer, ci 0, ci (dueOf p s k).lord] :: [ci (dueOf p s k).payer, ci 1, ci (dueOf p s k).hay] :: (if s.drv = 0 then [] else [[ci (dueOf p s k).payer, ci (2 + s.drv), ci (dueOf p s k).drv]])
theorem due_bounds {p : Acc} (hp : p.ok = true) {s : Held} (hs : s.ok = true) {k : Int} (hk : isDay k = true) : -100000000000 ≤ (dueOf p s k).lord ∧ (dueOf p s k).lord ≤ 100000000000 ∧ 0 ≤ (dueOf p s k).hay ∧ (dueOf p s k).hay ≤ 50000000000 ∧ 0 ≤ (dueOf p s k).drv ∧ (dueOf p s k).drv ≤ 50000000000 := by
  obtain ⟨y1, y2⟩ := payer_bounds hp hs k hk
  obtain ⟨t1, t2, t3⟩ := hay_bounds hp s.day
  obtain ⟨a1, a2, a3, a4⟩ := shares_wr _ (inForce p s.day).hay y1 y2 (by omega) (by omega)
  obtain ⟨b1, b2, b3, b4⟩ := shares_wr _ (inForce p s.day).drv y1 y2 (by omega) (by omega)
  unfold dueOf shares
  by_cases hd : s.drv = 0
  · simp only [hd, if_true]; omega
  · simp only [hd, if_false]; omega
theorem okE_cons (a b c : Int) (es : List (List CV)) : okEs [.int .i64, .int .i64] (.int .i64) ([ci a, ci b, ci c] :: es) = okEs [.int .i64, .int .i64] (.int .i64) es := rfl
theorem okE_nil : okEs [.int .i64, .int .i64] (.int .i64) [] = true := rfl
theorem w_paidX (n : Nat) (p : Acc) (s : Held) (k : Int) (hp : p.ok = true) (hs : s.ok = true) (hk : isDay k = true) : paidX (D (n + 6)) (p.ts.map Tariff.cv) (p.ss.map Held.cv) (p.ns.map Note.cv) s.cv k = some (.ret [.row 3 (paidRow p s k)]) := by
  have hb := due_bounds hp hs hk
  have hbs := Held.ok_b hs
  have e0 : wr (0 + (dueOf p s k).lord) = (dueOf p s k).lord := by rw [wr_of] <;> omega
  have e1 : wr ((dueOf p s k).hay) = (dueOf p s k).hay := by rw [wr_of] <;> omega
  have e2 : wr ((dueOf p s k).drv) = (dueOf p s k).drv := by rw [wr_of] <;> omega
  have e3 : wr (2 + s.drv) = 2 + s.drv := by rw [wr_of] <;> omega
  have hcv : s.cv = [ci s.src, ci s.beast, ci s.sort, ci s.eats, ci s.worth, ci s.drv, ci s.day, ci s.known, ci s.til] := rfl
  have zz : CV.val (.int .i64 0) = ci 0 := rfl
  unfold paidX
  simp only [hcv, gi_z, gi_s, w_counts, callO_val, gb_z, cat_s, cat_1, cis_s, cis_z, List.cons_append, List.nil_append, w_due _ _ _ _ hp hs hk, e0, e3]
  cases hc : counts s.known s.til k with
  | false => simp [paidRow, hc]
  | true =>
    by_cases hy : (dueOf p s k).payer = -1
    · simp [paidRow, hc, hy]
    · by_cases hd : s.drv = 0
      · simp [paidRow, hc, hy, hd, entM, lookM, posM_z, posM_s, zz, okE_cons, okE_nil, el, e1]
      · have n0 : ¬ (2 + s.drv = 0) := by omega
        have n1 : ¬ (2 + s.drv = 1) := by omega
        simp [paidRow, hc, hy, hd, entM, lookM, posM_z, posM_s, zz, okE_cons, okE_nil, el, e1, e2, n0, n1]
theorem look_nil (a b : Int) : cI (lookM 2 [ci a, ci b] (.int .i64 0) []) = 0 := rfl
theorem look_cons (a b c d v : Int) (es : List (List CV)) : lookM 2 [ci a, ci b] (.int .i64 0) ([ci c, ci d, ci v] :: es) = if a = c ∧ b = d then ci v else lookM 2 [ci a, ci b] (.int .i64 0) es := by
  unfold lookM
  rw [posM_s]
  by_cases h : a = c ∧ b = d
  · rw [if_pos h, if_pos h]; rfl
  · rw [if_neg h, if_neg h]; rfl
theorem recv_cases {s : Held} {r : Nat × Int} (h : r ∈ receivers s) : r = (0, 0) ∨ r = (1, 1) ∨ (r = (2, 2 + s.drv) ∧ s.drv ≠ 0) := by
  unfold receivers at h
  by_cases hd : s.drv = 0
  · simp [hd] at h; rcases h with h | h <;> simp [h]
  · simp [hd] at h; rcases h with h | h | h <;> simp [h, hd]
theorem look_paid (p : Acc) {s : Held} (hs : s.ok = true) (k : Int) {f : Int} (hf : 2 ≤ f) {r : Nat × Int} (hr : r ∈ receivers s) : cI (lookM 2 [ci f, ci r.2] (.int .i64 0) (paidRow p s k)) = paid p s (some k) f r.1 := by
  have hbs := Held.ok_b hs
  have hz : cI (lookM 2 [ci f, ci r.2] (.int .i64 0) []) = 0 := rfl
  unfold paidRow paid
  change _ = (if counts s.known s.til k = true ∧ (dueOf p s k).payer = f then share (dueOf p s k) r.1 else 0)
  by_cases hc : counts s.known s.til k = true
  · by_cases hy : (dueOf p s k).payer = -1
    · rw [if_pos (.inr hy), hz, if_neg (by rw [hy]; omega)]
    · rw [if_neg (by simp [hc, hy])]
      rcases recv_cases hr with rfl | rfl | ⟨rfl, hd⟩
      · simp only [look_cons]
        by_cases hfp : f = (dueOf p s k).payer
        · simp [hfp, hc, share]
        · have : ¬ (dueOf p s k).payer = f := fun h => hfp h.symm
          by_cases hd : s.drv = 0
          · simp [hfp, this, hd, look_nil]
          · simp [hfp, this, hd, look_nil, look_cons]
      · simp only [look_cons]
        by_cases hfp : f = (dueOf p s k).payer
        · simp [hfp, hc, share]
        · have : ¬ (dueOf p s k).payer = f := fun h => hfp h.symm
          by_cases hd : s.drv = 0
          · simp [hfp, this, hd, look_nil]
          · simp [hfp, this, hd, look_nil, look_cons]
      · have n0 : ¬ (2 + s.drv = 0) := by omega
        have n1 : ¬ (2 + s.drv = 1) := by omega
        simp only [look_cons, if_neg hd]
        by_cases hfp : f = (dueOf p s k).payer
        · simp [hfp, hc, share, n0, n1]
        · have : ¬ (dueOf p s k).payer = f := fun h => hfp h.symm
          simp [hfp, this, look_nil]
  · have hc' : counts s.known s.til k = false := by simpa using hc
    rw [if_pos (.inl hc'), hz, if_neg (by simp [hc'])]
theorem okE_paid (p : Acc) (s : Held) (k : Int) : okEs [.int .i64, .int .i64] (.int .i64) (paidRow p s k) = true := by
  unfold paidRow; split
  · rfl
  · split <;> rfl
theorem paid_bounds {p : Acc} (hp : p.ok = true) {s : Held} (hs : s.ok = true) (k : Option Int) (hk : ∀ d, k = some d → isDay d = true) (f : Int) (r : Nat) : -100000000000 ≤ paid p s k f r ∧ paid p s k f r ≤ 100000000000 := by
  cases k with
  | none => simp [paid]
  | some k =>
    have hb := due_bounds hp hs (hk k rfl)
    simp only [paid]
    split
    · unfold share; split <;> omega
    · omega
theorem loop_acc {A : Type} {step : List CV → Option Ou} (l : List A) (g : A → List (List CV)) (c L : Nat) (hg : ∀ x ∈ l, (g x).length ≤ c) (E : Nat → Int) (k b : Nat) (es0 : List (List CV)) (h0 : es0.length ≤ L) {vs : List CV} (hv : vs = [ci (E 0), .row k es0])
    (hs : ∀ i (h : i < l.length) (es : List (List CV)), es.length ≤ L + i * c → step [ci (E i), .row k es] = some (.nx [ci (E (i + 1)), .row k (es ++ g l[i])]))
    (he : ∀ es, step [ci (E l.length), .row k es] = some (.br b [.row k es])) : loopD step vs = some (.br b [.row k (es0 ++ l.flatMap g)]) := by
  have key : ∀ n, n ≤ l.length → ((l.take n).flatMap g).length ≤ n * c := by
    intro n
    induction n with
    | zero => intro _; simp
    | succ n ih =>
      intro h
      have := hg l[n] (List.getElem_mem (by omega))
      rw [take_succ (by omega), List.flatMap_append, List.length_append]
      simp only [List.flatMap_cons, List.flatMap_nil, List.append_nil]
      have := ih (by omega)
      rw [Nat.add_mul]; omega
  refine loop_ix l.length (fun i => [ci (E i), .row k (es0 ++ (l.take i).flatMap g)]) _ (by simp [hv]) (fun i hi => ?_) ?_ (by simp)
  · rw [hs i hi _ (by rw [List.length_append]; have := key i (by omega); omega), take_succ hi, List.flatMap_append]
    simp
  · simp only [List.take_length, he]
theorem filterMap_cv {A B : Type} (h : A → Option B) (cv : B → List CV) : ∀ (l : List A), (l.filterMap h).map cv = l.flatMap fun x => ((h x).map cv).toList
  | [] => rfl
  | x :: l => by
    rw [List.filterMap_cons, List.flatMap_cons, ← filterMap_cv h cv l]
    cases h x <;> rfl
theorem flatMap_cv {A B : Type} (h : A → List B) (cv : B → List CV) (l : List A) : (l.flatMap h).map cv = l.flatMap fun x => (h x).map cv := by
  induction l with
  | nil => rfl
  | cons x l ih => simp [List.flatMap_cons, ih]
def recRow (s : Held) : List (List CV) := (receivers s).map fun r => [ci r.2]
def toOne (p : Acc) (s : Held) (was : Option Int) (day : Int) (r : Nat × Int) (f : Int) : Option Post :=
  if paid p s (some day) f r.1 - paid p s was f r.1 ≠ 0 ∧ f ≠ r.2 then some ⟨day, s.src, f, r.2, paid p s (some day) f r.1 - paid p s was f r.1⟩ else none
theorem posted_eq (p : Acc) (s : Held) (was : Option Int) (day : Int) : posted p s was day = (receivers s).flatMap fun r => (upto 2 101).filterMap (toOne p s was day r) := rfl
theorem toOne_len (p : Acc) (s : Held) (was : Option Int) (day : Int) (r : Nat × Int) (f : Int) : (((toOne p s was day r f).map Post.cv).toList).length ≤ 1 := by
  cases toOne p s was day r f <;> simp
theorem one_len (p : Acc) (s : Held) (was : Option Int) (day : Int) (r : Nat × Int) : (((upto 2 101).filterMap (toOne p s was day r)).map Post.cv).length ≤ 100 := by
  rw [List.length_map]
  exact Nat.le_trans (List.length_filterMap_le _ _) (by rw [upto_length]; decide)
theorem recv_len (s : Held) : (receivers s).length ≤ 3 := by unfold receivers; split <;> simp
theorem posted_len (p : Acc) (s : Held) (was : Option Int) (day : Int) : (posted p s was day).length ≤ 300 := by
  rw [posted_eq, List.length_flatMap]
  have h : ∀ (l : List (Nat × Int)), (l.map fun r => ((upto 2 101).filterMap (toOne p s was day r)).length).sum ≤ l.length * 100 := by
    intro l
    induction l with
    | nil => simp
    | cons r l ih =>
      have := one_len p s was day r
      rw [List.length_map] at this
      simp only [List.map_cons, List.sum_cons, List.length_cons, Nat.add_mul]; omega
  have := h (receivers s)
  have := recv_len s
  omega
theorem recX2_eq (p : Acc) (s : Held) (w : Int) (k : Int) (hp : p.ok = true) (hs : s.ok = true) (hk : isDay k = true) (hw0 : isDay w = true) (out : List (List CV)) (ho : out.length ≤ 300000) :
    recX2 (recRow s) (paidRow p s k) (paidRow p s w) k s.src out = some (.br 4 [.row 5 (out ++ (posted p s (some w) k).map Post.cv)]) := by
  unfold recX2
  rw [posted_eq, flatMap_cv]
  refine loop_acc (receivers s) (fun r => ((upto 2 101).filterMap (toOne p s (some w) k r)).map Post.cv) 100 300000 (fun r _ => one_len p s (some w) k r) (fun i => (i : Int)) 5 4 out ho rfl (fun i hi es hes => ?_) (fun es => ?_)
  · have hl3 := recv_len s
    have hr : (receivers s)[i] ∈ receivers s := List.getElem_mem hi
    generalize hrr : (receivers s)[i] = r at hr
    have hw := wr_nat (show i < 9223372036854775807 by omega)
    have hel : el (recRow s) (i : Int) = [ci r.2] := by rw [recRow, el_map hi, hrr]
    have hin : inb (i : Int) (recRow s) = true := by rw [recRow]; exact inb_map hi
    have hil : il (recRow s) = (receivers s).length := by rw [recRow]; exact il_map _ _
    have hln : (recRow s).length = (receivers s).length := by rw [recRow, List.length_map]
    have hii : (i : Int) < (receivers s).length := by omega
    simp only [gi_z, gr_s, gr_z, hil, hii, decide_true, iteB_eq, if_true, hin, hln, Int.toNat_natCast, hi, hel, chk_true, oks_cons0, ok_ci, oks_z, Bool.and_self]
    rw [filterMap_cv]
    rw [loop_acc (upto 2 101) (fun f => ((toOne p s (some w) k r f).map Post.cv).toList) 1 310000 (fun f _ => toOne_len p s (some w) k r f) (fun j => 2 + (j : Int)) 5 6 es (by omega) ?hv (fun j hj es' hes' => ?hs') (fun es' => ?he')]
    case hv => rfl
    case he' => simp [upto_length]
    case hs' =>
      have hjl : j < 100 := by rw [upto_length] at hj; simpa using hj
      have hjf : (upto 2 101)[j]'hj = 2 + j := upto_get hj
      have hw2 : wr (2 + (j : Int) + 1) = 2 + ((j + 1 : Nat) : Int) := by rw [wr_of] <;> omega
      have hf2 : (2 : Int) ≤ 2 + j := by omega
      have b1 := paid_bounds hp hs (some k) (fun d h => by cases h; exact hk) (2 + j) r.1
      have b2 := paid_bounds hp hs (some w) (fun d h => by cases h; exact hw0) (2 + j) r.1
      have hl2 := look_paid p hs w hf2 hr
      have hwn : wr (paid p s (some k) (2 + j) r.1 - paid p s (some w) (2 + j) r.1) = paid p s (some k) (2 + j) r.1 - paid p s (some w) (2 + j) r.1 := by rw [wr_of] <;> omega
      have hl1 := look_paid p hs k hf2 hr
      have hfit : fitA es'.length 1 40 = true := fitA_of (by omega) (by omega)
      rw [hjf]
      have hle : (2 : Int) + j ≤ 101 := by omega
      simp only [gi_z, gi_s, gr_z, gr_s, hle, decide_true, iteB_eq, if_true, okE_paid, okE_nil, chk_true, hl1, hl2, hwn, hw2, hfit]
      unfold toOne
      by_cases c1 : paid p s (some k) (2 + j) r.1 - paid p s (some w) (2 + j) r.1 = 0
      · simp [c1]
      · by_cases c2 : (2 : Int) + j = r.2 <;> simp [c1, c2, Post.cv]
    · simp [hw]
  · have hil : il (recRow s) = (receivers s).length := by rw [recRow]; exact il_map _ _
    simp [hil]
theorem recX1_eq (p : Acc) (s : Held)  (k : Int) (hp : p.ok = true) (hs : s.ok = true) (hk : isDay k = true)  (out : List (List CV)) (ho : out.length ≤ 300000) :
    recX1 (recRow s) (paidRow p s k)  k s.src out = some (.br 4 [.row 5 (out ++ (posted p s none k).map Post.cv)]) := by
  unfold recX1
  rw [posted_eq, flatMap_cv]
  refine loop_acc (receivers s) (fun r => ((upto 2 101).filterMap (toOne p s none k r)).map Post.cv) 100 300000 (fun r _ => one_len p s none k r) (fun i => (i : Int)) 5 4 out ho rfl (fun i hi es hes => ?_) (fun es => ?_)
  · have hl3 := recv_len s
    have hr : (receivers s)[i] ∈ receivers s := List.getElem_mem hi
    generalize hrr : (receivers s)[i] = r at hr
    have hw := wr_nat (show i < 9223372036854775807 by omega)
    have hel : el (recRow s) (i : Int) = [ci r.2] := by rw [recRow, el_map hi, hrr]
    have hin : inb (i : Int) (recRow s) = true := by rw [recRow]; exact inb_map hi
    have hil : il (recRow s) = (receivers s).length := by rw [recRow]; exact il_map _ _
    have hln : (recRow s).length = (receivers s).length := by rw [recRow, List.length_map]
    have hii : (i : Int) < (receivers s).length := by omega
    simp only [gi_z, gr_s, gr_z, hil, hii, decide_true, iteB_eq, if_true, hin, hln, Int.toNat_natCast, hi, hel, chk_true, oks_cons0, ok_ci, oks_z, Bool.and_self]
    rw [filterMap_cv]
    rw [loop_acc (upto 2 101) (fun f => ((toOne p s none k r f).map Post.cv).toList) 1 310000 (fun f _ => toOne_len p s none k r f) (fun j => 2 + (j : Int)) 5 6 es (by omega) ?hv (fun j hj es' hes' => ?hs') (fun es' => ?he')]
    case hv => rfl
    case he' => simp [upto_length]
    case hs' =>
      have hjl : j < 100 := by rw [upto_length] at hj; simpa using hj
      have hjf : (upto 2 101)[j]'hj = 2 + j := upto_get hj
      have hw2 : wr (2 + (j : Int) + 1) = 2 + ((j + 1 : Nat) : Int) := by rw [wr_of] <;> omega
      have hf2 : (2 : Int) ≤ 2 + j := by omega
      have b1 := paid_bounds hp hs (some k) (fun d h => by cases h; exact hk) (2 + j) r.1
      have hl2 : True := trivial
      have hwn : wr (paid p s (some k) (2 + j) r.1 - 0) = paid p s (some k) (2 + j) r.1 - paid p s none (2 + j) r.1 := by rw [wr_of] <;> simp only [paid] at * <;> omega
      have hl1 := look_paid p hs k hf2 hr
      have hfit : fitA es'.length 1 40 = true := fitA_of (by omega) (by omega)
      rw [hjf]
      have hle : (2 : Int) + j ≤ 101 := by omega
      simp only [gi_z, gi_s, gr_z, gr_s, hle, decide_true, iteB_eq, if_true, okE_paid, okE_nil, chk_true, hl1, hl2, hwn, hw2, hfit]
      unfold toOne
      by_cases c1 : paid p s (some k) (2 + j) r.1 - paid p s none (2 + j) r.1 = 0
      · simp [c1]
      · by_cases c2 : (2 : Int) + j = r.2 <;> simp [c1, c2, Post.cv]
    · simp [hw]
  · have hil : il (recRow s) = (receivers s).length := by rw [recRow]; exact il_map _ _
    simp [hil]
def prs (w : Option Int) (l : List Int) : List (Option Int × Int) := (w :: l.map some).zip l
theorem postsGo_eq (p : Acc) : ∀ (l : List Int) (w : Option Int), postsGo p w l = (prs w l).flatMap fun x => p.ss.flatMap fun s => posted p s x.1 x.2
  | [], w => rfl
  | d :: l, w => by
    rw [postsGo, postsGo_eq p l (some d)]
    simp only [prs, List.map_cons, List.zip_cons_cons, List.flatMap_cons]
theorem prs_len (l : List Int) : (prs none l).length = l.length := by simp [prs]
theorem prs_get (l : List Int) (i : Nat) (h : i < (prs none l).length) : (prs none l)[i].2 = l[i]'(by rw [prs_len] at h; exact h) ∧ (prs none l)[i].1 = if h0 : i = 0 then none else some (l[i - 1]'(by rw [prs_len] at h; omega)) := by
  have hl := h
  rw [prs_len] at hl
  simp only [prs, List.getElem_zip, true_and]
  cases i with
  | zero => simp
  | succ i => simp
theorem recv_seq (s : Held) (hs : s.ok = true) (K : List CV → Option Ou) : seqO (iteB (s.drv != 0) (some (.nx ([CV.row 1 ([[ci 0], [ci 1], [ci (wr (2 + s.drv))]])]))) (some (.nx ([CV.row 1 (chunk 1 2 [ci 0, ci 1])])))) K = K [.row 1 (recRow s)] := by
  have hbs := Held.ok_b hs
  have e3 : wr (2 + s.drv) = 2 + s.drv := by rw [wr_of] <;> omega
  by_cases hd : s.drv = 0
  · simp [hd, recRow, receivers]
  · simp [hd, recRow, receivers, e3]
theorem cv_days {l : List Int} (h : daysOk l = true) : (∀ d ∈ l, isDay d = true) ∧ l.length ≤ 12 := by
  simp only [daysOk, Bool.and_eq_true, List.all_eq_true, decide_eq_true_eq] at h
  exact ⟨h.1.1, h.2⟩
theorem day_len (p : Acc) (hp : p.ok = true) (x : Option Int × Int) : ((p.ss.flatMap fun s => posted p s x.1 x.2).map Post.cv).length ≤ 18000 := by
  obtain ⟨_, h60, _⟩ := p.ok_len hp
  rw [List.length_map, List.length_flatMap]
  have h : ∀ (l : List Held), (l.map fun s => (posted p s x.1 x.2).length).sum ≤ l.length * 300 := by
    intro l
    induction l with
    | nil => simp
    | cons s l ih =>
      have := posted_len p s x.1 x.2
      simp only [List.map_cons, List.sum_cons, List.length_cons, Nat.add_mul]; omega
  have := h p.ss
  omega
@[simp] theorem w_postings (n : Nat) (p : Acc) (l : List Int) (hp : p.ok = true) (hl : daysOk l = true) : D (n + 7) n_fine_postings [.row 24 (p.ts.map Tariff.cv), .row 9 (p.ss.map Held.cv), .row 7 (p.ns.map Note.cv), .row 1 (ints l)] = some [.row 5 ((postsGo p none l).map Post.cv)] := by
  rw [q_fine_postings, postX_eq]
  obtain ⟨hdays, h12⟩ := cv_days hl
  obtain ⟨_, h60, _⟩ := p.ok_len hp
  unfold postX
  rw [postsGo_eq, flatMap_cv]
  rw [loop_acc (prs none l) (fun x => (p.ss.flatMap fun s => posted p s x.1 x.2).map Post.cv) 18000 0 (fun x _ => day_len p hp x) (fun i => (i : Int)) 5 0 [] (by simp) ?hv (fun i hi es hes => ?hs) (fun es => ?he)]
  case hv => rfl
  case he => simp [prs_len, ints]
  case hs =>
    obtain ⟨g2, g1⟩ := prs_get l i hi
    have hil : i < l.length := by rw [prs_len] at hi; exact hi
    generalize hx : (prs none l)[i] = x at g1 g2
    have hd1 : isDay l[i] = true := hdays _ (List.getElem_mem hil)
    have hw := wr_nat (show i < 9223372036854775807 by omega)
    have hel : el (ints l) (i : Int) = [ci l[i]] := el_map hil
    have hin : inb (i : Int) (ints l) = true := inb_map hil
    have hill : il (ints l) = l.length := il_map _ _
    have hii : (i : Int) < l.length := by omega
    simp only [gi_z, gr_s, gr_z, hill, hii, decide_true, iteB_eq, if_true, hin, hel, chk_true, oks_cons0, ok_ci, oks_z, Bool.and_self]
    rw [flatMap_cv]
    rw [loop_acc p.ss (fun s => (posted p s x.1 x.2).map Post.cv) 300 220000 (fun s _ => by rw [List.length_map]; exact posted_len p s x.1 x.2) (fun j => (j : Int)) 5 2 es (by omega) ?hv2 (fun j hj es' hes' => ?hs2) (fun es' => ?he2)]
    case hv2 => rfl
    case he2 => simp
    case hs2 =>
      have hjs : p.ss[j].ok = true := p.ok_s hp (List.getElem_mem hj)
      generalize hsj : p.ss[j] = s at hjs
      have hw2 := wr_nat (show j < 9223372036854775807 by omega)
      have hel2 : el (p.ss.map Held.cv) (j : Int) = s.cv := by rw [el_map hj, hsj]
      have hin2 : inb (j : Int) (p.ss.map Held.cv) = true := inb_map hj
      have hjj : (j : Int) < p.ss.length := by omega
      have hok9 : oks (List.replicate 9 li) s.cv 0 = true := rfl
      have hsd : gi s.cv 5 = s.drv := rfl
      have hss : gi s.cv 0 = s.src := rfl
      simp only [gi_z, gr_s, gr_z, il_map, hjj, decide_true, if_true, hin2, hel2, hok9, chk_true, w_paidX _ _ _ _ hp hjs hd1, inlO_ret, hsd, hss]
      by_cases h0 : i = 0
      · have hx1 : x.1 = none := by rw [g1, dif_pos h0]
        have hi0 : ¬ ((i : Int) > 0) := by omega
        rw [if_neg (by simpa using hi0)]
        have hrs := recv_seq s hjs
        simp only [iteB_eq] at hrs
        rw [hrs]
        simp only [gr_z]
        rw [recX1_eq p s l[i] hp hjs hd1 es' (by omega)]
        simp only [blkO_br, gr_z, hw2, hx1, g2]
      · have hx1 : x.1 = some (l[i - 1]'(by omega)) := by rw [g1, dif_neg h0]
        have hi0 : (i : Int) > 0 := by omega
        have hm : i - 1 < l.length := by omega
        have hwp := wr_pred (show 0 < i by omega) (show i < 9223372036854775807 by omega)
        have hel3 : el (ints l) ((i - 1 : Nat) : Int) = [ci (l[i - 1]'hm)] := el_map hm
        have hin3 : inb ((i - 1 : Nat) : Int) (ints l) = true := inb_map hm
        have hd0 : isDay (l[i - 1]'hm) = true := hdays _ (List.getElem_mem hm)
        rw [if_pos (by simpa using hi0)]
        simp only [hwp, hin3, hel3, chk_true, oks_cons0, ok_ci, oks_z, Bool.and_self, gi_z, w_paidX _ _ _ _ hp hjs hd0, inlO_ret, gr_z]
        have hrs := recv_seq s hjs
        simp only [iteB_eq] at hrs
        rw [hrs]
        simp only [gr_z]
        rw [recX2_eq p s (l[i - 1]'hm) l[i] hp hjs hd1 hd0 es' (by omega)]
        simp only [blkO_br, gr_z, hw2, hx1, g2]
    · simp [hw]
  · simp
end Go.Proofs.Ytabhbdehbpmpkaa
namespace Go.Proofs.Ytabhbdehbpmpkaa
open Go Go.Sx Go.Fine
set_option maxRecDepth 10000
attribute [local simp] Bool.and_assoc Bool.or_assoc
@[simp] theorem w_areDays (n : Nat) (l : List Int) (hl : l.length < 100000000000000000) : D (n + 3) n_fine_areDays [.row 1 (ints l)] = some [cb (daysOk l)] := by
  rw [q_fine_areDays]
  unfold R_fine_areDays
  have e1 : ((l.length : Int) ≤ 12) = (l.length ≤ 12) := by apply propext; omega
  rw [loop_find l.length (fun i => [ci (i : Int)]) (bad isDay id l) (fun i => some (.ret [cb false])) (some (.br 0 [])) ?hv ?hR ?hX
    (fun i hi hp => ?h1) (fun i hi hp => ?h2) ?h3]
  case hv => rfl
  case hR => simp
  case hX => simp
  case h3 => simp [ints]
  case h1 =>
    have hw := wr_nat (show i < 9223372036854775807 by omega)
    by_cases h0 : i = 0
    · subst h0
      simp [bad, hi] at hp
      have hw1 : wr 1 = 1 := by decide
      simp [ints, hi, inb_map0, el_map0, hp, hw1]
    · have h0' : 0 < i := by omega
      have hj : i - 1 < l.length := by omega
      have hwj := wr_pred h0' (show i < 9223372036854775807 by omega)
      simp only [bad, List.getElem?_eq_getElem hi, List.getElem?_eq_getElem hj, h0', decide_true, Bool.true_and, Bool.or_eq_false_iff, Bool.not_eq_false', decide_eq_false_iff_not, id] at hp
      simp [ints, hi, hj, inb_map, el_map, hp, hw, hwj, h0']
  case h2 =>
    by_cases h0 : i = 0
    · subst h0
      simp [bad, hi] at hp
      simp [ints, hi, inb_map0, el_map0, hp]
    · have h0' : 0 < i := by omega
      have hj : i - 1 < l.length := by omega
      have hwj := wr_pred h0' (show i < 9223372036854775807 by omega)
      simp only [bad, List.getElem?_eq_getElem hi, List.getElem?_eq_getElem hj, h0', decide_true, Bool.true_and, Bool.or_eq_true, Bool.not_eq_true', decide_eq_true_eq, id] at hp
      cases hk : isDay l[i] with
      | false => simp only [isDay] at hk; simp [ints, hi, hj, inb_map, el_map, hk, isDay, hwj, h0']
      | true =>
        have hp' : l[i] ≤ l[i - 1] := by simpa [hk] using hp
        simp only [isDay] at hk
        simp [ints, hi, hj, inb_map, el_map, hk, isDay, hp', hwj, h0']
  · have hb := bad_none isDay id l
    rw [List.map_id] at hb
    have e2 : il (ints l) = l.length := il_map _ _
    rw [daysOk, ← hb, e2]
    simp only [e1]
    cases (List.range l.length).find? (bad isDay id l) <;> simp
@[simp] theorem w_Posts (n : Nat) (p : Acc) (l : List Int) (hp : p.fits) (hl : l.length < 100000000000000000) : D (n + 9) n_fine_Posts [.row 24 (p.ts.map Tariff.cv), .row 9 (p.ss.map Held.cv), .row 7 (p.ns.map Note.cv), .row 1 (ints l)] = some [.row 5 ((posts p l).1.map Post.cv), ci (posts p l).2] := by
  rw [q_fine_Posts]
  simp only [R_fine_Posts, w_Check _ _ hp, callO_val, gi_z, bne_dec, iteB_eq, check]
  cases hok : p.ok with
  | false => simp [posts, hok]
  | true =>
    cases hd : daysOk l <;> simp [posts, hok, hd, hl]
def owedOf (p : Acc) (o k : Int) : Int × Int :=
  if p.ok = false then (0, 63) else if within o 1 99 = false then (0, 1) else if isDay k = false then (0, 6)
  else ((stays p k).foldl (fun a s => if (dueOf p s k).payer = 2 + o then a + ((dueOf p s k).hay + (dueOf p s k).drv + (dueOf p s k).lord) else a) 0, 0)
@[simp] theorem w_Owed (n : Nat) (p : Acc) (o k : Int) (hp : p.fits) : D (n + 9) n_fine_Owed [.row 24 (p.ts.map Tariff.cv), .row 9 (p.ss.map Held.cv), .row 7 (p.ns.map Note.cv), ci o, ci k] = some [ci (owedOf p o k).1, ci (owedOf p o k).2] := by
  rw [q_fine_Owed]
  unfold R_fine_Owed
  rw [w_Check _ _ hp]
  simp only [callO_val, gi_z, bne_dec, iteB_eq, check]
  cases hok : p.ok with
  | false => simp [owedOf, hok]
  | true =>
    cases ho : within o 1 99 with
    | false => simp [owedOf, hok, ho]
    | true =>
      cases hk : isDay k with
      | false => simp [owedOf, hok, ho, hk]
      | true =>
        obtain ⟨_, h60, _⟩ := p.ok_len hok
        have ho' := ho
        simp only [within, Bool.and_eq_true, decide_eq_true_eq] at ho'
        have e3 : wr (2 + o) = 2 + o := by rw [wr_of] <;> omega
        have hl : (stays p k).length ≤ 60 := Nat.le_trans (filter_len _ _) h60
        have hso : ∀ s ∈ stays p k, s.ok = true := fun s hs => p.ok_s hok (stays_mem hs)
        simp only [if_true, decide_true, Bool.not_true, Bool.false_eq_true, if_false, w_within, callO_val, gb_z, ho, w_isDay, hk, w_stays _ _ _ hok, gr_z]
        obtain ⟨T, hT⟩ : ∃ T : Nat → Int, T = fun i => ((stays p k).take i).foldl (fun a s => if (dueOf p s k).payer = 2 + o then a + ((dueOf p s k).hay + (dueOf p s k).drv + (dueOf p s k).lord) else a) 0 := ⟨_, rfl⟩
        have hTs : ∀ i (h : i < (stays p k).length), T (i + 1) = if (dueOf p (stays p k)[i] k).payer = 2 + o then T i + ((dueOf p (stays p k)[i] k).hay + (dueOf p (stays p k)[i] k).drv + (dueOf p (stays p k)[i] k).lord) else T i := by
          intro i h; simp only [hT]; rw [take_succ h, List.foldl_append]; rfl
        have hTb : ∀ i, i ≤ (stays p k).length → -(i : Int) * 200000000000 ≤ T i ∧ T i ≤ (i : Int) * 200000000000 := by
          intro i
          induction i with
          | zero => intro _; simp [hT]
          | succ i ih =>
            intro h
            have h1 := ih (by omega)
            have h2 := due_bounds hok (hso _ (List.getElem_mem (by omega : i < (stays p k).length))) hk
            rw [hTs i (by omega)]
            split <;> omega
        rw [loop_ix (stays p k).length (fun i => [ci (T i), ci (i : Int)]) (some (.br 0 [ci (T (stays p k).length)])) ?hv (fun i hi => ?hs) ?he ?hr]
        case hv => simp [hT]
        case hr => simp
        case he => simp
        case hs =>
          have hw := wr_nat (show i < 9223372036854775807 by omega)
          have hsi := hso _ (List.getElem_mem hi)
          have hb := due_bounds hok hsi hk
          have hti := hTb i (by omega)
          have hts := hTs i hi
          generalize hss : (stays p k)[i] = s at *
          have e1 : wr ((dueOf p s k).hay + (dueOf p s k).drv) = (dueOf p s k).hay + (dueOf p s k).drv := by rw [wr_of] <;> omega
          have e2 : wr ((dueOf p s k).hay + (dueOf p s k).drv + (dueOf p s k).lord) = (dueOf p s k).hay + (dueOf p s k).drv + (dueOf p s k).lord := by rw [wr_of] <;> omega
          have e4 : wr (T i + ((dueOf p s k).hay + (dueOf p s k).drv + (dueOf p s k).lord)) = T i + ((dueOf p s k).hay + (dueOf p s k).drv + (dueOf p s k).lord) := by rw [wr_of] <;> omega
          rw [hts]
          by_cases hpy : (dueOf p s k).payer = 2 + o <;> simp [hi, inb_map, el_map, hss, Held.cv, hok, hsi, hk, e1, e2, e3, e4, hw, hpy]
        · simp [owedOf, hok, ho, hk, hT]
end Go.Proofs.Ytabhbdehbpmpkaa
namespace Go.Proofs.Ytabhbdehbpmpkaa
open Go Go.Sx Go.Fine
set_option maxRecDepth 100000
attribute [local simp] Bool.and_assoc Bool.or_assoc
def exT : Tariff := ⟨0, 0, 12, 0, 0, 0, 0, 0, 0, 0, 0, 0, 4, 0, 0, 0, 0, 0, 0, 0, 0, 5, 20, 10⟩
def exH : Held := ⟨1, 7, 1, 20, 500, 9, 10, 10, 0⟩
def exA : Acc := ⟨[exT], [exH], [⟨2, 1, 1, 3, 13, 14, 0⟩, ⟨3, 1, 2, 0, 15, 15, 0⟩]⟩
def exZ : Acc := ⟨[exT], [exH], []⟩
def exN : Note := ⟨4, 1, 3, 6, 18, 18, 0⟩
def exM : Acc := ⟨[exT], [exH], [⟨2, 1, 1, 3, 13, 14, 0⟩, ⟨3, 1, 2, 0, 15, 15, 0⟩, exN]⟩
theorem ex_fits : exA.fits := ⟨by decide, by decide, by decide⟩
theorem exZ_fits : exZ.fits := ⟨by decide, by decide, by decide⟩
theorem exM_fits : exM.fits := ⟨by decide, by decide, by decide⟩
theorem ex1 : lotOf exA 1 14 = (⟨3, 13, 0, -1⟩, 0) := by kernel_rfl
theorem ex2 : chargedOf exA 1 13 = (⟨12, 40, 16⟩, 0) := by kernel_rfl
theorem ex3 : lotOf exA 1 20 = (⟨3, 13, 1, 15⟩, 0) := by kernel_rfl
theorem ex4 : duesOf exA 1 20 = (⟨5, 24, 12, 38⟩, 0) := by kernel_rfl
theorem ex9 : lotOf exZ 1 100 = (⟨0, -1, 2, 59⟩, 0) := by kernel_rfl
theorem ex8 : owedOf exA 3 20 = (74, 0) := by kernel_rfl
theorem ex6 : noted exA exN = (exM, 0) := by kernel_rfl
theorem ex5 : posts exA [13, 14, 20] = ([⟨14, 1, 5, 0, 38⟩, ⟨14, 1, 5, 1, 24⟩, ⟨14, 1, 5, 11, 12⟩], 0) := by kernel_rfl
theorem ex7 : (posts exM [15, 18]).2 = 0 ∧ (posts exM [15, 18]).1.length = 9 ∧ (posts exM [15, 18]).1[3]? = some ⟨18, 1, 5, 0, -38⟩ := ⟨by kernel_rfl, by kernel_rfl, by kernel_rfl⟩
theorem evF_args {P : Program} {sg : FuncId → Option Sig} {M : Den} {fe : FE} {c : Code} {vs vs' : List CV} (h : Sc.avs fe.g.ps vs 0 = Sc.avs fe.g.ps vs' 0) : evF P sg M fe c vs = evF P sg M fe c vs' := by unfold evF; rw [h]
theorem lot_nil (n : Nat) (a b : List (List CV)) (y k : Int) : D (n + 1) n_fine_Lot [.row 24 a, .row 9 b, .val (.slice none 0 0), ci y, ci k] = D (n + 1) n_fine_Lot [.row 24 a, .row 9 b, .row 7 [], ci y, ci k] :=
  evF_args (P := Try.prog) (sg := sg) (M := D n) (fe := fe26) (c := bodyOf Try.f26) rfl
theorem w_example (n : Nat) : D (n + 1) n_law06_example [] = some [.row 24 (exA.ts.map Tariff.cv), .row 9 (exA.ss.map Held.cv), .row 7 (exA.ns.map Note.cv)] := by rw [q_law06_example]; rfl
theorem w_sane (n : Nat) : D (n + 12) n_law06_sane [] = some [cb true] := by
  rw [q_law06_sane]
  have h0 : D (n + 11) n_law06_example [] = some [.row 24 (exA.ts.map Tariff.cv), .row 9 (exA.ss.map Held.cv), .row 7 (exA.ns.map Note.cv)] := w_example _
  have h1 := w_Lot n exA 1 14 ex_fits
  have h2 := w_Charged n exA 1 13 ex_fits
  have h3 := w_Lot n exA 1 20 ex_fits
  have h4 := w_Dues n exA 1 20 ex_fits
  have h5 := w_Posts (n + 2) exA [13, 14, 20] ex_fits (by decide)
  have h6 := w_Noted (n + 2) exA exN ex_fits
  have h7 := w_Posts (n + 2) exM [15, 18] exM_fits (by decide)
  have h8 := w_Owed (n + 2) exA 3 20 ex_fits
  have h9 := w_Lot n exZ 1 100 exZ_fits
  have h10 := w_Same (n + 10) (posts exA [13, 14, 20]).1 (posts exA [13, 14, 20]).1 (by rw [ex5]; decide)
  rw [ex1] at h1
  rw [ex2] at h2
  rw [ex3] at h3
  rw [ex4] at h4
  rw [ex5] at h5 h10
  rw [ex6] at h6
  rw [ex8] at h8
  rw [ex9] at h9
  rw [sameL_refl _ eqP_refl] at h10
  obtain ⟨g1, g2, g3⟩ := ex7
  rw [g1] at h7
  have h9' : D (n + 11) n_fine_Lot [.row 24 (exA.ts.map Tariff.cv), .row 9 (exA.ss.map Held.cv), .val (.slice none 0 0), ci 1, ci 100] = _ := (lot_nil (n + 10) _ _ _ _).trans h9
  have e3 : 3 < (posts exM [15, 18]).1.length := by rw [g2]; decide
  have e4 : (posts exM [15, 18]).1[3] = ⟨18, 1, 5, 0, -38⟩ := by
    have := List.getElem?_eq_getElem e3
    rw [g3] at this
    exact (Option.some.inj this).symm
  generalize hm : (posts exM [15, 18]).1 = m at *
  simp only [ints, List.map_cons, List.map_nil] at h5 h7
  simp only [exN] at h6
  have c5 : chunk 5 3 [ci 14, ci 1, ci 5, ci 0, ci 38, ci 14, ci 1, ci 5, ci 1, ci 24, ci 14, ci 1, ci 5, ci 11, ci 12] = List.map Post.cv [⟨14, 1, 5, 0, 38⟩, ⟨14, 1, 5, 1, 24⟩, ⟨14, 1, 5, 11, 12⟩] := rfl
  have c3 : chunk 1 3 [ci 13, ci 14, ci 20] = [[ci 13], [ci 14], [ci 20]] := rfl
  have c2 : chunk 1 2 [ci 15, ci 18] = [[ci 15], [ci 18]] := rfl
  have hm3 : el (m.map Post.cv) 3 = Post.cv ⟨18, 1, 5, 0, -38⟩ := by
    rw [show (3 : Int) = ((3 : Nat) : Int) from rfl, el_map e3, e4]
  have hg3 : List.getD (m.map Post.cv) 3 [] = Post.cv ⟨18, 1, 5, 0, -38⟩ := by simp [e3, e4]
  have hi3 : inb 3 (m.map Post.cv) = true := by
    rw [show (3 : Int) = ((3 : Nat) : Int) from rfl]; exact inb_map e3
  unfold R_law06_sane
  simp only [h0, callO_val, gr_z, gr_s, h1, h2, h3, h4, c3, h5, h6, c2, h7, h8, h9', c5, h10]
  have h11 : D (n + 11) n_r06_Same [CV.row 5 [[ci 14, ci 1, ci 5, ci 0, ci 38], [ci 14, ci 1, ci 5, ci 1, ci 24], [ci 14, ci 1, ci 5, ci 11, ci 12]], CV.row 5 [[ci 14, ci 1, ci 5, ci 0, ci 38], [ci 14, ci 1, ci 5, ci 1, ci 24], [ci 14, ci 1, ci 5, ci 11, ci 12]]] = some [cb true] := h10
  simp [g2, hi3, hm3, hg3, Post.cv, h11, e4]
end Go.Proofs.Ytabhbdehbpmpkaa
namespace Go.Proofs.Ytabhbdehbpmpkaa
open Go Go.Sx Go.Fine
set_option maxRecDepth 100000
theorem shp_slice_int {n : Nat} {c : List CV} (h : Shp Try.prog (n + 2) 73 c) : ∃ l : List Int, l.length < 100000000000000 ∧ c = [.row 1 (ints l)] := by
  have c3 : Try.prog.cellsOf 3 = 1 := by kernel_rfl
  have b3 : Try.prog.bytesOf 3 = 8 := by kernel_rfl
  rw [Shp] at h
  simp only [Try.underlying73, c3, b3] at h
  obtain ⟨e1, rfl, r1, s1⟩ := h
  obtain ⟨l1, rfl⟩ := rows_cv (cv := fun x : Int => [ci x]) fun x hx => by
    obtain ⟨m, rfl, _⟩ := shp_int (r1 x hx)
    exact ⟨m, rfl⟩
  simp only [List.length_map] at s1
  exact ⟨l1, reach_len s1 (by decide), rfl⟩
theorem shp_r6 {n : Nat} {c : List CV} (h : Shp Try.prog (n + 2) 115 c) : ∃ t : R6, c = t.cv := by
  simp only [Shp, Try.underlying115] at h
  obtain ⟨l, hl, rfl⟩ := shp_ints h
  match l, hl with
  | [a0, a1, a2, a3, a4, a5], _ => exact ⟨⟨a0, a1, a2, a3, a4, a5⟩, rfl⟩
theorem shp_r7 {n : Nat} {c : List CV} (h : Shp Try.prog (n + 2) 116 c) : ∃ t : R7, c = t.cv := by
  simp only [Shp, Try.underlying116] at h
  obtain ⟨l, hl, rfl⟩ := shp_ints h
  match l, hl with
  | [a0, a1, a2, a3, a4, a5, a6], _ => exact ⟨⟨a0, a1, a2, a3, a4, a5, a6⟩, rfl⟩
theorem shp_raw {n : Nat} {c : List CV} (h : Shp Try.prog (n + 4) 50 c) : ∃ r : Raw, r.fits ∧ c = [.row 6 (r.ts.map R6.cv), .row 7 (r.ss.map R7.cv), .row 6 (r.ns.map R6.cv)] := by
  have c6 : Try.prog.cellsOf 115 = 6 := by kernel_rfl
  have c7 : Try.prog.cellsOf 116 = 7 := by kernel_rfl
  have b6 : Try.prog.bytesOf 115 = 48 := by kernel_rfl
  have b7 : Try.prog.bytesOf 116 = 56 := by kernel_rfl
  rw [Shp] at h
  simp only [Try.underlying50, List.map_cons, List.map_nil, ShpL] at h
  obtain ⟨_, _, rfl, h1, _, _, rfl, h2, _, _, rfl, h3, rfl⟩ := h
  rw [Shp] at h1 h2 h3
  simp only [Try.underlying47, c6, b6] at h1 h3
  simp only [Try.underlying48, c7, b7] at h2
  obtain ⟨e1, rfl, r1, s1⟩ := h1
  obtain ⟨e2, rfl, r2, s2⟩ := h2
  obtain ⟨e3, rfl, r3, s3⟩ := h3
  obtain ⟨l1, rfl⟩ := rows_cv fun x hx => shp_r6 (r1 x hx)
  obtain ⟨l2, rfl⟩ := rows_cv fun x hx => shp_r7 (r2 x hx)
  obtain ⟨l3, rfl⟩ := rows_cv fun x hx => shp_r6 (r3 x hx)
  simp only [List.length_map] at s1 s2 s3
  exact ⟨⟨l1, l2, l3⟩, ⟨reach_len s1 (by decide), reach_len s2 (by decide), reach_len s3 (by decide)⟩, rfl⟩
end Go.Proofs.Ytabhbdehbpmpkaa
namespace Go.Proofs.Ytabhbdehbpmpkaa
open Go Go.Sx Go.Fine
set_option maxRecDepth 10000
attribute [local simp] Bool.and_assoc Bool.or_assoc
@[simp] theorem w_Mod (n : Nat) (a m : Int) (h0 : 0 < m) (h1 : m < 4000000000000000000) : D (n + 1) n_r06_Mod [ci a, ci m] = some [ci (a % m)] := by
  rw [q_r06_Mod]
  have hne : ¬ m = 0 := by omega
  simp only [R_r06_Mod, bne_dec, hne, decide_false, Bool.not_false, chk_true, retO_ret, mod_eq h0 h1]
theorem frmAt_b (l : List R6) : 0 ≤ frmAt l ∧ frmAt l ≤ 60 * l.length := by
  have key : ∀ (l : List R6) (f : Int), 0 ≤ f → f ≤ l.foldl (fun f n => f + 1 + n.a5 % 60) f ∧ l.foldl (fun f n => f + 1 + n.a5 % 60) f ≤ f + 60 * l.length := by
    intro l
    induction l with
    | nil => intro f _; simp
    | cons a l ih =>
      intro f hf
      have := ih (f + 1 + a.a5 % 60) (by omega)
      simp only [List.foldl_cons, List.length_cons]; omega
  have := key l 0 (by omega)
  unfold frmAt; omega
theorem frmAt_app (l : List R6) (n : R6) : frmAt (l ++ [n]) = frmAt l + 1 + n.a5 % 60 := by simp [frmAt, List.foldl_append]
def rowT (s f h1 h2 h3 d1 d2 d3 n0 n1 n2 : Int) : List CV := [ci s, ci f, ci 0, ci h1, ci h2, ci h3, ci 0, ci 0, ci 0, ci 0, ci 0, ci 0, ci 0, ci d1, ci d2, ci d3, ci 0, ci 0, ci 0, ci 0, ci 0, ci 0, ci n0, ci n1, ci n2]
theorem take_min {A : Type} (l : List A) (m : Nat) : l.take (min l.length m) = l.take m := by
  by_cases h : l.length ≤ m
  · rw [Nat.min_eq_left h, List.take_length, List.take_of_length_le h]
  · rw [Nat.min_eq_right (by omega)]
theorem take_idx {A B : Type} (f : Nat → A → B) {l : List A} {i : Nat} (h : i < l.length) : (l.take (i + 1)).mapIdx f = (l.take i).mapIdx f ++ [f i l[i]] := by
  rw [take_succ h, List.mapIdx_concat]
  simp [List.length_take, Nat.min_eq_left (Nat.le_of_lt h)]
@[simp] theorem w_Made (n : Nat) (r : Raw) (hr : r.fits) : D (n + 2) n_r06_Made [.row 6 (r.ts.map R6.cv), .row 7 (r.ss.map R7.cv), .row 6 (r.ns.map R6.cv)] = some [.row 24 ((made r).ts.map Tariff.cv), .row 9 ((made r).ss.map Held.cv), .row 7 ((made r).ns.map Note.cv)] := by
  rw [q_r06_Made]
  unfold R_r06_Made
  obtain ⟨f1, f2, f3⟩ := hr
  rw [loop_ix (min r.ts.length 3) (fun i => [ci (frmAt (r.ts.take i)), ci (i : Int), .row 9 [], .row 7 [], .row 24 ((madeTs 0 (r.ts.take i)).map Tariff.cv)]) (some (.br 0 [.row 9 [], .row 7 [], .row 24 ((made r).ts.map Tariff.cv)])) ?hv (fun i hi => ?hs) ?he (by simp)]
  case hv => rfl
  case he =>
    have e : r.ts.take (min r.ts.length 3) = r.ts.take 3 := take_min _ _
    have e2 : ¬ (((min r.ts.length 3 : Nat) : Int) < il (r.ts.map R6.cv)) ∨ ¬ (((min r.ts.length 3 : Nat) : Int) < 3) := by
      rw [il_map]; omega
    simp only [gi_z, gi_s, gr_z, gr_s, seq_and, gb_z]
    rcases e2 with e2 | e2 <;> simp only [e2, decide_false, Bool.false_and, Bool.and_false, e, iteB_eq, Bool.false_eq_true, if_false, made]
  case hs =>
    have hi1 : i < r.ts.length := by omega
    have hi2 : i < 3 := by omega
    have hw := wr_nat (show i < 9223372036854775807 by omega)
    have hel : el (r.ts.map R6.cv) (i : Int) = R6.cv r.ts[i] := el_map hi1
    have hin : inb (i : Int) (r.ts.map R6.cv) = true := inb_map hi1
    have hb := frmAt_b (r.ts.take i)
    have hbl : (r.ts.take i).length ≤ 3 := by simp; omega
    have hfa := frmAt_app (r.ts.take i) r.ts[i]
    have hma := madeTs_app (r.ts.take i) r.ts[i] 0
    rw [← take_succ hi1] at hfa hma
    have hml := madeTs_len (r.ts.take i) 0
    have hii1 : (i : Int) < r.ts.length := by omega
    have hii2 : (i : Int) < 3 := by omega
    have hfit : fitA ((madeTs 0 (r.ts.take i)).map Tariff.cv).length 1 192 = true := fitA_of (by rw [List.length_map]; omega) (by rw [List.length_map]; omega)
    have hmf : (r.ts.take i).foldl (fun f n => f + 1 + n.a5 % 60) 0 = frmAt (r.ts.take i) := rfl
    rw [hmf] at hma
    rw [hma, hfa]
    generalize frmAt (r.ts.take i) = f at *
    generalize r.ts[i] = x at *
    have hok : oks (List.replicate 6 li) (R6.cv x) 0 = true := rfl
    have g0 : gi (R6.cv x) 0 = x.a0 := rfl
    have g1 : gi (R6.cv x) 1 = x.a1 := rfl
    have g2 : gi (R6.cv x) 2 = x.a2 := rfl
    have g3 : gi (R6.cv x) 3 = x.a3 := rfl
    have g4 : gi (R6.cv x) 4 = x.a4 := rfl
    have g5 : gi (R6.cv x) 5 = x.a5 := rfl
    have m := fun a m (h0 : 0 < m) (h1 : m < 4000000000000000000) => w_Mod n a m h0 h1
    have m12 := fun a => m a 12 (by omega) (by omega)
    have m31 := fun a => m a 31 (by omega) (by omega)
    have m30 := fun a => m a 30 (by omega) (by omega)
    have m60 := fun a => m a 60 (by omega) (by omega)
    have m40 := fun a => m a 40 (by omega) (by omega)
    have m9 := fun a => m a 9 (by omega) (by omega)
    have wf : wr (wr (f + 1) + x.a5 % 60) = f + 1 + x.a5 % 60 := by rw [wr_of (x := f + 1) (by omega) (by omega), wr_of] <;> omega
    simp only [gi_z, gi_s, gr_z, gr_s, seq_and, gb_z]
    simp only [gi_z, gi_s, gr_z, gr_s, gb_z, il_map, hii1, hii2, decide_true, Bool.and_self, iteB_eq, if_true, hin, hel, hok, chk_true, g0, g1, g2, g3, g4, g5, m12, m31, m30, m60, callO_val]
    rw [loop_ix 3 (fun j => rowT (1 + (j : Int)) f (if 1 ≤ j then wr (x.a3 + 1) % 40 else 0) (if 2 ≤ j then wr (x.a3 + 2) % 40 else 0) (if 3 ≤ j then wr (x.a3 + 3) % 40 else 0) (if 1 ≤ j then wr (x.a4 * 1) % 9 else 0) (if 2 ≤ j then wr (x.a4 * 2) % 9 else 0) (if 3 ≤ j then wr (x.a4 * 3) % 9 else 0) (x.a0 % 12) (x.a1 % 31) (x.a2 % 30)) (some (.br 2 (madeT f x).cv)) ?hv2 (fun j hj => ?hs2) ?he2 (by simp)]
    case hv2 => rfl
    case he2 => simp [rowT, madeT, Tariff.cv]
    case hs2 =>
      have w2 : wr 2 = 2 := by decide
      have w3 : wr 3 = 3 := by decide
      have w4 : wr 4 = 4 := by decide
      rcases (by omega : j = 0 ∨ j = 1 ∨ j = 2) with rfl | rfl | rfl
      · simp [rowT, m40, m9, w2]
      · simp [rowT, m40, m9, w3]
      · simp [rowT, m40, m9, w4]
    · have hc : chunk 24 1 (cis (madeT f x).cv 0 24) = [(madeT f x).cv] := rfl
      simp only [blkO_br, hfit, chk_true, m60, callO_val, gi_z, wf, hw, hc, List.map_append, List.map_cons, List.map_nil]
  simp only [blkO_br, gr_z, gr_s]
  rw [loop_ix (min r.ss.length 4) (fun i => [ci (i : Int), .row 9 (((r.ss.take i).mapIdx madeH).map Held.cv), .row 7 [], .row 24 ((made r).ts.map Tariff.cv)]) (some (.br 4 [.row 9 ((made r).ss.map Held.cv), .row 7 [], .row 24 ((made r).ts.map Tariff.cv)])) ?hv (fun i hi => ?hs) ?he (by simp)]
  case hv => rfl
  case he =>
    have e : r.ss.take (min r.ss.length 4) = r.ss.take 4 := take_min _ _
    have e2 : ¬ (((min r.ss.length 4 : Nat) : Int) < il (r.ss.map R7.cv)) ∨ ¬ (((min r.ss.length 4 : Nat) : Int) < 4) := by
      rw [il_map]; omega
    simp only [gi_z, gi_s, gr_z, gr_s, seq_and, gb_z]
    rcases e2 with e2 | e2 <;> simp only [e2, decide_false, Bool.false_and, Bool.and_false, e, iteB_eq, Bool.false_eq_true, if_false, made]
  case hs =>
    have hi1 : i < r.ss.length := by omega
    have hi2 : i < 4 := by omega
    have hw := wr_nat (show i < 9223372036854775807 by omega)
    have hel : el (r.ss.map R7.cv) (i : Int) = R7.cv r.ss[i] := el_map hi1
    have hin : inb (i : Int) (r.ss.map R7.cv) = true := inb_map hi1
    have hii1 : (i : Int) < r.ss.length := by omega
    have hii2 : (i : Int) < 4 := by omega
    have hfit : fitA (((r.ss.take i).mapIdx madeH).map Held.cv).length 1 72 = true := fitA_of (by simp; omega) (by simp; omega)
    rw [take_idx madeH hi1]
    generalize r.ss[i] = x at *
    have hok : oks (List.replicate 7 li) (R7.cv x) 0 = true := rfl
    have g0 : gi (R7.cv x) 0 = x.a0 := rfl
    have g1 : gi (R7.cv x) 1 = x.a1 := rfl
    have g2 : gi (R7.cv x) 2 = x.a2 := rfl
    have g3 : gi (R7.cv x) 3 = x.a3 := rfl
    have g4 : gi (R7.cv x) 4 = x.a4 := rfl
    have g5 : gi (R7.cv x) 5 = x.a5 := rfl
    have g6 : gi (R7.cv x) 6 = x.a6 := rfl
    have m := fun a m (h0 : 0 < m) (h1 : m < 4000000000000000000) => w_Mod n a m h0 h1
    have m5 := fun a => m a 5 (by omega) (by omega)
    have m3 := fun a => m a 3 (by omega) (by omega)
    have m40 := fun a => m a 40 (by omega) (by omega)
    have m900 := fun a => m a 900 (by omega) (by omega)
    have m6 := fun a => m a 6 (by omega) (by omega)
    have m60 := fun a => m a 60 (by omega) (by omega)
    have m300 := fun a => m a 300 (by omega) (by omega)
    have w1 : wr (10 + (i : Int)) = 10 + i := by rw [wr_of] <;> omega
    have w2 : wr (1 + x.a0 % 5) = 1 + x.a0 % 5 := by rw [wr_of] <;> omega
    have w3 : wr (1 + x.a0 % 3) = 1 + x.a0 % 3 := by rw [wr_of] <;> omega
    have w4 : wr (wr (x.a5 % 60 + 1) + x.a6 % 300) = x.a5 % 60 + 1 + x.a6 % 300 := by rw [wr_of (x := x.a5 % 60 + 1) (by omega) (by omega), wr_of] <;> omega
    simp only [gi_z, gi_s, gr_z, gr_s, seq_and, gb_z]
    simp only [gi_z, gi_s, gr_z, gr_s, gb_z, il_map, hii1, hii2, decide_true, Bool.and_self, iteB_eq, if_true, hin, hel, hok, chk_true, g0, g1, g2, g3, g4, g5, g6, m5, m3, m40, m900, m6, m60, m300, callO_val, w1, w2, w3, w4, hw, hfit]
    by_cases h6 : x.a6 % 6 = 0
    · simp [h6, madeH, Held.cv]
    · simp [h6, madeH, Held.cv]
  simp only [blkO_br, gr_z, gr_s]
  rw [loop_ix (min r.ns.length 8) (fun i => [ci (i : Int), .row 9 ((made r).ss.map Held.cv), .row 7 (((r.ns.take i).mapIdx madeN).map Note.cv), .row 24 ((made r).ts.map Tariff.cv)]) (some (.br 6 [.row 9 ((made r).ss.map Held.cv), .row 7 ((made r).ns.map Note.cv), .row 24 ((made r).ts.map Tariff.cv)])) ?hv (fun i hi => ?hs) ?he (by simp)]
  case hv => rfl
  case he =>
    have e : r.ns.take (min r.ns.length 8) = r.ns.take 8 := take_min _ _
    have e2 : ¬ (((min r.ns.length 8 : Nat) : Int) < il (r.ns.map R6.cv)) ∨ ¬ (((min r.ns.length 8 : Nat) : Int) < 8) := by
      rw [il_map]; omega
    simp only [gi_z, gi_s, gr_z, gr_s, seq_and, gb_z]
    rcases e2 with e2 | e2 <;> simp only [e2, decide_false, Bool.false_and, Bool.and_false, e, iteB_eq, Bool.false_eq_true, if_false, made]
  case hs =>
    have hi1 : i < r.ns.length := by omega
    have hi2 : i < 8 := by omega
    have hw := wr_nat (show i < 9223372036854775807 by omega)
    have hel : el (r.ns.map R6.cv) (i : Int) = R6.cv r.ns[i] := el_map hi1
    have hin : inb (i : Int) (r.ns.map R6.cv) = true := inb_map hi1
    have hii1 : (i : Int) < r.ns.length := by omega
    have hii2 : (i : Int) < 8 := by omega
    have hfit : fitA (((r.ns.take i).mapIdx madeN).map Note.cv).length 1 56 = true := fitA_of (by simp; omega) (by simp; omega)
    rw [take_idx madeN hi1]
    generalize r.ns[i] = x at *
    have hok : oks (List.replicate 6 li) (R6.cv x) 0 = true := rfl
    have g0 : gi (R6.cv x) 0 = x.a0 := rfl
    have g1 : gi (R6.cv x) 1 = x.a1 := rfl
    have g2 : gi (R6.cv x) 2 = x.a2 := rfl
    have g3 : gi (R6.cv x) 3 = x.a3 := rfl
    have g4 : gi (R6.cv x) 4 = x.a4 := rfl
    have g5 : gi (R6.cv x) 5 = x.a5 := rfl
    have m := fun a m (h0 : 0 < m) (h1 : m < 4000000000000000000) => w_Mod n a m h0 h1
    have m4 := fun a => m a 4 (by omega) (by omega)
    have m3 := fun a => m a 3 (by omega) (by omega)
    have m450 := fun a => m a 450 (by omega) (by omega)
    have m500 := fun a => m a 500 (by omega) (by omega)
    have m5 := fun a => m a 5 (by omega) (by omega)
    have m200 := fun a => m a 200 (by omega) (by omega)
    have w1 : wr (20 + (i : Int)) = 20 + i := by rw [wr_of] <;> omega
    have w2 : wr (10 + x.a0 % 4) = 10 + x.a0 % 4 := by rw [wr_of] <;> omega
    have w3 : wr (1 + x.a1 % 3) = 1 + x.a1 % 3 := by rw [wr_of] <;> omega
    have w4 : wr (1 + x.a4 % 5) = 1 + x.a4 % 5 := by rw [wr_of] <;> omega
    have w5 : wr (wr (x.a3 % 500 + 1) + x.a5 % 200) = x.a3 % 500 + 1 + x.a5 % 200 := by rw [wr_of (x := x.a3 % 500 + 1) (by omega) (by omega), wr_of] <;> omega
    simp only [gi_z, gi_s, gr_z, gr_s, seq_and, gb_z]
    simp only [gi_z, gi_s, gr_z, gr_s, gb_z, il_map, hii1, hii2, decide_true, Bool.and_self, iteB_eq, if_true, hin, hel, hok, chk_true, g0, g1, g2, g3, g4, g5, m4, m3, m450, m500, m5, m200, callO_val, w1, w2, w3, w4, hw, hfit]
    by_cases h2 : 1 + x.a1 % 3 = 2 <;> by_cases h5 : x.a5 % 5 = 0 <;> simp [h2, h5, madeN, Note.cv, w5]
  simp
def daysOf : Int → List Int → List Int
  | _, [] => []
  | d, x :: l => (d + 1 + x % 200) :: daysOf (d + 1 + x % 200) l
def dayAt (l : List Int) : Int := l.foldl (fun d x => d + 1 + x % 200) 0
theorem daysOf_app (l : List Int) (x : Int) : ∀ (d : Int), daysOf d (l ++ [x]) = daysOf d l ++ [l.foldl (fun d x => d + 1 + x % 200) d + 1 + x % 200] := by
  induction l with
  | nil => intro d; rfl
  | cons a l ih => intro d; simp only [List.cons_append, daysOf, ih, List.foldl_cons]
theorem daysOf_len (l : List Int) : ∀ (d : Int), (daysOf d l).length = l.length := by
  induction l with
  | nil => intro d; rfl
  | cons a l ih => intro d; simp [daysOf, ih]
theorem dayAt_b (l : List Int) : 0 ≤ dayAt l ∧ dayAt l ≤ 200 * l.length := by
  have key : ∀ (l : List Int) (f : Int), 0 ≤ f → f ≤ l.foldl (fun d x => d + 1 + x % 200) f ∧ l.foldl (fun d x => d + 1 + x % 200) f ≤ f + 200 * l.length := by
    intro l
    induction l with
    | nil => intro f _; simp
    | cons a l ih =>
      intro f hf
      have := ih (f + 1 + a % 200) (by omega)
      simp only [List.foldl_cons, List.length_cons]; omega
  have := key l 0 (by omega)
  unfold dayAt; omega
theorem daysOf_ok : ∀ (l : List Int) (d : Int), 0 ≤ d → d + 200 * l.length ≤ 100000 → (daysOf d l).all isDay = true ∧ rising (daysOf d l) = true
  | [], d, _, _ => by simp [daysOf, rising]
  | x :: l, d, h0, h1 => by
    simp only [List.length_cons] at h1
    obtain ⟨i1, i2⟩ := daysOf_ok l (d + 1 + x % 200) (by omega) (by omega)
    have hd : isDay (d + 1 + x % 200) = true := by simp only [isDay, within, Bool.and_eq_true, decide_eq_true_eq]; omega
    refine ⟨by simp only [daysOf, List.all_cons, i1, hd, Bool.and_self], ?_⟩
    simp only [daysOf, rising, i2, Bool.and_true]
    cases l with
    | nil => rfl
    | cons m l => simp [daysOf]; omega
def rawDays (l : List Int) : List Int := daysOf 0 (l.take 6)
theorem rawDays_ok (l : List Int) : daysOk (rawDays l) = true := by
  have hl : (l.take 6).length ≤ 6 := by simp; omega
  have := daysOf_ok (l.take 6) 0 (by omega) (by omega)
  have h12 : (rawDays l).length ≤ 12 := by unfold rawDays; rw [daysOf_len]; omega
  unfold daysOk
  unfold rawDays at *
  simp only [this.1, this.2, h12, decide_true, Bool.and_self]
@[simp] theorem w_rawDays (n : Nat) (l : List Int) (hl : l.length < 100000000000000000) : D (n + 2) n_law06_days [.row 1 (ints l)] = some [.row 1 (ints (rawDays l))] := by
  rw [q_law06_days]
  unfold R_law06_days
  rw [loop_ix (min l.length 6) (fun i => [ci (dayAt (l.take i)), ci (i : Int), .row 1 (ints (daysOf 0 (l.take i)))]) (some (.br 0 [.row 1 (ints (rawDays l))])) ?hv (fun i hi => ?hs) ?he (by simp)]
  case hv => rfl
  case he =>
    have e : l.take (min l.length 6) = l.take 6 := take_min _ _
    have e2 : ¬ (((min l.length 6 : Nat) : Int) < il (ints l)) ∨ ¬ (((min l.length 6 : Nat) : Int) < 6) := by
      rw [show il (ints l) = l.length from il_map _ _]; omega
    simp only [gi_z, gi_s, gr_z, gr_s, seq_and, gb_z]
    rcases e2 with e2 | e2 <;> simp only [e2, decide_false, Bool.false_and, Bool.and_false, e, iteB_eq, Bool.false_eq_true, if_false, made, rawDays]
  case hs =>
    have hi1 : i < l.length := by omega
    have hi2 : i < 6 := by omega
    have hw := wr_nat (show i < 9223372036854775807 by omega)
    have hel : el (ints l) (i : Int) = [ci l[i]] := el_map hi1
    have hin : inb (i : Int) (ints l) = true := inb_map hi1
    have hii1 : (i : Int) < l.length := by omega
    have hii2 : (i : Int) < 6 := by omega
    have hill : il (ints l) = l.length := il_map _ _
    have hb := dayAt_b (l.take i)
    have hbl : (l.take i).length ≤ 6 := by simp; omega
    have hda : dayAt (l.take i ++ [l[i]]) = dayAt (l.take i) + 1 + l[i] % 200 := by unfold dayAt; rw [List.foldl_append]; rfl
    have hdo := daysOf_app (l.take i) l[i] 0
    have hml := daysOf_len (l.take i) 0
    have hfit : fitA (ints (daysOf 0 (l.take i))).length 1 8 = true := fitA_of (by simp only [ints, List.length_map]; omega) (by simp only [ints, List.length_map]; omega)
    have hmf : (l.take i).foldl (fun d x => d + 1 + x % 200) 0 = dayAt (l.take i) := rfl
    rw [hmf] at hdo
    rw [take_succ hi1, hdo, hda]
    generalize dayAt (l.take i) = d at *
    generalize l[i] = x at *
    have m200 := w_Mod n x 200 (by omega) (by omega)
    have wf : wr (wr (d + 1) + x % 200) = d + 1 + x % 200 := by rw [wr_of (x := d + 1) (by omega) (by omega), wr_of] <;> omega
    have hc : chunk 1 1 [ci (d + 1 + x % 200)] = ints [d + 1 + x % 200] := rfl
    simp only [gi_z, gi_s, gr_z, gr_s, seq_and, gb_z]
    simp only [gi_z, gi_s, gr_z, gr_s, gb_z, hill, hii1, hii2, decide_true, Bool.and_self, iteB_eq, if_true, hin, hel, chk_true, oks_cons0, ok_ci, oks_z, m200, callO_val, hfit, wf, hw, hc, ints_app]
  · simp
end Go.Proofs.Ytabhbdehbpmpkaa
namespace Go.Proofs.Ytabhbdehbpmpkaa
open Go Go.Sx Go.Fine
set_option maxRecDepth 10000
attribute [local simp] Bool.and_assoc Bool.or_assoc
end Go.Proofs.Ytabhbdehbpmpkaa
namespace Go.Proofs.Ytabhbdehbpmpkaa
open Go Go.Sx Go.Fine
set_option maxRecDepth 10000
attribute [local simp] Bool.and_assoc Bool.or_assoc
end Go.Proofs.Ytabhbdehbpmpkaa
namespace Go.Proofs.Ytabhbdehbpmpkaa
open Go Go.Sx Go.Fine
set_option maxRecDepth 10000
attribute [local simp] Bool.and_assoc Bool.or_assoc
theorem posts_len (p : Acc) (l : List Int) : (posts p l).1.length ≤ 216000 := by
  unfold posts
  split
  · rename_i hp
    split
    · rename_i hl
      obtain ⟨_, h12⟩ := cv_days hl
      have hpl := prs_len l
      have key : ∀ (m : List (Option Int × Int)), (m.flatMap fun x => (p.ss.flatMap fun s => posted p s x.1 x.2)).length ≤ m.length * 18000 := by
        intro m
        induction m with
        | nil => simp
        | cons x m ih =>
          have := day_len p hp x
          rw [List.length_map] at this
          rw [List.flatMap_cons, List.length_append, List.length_cons]; omega
      have := key (prs none l)
      simp only
      rw [postsGo_eq]; omega
    · simp
  · simp
def balS (party a : Int) (x : Post) : Int := if x.frm = party then wr ((if x.to = party then wr (a + x.amt) else a) - x.amt) else (if x.to = party then wr (a + x.amt) else a)
def balW (party : Int) (l : List Post) : Int := l.foldl (balS party) 0
def balOf (p : Acc) (l : List Int) (party : Int) : Int × Int :=
  if (posts p l).2 ≠ 0 then (0, (posts p l).2) else if within party 0 101 = false then (0, 68) else (balW party (posts p l).1, 0)
@[simp] theorem w_Balance (n : Nat) (p : Acc) (l : List Int) (x : Int) (hp : p.fits) (hl : l.length < 100000000000000000) : D (n + 10) n_fine_Balance [.row 24 (p.ts.map Tariff.cv), .row 9 (p.ss.map Held.cv), .row 7 (p.ns.map Note.cv), .row 1 (ints l), ci x] = some [ci (balOf p l x).1, ci (balOf p l x).2] := by
  rw [q_fine_Balance]
  unfold R_fine_Balance
  rw [w_Posts _ _ _ hp hl]
  have hlen := posts_len p l
  simp only [callO_val, gr_z, gi_s, gi_z, bne_dec, iteB_eq, w_within, gb_z]
  generalize hm : (posts p l).1 = m at hlen
  by_cases h0 : (posts p l).2 = 0
  · cases hx : within x 0 101 with
    | false => simp [balOf, h0, hx]
    | true =>
      simp only [h0, decide_true, Bool.not_true, Bool.false_eq_true, if_false]
      rw [loop_foldl m (fun i s => [ci s, ci (i : Int)]) (balS x) 0 (fun s => [ci s]) 0 ?hv (fun i hi s => ?hs) (fun s => ?he)]
      case hv => rfl
      case he => simp
      case hs =>
        have hw := wr_nat (show i < 9223372036854775807 by omega)
        by_cases c1 : m[i].to = x <;> by_cases c2 : m[i].frm = x <;> simp [hi, inb_map, el_map, Post.cv, hw, balS, c1, c2]
      · simp [balOf, h0, hx, balW, hm]
  · simp [balOf, h0]
def checkPosts (p : Acc) (l : List Int) (m : List Post) : Int := if (posts p l).2 ≠ 0 then (posts p l).2 else if sameL eqP (posts p l).1 m = false then 67 else 0
@[simp] theorem w_CheckPosts (n : Nat) (p : Acc) (l : List Int) (m : List Post) (hp : p.fits) (hl : l.length < 100000000000000000) : D (n + 10) n_fine_CheckPosts [.row 24 (p.ts.map Tariff.cv), .row 9 (p.ss.map Held.cv), .row 7 (p.ns.map Note.cv), .row 1 (ints l), .row 5 (m.map Post.cv)] = some [ci (checkPosts p l m)] := by
  rw [q_fine_CheckPosts]
  have hlen := posts_len p l
  have hq := w_Equal (n + 8) (posts p l).1 m (by omega)
  simp only [R_fine_CheckPosts, w_Posts _ _ _ hp hl, callO_val, gr_z, gi_s, gi_z, hq]
  by_cases h0 : (posts p l).2 = 0
  · cases hx : sameL eqP (posts p l).1 m <;> simp [checkPosts, h0, hx]
  · simp [checkPosts, h0]
end Go.Proofs.Ytabhbdehbpmpkaa
namespace Go.Proofs.Ytabhbdehbpmpkaa
open Go Go.Sx Go.Fine
set_option maxRecDepth 10000
attribute [local simp] Bool.and_assoc Bool.or_assoc
theorem iteB_t (x y : Option Ou) : iteB true x y = x := rfl
theorem iteB_f (x y : Option Ou) : iteB false x y = y := rfl
end Go.Proofs.Ytabhbdehbpmpkaa
namespace Go.Proofs.Ytabhbdehbpmpkaa
open Go Go.Sx Go.Fine
set_option maxRecDepth 10000
attribute [local simp] Bool.and_assoc Bool.or_assoc
theorem duesOf_src {p : Acc} (hp : p.ok = true) {s : Held} (hs : s ∈ p.ss) {k : Int} (hk : isDay k = true) : duesOf p s.src k = if counts s.known s.til k = true then (dueOf p s k, 0) else (⟨0, 0, 0, 0⟩, 65) := by
  unfold duesOf; rw [stayOf_src hp hs hk]; split <;> simp
end Go.Proofs.Ytabhbdehbpmpkaa
namespace Go.Proofs.Ytabhbdehbpmpkaa
open Go Go.Sx Go.Fine
set_option maxRecDepth 10000
attribute [local simp] Bool.and_assoc Bool.or_assoc
end Go.Proofs.Ytabhbdehbpmpkaa
namespace Go.Proofs.Ytabhbdehbpmpkaa
open Go Go.Sx Go.Fine
set_option maxRecDepth 10000
def sumBy (g : Post → Int) : List Post → Int
  | [] => 0
  | x :: l => g x + sumBy g l
theorem sumBy_app (g : Post → Int) : ∀ (l m : List Post), sumBy g (l ++ m) = sumBy g l + sumBy g m
  | [], m => by simp [sumBy]
  | x :: l, m => by rw [List.cons_append, sumBy, sumBy, sumBy_app g l m]; omega
theorem sumBy_snoc (g : Post → Int) (l : List Post) (x : Post) : sumBy g (l ++ [x]) = sumBy g l + g x := by rw [sumBy_app]; simp [sumBy]
theorem sumBy_zero {g : Post → Int} : ∀ {l : List Post}, (∀ x ∈ l, g x = 0) → sumBy g l = 0
  | [], _ => rfl
  | x :: l, h => by
    rw [sumBy, sumBy_zero fun y hy => h y (by simp [hy])]
    have := h x (by simp); omega
theorem sumBy_bound {g : Post → Int} {B : Int} : ∀ {l : List Post}, (∀ x ∈ l, -B ≤ g x ∧ g x ≤ B) → -(l.length * B) ≤ sumBy g l ∧ sumBy g l ≤ l.length * B
  | [], _ => by simp [sumBy]
  | x :: l, h => by
    have ih := sumBy_bound (l := l) fun y hy => h y (by simp [hy])
    have := h x (by simp)
    have hl : (((x :: l).length : Nat) : Int) * B = l.length * B + B := by simp [Int.add_mul]
    rw [sumBy, hl]; omega
theorem sumBy_flat {A : Type} (g : Post → Int) (f : A → List Post) : ∀ (l : List A) (h : A → Int), (∀ a ∈ l, sumBy g (f a) = h a) → sumBy g (l.flatMap f) = l.foldr (fun a z => h a + z) 0
  | [], _, _ => rfl
  | a :: l, h, hh => by
    rw [List.flatMap_cons, sumBy_app, hh a (by simp), sumBy_flat g f l h fun b hb => hh b (by simp [hb])]
    rfl
theorem foldr_one {A : Type} (h : A → Int) {a : A} : ∀ {l : List A}, a ∈ l → l.Nodup → (∀ b ∈ l, b ≠ a → h b = 0) → l.foldr (fun a z => h a + z) 0 = h a
  | [], ha, _, _ => by cases ha
  | b :: l, ha, hn, h0 => by
    obtain ⟨n1, n2⟩ := List.nodup_cons.1 hn
    rw [List.foldr_cons]
    rcases List.mem_cons.1 ha with rfl | ha'
    · have : l.foldr (fun a z => h a + z) 0 = 0 := by
        have hz : ∀ b ∈ l, h b = 0 := fun b hb => h0 b (by simp [hb]) (fun e => n1 (e ▸ hb))
        clear h0 ha hn n1 n2
        induction l with
        | nil => rfl
        | cons c l ih => rw [List.foldr_cons, ih fun b hb => hz b (by simp [hb]), hz c (by simp)]; rfl
      omega
    · have hb : h b = 0 := h0 b (by simp) (fun e => n1 (e ▸ ha'))
      rw [hb, foldr_one h ha' n2 fun c hc => h0 c (by simp [hc])]
      omega
theorem mem_posted {p : Acc} {s : Held} {was : Option Int} {day : Int} {x : Post} (h : x ∈ posted p s was day) : ∃ r ∈ receivers s, ∃ f : Int, 2 ≤ f ∧ f ≤ 101 ∧ f ≠ r.2 ∧ paid p s (some day) f r.1 - paid p s was f r.1 ≠ 0 ∧ x = ⟨day, s.src, f, r.2, paid p s (some day) f r.1 - paid p s was f r.1⟩ := by
  rw [posted_eq] at h
  obtain ⟨r, hr, h⟩ := List.mem_flatMap.1 h
  obtain ⟨f, hf, h⟩ := List.mem_filterMap.1 h
  have := mem_upto.1 hf
  unfold toOne at h
  split at h
  · rename_i hc
    cases h
    exact ⟨r, hr, f, this.1, this.2, hc.2, hc.1, rfl⟩
  · cases h
theorem mem_postsGo {p : Acc} {x : Post} : ∀ {l : List Int} {w : Option Int}, x ∈ postsGo p w l → ∃ s ∈ p.ss, ∃ day ∈ l, ∃ was : Option Int, (was = w ∨ ∃ d ∈ l, was = some d) ∧ x ∈ posted p s was day
  | [], w, h => by cases h
  | d :: l, w, h => by
    rw [postsGo] at h
    rcases List.mem_append.1 h with h | h
    · obtain ⟨s, hs, h⟩ := List.mem_flatMap.1 h
      exact ⟨s, hs, d, by simp, w, .inl rfl, h⟩
    · obtain ⟨s, hs, day, hd, was, hw, h⟩ := mem_postsGo h
      refine ⟨s, hs, day, by simp [hd], was, ?_, h⟩
      rcases hw with rfl | ⟨e, he, rfl⟩
      · exact .inr ⟨d, by simp, rfl⟩
      · exact .inr ⟨e, by simp [he], rfl⟩
theorem amt_bounds {p : Acc} (hp : p.ok = true) {l : List Int} (hl : ∀ d ∈ l, isDay d = true) {x : Post} (h : x ∈ postsGo p none l) : -200000000000 ≤ x.amt ∧ x.amt ≤ 200000000000 := by
  obtain ⟨s, hs, day, hd, was, hw, h⟩ := mem_postsGo h
  obtain ⟨r, hr, f, h1, h2, h3, h4, rfl⟩ := mem_posted h
  have b1 := paid_bounds hp (p.ok_s hp hs) (some day) (fun d e => by cases e; exact hl _ hd) f r.1
  have b2 := paid_bounds hp (p.ok_s hp hs) was (fun d e => by
    rcases hw with rfl | ⟨z, hz, rfl⟩
    · cases e
    · cases e; exact hl _ hz) f r.1
  simp only; omega
def isKey (y f t : Int) (x : Post) : Bool := decide (x.stay = y) && (decide (x.frm = f) && decide (x.to = t))
def amtIf (q : Post → Bool) (x : Post) : Int := if q x = true then x.amt else 0
theorem upto_nodup : ∀ (m : Nat) (a b : Int), (b + 1 - a).toNat = m → (upto a b).Nodup
  | 0, a, b, h => by rw [upto_nil (by omega)]; exact List.nodup_nil
  | m + 1, a, b, h => by
    rw [upto_cons (by omega), List.nodup_cons]
    refine ⟨fun hc => ?_, upto_nodup m (a + 1) b (by omega)⟩
    have := mem_upto.1 hc; omega
theorem recv_nodup {s : Held} (hs : s.ok = true) : (receivers s).Nodup := by
  have := Held.ok_b hs
  unfold receivers
  split
  · decide
  · simp
theorem recv_inj {s : Held} (hs : s.ok = true) {r r' : Nat × Int} (h : r ∈ receivers s) (h' : r' ∈ receivers s) (e : r.2 = r'.2) : r = r' := by
  have hb := Held.ok_b hs
  rcases recv_cases h with rfl | rfl | ⟨rfl, _⟩ <;> rcases recv_cases h' with rfl | rfl | ⟨rfl, _⟩ <;> first | rfl | (exfalso; simp only at e; omega)
theorem posted_sum {p : Acc} {s : Held} (hs : s.ok = true) (was : Option Int) (day : Int) {f : Int} (h1 : 2 ≤ f) (h2 : f ≤ 101) {r : Nat × Int} (hr : r ∈ receivers s) : sumBy (amtIf (isKey s.src f r.2)) (posted p s was day) = if f = r.2 then 0 else paid p s (some day) f r.1 - paid p s was f r.1 := by
  rw [posted_eq]
  have inner : ∀ r' ∈ receivers s, sumBy (amtIf (isKey s.src f r.2)) ((upto 2 101).filterMap (toOne p s was day r')) = if r' = r then (if f = r.2 then 0 else paid p s (some day) f r.1 - paid p s was f r.1) else 0 := by
    intro r' hr'
    have one : ∀ f', sumBy (amtIf (isKey s.src f r.2)) ((toOne p s was day r' f').toList) = if f' = f ∧ r' = r then (if f = r.2 then 0 else paid p s (some day) f r.1 - paid p s was f r.1) else 0 := by
      intro f'
      unfold toOne
      by_cases c : paid p s (some day) f' r'.1 - paid p s was f' r'.1 ≠ 0 ∧ f' ≠ r'.2
      · rw [if_pos c]
        simp only [Option.toList_some, sumBy, amtIf, isKey, Bool.and_eq_true, decide_eq_true_eq, true_and, Int.add_zero]
        by_cases d : f' = f ∧ r' = r
        · obtain ⟨rfl, rfl⟩ := d
          rw [if_pos ⟨rfl, rfl⟩, if_pos ⟨rfl, rfl⟩, if_neg c.2]
        · rw [if_neg d, if_neg]
          rintro ⟨e1, e2⟩
          exact d ⟨e1, recv_inj hs hr' hr e2⟩
      · rw [if_neg c]
        simp only [Option.toList_none, sumBy]
        by_cases d : f' = f ∧ r' = r
        · obtain ⟨rfl, rfl⟩ := d
          rw [if_pos ⟨rfl, rfl⟩]
          by_cases e : f' = r'.2
          · rw [if_pos e]
          · rw [if_neg e]
            have : ¬ (paid p s (some day) f' r'.1 - paid p s was f' r'.1 ≠ 0) := fun h => c ⟨h, e⟩
            omega
        · rw [if_neg d]
    have fm : ∀ l : List Int, l.filterMap (toOne p s was day r') = l.flatMap fun f' => (toOne p s was day r' f').toList := by
      intro l
      induction l with
      | nil => rfl
      | cons a l ih => rw [List.filterMap_cons, List.flatMap_cons, ← ih]; cases toOne p s was day r' a <;> rfl
    rw [fm, sumBy_flat _ _ _ _ fun f' _ => one f']
    rw [foldr_one _ (mem_upto.2 ⟨h1, h2⟩) (upto_nodup _ _ _ rfl) (fun b _ hb => by rw [if_neg]; exact fun h => hb h.1)]
    by_cases d : r' = r
    · rw [if_pos ⟨rfl, d⟩, if_pos d]
    · rw [if_neg fun h => d h.2, if_neg d]
  rw [sumBy_flat _ _ _ _ inner, foldr_one _ hr (recv_nodup hs) (fun b _ hb => if_neg hb), if_pos rfl]
theorem posted_other {p : Acc} {s : Held} {y : Int} (h : s.src ≠ y) (was : Option Int) (day f t : Int) : sumBy (amtIf (isKey y f t)) (posted p s was day) = 0 := by
  refine sumBy_zero fun x hx => ?_
  obtain ⟨r, hr, g, h1, h2, h3, h4, rfl⟩ := mem_posted hx
  unfold amtIf isKey
  rw [if_neg]; simp [h]
def lastO : Option Int → List Int → Option Int
  | w, [] => w
  | _, d :: l => lastO (some d) l
theorem ss_nodup {p : Acc} (hp : p.ok = true) : p.ss.Nodup := by
  simp only [Acc.ok, listOk, Bool.and_eq_true] at hp
  have h := hp.1.2.1.2
  clear hp
  generalize p.ss = l at h
  induction l with
  | nil => exact List.nodup_nil
  | cons a l ih =>
    obtain ⟨h1, h2⟩ := rising_cons (x := a.src) (l := l.map Held.src) h
    refine List.nodup_cons.2 ⟨fun hc => ?_, ih h1⟩
    have := h2 a.src (List.mem_map.2 ⟨a, hc, rfl⟩); omega
theorem paid_sum {p : Acc} (hp : p.ok = true) {s : Held} (hs : s ∈ p.ss) {f : Int} (h1 : 2 ≤ f) (h2 : f ≤ 101) {r : Nat × Int} (hr : r ∈ receivers s) : ∀ (l : List Int) (w : Option Int), sumBy (amtIf (isKey s.src f r.2)) (postsGo p w l) = if f = r.2 then 0 else paid p s (lastO w l) f r.1 - paid p s w f r.1
  | [], w => by simp [postsGo, sumBy, lastO]
  | d :: l, w => by
    rw [postsGo, sumBy_app, paid_sum hp hs h1 h2 hr l (some d)]
    rw [sumBy_flat _ _ p.ss (fun t => if t.src = s.src then (if f = r.2 then 0 else paid p s (some d) f r.1 - paid p s w f r.1) else 0) fun t ht => ?_]
    · rw [foldr_one _ hs (ss_nodup hp) (fun b hbm hb => if_neg fun e => hb (Acc.ss_inj hp hbm hs e)), if_pos rfl]
      have e : lastO w (d :: l) = lastO (some d) l := rfl
      rw [e]
      split <;> omega
    · by_cases e : t.src = s.src
      · have e' := Acc.ss_inj hp ht hs e
        subst e'; rw [if_pos rfl]; exact posted_sum (p.ok_s hp ht) w d h1 h2 hr
      · rw [if_neg e]; exact posted_other e w d f r.2
def sameKey (x y : Post) : Bool := decide (x.day = y.day) && (decide (x.stay = y.stay) && (decide (x.frm = y.frm) && decide (x.to = y.to)))
theorem posted_apart {p : Acc} {s : Held} (hs : s.ok = true) (was : Option Int) (day : Int) : (posted p s was day).Pairwise fun x y => sameKey x y = false := by
  rw [posted_eq, List.pairwise_flatMap]
  refine ⟨fun r hr => ?_, ?_⟩
  · rw [List.pairwise_filterMap]
    refine List.Pairwise.imp ?_ (upto_nodup _ 2 101 rfl)
    intro a b hab x hx y hy
    unfold toOne at hx hy
    split at hx
    · split at hy
      · cases hx; cases hy
        simp [sameKey, hab]
      · cases hy
    · cases hx
  · refine List.Pairwise.imp_of_mem ?_ (recv_nodup hs)
    intro a b ha hb hab x hx y hy
    obtain ⟨f, _, h⟩ := List.mem_filterMap.1 hx
    obtain ⟨g, _, h'⟩ := List.mem_filterMap.1 hy
    unfold toOne at h h'
    split at h
    · split at h'
      · cases h; cases h'
        have : a.2 ≠ b.2 := fun e => hab (recv_inj hs ha hb e)
        simp [sameKey, this]
      · cases h'
    · cases h
theorem day_apart {p : Acc} (hp : p.ok = true) (was : Option Int) (day : Int) : (p.ss.flatMap fun s => posted p s was day).Pairwise fun x y => sameKey x y = false := by
  rw [List.pairwise_flatMap]
  refine ⟨fun s hs => posted_apart (p.ok_s hp hs) was day, ?_⟩
  refine List.Pairwise.imp_of_mem ?_ (ss_nodup hp)
  intro a b ha hb hab x hx y hy
  obtain ⟨r, _, f, _, _, _, _, rfl⟩ := mem_posted hx
  obtain ⟨r', _, f', _, _, _, _, rfl⟩ := mem_posted hy
  have : a.src ≠ b.src := fun e => hab (Acc.ss_inj hp ha hb e)
  simp [sameKey, this]
theorem go_apart {p : Acc} (hp : p.ok = true) : ∀ (l : List Int) (w : Option Int), rising l = true → (postsGo p w l).Pairwise fun x y => sameKey x y = false
  | [], w, _ => List.Pairwise.nil
  | d :: l, w, h => by
    obtain ⟨h1, h2⟩ := rising_cons h
    rw [postsGo, List.pairwise_append]
    refine ⟨day_apart hp w d, go_apart hp l _ h1, fun x hx y hy => ?_⟩
    obtain ⟨s, hs, hx⟩ := List.mem_flatMap.1 hx
    obtain ⟨r, _, f, _, _, _, _, rfl⟩ := mem_posted hx
    obtain ⟨s', hs', day, hd, was, _, hy⟩ := mem_postsGo hy
    obtain ⟨r', _, f', _, _, _, _, rfl⟩ := mem_posted hy
    have := h2 day hd
    have : d ≠ day := by omega
    simp [sameKey, this]
def balG (party : Int) (x : Post) : Int := (if x.to = party then x.amt else 0) - (if x.frm = party then x.amt else 0)
def balUp (j : Int) (x : Post) : Int := (if x.to < j then x.amt else 0) - (if x.frm < j then x.amt else 0)
theorem balUp_step (j : Int) : ∀ (l : List Post), sumBy (balUp (j + 1)) l = sumBy (balUp j) l + sumBy (balG j) l
  | [] => rfl
  | x :: l => by
    rw [sumBy, sumBy, sumBy, balUp_step j l]
    have : balUp (j + 1) x = balUp j x + balG j x := by
      unfold balUp balG
      by_cases a : x.to < j <;> by_cases b : x.to = j <;> by_cases c : x.frm < j <;> by_cases d : x.frm = j <;> simp [a, b, c, d] <;> omega
    omega
theorem balW_eq {l : List Post} (hl : l.length ≤ 216000) (hb : ∀ x ∈ l, -200000000000 ≤ x.amt ∧ x.amt ≤ 200000000000) (party : Int) : balW party l = sumBy (balG party) l := by
  have key : ∀ n, n ≤ l.length → (l.take n).foldl (balS party) 0 = sumBy (balG party) (l.take n) ∧ -(n * 400000000000 : Int) ≤ sumBy (balG party) (l.take n) ∧ sumBy (balG party) (l.take n) ≤ n * 400000000000 := by
    intro n
    induction n with
    | zero => intro _; simp [sumBy]
    | succ n ih =>
      intro h
      obtain ⟨i1, i2, i3⟩ := ih (by omega)
      have hx := hb l[n] (List.getElem_mem (by omega))
      rw [take_succ (by omega), List.foldl_append, i1, sumBy_snoc]
      generalize sumBy (balG party) (l.take n) = a at *
      generalize l[n] = x at *
      simp only [List.foldl_cons, List.foldl_nil]
      unfold balS balG
      by_cases c1 : x.to = party <;> by_cases c2 : x.frm = party
      · rw [if_pos c2, if_pos c1, if_pos c1, if_pos c2, wr_of (x := a + x.amt) (by omega) (by omega), wr_of (by omega) (by omega)]; omega
      · rw [if_neg c2, if_pos c1, if_pos c1, if_neg c2, wr_of (x := a + x.amt) (by omega) (by omega)]; omega
      · rw [if_pos c2, if_neg c1, if_neg c1, if_pos c2, wr_of (by omega) (by omega)]; omega
      · rw [if_neg c2, if_neg c1, if_neg c1, if_neg c2]; omega
  have := (key l.length (Nat.le_refl _)).1
  rw [List.take_length] at this
  exact this
theorem judged_owner_le (B : Int) (hB : 0 ≤ B) : ∀ (l : List Note), (∀ n ∈ l, n.owner ≤ B) → (judged l).2 ≤ B := by
  refine snoc_ind ?_ ?_
  · intro _; exact hB
  · intro l a ih h
    rw [judged_snoc]
    split
    · exact h a (by simp)
    · exact ih fun n hn => h n (by simp [hn])
theorem ownerOf_le {B : Int} (hB : 0 ≤ B) {l : List Note} (h : ∀ n ∈ l, n.owner ≤ B) : ownerOf l ≤ B := by
  unfold ownerOf
  split
  · exact judged_owner_le B hB l h
  · unfold claimer
    cases hf : l.find? fun n => n.kind == 1 && n.day == least 1 l with
    | none => simpa using hB
    | some n => simpa using h n (List.mem_of_find?_eq_some hf)
theorem made_owner {r : Raw} {n : Note} (h : n ∈ (made r).ns) : n.owner ≤ 5 := by
  obtain ⟨i, hi, rfl⟩ := List.mem_mapIdx.1 h
  simp only [madeN]; split <;> omega
theorem made_payer (r : Raw) (s : Held) (k : Option Int) : payerAt (made r) s k ≤ 7 := by
  cases k with
  | none => simp [payerAt]
  | some k =>
    simp only [payerAt]
    split
    · have ho : (lot (made r) s k).owner ≤ 5 := ownerOf_le (by omega) fun n hn => made_owner (notes_mem hn)
      unfold dueOf shares Fine.payer
      simp only
      split
      · simp
      · split
        · simp
        · simp only; omega
    · omega
theorem made_from {r : Raw} {l : List Int} {x : Post} (h : x ∈ postsGo (made r) none l) : (0 ≤ x.to ∧ x.to ≤ 7) ∧ (2 ≤ x.frm ∧ x.frm ≤ 7) ∧ x.amt ≠ 0 ∧ x.frm ≠ x.to ∧ x.day ∈ l := by
  obtain ⟨s, hs, day, hd, was, hw, h⟩ := mem_postsGo h
  obtain ⟨rc, hr, f, h1, h2, h3, h4, rfl⟩ := mem_posted h
  have hh := made_held hs
  have hto : 0 ≤ rc.2 ∧ rc.2 ≤ 7 := by
    rcases recv_cases hr with rfl | rfl | ⟨rfl, _⟩ <;> simp only <;> omega
  have hf : f ≤ 7 := by
    by_cases e1 : payerAt (made r) s (some day) = f
    · have := made_payer r s (some day); omega
    · by_cases e2 : payerAt (made r) s was = f
      · have := made_payer r s was; omega
      · have z1 := paid_payer (p := made r) (s := s) (k := some day) (f := f) (by omega) e1 rc.1
        have z2 := paid_payer (p := made r) (s := s) (k := was) (f := f) (by omega) e2 rc.1
        omega
  exact ⟨hto, ⟨h1, hf⟩, h4, h3, hd⟩
end Go.Proofs.Ytabhbdehbpmpkaa
namespace Go.Proofs.Ytabhbdehbpmpkaa
open Go Go.Sx Go.Fine
set_option maxRecDepth 10000
attribute [local simp] Bool.and_assoc Bool.or_assoc
theorem lastO_some : ∀ (l : List Int) (w : Option Int) (h : 0 < l.length), lastO w l = some (l[l.length - 1]'(by omega))
  | [d], w, _ => rfl
  | d :: e :: l, w, _ => by
    rw [lastO, lastO_some (e :: l) (some d) (by simp)]
    simp only [List.length_cons, Nat.add_sub_cancel]
    rfl
theorem amtIf_bound {q : Post → Bool} {x : Post} (h : -200000000000 ≤ x.amt ∧ x.amt ≤ 200000000000) : -200000000000 ≤ amtIf q x ∧ amtIf q x ≤ 200000000000 := by
  unfold amtIf; split <;> omega
theorem settle0 {p : Acc} (hp : p.ok = true) {s : Held} (hs : s ∈ p.ss) {d : List Int} {k : Int} (hk : lastO none d = some k) {f : Int} (h1 : 2 ≤ f) (h2 : f ≤ 101) : sumBy (amtIf (isKey s.src f 0)) (postsGo p none d) = (if counts s.known s.til k = true ∧ (dueOf p s k).payer = f then (dueOf p s k).lord else 0) ∧ sumBy (amtIf (isKey s.src f 1)) (postsGo p none d) = (if counts s.known s.til k = true ∧ (dueOf p s k).payer = f then (dueOf p s k).hay else 0) ∧ sumBy (amtIf (isKey s.src f (2 + s.drv))) (postsGo p none d) = (if f = 2 + s.drv then 0 else if counts s.known s.til k = true ∧ (dueOf p s k).payer = f then (dueOf p s k).drv else 0) := by
  have hso := p.ok_s hp hs
  have hb := Held.ok_b hso
  have r0 : ((0, 0) : Nat × Int) ∈ receivers s := by unfold receivers; split <;> simp
  have r1 : ((1, 1) : Nat × Int) ∈ receivers s := by unfold receivers; split <;> simp
  have s0 := paid_sum hp hs h1 h2 r0 d none
  have s1 := paid_sum hp hs h1 h2 r1 d none
  rw [hk] at s0 s1
  simp only at s0 s1
  rw [if_neg (by omega)] at s0 s1
  have z : ∀ r, paid p s none f r = 0 := fun r => rfl
  rw [z, Int.sub_zero] at s0 s1
  refine ⟨s0, s1, ?_⟩
  by_cases hd : s.drv = 0
  · have e : (2 : Int) + s.drv = 2 := by omega
    rw [e]
    have hdz : (dueOf p s k).drv = 0 := by unfold dueOf shares; simp [hd]
    rw [hdz, sumBy_zero]
    · split <;> simp
    · intro x hx
      obtain ⟨t, ht, day, _, was, _, hx⟩ := mem_postsGo hx
      obtain ⟨r, hr, g, _, _, _, _, rfl⟩ := mem_posted hx
      unfold amtIf isKey
      by_cases e : t.src = s.src
      · have := Acc.ss_inj hp ht hs e
        subst this
        rcases recv_cases hr with rfl | rfl | ⟨rfl, hc⟩
        · simp
        · simp
        · exact absurd hd hc
      · simp [e]
  · have r2 : ((2, 2 + s.drv) : Nat × Int) ∈ receivers s := by unfold receivers; rw [if_neg hd]; simp
    have s2 := paid_sum hp hs h1 h2 r2 d none
    rw [hk] at s2
    simp only at s2
    rw [z, Int.sub_zero] at s2
    exact s2
theorem w_settled (n : Nat) (p : Acc) (s : Held) (d : List Int) (hp : p.ok = true) (hs : s ∈ p.ss) (hd : daysOk d = true) (hd0 : 0 < d.length) :
    D (n + 12) n_law06_settled [.row 24 (p.ts.map Tariff.cv), .row 9 (p.ss.map Held.cv), .row 7 (p.ns.map Note.cv), ci s.src, ci s.beast, ci s.sort, ci s.eats, ci s.worth, ci s.drv, ci s.day, ci s.known, ci s.til, .row 1 (ints d), .row 1 [], .row 5 ((postsGo p none d).map Post.cv)] = some [cb true] := by
  rw [q_law06_settled]
  unfold R_law06_settled
  obtain ⟨hdays, h12⟩ := cv_days hd
  have hso := p.ok_s hp hs
  have hb := Held.ok_b hso
  have hlast := lastO_some d none hd0
  have hkd : isDay (d[d.length - 1]'(by omega)) = true := hdays _ (List.getElem_mem _)
  have hill : il (ints d) = d.length := il_map _ _
  have hw1 : wr ((d.length : Int) - 1) = ((d.length - 1 : Nat) : Int) := by rw [wr_of] <;> omega
  have hel : el (ints d) ((d.length - 1 : Nat) : Int) = [ci (d[d.length - 1]'(by omega))] := el_map (by omega)
  have hin : inb ((d.length - 1 : Nat) : Int) (ints d) = true := inb_map (by omega)
  generalize hk : d[d.length - 1]'(by omega) = k at *
  have c1 := w_Dues n p s.src k (Acc.ok_fits hp)
  rw [duesOf_src hp hs hkd] at c1
  have hset := fun f h1 h2 => settle0 (f := f) hp hs hlast h1 h2
  have hab := fun x hx => amt_bounds hp hdays (x := x) hx
  have hpl : (postsGo p none d).length ≤ 216000 := by
    have := posts_len p d
    unfold posts at this
    rw [if_pos hp, if_pos hd] at this
    exact this
  have hto : ∀ x ∈ postsGo p none d, x.stay = s.src → x.to = 0 ∨ x.to = 1 ∨ x.to = 2 + s.drv := by
    intro x hx e
    obtain ⟨t, ht, day, _, was, _, hx⟩ := mem_postsGo hx
    obtain ⟨r, hr, g, _, _, _, _, rfl⟩ := mem_posted hx
    have := Acc.ss_inj hp ht hs e
    subst this
    rcases recv_cases hr with rfl | rfl | ⟨rfl, hc⟩ <;> simp
  have w2 : wr (2 + s.drv) = 2 + s.drv := by rw [wr_of] <;> omega
  generalize hL : postsGo p none d = l at *
  rw [hill, hw1, hin, chk_true, hel]
  simp only [oks_cons0, ok_ci, oks_z, Bool.and_self, chk_true, gi_z, c1, callO_val]
  have inner : ∀ (py hy dv ld : Int), (∀ f : Int, 2 ≤ f → f ≤ 7 → sumBy (amtIf (isKey s.src f 0)) l = (if py = f then ld else 0) ∧ sumBy (amtIf (isKey s.src f 1)) l = (if py = f then hy else 0) ∧ sumBy (amtIf (isKey s.src f (2 + s.drv))) l = (if f = 2 + s.drv then 0 else if py = f then dv else 0)) →
    loopD (fun v2 =>
        iteB (decide ((gi v2 0) ≤ 7))
          (blkO 2 (loopD (fun v3 =>
              iteB (decide ((gi v3 0) < (il (l.map Post.cv))))
                (blkO 3 (chk (inb (gi v3 0) (l.map Post.cv)) <|
                  chk (oks (List.replicate 5 li) (el (l.map Post.cv) (gi v3 0)) 0) <|
                  seqO (iteB ((gi (el (l.map Post.cv) (gi v3 0)) 1) != s.src)
                      (some (.nx [cb true]))
                      (some (.nx [cb ((gi (el (l.map Post.cv) (gi v3 0)) 2) != (gi v2 0))]))) fun v4 =>
                  iteB (gb v4 0)
                    (some (.br 3 [ci (gi v3 1), ci (gi v3 2), ci (gi v3 3)]))
                    (seqO (iteB ((gi (el (l.map Post.cv) (gi v3 0)) 3) == 0)
                        (some (.nx [ci (wr ((gi v3 1) + (gi (el (l.map Post.cv) (gi v3 0)) 4))), ci (gi v3 2), ci (gi v3 3)]))
                        (seqO (iteB ((gi (el (l.map Post.cv) (gi v3 0)) 3) == 1)
                            (some (.nx [ci (gi v3 1), ci (wr ((gi v3 2) + (gi (el (l.map Post.cv) (gi v3 0)) 4))), ci (gi v3 3)]))
                            (iteB ((gi (el (l.map Post.cv) (gi v3 0)) 3) == (2 + s.drv))
                              (some (.nx [ci (gi v3 1), ci (gi v3 2), ci (wr ((gi v3 3) + (gi (el (l.map Post.cv) (gi v3 0)) 4)))]))
                              (some (.ret [cb false])))) fun v5 =>
                        some (.nx [ci (gi v5 0), ci (gi v5 1), ci (gi v5 2)]))) fun v5 =>
                    some (.br 3 [ci (gi v5 0), ci (gi v5 1), ci (gi v5 2)]))) fun v4 =>
                some (.nx [ci (wr ((gi v3 0) + 1)), ci (gi v4 0), ci (gi v4 1), ci (gi v4 2)]))
                (some (.br 2 [ci (gi v3 1), ci (gi v3 2), ci (gi v3 3)]))) [ci 0, ci 0, ci 0, ci 0]) fun v3 =>
          seqO (iteB (py == (gi v2 0))
              (some (.nx [ci ld, ci hy, ci dv]))
              (some (.nx [ci 0, ci 0, ci 0]))) fun v4 =>
          seqO (iteB ((gi v2 0) == (2 + s.drv))
              (some (.nx [ci (gi v4 0), ci (gi v4 1), ci 0]))
              (some (.nx [ci (gi v4 0), ci (gi v4 1), ci (gi v4 2)]))) fun v5 =>
          iteB (!(((gi v3 0) == (gi v5 0)) && (((gi v3 1) == (gi v5 1)) && (((gi v3 2) == (gi v5 2)) && true))))
            (some (.ret [cb false]))
            (some (.nx [ci (wr ((gi v2 0) + 1))])))
          (some (.br 0 []))) [ci 2] = some (.br 0 []) := by
    intro py hy dv ld hsum
    rw [loop_ix 6 (fun j => [ci (2 + (j : Int))]) (some (.br 0 [])) ?hv (fun j hj => ?hs) ?he (by simp)]
    case hv => rfl
    case he => simp
    case hs =>
      have hj7 : (2 : Int) + j ≤ 7 := by omega
      have hwj : wr (2 + (j : Int) + 1) = 2 + ((j + 1 : Nat) : Int) := by rw [wr_of] <;> omega
      obtain ⟨t0, t1, t2⟩ := hsum (2 + j) (by omega) hj7
      simp only [gi_z, hj7, decide_true, iteB_t]
      generalize (2 : Int) + j = f at *
      rw [loop_ix l.length (fun i => [ci (i : Int), ci (sumBy (amtIf (isKey s.src f 0)) (l.take i)), ci (sumBy (amtIf (isKey s.src f 1)) (l.take i)), ci (sumBy (amtIf (isKey s.src f (2 + s.drv))) (l.take i))]) (some (.br 2 [ci (sumBy (amtIf (isKey s.src f 0)) l), ci (sumBy (amtIf (isKey s.src f 1)) l), ci (sumBy (amtIf (isKey s.src f (2 + s.drv))) l)])) ?hv2 (fun i hi => ?hs2) ?he2 (by simp)]
      case hv2 => rfl
      case he2 => simp [List.take_length]
      case hs2 =>
        have hw := wr_nat (show i < 9223372036854775807 by omega)
        have hii : (i : Int) < l.length := by omega
        have hel2 : el (l.map Post.cv) (i : Int) = Post.cv l[i] := el_map hi
        have hin2 : inb (i : Int) (l.map Post.cv) = true := inb_map hi
        have hx := hab l[i] (List.getElem_mem hi)
        have htx := hto l[i] (List.getElem_mem hi)
        have hlt : (l.take i).length ≤ 216000 := by rw [List.length_take]; omega
        have bb : ∀ t, -(l.take i).length * 200000000000 ≤ sumBy (amtIf (isKey s.src f t)) (l.take i) ∧ sumBy (amtIf (isKey s.src f t)) (l.take i) ≤ (l.take i).length * 200000000000 := fun t => by
          have := sumBy_bound (l := l.take i) (g := amtIf (isKey s.src f t)) (B := 200000000000) fun x hx => amtIf_bound (hab x (List.mem_of_mem_take hx))
          omega
        have B0 := bb 0
        have B1 := bb 1
        have B2 := bb (2 + s.drv)
        rw [take_succ hi, sumBy_snoc, sumBy_snoc, sumBy_snoc]
        generalize sumBy (amtIf (isKey s.src f 0)) (l.take i) = S0 at *
        generalize sumBy (amtIf (isKey s.src f 1)) (l.take i) = S1 at *
        generalize sumBy (amtIf (isKey s.src f (2 + s.drv))) (l.take i) = S2 at *
        generalize l[i] = x at *
        have hok5 : oks (List.replicate 5 li) (Post.cv x) 0 = true := rfl
        have g1 : gi (Post.cv x) 1 = x.stay := rfl
        have g2 : gi (Post.cv x) 2 = x.frm := rfl
        have g3 : gi (Post.cv x) 3 = x.to := rfl
        have g4 : gi (Post.cv x) 4 = x.amt := rfl
        have W0 : wr (S0 + x.amt) = S0 + x.amt := by rw [wr_of] <;> omega
        have W1 : wr (S1 + x.amt) = S1 + x.amt := by rw [wr_of] <;> omega
        have W2 : wr (S2 + x.amt) = S2 + x.amt := by rw [wr_of] <;> omega
        simp only [gi_z, gi_s, il_map, hii, decide_true, iteB_t, hin2, hel2, hok5, chk_true, g1, g2, g3, g4, bne_dec, beq_dec]
        by_cases e1 : x.stay = s.src
        · by_cases e2 : x.frm = f
          · rcases htx e1 with e3 | e3 | e3
            · have k0 : amtIf (isKey s.src f 0) x = x.amt := by simp [amtIf, isKey, e1, e2, e3]
              have k1 : amtIf (isKey s.src f 1) x = 0 := by simp [amtIf, isKey, e3]
              have k2 : amtIf (isKey s.src f (2 + s.drv)) x = 0 := by
                have : ¬ (0 : Int) = 2 + s.drv := by omega
                simp [amtIf, isKey, e3, this]
              simp only [e1, e2, e3, decide_true, Bool.not_true, iteB_f, iteB_t, seqO_nx, gb_z, gi_z, gi_s, W0, blkO_br, hw, k0, k1, k2, Int.add_zero]
            · have k0 : amtIf (isKey s.src f 0) x = 0 := by simp [amtIf, isKey, e3]
              have k1 : amtIf (isKey s.src f 1) x = x.amt := by simp [amtIf, isKey, e1, e2, e3]
              have k2 : amtIf (isKey s.src f (2 + s.drv)) x = 0 := by
                have : ¬ (1 : Int) = 2 + s.drv := by omega
                simp [amtIf, isKey, e3, this]
              simp only [e1, e2, e3, (by decide : ¬ (1 : Int) = 0), decide_false, decide_true, Bool.not_true, iteB_f, iteB_t, seqO_nx, gb_z, gi_z, gi_s, W1, blkO_br, hw, k0, k1, k2, Int.add_zero]
            · have z0 : ¬ (2 + s.drv = 0) := by omega
              have z1 : ¬ (2 + s.drv = 1) := by omega
              have k0 : amtIf (isKey s.src f 0) x = 0 := by simp [amtIf, isKey, e3, z0]
              have k1 : amtIf (isKey s.src f 1) x = 0 := by simp [amtIf, isKey, e3, z1]
              have k2 : amtIf (isKey s.src f (2 + s.drv)) x = x.amt := by simp [amtIf, isKey, e1, e2, e3]
              simp only [e1, e2, e3, z0, z1, decide_false, decide_true, Bool.not_true, iteB_f, iteB_t, seqO_nx, gb_z, gi_z, gi_s, W2, blkO_br, hw, k0, k1, k2, Int.add_zero]
          · have k : ∀ t, amtIf (isKey s.src f t) x = 0 := fun t => by simp [amtIf, isKey, e2]
            simp only [e1, e2, decide_true, decide_false, Bool.not_true, Bool.not_false, iteB_f, iteB_t, seqO_nx, gb_z, gi_z, gi_s, blkO_br, hw, k, Int.add_zero]
        · have k : ∀ t, amtIf (isKey s.src f t) x = 0 := fun t => by simp [amtIf, isKey, e1]
          simp only [e1, decide_false, Bool.not_false, iteB_t, seqO_nx, gb_z, gi_z, gi_s, blkO_br, hw, k, Int.add_zero]
      · rw [t0, t1, t2]
        by_cases e1 : py = f
        · by_cases e2 : f = 2 + s.drv
          · simp only [blkO_br, e1, if_true, beq_dec, decide_true, iteB_t, seqO_nx, gi_z, gi_s, Bool.and_self, Bool.not_true, iteB_f, hwj, if_pos e2, decide_eq_true e2]
          · simp only [blkO_br, e1, e2, if_true, if_false, beq_dec, decide_true, decide_false, iteB_t, seqO_nx, gi_z, gi_s, Bool.and_self, Bool.not_true, iteB_f, hwj]
        · by_cases e2 : f = 2 + s.drv
          · simp only [blkO_br, e1, if_true, if_false, beq_dec, decide_true, decide_false, iteB_t, seqO_nx, gi_z, gi_s, Bool.and_self, Bool.not_true, iteB_f, hwj, if_pos e2, decide_eq_true e2]
          · simp only [blkO_br, e1, e2, if_true, if_false, beq_dec, decide_true, decide_false, iteB_t, seqO_nx, gi_z, gi_s, Bool.and_self, Bool.not_true, iteB_f, hwj]
  cases hc : counts s.known s.til k with
  | false =>
    simp only [Bool.false_eq_true, if_false, gi_z, gi_s, beq_self_eq_true, iteB_t, seqO_nx, w2]
    have := inner (-1) 0 0 0 fun f h1 h2 => by
      obtain ⟨a, b, c⟩ := hset f h1 (by omega)
      rw [a, b, c, hc]
      simp
    exact congrArg (fun z => retO (blkO 0 z fun _ => some (.ret [cb true]))) this
  | true =>
    simp only [if_true, gi_z, gi_s, beq_dec, bne_dec, (by decide : ¬ (0 : Int) = 65), decide_false, decide_true, Bool.not_true, iteB_f, seqO_nx, w2, cis_s, cis_z]
    have := inner (dueOf p s k).payer (dueOf p s k).hay (dueOf p s k).drv (dueOf p s k).lord fun f h1 h2 => by
      obtain ⟨a, b, c⟩ := hset f h1 (by omega)
      rw [a, b, c, hc]
      simp
    exact congrArg (fun z => retO (blkO 0 z fun _ => some (.ret [cb true]))) this
end Go.Proofs.Ytabhbdehbpmpkaa
namespace Go.Proofs.Ytabhbdehbpmpkaa
open Go Go.Sx Go.Fine
set_option maxRecDepth 10000
attribute [local simp] Bool.and_assoc Bool.or_assoc
theorem D_settled (n : Nat) (vs : List CV) : D (n + 1) n_law06_settled vs = evF Try.prog sg (D n) fe52 (bodyOf Try.f52) vs := by kernel_rfl
theorem settled_args (a b c : List (List CV)) (s : Held) (d e : List (List CV)) : Sc.avs fe52.g.ps [.row 24 a, .row 9 b, .row 7 c, ci s.src, ci s.beast, ci s.sort, ci s.eats, ci s.worth, ci s.drv, ci s.day, ci s.known, ci s.til, .row 1 d, .val (.slice none 0 0), .row 5 e] 0 = Sc.avs fe52.g.ps [.row 24 a, .row 9 b, .row 7 c, ci s.src, ci s.beast, ci s.sort, ci s.eats, ci s.worth, ci s.drv, ci s.day, ci s.known, ci s.til, .row 1 d, .row 1 [], .row 5 e] 0 := by kernel_rfl
theorem settled_nil (n : Nat) (a b c : List (List CV)) (s : Held) (d e : List (List CV)) : D (n + 1) n_law06_settled [.row 24 a, .row 9 b, .row 7 c, ci s.src, ci s.beast, ci s.sort, ci s.eats, ci s.worth, ci s.drv, ci s.day, ci s.known, ci s.til, .row 1 d, .val (.slice none 0 0), .row 5 e] = D (n + 1) n_law06_settled [.row 24 a, .row 9 b, .row 7 c, ci s.src, ci s.beast, ci s.sort, ci s.eats, ci s.worth, ci s.drv, ci s.day, ci s.known, ci s.til, .row 1 d, .row 1 [], .row 5 e] := by
  rw [D_settled, D_settled]
  exact evF_args (settled_args a b c s d e)
theorem w_FinePaid (n : Nat) (r : Raw) (y : List Int) (hr : r.fits) (hy : y.length < 100000000000000000) : D (n + 13) n_law06_FinePaid [.row 6 (r.ts.map R6.cv), .row 7 (r.ss.map R7.cv), .row 6 (r.ns.map R6.cv), .row 1 (ints y)] = some [cb true] := by
  rw [q_law06_FinePaid]
  unfold R_law06_FinePaid
  have h0 := w_sane n
  have hm := w_Made (n + 10) r hr
  have hp := made_ok r
  have hf := Acc.ok_fits hp
  have hfrom := fun (l : List Int) x (h : x ∈ postsGo (made r) none l) => made_from h
  rw [h0, callO_val, hm, callO_val]
  simp only [gr_z, gr_s, gb_z, il_map]
  generalize made r = p at *
  have hsl := (Acc.ok_len hp).2.1
  have hrd := w_rawDays (n + 10) y hy
  have hdok := rawDays_ok y
  obtain ⟨hdays, h12⟩ := cv_days hdok
  have hrise : rising (rawDays y) = true := by simp only [daysOk, Bool.and_eq_true] at hdok; exact hdok.1.2
  rw [hrd, callO_val]
  simp only [gr_z]
  generalize rawDays y = d at *
  have hposts : posts p d = (postsGo p none d, 0) := by unfold posts; rw [if_pos hp, if_pos hdok]
  have hpl := posts_len p d
  have c1 := w_Posts (n + 3) p d hf (by omega)
  have c2 := w_CheckPosts (n + 2) p d (postsGo p none d) hf (by omega)
  have c2' : checkPosts p d (postsGo p none d) = 0 := by
    unfold checkPosts
    rw [hposts]
    simp [sameL_refl _ eqP_refl]
  rw [c2'] at c2
  have c3 := fun x => w_Balance (n + 2) p d x hf (by omega)
  have hbal : ∀ x, 0 ≤ x → x ≤ 10 → balOf p d x = (sumBy (balG x) (postsGo p none d), 0) := fun x h1 h2 => by
    unfold balOf
    rw [hposts] at hpl ⊢
    rw [if_neg (by simp), if_neg (by rw [within_of h1 (by omega)]; simp)]
    simp only
    rw [balW_eq hpl (fun x hx => amt_bounds hp hdays hx)]
  have hset := fun s (hs : s ∈ p.ss) (h : 0 < d.length) => w_settled n p s d hp hs hdok h
  have hab := fun x hx => amt_bounds hp hdays (x := x) hx
  have hapart := go_apart hp d none hrise
  have hfr := hfrom d
  rw [hposts] at c1 hpl
  simp only at c1 hpl
  have hnil : d.length = 0 → postsGo p none d = [] := fun h => by
    have : d = [] := List.eq_nil_of_length_eq_zero h
    rw [this]; rfl
  generalize postsGo p none d = l at *
  rw [c1, callO_val]
  simp only [gi_s, gi_z, gr_z, bne_dec, decide_true, Bool.not_true, iteB_f, c2, callO_val, seqO_nx, gb_z, il_map]
  rw [loop_ix l.length (fun i => [ci (i : Int)]) (some (.br 0 [])) ?hv (fun i hi => ?hs) ?he (by simp)]
  case hv => rfl
  case he => simp
  case hs =>
    have hw := wr_nat (show i < 9223372036854775807 by omega)
    have hii : (i : Int) < l.length := by omega
    have hel : el (l.map Post.cv) (i : Int) = Post.cv l[i] := el_map hi
    have hin : inb (i : Int) (l.map Post.cv) = true := inb_map hi
    obtain ⟨f1, f2, f3, f4, f5⟩ := hfr l[i] (List.getElem_mem hi)
    have hap := List.pairwise_iff_getElem.1 hapart
    have hhas := w_Has (n + 11) d l[i].day (by omega)
    have hany : (d.any fun z => decide (z = l[i].day)) = true := List.any_eq_true.2 ⟨_, f5, by simp⟩
    rw [hany] at hhas
    have hok5 : ∀ x : Post, oks (List.replicate 5 li) (Post.cv x) 0 = true := fun x => rfl
    have g0 : ∀ x : Post, gi (Post.cv x) 0 = x.day := fun x => rfl
    have g1 : ∀ x : Post, gi (Post.cv x) 1 = x.stay := fun x => rfl
    have g2 : ∀ x : Post, gi (Post.cv x) 2 = x.frm := fun x => rfl
    have g3 : ∀ x : Post, gi (Post.cv x) 3 = x.to := fun x => rfl
    have g4 : ∀ x : Post, gi (Post.cv x) 4 = x.amt := fun x => rfl
    simp only [gi_z, hii, decide_true, iteB_t, hin, hel, hok5, chk_true, g0, g1, g2, g3, g4, beq_dec, f3, f4, decide_false, iteB_f, hhas, callO_val, gb_z, Bool.not_true, seqO_nx]
    rw [loop_ix i (fun k => [ci (k : Int)]) (some (.br 2 [])) ?hv2 (fun k hk => ?hs2) ?he2 (by simp)]
    case hv2 => rfl
    case he2 => simp
    case hs2 =>
      have hkl : k < l.length := by omega
      have hwk := wr_nat (show k < 9223372036854775807 by omega)
      have hki : (k : Int) < i := by omega
      have hel2 : el (l.map Post.cv) (k : Int) = Post.cv l[k] := el_map hkl
      have hin2 : inb (k : Int) (l.map Post.cv) = true := inb_map hkl
      have hsk := hap k i hkl hi hk
      simp only [gi_z, hki, decide_true, iteB_t, hin2, hel2, hok5, chk_true, g0, g1, g2, g3]
      unfold sameKey at hsk
      by_cases e1 : l[k].day = l[i].day
      · by_cases e2 : l[k].stay = l[i].stay
        · by_cases e3 : l[k].frm = l[i].frm
          · have e4 : ¬ l[k].to = l[i].to := by
              intro e4
              rw [decide_eq_true e1, decide_eq_true e2, decide_eq_true e3, decide_eq_true e4] at hsk
              cases hsk
            simp only [e1, e2, e3, e4, decide_true, decide_false, iteB_t, iteB_f, seqO_nx, gb_z, hwk]
          · simp only [e1, e2, e3, decide_true, decide_false, iteB_t, iteB_f, seqO_nx, gb_z, hwk]
        · simp only [e1, e2, decide_true, decide_false, iteB_t, iteB_f, seqO_nx, gb_z, hwk]
      · simp only [e1, decide_false, iteB_f, seqO_nx, gb_z, hwk]
    · simp only [blkO_br, hw]
  rw [blkO_br]
  have u0 : sumBy (balUp 0) l = 0 := sumBy_zero fun x hx => by
    obtain ⟨f1, f2, _⟩ := hfr x hx
    unfold balUp; rw [if_neg (by omega), if_neg (by omega)]; rfl
  have u11 : sumBy (balUp 11) l = 0 := sumBy_zero fun x hx => by
    obtain ⟨f1, f2, _⟩ := hfr x hx
    unfold balUp; rw [if_pos (by omega), if_pos (by omega)]; omega
  rw [loop_ix 11 (fun j => [ci (sumBy (balUp (j : Int)) l), ci (j : Int)]) (some (.br 4 [ci 0])) ?hv (fun j hj => ?hs) ?he (by simp)]
  case hv => rw [show ((0 : Nat) : Int) = 0 from rfl, u0]
  case he =>
    have : ((11 : Nat) : Int) = 11 := rfl
    rw [this, u11]; simp
  case hs =>
    have hj10 : (j : Int) ≤ 10 := by omega
    have hw := wr_nat (show j < 9223372036854775807 by omega)
    have cb1 := c3 (j : Int)
    rw [hbal (j : Int) (by omega) hj10] at cb1
    have hst := balUp_step (j : Int) l
    have b1 := sumBy_bound (l := l) (g := balUp (j : Int)) (B := 400000000000) fun x hx => by
      have := hab x hx
      unfold balUp; split <;> split <;> omega
    have b2 := sumBy_bound (l := l) (g := balUp ((j : Int) + 1)) (B := 400000000000) fun x hx => by
      have := hab x hx
      unfold balUp; split <;> split <;> omega
    have hj1 : ((j + 1 : Nat) : Int) = (j : Int) + 1 := by omega
    have hws : wr (sumBy (balUp (j : Int)) l + sumBy (balG (j : Int)) l) = sumBy (balUp ((j : Int) + 1)) l := by rw [wr_of] <;> omega
    simp only [gi_z, gi_s, hj10, decide_true, iteB_t, cb1, callO_val, Bool.not_true, iteB_f, hws, hw, hj1]
  have hilld : il (ints d) = d.length := il_map _ _
  simp only [blkO_br, gi_z, decide_true, Bool.not_true, iteB_f, seqO_nx, gb_z, hilld, beq_dec]
  by_cases hd0 : d.length = 0
  · have := hnil hd0
    simp [hd0, this]
  · have hd0' : ¬ (d.length : Int) = 0 := by omega
    simp only [hd0', decide_false, iteB_f]
    rw [loop_ix p.ss.length (fun i => [ci (i : Int)]) (some (.br 6 [])) ?hv (fun i hi => ?hs) ?he (by simp)]
    case hv => rfl
    case he => simp
    case hs =>
      have hw := wr_nat (show i < 9223372036854775807 by omega)
      have hii : (i : Int) < p.ss.length := by omega
      have hel : el (p.ss.map Held.cv) (i : Int) = Held.cv p.ss[i] := el_map hi
      have hin : inb (i : Int) (p.ss.map Held.cv) = true := inb_map hi
      have hs : p.ss[i] ∈ p.ss := List.getElem_mem hi
      generalize p.ss[i] = s at *
      have hok9 : oks (List.replicate 9 li) (Held.cv s) 0 = true := rfl
      have hse := hset s hs (by omega)
      have hcat : cat [[.row 24 (p.ts.map Tariff.cv), .row 9 (p.ss.map Held.cv), .row 7 (p.ns.map Note.cv)], cis (Held.cv s) 0 9, [CV.row 1 (ints d), CV.val (Value.slice none 0 0), CV.row 5 (l.map Post.cv)]] = [.row 24 (p.ts.map Tariff.cv), .row 9 (p.ss.map Held.cv), .row 7 (p.ns.map Note.cv), ci s.src, ci s.beast, ci s.sort, ci s.eats, ci s.worth, ci s.drv, ci s.day, ci s.known, ci s.til, .row 1 (ints d), .val (.slice none 0 0), .row 5 (l.map Post.cv)] := rfl
      have hse' := (settled_nil (n + 11) (p.ts.map Tariff.cv) (p.ss.map Held.cv) (p.ns.map Note.cv) s (ints d) (l.map Post.cv)).trans hse
      simp only [gi_z, hii, decide_true, iteB_t, hin, hel, hok9, chk_true, hcat, hse', callO_val, gb_z, Bool.not_true, iteB_f, hw]
    · rfl
end Go.Proofs.Ytabhbdehbpmpkaa
namespace Go.Proofs.Ytabhbdehbpmpkaa
open Go Go.Sx Go.Fine Go.ChangeShapes Go.WideShapes Go.ChangeAt Go.RowKit
set_option maxRecDepth 100000
theorem Try.own : ownKnob Try.prog.godebug = none := by kernel_rfl
theorem Try.kids : Kids Try.prog (· < Try.prog.types.size) := kids_rows (by kernel_rfl) (by kernel_rfl)
theorem Try.full : ∀ t e, t < Try.prog.types.size → Try.prog.underlying t = some (.slice e) → 0 < Try.prog.cellsOf e := slices_full_of Try.prog (by kernel_rfl)
theorem spec_of {f : FuncId} {g : Sig} {vs out : List CV} {n : Nat} (hg : sg f = some g) (h : D n f vs = some out) : SpecR Try.prog f (Sc.avs g.ps vs 0) (Sc.res g.rs out) := (den_fns its_ok tb_ok n).spec f g vs out hg h
end Go.Proofs.Ytabhbdehbpmpkaa
namespace Go.Proofs.Ytabhbdehbpmpkaa
open Go Go.Sx Go.Fine Go.ChangeShapes Go.WideShapes Go.ChangeAt Go.RowKit
set_option maxRecDepth 100000
theorem finePaid_spec (css : List (List CV)) (h : ShpAll Try.prog 6 Try.f10.params.toList css) : SpecR Try.prog 10 (avsOf Try.prog Try.f10.params.toList css) (.cv (cb true)) := by
  rw [Try.params10] at h ⊢
  match css, h with
  | [c1, c2], h =>
    simp only [ShpAll, and_true] at h
    obtain ⟨h1, h2⟩ := h
    obtain ⟨p0, hp0, rfl⟩ := shp_raw h1
    obtain ⟨l1, hp1, rfl⟩ := shp_slice_int h2
    exact spec_of (g := fe10.g) rfl (w_FinePaid 0 p0 l1 hp0 (by omega))
  | [], h => simp [ShpAll] at h
  | [_], h => simp [ShpAll] at h
  | _ :: _ :: _ :: _, h => simp [ShpAll] at h
theorem finePaid_lifted (os : Os) (started : os.Started) (H : Type) (enc : TypeId × Value → H) :
    ReturnsInHanded {} Try.checked os 10 .any (Rows.finePaidSpec.pre6 enc Try.prog Try.f10 Rows.finePaidRow.domain false) (Rows.finePaidSpec.post enc Try.prog Try.f10 false true false false) :=
  law_lift (C := Try.checked) (tb := 4) 6 Try.own started (by kernel_rfl) Try.func10 Try.kids Try.full
    (by rw [Try.params10]; intro t ht; simp only [List.mem_cons, List.not_mem_nil, or_false] at ht; rcases ht with rfl | rfl <;> exact of_decide_eq_true (by kernel_rfl))
    (by kernel_rfl) (by rfl) Try.underlying4 rfl
    (fun ds h => by
      rw [Try.params10] at h
      match ds, h with
      | [_, _], _ => rfl)
    (ChangeSpec.witness6 (enc := enc) (C := Try.checked) false ⟨#[], #[.agg #[.slice none 0 0, .slice none 0 0, .slice none 0 0], .slice none 0 0], []⟩ 8 (by kernel_rfl) (by kernel_rfl) (by kernel_rfl) (by kernel_rfl))
    finePaid_spec
theorem finePaid_holds : Rows.FinePaidSaid :=
  OpenClaim.holds_of_wide 10 Try.f10 rfl rfl rfl rfl rfl rfl rfl ⟨rfl, rfl, rfl, rfl, rfl⟩ rfl rfl rfl rfl rfl (by kernel_rfl) Try.func10 (by kernel_rfl)
    (of_decide_eq_true (by kernel_rfl)) (by unfold Func.isWrapper; first | (rw [if_pos (by decide +kernel)]; kernel_rfl) | (rw [if_neg (by decide +kernel)]; exact ⟨rfl, rfl⟩))
    (fun os started H enc _ => finePaid_lifted os started H enc)
end Go.Proofs.Ytabhbdehbpmpkaa
