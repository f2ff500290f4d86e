/-
  Proved: what an owner owes, which stays are inside, ended in a way, and moved by a source, are as the chapter says; conditions: none.
-/
import Derived.KernelRfl
import Derived.Test.YtabhbdehbpmpkaaGreatRows
import Derived.Test.YtabhbdehbpmpkaaGreatP10
namespace Go.Proofs.YtabhbdehbpmpkaaGreat
open Go Go.Sx Go.Fine
set_option maxRecDepth 10000
attribute [local simp] Bool.and_assoc Bool.or_assoc
noncomputable section
def paidX (M : Den) (a0_0 a0_1 a0_2 : List (List CV)) (sc : List CV) (day : Int) : Option Ou := (callO (M n_fine_counts [ci (gi sc 7), ci (gi sc 8), ci day]) fun v2 =>
                      iteB (!(gb v2 0))
                        (some (.ret ([CV.row 3 []])))
                        (callO (M n_fine_due (cat [[CV.row 24 a0_0, CV.row 9 a0_1, CV.row 7 a0_2], cis sc 0 9, [ci day]])) fun v3 =>
                        iteB ((gi v3 0) == (-1))
                          (some (.ret ([CV.row 3 []])))
                          (chk (okEs [(.int .i64), (.int .i64)] (.int .i64) (entM 2 [ci (gi v3 0), ci 1] (.int .i64 0) (List.set (entM 2 [ci (gi v3 0), ci 0] (.int .i64 0) []) 0 [ci (gi v3 0), ci 0, ci (wr (0 + (gi v3 3)))]))) <|
                          chk ((decide (0 ≤ (Int.ofNat (posM 2 [ci (gi v3 0), ci 1] (List.set (entM 2 [ci (gi v3 0), ci 0] (.int .i64 0) []) 0 [ci (gi v3 0), ci 0, ci (wr (0 + (gi v3 3)))]))))) && (decide ((Int.toNat (Int.ofNat (posM 2 [ci (gi v3 0), ci 1] (List.set (entM 2 [ci (gi v3 0), ci 0] (.int .i64 0) []) 0 [ci (gi v3 0), ci 0, ci (wr (0 + (gi v3 3)))])))) < (List.length (entM 2 [ci (gi v3 0), ci 1] (.int .i64 0) (List.set (entM 2 [ci (gi v3 0), ci 0] (.int .i64 0) []) 0 [ci (gi v3 0), ci 0, ci (wr (0 + (gi v3 3)))])))))) <|
                          seqO (iteB ((gi sc 5) != 0)
                              (chk (okEs [(.int .i64), (.int .i64)] (.int .i64) (List.set (entM 2 [ci (gi v3 0), ci 1] (.int .i64 0) (List.set (entM 2 [ci (gi v3 0), ci 0] (.int .i64 0) []) 0 [ci (gi v3 0), ci 0, ci (wr (0 + (gi v3 3)))])) (Int.toNat (Int.ofNat (posM 2 [ci (gi v3 0), ci 1] (List.set (entM 2 [ci (gi v3 0), ci 0] (.int .i64 0) []) 0 [ci (gi v3 0), ci 0, ci (wr (0 + (gi v3 3)))])))) ((List.take 2 (el (entM 2 [ci (gi v3 0), ci 1] (.int .i64 0) (List.set (entM 2 [ci (gi v3 0), ci 0] (.int .i64 0) []) 0 [ci (gi v3 0), ci 0, ci (wr (0 + (gi v3 3)))])) (Int.ofNat (posM 2 [ci (gi v3 0), ci 1] (List.set (entM 2 [ci (gi v3 0), ci 0] (.int .i64 0) []) 0 [ci (gi v3 0), ci 0, ci (wr (0 + (gi v3 3)))]))))) ++ ([ci (wr ((cI (lookM 2 [ci (gi v3 0), ci 1] (.int .i64 0) (List.set (entM 2 [ci (gi v3 0), ci 0] (.int .i64 0) []) 0 [ci (gi v3 0), ci 0, ci (wr (0 + (gi v3 3)))]))) + (gi v3 1)))])))) <|
                              chk (okEs [(.int .i64), (.int .i64)] (.int .i64) (List.set (entM 2 [ci (gi v3 0), ci 1] (.int .i64 0) (List.set (entM 2 [ci (gi v3 0), ci 0] (.int .i64 0) []) 0 [ci (gi v3 0), ci 0, ci (wr (0 + (gi v3 3)))])) (Int.toNat (Int.ofNat (posM 2 [ci (gi v3 0), ci 1] (List.set (entM 2 [ci (gi v3 0), ci 0] (.int .i64 0) []) 0 [ci (gi v3 0), ci 0, ci (wr (0 + (gi v3 3)))])))) ((List.take 2 (el (entM 2 [ci (gi v3 0), ci 1] (.int .i64 0) (List.set (entM 2 [ci (gi v3 0), ci 0] (.int .i64 0) []) 0 [ci (gi v3 0), ci 0, ci (wr (0 + (gi v3 3)))])) (Int.ofNat (posM 2 [ci (gi v3 0), ci 1] (List.set (entM 2 [ci (gi v3 0), ci 0] (.int .i64 0) []) 0 [ci (gi v3 0), ci 0, ci (wr (0 + (gi v3 3)))]))))) ++ ([ci (wr ((cI (lookM 2 [ci (gi v3 0), ci 1] (.int .i64 0) (List.set (entM 2 [ci (gi v3 0), ci 0] (.int .i64 0) []) 0 [ci (gi v3 0), ci 0, ci (wr (0 + (gi v3 3)))]))) + (gi v3 1)))])))) <|
                              chk (okEs [(.int .i64), (.int .i64)] (.int .i64) (entM 2 [ci (gi v3 0), ci (wr (2 + (gi sc 5)))] (.int .i64 0) (List.set (entM 2 [ci (gi v3 0), ci 1] (.int .i64 0) (List.set (entM 2 [ci (gi v3 0), ci 0] (.int .i64 0) []) 0 [ci (gi v3 0), ci 0, ci (wr (0 + (gi v3 3)))])) (Int.toNat (Int.ofNat (posM 2 [ci (gi v3 0), ci 1] (List.set (entM 2 [ci (gi v3 0), ci 0] (.int .i64 0) []) 0 [ci (gi v3 0), ci 0, ci (wr (0 + (gi v3 3)))])))) ((List.take 2 (el (entM 2 [ci (gi v3 0), ci 1] (.int .i64 0) (List.set (entM 2 [ci (gi v3 0), ci 0] (.int .i64 0) []) 0 [ci (gi v3 0), ci 0, ci (wr (0 + (gi v3 3)))])) (Int.ofNat (posM 2 [ci (gi v3 0), ci 1] (List.set (entM 2 [ci (gi v3 0), ci 0] (.int .i64 0) []) 0 [ci (gi v3 0), ci 0, ci (wr (0 + (gi v3 3)))]))))) ++ ([ci (wr ((cI (lookM 2 [ci (gi v3 0), ci 1] (.int .i64 0) (List.set (entM 2 [ci (gi v3 0), ci 0] (.int .i64 0) []) 0 [ci (gi v3 0), ci 0, ci (wr (0 + (gi v3 3)))]))) + (gi v3 1)))]))))) <|
                              chk ((decide (0 ≤ (Int.ofNat (posM 2 [ci (gi v3 0), ci (wr (2 + (gi sc 5)))] (List.set (entM 2 [ci (gi v3 0), ci 1] (.int .i64 0) (List.set (entM 2 [ci (gi v3 0), ci 0] (.int .i64 0) []) 0 [ci (gi v3 0), ci 0, ci (wr (0 + (gi v3 3)))])) (Int.toNat (Int.ofNat (posM 2 [ci (gi v3 0), ci 1] (List.set (entM 2 [ci (gi v3 0), ci 0] (.int .i64 0) []) 0 [ci (gi v3 0), ci 0, ci (wr (0 + (gi v3 3)))])))) ((List.take 2 (el (entM 2 [ci (gi v3 0), ci 1] (.int .i64 0) (List.set (entM 2 [ci (gi v3 0), ci 0] (.int .i64 0) []) 0 [ci (gi v3 0), ci 0, ci (wr (0 + (gi v3 3)))])) (Int.ofNat (posM 2 [ci (gi v3 0), ci 1] (List.set (entM 2 [ci (gi v3 0), ci 0] (.int .i64 0) []) 0 [ci (gi v3 0), ci 0, ci (wr (0 + (gi v3 3)))]))))) ++ ([ci (wr ((cI (lookM 2 [ci (gi v3 0), ci 1] (.int .i64 0) (List.set (entM 2 [ci (gi v3 0), ci 0] (.int .i64 0) []) 0 [ci (gi v3 0), ci 0, ci (wr (0 + (gi v3 3)))]))) + (gi v3 1)))]))))))) && (decide ((Int.toNat (Int.ofNat (posM 2 [ci (gi v3 0), ci (wr (2 + (gi sc 5)))] (List.set (entM 2 [ci (gi v3 0), ci 1] (.int .i64 0) (List.set (entM 2 [ci (gi v3 0), ci 0] (.int .i64 0) []) 0 [ci (gi v3 0), ci 0, ci (wr (0 + (gi v3 3)))])) (Int.toNat (Int.ofNat (posM 2 [ci (gi v3 0), ci 1] (List.set (entM 2 [ci (gi v3 0), ci 0] (.int .i64 0) []) 0 [ci (gi v3 0), ci 0, ci (wr (0 + (gi v3 3)))])))) ((List.take 2 (el (entM 2 [ci (gi v3 0), ci 1] (.int .i64 0) (List.set (entM 2 [ci (gi v3 0), ci 0] (.int .i64 0) []) 0 [ci (gi v3 0), ci 0, ci (wr (0 + (gi v3 3)))])) (Int.ofNat (posM 2 [ci (gi v3 0), ci 1] (List.set (entM 2 [ci (gi v3 0), ci 0] (.int .i64 0) []) 0 [ci (gi v3 0), ci 0, ci (wr (0 + (gi v3 3)))]))))) ++ ([ci (wr ((cI (lookM 2 [ci (gi v3 0), ci 1] (.int .i64 0) (List.set (entM 2 [ci (gi v3 0), ci 0] (.int .i64 0) []) 0 [ci (gi v3 0), ci 0, ci (wr (0 + (gi v3 3)))]))) + (gi v3 1)))])))))) < (List.length (entM 2 [ci (gi v3 0), ci (wr (2 + (gi sc 5)))] (.int .i64 0) (List.set (entM 2 [ci (gi v3 0), ci 1] (.int .i64 0) (List.set (entM 2 [ci (gi v3 0), ci 0] (.int .i64 0) []) 0 [ci (gi v3 0), ci 0, ci (wr (0 + (gi v3 3)))])) (Int.toNat (Int.ofNat (posM 2 [ci (gi v3 0), ci 1] (List.set (entM 2 [ci (gi v3 0), ci 0] (.int .i64 0) []) 0 [ci (gi v3 0), ci 0, ci (wr (0 + (gi v3 3)))])))) ((List.take 2 (el (entM 2 [ci (gi v3 0), ci 1] (.int .i64 0) (List.set (entM 2 [ci (gi v3 0), ci 0] (.int .i64 0) []) 0 [ci (gi v3 0), ci 0, ci (wr (0 + (gi v3 3)))])) (Int.ofNat (posM 2 [ci (gi v3 0), ci 1] (List.set (entM 2 [ci (gi v3 0), ci 0] (.int .i64 0) []) 0 [ci (gi v3 0), ci 0, ci (wr (0 + (gi v3 3)))]))))) ++ ([ci (wr ((cI (lookM 2 [ci (gi v3 0), ci 1] (.int .i64 0) (List.set (entM 2 [ci (gi v3 0), ci 0] (.int .i64 0) []) 0 [ci (gi v3 0), ci 0, ci (wr (0 + (gi v3 3)))]))) + (gi v3 1)))])))))))) <|
                              some (.nx ([CV.row 3 (List.set (entM 2 [ci (gi v3 0), ci (wr (2 + (gi sc 5)))] (.int .i64 0) (List.set (entM 2 [ci (gi v3 0), ci 1] (.int .i64 0) (List.set (entM 2 [ci (gi v3 0), ci 0] (.int .i64 0) []) 0 [ci (gi v3 0), ci 0, ci (wr (0 + (gi v3 3)))])) (Int.toNat (Int.ofNat (posM 2 [ci (gi v3 0), ci 1] (List.set (entM 2 [ci (gi v3 0), ci 0] (.int .i64 0) []) 0 [ci (gi v3 0), ci 0, ci (wr (0 + (gi v3 3)))])))) ((List.take 2 (el (entM 2 [ci (gi v3 0), ci 1] (.int .i64 0) (List.set (entM 2 [ci (gi v3 0), ci 0] (.int .i64 0) []) 0 [ci (gi v3 0), ci 0, ci (wr (0 + (gi v3 3)))])) (Int.ofNat (posM 2 [ci (gi v3 0), ci 1] (List.set (entM 2 [ci (gi v3 0), ci 0] (.int .i64 0) []) 0 [ci (gi v3 0), ci 0, ci (wr (0 + (gi v3 3)))]))))) ++ ([ci (wr ((cI (lookM 2 [ci (gi v3 0), ci 1] (.int .i64 0) (List.set (entM 2 [ci (gi v3 0), ci 0] (.int .i64 0) []) 0 [ci (gi v3 0), ci 0, ci (wr (0 + (gi v3 3)))]))) + (gi v3 1)))])))) (Int.toNat (Int.ofNat (posM 2 [ci (gi v3 0), ci (wr (2 + (gi sc 5)))] (List.set (entM 2 [ci (gi v3 0), ci 1] (.int .i64 0) (List.set (entM 2 [ci (gi v3 0), ci 0] (.int .i64 0) []) 0 [ci (gi v3 0), ci 0, ci (wr (0 + (gi v3 3)))])) (Int.toNat (Int.ofNat (posM 2 [ci (gi v3 0), ci 1] (List.set (entM 2 [ci (gi v3 0), ci 0] (.int .i64 0) []) 0 [ci (gi v3 0), ci 0, ci (wr (0 + (gi v3 3)))])))) ((List.take 2 (el (entM 2 [ci (gi v3 0), ci 1] (.int .i64 0) (List.set (entM 2 [ci (gi v3 0), ci 0] (.int .i64 0) []) 0 [ci (gi v3 0), ci 0, ci (wr (0 + (gi v3 3)))])) (Int.ofNat (posM 2 [ci (gi v3 0), ci 1] (List.set (entM 2 [ci (gi v3 0), ci 0] (.int .i64 0) []) 0 [ci (gi v3 0), ci 0, ci (wr (0 + (gi v3 3)))]))))) ++ ([ci (wr ((cI (lookM 2 [ci (gi v3 0), ci 1] (.int .i64 0) (List.set (entM 2 [ci (gi v3 0), ci 0] (.int .i64 0) []) 0 [ci (gi v3 0), ci 0, ci (wr (0 + (gi v3 3)))]))) + (gi v3 1)))])))))) ((List.take 2 (el (entM 2 [ci (gi v3 0), ci (wr (2 + (gi sc 5)))] (.int .i64 0) (List.set (entM 2 [ci (gi v3 0), ci 1] (.int .i64 0) (List.set (entM 2 [ci (gi v3 0), ci 0] (.int .i64 0) []) 0 [ci (gi v3 0), ci 0, ci (wr (0 + (gi v3 3)))])) (Int.toNat (Int.ofNat (posM 2 [ci (gi v3 0), ci 1] (List.set (entM 2 [ci (gi v3 0), ci 0] (.int .i64 0) []) 0 [ci (gi v3 0), ci 0, ci (wr (0 + (gi v3 3)))])))) ((List.take 2 (el (entM 2 [ci (gi v3 0), ci 1] (.int .i64 0) (List.set (entM 2 [ci (gi v3 0), ci 0] (.int .i64 0) []) 0 [ci (gi v3 0), ci 0, ci (wr (0 + (gi v3 3)))])) (Int.ofNat (posM 2 [ci (gi v3 0), ci 1] (List.set (entM 2 [ci (gi v3 0), ci 0] (.int .i64 0) []) 0 [ci (gi v3 0), ci 0, ci (wr (0 + (gi v3 3)))]))))) ++ ([ci (wr ((cI (lookM 2 [ci (gi v3 0), ci 1] (.int .i64 0) (List.set (entM 2 [ci (gi v3 0), ci 0] (.int .i64 0) []) 0 [ci (gi v3 0), ci 0, ci (wr (0 + (gi v3 3)))]))) + (gi v3 1)))])))) (Int.ofNat (posM 2 [ci (gi v3 0), ci (wr (2 + (gi sc 5)))] (List.set (entM 2 [ci (gi v3 0), ci 1] (.int .i64 0) (List.set (entM 2 [ci (gi v3 0), ci 0] (.int .i64 0) []) 0 [ci (gi v3 0), ci 0, ci (wr (0 + (gi v3 3)))])) (Int.toNat (Int.ofNat (posM 2 [ci (gi v3 0), ci 1] (List.set (entM 2 [ci (gi v3 0), ci 0] (.int .i64 0) []) 0 [ci (gi v3 0), ci 0, ci (wr (0 + (gi v3 3)))])))) ((List.take 2 (el (entM 2 [ci (gi v3 0), ci 1] (.int .i64 0) (List.set (entM 2 [ci (gi v3 0), ci 0] (.int .i64 0) []) 0 [ci (gi v3 0), ci 0, ci (wr (0 + (gi v3 3)))])) (Int.ofNat (posM 2 [ci (gi v3 0), ci 1] (List.set (entM 2 [ci (gi v3 0), ci 0] (.int .i64 0) []) 0 [ci (gi v3 0), ci 0, ci (wr (0 + (gi v3 3)))]))))) ++ ([ci (wr ((cI (lookM 2 [ci (gi v3 0), ci 1] (.int .i64 0) (List.set (entM 2 [ci (gi v3 0), ci 0] (.int .i64 0) []) 0 [ci (gi v3 0), ci 0, ci (wr (0 + (gi v3 3)))]))) + (gi v3 1)))]))))))) ++ ([ci (wr ((cI (lookM 2 [ci (gi v3 0), ci (wr (2 + (gi sc 5)))] (.int .i64 0) (List.set (entM 2 [ci (gi v3 0), ci 1] (.int .i64 0) (List.set (entM 2 [ci (gi v3 0), ci 0] (.int .i64 0) []) 0 [ci (gi v3 0), ci 0, ci (wr (0 + (gi v3 3)))])) (Int.toNat (Int.ofNat (posM 2 [ci (gi v3 0), ci 1] (List.set (entM 2 [ci (gi v3 0), ci 0] (.int .i64 0) []) 0 [ci (gi v3 0), ci 0, ci (wr (0 + (gi v3 3)))])))) ((List.take 2 (el (entM 2 [ci (gi v3 0), ci 1] (.int .i64 0) (List.set (entM 2 [ci (gi v3 0), ci 0] (.int .i64 0) []) 0 [ci (gi v3 0), ci 0, ci (wr (0 + (gi v3 3)))])) (Int.ofNat (posM 2 [ci (gi v3 0), ci 1] (List.set (entM 2 [ci (gi v3 0), ci 0] (.int .i64 0) []) 0 [ci (gi v3 0), ci 0, ci (wr (0 + (gi v3 3)))]))))) ++ ([ci (wr ((cI (lookM 2 [ci (gi v3 0), ci 1] (.int .i64 0) (List.set (entM 2 [ci (gi v3 0), ci 0] (.int .i64 0) []) 0 [ci (gi v3 0), ci 0, ci (wr (0 + (gi v3 3)))]))) + (gi v3 1)))]))))) + (gi v3 2)))])))])))
                              (some (.nx ([CV.row 3 (List.set (entM 2 [ci (gi v3 0), ci 1] (.int .i64 0) (List.set (entM 2 [ci (gi v3 0), ci 0] (.int .i64 0) []) 0 [ci (gi v3 0), ci 0, ci (wr (0 + (gi v3 3)))])) (Int.toNat (Int.ofNat (posM 2 [ci (gi v3 0), ci 1] (List.set (entM 2 [ci (gi v3 0), ci 0] (.int .i64 0) []) 0 [ci (gi v3 0), ci 0, ci (wr (0 + (gi v3 3)))])))) ((List.take 2 (el (entM 2 [ci (gi v3 0), ci 1] (.int .i64 0) (List.set (entM 2 [ci (gi v3 0), ci 0] (.int .i64 0) []) 0 [ci (gi v3 0), ci 0, ci (wr (0 + (gi v3 3)))])) (Int.ofNat (posM 2 [ci (gi v3 0), ci 1] (List.set (entM 2 [ci (gi v3 0), ci 0] (.int .i64 0) []) 0 [ci (gi v3 0), ci 0, ci (wr (0 + (gi v3 3)))]))))) ++ ([ci (wr ((cI (lookM 2 [ci (gi v3 0), ci 1] (.int .i64 0) (List.set (entM 2 [ci (gi v3 0), ci 0] (.int .i64 0) []) 0 [ci (gi v3 0), ci 0, ci (wr (0 + (gi v3 3)))]))) + (gi v3 1)))])))])))) fun v4 =>
                          some (.ret [CV.row 3 (gr v4 0)]))))
def recX1 (rc m1 : List (List CV)) (day src : Int) (out : List (List CV)) : Option Ou := (loopD (fun v4 =>
                          iteB (decide ((gi v4 0) < (il rc)))
                            (chk (inb (gi v4 0) rc) <|
                            chk (decide ((Int.toNat (gi v4 0)) < (List.length rc))) <|
                            chk (oks [li] (el rc (gi v4 0)) 0) <|
                            blkO 6 (loopD (fun v5 =>
                                iteB (decide ((gi v5 0) ≤ 101))
                                  (chk (okEs [(.int .i64), (.int .i64)] (.int .i64) m1) <|
                                  seqO (iteB ((wr ((cI (lookM 2 [ci (gi v5 0), ci (gi (el rc (gi v4 0)) 0)] (.int .i64 0) m1)) - 0)) != 0)
                                      (some (.nx [cb ((gi v5 0) != (gi (el rc (gi v4 0)) 0))]))
                                      (some (.nx [cb false]))) fun v6 =>
                                  seqO (iteB (gb v6 0)
                                      (chk (fitA (List.length (gr v5 1)) 1 40) <|
                                      some (.nx ([CV.row 5 ((gr v5 1) ++ (chunk 5 1 ([ci day, ci src, ci (gi v5 0), ci (gi (el rc (gi v4 0)) 0), ci (wr ((cI (lookM 2 [ci (gi v5 0), ci (gi (el rc (gi v4 0)) 0)] (.int .i64 0) m1)) - 0))])))])))
                                      (some (.nx [CV.row 5 (gr v5 1)]))) fun v7 =>
                                  some (.nx [ci (wr ((gi v5 0) + 1)), CV.row 5 (gr v7 0)]))
                                  (some (.br 6 [CV.row 5 (gr v5 1)]))) [ci 2, CV.row 5 (gr v4 1)]) fun v5 =>
                            some (.nx [ci (wr ((gi v4 0) + 1)), CV.row 5 (gr v5 0)]))
                            (some (.br 4 [CV.row 5 (gr v4 1)]))) [ci 0, CV.row 5 out])
def recX2 (rc m1 m2 : List (List CV)) (day src : Int) (out : List (List CV)) : Option Ou := (loopD (fun v5 =>
                          iteB (decide ((gi v5 0) < (il rc)))
                            (chk (inb (gi v5 0) rc) <|
                            chk (decide ((Int.toNat (gi v5 0)) < (List.length rc))) <|
                            chk (oks [li] (el rc (gi v5 0)) 0) <|
                            blkO 6 (loopD (fun v6 =>
                                iteB (decide ((gi v6 0) ≤ 101))
                                  (chk (okEs [(.int .i64), (.int .i64)] (.int .i64) m1) <|
                                  chk (okEs [(.int .i64), (.int .i64)] (.int .i64) m2) <|
                                  seqO (iteB ((wr ((cI (lookM 2 [ci (gi v6 0), ci (gi (el rc (gi v5 0)) 0)] (.int .i64 0) m1)) - (cI (lookM 2 [ci (gi v6 0), ci (gi (el rc (gi v5 0)) 0)] (.int .i64 0) m2)))) != 0)
                                      (some (.nx [cb ((gi v6 0) != (gi (el rc (gi v5 0)) 0))]))
                                      (some (.nx [cb false]))) fun v7 =>
                                  seqO (iteB (gb v7 0)
                                      (chk (fitA (List.length (gr v6 1)) 1 40) <|
                                      some (.nx ([CV.row 5 ((gr v6 1) ++ (chunk 5 1 ([ci day, ci src, ci (gi v6 0), ci (gi (el rc (gi v5 0)) 0), ci (wr ((cI (lookM 2 [ci (gi v6 0), ci (gi (el rc (gi v5 0)) 0)] (.int .i64 0) m1)) - (cI (lookM 2 [ci (gi v6 0), ci (gi (el rc (gi v5 0)) 0)] (.int .i64 0) m2))))])))])))
                                      (some (.nx [CV.row 5 (gr v6 1)]))) fun v8 =>
                                  some (.nx [ci (wr ((gi v6 0) + 1)), CV.row 5 (gr v8 0)]))
                                  (some (.br 6 [CV.row 5 (gr v6 1)]))) [ci 2, CV.row 5 (gr v5 1)]) fun v6 =>
                            some (.nx [ci (wr ((gi v5 0) + 1)), CV.row 5 (gr v6 0)]))
                            (some (.br 4 [CV.row 5 (gr v5 1)]))) [ci 0, CV.row 5 out])
def postX (M : Den) (a0_0 a0_1 a0_2 a1 : List (List CV)) : Option Ou :=
    blkO 0 (loopD (fun v0 =>
            iteB (decide ((gi v0 0) < (il a1)))
              (chk (inb (gi v0 0) a1) <|
              chk (oks [li] (el a1 (gi v0 0)) 0) <|
              blkO 2 (loopD (fun v1 =>
                  iteB (decide ((gi v1 0) < (il a0_1)))
                    (chk (inb (gi v1 0) a0_1) <|
                    chk (oks (List.replicate 9 li) (el a0_1 (gi v1 0)) 0) <|
                    inlO (paidX M a0_0 a0_1 a0_2 (el a0_1 (gi v1 0)) (gi (el a1 (gi v0 0)) 0)) fun v2 =>
                    iteB (decide ((gi v0 0) > 0))
                      (chk (inb (wr ((gi v0 0) - 1)) a1) <|
                      chk (oks [li] (el a1 (wr ((gi v0 0) - 1))) 0) <|
                      inlO (paidX M a0_0 a0_1 a0_2 (el a0_1 (gi v1 0)) (gi (el a1 (wr ((gi v0 0) - 1))) 0)) fun v3 =>
                      seqO (iteB ((gi (el a0_1 (gi v1 0)) 5) != 0)
                          (some (.nx ([CV.row 1 ([[ci 0], [ci 1], [ci (wr (2 + (gi (el a0_1 (gi v1 0)) 5)))]])])))
                          (some (.nx ([CV.row 1 (chunk 1 2 [ci 0, ci 1])])))) fun v4 =>
                      blkO 4 (recX2 (gr v4 0) (gr v2 0) (gr v3 0) (gi (el a1 (gi v0 0)) 0) (gi (el a0_1 (gi v1 0)) 0) (gr v1 1)) fun v5 =>
                      some (.nx [ci (wr ((gi v1 0) + 1)), CV.row 5 (gr v5 0)]))
                      (seqO (iteB ((gi (el a0_1 (gi v1 0)) 5) != 0)
                          (some (.nx ([CV.row 1 ([[ci 0], [ci 1], [ci (wr (2 + (gi (el a0_1 (gi v1 0)) 5)))]])])))
                          (some (.nx ([CV.row 1 (chunk 1 2 [ci 0, ci 1])])))) fun v3 =>
                      blkO 4 (recX1 (gr v3 0) (gr v2 0) (gi (el a1 (gi v0 0)) 0) (gi (el a0_1 (gi v1 0)) 0) (gr v1 1)) fun v4 =>
                      some (.nx [ci (wr ((gi v1 0) + 1)), CV.row 5 (gr v4 0)])))
                    (some (.br 2 [CV.row 5 (gr v1 1)]))) [ci 0, CV.row 5 (gr v0 1)]) fun v1 =>
              some (.nx [ci (wr ((gi v0 0) + 1)), CV.row 5 (gr v1 0)]))
              (some (.br 0 [CV.row 5 (gr v0 1)]))) ([ci 0, CV.row 5 []])) fun v0 =>
        some (.ret [CV.row 5 (gr v0 0)])
theorem postX_eq (M : Den) (a0_0 a0_1 a0_2 a1 : List (List CV)) : R_fine_postings M a0_0 a0_1 a0_2 a1 = postX M a0_0 a0_1 a0_2 a1 := rfl
end
theorem posM_z (a b : Int) : posM 2 [ci a, ci b] [] = 0 := rfl
theorem posM_s (a b c d : Int) (r : List CV) (es : List (List CV)) : posM 2 [ci a, ci b] ((ci c :: ci d :: r) :: es) = if a = c ∧ b = d then 0 else posM 2 [ci a, ci b] es + 1 := by
  simp only [posM, ci, List.map_cons, List.map_nil, List.take_succ_cons, List.take_zero, cvV, eqB, vEq, Bool.and_true, beq_dec, Bool.and_eq_true, decide_eq_true_eq]
def paidRow (p : Acc) (s : Held) (k : Int) : List (List CV) :=
  if counts s.known s.til k = false ∨ (dueOf p s k).payer = -1 then [] else
    [ci (dueOf p s k).payer, ci 0, ci (dueOf p s k).lord] :: [ci (dueOf p s k).payer, ci 1, ci (dueOf p s k).hay] :: (if s.drv = 0 then [] else [[ci (dueOf p s k).payer, ci (2 + s.drv), ci (dueOf p s k).drv]])
theorem due_bounds {p : Acc} (hp : p.ok = true) {s : Held} (hs : s.ok = true) {k : Int} (hk : isDay k = true) : -100000000000 ≤ (dueOf p s k).lord ∧ (dueOf p s k).lord ≤ 100000000000 ∧ 0 ≤ (dueOf p s k).hay ∧ (dueOf p s k).hay ≤ 50000000000 ∧ 0 ≤ (dueOf p s k).drv ∧ (dueOf p s k).drv ≤ 50000000000 := by
  obtain ⟨y1, y2⟩ := payer_bounds hp hs k hk
  obtain ⟨t1, t2, t3⟩ := hay_bounds hp s.day
  obtain ⟨a1, a2, a3, a4⟩ := shares_wr _ (inForce p s.day).hay y1 y2 (by omega) (by omega)
  obtain ⟨b1, b2, b3, b4⟩ := shares_wr _ (inForce p s.day).drv y1 y2 (by omega) (by omega)
  unfold dueOf shares
  by_cases hd : s.drv = 0
  · simp only [hd, if_true]; omega
  · simp only [hd, if_false]; omega
theorem okE_cons (a b c : Int) (es : List (List CV)) : okEs [.int .i64, .int .i64] (.int .i64) ([ci a, ci b, ci c] :: es) = okEs [.int .i64, .int .i64] (.int .i64) es := rfl
theorem okE_nil : okEs [.int .i64, .int .i64] (.int .i64) [] = true := rfl
theorem w_paidX (n : Nat) (p : Acc) (s : Held) (k : Int) (hp : p.ok = true) (hs : s.ok = true) (hk : isDay k = true) : paidX (D (n + 6)) (p.ts.map Tariff.cv) (p.ss.map Held.cv) (p.ns.map Note.cv) s.cv k = some (.ret [.row 3 (paidRow p s k)]) := by
  have hb := due_bounds hp hs hk
  have hbs := Held.ok_b hs
  have e0 : wr (0 + (dueOf p s k).lord) = (dueOf p s k).lord := by rw [wr_of] <;> omega
  have e1 : wr ((dueOf p s k).hay) = (dueOf p s k).hay := by rw [wr_of] <;> omega
  have e2 : wr ((dueOf p s k).drv) = (dueOf p s k).drv := by rw [wr_of] <;> omega
  have e3 : wr (2 + s.drv) = 2 + s.drv := by rw [wr_of] <;> omega
  have hcv : s.cv = [ci s.src, ci s.beast, ci s.sort, ci s.eats, ci s.worth, ci s.drv, ci s.day, ci s.known, ci s.til] := rfl
  have zz : CV.val (.int .i64 0) = ci 0 := rfl
  unfold paidX
  simp only [hcv, gi_z, gi_s, w_counts, callO_val, gb_z, cat_s, cat_1, cis_s, cis_z, List.cons_append, List.nil_append, w_due _ _ _ _ hp hs hk, e0, e3]
  cases hc : counts s.known s.til k with
  | false => simp [paidRow, hc]
  | true =>
    by_cases hy : (dueOf p s k).payer = -1
    · simp [paidRow, hc, hy]
    · by_cases hd : s.drv = 0
      · simp [paidRow, hc, hy, hd, entM, lookM, posM_z, posM_s, zz, okE_cons, okE_nil, el, e1]
      · have n0 : ¬ (2 + s.drv = 0) := by omega
        have n1 : ¬ (2 + s.drv = 1) := by omega
        simp [paidRow, hc, hy, hd, entM, lookM, posM_z, posM_s, zz, okE_cons, okE_nil, el, e1, e2, n0, n1]
theorem look_nil (a b : Int) : cI (lookM 2 [ci a, ci b] (.int .i64 0) []) = 0 := rfl
theorem look_cons (a b c d v : Int) (es : List (List CV)) : lookM 2 [ci a, ci b] (.int .i64 0) ([ci c, ci d, ci v] :: es) = if a = c ∧ b = d then ci v else lookM 2 [ci a, ci b] (.int .i64 0) es := by
  unfold lookM
  rw [posM_s]
  by_cases h : a = c ∧ b = d
  · rw [if_pos h, if_pos h]; rfl
  · rw [if_neg h, if_neg h]; rfl
theorem recv_cases {s : Held} {r : Nat × Int} (h : r ∈ receivers s) : r = (0, 0) ∨ r = (1, 1) ∨ (r = (2, 2 + s.drv) ∧ s.drv ≠ 0) := by
  unfold receivers at h
  by_cases hd : s.drv = 0
  · simp [hd] at h; rcases h with h | h <;> simp [h]
  · simp [hd] at h; rcases h with h | h | h <;> simp [h, hd]
theorem look_paid (p : Acc) {s : Held} (hs : s.ok = true) (k : Int) {f : Int} (hf : 2 ≤ f) {r : Nat × Int} (hr : r ∈ receivers s) : cI (lookM 2 [ci f, ci r.2] (.int .i64 0) (paidRow p s k)) = paid p s (some k) f r.1 := by
  have hbs := Held.ok_b hs
  have hz : cI (lookM 2 [ci f, ci r.2] (.int .i64 0) []) = 0 := rfl
  unfold paidRow paid
  change _ = (if counts s.known s.til k = true ∧ (dueOf p s k).payer = f then share (dueOf p s k) r.1 else 0)
  by_cases hc : counts s.known s.til k = true
  · by_cases hy : (dueOf p s k).payer = -1
    · rw [if_pos (.inr hy), hz, if_neg (by rw [hy]; omega)]
    · rw [if_neg (by simp [hc, hy])]
      rcases recv_cases hr with rfl | rfl | ⟨rfl, hd⟩
      · simp only [look_cons]
        by_cases hfp : f = (dueOf p s k).payer
        · simp [hfp, hc, share]
        · have : ¬ (dueOf p s k).payer = f := fun h => hfp h.symm
          by_cases hd : s.drv = 0
          · simp [hfp, this, hd, look_nil]
          · simp [hfp, this, hd, look_nil, look_cons]
      · simp only [look_cons]
        by_cases hfp : f = (dueOf p s k).payer
        · simp [hfp, hc, share]
        · have : ¬ (dueOf p s k).payer = f := fun h => hfp h.symm
          by_cases hd : s.drv = 0
          · simp [hfp, this, hd, look_nil]
          · simp [hfp, this, hd, look_nil, look_cons]
      · have n0 : ¬ (2 + s.drv = 0) := by omega
        have n1 : ¬ (2 + s.drv = 1) := by omega
        simp only [look_cons, if_neg hd]
        by_cases hfp : f = (dueOf p s k).payer
        · simp [hfp, hc, share, n0, n1]
        · have : ¬ (dueOf p s k).payer = f := fun h => hfp h.symm
          simp [hfp, this, look_nil]
  · have hc' : counts s.known s.til k = false := by simpa using hc
    rw [if_pos (.inl hc'), hz, if_neg (by simp [hc'])]
theorem okE_paid (p : Acc) (s : Held) (k : Int) : okEs [.int .i64, .int .i64] (.int .i64) (paidRow p s k) = true := by
  unfold paidRow; split
  · rfl
  · split <;> rfl
theorem paid_bounds {p : Acc} (hp : p.ok = true) {s : Held} (hs : s.ok = true) (k : Option Int) (hk : ∀ d, k = some d → isDay d = true) (f : Int) (r : Nat) : -100000000000 ≤ paid p s k f r ∧ paid p s k f r ≤ 100000000000 := by
  cases k with
  | none => simp [paid]
  | some k =>
    have hb := due_bounds hp hs (hk k rfl)
    simp only [paid]
    split
    · unfold share; split <;> omega
    · omega
theorem loop_acc {A : Type} {step : List CV → Option Ou} (l : List A) (g : A → List (List CV)) (c L : Nat) (hg : ∀ x ∈ l, (g x).length ≤ c) (E : Nat → Int) (k b : Nat) (es0 : List (List CV)) (h0 : es0.length ≤ L) {vs : List CV} (hv : vs = [ci (E 0), .row k es0])
    (hs : ∀ i (h : i < l.length) (es : List (List CV)), es.length ≤ L + i * c → step [ci (E i), .row k es] = some (.nx [ci (E (i + 1)), .row k (es ++ g l[i])]))
    (he : ∀ es, step [ci (E l.length), .row k es] = some (.br b [.row k es])) : loopD step vs = some (.br b [.row k (es0 ++ l.flatMap g)]) := by
  have key : ∀ n, n ≤ l.length → ((l.take n).flatMap g).length ≤ n * c := by
    intro n
    induction n with
    | zero => intro _; simp
    | succ n ih =>
      intro h
      have := hg l[n] (List.getElem_mem (by omega))
      rw [take_succ (by omega), List.flatMap_append, List.length_append]
      simp only [List.flatMap_cons, List.flatMap_nil, List.append_nil]
      have := ih (by omega)
      rw [Nat.add_mul]; omega
  refine loop_ix l.length (fun i => [ci (E i), .row k (es0 ++ (l.take i).flatMap g)]) _ (by simp [hv]) (fun i hi => ?_) ?_ (by simp)
  · rw [hs i hi _ (by rw [List.length_append]; have := key i (by omega); omega), take_succ hi, List.flatMap_append]
    simp
  · simp only [List.take_length, he]
theorem filterMap_cv {A B : Type} (h : A → Option B) (cv : B → List CV) : ∀ (l : List A), (l.filterMap h).map cv = l.flatMap fun x => ((h x).map cv).toList
  | [] => rfl
  | x :: l => by
    rw [List.filterMap_cons, List.flatMap_cons, ← filterMap_cv h cv l]
    cases h x <;> rfl
theorem flatMap_cv {A B : Type} (h : A → List B) (cv : B → List CV) (l : List A) : (l.flatMap h).map cv = l.flatMap fun x => (h x).map cv := by
  induction l with
  | nil => rfl
  | cons x l ih => simp [List.flatMap_cons, ih]
def recRow (s : Held) : List (List CV) := (receivers s).map fun r => [ci r.2]
def toOne (p : Acc) (s : Held) (was : Option Int) (day : Int) (r : Nat × Int) (f : Int) : Option Post :=
  if paid p s (some day) f r.1 - paid p s was f r.1 ≠ 0 ∧ f ≠ r.2 then some ⟨day, s.src, f, r.2, paid p s (some day) f r.1 - paid p s was f r.1⟩ else none
theorem posted_eq (p : Acc) (s : Held) (was : Option Int) (day : Int) : posted p s was day = (receivers s).flatMap fun r => (upto 2 101).filterMap (toOne p s was day r) := rfl
theorem toOne_len (p : Acc) (s : Held) (was : Option Int) (day : Int) (r : Nat × Int) (f : Int) : (((toOne p s was day r f).map Post.cv).toList).length ≤ 1 := by
  cases toOne p s was day r f <;> simp
theorem one_len (p : Acc) (s : Held) (was : Option Int) (day : Int) (r : Nat × Int) : (((upto 2 101).filterMap (toOne p s was day r)).map Post.cv).length ≤ 100 := by
  rw [List.length_map]
  exact Nat.le_trans (List.length_filterMap_le _ _) (by rw [upto_length]; decide)
theorem recv_len (s : Held) : (receivers s).length ≤ 3 := by unfold receivers; split <;> simp
theorem posted_len (p : Acc) (s : Held) (was : Option Int) (day : Int) : (posted p s was day).length ≤ 300 := by
  rw [posted_eq, List.length_flatMap]
  have h : ∀ (l : List (Nat × Int)), (l.map fun r => ((upto 2 101).filterMap (toOne p s was day r)).length).sum ≤ l.length * 100 := by
    intro l
    induction l with
    | nil => simp
    | cons r l ih =>
      have := one_len p s was day r
      rw [List.length_map] at this
      simp only [List.map_cons, List.sum_cons, List.length_cons, Nat.add_mul]; omega
  have := h (receivers s)
  have := recv_len s
  omega
theorem recX2_eq (p : Acc) (s : Held) (w : Int) (k : Int) (hp : p.ok = true) (hs : s.ok = true) (hk : isDay k = true) (hw0 : isDay w = true) (out : List (List CV)) (ho : out.length ≤ 300000) :
    recX2 (recRow s) (paidRow p s k) (paidRow p s w) k s.src out = some (.br 4 [.row 5 (out ++ (posted p s (some w) k).map Post.cv)]) := by
  unfold recX2
  rw [posted_eq, flatMap_cv]
  refine loop_acc (receivers s) (fun r => ((upto 2 101).filterMap (toOne p s (some w) k r)).map Post.cv) 100 300000 (fun r _ => one_len p s (some w) k r) (fun i => (i : Int)) 5 4 out ho rfl (fun i hi es hes => ?_) (fun es => ?_)
  · have hl3 := recv_len s
    have hr : (receivers s)[i] ∈ receivers s := List.getElem_mem hi
    generalize hrr : (receivers s)[i] = r at hr
    have hw := wr_nat (show i < 9223372036854775807 by omega)
    have hel : el (recRow s) (i : Int) = [ci r.2] := by rw [recRow, el_map hi, hrr]
    have hin : inb (i : Int) (recRow s) = true := by rw [recRow]; exact inb_map hi
    have hil : il (recRow s) = (receivers s).length := by rw [recRow]; exact il_map _ _
    have hln : (recRow s).length = (receivers s).length := by rw [recRow, List.length_map]
    have hii : (i : Int) < (receivers s).length := by omega
    simp only [gi_z, gr_s, gr_z, hil, hii, decide_true, iteB_eq, if_true, hin, hln, Int.toNat_natCast, hi, hel, chk_true, oks_cons0, ok_ci, oks_z, Bool.and_self]
    rw [filterMap_cv]
    rw [loop_acc (upto 2 101) (fun f => ((toOne p s (some w) k r f).map Post.cv).toList) 1 310000 (fun f _ => toOne_len p s (some w) k r f) (fun j => 2 + (j : Int)) 5 6 es (by omega) ?hv (fun j hj es' hes' => ?hs') (fun es' => ?he')]
    case hv => rfl
    case he' => simp [upto_length]
    case hs' =>
      have hjl : j < 100 := by rw [upto_length] at hj; simpa using hj
      have hjf : (upto 2 101)[j]'hj = 2 + j := upto_get hj
      have hw2 : wr (2 + (j : Int) + 1) = 2 + ((j + 1 : Nat) : Int) := by rw [wr_of] <;> omega
      have hf2 : (2 : Int) ≤ 2 + j := by omega
      have b1 := paid_bounds hp hs (some k) (fun d h => by cases h; exact hk) (2 + j) r.1
      have b2 := paid_bounds hp hs (some w) (fun d h => by cases h; exact hw0) (2 + j) r.1
      have hl2 := look_paid p hs w hf2 hr
      have hwn : wr (paid p s (some k) (2 + j) r.1 - paid p s (some w) (2 + j) r.1) = paid p s (some k) (2 + j) r.1 - paid p s (some w) (2 + j) r.1 := by rw [wr_of] <;> omega
      have hl1 := look_paid p hs k hf2 hr
      have hfit : fitA es'.length 1 40 = true := fitA_of (by omega) (by omega)
      rw [hjf]
      have hle : (2 : Int) + j ≤ 101 := by omega
      simp only [gi_z, gi_s, gr_z, gr_s, hle, decide_true, iteB_eq, if_true, okE_paid, okE_nil, chk_true, hl1, hl2, hwn, hw2, hfit]
      unfold toOne
      by_cases c1 : paid p s (some k) (2 + j) r.1 - paid p s (some w) (2 + j) r.1 = 0
      · simp [c1]
      · by_cases c2 : (2 : Int) + j = r.2 <;> simp [c1, c2, Post.cv]
    · simp [hw]
  · have hil : il (recRow s) = (receivers s).length := by rw [recRow]; exact il_map _ _
    simp [hil]
theorem recX1_eq (p : Acc) (s : Held)  (k : Int) (hp : p.ok = true) (hs : s.ok = true) (hk : isDay k = true)  (out : List (List CV)) (ho : out.length ≤ 300000) :
    recX1 (recRow s) (paidRow p s k)  k s.src out = some (.br 4 [.row 5 (out ++ (posted p s none k).map Post.cv)]) := by
  unfold recX1
  rw [posted_eq, flatMap_cv]
  refine loop_acc (receivers s) (fun r => ((upto 2 101).filterMap (toOne p s none k r)).map Post.cv) 100 300000 (fun r _ => one_len p s none k r) (fun i => (i : Int)) 5 4 out ho rfl (fun i hi es hes => ?_) (fun es => ?_)
  · have hl3 := recv_len s
    have hr : (receivers s)[i] ∈ receivers s := List.getElem_mem hi
    generalize hrr : (receivers s)[i] = r at hr
    have hw := wr_nat (show i < 9223372036854775807 by omega)
    have hel : el (recRow s) (i : Int) = [ci r.2] := by rw [recRow, el_map hi, hrr]
    have hin : inb (i : Int) (recRow s) = true := by rw [recRow]; exact inb_map hi
    have hil : il (recRow s) = (receivers s).length := by rw [recRow]; exact il_map _ _
    have hln : (recRow s).length = (receivers s).length := by rw [recRow, List.length_map]
    have hii : (i : Int) < (receivers s).length := by omega
    simp only [gi_z, gr_s, gr_z, hil, hii, decide_true, iteB_eq, if_true, hin, hln, Int.toNat_natCast, hi, hel, chk_true, oks_cons0, ok_ci, oks_z, Bool.and_self]
    rw [filterMap_cv]
    rw [loop_acc (upto 2 101) (fun f => ((toOne p s none k r f).map Post.cv).toList) 1 310000 (fun f _ => toOne_len p s none k r f) (fun j => 2 + (j : Int)) 5 6 es (by omega) ?hv (fun j hj es' hes' => ?hs') (fun es' => ?he')]
    case hv => rfl
    case he' => simp [upto_length]
    case hs' =>
      have hjl : j < 100 := by rw [upto_length] at hj; simpa using hj
      have hjf : (upto 2 101)[j]'hj = 2 + j := upto_get hj
      have hw2 : wr (2 + (j : Int) + 1) = 2 + ((j + 1 : Nat) : Int) := by rw [wr_of] <;> omega
      have hf2 : (2 : Int) ≤ 2 + j := by omega
      have b1 := paid_bounds hp hs (some k) (fun d h => by cases h; exact hk) (2 + j) r.1
      have hl2 : True := trivial
      have hwn : wr (paid p s (some k) (2 + j) r.1 - 0) = paid p s (some k) (2 + j) r.1 - paid p s none (2 + j) r.1 := by rw [wr_of] <;> simp only [paid] at * <;> omega
      have hl1 := look_paid p hs k hf2 hr
      have hfit : fitA es'.length 1 40 = true := fitA_of (by omega) (by omega)
      rw [hjf]
      have hle : (2 : Int) + j ≤ 101 := by omega
      simp only [gi_z, gi_s, gr_z, gr_s, hle, decide_true, iteB_eq, if_true, okE_paid, okE_nil, chk_true, hl1, hl2, hwn, hw2, hfit]
      unfold toOne
      by_cases c1 : paid p s (some k) (2 + j) r.1 - paid p s none (2 + j) r.1 = 0
      · simp [c1]
      · by_cases c2 : (2 : Int) + j = r.2 <;> simp [c1, c2, Post.cv]
    · simp [hw]
  · have hil : il (recRow s) = (receivers s).length := by rw [recRow]; exact il_map _ _
    simp [hil]
def prs (w : Option Int) (l : List Int) : List (Option Int × Int) := (w :: l.map some).zip l
theorem postsGo_eq (p : Acc) : ∀ (l : List Int) (w : Option Int), postsGo p w l = (prs w l).flatMap fun x => p.ss.flatMap fun s => posted p s x.1 x.2
  | [], w => rfl
  | d :: l, w => by
    rw [postsGo, postsGo_eq p l (some d)]
    simp only [prs, List.map_cons, List.zip_cons_cons, List.flatMap_cons]
theorem prs_len (l : List Int) : (prs none l).length = l.length := by simp [prs]
theorem prs_get (l : List Int) (i : Nat) (h : i < (prs none l).length) : (prs none l)[i].2 = l[i]'(by rw [prs_len] at h; exact h) ∧ (prs none l)[i].1 = if h0 : i = 0 then none else some (l[i - 1]'(by rw [prs_len] at h; omega)) := by
  have hl := h
  rw [prs_len] at hl
  simp only [prs, List.getElem_zip, true_and]
  cases i with
  | zero => simp
  | succ i => simp
theorem recv_seq (s : Held) (hs : s.ok = true) (K : List CV → Option Ou) : seqO (iteB (s.drv != 0) (some (.nx ([CV.row 1 ([[ci 0], [ci 1], [ci (wr (2 + s.drv))]])]))) (some (.nx ([CV.row 1 (chunk 1 2 [ci 0, ci 1])])))) K = K [.row 1 (recRow s)] := by
  have hbs := Held.ok_b hs
  have e3 : wr (2 + s.drv) = 2 + s.drv := by rw [wr_of] <;> omega
  by_cases hd : s.drv = 0
  · simp [hd, recRow, receivers]
  · simp [hd, recRow, receivers, e3]
theorem cv_days {l : List Int} (h : daysOk l = true) : (∀ d ∈ l, isDay d = true) ∧ l.length ≤ 12 := by
  simp only [daysOk, Bool.and_eq_true, List.all_eq_true, decide_eq_true_eq] at h
  exact ⟨h.1.1, h.2⟩
theorem day_len (p : Acc) (hp : p.ok = true) (x : Option Int × Int) : ((p.ss.flatMap fun s => posted p s x.1 x.2).map Post.cv).length ≤ 18000 := by
  obtain ⟨_, h60, _⟩ := p.ok_len hp
  rw [List.length_map, List.length_flatMap]
  have h : ∀ (l : List Held), (l.map fun s => (posted p s x.1 x.2).length).sum ≤ l.length * 300 := by
    intro l
    induction l with
    | nil => simp
    | cons s l ih =>
      have := posted_len p s x.1 x.2
      simp only [List.map_cons, List.sum_cons, List.length_cons, Nat.add_mul]; omega
  have := h p.ss
  omega
@[simp] theorem w_postings (n : Nat) (p : Acc) (l : List Int) (hp : p.ok = true) (hl : daysOk l = true) : D (n + 7) n_fine_postings [.row 24 (p.ts.map Tariff.cv), .row 9 (p.ss.map Held.cv), .row 7 (p.ns.map Note.cv), .row 1 (ints l)] = some [.row 5 ((postsGo p none l).map Post.cv)] := by
  rw [q_fine_postings, postX_eq]
  obtain ⟨hdays, h12⟩ := cv_days hl
  obtain ⟨_, h60, _⟩ := p.ok_len hp
  unfold postX
  rw [postsGo_eq, flatMap_cv]
  rw [loop_acc (prs none l) (fun x => (p.ss.flatMap fun s => posted p s x.1 x.2).map Post.cv) 18000 0 (fun x _ => day_len p hp x) (fun i => (i : Int)) 5 0 [] (by simp) ?hv (fun i hi es hes => ?hs) (fun es => ?he)]
  case hv => rfl
  case he => simp [prs_len, ints]
  case hs =>
    obtain ⟨g2, g1⟩ := prs_get l i hi
    have hil : i < l.length := by rw [prs_len] at hi; exact hi
    generalize hx : (prs none l)[i] = x at g1 g2
    have hd1 : isDay l[i] = true := hdays _ (List.getElem_mem hil)
    have hw := wr_nat (show i < 9223372036854775807 by omega)
    have hel : el (ints l) (i : Int) = [ci l[i]] := el_map hil
    have hin : inb (i : Int) (ints l) = true := inb_map hil
    have hill : il (ints l) = l.length := il_map _ _
    have hii : (i : Int) < l.length := by omega
    simp only [gi_z, gr_s, gr_z, hill, hii, decide_true, iteB_eq, if_true, hin, hel, chk_true, oks_cons0, ok_ci, oks_z, Bool.and_self]
    rw [flatMap_cv]
    rw [loop_acc p.ss (fun s => (posted p s x.1 x.2).map Post.cv) 300 220000 (fun s _ => by rw [List.length_map]; exact posted_len p s x.1 x.2) (fun j => (j : Int)) 5 2 es (by omega) ?hv2 (fun j hj es' hes' => ?hs2) (fun es' => ?he2)]
    case hv2 => rfl
    case he2 => simp
    case hs2 =>
      have hjs : p.ss[j].ok = true := p.ok_s hp (List.getElem_mem hj)
      generalize hsj : p.ss[j] = s at hjs
      have hw2 := wr_nat (show j < 9223372036854775807 by omega)
      have hel2 : el (p.ss.map Held.cv) (j : Int) = s.cv := by rw [el_map hj, hsj]
      have hin2 : inb (j : Int) (p.ss.map Held.cv) = true := inb_map hj
      have hjj : (j : Int) < p.ss.length := by omega
      have hok9 : oks (List.replicate 9 li) s.cv 0 = true := rfl
      have hsd : gi s.cv 5 = s.drv := rfl
      have hss : gi s.cv 0 = s.src := rfl
      simp only [gi_z, gr_s, gr_z, il_map, hjj, decide_true, if_true, hin2, hel2, hok9, chk_true, w_paidX _ _ _ _ hp hjs hd1, inlO_ret, hsd, hss]
      by_cases h0 : i = 0
      · have hx1 : x.1 = none := by rw [g1, dif_pos h0]
        have hi0 : ¬ ((i : Int) > 0) := by omega
        rw [if_neg (by simpa using hi0)]
        have hrs := recv_seq s hjs
        simp only [iteB_eq] at hrs
        rw [hrs]
        simp only [gr_z]
        rw [recX1_eq p s l[i] hp hjs hd1 es' (by omega)]
        simp only [blkO_br, gr_z, hw2, hx1, g2]
      · have hx1 : x.1 = some (l[i - 1]'(by omega)) := by rw [g1, dif_neg h0]
        have hi0 : (i : Int) > 0 := by omega
        have hm : i - 1 < l.length := by omega
        have hwp := wr_pred (show 0 < i by omega) (show i < 9223372036854775807 by omega)
        have hel3 : el (ints l) ((i - 1 : Nat) : Int) = [ci (l[i - 1]'hm)] := el_map hm
        have hin3 : inb ((i - 1 : Nat) : Int) (ints l) = true := inb_map hm
        have hd0 : isDay (l[i - 1]'hm) = true := hdays _ (List.getElem_mem hm)
        rw [if_pos (by simpa using hi0)]
        simp only [hwp, hin3, hel3, chk_true, oks_cons0, ok_ci, oks_z, Bool.and_self, gi_z, w_paidX _ _ _ _ hp hjs hd0, inlO_ret, gr_z]
        have hrs := recv_seq s hjs
        simp only [iteB_eq] at hrs
        rw [hrs]
        simp only [gr_z]
        rw [recX2_eq p s (l[i - 1]'hm) l[i] hp hjs hd1 hd0 es' (by omega)]
        simp only [blkO_br, gr_z, hw2, hx1, g2]
    · simp [hw]
  · simp
end Go.Proofs.YtabhbdehbpmpkaaGreat
namespace Go.Proofs.YtabhbdehbpmpkaaGreat
open Go Go.Sx Go.Fine
set_option maxRecDepth 10000
attribute [local simp] Bool.and_assoc Bool.or_assoc
@[simp] theorem w_areDays (n : Nat) (l : List Int) (hl : l.length < 100000000000000000) : D (n + 3) n_fine_areDays [.row 1 (ints l)] = some [cb (daysOk l)] := by
  rw [q_fine_areDays]
  unfold R_fine_areDays
  have e1 : ((l.length : Int) ≤ 12) = (l.length ≤ 12) := by apply propext; omega
  rw [loop_find l.length (fun i => [ci (i : Int)]) (bad isDay id l) (fun i => some (.ret [cb false])) (some (.br 0 [])) ?hv ?hR ?hX
    (fun i hi hp => ?h1) (fun i hi hp => ?h2) ?h3]
  case hv => rfl
  case hR => simp
  case hX => simp
  case h3 => simp [ints]
  case h1 =>
    have hw := wr_nat (show i < 9223372036854775807 by omega)
    by_cases h0 : i = 0
    · subst h0
      simp [bad, hi] at hp
      have hw1 : wr 1 = 1 := by decide
      simp [ints, hi, inb_map0, el_map0, hp, hw1]
    · have h0' : 0 < i := by omega
      have hj : i - 1 < l.length := by omega
      have hwj := wr_pred h0' (show i < 9223372036854775807 by omega)
      simp only [bad, List.getElem?_eq_getElem hi, List.getElem?_eq_getElem hj, h0', decide_true, Bool.true_and, Bool.or_eq_false_iff, Bool.not_eq_false', decide_eq_false_iff_not, id] at hp
      simp [ints, hi, hj, inb_map, el_map, hp, hw, hwj, h0']
  case h2 =>
    by_cases h0 : i = 0
    · subst h0
      simp [bad, hi] at hp
      simp [ints, hi, inb_map0, el_map0, hp]
    · have h0' : 0 < i := by omega
      have hj : i - 1 < l.length := by omega
      have hwj := wr_pred h0' (show i < 9223372036854775807 by omega)
      simp only [bad, List.getElem?_eq_getElem hi, List.getElem?_eq_getElem hj, h0', decide_true, Bool.true_and, Bool.or_eq_true, Bool.not_eq_true', decide_eq_true_eq, id] at hp
      cases hk : isDay l[i] with
      | false => simp only [isDay] at hk; simp [ints, hi, hj, inb_map, el_map, hk, isDay, hwj, h0']
      | true =>
        have hp' : l[i] ≤ l[i - 1] := by simpa [hk] using hp
        simp only [isDay] at hk
        simp [ints, hi, hj, inb_map, el_map, hk, isDay, hp', hwj, h0']
  · have hb := bad_none isDay id l
    rw [List.map_id] at hb
    have e2 : il (ints l) = l.length := il_map _ _
    rw [daysOk, ← hb, e2]
    simp only [e1]
    cases (List.range l.length).find? (bad isDay id l) <;> simp
@[simp] theorem w_Posts (n : Nat) (p : Acc) (l : List Int) (hp : p.fits) (hl : l.length < 100000000000000000) : D (n + 9) n_fine_Posts [.row 24 (p.ts.map Tariff.cv), .row 9 (p.ss.map Held.cv), .row 7 (p.ns.map Note.cv), .row 1 (ints l)] = some [.row 5 ((posts p l).1.map Post.cv), ci (posts p l).2] := by
  rw [q_fine_Posts]
  simp only [R_fine_Posts, w_Check _ _ hp, callO_val, gi_z, bne_dec, iteB_eq, check]
  cases hok : p.ok with
  | false => simp [posts, hok]
  | true =>
    cases hd : daysOk l <;> simp [posts, hok, hd, hl]
def owedOf (p : Acc) (o k : Int) : Int × Int :=
  if p.ok = false then (0, 63) else if within o 1 99 = false then (0, 1) else if isDay k = false then (0, 6)
  else ((stays p k).foldl (fun a s => if (dueOf p s k).payer = 2 + o then a + ((dueOf p s k).hay + (dueOf p s k).drv + (dueOf p s k).lord) else a) 0, 0)
@[simp] theorem w_Owed (n : Nat) (p : Acc) (o k : Int) (hp : p.fits) : D (n + 9) n_fine_Owed [.row 24 (p.ts.map Tariff.cv), .row 9 (p.ss.map Held.cv), .row 7 (p.ns.map Note.cv), ci o, ci k] = some [ci (owedOf p o k).1, ci (owedOf p o k).2] := by
  rw [q_fine_Owed]
  unfold R_fine_Owed
  rw [w_Check _ _ hp]
  simp only [callO_val, gi_z, bne_dec, iteB_eq, check]
  cases hok : p.ok with
  | false => simp [owedOf, hok]
  | true =>
    cases ho : within o 1 99 with
    | false => simp [owedOf, hok, ho]
    | true =>
      cases hk : isDay k with
      | false => simp [owedOf, hok, ho, hk]
      | true =>
        obtain ⟨_, h60, _⟩ := p.ok_len hok
        have ho' := ho
        simp only [within, Bool.and_eq_true, decide_eq_true_eq] at ho'
        have e3 : wr (2 + o) = 2 + o := by rw [wr_of] <;> omega
        have hl : (stays p k).length ≤ 60 := Nat.le_trans (filter_len _ _) h60
        have hso : ∀ s ∈ stays p k, s.ok = true := fun s hs => p.ok_s hok (stays_mem hs)
        simp only [if_true, decide_true, Bool.not_true, Bool.false_eq_true, if_false, w_within, callO_val, gb_z, ho, w_isDay, hk, w_stays _ _ _ hok, gr_z]
        obtain ⟨T, hT⟩ : ∃ T : Nat → Int, T = fun i => ((stays p k).take i).foldl (fun a s => if (dueOf p s k).payer = 2 + o then a + ((dueOf p s k).hay + (dueOf p s k).drv + (dueOf p s k).lord) else a) 0 := ⟨_, rfl⟩
        have hTs : ∀ i (h : i < (stays p k).length), T (i + 1) = if (dueOf p (stays p k)[i] k).payer = 2 + o then T i + ((dueOf p (stays p k)[i] k).hay + (dueOf p (stays p k)[i] k).drv + (dueOf p (stays p k)[i] k).lord) else T i := by
          intro i h; simp only [hT]; rw [take_succ h, List.foldl_append]; rfl
        have hTb : ∀ i, i ≤ (stays p k).length → -(i : Int) * 200000000000 ≤ T i ∧ T i ≤ (i : Int) * 200000000000 := by
          intro i
          induction i with
          | zero => intro _; simp [hT]
          | succ i ih =>
            intro h
            have h1 := ih (by omega)
            have h2 := due_bounds hok (hso _ (List.getElem_mem (by omega : i < (stays p k).length))) hk
            rw [hTs i (by omega)]
            split <;> omega
        rw [loop_ix (stays p k).length (fun i => [ci (T i), ci (i : Int)]) (some (.br 0 [ci (T (stays p k).length)])) ?hv (fun i hi => ?hs) ?he ?hr]
        case hv => simp [hT]
        case hr => simp
        case he => simp
        case hs =>
          have hw := wr_nat (show i < 9223372036854775807 by omega)
          have hsi := hso _ (List.getElem_mem hi)
          have hb := due_bounds hok hsi hk
          have hti := hTb i (by omega)
          have hts := hTs i hi
          generalize hss : (stays p k)[i] = s at *
          have e1 : wr ((dueOf p s k).hay + (dueOf p s k).drv) = (dueOf p s k).hay + (dueOf p s k).drv := by rw [wr_of] <;> omega
          have e2 : wr ((dueOf p s k).hay + (dueOf p s k).drv + (dueOf p s k).lord) = (dueOf p s k).hay + (dueOf p s k).drv + (dueOf p s k).lord := by rw [wr_of] <;> omega
          have e4 : wr (T i + ((dueOf p s k).hay + (dueOf p s k).drv + (dueOf p s k).lord)) = T i + ((dueOf p s k).hay + (dueOf p s k).drv + (dueOf p s k).lord) := by rw [wr_of] <;> omega
          rw [hts]
          by_cases hpy : (dueOf p s k).payer = 2 + o <;> simp [hi, inb_map, el_map, hss, Held.cv, hok, hsi, hk, e1, e2, e3, e4, hw, hpy]
        · simp [owedOf, hok, ho, hk, hT]
end Go.Proofs.YtabhbdehbpmpkaaGreat
namespace Go.Proofs.YtabhbdehbpmpkaaGreat
open Go Go.Sx Go.Fine
set_option maxRecDepth 100000
attribute [local simp] Bool.and_assoc Bool.or_assoc
def exT : Tariff := ⟨0, 0, 12, 0, 0, 0, 0, 0, 0, 0, 0, 0, 4, 0, 0, 0, 0, 0, 0, 0, 0, 5, 20, 10⟩
def exH : Held := ⟨1, 7, 1, 20, 500, 9, 10, 10, 0⟩
def exA : Acc := ⟨[exT], [exH], [⟨2, 1, 1, 3, 13, 14, 0⟩, ⟨3, 1, 2, 0, 15, 15, 0⟩]⟩
def exZ : Acc := ⟨[exT], [exH], []⟩
def exN : Note := ⟨4, 1, 3, 6, 18, 18, 0⟩
def exM : Acc := ⟨[exT], [exH], [⟨2, 1, 1, 3, 13, 14, 0⟩, ⟨3, 1, 2, 0, 15, 15, 0⟩, exN]⟩
theorem ex_fits : exA.fits := ⟨by decide, by decide, by decide⟩
theorem exZ_fits : exZ.fits := ⟨by decide, by decide, by decide⟩
theorem exM_fits : exM.fits := ⟨by decide, by decide, by decide⟩
theorem ex1 : lotOf exA 1 14 = (⟨3, 13, 0, -1⟩, 0) := by kernel_rfl
theorem ex2 : chargedOf exA 1 13 = (⟨12, 40, 16⟩, 0) := by kernel_rfl
theorem ex3 : lotOf exA 1 20 = (⟨3, 13, 1, 15⟩, 0) := by kernel_rfl
theorem ex4 : duesOf exA 1 20 = (⟨5, 24, 12, 38⟩, 0) := by kernel_rfl
theorem ex9 : lotOf exZ 1 100 = (⟨0, -1, 2, 59⟩, 0) := by kernel_rfl
theorem ex8 : owedOf exA 3 20 = (74, 0) := by kernel_rfl
theorem ex6 : noted exA exN = (exM, 0) := by kernel_rfl
theorem ex5 : posts exA [13, 14, 20] = ([⟨14, 1, 5, 0, 38⟩, ⟨14, 1, 5, 1, 24⟩, ⟨14, 1, 5, 11, 12⟩], 0) := by kernel_rfl
theorem ex7 : (posts exM [15, 18]).2 = 0 ∧ (posts exM [15, 18]).1.length = 9 ∧ (posts exM [15, 18]).1[3]? = some ⟨18, 1, 5, 0, -38⟩ := ⟨by kernel_rfl, by kernel_rfl, by kernel_rfl⟩
theorem evF_args {P : Program} {sg : FuncId → Option Sig} {M : Den} {fe : FE} {c : Code} {vs vs' : List CV} (h : Sc.avs fe.g.ps vs 0 = Sc.avs fe.g.ps vs' 0) : evF P sg M fe c vs = evF P sg M fe c vs' := by unfold evF; rw [h]
theorem lot_nil (n : Nat) (a b : List (List CV)) (y k : Int) : D (n + 1) n_fine_Lot [.row 24 a, .row 9 b, .val (.slice none 0 0), ci y, ci k] = D (n + 1) n_fine_Lot [.row 24 a, .row 9 b, .row 7 [], ci y, ci k] :=
  evF_args (P := Tryz.prog) (sg := sg) (M := D n) (fe := fe15) (c := bodyOf Tryz.f15) rfl
theorem w_example (n : Nat) : D (n + 1) n_law06_example [] = some [.row 24 (exA.ts.map Tariff.cv), .row 9 (exA.ss.map Held.cv), .row 7 (exA.ns.map Note.cv)] := by rw [q_law06_example]; rfl
theorem w_sane (n : Nat) : D (n + 12) n_law06_sane [] = some [cb true] := by
  rw [q_law06_sane]
  have h0 : D (n + 11) n_law06_example [] = some [.row 24 (exA.ts.map Tariff.cv), .row 9 (exA.ss.map Held.cv), .row 7 (exA.ns.map Note.cv)] := w_example _
  have h1 := w_Lot n exA 1 14 ex_fits
  have h2 := w_Charged n exA 1 13 ex_fits
  have h3 := w_Lot n exA 1 20 ex_fits
  have h4 := w_Dues n exA 1 20 ex_fits
  have h5 := w_Posts (n + 2) exA [13, 14, 20] ex_fits (by decide)
  have h6 := w_Noted (n + 2) exA exN ex_fits
  have h7 := w_Posts (n + 2) exM [15, 18] exM_fits (by decide)
  have h8 := w_Owed (n + 2) exA 3 20 ex_fits
  have h9 := w_Lot n exZ 1 100 exZ_fits
  have h10 := w_Same (n + 10) (posts exA [13, 14, 20]).1 (posts exA [13, 14, 20]).1 (by rw [ex5]; decide)
  rw [ex1] at h1
  rw [ex2] at h2
  rw [ex3] at h3
  rw [ex4] at h4
  rw [ex5] at h5 h10
  rw [ex6] at h6
  rw [ex8] at h8
  rw [ex9] at h9
  rw [sameL_refl _ eqP_refl] at h10
  obtain ⟨g1, g2, g3⟩ := ex7
  rw [g1] at h7
  have h9' : D (n + 11) n_fine_Lot [.row 24 (exA.ts.map Tariff.cv), .row 9 (exA.ss.map Held.cv), .val (.slice none 0 0), ci 1, ci 100] = _ := (lot_nil (n + 10) _ _ _ _).trans h9
  have e3 : 3 < (posts exM [15, 18]).1.length := by rw [g2]; decide
  have e4 : (posts exM [15, 18]).1[3] = ⟨18, 1, 5, 0, -38⟩ := by
    have := List.getElem?_eq_getElem e3
    rw [g3] at this
    exact (Option.some.inj this).symm
  generalize hm : (posts exM [15, 18]).1 = m at *
  simp only [ints, List.map_cons, List.map_nil] at h5 h7
  simp only [exN] at h6
  have c5 : chunk 5 3 [ci 14, ci 1, ci 5, ci 0, ci 38, ci 14, ci 1, ci 5, ci 1, ci 24, ci 14, ci 1, ci 5, ci 11, ci 12] = List.map Post.cv [⟨14, 1, 5, 0, 38⟩, ⟨14, 1, 5, 1, 24⟩, ⟨14, 1, 5, 11, 12⟩] := rfl
  have c3 : chunk 1 3 [ci 13, ci 14, ci 20] = [[ci 13], [ci 14], [ci 20]] := rfl
  have c2 : chunk 1 2 [ci 15, ci 18] = [[ci 15], [ci 18]] := rfl
  have hm3 : el (m.map Post.cv) 3 = Post.cv ⟨18, 1, 5, 0, -38⟩ := by
    rw [show (3 : Int) = ((3 : Nat) : Int) from rfl, el_map e3, e4]
  have hg3 : List.getD (m.map Post.cv) 3 [] = Post.cv ⟨18, 1, 5, 0, -38⟩ := by simp [e3, e4]
  have hi3 : inb 3 (m.map Post.cv) = true := by
    rw [show (3 : Int) = ((3 : Nat) : Int) from rfl]; exact inb_map e3
  unfold R_law06_sane
  simp only [h0, callO_val, gr_z, gr_s, h1, h2, h3, h4, c3, h5, h6, c2, h7, h8, h9', c5, h10]
  have h11 : D (n + 11) n_r06_Same [CV.row 5 [[ci 14, ci 1, ci 5, ci 0, ci 38], [ci 14, ci 1, ci 5, ci 1, ci 24], [ci 14, ci 1, ci 5, ci 11, ci 12]], CV.row 5 [[ci 14, ci 1, ci 5, ci 0, ci 38], [ci 14, ci 1, ci 5, ci 1, ci 24], [ci 14, ci 1, ci 5, ci 11, ci 12]]] = some [cb true] := h10
  simp [g2, hi3, hm3, hg3, Post.cv, h11, e4]
end Go.Proofs.YtabhbdehbpmpkaaGreat
namespace Go.Proofs.YtabhbdehbpmpkaaGreat
open Go Go.Sx Go.Fine
set_option maxRecDepth 10000
attribute [local simp] Bool.and_assoc Bool.or_assoc
end Go.Proofs.YtabhbdehbpmpkaaGreat
namespace Go.Proofs.YtabhbdehbpmpkaaGreat
open Go Go.Sx Go.Fine
set_option maxRecDepth 10000
attribute [local simp] Bool.and_assoc Bool.or_assoc
theorem iteB_f (x y : Option Ou) : iteB false x y = y := rfl
def without (p : Acc) (y : Int) : Acc := ⟨p.ts, p.ss.filter fun s => !decide (s.src = y), p.ns.filter fun n => !decide (n.src = y)⟩
def hasSrc (p : Acc) (y : Int) : Bool := p.ss.any (fun s => decide (s.src = y)) || p.ns.any (fun n => decide (n.src = y))
theorem filter_lt {A : Type} (q : A → Bool) (l : List A) : (l.filter fun x => !q x).length ≤ l.length ∧ ((l.filter fun x => !q x).length < l.length ↔ l.any q = true) := by
  induction l with
  | nil => simp
  | cons a l ih =>
    obtain ⟨h1, h2⟩ := ih
    cases h : q a
    · simp only [List.filter_cons, h, Bool.not_false, if_true, List.length_cons, List.any_cons, Bool.false_or]
      refine ⟨by omega, ?_⟩
      rw [← h2]; omega
    · simp only [List.filter_cons, h, Bool.not_true, Bool.false_eq_true, if_false, List.length_cons, List.any_cons, Bool.true_or]
      refine ⟨by omega, by simp; omega⟩
theorem v_without_c1 (M : Den) (s : Held) (c : List CV) : callV sg M (.fn n_fine_without_c1 [.ref c]) [ci s.src, ci s.beast, ci s.sort, ci s.eats, ci s.worth, ci s.drv, ci s.day, ci s.known, ci s.til] [.agg [li, li, li, li, li, li, li, li, li]] [.one lb] = M n_fine_without_c1 [ci s.src, ci s.beast, ci s.sort, ci s.eats, ci s.worth, ci s.drv, ci s.day, ci s.known, ci s.til, .ref c] := rfl
@[simp] theorem w_without_c1 (n : Nat) (s : Held) (y : Int) : D (n + 1) n_fine_without_c1 [ci s.src, ci s.beast, ci s.sort, ci s.eats, ci s.worth, ci s.drv, ci s.day, ci s.known, ci s.til, .ref [ci y]] = some [cb (decide (s.src = y))] := by
  rw [q_fine_without_c1]; simp [R_fine_without_c1]
theorem v_without_c2 (M : Den) (x : Note) (c : List CV) : callV sg M (.fn n_fine_without_c2 [.ref c]) [ci x.src, ci x.stay, ci x.kind, ci x.owner, ci x.day, ci x.known, ci x.til] [.agg [li, li, li, li, li, li, li]] [.one lb] = M n_fine_without_c2 [ci x.src, ci x.stay, ci x.kind, ci x.owner, ci x.day, ci x.known, ci x.til, .ref c] := rfl
@[simp] theorem w_without_c2 (n : Nat) (x : Note) (y : Int) : D (n + 1) n_fine_without_c2 [ci x.src, ci x.stay, ci x.kind, ci x.owner, ci x.day, ci x.known, ci x.til, .ref [ci y]] = some [cb (decide (x.src = y))] := by
  rw [q_fine_without_c2]; simp [R_fine_without_c2]
@[simp] theorem w_without (n : Nat) (p : Acc) (y : Int) (hp : p.ok = true) : D (n + 3) n_fine_without [.row 24 (p.ts.map Tariff.cv), .row 9 (p.ss.map Held.cv), .row 7 (p.ns.map Note.cv), ci y] = some [.row 24 ((without p y).ts.map Tariff.cv), .row 9 ((without p y).ss.map Held.cv), .row 7 ((without p y).ns.map Note.cv), cb (hasSrc p y)] := by
  rw [q_fine_without]
  obtain ⟨_, l1, l2⟩ := p.ok_len hp
  have hix := w_IndexFunc_Held (n + 1) p.ss (.fn n_fine_without_c1 [.ref [ci y]]) (fun s => decide (s.src = y)) (by omega) (fun s _ => by rw [v_without_c1]; simp)
  have hd := del_row 9 Held.cv hz.cv cv_Held_len cv_Held_oks cv_Held_cis (fun s => decide (s.src = y)) p.ss (by omega) hix (call := fun c => D (n + 2) n_fine_without_c1 (cat [c, [.ref [ci y]]])) (fun s _ => by simp [Held.cv])
  have hc := clone_row 9 72 Held.cv p.ss (by omega) (by omega)
  have hix2 := w_IndexFunc_Note (n + 1) p.ns (.fn n_fine_without_c2 [.ref [ci y]]) (fun x => decide (x.src = y)) (by omega) (fun x _ => by rw [v_without_c2]; simp)
  have hd2 := del_row 7 Note.cv (List.replicate 7 (ci 0)) cv_Note_len cv_Note_oks cv_Note_cis (fun x => decide (x.src = y)) p.ns (by omega) hix2 (call := fun c => D (n + 2) n_fine_without_c2 (cat [c, [.ref [ci y]]])) (fun x _ => by simp [Note.cv])
  have hc2 := clone_row 7 56 Note.cv p.ns (by omega) (by omega)
  unfold R_fine_without
  rw [hc]
  simp only [inlO_ret, gr_z]
  change retO (inlO (delX _ (fun c => D (n + 2) n_fine_without_c1 (cat [c, [.ref [ci y]]])) 9 hz.cv (p.ss.map Held.cv)) _) = _
  rw [hd, hc2]
  simp only [inlO_ret, gr_z]
  change retO (inlO (delX _ (fun c => D (n + 2) n_fine_without_c2 (cat [c, [.ref [ci y]]])) 7 (List.replicate 7 (ci 0)) (p.ns.map Note.cv)) _) = _
  rw [hd2]
  have a1 := filter_lt (fun s : Held => decide (s.src = y)) p.ss
  have a2 := filter_lt (fun x : Note => decide (x.src = y)) p.ns
  have e1 : wr (((p.ss.filter fun s => !decide (s.src = y)).length : Int) + ((p.ns.filter fun n => !decide (n.src = y)).length : Int)) = ((p.ss.filter fun s => !decide (s.src = y)).length : Int) + ((p.ns.filter fun n => !decide (n.src = y)).length : Int) := by rw [wr_of] <;> omega
  have e2 : wr ((p.ss.length : Int) + (p.ns.length : Int)) = (p.ss.length : Int) + (p.ns.length : Int) := by rw [wr_of] <;> omega
  have e3 : decide (((p.ss.filter fun s => !decide (s.src = y)).length : Int) + ((p.ns.filter fun n => !decide (n.src = y)).length : Int) < (p.ss.length : Int) + (p.ns.length : Int)) = hasSrc p y := by
    unfold hasSrc
    rw [Bool.eq_iff_iff, decide_eq_true_iff, Bool.or_eq_true, ← a1.2, ← a2.2]
    omega
  simp only [inlO_ret, gr_z, il_map, e1, e2, e3, without, retO_ret]
@[simp] theorem w_Without (n : Nat) (p : Acc) (y : Int) (hp : p.ok = true) : D (n + 1) n_r06_Without [.row 24 (p.ts.map Tariff.cv), .row 9 (p.ss.map Held.cv), .row 7 (p.ns.map Note.cv), ci y] = some [.row 24 ((without p y).ts.map Tariff.cv), .row 9 ((without p y).ss.map Held.cv), .row 7 ((without p y).ns.map Note.cv), cb (hasSrc p y)] := by
  rw [q_r06_Without]
  unfold R_r06_Without
  obtain ⟨l0, l1, l2⟩ := p.ok_len hp
  have hf0 : fitA 0 (p.ts.map Tariff.cv).length 192 = true := fitA_of (by simp; omega) (by simp; omega)
  rw [hf0, chk_true]
  rw [loop_ix p.ss.length (fun i => [cb ((p.ss.take i).any fun s => decide (s.src = y)), ci (i : Int), .row 24 (p.ts.map Tariff.cv), .row 7 [], .row 9 (((p.ss.take i).filter fun s => !decide (s.src = y)).map Held.cv)]) (some (.br 0 [cb (p.ss.any fun s => decide (s.src = y)), .row 24 (p.ts.map Tariff.cv), .row 7 [], .row 9 ((p.ss.filter fun s => !decide (s.src = y)).map Held.cv)])) ?hv (fun i hi => ?hs) ?he (by simp)]
  case hv => rfl
  case he => simp
  case hs =>
    have hw := wr_nat (show i < 9223372036854775807 by omega)
    have hfl := filter_len (fun s : Held => !decide (s.src = y)) (p.ss.take i)
    have htl : (p.ss.take i).length ≤ 60 := by simp; omega
    have hfit : fitA (((p.ss.take i).filter fun s => !decide (s.src = y)).map Held.cv).length 1 72 = true := fitA_of (by rw [List.length_map]; omega) (by rw [List.length_map]; omega)
    rw [take_succ hi, List.filter_append, List.any_append]
    have hel : el (p.ss.map Held.cv) (i : Int) = Held.cv p.ss[i] := el_map hi
    have hin : inb (i : Int) (p.ss.map Held.cv) = true := inb_map hi
    have hii1 : (i : Int) < p.ss.length := by omega
    generalize p.ss[i] = s at *
    have g0 : gi (List.drop 0 s.cv) 0 = s.src := rfl
    have o0 : oks [li] (List.drop 0 s.cv) 0 = true := rfl
    have o9 : oks (List.replicate 9 li) s.cv 0 = true := rfl
    have c9 : chunk 9 1 (cis s.cv 0 9) = [s.cv] := rfl
    simp only [gi_z, gi_s, gr_z, gr_s, gb_z, il_map, hii1, decide_true, iteB_eq, if_true, hin, hel, g0, o0, o9, c9, chk_true, hfit, hw, beq_dec]
    by_cases h : s.src = y
    · simp [h]
    · simp [h]
  simp only [blkO_br, gb_z, gr_z, gr_s]
  rw [loop_ix p.ns.length (fun i => [cb (p.ss.any (fun s => decide (s.src = y)) || (p.ns.take i).any fun s => decide (s.src = y)), ci (i : Int), .row 24 (p.ts.map Tariff.cv), .row 7 (((p.ns.take i).filter fun s => !decide (s.src = y)).map Note.cv), .row 9 ((p.ss.filter fun s => !decide (s.src = y)).map Held.cv)]) (some (.br 2 [cb (hasSrc p y), .row 24 (p.ts.map Tariff.cv), .row 7 ((p.ns.filter fun s => !decide (s.src = y)).map Note.cv), .row 9 ((p.ss.filter fun s => !decide (s.src = y)).map Held.cv)])) ?hv (fun i hi => ?hs) ?he (by simp)]
  case hv => simp
  case he => simp [hasSrc]
  case hs =>
    have hw := wr_nat (show i < 9223372036854775807 by omega)
    have hfl := filter_len (fun s : Note => !decide (s.src = y)) (p.ns.take i)
    have htl : (p.ns.take i).length ≤ 60 := by simp; omega
    have hfit : fitA (((p.ns.take i).filter fun s => !decide (s.src = y)).map Note.cv).length 1 56 = true := fitA_of (by rw [List.length_map]; omega) (by rw [List.length_map]; omega)
    rw [take_succ hi, List.filter_append, List.any_append]
    have hel : el (p.ns.map Note.cv) (i : Int) = Note.cv p.ns[i] := el_map hi
    have hin : inb (i : Int) (p.ns.map Note.cv) = true := inb_map hi
    have hii1 : (i : Int) < p.ns.length := by omega
    generalize p.ns[i] = s at *
    have g0 : gi (List.drop 0 s.cv) 0 = s.src := rfl
    have o0 : oks [li] (List.drop 0 s.cv) 0 = true := rfl
    have o9 : oks (List.replicate 7 li) s.cv 0 = true := rfl
    have c9 : chunk 7 1 (cis s.cv 0 7) = [s.cv] := rfl
    simp only [gi_z, gi_s, gr_z, gr_s, gb_z, il_map, hii1, decide_true, iteB_eq, if_true, hin, hel, g0, o0, o9, c9, chk_true, hfit, hw, beq_dec]
    by_cases h : s.src = y
    · simp [h]
    · simp [h]
  simp [without]
theorem without_ok {p : Acc} (hp : p.ok = true) (y : Int) : (without p y).ok = true := by
  have key : ∀ {A : Type} (ok : A → Bool) (num : A → Int) (q : A → Bool) (m : Nat) (l : List A), listOk ok num m l = true → listOk ok num m (l.filter q) = true := by
    intro A ok num q m l h
    simp only [listOk, Bool.and_eq_true, decide_eq_true_eq] at h ⊢
    refine ⟨⟨?_, ?_⟩, ?_⟩
    · exact List.all_eq_true.2 fun x hx => List.all_eq_true.1 h.1.1 x (List.mem_filter.1 hx).1
    · have h2 := h.1.2
      clear h
      induction l with
      | nil => rfl
      | cons a l ih =>
        obtain ⟨r1, r2⟩ := rising_cons (x := num a) (l := l.map num) h2
        have ih := ih r1
        rw [List.filter_cons]
        split
        · rw [List.map_cons]
          change ((match (l.filter q).map num with | [] => true | y :: _ => decide (num a < y)) && rising ((l.filter q).map num)) = true
          rw [ih, Bool.and_true]
          cases hl : (l.filter q).map num with
          | nil => rfl
          | cons z zs =>
            have hz : z ∈ (l.filter q).map num := by rw [hl]; simp
            obtain ⟨w, hw, rfl⟩ := List.mem_map.1 hz
            have := r2 (num w) (List.mem_map.2 ⟨w, (List.mem_filter.1 hw).1, rfl⟩)
            simpa using this
        · exact ih
    · exact Nat.le_trans (List.length_filter_le _ _) h.2
  simp only [Acc.ok, Bool.and_eq_true] at hp ⊢
  exact ⟨⟨hp.1.1, key _ _ _ _ _ hp.1.2⟩, key _ _ _ _ _ hp.2⟩
def eqD (a b : Due) : Bool := decide (a.payer = b.payer) && (decide (a.hay = b.hay) && (decide (a.drv = b.drv) && decide (a.lord = b.lord)))
theorem v_Moved_c1 (M : Den) (s : Held) (a b c d : List CV) : callV sg M (.fn n_fine_Moved_c1 [.ref a, .ref b, .ref c, .ref d]) [ci s.src, ci s.beast, ci s.sort, ci s.eats, ci s.worth, ci s.drv, ci s.day, ci s.known, ci s.til] [.agg [li, li, li, li, li, li, li, li, li]] [.one lb] = M n_fine_Moved_c1 [ci s.src, ci s.beast, ci s.sort, ci s.eats, ci s.worth, ci s.drv, ci s.day, ci s.known, ci s.til, .ref a, .ref b, .ref c, .ref d] := rfl
def movedOut (p q : Acc) (y k : Int) (s : Held) : Bool := !decide (s.src = y) && eqD (dueOf p s k) (dueOf q s k)
theorem w_Moved_c1 (n : Nat) (p q : Acc) (s : Held) (y k : Int) (hp : p.ok = true) (hq : q.ok = true) (hs : s.ok = true) (hk : isDay k = true) : D (n + 7) n_fine_Moved_c1 [ci s.src, ci s.beast, ci s.sort, ci s.eats, ci s.worth, ci s.drv, ci s.day, ci s.known, ci s.til, .ref [ci y], .ref [.row 24 (p.ts.map Tariff.cv), .row 9 (p.ss.map Held.cv), .row 7 (p.ns.map Note.cv)], .ref [ci k], .ref [.row 24 (q.ts.map Tariff.cv), .row 9 (q.ss.map Held.cv), .row 7 (q.ns.map Note.cv)]] = some [cb (movedOut p q y k s)] := by
  rw [q_fine_Moved_c1]
  have h1 := w_due n p s k hp hs hk
  have h2 := w_due n q s k hq hs hk
  have o3 : ∀ (a b c : List (List CV)), oks [.row 24, .row 9, .row 7] [.row 24 a, .row 9 b, .row 7 c] 0 = true := fun a b c => rfl
  simp only [R_fine_Moved_c1, oks_cons0, ok_ci, oks_z, Bool.and_self, chk_true, gi_z, gi_s, gr_z, gr_s, o3, h1, h2, callO_val, bne_dec, iteB_eq, beq_dec, Bool.and_true]
  by_cases h : s.src = y
  · simp [h, movedOut]
  · simp [h, movedOut, eqD] <;> rfl
def movedOf (p : Acc) (y k : Int) : List Int × Int :=
  if asked p k ≠ 0 then ([], asked p k) else if hasSrc p y = false then ([], 3) else (((stays p k).filter fun s => !movedOut p (without p y) y k s).map Held.src, 0)
@[simp] theorem w_Moved (n : Nat) (p : Acc) (y k : Int) (hp : p.fits) : D (n + 10) n_fine_Moved [.row 24 (p.ts.map Tariff.cv), .row 9 (p.ss.map Held.cv), .row 7 (p.ns.map Note.cv), ci y, ci k] = some [.row 1 (ints (movedOf p y k).1), ci (movedOf p y k).2] := by
  rw [q_fine_Moved]
  have hch : chunk 1 1 [ci k] = [[ci k]] := rfl
  unfold R_fine_Moved
  simp only [hch, w_check1 _ _ _ hp, callO_val, gi_z, bne_dec]
  by_cases h0 : asked p k = 0
  · obtain ⟨hok, hk⟩ := asked_ok h0
    obtain ⟨_, l1, l2⟩ := p.ok_len hok
    have hwo := w_without (n + 6) p y hok
    simp only [h0, decide_true, Bool.not_true, iteB_f, hwo, callO_val, gb_s, gb_z]
    cases hy : hasSrc p y with
    | false => simp [movedOf, h0, hy, ints]
    | true =>
      have hq := without_ok hok y
      have hlen : (stays p k).length ≤ 60 := Nat.le_trans (filter_len _ _) l1
      have hso : ∀ s ∈ stays p k, s.ok = true := fun s hs => p.ok_s hok (stays_mem hs)
      simp only [Bool.not_true, iteB_f, gr_z, gr_s]
      generalize hQ : without p y = q at *
      have hix := w_IndexFunc_Held (n + 8) p.ss (.fn n_fine_stays_c1 [.ref [ci k]]) (fun s => !counts s.known s.til k) (by omega) (fun s _ => by rw [v_stays_c1]; simp)
      have hd := del_row 9 Held.cv hz.cv cv_Held_len cv_Held_oks cv_Held_cis (fun s => !counts s.known s.til k) p.ss (by omega) hix (call := fun c => D (n + 9) n_fine_stays_c1 (cat [c, [.ref [ci k]]])) (fun s _ => by simp [Held.cv])
      have hc := clone_row 9 72 Held.cv p.ss (by omega) (by omega)
      have hst : (p.ss.filter fun s => !!counts s.known s.til k) = stays p k := by simp [stays]
      rw [hst] at hd
      have hix2 := w_IndexFunc_Held (n + 8) (stays p k) (.fn n_fine_Moved_c1 [.ref [ci y], .ref [.row 24 (p.ts.map Tariff.cv), .row 9 (p.ss.map Held.cv), .row 7 (p.ns.map Note.cv)], .ref [ci k], .ref [.row 24 (q.ts.map Tariff.cv), .row 9 (q.ss.map Held.cv), .row 7 (q.ns.map Note.cv)]]) (movedOut p q y k) (by omega) (fun s hs => by rw [v_Moved_c1]; exact w_Moved_c1 (n + 1) p q s y k hok hq (hso s hs) hk)
      have hd2 := del_row 9 Held.cv hz.cv cv_Held_len cv_Held_oks cv_Held_cis (movedOut p q y k) (stays p k) (by omega) hix2 (call := fun c => D (n + 9) n_fine_Moved_c1 (cat [c, [.ref [ci y], .ref [.row 24 (p.ts.map Tariff.cv), .row 9 (p.ss.map Held.cv), .row 7 (p.ns.map Note.cv)], .ref [ci k], .ref [.row 24 (q.ts.map Tariff.cv), .row 9 (q.ss.map Held.cv), .row 7 (q.ns.map Note.cv)]]])) (fun s hs => w_Moved_c1 (n + 2) p q s y k hok hq (hso s hs) hk)
      rw [hc]
      simp only [inlO_ret, gr_z]
      change retO (inlO (inlO (delX _ (fun c => D (n + 9) n_fine_stays_c1 (cat [c, [.ref [ci k]]])) 9 hz.cv (p.ss.map Held.cv)) _) _) = _
      rw [hd]
      simp only [inlO_ret, gr_z]
      change retO (inlO (delX _ (fun c => D (n + 9) n_fine_Moved_c1 (cat [c, [.ref [ci y], .ref [.row 24 (p.ts.map Tariff.cv), .row 9 (p.ss.map Held.cv), .row 7 (p.ns.map Note.cv)], .ref [ci k], .ref [.row 24 (q.ts.map Tariff.cv), .row 9 (q.ss.map Held.cv), .row 7 (q.ns.map Note.cv)]]])) 9 hz.cv ((stays p k).map Held.cv)) _) = _
      rw [hd2]
      have hfl := filter_len (fun s => !movedOut p q y k s) (stays p k)
      have hsrc := w_sources (n + 8) ((stays p k).filter fun s => !movedOut p q y k s) (by omega)
      simp only [inlO_ret, gr_z, hsrc, callO_val, retO_ret, movedOf, h0, hy, hQ, ne_eq, not_true_eq_false, Bool.true_eq_false, if_false]
  · simp [movedOf, h0, ints]
theorem v_ended_c1 (M : Den) (s : Held) (a b c : List CV) : callV sg M (.fn n_fine_ended_c1 [.ref a, .ref b, .ref c]) [ci s.src, ci s.beast, ci s.sort, ci s.eats, ci s.worth, ci s.drv, ci s.day, ci s.known, ci s.til] [.agg [li, li, li, li, li, li, li, li, li]] [.one lb] = M n_fine_ended_c1 [ci s.src, ci s.beast, ci s.sort, ci s.eats, ci s.worth, ci s.drv, ci s.day, ci s.known, ci s.til, .ref a, .ref b, .ref c] := rfl
def IsQ (M : Den) (f : CV) (q : Held → Fine.Lot → Bool) : Prop := ∀ (s : Held) (x : Fine.Lot), callV sg M f [ci s.src, ci s.beast, ci s.sort, ci s.eats, ci s.worth, ci s.drv, ci s.day, ci s.known, ci s.til, ci x.owner, ci x.stop, ci x.fin, ci x.day] [.agg (List.replicate 9 li), .agg (List.replicate 4 li)] [.one lb] = some [cb (q s x)]
theorem w_ended_c1 (n : Nat) (f : CV) (q : Held → Fine.Lot → Bool) (hf : IsQ (D (n + 5)) f q) (hraw : oks [.raw] [f] 0 = true) (p : Acc) (s : Held) (k : Int) (hp : p.ok = true) (hs : s.ok = true) (hk : isDay k = true) : D (n + 6) n_fine_ended_c1 [ci s.src, ci s.beast, ci s.sort, ci s.eats, ci s.worth, ci s.drv, ci s.day, ci s.known, ci s.til, .ref [f], .ref [.row 24 (p.ts.map Tariff.cv), .row 9 (p.ss.map Held.cv), .row 7 (p.ns.map Note.cv)], .ref [ci k]] = some [cb (!q s (lot p s k))] := by
  rw [q_fine_ended_c1]
  have h1 := w_lot n p s k hp hs hk
  have h2 := hf s (lot p s k)
  have o3 : ∀ (a b c : List (List CV)), oks [.row 24, .row 9, .row 7] [.row 24 a, .row 9 b, .row 7 c] 0 = true := fun a b c => rfl
  have e0 : List.getD [f] 0 dC = f := rfl
  simp only [R_fine_ended_c1, hraw, o3, oks_cons0, ok_ci, oks_z, Bool.and_self, chk_true, gi_z, gi_s, gr_z, gr_s, h1, callO_val, e0, cis_s, cis_z, cat_s, cat_1, List.cons_append, List.nil_append, h2, gb_z, retO_ret]
theorem w_ended (n : Nat) (f : CV) (q : Held → Fine.Lot → Bool) (hf : ∀ m, IsQ (D (m + 1)) f q) (hraw : oks [.raw] [f] 0 = true) (p : Acc) (k : Int) (hp : p.ok = true) (hk : isDay k = true) : D (n + 9) n_fine_ended [.row 24 (p.ts.map Tariff.cv), .row 9 (p.ss.map Held.cv), .row 7 (p.ns.map Note.cv), ci k, f] = some [.row 1 (ints (((stays p k).filter fun s => q s (lot p s k)).map Held.src))] := by
  rw [q_fine_ended]
  obtain ⟨_, l1, l2⟩ := p.ok_len hp
  have hlen : (stays p k).length ≤ 60 := Nat.le_trans (filter_len _ _) l1
  have hso : ∀ s ∈ stays p k, s.ok = true := fun s hs => p.ok_s hp (stays_mem hs)
  have hix := w_IndexFunc_Held (n + 7) p.ss (.fn n_fine_stays_c1 [.ref [ci k]]) (fun s => !counts s.known s.til k) (by omega) (fun s _ => by rw [v_stays_c1]; simp)
  have hd := del_row 9 Held.cv hz.cv cv_Held_len cv_Held_oks cv_Held_cis (fun s => !counts s.known s.til k) p.ss (by omega) hix (call := fun c => D (n + 8) n_fine_stays_c1 (cat [c, [.ref [ci k]]])) (fun s _ => by simp [Held.cv])
  have hc := clone_row 9 72 Held.cv p.ss (by omega) (by omega)
  have hst : (p.ss.filter fun s => !!counts s.known s.til k) = stays p k := by simp [stays]
  rw [hst] at hd
  have hix2 := w_IndexFunc_Held (n + 7) (stays p k) (.fn n_fine_ended_c1 [.ref [f], .ref [.row 24 (p.ts.map Tariff.cv), .row 9 (p.ss.map Held.cv), .row 7 (p.ns.map Note.cv)], .ref [ci k]]) (fun s => !q s (lot p s k)) (by omega) (fun s hs => by rw [v_ended_c1]; exact w_ended_c1 (n + 1) f q (hf _) hraw p s k hp (hso s hs) hk)
  have hd2 := del_row 9 Held.cv hz.cv cv_Held_len cv_Held_oks cv_Held_cis (fun s => !q s (lot p s k)) (stays p k) (by omega) hix2 (call := fun c => D (n + 8) n_fine_ended_c1 (cat [c, [.ref [f], .ref [.row 24 (p.ts.map Tariff.cv), .row 9 (p.ss.map Held.cv), .row 7 (p.ns.map Note.cv)], .ref [ci k]]])) (fun s hs => w_ended_c1 (n + 2) f q (hf _) hraw p s k hp (hso s hs) hk)
  unfold R_fine_ended
  rw [hc]
  simp only [inlO_ret, gr_z]
  change retO (inlO (inlO (delX _ (fun c => D (n + 8) n_fine_stays_c1 (cat [c, [.ref [ci k]]])) 9 hz.cv (p.ss.map Held.cv)) _) _) = _
  rw [hd]
  simp only [inlO_ret, gr_z]
  change retO (inlO (delX _ (fun c => D (n + 8) n_fine_ended_c1 (cat [c, [.ref [f], .ref [.row 24 (p.ts.map Tariff.cv), .row 9 (p.ss.map Held.cv), .row 7 (p.ns.map Note.cv)], .ref [ci k]]])) 9 hz.cv ((stays p k).map Held.cv)) _) = _
  rw [hd2]
  have hfl := filter_len (fun s => !!q s (lot p s k)) (stays p k)
  have hsrc := w_sources (n + 7) ((stays p k).filter fun s => !!q s (lot p s k)) (by omega)
  have hnn : ((stays p k).filter fun s => !!q s (lot p s k)) = (stays p k).filter fun s => q s (lot p s k) := by simp
  rw [hnn] at hsrc
  simp only [inlO_ret, gr_z, hnn, hsrc, callO_val, retO_ret]
theorem isQ_Inside (m : Nat) (k : Int) : IsQ (D (m + 1)) (.fn n_fine_Inside_c1 [.ref [ci k]]) fun s x => decide (s.day ≤ k) && decide (x.fin = 0) := by
  intro s x
  change D (m + 1) n_fine_Inside_c1 [ci s.src, ci s.beast, ci s.sort, ci s.eats, ci s.worth, ci s.drv, ci s.day, ci s.known, ci s.til, ci x.owner, ci x.stop, ci x.fin, ci x.day, .ref [ci k]] = _
  rw [q_fine_Inside_c1]
  by_cases h : s.day ≤ k <;> simp [R_fine_Inside_c1, h]
theorem isQ_Ended (m : Nat) (w : Int) : IsQ (D (m + 1)) (.fn n_fine_Ended_c1 [.ref [ci w]]) fun s x => decide (x.fin = w) := by
  intro s x
  change D (m + 1) n_fine_Ended_c1 [ci s.src, ci s.beast, ci s.sort, ci s.eats, ci s.worth, ci s.drv, ci s.day, ci s.known, ci s.til, ci x.owner, ci x.stop, ci x.fin, ci x.day, .ref [ci w]] = _
  rw [q_fine_Ended_c1]
  simp [R_fine_Ended_c1]
def insideOf (p : Acc) (k : Int) : List Int × Int := if asked p k ≠ 0 then ([], asked p k) else (((stays p k).filter fun s => decide (s.day ≤ k) && decide ((lot p s k).fin = 0)).map Held.src, 0)
def endedOf (p : Acc) (w k : Int) : List Int × Int :=
  if p.ok = false then ([], 63) else if within w 0 4 = false then ([], 1) else if isDay k = false then ([], 6) else (((stays p k).filter fun s => decide ((lot p s k).fin = w)).map Held.src, 0)
@[simp] theorem w_Inside (n : Nat) (p : Acc) (k : Int) (hp : p.fits) : D (n + 10) n_fine_Inside [.row 24 (p.ts.map Tariff.cv), .row 9 (p.ss.map Held.cv), .row 7 (p.ns.map Note.cv), ci k] = some [.row 1 (ints (insideOf p k).1), ci (insideOf p k).2] := by
  rw [q_fine_Inside]
  have hch : chunk 1 1 [ci k] = [[ci k]] := rfl
  simp only [R_fine_Inside, hch, w_check1 _ _ _ hp, callO_val, gi_z, bne_dec, iteB_eq]
  by_cases h0 : asked p k = 0
  · obtain ⟨hok, hk⟩ := asked_ok h0
    simp only [h0, decide_true, Bool.not_true, Bool.false_eq_true, if_false, w_ended n _ _ (fun m => isQ_Inside m k) rfl p k hok hk, callO_val, gr_z, retO_ret, insideOf, ne_eq, not_true_eq_false]
  · simp [insideOf, h0, ints]
@[simp] theorem w_Ended (n : Nat) (p : Acc) (w k : Int) (hp : p.fits) : D (n + 10) n_fine_Ended [.row 24 (p.ts.map Tariff.cv), .row 9 (p.ss.map Held.cv), .row 7 (p.ns.map Note.cv), ci w, ci k] = some [.row 1 (ints (endedOf p w k).1), ci (endedOf p w k).2] := by
  rw [q_fine_Ended]
  simp only [R_fine_Ended, w_Check _ _ hp, callO_val, gi_z, bne_dec, iteB_eq, check]
  cases hok : p.ok with
  | false => simp [endedOf, hok, ints]
  | true =>
    cases hw : within w 0 4 with
    | false => simp [endedOf, hok, hw, ints]
    | true =>
      cases hk : isDay k with
      | false => simp [endedOf, hok, hw, hk, ints]
      | true => simp [endedOf, hok, hw, hk, w_ended n _ _ (fun m => isQ_Ended m w) rfl p k hok hk]
end Go.Proofs.YtabhbdehbpmpkaaGreat
namespace Go.Proofs.YtabhbdehbpmpkaaGreat
open Go Go.Sx Go.Fine
set_option maxRecDepth 10000
attribute [local simp] Bool.and_assoc Bool.or_assoc
theorem lotOf_src {p : Acc} (hp : p.ok = true) {s : Held} (hs : s ∈ p.ss) {k : Int} (hk : isDay k = true) : lotOf p s.src k = if counts s.known s.til k = true then (lot p s k, 0) else (⟨0, 0, 0, 0⟩, 65) := by
  unfold lotOf; rw [stayOf_src hp hs hk]; split <;> simp
theorem duesOf_src {p : Acc} (hp : p.ok = true) {s : Held} (hs : s ∈ p.ss) {k : Int} (hk : isDay k = true) : duesOf p s.src k = if counts s.known s.til k = true then (dueOf p s k, 0) else (⟨0, 0, 0, 0⟩, 65) := by
  unfold duesOf; rw [stayOf_src hp hs hk]; split <;> simp
end Go.Proofs.YtabhbdehbpmpkaaGreat
namespace Go.Proofs.YtabhbdehbpmpkaaGreat
open Go Go.Sx Go.Fine
set_option maxRecDepth 10000
attribute [local simp] Bool.and_assoc Bool.or_assoc
theorem ask0 {p : Acc} (hp : p.ok = true) {k : Int} (hk : isDay k = true) : asked p k = 0 := by unfold asked; rw [if_pos hp, if_pos hk]
end Go.Proofs.YtabhbdehbpmpkaaGreat
namespace Go.Proofs.YtabhbdehbpmpkaaGreat
open Go Go.Sx Go.Fine
set_option maxRecDepth 10000
attribute [local simp] Bool.and_assoc Bool.or_assoc
theorem duesOf_none {p : Acc} (hp : p.ok = true) {y k : Int} (hk : isDay k = true) (h : ∀ t ∈ p.ss, t.src ≠ y) : duesOf p y k = (⟨0, 0, 0, 0⟩, 65) := by
  unfold duesOf; rw [stayOf_none hp hk h]; rfl
theorem dues_less {p : Acc} (hp : p.ok = true) {s : Held} (hs : s ∈ p.ss) {k : Int} (hk : isDay k = true) (y : Int) : duesOf (without p y) s.src k = if s.src = y then (⟨0, 0, 0, 0⟩, 65) else if counts s.known s.til k = true then (dueOf (without p y) s k, 0) else (⟨0, 0, 0, 0⟩, 65) := by
  by_cases h : s.src = y
  · rw [if_pos h, duesOf_none (without_ok hp y) hk]
    intro t ht e
    obtain ⟨h1, h2⟩ := List.mem_filter.1 ht
    simp [e, h] at h2
  · rw [if_neg h]
    exact duesOf_src (without_ok hp y) (List.mem_filter.2 ⟨hs, by simp [h]⟩) hk
end Go.Proofs.YtabhbdehbpmpkaaGreat
namespace Go.Proofs.YtabhbdehbpmpkaaGreat
open Go Go.Sx Go.Fine
set_option maxRecDepth 10000
attribute [local simp] Bool.and_assoc Bool.or_assoc
theorem stays_ok {p : Acc} (hp : p.ok = true) {k : Int} {s : Held} (hs : s ∈ stays p k) : s ∈ p.ss ∧ counts s.known s.til k = true := stays_iff.1 hs
theorem src_el {l : List Held} {i : Nat} (h : i < l.length) : el (ints (l.map Held.src)) (i : Int) = [ci l[i].src] := by
  have := el_map (f := fun x : Int => [ci x]) (l := l.map Held.src) (i := i) (by simpa using h)
  rw [List.getElem_map] at this
  exact this
theorem src_inb {l : List Held} {i : Nat} (h : i < l.length) : inb (i : Int) (ints (l.map Held.src)) = true := inb_map (by simpa using h)
theorem src_il (l : List Held) : il (ints (l.map Held.src)) = l.length := by unfold ints; rw [il_map, List.length_map]
@[simp] theorem w_Owed' (n : Nat) (p : Acc) (o k : Int) (hp : p.fits) : D (n + 8) n_r06_Owed [.row 24 (p.ts.map Tariff.cv), .row 9 (p.ss.map Held.cv), .row 7 (p.ns.map Note.cv), ci o, ci k] = some [ci (owedOf p o k).1, ci (owedOf p o k).2] := by
  rw [q_r06_Owed]
  unfold R_r06_Owed
  rw [w_Check' _ _ hp]
  simp only [callO_val, gi_z, bne_dec, iteB_eq, check]
  cases hok : p.ok with
  | false => simp [owedOf, hok]
  | true =>
    cases ho : within o 1 99 with
    | false => simp [owedOf, hok, ho]
    | true =>
      cases hk : isDay k with
      | false =>
        have ha : asked p k = 6 := by unfold asked; rw [if_pos hok, if_neg (by simp [hk])]
        have hst := w_Stays' (n + 1) p k hp
        rw [if_neg (by rw [ha]; decide), ha] at hst
        simp [owedOf, hok, ho, hk, hst]
      | true =>
        obtain ⟨_, h60, _⟩ := p.ok_len hok
        have ho' := ho
        simp only [within, Bool.and_eq_true, decide_eq_true_eq] at ho'
        have e3 : wr (2 + o) = 2 + o := by rw [wr_of] <;> omega
        have hl : (stays p k).length ≤ 60 := Nat.le_trans (filter_len _ _) h60
        have hso : ∀ s ∈ stays p k, s.ok = true := fun s hs => p.ok_s hok (stays_mem hs)
        have hst := w_Stays' (n + 1) p k hp
        rw [if_pos (ask0 hok hk)] at hst
        simp only [if_true, decide_true, Bool.not_true, Bool.false_eq_true, if_false, w_In, callO_val, gb_z, ho, hst, gi_s, gi_z, gr_z]
        obtain ⟨T, hT⟩ : ∃ T : Nat → Int, T = fun i => ((stays p k).take i).foldl (fun a s => if (dueOf p s k).payer = 2 + o then a + ((dueOf p s k).hay + (dueOf p s k).drv + (dueOf p s k).lord) else a) 0 := ⟨_, rfl⟩
        have hTs : ∀ i (h : i < (stays p k).length), T (i + 1) = if (dueOf p (stays p k)[i] k).payer = 2 + o then T i + ((dueOf p (stays p k)[i] k).hay + (dueOf p (stays p k)[i] k).drv + (dueOf p (stays p k)[i] k).lord) else T i := by
          intro i h; simp only [hT]; rw [take_succ h, List.foldl_append]; rfl
        have hTb : ∀ i, i ≤ (stays p k).length → -(i : Int) * 200000000000 ≤ T i ∧ T i ≤ (i : Int) * 200000000000 := by
          intro i
          induction i with
          | zero => intro _; simp [hT]
          | succ i ih =>
            intro h
            have h1 := ih (by omega)
            have h2 := due_bounds hok (hso _ (List.getElem_mem (by omega : i < (stays p k).length))) hk
            rw [hTs i (by omega)]
            split <;> omega
        rw [loop_ix (stays p k).length (fun i => [ci (T i), ci (i : Int)]) (some (.br 0 [ci (T (stays p k).length)])) ?hv (fun i hi => ?hs) ?he ?hr]
        case hv => simp [hT]
        case hr => simp
        case he => simp [src_il]
        case hs =>
          have hw := wr_nat (show i < 9223372036854775807 by omega)
          have hm := List.getElem_mem hi
          have hsi := hso _ hm
          have hb := due_bounds hok hsi hk
          have hti := hTb i (by omega)
          have hts := hTs i hi
          have hii : (i : Int) < (stays p k).length := by omega
          have hel := src_el hi
          have hin := src_inb hi
          generalize hss : (stays p k)[i] = s at *
          obtain ⟨m1, m2⟩ := stays_ok hok hm
          have hdu := w_Dues' n p s.src k hp
          rw [duesOf_src hok m1 hk, if_pos m2] at hdu
          have e1 : wr (T i + (dueOf p s k).lord) = T i + (dueOf p s k).lord := by rw [wr_of] <;> omega
          have e2 : wr (T i + (dueOf p s k).lord + (dueOf p s k).hay) = T i + (dueOf p s k).lord + (dueOf p s k).hay := by rw [wr_of] <;> omega
          have e4 : wr (T i + (dueOf p s k).lord + (dueOf p s k).hay + (dueOf p s k).drv) = T i + ((dueOf p s k).hay + (dueOf p s k).drv + (dueOf p s k).lord) := by rw [wr_of] <;> omega
          rw [hts]
          simp only [gi_z, gi_s, src_il, hii, decide_true, if_true, hin, hel, chk_true, oks_cons0, ok_ci, oks_z, Bool.and_self, hdu, callO_val, e3, e1, e2, e4, hw, beq_dec]
          by_cases hpy : (dueOf p s k).payer = 2 + o <;> simp [hpy]
        · simp [owedOf, hok, ho, hk, hT]
@[simp] theorem w_Ended' (n : Nat) (p : Acc) (w k : Int) (hp : p.fits) : D (n + 8) n_r06_Ended [.row 24 (p.ts.map Tariff.cv), .row 9 (p.ss.map Held.cv), .row 7 (p.ns.map Note.cv), ci w, ci k] = some [.row 1 (ints (endedOf p w k).1), ci (endedOf p w k).2] := by
  rw [q_r06_Ended]
  unfold R_r06_Ended
  rw [w_Check' _ _ hp]
  simp only [callO_val, gi_z, bne_dec, iteB_eq, check]
  cases hok : p.ok with
  | false => simp [endedOf, hok, ints]
  | true =>
    cases hw : within w 0 4 with
    | false => simp [endedOf, hok, hw, ints]
    | true =>
      cases hk : isDay k with
      | false =>
        have ha : asked p k = 6 := by unfold asked; rw [if_pos hok, if_neg (by simp [hk])]
        have hst := w_Stays' (n + 1) p k hp
        rw [if_neg (by rw [ha]; decide), ha] at hst
        simp [endedOf, hok, hw, hk, hst, ints]
      | true =>
        obtain ⟨_, h60, _⟩ := p.ok_len hok
        have hl : (stays p k).length ≤ 60 := Nat.le_trans (filter_len _ _) h60
        have hst := w_Stays' (n + 1) p k hp
        rw [if_pos (ask0 hok hk)] at hst
        simp only [if_true, decide_true, Bool.not_true, Bool.false_eq_true, if_false, w_In, callO_val, gb_z, hw, hst, gi_s, gi_z, gr_z]
        rw [loop_coll (stays p k) (fun s => decide ((lot p s k).fin = w)) (fun s => [ci s.src]) 1 0 ?hv (fun i hi es hes => ?hs) (fun es => ?he)]
        case hv => rfl
        case he => simp [src_il]
        case hs =>
          have hwi := wr_nat (show i < 9223372036854775807 by omega)
          have hm := List.getElem_mem hi
          have hii : (i : Int) < (stays p k).length := by omega
          have hel := src_el hi
          have hin := src_inb hi
          generalize hss : (stays p k)[i] = s at *
          obtain ⟨m1, m2⟩ := stays_ok hok hm
          have hlo := w_Lot' n p s.src k hp
          rw [lotOf_src hok m1 hk, if_pos m2] at hlo
          have hfit : fitA es.length 1 8 = true := fitA_of (by omega) (by omega)
          have hc : chunk 1 1 [ci s.src] = [[ci s.src]] := rfl
          simp only [gi_z, gi_s, gr_z, gr_s, src_il, hii, decide_true, if_true, hin, hel, chk_true, oks_cons0, ok_ci, oks_z, Bool.and_self, hlo, callO_val, hfit, hwi, beq_dec, hc]
          by_cases hf : (lot p s k).fin = w <;> simp [hf]
        · simp [endedOf, hok, hw, hk, ints, List.map_map, Function.comp_def]
@[simp] theorem w_Inside' (n : Nat) (p : Acc) (k : Int) (hp : p.fits) : D (n + 8) n_r06_Inside [.row 24 (p.ts.map Tariff.cv), .row 9 (p.ss.map Held.cv), .row 7 (p.ns.map Note.cv), ci k] = some [.row 1 (ints (insideOf p k).1), ci (insideOf p k).2] := by
  rw [q_r06_Inside]
  unfold R_r06_Inside
  rw [w_asked _ _ _ hp]
  simp only [callO_val, gi_z, bne_dec, iteB_eq]
  by_cases h0 : asked p k = 0
  · obtain ⟨hok, hk⟩ := asked_ok h0
    obtain ⟨_, h60, _⟩ := p.ok_len hok
    simp only [h0, decide_true, Bool.not_true, Bool.false_eq_true, if_false]
    rw [loop_coll p.ss (fun s => (decide (s.day ≤ k) && decide ((lot p s k).fin = 0)) && counts s.known s.til k) (fun s => [ci s.src]) 1 0 ?hv (fun i hi es hes => ?hs) (fun es => ?he)]
    case hv => rfl
    case he => simp
    case hs =>
      have hwi := wr_nat (show i < 9223372036854775807 by omega)
      have hm := List.getElem_mem hi
      have hii : (i : Int) < p.ss.length := by omega
      have hel : el (p.ss.map Held.cv) (i : Int) = Held.cv p.ss[i] := el_map hi
      have hin : inb (i : Int) (p.ss.map Held.cv) = true := inb_map hi
      generalize hss : p.ss[i] = s at *
      have hso := p.ok_s hok hm
      have hlo := w_lot' (n + 3) p s k hok hso hk
      have hok9 : oks (List.replicate 9 li) (Held.cv s) 0 = true := rfl
      have g0 : gi (Held.cv s) 0 = s.src := rfl
      have g6 : gi (Held.cv s) 6 = s.day := rfl
      have g7 : gi (Held.cv s) 7 = s.known := rfl
      have g8 : gi (Held.cv s) 8 = s.til := rfl
      have hcat : cat [[.row 24 (p.ts.map Tariff.cv), .row 9 (p.ss.map Held.cv), .row 7 (p.ns.map Note.cv)], cis (Held.cv s) 0 9, [ci k]] = [.row 24 (p.ts.map Tariff.cv), .row 9 (p.ss.map Held.cv), .row 7 (p.ns.map Note.cv), ci s.src, ci s.beast, ci s.sort, ci s.eats, ci s.worth, ci s.drv, ci s.day, ci s.known, ci s.til, ci k] := rfl
      have hfit : fitA es.length 1 8 = true := fitA_of (by omega) (by omega)
      have hc : chunk 1 1 [ci s.src] = [[ci s.src]] := rfl
      simp only [gi_z, gi_s, gr_z, gr_s, il_map, hii, decide_true, if_true, hin, hel, hok9, g0, g6, g7, g8, chk_true, w_counts', callO_val, gb_z, hcat, hlo, hfit, hwi, beq_dec, hc]
      cases counts s.known s.til k <;> by_cases h1 : s.day ≤ k <;> by_cases h2 : (lot p s k).fin = 0 <;> simp [h1, h2]
    · simp [insideOf, h0, ints, stays_filter, List.map_map, Function.comp_def]
  · simp [insideOf, h0, ints]
@[simp] theorem w_Moved' (n : Nat) (p : Acc) (y k : Int) (hp : p.fits) : D (n + 8) n_r06_Moved [.row 24 (p.ts.map Tariff.cv), .row 9 (p.ss.map Held.cv), .row 7 (p.ns.map Note.cv), ci y, ci k] = some [.row 1 (ints (movedOf p y k).1), ci (movedOf p y k).2] := by
  rw [q_r06_Moved]
  unfold R_r06_Moved
  rw [w_asked _ _ _ hp]
  simp only [callO_val, gi_z, bne_dec, iteB_eq]
  by_cases h0 : asked p k = 0
  · obtain ⟨hok, hk⟩ := asked_ok h0
    obtain ⟨_, h60, _⟩ := p.ok_len hok
    have hwo := w_Without (n + 6) p y hok
    simp only [h0, decide_true, Bool.not_true, Bool.false_eq_true, if_false, hwo, callO_val, gb_s, gb_z]
    cases hy : hasSrc p y with
    | false => simp [movedOf, h0, hy, ints]
    | true =>
      have hless := without_ok hok y
      simp only [Bool.not_true, Bool.false_eq_true, if_false, gr_z, gr_s]
      rw [loop_coll p.ss (fun s => !movedOut p (without p y) y k s && counts s.known s.til k) (fun s => [ci s.src]) 1 0 ?hv (fun i hi es hes => ?hs) (fun es => ?he)]
      case hv => rfl
      case he => simp
      case hs =>
        have hwi := wr_nat (show i < 9223372036854775807 by omega)
        have hm := List.getElem_mem hi
        have hii : (i : Int) < p.ss.length := by omega
        have hel : el (p.ss.map Held.cv) (i : Int) = Held.cv p.ss[i] := el_map hi
        have hin : inb (i : Int) (p.ss.map Held.cv) = true := inb_map hi
        generalize hss : p.ss[i] = s at *
        have c1 := w_Dues' n p s.src k hp
        have c3 := w_Dues' n (without p y) s.src k (Acc.ok_fits hless)
        rw [duesOf_src hok hm hk] at c1
        rw [dues_less hok hm hk] at c3
        have g0 : gi (List.drop 0 (Held.cv s)) 0 = s.src := rfl
        have o0 : oks [li] (List.drop 0 (Held.cv s)) 0 = true := rfl
        have hfit : fitA es.length 1 8 = true := fitA_of (by omega) (by omega)
        have hc : chunk 1 1 [ci s.src] = [[ci s.src]] := rfl
        simp only [gi_z, gi_s, gr_z, gr_s, il_map, hii, decide_true, if_true, hin, hel, g0, o0, chk_true, c1, c3, callO_val, hfit, hwi, hc]
        cases hct : counts s.known s.til k with
        | false =>
          by_cases e : s.src = y <;> simp [e, hfit, hc]
        | true =>
          by_cases e : s.src = y
          · simp [e, movedOut, hfit, hc]
          · simp only [if_true, e, if_false, movedOut, decide_false, Bool.not_false, Bool.true_and, eqD, beq_dec, Bool.and_true, decide_true]
            by_cases z1 : (dueOf p s k).payer = (dueOf (without p y) s k).payer <;> by_cases z2 : (dueOf p s k).hay = (dueOf (without p y) s k).hay <;> by_cases z3 : (dueOf p s k).drv = (dueOf (without p y) s k).drv <;> by_cases z4 : (dueOf p s k).lord = (dueOf (without p y) s k).lord <;> simp [z1, z2, z3, z4]
      · simp [movedOf, h0, hy, ints, stays_filter, List.map_map, Function.comp_def]
  · simp [movedOf, h0, ints]
theorem stays_len {p : Acc} (hp : p.ok = true) (k : Int) (q : Held → Bool) : ((stays p k).filter q).length ≤ 60 := by
  have := filter_len q (stays p k)
  have := filter_len (fun s => counts s.known s.til k) p.ss
  have := (Acc.ok_len hp).2.1
  unfold stays at *; omega
theorem w_FineStays (n : Nat) (p : Acc) (a b c d : Int) (hp : p.fits) : D (n + 13) n_law06_FineStays [.row 24 (p.ts.map Tariff.cv), .row 9 (p.ss.map Held.cv), .row 7 (p.ns.map Note.cv), ci a, ci b, ci c, ci d] = some [cb true] := by
  rw [q_law06_FineStays]
  have h0 := w_sane n
  have a1 := w_Owed (n + 3) p a d hp
  have a2 := w_Owed' (n + 4) p a d hp
  have b1 := w_Inside (n + 2) p d hp
  have b2 := w_Inside' (n + 4) p d hp
  have c1 := w_Ended (n + 2) p b d hp
  have c2 := w_Ended' (n + 4) p b d hp
  have d1 := w_Moved (n + 2) p c d hp
  have d2 := w_Moved' (n + 4) p c d hp
  have l1 : (insideOf p d).1.length ≤ 60 := by
    unfold insideOf
    by_cases h : asked p d = 0
    · rw [if_neg (by simp [h])]
      simp only
      rw [List.length_map]
      exact stays_len (asked_ok h).1 d _
    · rw [if_pos h]; simp
  have l2 : (endedOf p b d).1.length ≤ 60 := by
    unfold endedOf
    split
    · simp
    · rename_i h
      split
      · simp
      · split
        · simp
        · simp only
          rw [List.length_map]
          exact stays_len (by simpa using h) d _
  have l3 : (movedOf p c d).1.length ≤ 60 := by
    unfold movedOf
    by_cases h : asked p d = 0
    · rw [if_neg (by simp [h])]
      split
      · simp
      · simp only
        rw [List.length_map]
        exact stays_len (asked_ok h).1 d _
    · rw [if_pos h]; simp
  have e1 := w_SameInts (n + 11) (insideOf p d).1 (insideOf p d).1 (by omega)
  have e2 := w_SameInts (n + 11) (endedOf p b d).1 (endedOf p b d).1 (by omega)
  have e3 := w_SameInts (n + 11) (movedOf p c d).1 (movedOf p c d).1 (by omega)
  rw [sameL_refl _ eqI_refl] at e1 e2 e3
  simp [R_law06_FineStays, h0, a1, a2, b1, b2, c1, c2, d1, d2, e1, e2, e3]
end Go.Proofs.YtabhbdehbpmpkaaGreat
namespace Go.Proofs.YtabhbdehbpmpkaaGreat
open Go Go.Sx Go.Fine Go.ChangeShapes Go.WideShapes Go.ChangeAt Go.RowKit
set_option maxRecDepth 100000
theorem Tryz.own : ownKnob Tryz.prog.godebug = none := by kernel_rfl
theorem Tryz.kids : Kids Tryz.prog (· < Tryz.prog.types.size) := kids_rows (by kernel_rfl) (by kernel_rfl)
theorem Tryz.full : ∀ t e, t < Tryz.prog.types.size → Tryz.prog.underlying t = some (.slice e) → 0 < Tryz.prog.cellsOf e := slices_full_of Tryz.prog (by kernel_rfl)
theorem spec_of {f : FuncId} {g : Sig} {vs out : List CV} {n : Nat} (hg : sg f = some g) (h : D n f vs = some out) : SpecR Tryz.prog f (Sc.avs g.ps vs 0) (Sc.res g.rs out) := (den_fns its_ok tb_ok n).spec f g vs out hg h
end Go.Proofs.YtabhbdehbpmpkaaGreat
namespace Go.Proofs.YtabhbdehbpmpkaaGreat
open Go Go.Sx Go.Fine Go.ChangeShapes Go.WideShapes Go.ChangeAt Go.RowKit
set_option maxRecDepth 100000
theorem shp_ask {n : Nat} {c : List CV} (h : Shp Tryz.prog (n + 2) 28 c) : ∃ a0 a1 a2 a3 : Int, c = [ci a0, ci a1, ci a2, ci a3] := by
  rw [Shp] at h
  simp only [Tryz.underlying28, List.map_cons, List.map_nil, ShpL] at h
  obtain ⟨_, _, rfl, h1, _, _, rfl, h2, _, _, rfl, h3, _, _, rfl, h4, rfl⟩ := h
  obtain ⟨m1, rfl, _⟩ := shp_int h1
  obtain ⟨m2, rfl, _⟩ := shp_int h2
  obtain ⟨m3, rfl, _⟩ := shp_int h3
  obtain ⟨m4, rfl, _⟩ := shp_int h4
  exact ⟨m1, m2, m3, m4, rfl⟩
theorem fineStays_spec (css : List (List CV)) (h : ShpAll Tryz.prog 6 Tryz.f3.params.toList css) : SpecR Tryz.prog 3 (avsOf Tryz.prog Tryz.f3.params.toList css) (.cv (cb true)) := by
  rw [Tryz.params3] at h ⊢
  match css, h with
  | [c1, c2], h =>
    simp only [ShpAll, and_true] at h
    obtain ⟨h1, h2⟩ := h
    obtain ⟨p0, hp0, rfl⟩ := shp_acc h1
    obtain ⟨a1, b1, c1, d1, rfl⟩ := shp_ask h2
    exact spec_of (g := fe3.g) rfl (w_FineStays 0 p0 a1 b1 c1 d1 hp0)
  | [], h => simp [ShpAll] at h
  | [_], h => simp [ShpAll] at h
  | _ :: _ :: _ :: _, h => simp [ShpAll] at h
theorem fineStays_lifted (os : Os) (started : os.Started) (H : Type) (enc : TypeId × Value → H) :
    ReturnsInHanded {} Tryz.checked os 3 .any (Rows.fineStaysSpec.pre6 enc Tryz.prog Tryz.f3 Rows.fineStaysRow.domain false) (Rows.fineStaysSpec.post enc Tryz.prog Tryz.f3 false true false false) :=
  law_lift (C := Tryz.checked) (tb := 4) 6 Tryz.own started (by kernel_rfl) Tryz.func3 Tryz.kids Tryz.full
    (by rw [Tryz.params3]; intro t ht; simp only [List.mem_cons, List.not_mem_nil, or_false] at ht; rcases ht with rfl | rfl <;> exact of_decide_eq_true (by kernel_rfl))
    (by kernel_rfl) (by rfl) Tryz.underlying4 rfl
    (fun ds h => by
      rw [Tryz.params3] at h
      match ds, h with
      | [_, _], _ => rfl)
    (ChangeSpec.witness6 (enc := enc) (C := Tryz.checked) false ⟨#[], #[.agg #[.slice none 0 0, .slice none 0 0, .slice none 0 0], .agg #[.int .i64 0, .int .i64 0, .int .i64 0, .int .i64 0]], []⟩ 8 (by kernel_rfl) (by kernel_rfl) (by kernel_rfl) (by kernel_rfl))
    fineStays_spec
theorem fineStays_holds : Rows.FineStaysSaid :=
  OpenClaim.holds_of_wide 3 Tryz.f3 rfl rfl rfl rfl rfl rfl rfl ⟨rfl, rfl, rfl, rfl, rfl⟩ rfl rfl rfl rfl rfl (by kernel_rfl) Tryz.func3 (by kernel_rfl)
    (of_decide_eq_true (by kernel_rfl)) (by unfold Func.isWrapper; first | (rw [if_pos (by decide +kernel)]; kernel_rfl) | (rw [if_neg (by decide +kernel)]; exact ⟨rfl, rfl⟩))
    (fun os started H enc _ => fineStays_lifted os started H enc)
end Go.Proofs.YtabhbdehbpmpkaaGreat
