/-
  The law PenMore of the pens of a pound holds at every input, without any condition.
-/
import Derived.KernelRfl
import Derived.Test.YthkfohoccnnphaaP08
namespace Go.Proofs.Ythkfohoccnnphaa
open Go Go.Sx
set_option maxRecDepth 100000
set_option maxHeartbeats 0
noncomputable section
def R___pen_pound__fill (M:Den) (a0:List CV) (a1 a2:List (List CV)):Option Ou :=  inlO (chk (oks [.row 1] (List.drop 0 (List.drop 0 a0)) 0)<|chk (((decide (0≤(il (gr (List.drop 0 (List.drop 0 a0)) 0))))&&(decide ((il (gr (List.drop 0 (List.drop 0 a0)) 0))≤(il (gr (List.drop 0 (List.drop 0 a0)) 0)))))&&(fitA (Int.toNat (il (gr (List.drop 0 (List.drop 0 a0)) 0))) 0 8))<|chk (oks [.row 1] (List.drop 0 (List.drop 0 a0)) 0)<|chk (decide ((List.length (gr (List.drop 0 (List.drop 0 a0)) 0))≤(List.length (List.replicate (Int.toNat (il (gr (List.drop 0 (List.drop 0 a0)) 0))) [ci 0]))))<|chk (oks [.row 1] (List.drop 0 (List.drop 0 a0)) 0)<|chk (((decide (0≤(il (gr (List.drop 0 (List.drop 0 a0)) 0))))&&(decide ((il (gr (List.drop 0 (List.drop 0 a0)) 0))≤(il (gr (List.drop 0 (List.drop 0 a0)) 0)))))&&(fitA (Int.toNat (il (gr (List.drop 0 (List.drop 0 a0)) 0))) 0 8))<|some (.ret ([CV.row 1 ((gr (List.drop 0 (List.drop 0 a0)) 0)++(List.drop (List.length (gr (List.drop 0 (List.drop 0 a0)) 0)) (List.replicate (Int.toNat (il (gr (List.drop 0 (List.drop 0 a0)) 0))) [ci 0]))),CV.row 1 (List.replicate (Int.toNat (il (gr (List.drop 0 (List.drop 0 a0)) 0))) [ci 0])]))) fun v0=>iteB ((il a1) != (il a2)) (some (.ret [CV.val (Value.pointer none),cb false])) (blkO 0 (loopD (fun v1=>iteB (decide ((gi v1 0)<(il a2))) (chk (inb (gi v1 0) a2)<|chk (oks [li] (el a2 (gi v1 0)) 0)<|seqO (chk (oks [.row 1] (List.drop 0 (List.drop 0 a0)) 0)<|callO (M n_pen_in [ci (gi (el a2 (gi v1 0)) 0),ci 0,ci (wr ((il (gr (List.drop 0 (List.drop 0 a0)) 0)) - 1))]) fun v2=>iteB (!(gb v2 0)) (some (.nx [cb true])) (chk (inb (gi v1 0) a1)<|chk (oks [li] (el a1 (gi v1 0)) 0)<|inlO (chk ((decide (0≤(gi (el a1 (gi v1 0)) 0)))&&(decide ((gi (el a1 (gi v1 0)) 0)<(Int.ofNat 10))))<|chk (oks [li] (List.drop 1 (List.drop ((Int.toNat (gi (el a1 (gi v1 0)) 0))*4) (List.drop 2 a0))) 0)<|chk (inb (gi (el a2 (gi v1 0)) 0) (gr v1 1))<|chk (decide ((Int.toNat (gi (el a2 (gi v1 0)) 0))<(List.length (gr v1 1))))<|chk (oks [li] (el (gr v1 1) (gi (el a2 (gi v1 0)) 0)) 0)<|iteB (decide ((gi (List.drop 1 (List.drop ((Int.toNat (gi (el a1 (gi v1 0)) 0))*4) (List.drop 2 a0))) 0)≤(gi (el (gr v1 1) (gi (el a2 (gi v1 0)) 0)) 0))) (chk ((decide (0≤(gi (el a1 (gi v1 0)) 0)))&&(decide ((gi (el a1 (gi v1 0)) 0)<(Int.ofNat 10))))<|chk (oks [li] (List.drop ((Int.toNat (gi (el a1 (gi v1 0)) 0))*1) (List.drop 42 a0)) 0)<|chk (inb (gi (el a2 (gi v1 0)) 0) (gr v1 2))<|chk (decide ((Int.toNat (gi (el a2 (gi v1 0)) 0))<(List.length (gr v1 2))))<|chk (oks [li] (el (gr v1 2) (gi (el a2 (gi v1 0)) 0)) 0)<|some (.ret [cb ((wr (Int.ofNat (bAN (gi (List.drop ((Int.toNat (gi (el a1 (gi v1 0)) 0))*1) (List.drop 42 a0)) 0) (gi (el (gr v1 2) (gi (el a2 (gi v1 0)) 0)) 0)))) == 0)])) (some (.ret [cb false]))) fun v3=>some (.nx [cb (!(gb v3 0))]))) fun v2=>iteB (gb v2 0) (some (.ret [CV.val (Value.pointer none),cb false])) (chk (inb (gi (el a2 (gi v1 0)) 0) (gr v1 1))<|chk (decide ((Int.toNat (gi (el a2 (gi v1 0)) 0))<(List.length (gr v1 1))))<|chk (oks [li] (el (gr v1 1) (gi (el a2 (gi v1 0)) 0)) 0)<|chk (inb (gi v1 0) a1)<|chk (oks [li] (el a1 (gi v1 0)) 0)<|chk ((decide (0≤(gi (el a1 (gi v1 0)) 0)))&&(decide ((gi (el a1 (gi v1 0)) 0)<(Int.ofNat 10))))<|chk (oks [li] (List.drop 1 (List.drop ((Int.toNat (gi (el a1 (gi v1 0)) 0))*4) (List.drop 2 a0))) 0)<|chk (inb (gi (el a2 (gi v1 0)) 0) (gr v1 1))<|chk ((decide ((Int.toNat (gi (el a2 (gi v1 0)) 0))<(List.length (gr v1 1))))&&(decide (1≤1)))<|chk (inb (gi (el a2 (gi v1 0)) 0) (gr v1 2))<|chk (decide ((Int.toNat (gi (el a2 (gi v1 0)) 0))<(List.length (gr v1 2))))<|chk (oks [li] (el (gr v1 2) (gi (el a2 (gi v1 0)) 0)) 0)<|chk (inb (gi v1 0) a1)<|chk (oks [li] (el a1 (gi v1 0)) 0)<|chk (decide (0≤(gi (el a1 (gi v1 0)) 0)))<|chk (inb (gi (el a2 (gi v1 0)) 0) (gr v1 2))<|chk ((decide ((Int.toNat (gi (el a2 (gi v1 0)) 0))<(List.length (gr v1 2))))&&(decide (1≤1)))<|some (.nx ([ci (wr ((gi v1 0)+1)),CV.row 1 (List.set (gr v1 1) (Int.toNat (gi (el a2 (gi v1 0)) 0)) (spl (el (gr v1 1) (gi (el a2 (gi v1 0)) 0)) 0 [ci (wr ((gi (el (gr v1 1) (gi (el a2 (gi v1 0)) 0)) 0) - (gi (List.drop 1 (List.drop ((Int.toNat (gi (el a1 (gi v1 0)) 0))*4) (List.drop 2 a0))) 0)))])),CV.row 1 (List.set (gr v1 2) (Int.toNat (gi (el a2 (gi v1 0)) 0)) (spl (el (gr v1 2) (gi (el a2 (gi v1 0)) 0)) 0 [ci (wr (Int.ofNat (bON (gi (el (gr v1 2) (gi (el a2 (gi v1 0)) 0)) 0) (wr (1*((2:Int) ^ (min (Int.toNat (gi (el a1 (gi v1 0)) 0)) 64)))))))]))])))) (some (.br 0 [CV.row 1 (gr v1 1),CV.row 1 (gr v1 2)]))) [ci 0,CV.row 1 (gr v0 0),CV.row 1 (gr v0 1)]) fun v1=>some (.ret ([CV.ref [CV.row 1 (gr v1 0),CV.row 1 (gr v1 1)],cb true])))
theorem q___pen_pound__fill (its:ITS) (n:Nat) (a0:List CV) (a1 a2:List (List CV)):D its (n+1) n___pen_pound__fill [(.ref a0),(.row 1 a1),(.row 1 a2)]=retO (R___pen_pound__fill (D its n) a0 a1 a2):=by kernel_rfl
def R_pen_Lasts (M:Den) (a0_0 a0_1 a1:List (List CV)) (a2:Int):Option Ou :=  callO (M n_pen_staying [CV.row 1 a0_0,CV.row 4 a0_1,CV.row 3 a1]) fun v0=>iteB ((gi v0 1) != 0) (some (.ret [ci 0,ci (gi v0 1)])) (callO (M n_pen_in [ci a2,ci 0,ci 1000000000000]) fun v1=>iteB (!(gb v1 0)) (some (.ret [ci 0,ci 1])) (chk (isRefC (List.getD v0 0 dC))<|callO (M n___pen_pound__eaten [CV.ref (cF (List.getD v0 0 dC)),CV.row 3 a1,ci 0]) fun v2=>iteB (decide ((gi v2 0) > a2)) (some (.ret [ci 0,ci 3])) (blkO 1 (loopD (fun v3=>iteB (decide ((gi v3 0)<(gi v3 1))) (callO (M n___pen_pound__eaten [CV.ref (cF (List.getD v0 0 dC)),CV.row 3 a1,ci (wr (Int.tdiv (wr ((wr ((gi v3 0)+(gi v3 1)))+1)) 2))]) fun v4=>seqO (iteB (decide ((gi v4 0)≤a2)) (some (.nx [ci (wr (Int.tdiv (wr ((wr ((gi v3 0)+(gi v3 1)))+1)) 2)),ci (gi v3 1)])) (some (.nx [ci (gi v3 0),ci (wr ((wr (Int.tdiv (wr ((wr ((gi v3 0)+(gi v3 1)))+1)) 2)) - 1))]))) fun v5=>some (.nx [ci (gi v5 0),ci (gi v5 1)])) (some (.br 1 [ci (gi v3 0)]))) [ci 0,ci 100000]) fun v3=>some (.ret [ci (gi v3 0),ci 0]))))
theorem q_pen_Lasts (its:ITS) (n:Nat) (a0_0 a0_1 a1:List (List CV)) (a2:Int):D its (n+1) n_pen_Lasts [(.row 1 a0_0),(.row 4 a0_1),(.row 3 a1),(ci a2)]=retO (R_pen_Lasts (D its n) a0_0 a0_1 a1 a2):=by kernel_rfl
def R_pen_Take (M:Den) (a0_0 a0_1 a1 a2:List (List CV)) (a3:Int):Option Ou :=  callO (M n_pen_placed [CV.row 1 a0_0,CV.row 4 a0_1,CV.row 1 a1,CV.row 1 a2]) fun v0=>iteB ((gi v0 2) != 0) (some (.ret ([CV.row 1 [],CV.row 1 [],ci (gi v0 2)]))) (callO (M n_pen_in [ci a3,ci 0,ci (wr ((il a1) - 1))]) fun v1=>iteB (!(gb v1 0)) (some (.ret ([CV.row 1 [],CV.row 1 [],ci 1]))) (inlO (nilD a1 (some (.ret ([CV.row 1 []]))) (chk (fitA 0 (List.length a1) 8)<|some (.ret [CV.row 1 a1]))) fun v2=>callO (M n_slices_Delete_int ([CV.row 1 (gr v2 0),CV.fn n_law05_PenFodder [],ci a3,ci (wr (a3+1))])) fun v3=>chk (mutR 1 true v3)<|inlO (nilD a2 (some (.ret ([CV.row 1 []]))) (chk (fitA 0 (List.length a2) 8)<|some (.ret [CV.row 1 a2]))) fun v4=>callO (M n_slices_Delete_int ([CV.row 1 (gr v4 0),CV.fn n_law05_PenFodder [],ci a3,ci (wr (a3+1))])) fun v5=>chk (mutR 1 true v5)<|some (.ret [CV.row 1 (gr v3 0),CV.row 1 (gr v5 0),ci 0])))
theorem q_pen_Take (its:ITS) (n:Nat) (a0_0 a0_1 a1 a2:List (List CV)) (a3:Int):D its (n+1) n_pen_Take [(.row 1 a0_0),(.row 4 a0_1),(.row 1 a1),(.row 1 a2),(ci a3)]=retO (R_pen_Take (D its n) a0_0 a0_1 a1 a2 a3):=by kernel_rfl
def R___pen_pound__room (M:Den) (a0:List CV) (a1:List (List CV)):Option Ou :=  blkO 0 (loopD (fun v0=>iteB (decide ((gi v0 1)<(il a1))) (chk (inb (gi v0 1) a1)<|chk (oks [li] (el a1 (gi v0 1)) 0)<|chk ((decide (0≤(gi (el a1 (gi v0 1)) 0)))&&(decide ((gi (el a1 (gi v0 1)) 0)<(Int.ofNat 10))))<|chk (oks [li] (List.drop 1 (List.drop ((Int.toNat (gi (el a1 (gi v0 1)) 0))*4) (List.drop 2 a0))) 0)<|some (.nx [ci (wr ((gi v0 0)+(gi (List.drop 1 (List.drop ((Int.toNat (gi (el a1 (gi v0 1)) 0))*4) (List.drop 2 a0))) 0))),ci (wr ((gi v0 1)+1))])) (some (.br 0 [ci (gi v0 0)]))) [ci 0,ci 0]) fun v0=>some (.ret [ci (gi v0 0)])
theorem q___pen_pound__room (its:ITS) (n:Nat) (a0:List CV) (a1:List (List CV)):D its (n+1) n___pen_pound__room [(.ref a0),(.row 1 a1)]=retO (R___pen_pound__room (D its n) a0 a1):=by kernel_rfl
def R_pen_placed (M:Den) (a0_0 a0_1 a1 a2:List (List CV)):Option Ou :=  callO (M n_pen_asked [CV.row 1 a0_0,CV.row 4 a0_1,CV.row 1 a1]) fun v0=>iteB ((gi v0 1) != 0) (some (.ret [CV.val (Value.pointer none),CV.val (Value.pointer none),ci (gi v0 1)])) (chk (isRefC (List.getD v0 0 dC))<|callO (M n___pen_pound__fill [CV.ref (cF (List.getD v0 0 dC)),CV.row 1 a1,CV.row 1 a2]) fun v1=>iteB (!(gb v1 1)) (some (.ret [CV.val (Value.pointer none),CV.val (Value.pointer none),ci 52])) (chk (isRefC (List.getD v1 0 dC))<|some (.ret [CV.ref (cF (List.getD v0 0 dC)),CV.ref (cF (List.getD v1 0 dC)),ci 0])))
theorem q_pen_placed (its:ITS) (n:Nat) (a0_0 a0_1 a1 a2:List (List CV)):D its (n+1) n_pen_placed [(.row 1 a0_0),(.row 4 a0_1),(.row 1 a1),(.row 1 a2)]=retO (R_pen_placed (D its n) a0_0 a0_1 a1 a2):=by kernel_rfl
def R_pen_asked (M:Den) (a0_0 a0_1 a1:List (List CV)):Option Ou :=  callO (M n_pen_CheckYard [CV.row 1 a0_0,CV.row 4 a0_1]) fun v0=>iteB ((gi v0 0) != 0) (some (.ret [CV.val (Value.pointer none),ci (gi v0 0)])) (callO (M n_pen_newPound [CV.row 1 a0_0,CV.row 4 a0_1]) fun v1=>callO (M n___pen_pound__areSorts [CV.ref (cF (List.getD v1 0 dC)),CV.row 1 a1]) fun v2=>iteB (!(gb v2 0)) (some (.ret [CV.val (Value.pointer none),ci 51])) (some (.ret [CV.ref (cF (List.getD v1 0 dC)),ci 0])))
theorem q_pen_asked (its:ITS) (n:Nat) (a0_0 a0_1 a1:List (List CV)):D its (n+1) n_pen_asked [(.row 1 a0_0),(.row 4 a0_1),(.row 1 a1)]=retO (R_pen_asked (D its n) a0_0 a0_1 a1):=by kernel_rfl
def R___pen_pound__parts (M:Den) (a0:List CV) (a1 a2:Int):Option Ou :=  chk ((decide (0≤a1))&&(decide (a1<(Int.ofNat 10))))<|chk (oks [li] (List.drop ((Int.toNat a1)*1) (List.drop 42 a0)) 0)<|chk (decide (0≤a2))<|some (.ret [cb ((wr (Int.ofNat (bAN (Int.fdiv (gi (List.drop ((Int.toNat a1)*1) (List.drop 42 a0)) 0) ((2:Int) ^ (min (Int.toNat a2) 64))) 1))) == 1)])
theorem q___pen_pound__parts (its:ITS) (n:Nat) (a0:List CV) (a1 a2:Int):D its (n+1) n___pen_pound__parts [(.ref a0),(ci a1),(ci a2)]=retO (R___pen_pound__parts (D its n) a0 a1 a2):=by kernel_rfl
def R_law05_yard (M:Den)  : Option Ou :=  some (.ret ([CV.row 1 (chunk 1 3 [ci 10,ci 6,ci 4]),CV.row 4 (chunk 4 4 [ci 1,ci 5,ci 8,ci 0,ci 2,ci 4,ci 6,ci 2,ci 3,ci 1,ci 1,ci 0,ci 4,ci 2,ci 3,ci 16])]))
theorem q_law05_yard (its:ITS) (n:Nat)  : D its (n+1) n_law05_yard []=retO (R_law05_yard (D its n) ):=by kernel_rfl
def R_law05_mod (M:Den) (a0 a1:Int):Option Ou :=  chk (a1 != 0)<|chk (a1 != 0)<|some (.ret [ci (Int.tmod (wr ((Int.tmod a0 a1)+a1)) a1)])
theorem q_law05_mod (its:ITS) (n:Nat) (a0 a1:Int):D its (n+1) n_law05_mod [(ci a0),(ci a1)]=retO (R_law05_mod (D its n) a0 a1):=by kernel_rfl
def R_slices_ContainsFunc_int (M:Den) (a0:List (List CV)) (a1:CV):Option Ou :=  callO (M n_slices_IndexFunc_int [CV.row 1 a0,a1]) fun v0=>some (.ret [cb (decide ((gi v0 0)≥0))])
theorem q_slices_ContainsFunc_int (its:ITS) (n:Nat) (a0:List (List CV)) (a1:CV):D its (n+1) n_slices_ContainsFunc_int [(.row 1 a0),a1]=retO (R_slices_ContainsFunc_int (D its n) a0 a1):=by kernel_rfl
def R_pen_lists (M:Den) (a0 a1:Int):Option Ou :=  some (.ret ([CV.fn n_pen_lists_c1 ([CV.ref [ci a1],CV.ref [ci a0]])]))
theorem q_pen_lists (its:ITS) (n:Nat) (a0 a1:Int):D its (n+1) n_pen_lists [(ci a0),(ci a1)]=retO (R_pen_lists (D its n) a0 a1):=by kernel_rfl
end
end Go.Proofs.Ythkfohoccnnphaa
namespace Go.Proofs.Ythkfohoccnnphaa
open Go Go.Sx
set_option maxRecDepth 100000
set_option maxHeartbeats 0
noncomputable section
def R_pen_Add (M:Den) (a0_0 a0_1 a1 a2:List (List CV)) (a3:Int):Option Ou :=  callO (M n_pen_placed [CV.row 1 a0_0,CV.row 4 a0_1,CV.row 1 a1,CV.row 1 a2]) fun v0=>iteB ((gi v0 2) != 0) (some (.ret [ci 0,ci (gi v0 2)])) (chk (isRefC (List.getD v0 0 dC))<|callO (M n___pen_pound__has [CV.ref (cF (List.getD v0 0 dC)),ci a3]) fun v1=>iteB (!(gb v1 0)) (some (.ret [ci 0,ci 51])) (iteB ((il a1) == 8) (some (.ret [ci 0,ci 2])) (chk (oks [.row 1] (List.drop 0 (List.drop 0 (cF (List.getD v0 0 dC)))) 0)<|blkO 1 (loopD (fun v2=>iteB (decide ((gi v2 0)<(il (gr (List.drop 0 (List.drop 0 (cF (List.getD v0 0 dC)))) 0)))) (chk (isRefC (List.getD v0 1 dC))<|callO (M n___pen_pound__takes [CV.ref (cF (List.getD v0 0 dC)),CV.ref (cF (List.getD v0 1 dC)),ci (gi v2 0),ci a3]) fun v3=>iteB (gb v3 0) (some (.ret [ci (gi v2 0),ci 0])) (some (.nx [ci (wr ((gi v2 0)+1))]))) (some (.br 1 []))) [ci 0]) fun v2=>some (.ret [ci 0,ci 53]))))
theorem q_pen_Add (its:ITS) (n:Nat) (a0_0 a0_1 a1 a2:List (List CV)) (a3:Int):D its (n+1) n_pen_Add [(.row 1 a0_0),(.row 4 a0_1),(.row 1 a1),(.row 1 a2),(ci a3)]=retO (R_pen_Add (D its n) a0_0 a0_1 a1 a2 a3):=by kernel_rfl
def R_pen_there (M:Den) (a0:List (List CV)) (a1:Int):Option Ou :=  blkO 0 (loopD (fun v0=>iteB (decide ((gi v0 0)<(il a0))) (chk (inb (gi v0 0) a0)<|chk (oks [li,li,li] (el a0 (gi v0 0)) 0)<|seqO (iteB (decide ((gi (el a0 (gi v0 0)) 1)≤a1)) (iteB ((gi (el a0 (gi v0 0)) 2) == (-1)) (some (.nx [cb true])) (some (.nx [cb (decide (a1<(gi (el a0 (gi v0 0)) 2)))]))) (some (.nx [cb false]))) fun v1=>seqO (iteB (gb v1 0) (chk (fitA (List.length (gr v0 1)) 1 8)<|some (.nx ([CV.row 1 ((gr v0 1)++(chunk 1 1 [ci (gi v0 0)]))]))) (some (.nx [CV.row 1 (gr v0 1)]))) fun v2=>some (.nx [ci (wr ((gi v0 0)+1)),CV.row 1 (gr v2 0)])) (some (.br 0 [CV.row 1 (gr v0 1)]))) ([ci 0,CV.row 1 []])) fun v0=>some (.ret [CV.row 1 (gr v0 0)])
theorem q_pen_there (its:ITS) (n:Nat) (a0:List (List CV)) (a1:Int):D its (n+1) n_pen_there [(.row 3 a0),(ci a1)]=retO (R_pen_there (D its n) a0 a1):=by kernel_rfl
def R_pen_staying (M:Den) (a0_0 a0_1 a1:List (List CV)):Option Ou :=  callO (M n_pen_CheckYard [CV.row 1 a0_0,CV.row 4 a0_1]) fun v0=>iteB ((gi v0 0) != 0) (some (.ret [CV.val (Value.pointer none),ci (gi v0 0)])) (callO (M n_pen_newPound [CV.row 1 a0_0,CV.row 4 a0_1]) fun v1=>seqO (iteB (decide ((il a1) > 40)) (some (.nx [cb true])) (callO (M n_slices_ContainsFunc_Stay ([CV.row 3 a1,CV.fn n_pen_staying_c1 ([CV.ref [CV.ref (cF (List.getD v1 0 dC))]])])) fun v2=>some (.nx [cb (gb v2 0)]))) fun v2=>iteB (gb v2 0) (some (.ret [CV.val (Value.pointer none),ci 55])) (some (.ret [CV.ref (cF (List.getD v1 0 dC)),ci 0])))
theorem q_pen_staying (its:ITS) (n:Nat) (a0_0 a0_1 a1:List (List CV)):D its (n+1) n_pen_staying [(.row 1 a0_0),(.row 4 a0_1),(.row 3 a1)]=retO (R_pen_staying (D its n) a0_0 a0_1 a1):=by kernel_rfl
def R_pen_Count (M:Den) (a0_0 a0_1 a1:List (List CV)):Option Ou :=  callO (M n_pen_asked [CV.row 1 a0_0,CV.row 4 a0_1,CV.row 1 a1]) fun v0=>iteB ((gi v0 1) != 0) (some (.ret [ci 0,ci (gi v0 1)])) (chk (isRefC (List.getD v0 0 dC))<|callO (M n___pen_pound__all [CV.ref (cF (List.getD v0 0 dC)),CV.row 1 a1]) fun v1=>seqO (brO (rangeJO (itVJ sg M (List.getD v1 0 dC) (.lent 3 1)) (fun x2 v2=>iteB ((wr ((gi v2 0)+1)) == 1000) (some (.br 0 [ci (wr ((gi v2 0)+1))])) (some (.nx [ci (wr ((gi v2 0)+1))]))) [ci 0])) fun v2=>some (.ret [ci (gi v2 0),ci 0]))
theorem q_pen_Count (its:ITS) (n:Nat) (a0_0 a0_1 a1:List (List CV)):D its (n+1) n_pen_Count [(.row 1 a0_0),(.row 4 a0_1),(.row 1 a1)]=retO (R_pen_Count (D its n) a0_0 a0_1 a1):=by kernel_rfl
def R_r05_kind (M:Den) (a0_0 a0_1:List (List CV)) (a1:Int):Option Ou :=  blkO 0 (loopD (fun v0=>iteB (decide ((gi v0 0)<(il a0_1))) (chk (inb (gi v0 0) a0_1)<|chk (oks (List.replicate 4 li) (el a0_1 (gi v0 0)) 0)<|iteB ((gi (el a0_1 (gi v0 0)) 0) == a1) (some (.ret (cat [cis (el a0_1 (gi v0 0)) 0 4,[cb true]]))) (some (.nx (cat [[ci (wr ((gi v0 0)+1))],cis v0 1 4])))) (some (.br 0 (cis v0 1 4)))) [ci 0,ci 0,ci 0,ci 0,ci 0]) fun v0=>some (.ret [ci 0,ci 0,ci 0,ci 0,cb false])
theorem q_r05_kind (its:ITS) (n:Nat) (a0_0 a0_1:List (List CV)) (a1:Int):D its (n+1) n_r05_kind [(.row 1 a0_0),(.row 4 a0_1),(ci a1)]=retO (R_r05_kind (D its n) a0_0 a0_1 a1):=by kernel_rfl
def R___pen_pound__isStay (M:Den) (a0:List CV) (a1_0 a1_1 a1_2:Int):Option Ou :=  callO (M n___pen_pound__has [CV.ref a0,ci a1_0]) fun v0=>iteB (gb v0 0) (callO (M n_pen_in [ci a1_1,ci 0,ci 100000]) fun v1=>iteB (gb v1 0) (iteB (a1_2 == (-1)) (some (.ret [cb true])) (callO (M n_pen_in [ci a1_2,ci a1_1,ci 100000]) fun v2=>some (.ret [cb (gb v2 0)]))) (some (.ret [cb false]))) (some (.ret [cb false]))
theorem q___pen_pound__isStay (its:ITS) (n:Nat) (a0:List CV) (a1_0 a1_1 a1_2:Int):D its (n+1) n___pen_pound__isStay [(.ref a0),(ci a1_0),(ci a1_1),(ci a1_2)]=retO (R___pen_pound__isStay (D its n) a0 a1_0 a1_1 a1_2):=by kernel_rfl
def R_pen_Free (M:Den) (a0_0 a0_1 a1 a2:List (List CV)):Option Ou :=  callO (M n_pen_placed [CV.row 1 a0_0,CV.row 4 a0_1,CV.row 1 a1,CV.row 1 a2]) fun v0=>iteB ((gi v0 2) != 0) (some (.ret ([CV.row 1 [],ci (gi v0 2)]))) (chk (isRefC (List.getD v0 1 dC))<|chk (oks [.row 1] (List.drop 0 (cF (List.getD v0 1 dC))) 0)<|some (.ret [CV.row 1 (gr (List.drop 0 (cF (List.getD v0 1 dC))) 0),ci 0]))
theorem q_pen_Free (its:ITS) (n:Nat) (a0_0 a0_1 a1 a2:List (List CV)):D its (n+1) n_pen_Free [(.row 1 a0_0),(.row 4 a0_1),(.row 1 a1),(.row 1 a2)]=retO (R_pen_Free (D its n) a0_0 a0_1 a1 a2):=by kernel_rfl
def R___pen_pound__areSorts_c1 (M:Den) (a0:Int) (a1:List CV):Option Ou :=  chk (oks [.raw] a1 0)<|chk (isRefC (List.getD a1 0 dC))<|callO (M n___pen_pound__has [CV.ref (cF (List.getD a1 0 dC)),ci a0]) fun v0=>some (.ret [cb (!(gb v0 0))])
theorem q___pen_pound__areSorts_c1 (its:ITS) (n:Nat) (a0:Int) (a1:List CV):D its (n+1) n___pen_pound__areSorts_c1 [(ci a0),(.ref a1)]=retO (R___pen_pound__areSorts_c1 (D its n) a0 a1):=by kernel_rfl
def R_pen_in (M:Den) (a0 a1 a2:Int):Option Ou :=  iteB (decide (a0≥a1)) (some (.ret [cb (decide (a0≤a2))])) (some (.ret [cb false]))
theorem q_pen_in (its:ITS) (n:Nat) (a0 a1 a2:Int):D its (n+1) n_pen_in [(ci a0),(ci a1),(ci a2)]=retO (R_pen_in (D its n) a0 a1 a2):=by kernel_rfl
def R_slices_ContainsFunc_Stay (M:Den) (a0:List (List CV)) (a1:CV):Option Ou :=  callO (M n_slices_IndexFunc_Stay [CV.row 3 a0,a1]) fun v0=>some (.ret [cb (decide ((gi v0 0)≥0))])
theorem q_slices_ContainsFunc_Stay (its:ITS) (n:Nat) (a0:List (List CV)) (a1:CV):D its (n+1) n_slices_ContainsFunc_Stay [(.row 3 a0),a1]=retO (R_slices_ContainsFunc_Stay (D its n) a0 a1):=by kernel_rfl
end
end Go.Proofs.Ythkfohoccnnphaa
namespace Go.Proofs.Ythkfohoccnnphaa
open Go Go.Sx
set_option maxRecDepth 100000
set_option maxHeartbeats 0
noncomputable section
def R_law05_PenMore (M:Den) (a0_0 a0_1 a1:List (List CV)) (a2_0 a2_1 a2_2:Int):Option Ou :=  callO (M n_law05_right [CV.row 1 a0_0,CV.row 4 a0_1,CV.row 1 a1]) fun v0=>iteB (!(gb v0 0)) (callO (M n_law05_sane []) fun v1=>some (.ret [cb (gb v1 0)])) (callO (M n_pen_Place [CV.row 1 a0_0,CV.row 4 a0_1,CV.row 1 a1]) fun v1=>seqO (iteB ((gi v1 1) != 0) (some (.nx [cb true])) (some (.nx [cb ((il a1) == 0)]))) fun v2=>iteB (gb v2 0) (iteB ((gi v1 1) == 0) (callO (M n_law05_sane []) fun v3=>some (.ret [cb (gb v3 0)])) (iteB ((gi v1 1) == 53) (callO (M n_law05_sane []) fun v3=>some (.ret [cb (gb v3 0)])) (some (.ret [cb false])))) (callO (M n_law05_mod [ci a2_0,ci (il a1)]) fun v3=>callO (M n_pen_Take [CV.row 1 a0_0,CV.row 4 a0_1,CV.row 1 a1,CV.row 1 (gr v1 0),ci (gi v3 0)]) fun v4=>seqO (iteB ((gi v4 2) != 0) (some (.nx [cb true])) (iteB ((il (gr v4 0)) != (wr ((il a1) - 1))) (some (.nx [cb true])) (callO (M n_pen_CheckPlace [CV.row 1 a0_0,CV.row 4 a0_1,CV.row 1 (gr v4 0),CV.row 1 (gr v4 1)]) fun v5=>some (.nx [cb ((gi v5 0) != 0)])))) fun v5=>iteB (gb v5 0) (some (.ret [cb false])) (chk (inb (gi v3 0) a1)<|chk (oks [li] (el a1 (gi v3 0)) 0)<|callO (M n_pen_Add [CV.row 1 a0_0,CV.row 4 a0_1,CV.row 1 (gr v4 0),CV.row 1 (gr v4 1),ci (gi (el a1 (gi v3 0)) 0)]) fun v6=>seqO (iteB ((gi v6 1) != 0) (some (.nx [cb true])) (chk (fitA 0 (List.length (gr v4 0)) 8)<|chk (inb (gi v3 0) a1)<|chk (oks [li] (el a1 (gi v3 0)) 0)<|chk (fitA (List.length (gr v4 0)) 1 8)<|chk (fitA 0 (List.length (gr v4 1)) 8)<|chk (fitA (List.length (gr v4 1)) 1 8)<|callO (M n_pen_CheckPlace ([CV.row 1 a0_0,CV.row 4 a0_1,CV.row 1 ((gr v4 0)++(chunk 1 1 [ci (gi (el a1 (gi v3 0)) 0)])),CV.row 1 ((gr v4 1)++(chunk 1 1 [ci (gi v6 0)]))])) fun v7=>some (.nx [cb ((gi v7 0) != 0)]))) fun v7=>iteB (gb v7 0) (some (.ret [cb false])) (chk (fitA 0 (List.length a0_0) 8)<|chk (fitA 0 (List.length a0_1) 32)<|callO (M n_law05_mod [ci a2_1,ci (il a0_0)]) fun v8=>chk (inb (gi v8 0) a0_0)<|chk (decide ((Int.toNat (gi v8 0))<(List.length a0_0)))<|chk (oks [li] (el a0_0 (gi v8 0)) 0)<|callO (M n_law05_mod [ci a2_2,ci 20]) fun v9=>chk (inb (gi v8 0) a0_0)<|chk ((decide ((Int.toNat (gi v8 0))<(List.length a0_0)))&&(decide (1≤1)))<|seqO (iteB (decide ((il (List.set a0_0 (Int.toNat (gi v8 0)) (spl (el a0_0 (gi v8 0)) 0 [ci (if (wr ((gi (el a0_0 (gi v8 0)) 0)+(gi v9 0)))<1000 then wr ((gi (el a0_0 (gi v8 0)) 0)+(gi v9 0)) else 1000)])))<5)) (callO (M n_law05_mod [ci a2_2,ci 9]) fun v10=>chk (fitA (List.length (List.set a0_0 (Int.toNat (gi v8 0)) (spl (el a0_0 (gi v8 0)) 0 [ci (if (wr ((gi (el a0_0 (gi v8 0)) 0)+(gi v9 0)))<1000 then wr ((gi (el a0_0 (gi v8 0)) 0)+(gi v9 0)) else 1000)]))) 1 8)<|some (.nx ([CV.row 1 ((List.set a0_0 (Int.toNat (gi v8 0)) (spl (el a0_0 (gi v8 0)) 0 [ci (if (wr ((gi (el a0_0 (gi v8 0)) 0)+(gi v9 0)))<1000 then wr ((gi (el a0_0 (gi v8 0)) 0)+(gi v9 0)) else 1000)]))++(chunk 1 1 [ci (gi v10 0)])),CV.row 4 a0_1]))) (some (.nx ([CV.row 1 (List.set a0_0 (Int.toNat (gi v8 0)) (spl (el a0_0 (gi v8 0)) 0 [ci (if (wr ((gi (el a0_0 (gi v8 0)) 0)+(gi v9 0)))<1000 then wr ((gi (el a0_0 (gi v8 0)) 0)+(gi v9 0)) else 1000)])),CV.row 4 a0_1])))) fun v10=>callO (M n_law05_mod [ci a2_2,ci (il (gr v10 1))]) fun v11=>chk (inb (gi v11 0) (gr v10 1))<|chk ((decide ((Int.toNat (gi v11 0))<(List.length (gr v10 1))))&&(decide (4≤4)))<|callO (M n_pen_Place ([CV.row 1 (gr v10 0),CV.row 4 (List.set (gr v10 1) (Int.toNat (gi v11 0)) (spl (el (gr v10 1) (gi v11 0)) 3 [ci 0])),CV.row 1 a1])) fun v12=>iteB ((gi v12 1) == 0) (callO (M n_pen_CheckPlace ([CV.row 1 (gr v10 0),CV.row 4 (List.set (gr v10 1) (Int.toNat (gi v11 0)) (spl (el (gr v10 1) (gi v11 0)) 3 [ci 0])),CV.row 1 a1,CV.row 1 (gr v1 0)])) fun v13=>iteB ((gi v13 0) == 0) (callO (M n_law05_sane []) fun v14=>some (.ret [cb (gb v14 0)])) (some (.ret [cb false]))) (some (.ret [cb false]))))))
theorem q_law05_PenMore (its:ITS) (n:Nat) (a0_0 a0_1 a1:List (List CV)) (a2_0 a2_1 a2_2:Int):D its (n+1) n_law05_PenMore [(.row 1 a0_0),(.row 4 a0_1),(.row 1 a1),(ci a2_0),(ci a2_1),(ci a2_2)]=retO (R_law05_PenMore (D its n) a0_0 a0_1 a1 a2_0 a2_1 a2_2):=by kernel_rfl
def R___pen_pound__eaten (M:Den) (a0:List CV) (a1:List (List CV)) (a2:Int):Option Ou :=  blkO 0 (loopD (fun v0=>iteB (decide ((gi v0 1)<(il a1))) (chk (inb (gi v0 1) a1)<|chk (oks [li,li,li] (el a1 (gi v0 1)) 0)<|seqO (iteB ((gi (el a1 (gi v0 1)) 2) != (-1)) (some (.nx [ci (if (wr ((gi (el a1 (gi v0 1)) 2) - 1))<a2 then wr ((gi (el a1 (gi v0 1)) 2) - 1) else a2)])) (some (.nx [ci a2]))) fun v1=>chk ((decide (0≤(gi (el a1 (gi v0 1)) 0)))&&(decide ((gi (el a1 (gi v0 1)) 0)<(Int.ofNat 10))))<|chk (oks [li] (List.drop 2 (List.drop ((Int.toNat (gi (el a1 (gi v0 1)) 0))*4) (List.drop 2 a0))) 0)<|some (.nx [ci (wr ((gi v0 0)+(wr ((if 0 > (wr ((wr ((gi v1 0) - (gi (el a1 (gi v0 1)) 1)))+1)) then 0 else wr ((wr ((gi v1 0) - (gi (el a1 (gi v0 1)) 1)))+1))*(gi (List.drop 2 (List.drop ((Int.toNat (gi (el a1 (gi v0 1)) 0))*4) (List.drop 2 a0))) 0))))),ci (wr ((gi v0 1)+1))])) (some (.br 0 [ci (gi v0 0)]))) [ci 0,ci 0]) fun v0=>some (.ret [ci (gi v0 0)])
theorem q___pen_pound__eaten (its:ITS) (n:Nat) (a0:List CV) (a1:List (List CV)) (a2:Int):D its (n+1) n___pen_pound__eaten [(.ref a0),(.row 3 a1),(ci a2)]=retO (R___pen_pound__eaten (D its n) a0 a1 a2):=by kernel_rfl
def R_r05_CheckSorts (M:Den) (a0_0 a0_1 a1:List (List CV)):Option Ou :=  callO (M n_r05_CheckYard [CV.row 1 a0_0,CV.row 4 a0_1]) fun v0=>iteB ((gi v0 0) != 0) (some (.ret [ci (gi v0 0)])) (iteB (decide ((il a1) > 8)) (some (.ret [ci 51])) (blkO 0 (loopD (fun v1=>iteB (decide ((gi v1 0)<(il a1))) (chk (inb (gi v1 0) a1)<|chk (oks [li] (el a1 (gi v1 0)) 0)<|callO (M n_r05_kind [CV.row 1 a0_0,CV.row 4 a0_1,ci (gi (el a1 (gi v1 0)) 0)]) fun v2=>iteB (!(gb v2 4)) (some (.ret [ci 51])) (some (.nx [ci (wr ((gi v1 0)+1))]))) (some (.br 0 []))) [ci 0]) fun v1=>some (.ret [ci 0])))
theorem q_r05_CheckSorts (its:ITS) (n:Nat) (a0_0 a0_1 a1:List (List CV)):D its (n+1) n_r05_CheckSorts [(.row 1 a0_0),(.row 4 a0_1),(.row 1 a1)]=retO (R_r05_CheckSorts (D its n) a0_0 a0_1 a1):=by kernel_rfl
def R__pen_plea__of (M:Den) (a0_0:CV) (a0_1:List (List CV)) (a0_2:CV) (a1:List (List CV)):Option Ou :=  blkO 0 (loopD (fun v0=>iteB (decide ((gi v0 0)<(il a1))) (chk (inb (gi v0 0) a1)<|chk (oks [li] (el a1 (gi v0 0)) 0)<|chk (inb (gi (el a1 (gi v0 0)) 0) a0_1)<|chk (oks [li] (el a0_1 (gi (el a1 (gi v0 0)) 0)) 0)<|chk (fitA (List.length (gr v0 1)) 1 8)<|some (.nx ([ci (wr ((gi v0 0)+1)),CV.row 1 ((gr v0 1)++(chunk 1 1 [ci (gi (el a0_1 (gi (el a1 (gi v0 0)) 0)) 0)]))]))) (some (.br 0 [CV.row 1 (gr v0 1)]))) ([ci 0,CV.row 1 []])) fun v0=>some (.ret [CV.row 1 (gr v0 0)])
theorem q__pen_plea__of (its:ITS) (n:Nat) (a0_0:CV) (a0_1:List (List CV)) (a0_2:CV) (a1:List (List CV)):D its (n+1) n__pen_plea__of [a0_0,(.row 1 a0_1),a0_2,(.row 1 a1)]=retO (R__pen_plea__of (D its n) a0_0 a0_1 a0_2 a1):=by kernel_rfl
def R_pen_isKind (M:Den) (a0_0 a0_1 a0_2 a0_3:Int):Option Ou :=  callO (M n_pen_in [ci a0_0,ci 1,ci 9]) fun v0=>iteB (gb v0 0) (callO (M n_pen_in [ci a0_1,ci 1,ci 1000]) fun v1=>iteB (gb v1 0) (callO (M n_pen_in [ci a0_2,ci 0,ci 1000]) fun v2=>iteB (gb v2 0) (callO (M n_pen_in [ci a0_3,ci 0,ci 1023]) fun v3=>iteB (gb v3 0) (some (.ret [cb ((wr (Int.ofNat (bAN a0_3 1))) == 0)])) (some (.ret [cb false]))) (some (.ret [cb false]))) (some (.ret [cb false]))) (some (.ret [cb false]))
theorem q_pen_isKind (its:ITS) (n:Nat) (a0_0 a0_1 a0_2 a0_3:Int):D its (n+1) n_pen_isKind [(ci a0_0),(ci a0_1),(ci a0_2),(ci a0_3)]=retO (R_pen_isKind (D its n) a0_0 a0_1 a0_2 a0_3):=by kernel_rfl
def R_slices_IndexFunc_int (M:Den) (a0:List (List CV)) (a1:CV):Option Ou :=  blkO 0 (loopD (fun v0=>iteB (decide ((gi v0 0)<(il a0))) (chk (inb (gi v0 0) a0)<|chk (oks [li] (el a0 (gi v0 0)) 0)<|callO (callV sg M a1 [ci (gi (el a0 (gi v0 0)) 0)] [.one li] [.one lb]) fun v1=>iteB (gb v1 0) (some (.ret [ci (gi v0 0)])) (some (.nx [ci (wr ((gi v0 0)+1))]))) (some (.br 0 []))) [ci 0]) fun v0=>some (.ret [ci (-1)])
theorem q_slices_IndexFunc_int (its:ITS) (n:Nat) (a0:List (List CV)) (a1:CV):D its (n+1) n_slices_IndexFunc_int [(.row 1 a0),a1]=retO (R_slices_IndexFunc_int (D its n) a0 a1):=by kernel_rfl
def R_pen_Place (M:Den) (a0_0 a0_1 a1:List (List CV)):Option Ou :=  callO (M n_pen_asked [CV.row 1 a0_0,CV.row 4 a0_1,CV.row 1 a1]) fun v0=>iteB ((gi v0 1) != 0) (some (.ret ([CV.row 1 [],ci (gi v0 1)]))) (chk (isRefC (List.getD v0 0 dC))<|callO (M n___pen_pound__nth [CV.ref (cF (List.getD v0 0 dC)),CV.row 1 a1,ci 0]) fun v1=>iteB (!(gb v1 1)) (some (.ret ([CV.row 1 [],ci 53]))) (some (.ret [CV.row 1 (gr v1 0),ci 0])))
theorem q_pen_Place (its:ITS) (n:Nat) (a0_0 a0_1 a1:List (List CV)):D its (n+1) n_pen_Place [(.row 1 a0_0),(.row 4 a0_1),(.row 1 a1)]=retO (R_pen_Place (D its n) a0_0 a0_1 a1):=by kernel_rfl
def R_pen_CheckPlace (M:Den) (a0_0 a0_1 a1 a2:List (List CV)):Option Ou :=  callO (M n_pen_asked [CV.row 1 a0_0,CV.row 4 a0_1,CV.row 1 a1]) fun v0=>iteB ((gi v0 1) != 0) (some (.ret [ci (gi v0 1)])) (chk (isRefC (List.getD v0 0 dC))<|callO (M n___pen_pound__fill [CV.ref (cF (List.getD v0 0 dC)),CV.row 1 a1,CV.row 1 a2]) fun v1=>iteB (!(gb v1 1)) (some (.ret [ci 52])) (some (.ret [ci 0])))
theorem q_pen_CheckPlace (its:ITS) (n:Nat) (a0_0 a0_1 a1 a2:List (List CV)):D its (n+1) n_pen_CheckPlace [(.row 1 a0_0),(.row 4 a0_1),(.row 1 a1),(.row 1 a2)]=retO (R_pen_CheckPlace (D its n) a0_0 a0_1 a1 a2):=by kernel_rfl
def R___pen_pound__areSorts (M:Den) (a0:List CV) (a1:List (List CV)):Option Ou :=  iteB (decide ((il a1)≤8)) (callO (M n_slices_ContainsFunc_int ([CV.row 1 a1,CV.fn n___pen_pound__areSorts_c1 ([CV.ref [CV.ref a0]])])) fun v0=>some (.ret [cb (!(gb v0 0))])) (some (.ret [cb false]))
theorem q___pen_pound__areSorts (its:ITS) (n:Nat) (a0:List CV) (a1:List (List CV)):D its (n+1) n___pen_pound__areSorts [(.ref a0),(.row 1 a1)]=retO (R___pen_pound__areSorts (D its n) a0 a1):=by kernel_rfl
def R_r05_within (M:Den) (a0 a1 a2:Int):Option Ou :=  iteB (decide (a1≤a0)) (some (.ret [cb (decide (a0≤a2))])) (some (.ret [cb false]))
theorem q_r05_within (its:ITS) (n:Nat) (a0 a1 a2:Int):D its (n+1) n_r05_within [(ci a0),(ci a1),(ci a2)]=retO (R_r05_within (D its n) a0 a1 a2):=by kernel_rfl
def R___pen_pound__all (M:Den) (a0:List CV) (a1:List (List CV)):Option Ou :=  some (.ret ([CV.fn n___pen_pound__all_c1 ([CV.ref [CV.row 1 a1],CV.ref [CV.ref a0]])]))
theorem q___pen_pound__all (its:ITS) (n:Nat) (a0:List CV) (a1:List (List CV)):D its (n+1) n___pen_pound__all [(.ref a0),(.row 1 a1)]=retO (R___pen_pound__all (D its n) a0 a1):=by kernel_rfl
end
end Go.Proofs.Ythkfohoccnnphaa
namespace Go.Proofs.Ythkfohoccnnphaa
open Go Go.Sx
set_option maxRecDepth 100000
set_option maxHeartbeats 0
noncomputable section
def R_law05_sane (M:Den)  : Option Ou :=  callO (M n_law05_yard []) fun v0=>callO (M n_pen_Place ([CV.row 1 (gr v0 0),CV.row 4 (gr v0 1),CV.row 1 (chunk 1 3 [ci 1,ci 1,ci 2])])) fun v1=>callO (M n_pen_Count ([CV.row 1 (gr v0 0),CV.row 4 (gr v0 1),CV.row 1 (chunk 1 3 [ci 1,ci 1,ci 2])])) fun v2=>callO (M n_pen_Free ([CV.row 1 (gr v0 0),CV.row 4 (gr v0 1),CV.row 1 (chunk 1 3 [ci 1,ci 1,ci 2]),CV.row 1 (gr v1 0)])) fun v3=>callO (M n_pen_Add ([CV.row 1 (gr v0 0),CV.row 4 (gr v0 1),CV.row 1 (chunk 1 3 [ci 1,ci 1,ci 2]),CV.row 1 (gr v1 0),ci 3])) fun v4=>callO (M n_pen_Refuse ([CV.row 1 (gr v0 0),CV.row 4 (gr v0 1),CV.row 1 (chunk 1 4 [ci 1,ci 1,ci 1,ci 1])])) fun v5=>callO (M n_pen_Refuse ([CV.row 1 (gr v0 0),CV.row 4 (gr v0 1),CV.row 1 (chunk 1 4 [ci 4,ci 4,ci 4,ci 4])])) fun v6=>callO (M n_pen_Refuse ([CV.row 1 (gr v0 0),CV.row 4 (gr v0 1),CV.row 1 (chunk 1 5 [ci 1,ci 1,ci 1,ci 2,ci 2])])) fun v7=>callO (M n_pen_Fewest ([CV.row 1 (gr v0 0),CV.row 4 (gr v0 1),CV.row 1 (chunk 1 3 [ci 1,ci 4,ci 4])])) fun v8=>callO (M n_pen_Eaten ([CV.row 1 (gr v0 0),CV.row 4 (gr v0 1),CV.row 3 (chunk 3 2 [ci 1,ci 3,ci 6,ci 2,ci 4,ci (-1)]),ci 5])) fun v9=>callO (M n_pen_Lasts ([CV.row 1 (gr v0 0),CV.row 4 (gr v0 1),CV.row 3 (chunk 3 2 [ci 1,ci 3,ci 6,ci 2,ci 4,ci (-1)]),ci 41])) fun v10=>callO (M n_pen_Full ([CV.row 1 (gr v0 0),CV.row 4 (gr v0 1),CV.row 3 ([[ci 1,ci 3,ci 6],[ci 2,ci 4,ci (-1)],[ci 1,ci 5,ci 9],[ci 1,ci 5,ci 9],[ci 4,ci 5,ci 6]])])) fun v11=>seqO (iteB ((gi v1 1) == 0) (iteB ((gi v2 1) == 0) (iteB ((gi v3 1) == 0) (iteB ((gi v4 1) == 0) (iteB ((gi v5 2) == 0) (iteB ((gi v6 2) == 0) (iteB ((gi v7 2) == 0) (iteB ((gi v8 1) == 0) (iteB ((gi v9 1) == 0) (iteB ((gi v10 1) == 0) (some (.nx [cb ((gi v11 1) == 0)])) (some (.nx [cb false]))) (some (.nx [cb false]))) (some (.nx [cb false]))) (some (.nx [cb false]))) (some (.nx [cb false]))) (some (.nx [cb false]))) (some (.nx [cb false]))) (some (.nx [cb false]))) (some (.nx [cb false]))) (some (.nx [cb false]))) fun v12=>iteB (gb v12 0) (callO (M n_r05_Same ([CV.row 1 (gr v1 0),CV.row 1 (chunk 1 3 [ci 0,ci 0,ci 1])])) fun v13=>iteB (gb v13 0) (iteB ((gi v2 0) == 4) (callO (M n_r05_Same ([CV.row 1 (gr v3 0),CV.row 1 (chunk 1 3 [ci 0,ci 2,ci 4])])) fun v14=>iteB (gb v14 0) (iteB ((gi v4 0) == 1) (iteB ((gi v5 0) == 4) (callO (M n_r05_Same ([CV.row 1 (gr v5 1),CV.row 1 (chunk 1 4 [ci 0,ci 1,ci 2,ci 3])])) fun v15=>iteB (gb v15 0) (iteB ((gi v6 0) == 3) (callO (M n_r05_Same ([CV.row 1 (gr v6 1),CV.row 1 (chunk 1 4 [ci 0,ci 1,ci 2,ci 3])])) fun v16=>iteB (gb v16 0) (iteB ((gi v7 0) == 2) (callO (M n_r05_Same ([CV.row 1 (gr v7 1),CV.row 1 (chunk 1 5 [ci 0,ci 1,ci 2,ci 3,ci 4])])) fun v17=>iteB (gb v17 0) (callO (M n_r05_Same ([CV.row 1 (gr v8 0),CV.row 1 (chunk 1 3 [ci 0,ci 0,ci 1])])) fun v18=>iteB (gb v18 0) (iteB ((gi v9 0) == 36) (iteB ((gi v10 0) == 5) (some (.ret [cb ((gi v11 0) == 5)])) (some (.ret [cb false]))) (some (.ret [cb false]))) (some (.ret [cb false]))) (some (.ret [cb false]))) (some (.ret [cb false]))) (some (.ret [cb false]))) (some (.ret [cb false]))) (some (.ret [cb false]))) (some (.ret [cb false]))) (some (.ret [cb false]))) (some (.ret [cb false]))) (some (.ret [cb false]))) (some (.ret [cb false]))) (some (.ret [cb false]))
theorem q_law05_sane (its:ITS) (n:Nat)  : D its (n+1) n_law05_sane []=retO (R_law05_sane (D its n) ):=by kernel_rfl
def R_r05_CheckYard (M:Den) (a0_0 a0_1:List (List CV)):Option Ou :=  iteB (decide ((il a0_0) > 5)) (some (.ret [ci 50])) (blkO 0 (loopD (fun v0=>iteB (decide ((gi v0 0)<(il a0_0))) (chk (inb (gi v0 0) a0_0)<|chk (oks [li] (el a0_0 (gi v0 0)) 0)<|callO (M n_r05_within [ci (gi (el a0_0 (gi v0 0)) 0),ci 0,ci 1000]) fun v1=>iteB (!(gb v1 0)) (some (.ret [ci 50])) (some (.nx [ci (wr ((gi v0 0)+1))]))) (some (.br 0 []))) [ci 0]) fun v0=>blkO 2 (loopD (fun v1=>iteB (decide ((gi v1 0)<(il a0_1))) (chk (inb (gi v1 0) a0_1)<|chk (oks (List.replicate 4 li) (el a0_1 (gi v1 0)) 0)<|seqO (callO (M n_r05_within [ci (gi (el a0_1 (gi v1 0)) 0),ci 1,ci 9]) fun v2=>iteB (!(gb v2 0)) (some (.nx [cb true])) (callO (M n_r05_within [ci (gi (el a0_1 (gi v1 0)) 1),ci 1,ci 1000]) fun v3=>iteB (!(gb v3 0)) (some (.nx [cb true])) (callO (M n_r05_within [ci (gi (el a0_1 (gi v1 0)) 2),ci 0,ci 1000]) fun v4=>iteB (!(gb v4 0)) (some (.nx [cb true])) (callO (M n_r05_within [ci (gi (el a0_1 (gi v1 0)) 3),ci 0,ci 1023]) fun v5=>iteB (!(gb v5 0)) (some (.nx [cb true])) (iteB ((Int.tmod (gi (el a0_1 (gi v1 0)) 3) 2) != 0) (some (.nx [cb true])) (iteB (decide ((gi v1 0) > 0)) (chk (inb (wr ((gi v1 0) - 1)) a0_1)<|chk (oks [li] (List.drop 0 (el a0_1 (wr ((gi v1 0) - 1)))) 0)<|some (.nx [cb (decide ((gi (List.drop 0 (el a0_1 (wr ((gi v1 0) - 1)))) 0)≥(gi (el a0_1 (gi v1 0)) 0)))])) (some (.nx [cb false])))))))) fun v2=>iteB (gb v2 0) (some (.ret [ci 50])) (some (.nx [ci (wr ((gi v1 0)+1))]))) (some (.br 2 []))) [ci 0]) fun v1=>some (.ret [ci 0]))
theorem q_r05_CheckYard (its:ITS) (n:Nat) (a0_0 a0_1:List (List CV)):D its (n+1) n_r05_CheckYard [(.row 1 a0_0),(.row 4 a0_1)]=retO (R_r05_CheckYard (D its n) a0_0 a0_1):=by kernel_rfl
def R_pen_CheckYard (M:Den) (a0_0 a0_1:List (List CV)):Option Ou :=  seqO (iteB (decide ((il a0_0) > 5)) (some (.nx [cb true])) (callO (M n_slices_ContainsFunc_int ([CV.row 1 a0_0,CV.fn n_pen_CheckYard_c1 []])) fun v0=>some (.nx [cb (gb v0 0)]))) fun v0=>iteB (gb v0 0) (some (.ret [ci 50])) (blkO 0 (loopD (fun v1=>iteB (decide ((gi v1 0)<(il a0_1))) (chk (inb (gi v1 0) a0_1)<|chk (oks (List.replicate 4 li) (el a0_1 (gi v1 0)) 0)<|seqO (callO (M n_pen_isKind (cis (el a0_1 (gi v1 0)) 0 4)) fun v2=>iteB (!(gb v2 0)) (some (.nx [cb true])) (iteB (decide ((gi v1 0) > 0)) (chk (inb (wr ((gi v1 0) - 1)) a0_1)<|chk (oks [li] (List.drop 0 (el a0_1 (wr ((gi v1 0) - 1)))) 0)<|some (.nx [cb (decide ((gi (List.drop 0 (el a0_1 (wr ((gi v1 0) - 1)))) 0)≥(gi (el a0_1 (gi v1 0)) 0)))])) (some (.nx [cb false])))) fun v2=>iteB (gb v2 0) (some (.ret [ci 50])) (some (.nx [ci (wr ((gi v1 0)+1))]))) (some (.br 0 []))) [ci 0]) fun v1=>some (.ret [ci 0]))
theorem q_pen_CheckYard (its:ITS) (n:Nat) (a0_0 a0_1:List (List CV)):D its (n+1) n_pen_CheckYard [(.row 1 a0_0),(.row 4 a0_1)]=retO (R_pen_CheckYard (D its n) a0_0 a0_1):=by kernel_rfl
def R___pen_pound__takes (M:Den) (a0 a1:List CV) (a2 a3:Int):Option Ou :=  chk ((decide (0≤a3))&&(decide (a3<(Int.ofNat 10))))<|chk (oks [li] (List.drop 1 (List.drop ((Int.toNat a3)*4) (List.drop 2 a0))) 0)<|chk (oks [.row 1] (List.drop 0 a1) 0)<|chk (inb a2 (gr (List.drop 0 a1) 0))<|chk (oks [li] (el (gr (List.drop 0 a1) 0) a2) 0)<|iteB (decide ((gi (List.drop 1 (List.drop ((Int.toNat a3)*4) (List.drop 2 a0))) 0)≤(gi (el (gr (List.drop 0 a1) 0) a2) 0))) (chk ((decide (0≤a3))&&(decide (a3<(Int.ofNat 10))))<|chk (oks [li] (List.drop ((Int.toNat a3)*1) (List.drop 42 a0)) 0)<|chk (oks [.row 1] (List.drop 1 a1) 0)<|chk (inb a2 (gr (List.drop 1 a1) 0))<|chk (oks [li] (el (gr (List.drop 1 a1) 0) a2) 0)<|some (.ret [cb ((wr (Int.ofNat (bAN (gi (List.drop ((Int.toNat a3)*1) (List.drop 42 a0)) 0) (gi (el (gr (List.drop 1 a1) 0) a2) 0)))) == 0)])) (some (.ret [cb false]))
theorem q___pen_pound__takes (its:ITS) (n:Nat) (a0 a1:List CV) (a2 a3:Int):D its (n+1) n___pen_pound__takes [(.ref a0),(.ref a1),(ci a2),(ci a3)]=retO (R___pen_pound__takes (D its n) a0 a1 a2 a3):=by kernel_rfl
def R___pen_pound__nth (M:Den) (a0:List CV) (a1:List (List CV)) (a2:Int):Option Ou :=  callO (M n___pen_pound__all [CV.ref a0,CV.row 1 a1]) fun v0=>seqO (brO (rangeJO (itVJ sg M (List.getD v0 0 dC) (.lent 3 1)) (fun x1 v1=>iteB ((gi v1 0) == 0) (inlO (nilD (gr x1 0) (some (.ret ([CV.row 1 []]))) (chk (fitA 0 (List.length (gr x1 0)) 8)<|some (.ret [CV.row 1 (gr x1 0)]))) fun v2=>some (.ret [CV.row 1 (gr v2 0),cb true])) (some (.nx [ci (wr ((gi v1 0) - 1)),CV.row 1 (gr v1 1),cb (gb v1 2)]))) [ci a2,CV.val (Value.slice none 0 0),cb false])) fun v1=>some (.ret ([CV.row 1 [],cb false]))
theorem q___pen_pound__nth (its:ITS) (n:Nat) (a0:List CV) (a1:List (List CV)) (a2:Int):D its (n+1) n___pen_pound__nth [(.ref a0),(.row 1 a1),(ci a2)]=retO (R___pen_pound__nth (D its n) a0 a1 a2):=by kernel_rfl
def R_r05_Same (M:Den) (a0 a1:List (List CV)):Option Ou :=  iteB ((il a0) != (il a1)) (some (.ret [cb false])) (blkO 0 (loopD (fun v0=>iteB (decide ((gi v0 0)<(il a0))) (chk (inb (gi v0 0) a0)<|chk (oks [li] (el a0 (gi v0 0)) 0)<|chk (inb (gi v0 0) a1)<|chk (oks [li] (el a1 (gi v0 0)) 0)<|iteB ((gi (el a0 (gi v0 0)) 0) != (gi (el a1 (gi v0 0)) 0)) (some (.ret [cb false])) (some (.nx [ci (wr ((gi v0 0)+1))]))) (some (.br 0 []))) [ci 0]) fun v0=>some (.ret [cb true]))
theorem q_r05_Same (its:ITS) (n:Nat) (a0 a1:List (List CV)):D its (n+1) n_r05_Same [(.row 1 a0),(.row 1 a1)]=retO (R_r05_Same (D its n) a0 a1):=by kernel_rfl
def R_slices_IndexFunc_Stay (M:Den) (a0:List (List CV)) (a1:CV):Option Ou :=  blkO 0 (loopD (fun v0=>iteB (decide ((gi v0 0)<(il a0))) (chk (inb (gi v0 0) a0)<|chk (oks [li,li,li] (el a0 (gi v0 0)) 0)<|callO (callV sg M a1 [ci (gi (el a0 (gi v0 0)) 0),ci (gi (el a0 (gi v0 0)) 1),ci (gi (el a0 (gi v0 0)) 2)] [.agg [li,li,li]] [.one lb]) fun v1=>iteB (gb v1 0) (some (.ret [ci (gi v0 0)])) (some (.nx [ci (wr ((gi v0 0)+1))]))) (some (.br 0 []))) [ci 0]) fun v0=>some (.ret [ci (-1)])
theorem q_slices_IndexFunc_Stay (its:ITS) (n:Nat) (a0:List (List CV)) (a1:CV):D its (n+1) n_slices_IndexFunc_Stay [(.row 3 a0),a1]=retO (R_slices_IndexFunc_Stay (D its n) a0 a1):=by kernel_rfl
def R_pen_Eaten (M:Den) (a0_0 a0_1 a1:List (List CV)) (a2:Int):Option Ou :=  callO (M n_pen_staying [CV.row 1 a0_0,CV.row 4 a0_1,CV.row 3 a1]) fun v0=>iteB ((gi v0 1) != 0) (some (.ret [ci 0,ci (gi v0 1)])) (callO (M n_pen_in [ci a2,ci 0,ci 100000]) fun v1=>iteB (!(gb v1 0)) (some (.ret [ci 0,ci 6])) (chk (isRefC (List.getD v0 0 dC))<|callO (M n___pen_pound__eaten [CV.ref (cF (List.getD v0 0 dC)),CV.row 3 a1,ci a2]) fun v2=>some (.ret [ci (gi v2 0),ci 0])))
theorem q_pen_Eaten (its:ITS) (n:Nat) (a0_0 a0_1 a1:List (List CV)) (a2:Int):D its (n+1) n_pen_Eaten [(.row 1 a0_0),(.row 4 a0_1),(.row 3 a1),(ci a2)]=retO (R_pen_Eaten (D its n) a0_0 a0_1 a1 a2):=by kernel_rfl
def R___pen_pound__has (M:Den) (a0:List CV) (a1:Int):Option Ou :=  callO (M n_pen_in [ci a1,ci 1,ci 9]) fun v0=>iteB (gb v0 0) (chk ((decide (0≤a1))&&(decide (a1<(Int.ofNat 10))))<|chk (oks [li] (List.drop 0 (List.drop ((Int.toNat a1)*4) (List.drop 2 a0))) 0)<|some (.ret [cb ((gi (List.drop 0 (List.drop ((Int.toNat a1)*4) (List.drop 2 a0))) 0) == a1)])) (some (.ret [cb false]))
theorem q___pen_pound__has (its:ITS) (n:Nat) (a0:List CV) (a1:Int):D its (n+1) n___pen_pound__has [(.ref a0),(ci a1)]=retO (R___pen_pound__has (D its n) a0 a1):=by kernel_rfl
def R_pen_staying_c1 (M:Den) (a0_0 a0_1 a0_2:Int) (a1:List CV):Option Ou :=  chk (oks [.raw] a1 0)<|chk (isRefC (List.getD a1 0 dC))<|callO (M n___pen_pound__isStay [CV.ref (cF (List.getD a1 0 dC)),ci a0_0,ci a0_1,ci a0_2]) fun v0=>some (.ret [cb (!(gb v0 0))])
theorem q_pen_staying_c1 (its:ITS) (n:Nat) (a0_0 a0_1 a0_2:Int) (a1:List CV):D its (n+1) n_pen_staying_c1 [(ci a0_0),(ci a0_1),(ci a0_2),(.ref a1)]=retO (R_pen_staying_c1 (D its n) a0_0 a0_1 a0_2 a1):=by kernel_rfl
def R_law05_right (M:Den) (a0_0 a0_1 a1:List (List CV)):Option Ou :=  callO (M n_r05_CheckSorts [CV.row 1 a0_0,CV.row 4 a0_1,CV.row 1 a1]) fun v0=>some (.ret [cb ((gi v0 0) == 0)])
theorem q_law05_right (its:ITS) (n:Nat) (a0_0 a0_1 a1:List (List CV)):D its (n+1) n_law05_right [(.row 1 a0_0),(.row 4 a0_1),(.row 1 a1)]=retO (R_law05_right (D its n) a0_0 a0_1 a1):=by kernel_rfl
def R_pen_CheckYard_c1 (M:Den) (a0:Int):Option Ou :=  callO (M n_pen_in [ci a0,ci 0,ci 1000]) fun v0=>some (.ret [cb (!(gb v0 0))])
theorem q_pen_CheckYard_c1 (its:ITS) (n:Nat) (a0:Int):D its (n+1) n_pen_CheckYard_c1 [(ci a0)]=retO (R_pen_CheckYard_c1 (D its n) a0):=by kernel_rfl
end
end Go.Proofs.Ythkfohoccnnphaa
namespace Go.Proofs.Ythkfohoccnnphaa
open Go Go.Sx
set_option maxRecDepth 100000
set_option maxHeartbeats 0
noncomputable section
def upA (e:List CV) (v0:List CV):List CV:=CV.row 1 (gr v0 1)::CV.row 4 (gr v0 2)::(List.range 50).map fun j=>ci (if decide (j+2=(((2+(Int.toNat (gi e 0)*4))+1)+1)+1)=true then gi e 3 else if decide (j+2=((2+(Int.toNat (gi e 0)*4))+1)+1)=true then gi e 2 else if decide (j+2=(2+(Int.toNat (gi e 0)*4))+1)=true then gi e 1 else if decide (j+2=2+(Int.toNat (gi e 0)*4))=true then gi e 0 else gi v0 (j+3))
def upB (e:List CV) (v2:List CV):List CV:=CV.row 1 (gr v2 1)::CV.row 4 (gr v2 2)::(List.range 50).map fun j=>ci (if decide (j+2=42+(Int.toNat (gi e 0)*1))=true then wr (Int.ofNat (bON (gi (cat [[CV.row 1 (gr v2 1),CV.row 4 (gr v2 2)],cis v2 3 50]) (42+(Int.toNat (gi e 0)*1))) (wr (1*((2:Int) ^ (min (Int.toNat (gi v2 0)) 64)))))) else gi v2 (j+3))
def upC (e:List CV) (v2 v3:List CV):List CV:=CV.row 1 (gr v3 0)::CV.row 4 (gr v3 1)::(List.range 50).map fun j=>ci (if decide (j+2=42+(Int.toNat (gi v2 0)*1))=true then wr (Int.ofNat (bON (gi (cat [[CV.row 1 (gr v3 0),CV.row 4 (gr v3 1)],cis v3 2 50]) (42+(Int.toNat (gi v2 0)*1))) (wr (1*((2:Int) ^ (min (Int.toNat (gi e 0)) 64)))))) else gi v3 (j+2))
def npIn (e:List CV):List CV→Option Ou:=fun v2=>iteB (decide ((gi v2 0)<10)) (chk (decide (0≤(gi v2 0)))<|seqO (iteB ((wr (Int.ofNat (bAN (Int.fdiv (gi e 3) ((2:Int) ^ (min (Int.toNat (gi v2 0)) 64))) 1))) == 1) (seqO (chk ((decide (0≤(gi e 0)))&&(decide ((gi e 0)<(Int.ofNat 10))))<|chk (oks [li] (cat [[CV.row 1 (gr v2 1),CV.row 4 (gr v2 2)],cis v2 3 50]) (42+((Int.toNat (gi e 0))*1)))<|chk (decide (0≤(gi v2 0)))<|chk ((decide (0≤(gi e 0)))&&(decide ((gi e 0)<(Int.ofNat 10))))<|chk (oks [li] (cat [[CV.row 1 (gr v2 1),CV.row 4 (gr v2 2)],cis v2 3 50]) (42+((Int.toNat (gi e 0))*1)))<|some (.nx ((upB e v2)))) fun v3=>seqO (chk ((decide (0≤(gi v2 0)))&&(decide ((gi v2 0)<(Int.ofNat 10))))<|chk (oks [li] (cat [[CV.row 1 (gr v3 0),CV.row 4 (gr v3 1)],cis v3 2 50]) (42+((Int.toNat (gi v2 0))*1)))<|chk (decide (0≤(gi e 0)))<|chk ((decide (0≤(gi v2 0)))&&(decide ((gi v2 0)<(Int.ofNat 10))))<|chk (oks [li] (cat [[CV.row 1 (gr v3 0),CV.row 4 (gr v3 1)],cis v3 2 50]) (42+((Int.toNat (gi v2 0))*1)))<|some (.nx ((upC e v2 v3)))) fun v4=>some (.nx (cat [[CV.row 1 (gr v4 0),CV.row 4 (gr v4 1)],cis v4 2 50]))) (some (.nx (cat [[CV.row 1 (gr v2 1),CV.row 4 (gr v2 2)],cis v2 3 50])))) fun v3=>some (.nx (cat [[ci (wr ((gi v2 0)+1)),CV.row 1 (gr v3 0),CV.row 4 (gr v3 1)],cis v3 2 50]))) (some (.br 2 (cat [[CV.row 1 (gr v2 1),CV.row 4 (gr v2 2)],cis v2 3 50])))
def npOut (a0_1:List (List CV)):List CV→Option Ou:=fun v0=>iteB (decide ((gi v0 0)<(il a0_1))) (chk (inb (gi v0 0) a0_1)<|chk (oks (List.replicate 4 li) (el a0_1 (gi v0 0)) 0)<|seqO (chk ((decide (0≤(gi (el a0_1 (gi v0 0)) 0)))&&(decide ((gi (el a0_1 (gi v0 0)) 0)<(Int.ofNat 10))))<|chk (oks (List.replicate 4 li) (cat [[CV.row 1 (gr v0 1),CV.row 4 (gr v0 2)],cis v0 3 50]) (2+((Int.toNat (gi (el a0_1 (gi v0 0)) 0))*4)))<|some (.nx (upA (el a0_1 (gi v0 0)) v0))) fun v1=>blkO 2 (loopD (npIn (el a0_1 (gi v0 0))) (cat [[ci 0,CV.row 1 (gr v1 0),CV.row 4 (gr v1 1)],cis v1 2 50])) fun v2=>some (.nx (cat [[ci (wr ((gi v0 0)+1)),CV.row 1 (gr v2 0),CV.row 4 (gr v2 1)],cis v2 2 50]))) (some (.br 0 (cat [[CV.row 1 (gr v0 1),CV.row 4 (gr v0 2)],cis v0 3 50])))
def npR (a0_0 a0_1:List (List CV)):Option Ou:=blkO 0 (loopD (npOut a0_1) (ci 0::CV.row 1 a0_0::CV.row 4 a0_1::List.replicate 50 (ci 0))) fun v0=>some (.ret ([CV.ref (cat [[CV.row 1 (gr v0 0),CV.row 4 (gr v0 1)],cis v0 2 50])]))
theorem q_pen_newPound (its:ITS) (n:Nat) (a0_0 a0_1:List (List CV)):D its (n+1) n_pen_newPound [(.row 1 a0_0),(.row 4 a0_1)]=retO (npR a0_0 a0_1):=by kernel_rfl
end
end Go.Proofs.Ythkfohoccnnphaa
namespace Go.Proofs.Ythkfohoccnnphaa
open Go Go.Sx
set_option maxRecDepth 100000
set_option maxHeartbeats 0
noncomputable section
def mixUp (q:Int) (v6:List CV):List CV:=[ci (wr ((gi v6 0)+1)),ci (if (decide (0=(0+((Int.toNat q)*1))))=true then wr ((gi (cis v6 1 10) (0+((Int.toNat q)*1)))+1) else gi v6 1),ci (if (decide (1=(0+((Int.toNat q)*1))))=true then wr ((gi (cis v6 1 10) (0+((Int.toNat q)*1)))+1) else gi v6 2),ci (if (decide (2=(0+((Int.toNat q)*1))))=true then wr ((gi (cis v6 1 10) (0+((Int.toNat q)*1)))+1) else gi v6 3),ci (if (decide (3=(0+((Int.toNat q)*1))))=true then wr ((gi (cis v6 1 10) (0+((Int.toNat q)*1)))+1) else gi v6 4),ci (if (decide (4=(0+((Int.toNat q)*1))))=true then wr ((gi (cis v6 1 10) (0+((Int.toNat q)*1)))+1) else gi v6 5),ci (if (decide (5=(0+((Int.toNat q)*1))))=true then wr ((gi (cis v6 1 10) (0+((Int.toNat q)*1)))+1) else gi v6 6),ci (if (decide (6=(0+((Int.toNat q)*1))))=true then wr ((gi (cis v6 1 10) (0+((Int.toNat q)*1)))+1) else gi v6 7),ci (if (decide (7=(0+((Int.toNat q)*1))))=true then wr ((gi (cis v6 1 10) (0+((Int.toNat q)*1)))+1) else gi v6 8),ci (if (decide (8=(0+((Int.toNat q)*1))))=true then wr ((gi (cis v6 1 10) (0+((Int.toNat q)*1)))+1) else gi v6 9),ci (if (decide (9=(0+((Int.toNat q)*1))))=true then wr ((gi (cis v6 1 10) (0+((Int.toNat q)*1)))+1) else gi v6 10)]
def mixStep (es:List (List CV)):List CV→Option Ou:=fun v6=>iteB (decide ((gi v6 0)<(il es))) (chk (inb (gi v6 0) es)<|chk (oks [li] (el es (gi v6 0)) 0)<|chk ((decide (0≤(gi (el es (gi v6 0)) 0)))&&(decide ((gi (el es (gi v6 0)) 0)<(Int.ofNat 10))))<|chk (oks [li] (cis v6 1 10) (0+((Int.toNat (gi (el es (gi v6 0)) 0))*1)))<|chk ((decide (0≤(gi (el es (gi v6 0)) 0)))&&(decide ((gi (el es (gi v6 0)) 0)<(Int.ofNat 10))))<|chk (oks [li] (cis v6 1 10) (0+((Int.toNat (gi (el es (gi v6 0)) 0))*1)))<|some (.nx (mixUp (gi (el es (gi v6 0)) 0) v6))) (some (.br 0 (cis v6 1 10)))
def bigIn (p:List CV) (a1 es:List (List CV)):List CV→Option Ou:=fun v4=>iteB (decide ((gi v4 0)<(il (gr (List.drop 0 (List.drop 0 p)) 0)))) (chk (inb (gi v4 0) (gr (List.drop 0 (List.drop 0 p)) 0))<|chk (oks [li] (el (gr (List.drop 0 (List.drop 0 p)) 0) (gi v4 0)) 0)<|inlO (chk (inb 0 es)<|chk (oks [li] (List.getD es 0 []) 0)<|chk (inb (gi (List.getD es 0 []) 0) a1)<|chk (oks [li] (el a1 (gi (List.getD es 0 []) 0)) 0)<|chk ((decide (0≤(gi (el a1 (gi (List.getD es 0 []) 0)) 0)))&&(decide ((gi (el a1 (gi (List.getD es 0 []) 0)) 0)<(Int.ofNat 10))))<|chk (oks [li] (List.drop 1 (List.drop ((Int.toNat (gi (el a1 (gi (List.getD es 0 []) 0)) 0))*4) (List.drop 2 p))) 0)<|some (.ret ([cb (decide ((gi (List.drop 1 (List.drop ((Int.toNat (gi (el a1 (gi (List.getD es 0 []) 0)) 0))*4) (List.drop 2 p))) 0)≤(gi (el (gr (List.drop 0 (List.drop 0 p)) 0) (gi v4 0)) 0)))]))) fun v5=>iteB (gb v5 0) (some (.ret [ci (gi v4 0)])) (some (.nx [ci (wr ((gi v4 0)+1))]))) (some (.br 0 []))
def bigO (p:List CV) (a1 es:List (List CV)):Option Ou:=iteB ((il es) == 1) (chk (oks [.row 1] (List.drop 0 (List.drop 0 p)) 0)<|inlO (inlO (blkO 0 (loopD (bigIn p a1 es) [ci 0]) fun v4=>some (.ret [ci (-1)])) fun v4=>some (.ret [cb (decide ((gi v4 0)≥0))])) fun v4=>some (.ret [cb (!(gb v4 0))])) (some (.ret [cb false]))
def bigRg (p:List CV) (a1:List (List CV)):List CV→List CV→Option Ou:=fun x3 v3=>inlO (bigO p a1 (gr x3 0)) fun v4=>iteB (gb v4 0) (some (.ret [ci 1,CV.row 1 (gr x3 0),ci 0])) (some (.nx [ci (gi v3 0),CV.row 1 (gr v3 1),ci (gi v3 2)]))
def sumIn (p:List CV):List CV→Option Ou:=fun v5=>iteB (decide ((gi v5 1)<(il (gr (List.drop 0 (List.drop 0 p)) 0)))) (chk (inb (gi v5 1) (gr (List.drop 0 (List.drop 0 p)) 0))<|chk (oks [li] (el (gr (List.drop 0 (List.drop 0 p)) 0) (gi v5 1)) 0)<|some (.nx [ci (wr ((gi v5 0)+(gi (el (gr (List.drop 0 (List.drop 0 p)) 0) (gi v5 1)) 0))),ci (wr ((gi v5 1)+1))])) (some (.br 0 [ci (gi v5 0)]))
def muchO (M:Den) (p:List CV) (a1 es:List (List CV)):Option Ou:=chk (oks [.row 1] (List.drop 0 (List.drop 0 p)) 0)<|blkO 0 (loopD (sumIn p) [ci 0,ci 0]) fun v5=>indO (fun c6=>M 124 [CV.ref p,CV.row 1 a1,c6,CV.row 1 es]) fun v6=>callO (M 85 [CV.ref p,CV.row 1 (gr v6 0)]) fun v7=>some (.ret [cb (decide ((gi v7 0) > (gi v5 0)))])
def lMuch (M:Den) (p:List CV) (a1:List (List CV)):List CV→Option Ou:=fun v6=>iteB (decide ((gi v6 1)≥0)) (inlO (nilD (gr v6 0) (some (.ret ([CV.row 1 []]))) (chk (fitA 0 (List.length (gr v6 0)) 8)<|some (.ret [CV.row 1 (gr v6 0)]))) fun v7=>callO (M 82 ([CV.row 1 (gr v7 0),CV.fn 3 [],ci (gi v6 1),ci (wr ((gi v6 1)+1))])) fun v8=>chk (mutR 1 true v8)<|inlO (muchO M p a1 (gr v8 0)) fun v9=>seqO (iteB (gb v9 0) (some (.nx [CV.row 1 (gr v8 0)])) (some (.nx [CV.row 1 (gr v6 0)]))) fun v10=>some (.nx [CV.row 1 (gr v10 0),ci (wr ((gi v6 1) - 1))])) (some (.br 0 [CV.row 1 (gr v6 0)]))
def many2 (M:Den) (p:List CV) (a1 es:List (List CV)) (i:Int):List CV→Option Ou:=fun v9=>iteB (decide ((gi v9 0)<(il (List.drop 0 (List.take (Int.toNat i) es))))) (chk (inb (gi v9 0) (List.drop 0 (List.take (Int.toNat i) es)))<|chk (oks [li] (el (List.drop 0 (List.take (Int.toNat i) es)) (gi v9 0)) 0)<|chk (inb (gi (el es i) 0) a1)<|chk (oks [li] (el a1 (gi (el es i) 0)) 0)<|chk (inb (gi (el (List.drop 0 (List.take (Int.toNat i) es)) (gi v9 0)) 0) a1)<|chk (oks [li] (el a1 (gi (el (List.drop 0 (List.take (Int.toNat i) es)) (gi v9 0)) 0)) 0)<|callO (M 88 [CV.ref p,ci (gi (el a1 (gi (el es i) 0)) 0),ci (gi (el a1 (gi (el (List.drop 0 (List.take (Int.toNat i) es)) (gi v9 0)) 0)) 0)]) fun v10=>iteB (!(gb v10 0)) (some (.ret [cb false])) (some (.nx [ci (wr ((gi v9 0)+1))]))) (some (.br 2 []))
def many1 (M:Den) (p:List CV) (a1 es:List (List CV)):List CV→Option Ou:=fun v8=>iteB (decide ((gi v8 0)<(il es))) (chk (inb (gi v8 0) es)<|chk (oks [li] (el es (gi v8 0)) 0)<|chk (((decide (0≤0))&&(decide (0≤(gi v8 0))))&&(decide ((gi v8 0)≤(il es))))<|blkO 2 (loopD (many2 M p a1 es (gi v8 0)) [ci 0]) fun v9=>some (.nx [ci (wr ((gi v8 0)+1))])) (some (.br 0 []))
def manyO (M:Den) (p:List CV) (a1 es:List (List CV)):Option Ou:=blkO 0 (loopD (many1 M p a1 es) [ci 0]) fun v8=>chk (oks [.row 1] (List.drop 0 (List.drop 0 p)) 0)<|some (.ret [cb ((il es) == (wr ((il (gr (List.drop 0 (List.drop 0 p)) 0))+1)))])
def manyRg (M:Den) (p:List CV) (a1:List (List CV)):List CV→List CV→Option Ou:=fun x7 v7=>inlO (manyO M p a1 (gr x7 0)) fun v8=>iteB (gb v8 0) (some (.ret [ci 3,CV.row 1 (gr x7 0),ci 0])) (some (.nx [ci (gi v7 0),CV.row 1 (gr v7 1),ci (gi v7 2)]))
def tightO (M:Den) (p:List CV) (a1 es tr:List (List CV)):Option Ou:=indO (fun c11=>M 124 [CV.ref p,CV.row 1 a1,c11,CV.row 1 es]) fun v11=>inlO (blkO 0 (loopD (mixStep (gr v11 0)) [ci 0,ci 0,ci 0,ci 0,ci 0,ci 0,ci 0,ci 0,ci 0,ci 0,ci 0]) fun v12=>chk (okEs [(.int .i64),(.int .i64),(.int .i64),(.int .i64),(.int .i64),(.int .i64),(.int .i64),(.int .i64),(.int .i64),(.int .i64)] .bool tr)<|seqO (iteB (!(decide ((posM 10 (cis v12 0 10) tr)<(List.length tr)))) (callO (M 74 [CV.ref p,CV.row 1 (gr v11 0),ci 0]) fun v13=>chk (okEs [(.int .i64),(.int .i64),(.int .i64),(.int .i64),(.int .i64),(.int .i64),(.int .i64),(.int .i64),(.int .i64),(.int .i64)] .bool tr)<|some (.nx [cb (gb v13 1),CV.row 11 (updM 10 (cis v12 0 10) (cb (gb v13 1)) tr)])) (some (.nx [cb (cB (lookM 10 (cis v12 0 10) (.bool false) tr)),CV.row 11 tr]))) fun v13=>some (.ret [cb (gb v13 0),CV.row 11 (gr v13 1)])) fun v12=>some (.ret [cb (!(gb v12 0)),CV.row 11 (gr v12 1)])
def lTight (M:Den) (p:List CV) (a1:List (List CV)):List CV→Option Ou:=fun v8=>iteB (decide ((gi v8 1)≥0)) (inlO (nilD (gr v8 0) (some (.ret ([CV.row 1 []]))) (chk (fitA 0 (List.length (gr v8 0)) 8)<|some (.ret [CV.row 1 (gr v8 0)]))) fun v9=>callO (M 82 ([CV.row 1 (gr v9 0),CV.fn 3 [],ci (gi v8 1),ci (wr ((gi v8 1)+1))])) fun v10=>chk (mutR 1 true v10)<|inlO (tightO M p a1 (gr v10 0) (gr v8 2)) fun v11=>seqO (iteB (gb v11 0) (some (.nx [CV.row 1 (gr v10 0)])) (some (.nx [CV.row 1 (gr v8 0)]))) fun v12=>some (.nx [CV.row 1 (gr v12 0),ci (wr ((gi v8 1) - 1)),CV.row 11 (gr v11 1)])) (some (.br 0 [CV.row 1 (gr v8 0),CV.row 11 (gr v8 2)]))
def allIn (a1:List (List CV)):List CV→Option Ou:=fun v4=>iteB (decide ((gi v4 0)<(il a1))) (chk (fitA (List.length (gr v4 1)) 1 8)<|some (.nx ([ci (wr ((gi v4 0)+1)),CV.row 1 ((gr v4 1)++(chunk 1 1 [ci (gi v4 0)]))]))) (some (.br 2 [CV.row 1 (gr v4 1)]))
def refuseS (M:Den) (a0_0 a0_1 a1:List (List CV)):Option Ou:=callO (M 72 [CV.row 1 a0_0,CV.row 4 a0_1,CV.row 1 a1]) fun v0=>iteB ((gi v0 1) != 0) (some (.ret ([ci 0,CV.row 1 [],ci (gi v0 1)]))) (chk (isRefC (List.getD v0 0 dC))<|inlO (blkO 0 (loopD (mixStep a1) [ci 0,ci 0,ci 0,ci 0,ci 0,ci 0,ci 0,ci 0,ci 0,ci 0,ci 0]) fun v1=>seqO (callO (M 74 [CV.ref (cF (List.getD v0 0 dC)),CV.row 1 a1,ci 0]) fun v2=>some (.nx ([cb (gb v2 1),CV.row 11 (updM 10 (cis v1 0 10) (cb (gb v2 1)) [])]))) fun v2=>some (.ret [cb (gb v2 0),CV.row 11 (gr v2 1)])) fun v1=>iteB (gb v1 0) (some (.ret ([ci 0,CV.row 1 [],ci 3]))) (callO (M 93 [ci (il a1),ci 1]) fun v2=>seqO (brO (rangeJO (itVJ sg M (List.getD v2 0 dC) (.clo [.one (.row 1)])) (bigRg (cF (List.getD v0 0 dC)) a1) [ci 0,CV.val (Value.slice none 0 0),ci 0])) fun v3=>blkO 2 (loopD (allIn a1) ([ci 0,CV.row 1 []])) fun v4=>inlO (muchO M (cF (List.getD v0 0 dC)) a1 (gr v4 0)) fun v5=>iteB (gb v5 0) (inlO (blkO 0 (loopD (lMuch M (cF (List.getD v0 0 dC)) a1) [CV.row 1 (gr v4 0),ci (wr ((il (gr v4 0)) - 1))]) fun v6=>some (.ret [CV.row 1 (gr v6 0)])) fun v6=>some (.ret [ci 2,CV.row 1 (gr v6 0),ci 0])) (chk (oks [.row 1] (List.drop 0 (List.drop 0 (cF (List.getD v0 0 dC)))) 0)<|callO (M 93 [ci (il a1),ci (wr ((il (gr (List.drop 0 (List.drop 0 (cF (List.getD v0 0 dC)))) 0))+1))]) fun v6=>seqO (brO (rangeJO (itVJ sg M (List.getD v6 0 dC) (.clo [.one (.row 1)])) (manyRg M (cF (List.getD v0 0 dC)) a1) [ci (gi v3 0),CV.row 1 (gr v3 1),ci (gi v3 2)])) fun v7=>inlO (blkO 0 (loopD (lTight M (cF (List.getD v0 0 dC)) a1) [CV.row 1 (gr v4 0),ci (wr ((il (gr v4 0)) - 1)),CV.row 11 (gr v1 1)]) fun v8=>some (.ret [CV.row 1 (gr v8 0),CV.row 11 (gr v8 1)])) fun v8=>some (.ret [ci 4,CV.row 1 (gr v8 0),ci 0]))))
theorem q_pen_Refuse (its:ITS) (n:Nat) (a b c:List (List CV)):D its (n+1) n_pen_Refuse [(.row 1 a),(.row 4 b),(.row 1 c)]=retO (refuseS (D its n) a b c):=by kernel_rfl
def sortStep (a1 ts:List (List CV)):List CV→Option Ou:=fun v5=>iteB (decide ((gi v5 0)<(il ts))) (chk (inb (gi v5 0) ts)<|chk (oks [li] (el ts (gi v5 0)) 0)<|chk (inb (gi (el ts (gi v5 0)) 0) a1)<|chk (oks [li] (List.drop 0 (el a1 (gi (el ts (gi v5 0)) 0))) 0)<|chk (fitA (List.length (gr v5 1)) 1 8)<|some (.nx ([ci (wr ((gi v5 0)+1)),CV.row 1 ((gr v5 1)++(chunk 1 1 [ci (gi (List.drop 0 (el a1 (gi (el ts (gi v5 0)) 0))) 0)]))]))) (some (.br 4 [CV.row 1 (gr v5 1)]))
def dayStep (a1:List (List CV)):List CV→Option Ou:=fun v1=>iteB (decide ((gi v1 0)<(il a1))) (chk (inb (gi v1 0) a1)<|chk (oks [li,li,li] (el a1 (gi v1 0)) 0)<|chk (fitA (List.length (gr v1 1)) 1 8)<|seqO (iteB ((gi (el a1 (gi v1 0)) 2) != (-1)) (chk (fitA (List.length ((gr v1 1)++(chunk 1 1 [ci (gi (el a1 (gi v1 0)) 1)]))) 1 8)<|some (.nx ([CV.row 1 (((gr v1 1)++(chunk 1 1 [ci (gi (el a1 (gi v1 0)) 1)]))++(chunk 1 1 [ci (gi (el a1 (gi v1 0)) 2)]))]))) (some (.nx ([CV.row 1 ((gr v1 1)++(chunk 1 1 [ci (gi (el a1 (gi v1 0)) 1)]))])))) fun v2=>some (.nx [ci (wr ((gi v1 0)+1)),CV.row 1 (gr v2 0)])) (some (.br 0 [CV.row 1 (gr v1 1)]))
def fullStep (M:Den) (c:CV) (a1 ds:List (List CV)):List CV→Option Ou:=fun v3=>iteB (decide ((gi v3 0)<(il ds))) (chk (inb (gi v3 0) ds)<|chk (decide ((Int.toNat (gi v3 0))<(List.length ds)))<|chk (oks [li] (el ds (gi v3 0)) 0)<|callO (M 69 [CV.row 3 a1,ci (gi (el ds (gi v3 0)) 0)]) fun v4=>blkO 4 (loopD (sortStep a1 (gr v4 0)) ([ci 0,CV.row 1 []])) fun v5=>seqO (iteB (decide ((il (gr v5 0)) > 8)) (some (.nx [cb true,CV.row 11 (gr v3 1)])) (inlO (blkO 0 (loopD (mixStep (gr v5 0)) [ci 0,ci 0,ci 0,ci 0,ci 0,ci 0,ci 0,ci 0,ci 0,ci 0,ci 0]) fun v6=>chk (okEs [(.int .i64),(.int .i64),(.int .i64),(.int .i64),(.int .i64),(.int .i64),(.int .i64),(.int .i64),(.int .i64),(.int .i64)] .bool (gr v3 1))<|seqO (iteB (!(decide ((posM 10 (cis v6 0 10) (gr v3 1))<(List.length (gr v3 1))))) (chk (isRefC c)<|callO (M 74 [CV.ref (cF c),CV.row 1 (gr v5 0),ci 0]) fun v7=>chk (okEs [(.int .i64),(.int .i64),(.int .i64),(.int .i64),(.int .i64),(.int .i64),(.int .i64),(.int .i64),(.int .i64),(.int .i64)] .bool (gr v3 1))<|some (.nx [cb (gb v7 1),CV.row 11 (updM 10 (cis v6 0 10) (cb (gb v7 1)) (gr v3 1))])) (some (.nx [cb (cB (lookM 10 (cis v6 0 10) (.bool false) (gr v3 1))),CV.row 11 (gr v3 1)]))) fun v7=>some (.ret [cb (gb v7 0),CV.row 11 (gr v7 1)])) fun v6=>some (.nx [cb (!(gb v6 0)),CV.row 11 (gr v6 1)]))) fun v6=>iteB (gb v6 0) (some (.ret [ci (gi (el ds (gi v3 0)) 0),ci 0])) (some (.nx [ci (wr ((gi v3 0)+1)),CV.row 11 (gr v6 1)]))) (some (.br 2 [CV.row 11 (gr v3 1)]))
def fullS (M:Den) (a0_0 a0_1 a1:List (List CV)):Option Ou:=callO (M 66 [CV.row 1 a0_0,CV.row 4 a0_1,CV.row 3 a1]) fun v0=>iteB ((gi v0 1) != 0) (some (.ret [ci 0,ci (gi v0 1)])) (blkO 0 (loopD (dayStep a1) ([ci 0,CV.row 1 []])) fun v1=>callO (M 70 ([CV.row 1 (gr v1 0),CV.fn 3 []])) fun v2=>chk (mutR 1 false v2)<|blkO 2 (loopD (fullStep M (List.getD v0 0 dC) a1 (gr v2 0)) ([ci 0,CV.row 11 []])) fun v3=>some (.ret [ci 0,ci 3]))
theorem q_pen_Full (its:ITS) (n:Nat) (a b c:List (List CV)):D its (n+1) n_pen_Full [(.row 1 a),(.row 4 b),(.row 3 c)]=retO (fullS (D its n) a b c):=by kernel_rfl
def usedStep (es:List (List CV)):List CV→Option Ou:=fun v3=>iteB (decide ((gi v3 1)<(il es))) (chk (inb (gi v3 1) es)<|chk (decide ((Int.toNat (gi v3 1))<(List.length es)))<|chk (oks [li] (el es (gi v3 1)) 0)<|chk ((decide (0≤(gi (el es (gi v3 1)) 0)))&&(decide ((gi (el es (gi v3 1)) 0)<(Int.ofNat 5))))<|chk (oks [lb] [cb (gb v3 2),cb (gb v3 3),cb (gb v3 4),cb (gb v3 5),cb (gb v3 6)] (0+((Int.toNat (gi (el es (gi v3 1)) 0))*1)))<|seqO (iteB (!(gb [cb (gb v3 2),cb (gb v3 3),cb (gb v3 4),cb (gb v3 5),cb (gb v3 6)] (0+((Int.toNat (gi (el es (gi v3 1)) 0))*1)))) (chk ((decide (0≤(gi (el es (gi v3 1)) 0)))&&(decide ((gi (el es (gi v3 1)) 0)<(Int.ofNat 5))))<|chk (oks [lb] [cb (gb v3 2),cb (gb v3 3),cb (gb v3 4),cb (gb v3 5),cb (gb v3 6)] (0+((Int.toNat (gi (el es (gi v3 1)) 0))*1)))<|some (.nx [ci (wr ((gi v3 0)+1)),cb (if (decide (0=(0+((Int.toNat (gi (el es (gi v3 1)) 0))*1))))=true then true else gb v3 2),cb (if (decide (1=(0+((Int.toNat (gi (el es (gi v3 1)) 0))*1))))=true then true else gb v3 3),cb (if (decide (2=(0+((Int.toNat (gi (el es (gi v3 1)) 0))*1))))=true then true else gb v3 4),cb (if (decide (3=(0+((Int.toNat (gi (el es (gi v3 1)) 0))*1))))=true then true else gb v3 5),cb (if (decide (4=(0+((Int.toNat (gi (el es (gi v3 1)) 0))*1))))=true then true else gb v3 6)])) (some (.nx [ci (gi v3 0),cb (gb v3 2),cb (gb v3 3),cb (gb v3 4),cb (gb v3 5),cb (gb v3 6)]))) fun v4=>some (.nx [ci (gi v4 0),ci (wr ((gi v3 1)+1)),cb (gb v4 1),cb (gb v4 2),cb (gb v4 3),cb (gb v4 4),cb (gb v4 5)])) (some (.br 2 [ci (gi v3 0),cb (gb v3 2),cb (gb v3 3),cb (gb v3 4),cb (gb v3 5),cb (gb v3 6)]))
def fwStep:List CV→List CV→Option Ou:=fun x2 v2 =>
            blkO 2 (loopD (usedStep (gr x2 0)) [ci 0,ci 0,cb false,cb false,cb false,cb false,cb false]) fun v3 =>
            seqO (iteB (decide ((gi v3 0)<(gi v2 1)))
                (chk (okEs [.bool,.bool,.bool,.bool,.bool] .bool (gr v2 2)) <|
                some (.nx ([cb (!(cB (lookM 5 [cb (gb v3 1),cb (gb v3 2),cb (gb v3 3),cb (gb v3 4),cb (gb v3 5)] (.bool false) (gr v2 2))))])))
                (some (.nx [cb false]))) fun v4 =>
            seqO (iteB (gb v4 0)
                (inlO (nilD (gr x2 0)
                    (some (.ret ([CV.row 1 []])))
                    (chk (fitA 0 (List.length (gr x2 0)) 8) <|
                    some (.ret [CV.row 1 (gr x2 0)]))) fun v5 =>
                some (.nx [CV.row 1 (gr v5 0),ci (gi v3 0)]))
                (some (.nx [CV.row 1 (gr v2 0),ci (gi v2 1)]))) fun v5 =>
            chk (okEs [.bool,.bool,.bool,.bool,.bool] .bool (gr v2 2)) <|
            some (.nx ([CV.row 1 (gr v5 0),ci (gi v5 1),CV.row 6 (updM 5 [cb (gb v3 1),cb (gb v3 2),cb (gb v3 3),cb (gb v3 4),cb (gb v3 5)] (cb true) (gr v2 2))]))
def fewestR (M:Den) (a b l:List (List CV)):Option Ou:=callO (M 72 [CV.row 1 a,CV.row 4 b,CV.row 1 l]) fun v0 =>
    iteB ((gi v0 1) != 0)
      (some (.ret ([CV.row 1 [],ci (gi v0 1)])))
      (chk (isRefC (List.getD v0 0 dC)) <|
      chk (oks [.row 1] (List.drop 0 (List.drop 0 (cF (List.getD v0 0 dC)))) 0) <|
      callO (M 73 [CV.ref (cF (List.getD v0 0 dC)),CV.row 1 l]) fun v1 =>
      seqO (brO (rangeJO (itVJ sg M (List.getD v1 0 dC) (.lent 3 1)) fwStep ([CV.val (Value.slice none 0 0),ci (wr ((il (gr (List.drop 0 (List.drop 0 (cF (List.getD v0 0 dC)))) 0))+1)),CV.row 6 []]))) fun v2 =>
      chk (oks [.row 1] (List.drop 0 (List.drop 0 (cF (List.getD v0 0 dC)))) 0) <|
      iteB (decide ((gi v2 1) > (il (gr (List.drop 0 (List.drop 0 (cF (List.getD v0 0 dC)))) 0))))
        (some (.ret ([CV.row 1 [],ci 53])))
        (some (.ret [CV.row 1 (gr v2 0),ci 0])))
theorem q_pen_Fewest (its:ITS) (n:Nat) (a b l:List (List CV)):D its (n+1) n_pen_Fewest [(.row 1 a),(.row 4 b),(.row 1 l)]=retO (fewestR (D its n) a b l):=by kernel_rfl
end
end Go.Proofs.Ythkfohoccnnphaa
namespace Go.Proofs.Ythkfohoccnnphaa
open Go Go.Sx
set_option maxRecDepth 100000
theorem en3:∃ fn,EntOk Try.prog 3 fe3 fn∧bodyOf Try.f3=bodyOf fn:=by refine ⟨Try.f3,⟨?_,?_,?_,?_,?_⟩,rfl⟩ <;> kernel_rfl
theorem en8:∃ fn,EntOk Try.prog 8 fe8 fn∧bodyOf Try.f8=bodyOf fn:=by refine ⟨Try.f8,⟨?_,?_,?_,?_,?_⟩,rfl⟩ <;> kernel_rfl
theorem en14:∃ fn,EntOk Try.prog 14 fe14 fn∧bodyOf Try.f14=bodyOf fn:=by refine ⟨Try.f14,⟨?_,?_,?_,?_,?_⟩,rfl⟩ <;> kernel_rfl
theorem en15:∃ fn,EntOk Try.prog 15 fe15 fn∧bodyOf Try.f15=bodyOf fn:=by refine ⟨Try.f15,⟨?_,?_,?_,?_,?_⟩,rfl⟩ <;> kernel_rfl
theorem en16:∃ fn,EntOk Try.prog 16 fe16 fn∧bodyOf Try.f16=bodyOf fn:=by refine ⟨Try.f16,⟨?_,?_,?_,?_,?_⟩,rfl⟩ <;> kernel_rfl
theorem en17:∃ fn,EntOk Try.prog 17 fe17 fn∧bodyOf Try.f17=bodyOf fn:=by refine ⟨Try.f17,⟨?_,?_,?_,?_,?_⟩,rfl⟩ <;> kernel_rfl
theorem en18:∃ fn,EntOk Try.prog 18 fe18 fn∧bodyOf Try.f18=bodyOf fn:=by refine ⟨Try.f18,⟨?_,?_,?_,?_,?_⟩,rfl⟩ <;> kernel_rfl
theorem en19:∃ fn,EntOk Try.prog 19 fe19 fn∧bodyOf Try.f19=bodyOf fn:=by refine ⟨Try.f19,⟨?_,?_,?_,?_,?_⟩,rfl⟩ <;> kernel_rfl
theorem en20:∃ fn,EntOk Try.prog 20 fe20 fn∧bodyOf Try.f20=bodyOf fn:=by refine ⟨Try.f20,⟨?_,?_,?_,?_,?_⟩,rfl⟩ <;> kernel_rfl
theorem en21:∃ fn,EntOk Try.prog 21 fe21 fn∧bodyOf Try.f21=bodyOf fn:=by refine ⟨Try.f21,⟨?_,?_,?_,?_,?_⟩,rfl⟩ <;> kernel_rfl
theorem en22:∃ fn,EntOk Try.prog 22 fe22 fn∧bodyOf Try.f22=bodyOf fn:=by refine ⟨Try.f22,⟨?_,?_,?_,?_,?_⟩,rfl⟩ <;> kernel_rfl
theorem en23:∃ fn,EntOk Try.prog 23 fe23 fn∧bodyOf Try.f23=bodyOf fn:=by refine ⟨Try.f23,⟨?_,?_,?_,?_,?_⟩,rfl⟩ <;> kernel_rfl
theorem en24:∃ fn,EntOk Try.prog 24 fe24 fn∧bodyOf Try.f24=bodyOf fn:=by refine ⟨Try.f24,⟨?_,?_,?_,?_,?_⟩,rfl⟩ <;> kernel_rfl
theorem en25:∃ fn,EntOk Try.prog 25 fe25 fn∧bodyOf Try.f25=bodyOf fn:=by refine ⟨Try.f25,⟨?_,?_,?_,?_,?_⟩,rfl⟩ <;> kernel_rfl
theorem en26:∃ fn,EntOk Try.prog 26 fe26 fn∧bodyOf Try.f26=bodyOf fn:=by refine ⟨Try.f26,⟨?_,?_,?_,?_,?_⟩,rfl⟩ <;> kernel_rfl
theorem en33:∃ fn,EntOk Try.prog 33 fe33 fn∧bodyOf Try.f33=bodyOf fn:=by refine ⟨Try.f33,⟨?_,?_,?_,?_,?_⟩,rfl⟩ <;> kernel_rfl
theorem en39:∃ fn,EntOk Try.prog 39 fe39 fn∧bodyOf Try.f39=bodyOf fn:=by refine ⟨Try.f39,⟨?_,?_,?_,?_,?_⟩,rfl⟩ <;> kernel_rfl
theorem en40:∃ fn,EntOk Try.prog 40 fe40 fn∧bodyOf Try.f40=bodyOf fn:=by refine ⟨Try.f40,⟨?_,?_,?_,?_,?_⟩,rfl⟩ <;> kernel_rfl
theorem en45:∃ fn,EntOk Try.prog 45 fe45 fn∧bodyOf Try.f45=bodyOf fn:=by refine ⟨Try.f45,⟨?_,?_,?_,?_,?_⟩,rfl⟩ <;> kernel_rfl
theorem en46:∃ fn,EntOk Try.prog 46 fe46 fn∧bodyOf Try.f46=bodyOf fn:=by refine ⟨Try.f46,⟨?_,?_,?_,?_,?_⟩,rfl⟩ <;> kernel_rfl
theorem en48:∃ fn,EntOk Try.prog 48 fe48 fn∧bodyOf Try.f48=bodyOf fn:=by refine ⟨Try.f48,⟨?_,?_,?_,?_,?_⟩,rfl⟩ <;> kernel_rfl
theorem en49:∃ fn,EntOk Try.prog 49 fe49 fn∧bodyOf Try.f49=bodyOf fn:=by refine ⟨Try.f49,⟨?_,?_,?_,?_,?_⟩,rfl⟩ <;> kernel_rfl
theorem en54:∃ fn,EntOk Try.prog 54 fe54 fn∧bodyOf Try.f54=bodyOf fn:=by refine ⟨Try.f54,⟨?_,?_,?_,?_,?_⟩,rfl⟩ <;> kernel_rfl
theorem en63:∃ fn,EntOk Try.prog 63 fe63 fn∧bodyOf Try.f63=bodyOf fn:=by refine ⟨Try.f63,⟨?_,?_,?_,?_,?_⟩,rfl⟩ <;> kernel_rfl
theorem en64:∃ fn,EntOk Try.prog 64 fe64 fn∧bodyOf Try.f64=bodyOf fn:=by refine ⟨Try.f64,⟨?_,?_,?_,?_,?_⟩,rfl⟩ <;> kernel_rfl
theorem en65:∃ fn,EntOk Try.prog 65 fe65 fn∧bodyOf Try.f65=bodyOf fn:=by refine ⟨Try.f65,⟨?_,?_,?_,?_,?_⟩,rfl⟩ <;> kernel_rfl
theorem en66:∃ fn,EntOk Try.prog 66 fe66 fn∧bodyOf Try.f66=bodyOf fn:=by refine ⟨Try.f66,⟨?_,?_,?_,?_,?_⟩,rfl⟩ <;> kernel_rfl
theorem en67:∃ fn,EntOk Try.prog 67 fe67 fn∧bodyOf Try.f67=bodyOf fn:=by refine ⟨Try.f67,⟨?_,?_,?_,?_,?_⟩,rfl⟩ <;> kernel_rfl
theorem en68:∃ fn,EntOk Try.prog 68 fe68 fn∧bodyOf Try.f68=bodyOf fn:=by refine ⟨Try.f68,⟨?_,?_,?_,?_,?_⟩,rfl⟩ <;> kernel_rfl
theorem en69:∃ fn,EntOk Try.prog 69 fe69 fn∧bodyOf Try.f69=bodyOf fn:=by refine ⟨Try.f69,⟨?_,?_,?_,?_,?_⟩,rfl⟩ <;> kernel_rfl
theorem en72:∃ fn,EntOk Try.prog 72 fe72 fn∧bodyOf Try.f72=bodyOf fn:=by refine ⟨Try.f72,⟨?_,?_,?_,?_,?_⟩,rfl⟩ <;> kernel_rfl
theorem en73:∃ fn,EntOk Try.prog 73 fe73 fn∧bodyOf Try.f73=bodyOf fn:=by refine ⟨Try.f73,⟨?_,?_,?_,?_,?_⟩,rfl⟩ <;> kernel_rfl
theorem en74:∃ fn,EntOk Try.prog 74 fe74 fn∧bodyOf Try.f74=bodyOf fn:=by refine ⟨Try.f74,⟨?_,?_,?_,?_,?_⟩,rfl⟩ <;> kernel_rfl
theorem en75:∃ fn,EntOk Try.prog 75 fe75 fn∧bodyOf Try.f75=bodyOf fn:=by refine ⟨Try.f75,⟨?_,?_,?_,?_,?_⟩,rfl⟩ <;> kernel_rfl
theorem en81:∃ fn,EntOk Try.prog 81 fe81 fn∧bodyOf Try.f81=bodyOf fn:=by refine ⟨Try.f81,⟨?_,?_,?_,?_,?_⟩,rfl⟩ <;> kernel_rfl
theorem en83:∃ fn,EntOk Try.prog 83 fe83 fn∧bodyOf Try.f83=bodyOf fn:=by refine ⟨Try.f83,⟨?_,?_,?_,?_,?_⟩,rfl⟩ <;> kernel_rfl
theorem en84:∃ fn,EntOk Try.prog 84 fe84 fn∧bodyOf Try.f84=bodyOf fn:=by refine ⟨Try.f84,⟨?_,?_,?_,?_,?_⟩,rfl⟩ <;> kernel_rfl
theorem en85:∃ fn,EntOk Try.prog 85 fe85 fn∧bodyOf Try.f85=bodyOf fn:=by refine ⟨Try.f85,⟨?_,?_,?_,?_,?_⟩,rfl⟩ <;> kernel_rfl
theorem en87:∃ fn,EntOk Try.prog 87 fe87 fn∧bodyOf Try.f87=bodyOf fn:=by refine ⟨Try.f87,⟨?_,?_,?_,?_,?_⟩,rfl⟩ <;> kernel_rfl
theorem en88:∃ fn,EntOk Try.prog 88 fe88 fn∧bodyOf Try.f88=bodyOf fn:=by refine ⟨Try.f88,⟨?_,?_,?_,?_,?_⟩,rfl⟩ <;> kernel_rfl
theorem en90:∃ fn,EntOk Try.prog 90 fe90 fn∧bodyOf Try.f90=bodyOf fn:=by refine ⟨Try.f90,⟨?_,?_,?_,?_,?_⟩,rfl⟩ <;> kernel_rfl
theorem en91:∃ fn,EntOk Try.prog 91 fe91 fn∧bodyOf Try.f91=bodyOf fn:=by refine ⟨Try.f91,⟨?_,?_,?_,?_,?_⟩,rfl⟩ <;> kernel_rfl
theorem en92:∃ fn,EntOk Try.prog 92 fe92 fn∧bodyOf Try.f92=bodyOf fn:=by refine ⟨Try.f92,⟨?_,?_,?_,?_,?_⟩,rfl⟩ <;> kernel_rfl
theorem en93:∃ fn,EntOk Try.prog 93 fe93 fn∧bodyOf Try.f93=bodyOf fn:=by refine ⟨Try.f93,⟨?_,?_,?_,?_,?_⟩,rfl⟩ <;> kernel_rfl
theorem en110:∃ fn,EntOk Try.prog 110 fe110 fn∧bodyOf Try.f110=bodyOf fn:=by refine ⟨Try.f110,⟨?_,?_,?_,?_,?_⟩,rfl⟩ <;> kernel_rfl
theorem en111:∃ fn,EntOk Try.prog 111 fe111 fn∧bodyOf Try.f111=bodyOf fn:=by refine ⟨Try.f111,⟨?_,?_,?_,?_,?_⟩,rfl⟩ <;> kernel_rfl
theorem en112:∃ fn,EntOk Try.prog 112 fe112 fn∧bodyOf Try.f112=bodyOf fn:=by refine ⟨Try.f112,⟨?_,?_,?_,?_,?_⟩,rfl⟩ <;> kernel_rfl
theorem en115:∃ fn,EntOk Try.prog 115 fe115 fn∧bodyOf Try.f115=bodyOf fn:=by refine ⟨Try.f115,⟨?_,?_,?_,?_,?_⟩,rfl⟩ <;> kernel_rfl
theorem en120:∃ fn,EntOk Try.prog 120 fe120 fn∧bodyOf Try.f120=bodyOf fn:=by refine ⟨Try.f120,⟨?_,?_,?_,?_,?_⟩,rfl⟩ <;> kernel_rfl
theorem en124:∃ fn,EntOk Try.prog 124 fe124 fn∧bodyOf Try.f124=bodyOf fn:=by refine ⟨Try.f124,⟨?_,?_,?_,?_,?_⟩,rfl⟩ <;> kernel_rfl
theorem en128:∃ fn,EntOk Try.prog 128 fe128 fn∧bodyOf Try.f128=bodyOf fn:=by refine ⟨Try.f128,⟨?_,?_,?_,?_,?_⟩,rfl⟩ <;> kernel_rfl
theorem en140:∃ fn,EntOk Try.prog 140 fe140 fn∧bodyOf Try.f140=bodyOf fn:=by refine ⟨Try.f140,⟨?_,?_,?_,?_,?_⟩,rfl⟩ <;> kernel_rfl
theorem tb_ok:∀ e∈tb,∃ fn,EntOk Try.prog e.1 e.2.1 fn∧e.2.2=bodyOf fn:=by
  intro e he
  unfold tb at he
  rcases List.mem_cons.1 he with rfl | he
  · exact en3
  rcases List.mem_cons.1 he with rfl | he
  · exact en8
  rcases List.mem_cons.1 he with rfl | he
  · exact en14
  rcases List.mem_cons.1 he with rfl | he
  · exact en15
  rcases List.mem_cons.1 he with rfl | he
  · exact en16
  rcases List.mem_cons.1 he with rfl | he
  · exact en17
  rcases List.mem_cons.1 he with rfl | he
  · exact en18
  rcases List.mem_cons.1 he with rfl | he
  · exact en19
  rcases List.mem_cons.1 he with rfl | he
  · exact en20
  rcases List.mem_cons.1 he with rfl | he
  · exact en21
  rcases List.mem_cons.1 he with rfl | he
  · exact en22
  rcases List.mem_cons.1 he with rfl | he
  · exact en23
  rcases List.mem_cons.1 he with rfl | he
  · exact en24
  rcases List.mem_cons.1 he with rfl | he
  · exact en25
  rcases List.mem_cons.1 he with rfl | he
  · exact en26
  rcases List.mem_cons.1 he with rfl | he
  · exact en33
  rcases List.mem_cons.1 he with rfl | he
  · exact en39
  rcases List.mem_cons.1 he with rfl | he
  · exact en40
  rcases List.mem_cons.1 he with rfl | he
  · exact en45
  rcases List.mem_cons.1 he with rfl | he
  · exact en46
  rcases List.mem_cons.1 he with rfl | he
  · exact en48
  rcases List.mem_cons.1 he with rfl | he
  · exact en49
  rcases List.mem_cons.1 he with rfl | he
  · exact en54
  rcases List.mem_cons.1 he with rfl | he
  · exact en63
  rcases List.mem_cons.1 he with rfl | he
  · exact en64
  rcases List.mem_cons.1 he with rfl | he
  · exact en65
  rcases List.mem_cons.1 he with rfl | he
  · exact en66
  rcases List.mem_cons.1 he with rfl | he
  · exact en67
  rcases List.mem_cons.1 he with rfl | he
  · exact en68
  rcases List.mem_cons.1 he with rfl | he
  · exact en69
  rcases List.mem_cons.1 he with rfl | he
  · exact en72
  rcases List.mem_cons.1 he with rfl | he
  · exact en73
  rcases List.mem_cons.1 he with rfl | he
  · exact en74
  rcases List.mem_cons.1 he with rfl | he
  · exact en75
  rcases List.mem_cons.1 he with rfl | he
  · exact en81
  rcases List.mem_cons.1 he with rfl | he
  · exact en83
  rcases List.mem_cons.1 he with rfl | he
  · exact en84
  rcases List.mem_cons.1 he with rfl | he
  · exact en85
  rcases List.mem_cons.1 he with rfl | he
  · exact en87
  rcases List.mem_cons.1 he with rfl | he
  · exact en88
  rcases List.mem_cons.1 he with rfl | he
  · exact en90
  rcases List.mem_cons.1 he with rfl | he
  · exact en91
  rcases List.mem_cons.1 he with rfl | he
  · exact en92
  rcases List.mem_cons.1 he with rfl | he
  · exact en93
  rcases List.mem_cons.1 he with rfl | he
  · exact en110
  rcases List.mem_cons.1 he with rfl | he
  · exact en111
  rcases List.mem_cons.1 he with rfl | he
  · exact en112
  rcases List.mem_cons.1 he with rfl | he
  · exact en115
  rcases List.mem_cons.1 he with rfl | he
  · exact en120
  rcases List.mem_cons.1 he with rfl | he
  · exact en124
  rcases List.mem_cons.1 he with rfl | he
  · exact en128
  rcases List.mem_cons.1 he with rfl | he
  · exact en140
  cases he
end Go.Proofs.Ythkfohoccnnphaa
namespace Go.Proofs.Ythkfohoccnnphaa
open Go Go.Sx
set_option maxRecDepth 100000
set_option maxHeartbeats 0
def hput:Nat→HT
  | 0=>.nil
  | k+1=>.two (.reg [] [0,1,2,3,4] none []) (.two (.two (.reg [] [0,1,2,3,4,14] none []) (.cond none (.two (.reg [] [5] none [(some 17,⟨[],[],[],[]⟩,.yl (.lent 3 1))]) (.nil)) (.nil))) (.two (.two (.reg [] [0,1,3,4,23,24] none []) (.blk ⟨[],[],[(1,22,[.own 1])],[(0,1048576,0,some 0),(1,3,1,none)]⟩ (.lp [] ⟨[0,1,3,4,23],[(24,.lf (Lf.int IntKind.i64))],[(1,22,[.own 1])],[(0,1048576,0,some 0),(1,3,1,none)]⟩ (.two (.reg [] [0,1,3,4,23,24,25] none []) (.two (.cond none (.nil) (.nil)) (.two (.thru (.two (.reg [] [0,1,3,4,6,23,24] none []) (.two (.reg [] [0,1,3,4,23,24] none []) (.two (.reg [] [0,1,3,4,7,23,24] none []) (.two (.two (.reg [] [0,1,3,4,7,9,23,24] none []) (.two (.reg [] [0,1,3,4,7,23,24,43] none []) (.cond (some ⟨[0,1,3,4,23,24],[(7,.lf Lf.bool)],[(1,22,[.own 1])],[(0,1048576,0,some 0),(1,3,1,none)]⟩) (.reg [] [0,1,3,4,7,23,24] none [(some 45,⟨[0,1,3,4,7,23,24],[(45,.lf Lf.bool)],[(1,22,[.own 1])],[(0,1048576,0,some 0),(1,3,1,none)]⟩,hput k)]) (.nil)))) (.two (.reg [] [0,1,3,4,7,23,24] none []) (.two (.reg [] [0,1,3,4,23,24,52] none []) (.cond none (.two (.reg [] [5] none []) (.nil)) (.nil))))))))) (.reg [] [0,1,3,4,23,24] none []))))))) (.two (.reg [] [5] none []) (.nil))))
def feAll:FE:=⟨12,[],.two (.reg [] [1,2,3] none []) (.two (.reg [] [1,2,3,4] none []) (.two (.reg [] [1,2,3,4,5] none []) (.two (.reg [] [5] none []) (.reg [] [] none [(some 11,⟨[],[(11,.lf Lf.bool)],[(1,22,[.own 1])],[(0,1048576,0,some 0),(1,3,1,none)]⟩,hput 9)])))),⟨[],[]⟩⟩
section
variable (M:Den) (l:Nat) (lrow:List (List CV)) (p:List CV)
noncomputable def PUT:Nat→List (List CV)→List (List CV)→Option Ou
  | 0,_,_=>none
  | k+1,es,pens=>iteB ((il pens) == (il lrow)) (chk (flatE pens)<|callO (M 1048576 ([CV.val (.func (.yield l) #[] #[]),CV.fn 3 ([CV.row 1 []]),CV.row 0 es,CV.row 1 pens])) fun v0=>some (.ret [cb (gb v0 0),CV.row 0 (gr v0 1),CV.row 1 pens])) (chk (oks [.row 1] (List.drop 0 (List.drop 0 p)) 0)<|blkO 0 (loopD (fun v0=>iteB (decide ((gi v0 0)<(il (gr (List.drop 0 (List.drop 0 p)) 0)))) (chk (fitA (List.length (gr v0 2)) 1 8)<|chk (decide ((il ((gr v0 2)++(chunk 1 1 [ci (gi v0 0)])))=(il ((gr v0 2)++(chunk 1 1 [ci (gi v0 0)])))))<|chk (((decide (0≤0))&&(decide (0≤(il ((gr v0 2)++(chunk 1 1 [ci (gi v0 0)]))))))&&(decide ((il ((gr v0 2)++(chunk 1 1 [ci (gi v0 0)])))≤(il lrow))))<|callO (M 75 ([CV.ref p,CV.row 1 (List.drop 0 (List.take (Int.toNat (il ((gr v0 2)++(chunk 1 1 [ci (gi v0 0)])))) lrow)),CV.row 1 ((gr v0 2)++(chunk 1 1 [ci (gi v0 0)]))])) fun v1=>seqO (iteB (gb v1 1) (inlO (PUT k (gr v0 1) ((gr v0 2)++(chunk 1 1 [ci (gi v0 0)]))) fun v2=>some (.nx [cb (gb v2 0),CV.row 0 (gr v2 1),CV.row 1 (gr v2 2)])) (some (.nx ([cb true,CV.row 0 (gr v0 1),CV.row 1 ((gr v0 2)++(chunk 1 1 [ci (gi v0 0)]))])))) fun v2=>chk ((decide (0≤(wr ((il (gr v2 2)) - 1))))&&(decide ((wr ((il (gr v2 2)) - 1))≤(il (gr v2 2)))))<|iteB (!(gb v2 0)) (some (.ret [cb false,CV.row 0 (gr v2 1),CV.row 1 (List.take (Int.toNat (wr ((il (gr v2 2)) - 1))) (gr v2 2))])) (some (.nx [ci (wr ((gi v0 0)+1)),CV.row 0 (gr v2 1),CV.row 1 (List.take (Int.toNat (wr ((il (gr v2 2)) - 1))) (gr v2 2))]))) (some (.br 0 [CV.row 0 (gr v0 1),CV.row 1 (gr v0 2)]))) [ci 0,CV.row 0 es,CV.row 1 pens]) fun v0=>some (.ret [cb true,CV.row 0 (gr v0 0),CV.row 1 (gr v0 1)])) 
noncomputable def R_all (dp:Nat) (es:List (List CV)):Option Ou:=
  chk (decide ((0:Int)≤0)&&decide ((0:Int)≤il lrow)&&fitA (Int.toNat (il lrow)) 0 8)<|inlO (PUT M l lrow p dp es []) fun v=>some (.ret [CV.row 0 (gr v 1)])
end
theorem y_all (M:Den) (l:Nat) (lrow:List (List CV)) (p:List CV) (es:List (List CV)):evY Try.prog sg M 11 feAll (bodyOf Try.f116) l [.ref [.row 1 lrow],.ref [.ref p]] es=retO (R_all M l lrow p 9 es):=by kernel_rfl
end Go.Proofs.Ythkfohoccnnphaa
namespace Go.Proofs.Ythkfohoccnnphaa
open Go Go.Sx
set_option maxRecDepth 100000
def plc (ok:List (List CV)→Bool) (n len:Nat):Nat→List (List CV)→List (List (List CV))
  | 0,_=>[]
  | k+1,pens=>if pens.length=len then [pens] else (List.range n).flatMap fun (i:Nat)=>if ok (pens++[[ci (i:Int)]])=true then plc ok n len k (pens++[[ci (i:Int)]]) else []
def foldB:List (List CV)→YF→List (List CV)→Option (Bool×List (List CV))
  | [],_,es=>some (true,es)
  | x::r,yf,es=>match yf es x with
    | some (true,es')=>foldB r yf es'
    | some (false,es')=>some (false,es')
    | none=>none
theorem foldB_app {yf:YF}:∀ (r1 r2:List (List CV)) (es:List (List CV)),foldB (r1++r2) yf es=match foldB r1 yf es with
    | some (true,es1)=>foldB r2 yf es1
    | o=>o
  | [],r2,es=>rfl
  | x::r1,r2,es=>by
    simp only [List.cons_append,foldB]
    cases h:yf es x with
    | none=>rfl
    | some q =>
      obtain ⟨b,es1⟩:=q
      cases b with
      | false=>rfl
      | true=>exact foldB_app r1 r2 es1
theorem foldY_B {yf:YF}:∀ (r:List (List CV)) (es:List (List CV)),foldY r yf es=(foldB r yf es).map (·.2)
  | [],es=>rfl
  | x::r,es=>by
    simp only [foldY,foldB]
    cases h:yf es x with
    | none=>rfl
    | some q =>
      obtain ⟨b,es1⟩:=q
      cases b with
      | false=>rfl
      | true=>exact foldY_B r es1
def Ip (pens:List (List CV)):Prop:=∃ l:List Int,pens=l.map fun x=>[ci x]
theorem Ip.nil:Ip []:=⟨[],rfl⟩
theorem Ip.snoc {pens:List (List CV)} (h:Ip pens) (i:Int):Ip (pens++[[ci i]]):=by
  obtain ⟨l,rfl⟩:=h
  exact ⟨l++[i],by simp⟩
theorem PUT_spec {M:Den} {l:Nat} {lrow:List (List CV)} {p:List CV} {yf:YF} {ok:List (List CV)→Bool} {n len:Nat}
    (hy:∀ es x,M ghT (CV.val (.func (.yield l) #[] #[])::CV.fn 3 [.row 1 []]::.row 0 es::x)=match yf es x with
      | some (b,es')=>some [cb b,.row 0 es']
      | none=>none)
    (hf:∀ pens,Ip pens→pens.length≤len→∃ c,M 75 [.ref p,.row 1 (lrow.take pens.length),.row 1 pens]=some [c,cb (ok pens)])
    (hl:lrow.length=len) (hlen:len<1000) (hn:(gr p 0).length=n) (hn2:n<1000000) (hp:oks [.row 1] p 0=true) :
    ∀ (k:Nat) (pens es:List (List CV)) (b:Bool) (es':List (List CV)),flatE pens=true→Ip pens→pens.length≤len→foldB ((plc ok n len k pens).map fun x=>[.row 1 x]) yf es=some (b,es')→len - pens.length<k →
      PUT M l lrow p k es pens=some (.ret [cb b,.row 0 es',.row 1 pens]):=by
  intro k
  induction k with
  | zero=>intro pens es b es' _ _ _ _ h;omega
  | succ k ih =>
    intro pens es b es' hfl hip hpl hfold hk
    unfold PUT
    by_cases he:pens.length=len
    · have h1:(il pens == il lrow)=true:=by simp [il,he,hl]
      simp only [plc,if_pos he,List.map_cons,List.map_nil,foldB] at hfold
      rw [h1]
      have h2:=hy es [.row 1 pens]
      simp only [iteB,hfl,chk_true]
      rw [show (1048576:Nat)=ghT from rfl,h2]
      cases hyf:yf es [.row 1 pens] with
      | none=>rw [hyf] at hfold;cases hfold
      | some q =>
        obtain ⟨b1,es1⟩:=q
        rw [hyf] at hfold
        cases b1
        · simp only [Option.some.injEq,Prod.mk.injEq] at hfold
          obtain ⟨rfl,rfl⟩:=hfold
          simp
        · simp only [Option.some.injEq,Prod.mk.injEq] at hfold
          obtain ⟨rfl,rfl⟩:=hfold
          simp
    · have h1:(il pens == il lrow)=false:=by simp [il,hl];omega
      simp only [plc,if_neg he] at hfold
      rw [h1]
      dsimp only [iteB]
      rw [show oks [.row 1] (List.drop 0 (List.drop 0 p)) 0=true from hp,chk_true]
      generalize hstep:(fun v0:List CV=>_)=step
      have e0:∀ (i:Nat) (es:List (List CV)),step [ci (i:Int),CV.row 0 es,CV.row 1 pens]=iteB (decide ((i:Int)<il (gr p 0)))
          (chk (fitA (List.length pens) 1 8)<|chk (decide (il (pens++[[ci (i:Int)]])=il (pens++[[ci (i:Int)]]))) <|
            chk (decide ((0:Int)≤0)&&decide ((0:Int)≤il (pens++[[ci (i:Int)]]))&&decide (il (pens++[[ci (i:Int)]])≤il lrow)) <|
            callO (M 75 [CV.ref p,CV.row 1 (lrow.take (Int.toNat (il (pens++[[ci (i:Int)]])))),CV.row 1 (pens++[[ci (i:Int)]])]) fun v1 =>
            seqO (iteB (gb v1 1) (inlO (PUT M l lrow p k es (pens++[[ci (i:Int)]])) fun v2=>some (.nx [cb (gb v2 0),CV.row 0 (gr v2 1),CV.row 1 (gr v2 2)])) (some (.nx [cb true,CV.row 0 es,CV.row 1 (pens++[[ci (i:Int)]])])))
              fun v2=>chk (decide (0≤wr (il (gr v2 2) - 1))&&decide (wr (il (gr v2 2) - 1)≤il (gr v2 2))) (iteB (!(gb v2 0)) (some (.ret [cb false,CV.row 0 (gr v2 1),CV.row 1 (List.take (Int.toNat (wr (il (gr v2 2) - 1))) (gr v2 2))])) (some (.nx [ci (wr ((i:Int)+1)),CV.row 0 (gr v2 1),CV.row 1 (List.take (Int.toNat (wr (il (gr v2 2) - 1))) (gr v2 2))]))))
          (some (.br 0 [CV.row 0 es,CV.row 1 pens])):=by
        intro i es
        subst hstep
        rfl
      have key:∀ (m i:Nat) (es:List (List CV)) (b:Bool) (es':List (List CV)),i+m=n→foldB (((List.range' i m).flatMap fun (i:Nat)=>if ok (pens++[[ci (i:Int)]])=true then plc ok n len k (pens++[[ci (i:Int)]]) else []).map fun x=>[CV.row 1 x]) yf es=some (b,es') →
          loopD step [ci i,CV.row 0 es,CV.row 1 pens]=if b=true then some (.br 0 [CV.row 0 es',CV.row 1 pens]) else some (.ret [cb false,CV.row 0 es',CV.row 1 pens]):=by
        intro m
        induction m with
        | zero =>
          intro i es b es' hi hfo
          simp only [List.range'_zero,List.flatMap_nil,List.map_nil,foldB,Option.some.injEq,Prod.mk.injEq] at hfo
          obtain ⟨rfl,rfl⟩:=hfo
          refine (loop_end (r:=some (.br 0 [CV.row 0 es,CV.row 1 pens])) ?_ (by simp)).trans (by simp)
          have:¬((i:Int)<il (gr p 0)):=by rw [il_def,hn];omega
          rw [e0,decide_eq_false this]
          rfl
        | succ m ihm =>
          intro i es b es' hi hfo
          have hin:(i:Int)<il (gr p 0):=by rw [il_def,hn];omega
          have hpl1:(pens++[[ci (i:Int)]]).length=pens.length+1:=by simp
          have hfl1:flatE (pens++[[ci (i:Int)]])=true:=by
            simp only [flatE,List.all_append,Bool.and_eq_true] at hfl ⊢
            exact ⟨hfl,by simp [CV.flat,ci]⟩
          obtain ⟨c75,h75⟩:=hf (pens++[[ci (i:Int)]]) (hip.snoc _) (by rw [hpl1];omega)
          rw [hpl1] at h75
          have hch:chunk 1 1 [ci (i:Int)]=[[ci (i:Int)]]:=rfl
          have hil:il (pens++[[ci (i:Int)]])=((pens.length+1:Nat):Int):=by simp [il]
          have hwr:wr (il (pens++[[ci (i:Int)]]) - 1)=(pens.length:Int):=by rw [hil,wr_of] <;> omega
          have htk:List.take (Int.toNat (wr (il (pens++[[ci (i:Int)]]) - 1))) (pens++[[ci (i:Int)]])=pens:=by rw [hwr];simp
          have hwi:wr ((i:Int)+1)=((i+1:Nat):Int):=by rw [wr_of] <;> omega
          have hfit:fitA (List.length pens) 1 8=true:=fitA_of (by omega) (by omega)
          have hlr:il lrow=(len:Int):=by simp [il,hl]
          simp only [List.range'_succ,List.flatMap_cons,List.map_append,foldB_app] at hfo
          have hst:step [ci i,CV.row 0 es,CV.row 1 pens]=seqO (iteB (ok (pens++[[ci (i:Int)]])) (inlO (PUT M l lrow p k es (pens++[[ci (i:Int)]])) fun v2=>some (.nx [cb (gb v2 0),CV.row 0 (gr v2 1),CV.row 1 (gr v2 2)])) (some (.nx [cb true,CV.row 0 es,CV.row 1 (pens++[[ci (i:Int)]])])))
              fun v2=>chk (decide (0≤wr (il (gr v2 2) - 1))&&decide (wr (il (gr v2 2) - 1)≤il (gr v2 2))) (iteB (!(gb v2 0)) (some (.ret [cb false,CV.row 0 (gr v2 1),CV.row 1 (List.take (Int.toNat (wr (il (gr v2 2) - 1))) (gr v2 2))])) (some (.nx [ci (wr ((i:Int)+1)),CV.row 0 (gr v2 1),CV.row 1 (List.take (Int.toNat (wr (il (gr v2 2) - 1))) (gr v2 2))]))):=by
            have e1:Int.toNat ((pens.length+1:Nat):Int)=pens.length+1:=by omega
            have e2:(decide ((0:Int)≤0)&&decide ((0:Int)≤((pens.length+1:Nat):Int))&&decide (((pens.length+1:Nat):Int)≤(len:Int)))=true:=by
              simp only [Bool.and_eq_true,decide_eq_true_eq];omega
            rw [e0,decide_eq_true hin,hfit,hil,hlr,e1,e2,h75,decide_eq_true (rfl:((pens.length+1:Nat):Int)=((pens.length+1:Nat):Int))]
            rfl
          have fin:∀ (b1:Bool) (es1:List (List CV)),(chk (decide (0≤wr (il (pens++[[ci (i:Int)]]) - 1))&&decide (wr (il (pens++[[ci (i:Int)]]) - 1)≤il (pens++[[ci (i:Int)]]))) (iteB (!b1) (some (Ou.ret [cb false,CV.row 0 es1,CV.row 1 (List.take (Int.toNat (wr (il (pens++[[ci (i:Int)]]) - 1))) (pens++[[ci (i:Int)]]))])) (some (.nx [ci (wr ((i:Int)+1)),CV.row 0 es1,CV.row 1 (List.take (Int.toNat (wr (il (pens++[[ci (i:Int)]]) - 1))) (pens++[[ci (i:Int)]]))]))))
              = if b1=true then some (.nx [ci ((i+1:Nat):Int),CV.row 0 es1,CV.row 1 pens]) else some (.ret [cb false,CV.row 0 es1,CV.row 1 pens]):=by
            intro b1 es1
            rw [htk,hwr,hil,hwi]
            have:(decide ((0:Int)≤(pens.length:Int))&&decide ((pens.length:Int)≤((pens.length+1:Nat):Int)))=true:=by simp only [Bool.and_eq_true,decide_eq_true_eq];omega
            rw [this]
            cases b1 <;> simp [iteB]
          by_cases hok:ok (pens++[[ci (i:Int)]])=true
          · rw [if_pos hok] at hfo
            rw [hok] at hst
            cases hsub:foldB ((plc ok n len k (pens++[[ci (i:Int)]])).map fun x=>[CV.row 1 x]) yf es with
            | none=>rw [hsub] at hfo;cases hfo
            | some q =>
              obtain ⟨b1,es1⟩:=q
              rw [hsub] at hfo
              have hput:=ih (pens++[[ci (i:Int)]]) es b1 es1 hfl1 (hip.snoc _) (by rw [hpl1];omega) hsub (by rw [hpl1];omega)
              rw [hput] at hst
              simp only [iteB,inlO_ret,gb_z,gr_s,gr_z,seqO_nx] at hst
              have hst2:=hst.trans (fin b1 es1)
              cases b1 with
              | false =>
                simp only [Option.some.injEq,Prod.mk.injEq] at hfo
                obtain ⟨rfl,rfl⟩:=hfo
                exact (loop_end hst2 (by simp)).trans (by simp)
              | true =>
                simp only at hfo
                rw [loop_eq (by simpa using hst2)]
                exact ihm (i+1) es1 b es' (by omega) hfo
          · rw [if_neg hok] at hfo
            simp only [List.map_nil,foldB] at hfo
            rw [eq_false_of_ne_true hok] at hst
            simp only [iteB,gb_z,gr_s,gr_z,seqO_nx] at hst
            have hst2:=hst.trans (fin true es)
            rw [loop_eq (by simpa using hst2)]
            exact ihm (i+1) es b es' (by omega) hfo
      have h0:=key n 0 es b es' (by omega) (by rw [← List.range_eq_range'];exact hfold)
      rw [show (ci 0:CV)=ci ((0:Nat):Int) from rfl,h0]
      cases b <;> simp
end Go.Proofs.Ythkfohoccnnphaa
namespace Go.Proofs.Ythkfohoccnnphaa
open Go Go.Sx
set_option maxRecDepth 100000
theorem all_iter {M:Den} (hM:∀ [Ghost],Fns Try.prog sg M) (hg:sg ghT=none) (hMg:∀ vs,M ghT vs=none) {lrow:List (List CV)} {p:List CV} {ok:List (List CV)→Bool} {n len:Nat}
    (hf:∀ pens,Ip pens→pens.length≤len→∃ c,M 75 [.ref p,.row 1 (lrow.take pens.length),.row 1 pens]=some [c,cb (ok pens)])
    (hl:lrow.length=len) (hlen:len<9) (hn:(gr p 0).length=n) (hn2:n<1000000) (hp:oks [.row 1] p 0=true) :
    IterJ Try.prog 116 [.ref [.row 1 lrow],.ref [.ref p]] (.lent 3 1) (foldY ((plc ok n len 9 []).map fun x=>[.row 1 x])):=by
  refine iterJ_of (fn:=Try.f116) (c:=bodyOf Try.f116) (fe:=feAll) (dp:=11) hM hg hMg (by kernel_rfl) (by kernel_rfl) (by kernel_rfl) (by kernel_rfl) ?_
  intro l yf es es' hR
  rw [y_all]
  rw [foldY_B] at hR
  simp only [Option.map_eq_some_iff] at hR
  obtain ⟨⟨b,e1⟩,hR,rfl⟩:=hR
  have hput:=PUT_spec (M:=withY M l (.lent 3 1) yf) (l:=l) (lrow:=lrow) (p:=p) (yf:=yf) (ok:=ok) (n:=n) (len:=len)
    (fun es x=>by
      simp only [withY,if_true,shC,and_self]
      cases yf es x with
      | none=>rfl
      | some q=>obtain ⟨b,e⟩:=q;rfl)
    (fun pens hip hpl=>by
      obtain ⟨c,h⟩:=hf pens hip hpl
      exact ⟨c,by unfold withY;rw [if_neg (by decide)];exact h⟩) hl (by omega) hn hn2 hp 9 [] es b e1 rfl Ip.nil (Nat.zero_le _) hR (by simp;omega)
  have hfit:fitA (Int.toNat (il lrow)) 0 8=true:=fitA_of (by rw [il_def,hl];omega) (by rw [il_def,hl];omega)
  have h0:(decide ((0:Int)≤0)&&decide ((0:Int)≤il lrow)&&fitA (Int.toNat (il lrow)) 0 8)=true:=by
    rw [hfit];simp [il_def]
  unfold R_all
  rw [h0,chk_true,hput]
  simp
end Go.Proofs.Ythkfohoccnnphaa
namespace Go.Proofs.Ythkfohoccnnphaa
open Go Go.Sx
set_option maxRecDepth 100000
set_option maxHeartbeats 0
def hgrow:Nat→Nat→HT
  | 0,_=>.nil
  | k+1,j=>.two (.reg [] [0,1,2,3,4,5] none []) (.two (.two (.reg [] [0,1,3,4,5,13] none []) (.cond none (.two (.reg [] [8] none [(some 16,⟨[],[],[],[]⟩,.yl (.clo [.one (Lf.row 1)]))]) (.nil)) (.nil))) (.two (.two (.reg [] [0,4,5,9] none []) (.blk ⟨[],[],[],[(0,1048576,0,some 0)]⟩ (.lp [] ⟨[0,4,5],[(9,.lf (Lf.int IntKind.i64))],[],[(0,1048576,0,some 0)]⟩ (.two (.two (.reg [] [0,4,5,9,20] none []) (.cond none (.nil) (.nil))) (.two (.thru (.two (.reg [] [0,4,5,9,32] none [(some 31,⟨[0,4,5,9],[(31,.lf Lf.bool)],[],[(0,1048576,0,some 0)]⟩,(.pre [.fz j] (hgrow k (j+1))))]) (.cond none (.two (.reg [] [8] none []) (.nil)) (.nil)))) (.reg [] [0,4,5,9] none [])))))) (.two (.reg [] [8] none []) (.nil))))
def feLists:FE:=⟨8,[],.two (.reg [] [1,2,3] none []) (.two (.reg [] [1,2,3,4] none []) (.two (.reg [] [4] none []) (.reg [] [] none [(some 7,⟨[],[(7,.lf Lf.bool)],[],[(0,1048576,0,some 0)]⟩,hgrow 10 1)]))),⟨[],[]⟩⟩
section
variable (M:Den) (l:Nat) (many n:Int)
noncomputable def GSTEP (G:List (List CV)→List (List CV)→Int→Option Ou) (c:CV) (len:Int) (es:List (List CV)) (frm:Int):Option Ou:=
  iteB (len == many)
      (callO (M ghT ([CV.val (.func (.yield l) #[] #[]),CV.row 0 [[CV.row 1 []]],CV.row 0 es,c])) fun v0 =>
      some (.ret [cb (gb v0 0),CV.row 0 (gr v0 1)]))
      (blkO 0 (loopD (fun v0 =>
          iteB (decide ((gi v0 0)<n))
            (callO (M 76 [c]) fun v1 =>
            chk (ownR 1 3 v1) <|
            chk (fitA (List.length (gr v1 0)) 1 8) <|
            inlO (G (gr v0 1) ((gr v1 0)++(chunk 1 1 [ci (gi v0 0)])) (wr ((gi v0 0)+1))) fun v2 =>
            iteB (!(gb v2 0))
              (some (.ret [cb false,CV.row 0 (gr v2 1)]))
              (some (.nx [ci (wr ((gi v0 0)+1)),CV.row 0 (gr v2 1)])))
            (some (.br 0 [CV.row 0 (gr v0 1)]))) [ci frm,CV.row 0 es]) fun v0 =>
      some (.ret [cb true,CV.row 0 (gr v0 0)]))
noncomputable def GROW:Nat→List (List CV)→List (List CV)→Int→Option Ou
  | 0,_,_,_=>none
  | k+1,es,lst,frm=>GSTEP M l many n (GROW k) (.row 1 lst) (il lst) es frm
noncomputable def R_lists (es:List (List CV)):Option Ou:=
  inlO (GSTEP M l many n (GROW M l many n 9) (.val (.slice none 0 0)) 0 es 0) fun v=>some (.ret [CV.row 0 (gr v 1)])
end
theorem y_lists (M:Den) (l:Nat) (many n:Int) (es:List (List CV)):evY Try.prog sg M 12 feLists (bodyOf Try.f121) l [.ref [ci many],.ref [ci n]] es=retO (R_lists M l many n es):=by kernel_rfl
end Go.Proofs.Ythkfohoccnnphaa
namespace Go.Proofs.Ythkfohoccnnphaa
open Go Go.Sx
set_option maxRecDepth 100000
def rlsC (n many:Nat):Nat→List (List CV)→Nat→List (List (List CV))
  | 0,_,_=>[]
  | k+1,lst,frm=>if lst.length=many then [lst] else (List.range' frm (n - frm)).flatMap fun (i:Nat)=>rlsC n many k (lst++[[ci (i:Int)]]) (i+1)
theorem GSTEP_spec {M:Den} {l:Nat} {n many:Nat} {yf:YF}
    (hy:∀ es x,M ghT (CV.val (.func (.yield l) #[] #[])::CV.row 0 [[CV.row 1 []]]::.row 0 es::x)=match yf es x with
      | some (b,es')=>some [cb b,.row 0 es']
      | none=>none)
    (hn:n<1000) {G:List (List CV)→List (List CV)→Int→Option Ou} {R:Nat→List (List CV)} {c:CV} {lst:List (List CV)} (hc:M 76 [c]=some [.row 1 lst,.fn 3 []]) (hlst:lst.length<1000) (hm:lst.length≤many)
    {frm:Nat} (hG:lst.length≠many→∀ (i:Nat) es b es',frm≤i→i<n→foldB (R i) yf es=some (b,es')→G es (lst++[[ci (i:Int)]]) ((i+1:Nat):Int)=some (.ret [cb b,.row 0 es']))
    {es es':List (List CV)} {b:Bool} (hfold:foldB (if lst.length=many then [[c]] else (List.range' frm (n - frm)).flatMap R) yf es=some (b,es')) :
    GSTEP M l (many:Int) (n:Int) G c (lst.length:Int) es (frm:Int)=some (.ret [cb b,.row 0 es']):=by
  unfold GSTEP
  by_cases he:lst.length=many
  · rw [if_pos he] at hfold
    have h1:((lst.length:Int) == (many:Int))=true:=by simp [he]
    rw [h1]
    simp only [foldB] at hfold
    simp only [iteB,hy es [c]]
    cases hyf:yf es [c] with
    | none=>rw [hyf] at hfold;cases hfold
    | some q =>
      obtain ⟨b1,es1⟩:=q
      rw [hyf] at hfold
      cases b1 <;> (simp only [Option.some.injEq,Prod.mk.injEq] at hfold;obtain ⟨rfl,rfl⟩:=hfold;simp)
  · rw [if_neg he] at hfold
    have h1:((lst.length:Int) == (many:Int))=false:=by simp;omega
    rw [h1]
    dsimp only [iteB]
    generalize hstep:(fun v0:List CV=>_)=step
    have e0:∀ (i:Nat) (es:List (List CV)),step [ci (i:Int),CV.row 0 es]=iteB (decide ((i:Int)<(n:Int)))
        (callO (M 76 [c]) fun v1=>chk (ownR 1 3 v1)<|chk (fitA (List.length (gr v1 0)) 1 8) <|
          inlO (G es ((gr v1 0)++[[ci (i:Int)]]) (wr ((i:Int)+1))) fun v2=>iteB (!(gb v2 0)) (some (.ret [cb false,CV.row 0 (gr v2 1)])) (some (.nx [ci (wr ((i:Int)+1)),CV.row 0 (gr v2 1)])))
        (some (.br 0 [CV.row 0 es])):=by
      intro i es
      subst hstep
      rfl
    have hfit:fitA (List.length (gr [CV.row 1 lst,CV.fn 3 []] 0)) 1 8=true:=by rw [gr_z];exact fitA_of (by omega) (by omega)
    have key:∀ (m i:Nat) (es:List (List CV)) (b:Bool) (es':List (List CV)),frm≤i→n - i=m→foldB ((List.range' i m).flatMap R) yf es=some (b,es') →
        loopD step [ci (i:Int),CV.row 0 es]=if b=true then some (.br 0 [CV.row 0 es']) else some (.ret [cb false,CV.row 0 es']):=by
      intro m
      induction m with
      | zero =>
        intro i es b es' hfi hi hfo
        simp only [List.range'_zero,List.flatMap_nil,foldB,Option.some.injEq,Prod.mk.injEq] at hfo
        obtain ⟨rfl,rfl⟩:=hfo
        refine (loop_end (r:=some (.br 0 [CV.row 0 es])) ?_ (by simp)).trans (by simp)
        have:¬((i:Int)<(n:Int)):=by omega
        rw [e0,decide_eq_false this]
        rfl
      | succ m ihm =>
        intro i es b es' hfi hi hfo
        have hin:(i:Int)<(n:Int):=by omega
        have hwi:wr ((i:Int)+1)=((i+1:Nat):Int):=by rw [wr_of] <;> omega
        simp only [List.range'_succ,List.flatMap_cons,foldB_app] at hfo
        have hst:=e0 i es
        rw [decide_eq_true hin,hc] at hst
        dsimp only [iteB] at hst
        rw [callO_val,show ownR 1 3 [CV.row 1 lst,CV.fn 3 []]=true from rfl,chk_true,hfit,chk_true,gr_z,hwi] at hst
        cases hsub:foldB (R i) yf es with
        | none=>rw [hsub] at hfo;cases hfo
        | some q =>
          obtain ⟨b1,es1⟩:=q
          rw [hsub] at hfo
          rw [hG he i es b1 es1 hfi (by omega) hsub,inlO_ret,gb_z,gr_s,gr_z] at hst
          cases b1 with
          | false =>
            simp only [Option.some.injEq,Prod.mk.injEq] at hfo
            obtain ⟨rfl,rfl⟩:=hfo
            exact (loop_end hst (by simp)).trans (by simp)
          | true =>
            rw [loop_eq (by simpa using hst)]
            exact ihm (i+1) es1 b es' (by omega) (by omega) hfo
    rw [key (n - frm) frm es b es' (Nat.le_refl _) rfl hfold]
    cases b <;> simp
end Go.Proofs.Ythkfohoccnnphaa
namespace Go.Proofs.Ythkfohoccnnphaa
open Go Go.Sx
set_option maxRecDepth 100000
theorem rls_succ (n many k:Nat) (lst:List (List CV)) (frm:Nat):rlsC n many (k+1) lst frm=if lst.length=many then [lst] else (List.range' frm (n - frm)).flatMap fun (i:Nat)=>rlsC n many k (lst++[[ci (i:Int)]]) (i+1):=rfl
theorem GROW_spec {M:Den} {l:Nat} {n many:Nat} {yf:YF}
    (hy:∀ es x,M ghT (CV.val (.func (.yield l) #[] #[])::CV.row 0 [[CV.row 1 []]]::.row 0 es::x)=match yf es x with
      | some (b,es')=>some [cb b,.row 0 es']
      | none=>none)
    (hn:n<1000) (hmany:many<1000) (hc:∀ lst:List (List CV),lst.length<1000→M 76 [.row 1 lst]=some [.row 1 lst,.fn 3 []]) :
    ∀ (k:Nat) (lst:List (List CV)) (frm:Nat) (es:List (List CV)) (b:Bool) (es':List (List CV)),lst.length≤many→n - frm<k→foldB ((rlsC n many k lst frm).map fun x=>[CV.row 1 x]) yf es=some (b,es') →
      GROW M l (many:Int) (n:Int) k es lst (frm:Int)=some (.ret [cb b,.row 0 es'])
  | 0,_,_,_,_,_,_,h,_=>by omega
  | k+1,lst,frm,es,b,es',hm,hk,hfold=>by
    show GSTEP M l many n (GROW M l many n k) (.row 1 lst) (il lst) es frm=_
    rw [il_def]
    refine GSTEP_spec (R:=fun i=>(rlsC n many k (lst++[[ci (i:Int)]]) (i+1)).map fun x=>[CV.row 1 x]) hy hn (hc lst (by omega)) (by omega) hm ?_ ?_
    · intro hne i es b es' hfi hi hf
      exact GROW_spec hy hn hmany hc k (lst++[[ci (i:Int)]]) (i+1) es b es' (by simp;omega) (by omega) hf
    · simp only [rlsC] at hfold
      split at hfold
      · rename_i he;rw [if_pos he];simpa using hfold
      · rename_i he;rw [if_neg he];simpa [List.map_flatMap] using hfold
theorem lists_iter {M:Den} (hM:∀ [Ghost],Fns Try.prog sg M) (hg:sg ghT=none) (hMg:∀ vs,M ghT vs=none) {n many:Nat} (hn:n<9) (hm0:0<many) (hmany:many<1000)
    (hc:∀ lst:List (List CV),lst.length<1000→M 76 [.row 1 lst]=some [.row 1 lst,.fn 3 []]) (hc0:M 76 [.val (.slice none 0 0)]=some [.row 1 [],.fn 3 []]) :
    IterJ Try.prog 121 [.ref [ci (many:Int)],.ref [ci (n:Int)]] (.clo [.one (.row 1)]) (foldY ((rlsC n many 10 [] 0).map fun x=>[.row 1 x])):=by
  refine iterJ_of (fn:=Try.f121) (c:=bodyOf Try.f121) (fe:=feLists) (dp:=12) hM hg hMg (by kernel_rfl) (by kernel_rfl) (by kernel_rfl) (by kernel_rfl) ?_
  intro l yf es es' hR
  rw [y_lists]
  rw [foldY_B] at hR
  simp only [Option.map_eq_some_iff] at hR
  obtain ⟨⟨b,e1⟩,hR,rfl⟩:=hR
  have hy:∀ es x,withY M l (.clo [.one (.row 1)]) yf ghT (CV.val (.func (.yield l) #[] #[])::CV.row 0 [[CV.row 1 []]]::.row 0 es::x)=match yf es x with
      | some (b,es')=>some [cb b,.row 0 es']
      | none=>none:=fun es x=>by
    simp only [withY,if_true,shC,scC,lfC,List.map_cons,List.map_nil,and_self]
    cases yf es x with
    | none=>rfl
    | some q=>obtain ⟨b,e⟩:=q;rfl
  have h76:∀ vs,withY M l (.clo [.one (.row 1)]) yf 76 vs=M 76 vs:=fun vs=>by unfold withY;rw [if_neg (by decide)]
  have hne:¬(([]:List (List CV)).length=many):=by simp;omega
  have hstep:=GSTEP_spec (M:=withY M l (.clo [.one (.row 1)]) yf) (l:=l) (n:=n) (many:=many) (yf:=yf) (G:=GROW (withY M l (.clo [.one (.row 1)]) yf) l many n 9) (c:=.val (.slice none 0 0)) (lst:=[]) (frm:=0) (es:=es) (es':=e1) (b:=b)
    (R:=fun i=>(rlsC n many 9 ([]++[[ci (i:Int)]]) (i+1)).map fun x=>[CV.row 1 x]) hy (by omega) (by rw [h76];exact hc0) (by simp) (by simp)
    (fun _ i es b es' _ hi hf=>GROW_spec hy (by omega) hmany (fun lst hl=>by rw [h76];exact hc lst hl) 9 ([]++[[ci (i:Int)]]) (i+1) es b es' (by simp;omega) (by omega) hf)
    (by rw [if_neg hne];rw [rls_succ,if_neg hne,List.map_flatMap] at hR;exact hR)
  unfold R_lists
  rw [show GSTEP (withY M l (.clo [.one (.row 1)]) yf) l (many:Int) (n:Int) (GROW (withY M l (.clo [.one (.row 1)]) yf) l many n 9) (.val (.slice none 0 0)) 0 es 0=some (.ret [cb b,.row 0 e1]) from hstep]
  simp
end Go.Proofs.Ythkfohoccnnphaa
namespace Go.Proofs.Ythkfohoccnnphaa
open Go Go.Sx
set_option maxRecDepth 100000
theorem q_clone (M:Den) (lst:List (List CV)):evFO Try.prog (fun _=>none) M fe76 (bodyOf Try.f76) [.row 1 lst]=retO (nilD lst (some (.ret [.row 1 [],.fn 3 []])) (chk (fitA 0 (List.length lst) 8)<|some (.ret [.row 1 lst,.fn 3 []]))):=by kernel_rfl
theorem clone_evFO (M:Den) {lst:List (List CV)} (h:lst.length<1000000):evFO Try.prog (fun _=>none) M fe76 (bodyOf Try.f76) [.row 1 lst]=some [.row 1 lst,.fn 3 []]:=by
  rw [q_clone,chk_of (fitA_of (by omega) (by omega)),nilD_eq]
  · rfl
  · rintro rfl;rfl
end Go.Proofs.Ythkfohoccnnphaa
namespace Go.Proofs.Ythkfohoccnnphaa
open Go Go.Sx
set_option maxRecDepth 100000
noncomputable section
variable [G:Ghost]
def cloneIt:List CV→Option (List CV)
  | [.row 1 lst]=>if lst.length<1000000 then some [.row 1 lst,.fn 3 []] else none
  | [.val (.slice none 0 0)]=>some [.row 1 [],.fn 3 []]
  | _=>none
theorem clone_spec {lst:List (List CV)} (h:lst.length<1000000):SpecO Try.prog 76 [.cv (.row 1 lst)] 3 1 lst:=
  evFO_sound (fe:=fe76) (c:=bodyOf Try.f76) (fn:=Try.f76) (vs:=[.row 1 lst]) (Fns.none' _) (Yls.none (fun _=>rfl)) (Its.none' _) (by kernel_rfl) (by kernel_rfl) (by kernel_rfl) (by kernel_rfl) (clone_evFO (fun _ _=>none) h)
theorem clone_spec0:SpecO Try.prog 76 [.cv (.val (.slice none 0 0))] 3 1 []:=by
  have h:=clone_spec (lst:=[]) (by decide)
  intro F n hF hro n0 w0 e w vs he hm hv hs
  refine h F n hF hro n0 w0 e w vs he hm ?_ hs
  match vs,hv with
  | vs,hv =>
    generalize vs.toList=us at hv ⊢
    match us,hv with
    | [u],hv =>
      simp only [AV.all,AV.holds,CV.holds,and_true] at hv ⊢
      exact ⟨none,0,hv.1,Nat.le_refl _,by decide,Or.inl trivial⟩
def its0:ITS:=[(76,cloneIt)]
def EntO (f:Nat) (it:List CV→Option (List CV)):Prop:=∀ caps out,it caps=some out →
  (∀ rows sh,out=[.row 0 rows,shC sh]→entB Try.prog f=true∧IterJ Try.prog f caps sh (foldY rows)) ∧
  (∀ xs,intsOf out=some xs→entB Try.prog f=true∧IterP Try.prog f caps xs) ∧
  (∀ k es T,out=[.row k es,.fn T []]→entB Try.prog f=true∧SpecO Try.prog f (caps.map .cv) T k es) ∧
  (∀ T k cs es es' hdr,caps=.row k es::.fn T []::cs→out=[.row k es',.val (.bool hdr)]→entB Try.prog f=true∧MutP Try.prog f T k cs es es' hdr) ∧
  (∀ k T by_,caps=[]→out=[.row k [],.fn T [],.fn by_ []]→entB Try.prog f=true∧InsP Try.prog f T k by_)
theorem entO_own {f:Nat} {it:List CV→Option (List CV)} (h:∀ caps out,it caps=some out→caps≠[]∧∃ es,out=[.row 1 es,.fn 3 []]∧entB Try.prog f=true∧SpecO Try.prog f (caps.map .cv) 3 1 es):EntO f it:=by
  intro caps out ho
  obtain ⟨hc,es,rfl,he,hs⟩:=h caps out ho
  refine ⟨fun rows sh hr=>by simp at hr,fun xs hx=>by simp [intsOf] at hx,fun k es' T hr=>?_,fun T k cs e e' hdr h1 h2=>by simp at h2,fun k T b h1=>absurd h1 hc⟩
  simp only [List.cons.injEq,CV.row.injEq,CV.fn.injEq,and_true] at hr
  obtain ⟨⟨rfl,rfl⟩,rfl⟩:=hr
  exact ⟨he,hs⟩
theorem clone_ent:EntO 76 cloneIt:=entO_own fun caps out h=>by
  unfold cloneIt at h
  split at h
  · split at h
    · rename_i lst hl
      cases h
      exact ⟨by simp,lst,rfl,by kernel_rfl,clone_spec hl⟩
    · cases h
  · cases h
    exact ⟨by simp,[],rfl,by kernel_rfl,clone_spec0⟩
  · cases h
theorem its0_ok:ItsOk Try.prog its0:=by
  intro e he
  simp only [its0,List.mem_singleton] at he
  subst he
  exact clone_ent
theorem its0_fns (n:Nat):Fns Try.prog sg (D its0 n):=den_fns its0_ok (by constructor <;> kernel_rfl) tb_ok n
end
noncomputable section
theorem D0_clone (n:Nat) {lst:List (List CV)} (h:lst.length<1000000):D its0 (n+1) 76 [.row 1 lst]=some [.row 1 lst,.fn 3 []]:=by
  show cloneIt [.row 1 lst]=_
  simp [cloneIt,h]
theorem D0_clone0 (n:Nat):D its0 (n+1) 76 [.val (.slice none 0 0)]=some [.row 1 [],.fn 3 []]:=rfl
theorem D0_gh (n:Nat) (vs:List CV):D its0 n ghT vs=none:=den_gh (by constructor <;> kernel_rfl) n vs
end
end Go.Proofs.Ythkfohoccnnphaa
namespace Go.Proofs.Ythkfohoccnnphaa
open Go Go.Sx Go.Pen
set_option maxRecDepth 100000
theorem upA_eq (i:Int) (a b:List (List CV)) (f:Nat→Int) (k:Kd):upA k.cv (ci i::.row 1 a::.row 4 b::st f)=.row 1 a::.row 4 b::st (setK f k.sort k.room k.eats k.apart):=by kernel_rfl
theorem upB_eq (s:Int) (a b:List (List CV)) (f:Nat→Int) (k:Kd):upB k.cv (ci s::.row 1 a::.row 4 b::st f)=.row 1 a::.row 4 b::st (setO f k.sort.toNat (orI (gi (.row 1 a::.row 4 b::st f) (42+k.sort.toNat*1)) s.toNat)):=by kernel_rfl
theorem upC_eq (s:Int) (x:List CV) (a b:List (List CV)) (f:Nat→Int) (k:Kd):upC k.cv (ci s::x) (.row 1 a::.row 4 b::st f)=.row 1 a::.row 4 b::st (setO f s.toNat (orI (gi (.row 1 a::.row 4 b::st f) (42+s.toNat*1)) k.sort.toNat)):=by kernel_rfl
theorem cat3_eq (s:Int) (a b:List (List CV)) (f:Nat→Int):cat [[CV.row 1 (gr (ci s::.row 1 a::.row 4 b::st f) 1),CV.row 4 (gr (ci s::.row 1 a::.row 4 b::st f) 2)],cis (ci s::.row 1 a::.row 4 b::st f) 3 50]=.row 1 a::.row 4 b::st f:=by kernel_rfl
theorem cat2_eq (a b:List (List CV)) (f:Nat→Int):cat [[CV.row 1 (gr (.row 1 a::.row 4 b::st f) 0),CV.row 4 (gr (.row 1 a::.row 4 b::st f) 1)],cis (.row 1 a::.row 4 b::st f) 2 50]=.row 1 a::.row 4 b::st f:=by kernel_rfl
theorem st_get (f:Nat→Int) {j:Nat} (h:j<50):(st f)[j]? = some (ci (f j)):=by simp [st,h]
theorem st_gi (a b:List (List CV)) (f:Nat→Int) {m:Nat} (h:m<10):gi (.row 1 a::.row 4 b::st f) (42+m*1)=f (40+m):=by
  have e:42+m*1=(40+m)+1+1:=by omega
  rw [e,gi_s,gi_s,gi,List.getD_eq_getElem?_getD,st_get f (by omega)]
  rfl
theorem st_ints (f:Nat→Int):intsFrom (st f)=true:=by simp [intsFrom,st,ok_ci]
theorem st_oks (a b:List (List CV)) (f:Nat→Int) {m n:Nat} (h:m+n≤50):oks (List.replicate n li) (.row 1 a::.row 4 b::st f) (2+m)=true:=by
  rw [show 2+m=m+1+1 by omega,oks_succ,oks_succ]
  exact oks_ints (st_ints f) (by simp [st];omega)
theorem st_oks1 (a b:List (List CV)) (f:Nat→Int) {m:Nat} (h:m<10):oks [li] (.row 1 a::.row 4 b::st f) (42+m*1)=true:=by
  have:=st_oks a b f (m:=40+m) (n:=1) (by omega)
  rw [show 2+(40+m)=42+m*1 by omega] at this
  exact this
theorem npIn_step (k:Kd) (hk:k.ok=true) (a b:List (List CV)) (f:Nat→Int) {s:Nat} (hs:s<10) :
    npIn k.cv (ci (s:Int)::.row 1 a::.row 4 b::st f)=some (.nx (ci ((s+1:Nat):Int)::.row 1 a::.row 4 b::st (inner k f s))):=by
  unfold Kd.ok within at hk
  simp only [Bool.and_eq_true,decide_eq_true_eq] at hk
  obtain ⟨⟨⟨⟨⟨h1,h2⟩,h3,h4⟩,h5,h6⟩,h7,h8⟩,h9⟩:=hk
  have hm:k.sort.toNat<10:=by omega
  have e1:gi k.cv 0=k.sort:=rfl
  have e3:gi k.cv 3=k.apart:=rfl
  have hw:=wr_nat (show s<9223372036854775807 by omega)
  have hb:((wr (Int.ofNat (bAN (Int.fdiv k.apart ((2:Int) ^ (min s 64))) 1))) == 1)=bit k.apart s:=by
    have:k.apart=((k.apart.toNat:Nat):Int):=by omega
    rw [this,bit_test _ _ (by omega)]
    rfl
  have hc1:decide (k.sort<Int.ofNat 10)=true:=by simp only [decide_eq_true_eq];show k.sort<10;omega
  have hc2:decide ((s:Int)<Int.ofNat 10)=true:=by simp only [decide_eq_true_eq];show (s:Int)<10;omega
  have hc3:decide ((0:Int)≤(s:Int))=true:=by simp
  have hc4:decide ((0:Int)≤k.sort)=true:=by simp;omega
  have hlt:decide ((s:Int)<10)=true:=by simp;omega
  unfold npIn
  rw [gi_z,hlt]
  simp only [cat3_eq,upB_eq,e1,e3,Int.toNat_natCast,hb,hc1,hc2,hc3,hc4,Bool.and_self,chk_true,st_oks1 a b _ hm,st_oks1 a b _ hs,hw,st_gi a b _ hm]
  cases hbb:bit k.apart s with
  | false =>
    simp only [iteB,seqO_nx,cat2_eq,inner,hbb,Bool.false_eq_true,if_false]
    rfl
  | true =>
    simp only [iteB,seqO_nx,cat2_eq,upC_eq,inner,hbb,st_oks1 a b _ hs,chk_true,Int.toNat_natCast,st_gi a b _ hs,if_true]
    rfl
end Go.Proofs.Ythkfohoccnnphaa
namespace Go.Proofs.Ythkfohoccnnphaa
open Go Go.Sx Go.Pen
set_option maxRecDepth 100000
theorem catc_eq (x:CV) (a b:List (List CV)) (f:Nat→Int):cat [[x,CV.row 1 (gr (.row 1 a::.row 4 b::st f) 0),CV.row 4 (gr (.row 1 a::.row 4 b::st f) 1)],cis (.row 1 a::.row 4 b::st f) 2 50]=x::.row 1 a::.row 4 b::st f:=by kernel_rfl
theorem npIn_end (k:Kd) (a b:List (List CV)) (f:Nat→Int):npIn k.cv (ci ((10:Nat):Int)::.row 1 a::.row 4 b::st f)=some (.br 2 (.row 1 a::.row 4 b::st f)):=by
  unfold npIn
  rw [gi_z,show decide (((10:Nat):Int)<10)=false by decide]
  simp only [iteB,cat3_eq]
theorem npIn_loop (k:Kd) (hk:k.ok=true) (a b:List (List CV)) (f:Nat→Int) :
    loopD (npIn k.cv) (ci 0::.row 1 a::.row 4 b::st f)=some (.br 2 (.row 1 a::.row 4 b::st ((List.range 10).foldl (inner k) f))):=by
  rw [loop_foldl (List.range 10) (fun i f=>ci (i:Int)::.row 1 a::.row 4 b::st f) (inner k) 2 (fun f=>.row 1 a::.row 4 b::st f) f ?hv ?hs ?he]
  case hv=>rfl
  case hs =>
    intro i h f
    rw [List.getElem_range]
    exact npIn_step k hk a b f (by simpa using h)
  case he =>
    intro f
    rw [List.length_range]
    exact npIn_end k a b f
theorem npOut_step (y:Yard) (hk:∀ k∈y.kinds,k.ok=true) (a b:List (List CV)) (f:Nat→Int) {i:Nat} (hi:i<y.kinds.length) (hl:y.kinds.length<1000) :
    npOut y.ks (ci (i:Int)::.row 1 a::.row 4 b::st f)=some (.nx (ci ((i+1:Nat):Int)::.row 1 a::.row 4 b::st (outer f y.kinds[i]))):=by
  have hk1:=hk _ (List.getElem_mem hi)
  have hk2:=hk1
  unfold Kd.ok within at hk1
  simp only [Bool.and_eq_true,decide_eq_true_eq] at hk1
  obtain ⟨⟨⟨⟨⟨h1,h2⟩,h3,h4⟩,h5,h6⟩,h7,h8⟩,h9⟩:=hk1
  have hlt:decide ((i:Int)<(y.kinds.length:Int))=true:=by simp;omega
  have hc1:decide (y.kinds[i].sort<Int.ofNat 10)=true:=by simp only [decide_eq_true_eq];show y.kinds[i].sort<10;omega
  have hc2:decide ((0:Int)≤y.kinds[i].sort)=true:=by simp;omega
  have hw:=wr_nat (show i<9223372036854775807 by omega)
  have e0:gi y.kinds[i].cv 0=y.kinds[i].sort:=rfl
  have e1:oks (List.replicate 4 li) y.kinds[i].cv 0=true:=oks_ints (by simp [intsFrom,Kd.cv,ok_ci]) (by simp [Kd.cv])
  unfold npOut
  simp only [gi_z,il_ks,hlt,inb_ks hi,el_ks hi,chk_true,e0,e1,hc1,hc2,Bool.and_self,cat3_eq]
  rw [st_oks a b f (m:=y.kinds[i].sort.toNat*4) (n:=4) (by omega)]
  simp only [iteB,chk_true,upA_eq,seqO_nx,catc_eq,npIn_loop _ hk2,blkO_br,hw]
  rfl
theorem npOut_end (y:Yard) (a b:List (List CV)) (f:Nat→Int):npOut y.ks (ci (y.kinds.length:Int)::.row 1 a::.row 4 b::st f)=some (.br 0 (.row 1 a::.row 4 b::st f)):=by
  unfold npOut
  rw [gi_z,il_ks,show decide ((y.kinds.length:Int)<(y.kinds.length:Int))=false by simp]
  simp only [iteB,cat3_eq]
theorem w_newPound (its:ITS) (n:Nat) {y:Yard} (hy:y.ok=true):D its (n+1) n_pen_newPound [.row 1 y.ps,.row 4 y.ks]=some [.ref (pc y)]:=by
  have hl:=(ok_length hy).2
  have hk:∀ k∈y.kinds,k.ok=true:=by
    unfold Yard.ok at hy
    simp only [Bool.and_eq_true,List.all_eq_true] at hy
    exact hy.1.2
  rw [q_pen_newPound]
  unfold npR
  rw [loop_foldl y.kinds (fun i f=>ci (i:Int)::.row 1 y.ps::.row 4 y.ks::st f) outer 0 (fun f=>.row 1 y.ps::.row 4 y.ks::st f) (fun _=>0) ?hv ?hs ?he]
  case hv=>kernel_rfl
  case hs=>exact fun i h f=>npOut_step y hk _ _ f h (by omega)
  case he=>exact fun f=>npOut_end y _ _ f
  rw [blkO_br,cat2_eq]
  rfl
end Go.Proofs.Ythkfohoccnnphaa
namespace Go.Proofs.Ythkfohoccnnphaa
open Go Go.Sx Go.Pen
set_option maxRecDepth 10000
attribute [local simp] Bool.and_assoc Bool.or_assoc
variable {its:ITS}
@[simp] theorem isRefC_ref (x:List CV):isRefC (.ref x)=true:=rfl
@[simp] theorem cF_ref (x:List CV):cF (.ref x)=x:=rfl
theorem v_CheckYard_c1 (M:Den) (x:CV):callV sg M (.fn n_pen_CheckYard_c1 []) [x] [.one li] [.one lb]=M n_pen_CheckYard_c1 [x]:=rfl
theorem v_areSorts_c1 (M:Den) (p:List CV) (x:CV):callV sg M (.fn n___pen_pound__areSorts_c1 [.ref [.ref p]]) [x] [.one li] [.one lb]=M n___pen_pound__areSorts_c1 [x,.ref [.ref p]]:=rfl
@[simp] theorem w_in (n:Nat) (a b c:Int):D its (n+1) n_pen_in [ci a,ci b,ci c]=some [cb (within a b c)]:=by
  rw [q_pen_in];simp [R_pen_in,within]
@[simp] theorem w_within (n:Nat) (a b c:Int):D its (n+1) n_r05_within [ci a,ci b,ci c]=some [cb (within a b c)]:=by
  rw [q_r05_within];simp [R_r05_within,within]
theorem even_bit {a:Int} (h0:0≤a) (h1:a≤1023):decide (wr (Int.ofNat (bAN a 1))=0)=decide (a % 2=0):=by
  obtain ⟨m,rfl⟩:∃ m:Nat,a=m:=⟨a.toNat,by omega⟩
  rw [show bAN (m:Int) 1=m &&& 1 from bAN_nat m 1 (by omega) (by decide)]
  have h3:m &&& 1≤1:=Nat.and_le_right
  rw [Int.ofNat_eq_natCast,wr_of (by omega) (by omega),Nat.and_one_is_mod]
  by_cases h:m % 2=0
  · rw [decide_eq_true (by omega),decide_eq_true (by omega)]
  · rw [decide_eq_false (by omega),decide_eq_false (by omega)]
theorem even_bit' {a:Int} (h0:0≤a) (h1:a≤1023):wr (bAN a 1:Int)=0↔a % 2=0:=by
  have:=even_bit h0 h1
  simpa using this
@[simp] theorem w_isKind (n:Nat) (k:Kd):D its (n+2) n_pen_isKind [ci k.sort,ci k.room,ci k.eats,ci k.apart]=some [cb k.ok]:=by
  rw [q_pen_isKind]
  by_cases h:within k.apart 0 1023=true
  · have h':=h
    simp only [within,Bool.and_eq_true,decide_eq_true_eq] at h'
    simp [R_pen_isKind,Kd.ok,h,even_bit' h'.1 h'.2,retO_ite]
  · simp [R_pen_isKind,Kd.ok,h,retO_ite]
@[simp] theorem w_CheckYard_c1 (n:Nat) (a:Int):D its (n+2) n_pen_CheckYard_c1 [ci a]=some [cb (!within a 0 1000)]:=by
  rw [q_pen_CheckYard_c1];simp [R_pen_CheckYard_c1]
theorem idx_any {A:Type} {l:List A} {p:A→Bool}:l.findIdx? p=none↔l.any p=false:=by
  rw [List.findIdx?_eq_none_iff,Bool.eq_false_iff]
  simp [List.any_eq_true]
theorem w_IndexFunc_int (n:Nat) (l:List Int) (f:CV) (p:Int→Bool) (hl:l.length<9223372036854775807) (hf:∀ x∈l,callV sg (D its n) f [ci x] [.one li] [.one lb]=some [cb (p x)]) :
    D its (n+1) n_slices_IndexFunc_int [.row 1 (ints l),f]=some [ci (idxI (l.findIdx? p))]:=by
  have hf':∀ i (h:i<l.length),callV sg (D its n) f [ci l[i]] [.one li] [.one lb]=some [cb (p l[i])]:=fun i h=>hf _ (List.getElem_mem h)
  rw [q_slices_IndexFunc_int]
  unfold R_slices_IndexFunc_int
  rw [loop_idx p l (fun i=>some (.ret [ci (i:Int)])) (some (.br 0 [])) (fun i=>[ci (i:Int)]) ?hv ?hR ?hX (fun i hi hp=>?h1) (fun i hi hp=>?h2) ?h3]
  case hv=>rfl
  case hR=>simp
  case hX=>simp
  case h3=>simp
  case h1=>simp [hi,hp,inb_ints,el_ints,hf',wr_nat (show i<9223372036854775807 by omega)]
  case h2=>simp [hi,hp,inb_ints,el_ints,hf']
  · cases l.findIdx? p <;> simp [idxI]
theorem w_ContainsFunc_int (n:Nat) (l:List Int) (f:CV) (p:Int→Bool) (hl:l.length<9223372036854775807) (hf:∀ x∈l,callV sg (D its n) f [ci x] [.one li] [.one lb]=some [cb (p x)]) :
    D its (n+2) n_slices_ContainsFunc_int [.row 1 (ints l),f]=some [cb (l.any p)]:=by
  rw [q_slices_ContainsFunc_int]
  simp only [R_slices_ContainsFunc_int,w_IndexFunc_int n l f p hl hf]
  cases hh:l.findIdx? p with
  | some i =>
    have:l.any p=true:=by
      cases hc:l.any p with
      | true=>rfl
      | false=>rw [idx_any.2 hc] at hh;cases hh
    simp [idxI,this]
  | none=>simp [idxI,idx_any.1 hh]
theorem rising_iff:∀ (l:List Int),rising l=true↔∀ i (h:i+1<l.length),l[i]<l[i+1]
  | []=>by simp [rising]
  | [a]=>by simp [rising]
  | a::b::l=>by
    simp only [rising,Bool.and_eq_true,decide_eq_true_eq]
    have ih:=rising_iff (b::l)
    simp only [rising,Bool.and_eq_true] at ih
    rw [ih]
    constructor
    · rintro ⟨h1,h2⟩ i hi
      cases i with
      | zero=>exact h1
      | succ i=>exact h2 i (by simpa using hi)
    · intro h
      exact ⟨h 0 (by simp),fun i hi=>h (i+1) (by simpa using hi)⟩
def badK (ks:List Kd) (i:Nat):Bool:=match ks[i]? with
  | some k=>!k.ok || (decide (0<i)&&match ks[i - 1]? with | some j=>decide (k.sort≤j.sort) | none=>false)
  | none=>false
theorem badK_none (ks:List Kd):(List.range ks.length).find? (badK ks)=none↔(ks.all Kd.ok&&rising (ks.map Kd.sort))=true:=by
  rw [List.find?_eq_none,Bool.and_eq_true,List.all_eq_true,rising_iff]
  constructor
  · intro h
    constructor
    · intro k hk
      obtain ⟨i,hi,rfl⟩:=List.mem_iff_getElem.1 hk
      have:=h i (by simpa using hi)
      simp only [badK,List.getElem?_eq_getElem hi,Bool.not_eq_true,Bool.or_eq_false_iff,Bool.not_eq_false'] at this
      exact this.1
    · intro i hi
      simp only [List.length_map] at hi
      have:=h (i+1) (by simpa using hi)
      simp only [badK,List.getElem?_eq_getElem hi,Bool.not_eq_true,Bool.or_eq_false_iff,Nat.add_sub_cancel,List.getElem?_eq_getElem (show i<ks.length by omega)] at this
      have:=this.2
      simp at this
      simpa using this
  · rintro ⟨h1,h2⟩ i hi
    rw [List.mem_range] at hi
    simp only [badK,List.getElem?_eq_getElem hi,h1 _ (List.getElem_mem hi),Bool.not_true,Bool.false_or,Bool.not_eq_true,Bool.and_eq_false_iff]
    cases i with
    | zero=>simp
    | succ i =>
      right
      have:=h2 i (by simpa using hi)
      simp only [List.getElem_map] at this
      rw [Nat.add_sub_cancel,List.getElem?_eq_getElem (show i<ks.length by omega)]
      simp;omega
theorem kcv_oks (k:Kd):oks (List.replicate 4 li) k.cv 0=true:=oks_ints (by simp [intsFrom,Kd.cv,ok_ci]) (by simp [Kd.cv])
theorem kcv_oks1 (k:Kd):oks [li] k.cv 0=true:=oks_ints (n:=1) (by simp [intsFrom,Kd.cv,ok_ci]) (by simp [Kd.cv])
theorem kcv_cis (k:Kd):cis k.cv 0 4=k.cv:=rfl
@[simp] theorem kcv0 (k:Kd):gi k.cv 0=k.sort:=rfl
@[simp] theorem kcv1 (k:Kd):gi k.cv 1=k.room:=rfl
@[simp] theorem kcv2 (k:Kd):gi k.cv 2=k.eats:=rfl
@[simp] theorem kcv3 (k:Kd):gi k.cv 3=k.apart:=rfl
theorem checkYard_eq (y:Yard):checkYard y=if y.pens.length > 5∨y.pens.any (fun x=>!within x 0 1000)=true then 50 else match (List.range y.kinds.length).find? (badK y.kinds) with | some _=>50 | none=>0:=by
  have e:(y.pens.any fun x=>!within x 0 1000)=!y.pens.all fun n=>within n 0 1000:=by
    rw [List.all_eq_not_any_not,Bool.not_not]
  unfold checkYard Yard.ok
  rw [e]
  have hb:=badK_none y.kinds
  cases hf:(List.range y.kinds.length).find? (badK y.kinds) with
  | none =>
    have:=hb.1 hf
    simp only [Bool.and_eq_true] at this
    simp [this.1,this.2]
    grind
  | some i =>
    have:¬(y.kinds.all Kd.ok&&rising (y.kinds.map Kd.sort))=true:=fun h=>by rw [hb.2 h] at hf;cases hf
    simp only [Bool.and_eq_true] at this
    simp
    grind
theorem w_CheckYard (n:Nat) (y:Yard) (h1:y.pens.length<9223372036854775807) (h2:y.kinds.length<9223372036854775807):D its (n+6) n_pen_CheckYard [.row 1 y.ps,.row 4 y.ks]=some [ci (checkYard y)]:=by
  rw [q_pen_CheckYard]
  have hc:=w_ContainsFunc_int (its:=its) (n+3) y.pens (.fn n_pen_CheckYard_c1 []) (fun x=>!within x 0 1000) h1 (fun x _=>by rw [v_CheckYard_c1];simp)
  unfold R_pen_CheckYard
  rw [loop_find y.kinds.length (fun i=>[ci (i:Int)]) (badK y.kinds) (fun _=>some (.ret [ci 50])) (some (.br 0 [])) ?hv ?hR ?hX (fun i hi hp=>?s1) (fun i hi hp=>?s2) ?s3]
  case hv=>rfl
  case hR=>simp
  case hX=>simp
  case s3=>simp
  case s1 =>
    simp only [badK,List.getElem?_eq_getElem hi,Bool.or_eq_false_iff,Bool.not_eq_false'] at hp
    obtain ⟨hp1,hp2⟩:=hp
    have hwn:=wr_nat (show i<9223372036854775807 by omega)
    by_cases h0:0<i
    · have hi':i - 1<y.kinds.length:=by omega
      have hw:=wr_pred h0 (show i<9223372036854775807 by omega)
      simp only [h0,decide_true,Bool.true_and,List.getElem?_eq_getElem hi'] at hp2
      have hp3:¬y.kinds[i].sort≤y.kinds[i - 1].sort:=by simpa using hp2
      simp [hi,inb_ks hi,el_ks hi,kcv_oks,kcv_cis,hp1,hwn,h0,hw,inb_ks hi',el_ks hi',kcv_oks1,hp3,-List.reduceReplicate]
    · simp [hi,inb_ks hi,el_ks hi,kcv_oks,kcv_cis,hp1,hwn,h0,-List.reduceReplicate]
  case s2 =>
    simp only [badK,List.getElem?_eq_getElem hi] at hp
    cases hok:y.kinds[i].ok with
    | false=>simp [hi,inb_ks hi,el_ks hi,kcv_oks,kcv_cis,hok,-List.reduceReplicate]
    | true =>
      rw [hok] at hp
      by_cases h0:0<i
      · have hi':i - 1<y.kinds.length:=by omega
        have hw:=wr_pred h0 (show i<9223372036854775807 by omega)
        simp only [h0,decide_true,Bool.true_and,Bool.not_true,Bool.false_or,List.getElem?_eq_getElem hi'] at hp
        have hp3:y.kinds[i].sort≤y.kinds[i - 1].sort:=by simpa using hp
        simp [hi,inb_ks hi,el_ks hi,kcv_oks,kcv_cis,hok,h0,hw,inb_ks hi',el_ks hi',kcv_oks1,hp3,-List.reduceReplicate]
      · simp [h0] at hp
  · rw [checkYard_eq]
    simp only [Yard.ps] at hc ⊢
    rw [hc]
    simp
    by_cases h5:5<y.pens.length
    · have h5':5<(y.pens.length:Int):=by omega
      simp [h5,h5']
    · have:¬(5<(y.pens.length:Int)):=by omega
      simp [h5,this]
      split
      · rfl
      · cases (List.range y.kinds.length).find? (badK y.kinds) <;> simp
end Go.Proofs.Ythkfohoccnnphaa
namespace Go.Proofs.Ythkfohoccnnphaa
open Go Go.Sx Go.Pen
set_option maxRecDepth 10000
attribute [local simp] Bool.and_assoc Bool.or_assoc
variable {its:ITS}
@[simp] theorem pc_gr (y:Yard):gr (pc y) 0=y.ps:=rfl
@[simp] theorem pc_ok (y:Yard):oks [.row 1] (pc y) 0=true:=rfl
theorem gi_drop (l:List CV) (n:Nat):gi (l.drop n) 0=gi l n:=by simp [gi]
theorem oks_drop (ls:List Lf) (l:List CV) (n:Nat):oks ls (l.drop n) 0=oks ls l n:=by
  induction ls generalizing n with
  | nil=>rfl
  | cons a ls ih =>
    simp only [oks,List.getElem?_drop,Nat.add_zero,Nat.zero_add]
    have h1:oks ls (l.drop n) 1=oks ls l (n+1):=by
      rw [← ih (n+1)]
      have:l.drop (n+1)=(l.drop n).drop 1:=by rw [List.drop_drop]
      rw [this]
      cases l.drop n with
      | nil=>cases ls <;> simp [oks]
      | cons c cs=>rw [List.drop_one,List.tail_cons,oks_succ]
    rw [h1]
theorem pc_gi (y:Yard) {j:Nat} (h:j<50):gi (pc y) (2+j)=pf y j:=by
  rw [show 2+j=j+1+1 by omega]
  unfold pc
  rw [gi_s,gi_s,gi,List.getD_eq_getElem?_getD,st_get _ h]
  rfl
theorem pc_oks (y:Yard) {j:Nat} (h:j<50):oks [li] (pc y) (2+j)=true:=st_oks (n:=1) _ _ _ (by omega)
theorem pc_kind {y:Yard} (hy:y.ok=true) {s:Int} (h0:0≤s) (h1:s≤9) {c:Nat} (hc:c<4) :
    gi (List.drop c (List.drop (s.toNat*4) (List.drop 2 (pc y)))) 0=[(kd y s).sort,(kd y s).room,(kd y s).eats,(kd y s).apart].getD c 0∧oks [li] (List.drop c (List.drop (s.toNat*4) (List.drop 2 (pc y)))) 0=true:=by
  rw [gi_drop,oks_drop,List.drop_drop]
  have h2:gi (List.drop (2+s.toNat*4) (pc y)) c=gi (pc y) (2+(4*s.toNat+c)):=by
    rw [← gi_drop (List.drop _ _),List.drop_drop,gi_drop]
    congr 1;omega
  have h3:oks [li] (List.drop (2+s.toNat*4) (pc y)) c=oks [li] (pc y) (2+(4*s.toNat+c)):=by
    rw [← oks_drop _ (List.drop _ _),List.drop_drop,oks_drop]
    congr 1;omega
  rw [h2,h3]
  rw [pc_gi y (by omega),pc_oks y (by omega),pf_kind hy (by omega) hc,show ((s.toNat:Nat):Int)=s by omega]
  exact ⟨rfl,rfl⟩
theorem pc_mask {y:Yard} {s:Int} (h0:0≤s) (h1:s≤9):gi (List.drop (s.toNat*1) (List.drop 42 (pc y))) 0=pf y (40+s.toNat)∧oks [li] (List.drop (s.toNat*1) (List.drop 42 (pc y))) 0=true:=by
  rw [List.drop_drop,gi_drop,oks_drop]
  rw [show 42+s.toNat*1=2+(40+s.toNat) by omega,pc_gi y (by omega),pc_oks y (by omega)]
  exact ⟨rfl,rfl⟩
theorem lt10 {s:Int} (h0:0≤s) (h1:s≤9):(decide (0≤s)&&decide (s<Int.ofNat 10))=true:=by
  simp only [Bool.and_eq_true,decide_eq_true_eq]
  exact ⟨h0,by show s<10;omega⟩
theorem has_eq {y:Yard} (hy:y.ok=true) (s:Int):has y s=(within s 1 9&&decide ((kd y s).sort=s)):=by
  cases h:has y s with
  | true =>
    have h1:=has_range hy h
    have h2:=(kd_some h).2
    simp [within,h1.1,h1.2,h2]
  | false =>
    rw [kd_none h]
    cases hw:within s 1 9 with
    | false=>rfl
    | true =>
      simp only [within,Bool.and_eq_true,decide_eq_true_eq] at hw
      have:¬(kz.sort=s):=by show ¬(0:Int)=s;omega
      simp [this]
@[simp] theorem w_has (n:Nat) {y:Yard} (hy:y.ok=true) (s:Int):D its (n+2) n___pen_pound__has [.ref (pc y),ci s]=some [cb (has y s)]:=by
  rw [q___pen_pound__has,has_eq hy]
  unfold R___pen_pound__has
  rw [w_in,callO_val,gb_z]
  cases hw:within s 1 9 with
  | false=>rfl
  | true =>
    simp only [within,Bool.and_eq_true,decide_eq_true_eq] at hw
    obtain ⟨e1,e2⟩:=pc_kind hy (s:=s) (by omega) (by omega) (c:=0) (by omega)
    rw [lt10 (by omega) (by omega),e1,e2]
    rfl
theorem w_areSorts_c1 (n:Nat) {y:Yard} (hy:y.ok=true) (s:Int):D its (n+3) n___pen_pound__areSorts_c1 [ci s,.ref [.ref (pc y)]]=some [cb (!has y s)]:=by
  rw [q___pen_pound__areSorts_c1]
  simp [R___pen_pound__areSorts_c1,w_has _ hy,oks,Lf.ok]
theorem any_not {A:Type} (l:List A) (p:A→Bool):(l.any fun x=>!p x)=!l.all p:=by
  rw [List.all_eq_not_any_not,Bool.not_not]
theorem w_areSorts (n:Nat) {y:Yard} (hy:y.ok=true) (l:List Int) (hl:l.length<9223372036854775807):D its (n+6) n___pen_pound__areSorts [.ref (pc y),.row 1 (ints l)]=some [cb (sortsOk y l)]:=by
  rw [q___pen_pound__areSorts]
  have hc:=w_ContainsFunc_int (its:=its) (n+3) l (.fn n___pen_pound__areSorts_c1 [.ref [.ref (pc y)]]) (fun s=>!has y s) hl (fun x _=>by rw [v_areSorts_c1,w_areSorts_c1 n hy])
  rw [any_not] at hc
  unfold R___pen_pound__areSorts
  rw [hc,il_ints']
  by_cases h:l.length≤8
  · have h':((l.length:Int)≤8):=by omega
    simp [sortsOk,h,h']
  · have h':¬((l.length:Int)≤8):=by omega
    simp [sortsOk,h,h']
def refIf (b:Bool) (x:List CV):CV:=if b=true then .ref x else .val (Value.pointer none)
theorem w_asked (n:Nat) (y:Yard) (l:List Int) (h1:y.pens.length<9223372036854775807) (h2:y.kinds.length<9223372036854775807) (hl:l.length<9223372036854775807) :
    D its (n+7) n_pen_asked [.row 1 y.ps,.row 4 y.ks,.row 1 (ints l)]=some [refIf (asked y l == 0) (pc y),ci (asked y l)]:=by
  rw [q_pen_asked]
  unfold R_pen_asked
  rw [w_CheckYard _ y h1 h2]
  unfold checkYard asked
  cases hy:y.ok with
  | false=>simp [refIf]
  | true =>
    simp only [if_true,callO_val,gi_z,w_newPound its _ hy,List.getD_cons_zero,cF_ref,w_areSorts _ hy l hl,gb_z]
    cases hs:sortsOk y l with
    | false=>simp [refIf]
    | true=>simp [refIf]
theorem asked_ok {y:Yard} {l:List Int} (h:asked y l=0):y.ok=true∧sortsOk y l=true:=by
  unfold asked at h
  cases hy:y.ok with
  | false=>rw [hy] at h;simp at h
  | true =>
    cases hs:sortsOk y l with
    | false=>rw [hy,hs] at h;simp at h
    | true=>exact ⟨rfl,rfl⟩
theorem asked_zero {y:Yard} {l:List Int} (hy:y.ok=true) (hs:sortsOk y l=true):asked y l=0:=by simp [asked,hy,hs]
theorem sorts_len {y:Yard} {l:List Int} (h:sortsOk y l=true):l.length≤8:=by
  unfold sortsOk at h
  simp only [Bool.and_eq_true,decide_eq_true_eq] at h
  exact h.1
theorem sorts_has {y:Yard} {l:List Int} (h:sortsOk y l=true):∀ s∈l,has y s=true:=by
  unfold sortsOk at h
  simp only [Bool.and_eq_true,List.all_eq_true] at h
  exact h.2
end Go.Proofs.Ythkfohoccnnphaa
namespace Go.Proofs.Ythkfohoccnnphaa
open Go Go.Sx Go.Pen
set_option maxRecDepth 10000
attribute [local simp] Bool.and_assoc Bool.or_assoc
variable {its:ITS}
theorem rm_le {y:Yard} (h:y.ok=true) (s:Int):rm y s≤1000:=by
  unfold rm
  cases hs:has y s with
  | false=>rw [kd_none hs];show (0:Int)≤1000;omega
  | true =>
    have hm:=(kd_some hs).1
    unfold Yard.ok at h
    simp only [Bool.and_eq_true,List.all_eq_true,Kd.ok,within,decide_eq_true_eq] at h
    exact (h.1.2 _ hm).1.1.1.2.2
theorem spl1 (a b:CV):spl [a] 0 [b]=[b]:=rfl
theorem li1 (x:Int):oks [li] [ci x] 0=true:=rfl
theorem okP_eq {y:Yard} {l p:List Int} (h:p.length=l.length):okP y l p=okZ y (l.zip p):=by
  unfold okP;simp [h]
theorem find_okZ {y:Yard} {z:BP}:(List.range z.length).find? (fun i=>!okZ y (z.take (i+1)))=none↔okZ y z=true:=by
  rw [List.find?_eq_none]
  constructor
  · intro h
    cases hz:z.length with
    | zero=>rw [List.length_eq_zero_iff.1 hz];rfl
    | succ n =>
      have:=h n (by simp [hz])
      rw [← hz,List.take_length] at this
      simpa using this
  · intro h i _
    simp [okZ_take h]
theorem w_fill (n:Nat) {y:Yard} (hy:y.ok=true) (l p:List Int) (hl:∀ s∈l,1≤s∧s≤9) (hll:l.length<1000000) (hpl:p.length<9223372036854775807) :
    D its (n+2) n___pen_pound__fill [.ref (pc y),.row 1 (ints l),.row 1 (ints p)]=some [refIf (p.length == l.length&&okZ y (l.zip p)) [.row 1 (ints (freeZ y (l.zip p))),.row 1 (ints (sortZ y (l.zip p)))],cb (p.length == l.length&&okZ y (l.zip p))]:=by
  have h5:=(ok_length hy).1
  rw [q___pen_pound__fill]
  unfold R___pen_pound__fill
  have hf:fitA y.pens.length 0 8=true:=fitA_of (by omega) (by omega)
  have hf0:(decide ((0:Int)≤(y.pens.length:Int))&&decide ((y.pens.length:Int)≤(y.pens.length:Int))&&fitA y.pens.length 0 8)=true:=by rw [hf];simp
  simp only [List.drop_zero,pc_gr,pc_ok,chk_true,il_ps,Int.toNat_natCast,hf0]
  have e1:y.ps.length=y.pens.length:=by simp [Yard.ps]
  rw [e1,List.length_replicate,decide_eq_true (Nat.le_refl _),chk_true,inlO_ret]
  have e2:List.drop y.pens.length (List.replicate y.pens.length [ci 0])=[]:=by simp
  rw [e2,List.append_nil,gr_z,gr_s,gr_z,il_ints',il_ints']
  by_cases hlen:l.length=p.length
  case neg =>
    have:((l.length:Int) != (p.length:Int))=true:=by simp;omega
    rw [this]
    have h2:(p.length == l.length)=false:=by simp;omega
    rw [h2]
    rfl
  case pos =>
    have:((l.length:Int) != (p.length:Int))=false:=by simp;omega
    rw [this]
    have h2:(p.length == l.length)=true:=by simp;omega
    rw [h2,Bool.true_and]
    simp only [iteB]
    have hzl:(l.zip p).length=p.length:=by simp [hlen]
    have hz9:∀ (i:Nat),∀ x∈(l.zip p).take i,1≤x.1∧x.1≤9:=fun i x hx=>hl _ (List.of_mem_zip (List.mem_of_mem_take hx)).1
    rw [loop_first p.length (fun i=>[ci (i:Int),.row 1 (ints (freeZ y ((l.zip p).take i))),.row 1 (ints (sortZ y ((l.zip p).take i)))]) (fun i=>!okZ y ((l.zip p).take (i+1))) (fun _=>some (.ret [.val (Value.pointer none),cb false]))
      (some (.br 0 [.row 1 (ints (freeZ y (l.zip p))),.row 1 (ints (sortZ y (l.zip p)))])) ?hv ?hR ?hX (fun i hi hj hp=>?s1) (fun i hi hj hp=>?s2) (fun hj=>?s3)]
    case hv=>simp [freeZ_nil,sortZ_nil,Yard.ps]
    case hR=>simp
    case hX=>simp
    case s3 =>
      rw [← hzl,List.take_length]
      simp [hzl]
    case s1 =>
      simp only [Bool.not_eq_false'] at hp
      have hzi:i<(l.zip p).length:=by omega
      have hli:i<l.length:=by omega
      rw [← List.take_append_getElem hzi,okZ_snoc,Bool.and_eq_true] at hp
      have hzg:(l.zip p)[i]=(l[i],p[i]):=by simp
      rw [hzg] at hp
      obtain ⟨hp1,hp2⟩:=hp
      have hs9:=hl _ (List.getElem_mem hli)
      have hw:=hp2
      unfold canGo at hw
      simp only [Bool.and_eq_true] at hw
      have hin:=hw.1.1
      have hin':=hin
      simp only [within,Bool.and_eq_true,decide_eq_true_eq] at hin'
      obtain ⟨q,hq⟩:∃ q:Nat,p[i]=q:=⟨p[i].toNat,by omega⟩
      have hqn:q<y.pens.length:=by omega
      rw [canGo_test hy (hz9 i) hs9 hin (pf_mask hy (a:=l[i].toNat) (by omega) |>.congr fun b _=>by rw [show ((l[i].toNat:Nat):Int)=l[i] by omega])] at hp2
      simp only [Bool.and_eq_true,decide_eq_true_eq] at hp2
      rw [hq] at hp2 hin
      simp only [Int.toNat_natCast] at hp2
      obtain ⟨k1,k2⟩:=pc_kind hy (s:=l[i]) (by omega) (by omega) (c:=1) (by omega)
      obtain ⟨k3,k4⟩:=pc_mask (y:=y) (s:=l[i]) (by omega) (by omega)
      have k5:((0:Int)≤l[i])=True:=eq_true (by omega)
      have k7:(l[i]<Int.ofNat 10)=True:=eq_true (by show l[i]<10;omega)
      have hd:y.pens.getD q 0=y.pens[q]:=by simp [hqn]
      have hpr:=pens_range hy hqn
      have hwi:=wr_nat (show i<9223372036854775807 by omega)
      have hwn:wr ((y.pens.length:Int) - 1)=(y.pens.length:Int) - 1:=by rw [wr_of] <;> omega
      have hld0:=load_nonneg hy ((l.zip p).take i) q
      have hrm0:=rm_nonneg hy l[i]
      have hrm1:=rm_le hy l[i]
      have e3:inb (q:Int) (ints (freeZ y ((l.zip p).take i)))=true:=inb_ints (by simpa using hqn)
      have e4:el (ints (freeZ y ((l.zip p).take i))) (q:Int)=[ci (y.pens[q] - Pen.load y ((l.zip p).take i) q)]:=by rw [el_ints (by simpa using hqn),freeZ_get,hd]
      have e5:inb (q:Int) (ints (sortZ y ((l.zip p).take i)))=true:=inb_ints (by simpa using hqn)
      have e6:el (ints (sortZ y ((l.zip p).take i))) (q:Int)=[ci (maskZ ((l.zip p).take i) q:Int)]:=by rw [el_ints (by simpa using hqn),sortZ_get]
      have hroom:([(kd y l[i]).sort,(kd y l[i]).room,(kd y l[i]).eats,(kd y l[i]).apart].getD 1 0)=rm y l[i]:=rfl
      rw [hd] at hp2
      have hwr:wr (y.pens[q] - Pen.load y ((l.zip p).take i) q - rm y l[i])=y.pens[q] - Pen.load y ((l.zip p).take i) q - rm y l[i]:=by rw [wr_of] <;> omega
      have horr:=(orI_nat (maskZ ((l.zip p).take i) q) l[i].toNat (maskZ_lt (fun x hx=>(hz9 i x hx).2) q) (by omega)).1
      unfold orI at horr
      have hlt:((i:Int)<(p.length:Int))=True:=eq_true (by omega)
      have hql1:(q<y.pens.length)=True:=eq_true hqn
      have hrl:(rm y l[i]≤y.pens[q] - Pen.load y ((l.zip p).take i) q)=True:=eq_true hp2.1
      have hfin1:(ints (freeZ y ((l.zip p).take i))).set q [ci (y.pens[q] - Pen.load y ((l.zip p).take i) q - rm y l[i])]=ints (freeZ y ((l.zip p).take (i+1))):=by
        rw [ints_set,← List.take_append_getElem hzi,hzg,hq,freeZ_snoc y _ _ hqn]
      have hfin2:(ints (sortZ y ((l.zip p).take i))).set q [ci ((maskZ ((l.zip p).take i) q ||| 2 ^ l[i].toNat:Nat):Int)]=ints (sortZ y ((l.zip p).take (i+1))):=by
        rw [ints_set,← List.take_append_getElem hzi,hzg,hq,sortZ_snoc y _ _ hqn]
      simp only [gi_z,gi_s,gr_z,gr_s,il_ints',hlt,inb_ints hi,el_ints hi,li1,chk_true,w_in,callO_val,gb_z,hwn,hq,hin,inb_ints hli,el_ints hli,Bool.not_true,iteB,k1,k2,k3,k4,k5,k7,e3,e4,e5,e6,Int.toNat_natCast,ints_length,freeZ_len,sortZ_len,hql1,hroom,hrl,hp2.2,inlO_ret,seqO_nx,hwr,horr,hwi,decide_true,Bool.and_self,spl1,hfin1,hfin2,Nat.le_refl]
    case s2 =>
      simp only [Bool.not_eq_true'] at hp
      have hzi:i<(l.zip p).length:=by omega
      have hli:i<l.length:=by omega
      have hp0:okZ y ((l.zip p).take i)=true:=by
        cases i with
        | zero=>rfl
        | succ i=>have:=hj i (by omega);simpa using this
      have hzg:(l.zip p)[i]=(l[i],p[i]):=by simp
      rw [← List.take_append_getElem hzi,okZ_snoc,hp0,Bool.true_and,hzg] at hp
      have hs9:=hl _ (List.getElem_mem hli)
      have hwn:wr ((y.pens.length:Int) - 1)=(y.pens.length:Int) - 1:=by rw [wr_of] <;> omega
      have hlt:((i:Int)<(p.length:Int))=True:=eq_true (by omega)
      cases hin:within p[i] 0 ((y.pens.length:Int) - 1) with
      | false =>
        simp only [gi_z,gi_s,gr_z,gr_s,il_ints',hlt,inb_ints hi,el_ints hi,li1,chk_true,w_in,callO_val,gb_z,hwn,hin,Bool.not_false,iteB,seqO_nx,decide_true]
      | true =>
        have hin':=hin
        simp only [within,Bool.and_eq_true,decide_eq_true_eq] at hin'
        obtain ⟨q,hq⟩:∃ q:Nat,p[i]=q:=⟨p[i].toNat,by omega⟩
        have hqn:q<y.pens.length:=by omega
        rw [canGo_test hy (hz9 i) hs9 hin (pf_mask hy (a:=l[i].toNat) (by omega) |>.congr fun b _=>by rw [show ((l[i].toNat:Nat):Int)=l[i] by omega])] at hp
        rw [hq] at hp hin
        simp only [Int.toNat_natCast] at hp
        obtain ⟨k1,k2⟩:=pc_kind hy (s:=l[i]) (by omega) (by omega) (c:=1) (by omega)
        obtain ⟨k3,k4⟩:=pc_mask (y:=y) (s:=l[i]) (by omega) (by omega)
        have k5:((0:Int)≤l[i])=True:=eq_true (by omega)
        have k7:(l[i]<Int.ofNat 10)=True:=eq_true (by show l[i]<10;omega)
        have hd:y.pens.getD q 0=y.pens[q]:=by simp [hqn]
        have e3:inb (q:Int) (ints (freeZ y ((l.zip p).take i)))=true:=inb_ints (by simpa using hqn)
        have e4:el (ints (freeZ y ((l.zip p).take i))) (q:Int)=[ci (y.pens[q] - Pen.load y ((l.zip p).take i) q)]:=by rw [el_ints (by simpa using hqn),freeZ_get,hd]
        have e5:inb (q:Int) (ints (sortZ y ((l.zip p).take i)))=true:=inb_ints (by simpa using hqn)
        have e6:el (ints (sortZ y ((l.zip p).take i))) (q:Int)=[ci (maskZ ((l.zip p).take i) q:Int)]:=by rw [el_ints (by simpa using hqn),sortZ_get]
        have hroom:([(kd y l[i]).sort,(kd y l[i]).room,(kd y l[i]).eats,(kd y l[i]).apart].getD 1 0)=rm y l[i]:=rfl
        simp only [hd] at hp
        have hql1:(q<y.pens.length)=True:=eq_true hqn
        simp only [gi_z,gi_s,gr_z,gr_s,il_ints',hlt,inb_ints hi,el_ints hi,li1,chk_true,w_in,callO_val,gb_z,hwn,hq,hin,inb_ints hli,el_ints hli,Bool.not_true,iteB,k1,k2,k3,k4,k5,k7,e3,e4,e5,e6,Int.toNat_natCast,ints_length,freeZ_len,sortZ_len,hql1,hroom,decide_true,Bool.and_self]
        cases hr:decide (rm y l[i]≤y.pens[q] - Pen.load y ((l.zip p).take i) q) with
        | false=>rfl
        | true =>
          rw [hr,Bool.true_and] at hp
          simp only [hp,inlO_ret,gb_z,Bool.not_false,seqO_nx]
    · have hfz:=find_okZ (y:=y) (z:=l.zip p)
      rw [hzl] at hfz
      cases hf:(List.range p.length).find? (fun i=>!okZ y ((l.zip p).take (i+1))) with
      | none=>rw [hfz.1 hf];simp [refIf]
      | some i =>
        have:okZ y (l.zip p)=false:=by
          cases hc:okZ y (l.zip p) with
          | false=>rfl
          | true=>rw [hfz.2 hc] at hf;cases hf
        simp [this,refIf]
end Go.Proofs.Ythkfohoccnnphaa
namespace Go.Proofs.Ythkfohoccnnphaa
open Go Go.Sx Go.Pen
set_option maxRecDepth 10000
attribute [local simp] Bool.and_assoc Bool.or_assoc
variable {its:ITS}
theorem max_if (x:Int) {d:Decidable (0 > x)}:@ite Int (0 > x) d 0 x=max 0 x:=by split <;> omega
theorem min_if (x z:Int) {d:Decidable (x<z)}:@ite Int (x<z) d x z=min z x:=by split <;> omega
theorem scv_oks (s:Stay):oks [li,li,li] s.cv 0=true:=rfl
@[simp] theorem scv0 (s:Stay):gi s.cv 0=s.sort:=rfl
@[simp] theorem scv1 (s:Stay):gi s.cv 1=s.inn:=rfl
@[simp] theorem scv2 (s:Stay):gi s.cv 2=s.out:=rfl
theorem kd_room (y:Yard) (s:Int):([(kd y s).sort,(kd y s).room,(kd y s).eats,(kd y s).apart].getD 1 0)=rm y s:=rfl
theorem kd_eats (y:Yard) (s:Int):([(kd y s).sort,(kd y s).room,(kd y s).eats,(kd y s).apart].getD 2 0)=(kd y s).eats:=rfl
theorem w_room (n:Nat) {y:Yard} (hy:y.ok=true) (l:List Int) (hl:∀ s∈l,1≤s∧s≤9) (hll:l.length<1000000) :
    D its (n+1) n___pen_pound__room [.ref (pc y),.row 1 (ints l)]=some [ci (rooms y l)]:=by
  rw [q___pen_pound__room]
  unfold R___pen_pound__room
  rw [(loop_foldI l (fun i (s:Int)=>[ci s,ci (i:Int)]) (fun n s=>n+rm y s) (fun i s=>0≤s∧s≤1000*(i:Int)) 0 (fun s=>[ci s]) 0 ?hv ?h0 ?hs ?he).1]
  case hv=>rfl
  case h0=>simp
  case hs =>
    intro i hi s hP
    have h9:=hl _ (List.getElem_mem hi)
    obtain ⟨k1,k2⟩:=pc_kind hy (s:=l[i]) (by omega) (by omega) (c:=1) (by omega)
    have r0:=rm_nonneg hy l[i]
    have r1:=rm_le hy l[i]
    have hlt:((i:Int)<(l.length:Int))=True:=eq_true (by omega)
    have k5:((0:Int)≤l[i])=True:=eq_true (by omega)
    have k7:(l[i]<Int.ofNat 10)=True:=eq_true (by show l[i]<10;omega)
    have hw:wr (s+rm y l[i])=s+rm y l[i]:=by rw [wr_of] <;> omega
    refine ⟨?_,by omega,by omega⟩
    simp only [gi_z,gi_s,il_ints',hlt,decide_true,iteB,inb_ints hi,el_ints hi,li1,chk_true,k5,k7,Bool.and_self,k1,k2,kd_room,hw,wr_nat (show i<9223372036854775807 by omega)]
  case he=>intro s _;simp
  · simp [rooms]
theorem w_parts (n:Nat) {y:Yard} (hy:y.ok=true) {a b:Int} (ha:1≤a∧a≤9) (hb:1≤b∧b≤9):D its (n+1) n___pen_pound__parts [.ref (pc y),ci a,ci b]=some [cb (apt y a b)]:=by
  rw [q___pen_pound__parts]
  unfold R___pen_pound__parts
  obtain ⟨k3,k4⟩:=pc_mask (y:=y) (s:=a) (by omega) (by omega)
  obtain ⟨m,hm,hm2,ht⟩:=pf_mask hy (a:=a.toNat) (by omega)
  have hbb:m.testBit b.toNat=apt y a b:=by
    have:m.testBit b.toNat=true↔apt y (a.toNat:Int) (b.toNat:Int)=true:=ht b.toNat (by omega)
    rw [show ((a.toNat:Nat):Int)=a by omega,show ((b.toNat:Nat):Int)=b by omega] at this
    rw [Bool.eq_iff_iff];exact this
  rw [lt10 (by omega) (by omega),k3,k4,hm,bit_test m b.toNat (by omega),hbb,decide_eq_true (show (0:Int)≤b by omega)]
  rfl
theorem w_isStay (n:Nat) {y:Yard} (hy:y.ok=true) (s:Stay):D its (n+3) n___pen_pound__isStay [.ref (pc y),ci s.sort,ci s.inn,ci s.out]=some [cb (okStay y s)]:=by
  rw [q___pen_pound__isStay]
  simp [R___pen_pound__isStay,w_has _ hy,okStay,retO_ite]
theorem w_staying_c1 (n:Nat) {y:Yard} (hy:y.ok=true) (s:Stay):D its (n+4) n_pen_staying_c1 [ci s.sort,ci s.inn,ci s.out,.ref [.ref (pc y)]]=some [cb (!okStay y s)]:=by
  rw [q_pen_staying_c1]
  simp [R_pen_staying_c1,w_isStay _ hy,oks,Lf.ok]
theorem v_staying_c1 (M:Den) (p:List CV) (a b c:CV):callV sg M (.fn n_pen_staying_c1 [.ref [.ref p]]) [a,b,c] [.agg [li,li,li]] [.one lb]=M n_pen_staying_c1 [a,b,c,.ref [.ref p]]:=rfl
theorem w_IndexFunc_Stay (n:Nat) (l:List Stay) (f:CV) (p:Stay→Bool) (hl:l.length<9223372036854775807) (hf:∀ x∈l,callV sg (D its n) f [ci x.sort,ci x.inn,ci x.out] [.agg [li,li,li]] [.one lb]=some [cb (p x)]) :
    D its (n+1) n_slices_IndexFunc_Stay [.row 3 (stays l),f]=some [ci (idxI (l.findIdx? p))]:=by
  have hf':∀ i (h:i<l.length),callV sg (D its n) f [ci l[i].sort,ci l[i].inn,ci l[i].out] [.agg [li,li,li]] [.one lb]=some [cb (p l[i])]:=fun i h=>hf _ (List.getElem_mem h)
  rw [q_slices_IndexFunc_Stay]
  unfold R_slices_IndexFunc_Stay
  rw [loop_idx p l (fun i=>some (.ret [ci (i:Int)])) (some (.br 0 [])) (fun i=>[ci (i:Int)]) ?hv ?hR ?hX (fun i hi hp=>?h1) (fun i hi hp=>?h2) ?h3]
  case hv=>rfl
  case hR=>simp
  case hX=>simp
  case h3=>simp
  case h1=>simp [hi,hp,inb_stays,el_stays,scv_oks,hf',wr_nat (show i<9223372036854775807 by omega)]
  case h2=>simp [hi,hp,inb_stays,el_stays,scv_oks,hf']
  · cases l.findIdx? p <;> simp [idxI]
theorem w_ContainsFunc_Stay (n:Nat) (l:List Stay) (f:CV) (p:Stay→Bool) (hl:l.length<9223372036854775807) (hf:∀ x∈l,callV sg (D its n) f [ci x.sort,ci x.inn,ci x.out] [.agg [li,li,li]] [.one lb]=some [cb (p x)]) :
    D its (n+2) n_slices_ContainsFunc_Stay [.row 3 (stays l),f]=some [cb (l.any p)]:=by
  rw [q_slices_ContainsFunc_Stay]
  simp only [R_slices_ContainsFunc_Stay,w_IndexFunc_Stay n l f p hl hf]
  cases hh:l.findIdx? p with
  | some i =>
    have:l.any p=true:=by
      cases hc:l.any p with
      | true=>rfl
      | false=>rw [idx_any.2 hc] at hh;cases hh
    simp [idxI,this]
  | none=>simp [idxI,idx_any.1 hh]
theorem w_staying (n:Nat) (y:Yard) (l:List Stay) (h1:y.pens.length<9223372036854775807) (h2:y.kinds.length<9223372036854775807) (hl:l.length<9223372036854775807) :
    D its (n+7) n_pen_staying [.row 1 y.ps,.row 4 y.ks,.row 3 (stays l)]=some [refIf (staying y l == 0) (pc y),ci (staying y l)]:=by
  rw [q_pen_staying]
  unfold R_pen_staying
  rw [w_CheckYard _ y h1 h2]
  unfold checkYard staying
  cases hy:y.ok with
  | false=>simp [refIf]
  | true =>
    have hc:=w_ContainsFunc_Stay (its:=its) (n+4) l (.fn n_pen_staying_c1 [.ref [.ref (pc y)]]) (fun s=>!okStay y s) hl (fun x _=>by rw [v_staying_c1,w_staying_c1 n hy])
    rw [any_not] at hc
    simp only [if_true,callO_val,gi_z,w_newPound its _ hy,List.getD_cons_zero,cF_ref,il_stays,hc,gb_z]
    by_cases h:l.length≤40
    · have h':((l.length:Int)≤40):=by omega
      have h'':¬40<(l.length:Int):=by omega
      cases ha:l.all (okStay y) <;> simp [staysOk,h,h'',ha,refIf]
    · have h':¬((l.length:Int)≤40):=by omega
      have h'':40<(l.length:Int):=by omega
      simp [staysOk,h,h'',refIf]
theorem staying_ok {y:Yard} {l:List Stay} (h:staying y l=0):y.ok=true∧staysOk y l=true:=by
  unfold staying at h
  cases hy:y.ok with
  | false=>rw [hy] at h;simp at h
  | true =>
    cases hs:staysOk y l with
    | false=>rw [hy,hs] at h;simp at h
    | true=>exact ⟨rfl,rfl⟩
theorem stays_ok {y:Yard} {l:List Stay} (h:staysOk y l=true):l.length≤40∧∀ s∈l,okStay y s=true:=by
  unfold staysOk at h
  simp only [Bool.and_eq_true,List.all_eq_true,decide_eq_true_eq] at h
  exact h
theorem w_there (n:Nat) (l:List Stay) (d:Int) (hl:l.length<1000000):D its (n+1) n_pen_there [.row 3 (stays l),ci d]=some [.row 1 (ints (thereOn l d))]:=by
  rw [q_pen_there]
  unfold R_pen_there
  rw [(loop_foldI l (fun i (_:Unit)=>[ci (i:Int),.row 1 (ints (places (isThere d) (l.take i) 0))]) (fun _ _=>()) (fun _ _=>True) 0 (fun _=>[.row 1 (ints (thereOn l d))]) () ?hv trivial ?hs ?he).1]
  case hv=>rfl
  case hs =>
    intro i hi _ _
    refine ⟨?_,trivial⟩
    have hlt:((i:Int)<(l.length:Int))=True:=eq_true (by omega)
    have hpl:=places_len (isThere d) (l.take i) 0
    have hf:fitA (places (isThere d) (l.take i) 0).length 1 8=true:=fitA_of (by rw [List.length_take] at hpl;omega) (by rw [List.length_take] at hpl;omega)
    rw [← List.take_append_getElem hi,places_snoc]
    have hz:(0:Int)+((l.take i).length:Int)=(i:Int):=by rw [List.length_take];omega
    rw [hz]
    simp only [gi_z,gi_s,il_stays,hlt,decide_true,inb_stays hi,el_stays hi,scv_oks,chk_true,scv0,scv1,scv2,gr_s,gr_z,ints_length,hf,wr_nat (show i<9223372036854775807 by omega),isThere,chunk_s,chunk_z,List.take_succ_cons,List.take_zero,ints_snoc]
    by_cases h1:l[i].inn≤d
    · by_cases h2:l[i].out=-1
      · simp [h1,h2]
      · by_cases h3:d<l[i].out
        · simp [h1,h2,h3]
        · simp [h1,h2,h3]
    · simp [h1]
  case he =>
    intro _ _
    simp [thereOn]
  · simp
theorem w_eaten (n:Nat) {y:Yard} (hy:y.ok=true) {l:List Stay} (hl:staysOk y l=true) {d:Int} (h0:0≤d) (h1:d≤100000) :
    D its (n+1) n___pen_pound__eaten [.ref (pc y),.row 3 (stays l),ci d]=some [ci (eaten y l d)]:=by
  obtain ⟨h40,hok⟩:=stays_ok hl
  rw [q___pen_pound__eaten]
  unfold R___pen_pound__eaten
  rw [(loop_foldI l (fun i (s:Int)=>[ci s,ci (i:Int)]) (fun n s=>n+eats y d s) (fun i s=>0≤s∧s≤300000000*(i:Int)) 0 (fun s=>[ci s]) 0 ?hv ?h0 ?hs ?he).1]
  case hv=>rfl
  case h0=>simp
  case hs =>
    intro i hi s hP
    have hst:=hok _ (List.getElem_mem hi)
    have hr:=eats_range hy hst (d:=d) (by omega) (by omega)
    have hst':=hst
    unfold okStay at hst'
    simp only [Bool.and_eq_true,Bool.or_eq_true,decide_eq_true_eq] at hst'
    have h9:=has_range hy hst'.1.1
    have hin:=hst'.1.2
    simp only [within,Bool.and_eq_true,decide_eq_true_eq] at hin
    have hout:=hst'.2
    simp only [within,Bool.and_eq_true,decide_eq_true_eq] at hout
    obtain ⟨k1,k2⟩:=pc_kind hy (s:=l[i].sort) (by omega) (by omega) (c:=2) (by omega)
    have hlt:((i:Int)<(l.length:Int))=True:=eq_true (by omega)
    have k5:((0:Int)≤l[i].sort)=True:=eq_true (by omega)
    have k7:(l[i].sort<Int.ofNat 10)=True:=eq_true (by show l[i].sort<10;omega)
    have hkey:∀ m:Int,m=(if l[i].out=-1 then d else min d (l[i].out - 1))→wr (max 0 (wr ((wr (m - l[i].inn))+1))*(kd y l[i].sort).eats)=eats y d l[i]:=by
      intro m hm
      have hm2:-1≤m∧m≤100000:=by rw [hm];split <;> omega
      have e1:wr (m - l[i].inn)=m - l[i].inn:=by rw [wr_of] <;> omega
      have e2:wr (m - l[i].inn+1)=m - l[i].inn+1:=by rw [wr_of] <;> omega
      rw [e1,e2]
      have e4:max 0 (m - l[i].inn+1)*(kd y l[i].sort).eats=eats y d l[i]:=by unfold eats;rw [← hm,Int.mul_comm]
      rw [e4,wr_of] <;> omega
    have hw:wr (s+eats y d l[i])=s+eats y d l[i]:=by rw [wr_of] <;> omega
    refine ⟨?_,by omega,by omega⟩
    simp only [gi_z,gi_s,il_stays,hlt,decide_true,inb_stays hi,el_stays hi,scv_oks,chk_true,scv0,scv1,scv2,k5,k7,Bool.and_self,k1,k2,kd_eats,wr_nat (show i<9223372036854775807 by omega)]
    by_cases h2:l[i].out=-1
    · have hb:(l[i].out != -1)=false:=by simp [h2]
      have:=hkey d (by simp [h2])
      simp only [hb,iteB,seqO_nx,gi_z,max_if,this,hw]
    · have hb:(l[i].out != -1)=true:=by simp [h2]
      have e1:wr (l[i].out - 1)=l[i].out - 1:=by rw [wr_of] <;> omega
      have:=hkey (min d (l[i].out - 1)) (by rw [if_neg h2])
      simp only [hb,iteB,seqO_nx,gi_z,e1,max_if,min_if,this,hw]
  case he=>intro s _;simp
  · simp [eaten]
theorem w_Eaten (n:Nat) (y:Yard) (l:List Stay) (d:Int) (h1:y.pens.length<9223372036854775807) (h2:y.kinds.length<9223372036854775807) (hl:l.length<9223372036854775807) :
    D its (n+8) n_pen_Eaten [.row 1 y.ps,.row 4 y.ks,.row 3 (stays l),ci d]=some (if staying y l=0 then (if within d 0 100000=true then [ci (eaten y l d),ci 0] else [ci 0,ci 6]) else [ci 0,ci (staying y l)]):=by
  rw [q_pen_Eaten]
  unfold R_pen_Eaten
  rw [w_staying n y l h1 h2 hl]
  by_cases h:staying y l=0
  · obtain ⟨hy,hs⟩:=staying_ok h
    cases hd:within d 0 100000 with
    | false=>simp [h,hd]
    | true =>
      have hd':=hd
      simp only [within,Bool.and_eq_true,decide_eq_true_eq] at hd'
      simp [h,hd,refIf,w_eaten _ hy hs hd'.1 hd'.2]
  · simp [h]
theorem lastF_loop {f:Int→Bool} {step:List CV→Option Ou} (h1:∀ a b:Int,0≤a→a<b→b≤100000→step [ci a,ci b]=some (.nx (if f ((a+b+1) / 2)=true then [ci ((a+b+1) / 2),ci b] else [ci a,ci ((a+b+1) / 2 - 1)])))
    (h2:∀ a b:Int,¬a<b→step [ci a,ci b]=some (.br 1 [ci a])):∀ (k:Nat) (a b:Int),0≤a→b≤100000→b - a<2 ^ k→loopD step [ci a,ci b]=some (.br 1 [ci (lastF f k a b)])
  | 0,a,b,ha,hb,hk=>by
    have:¬a<b:=by simp at hk;omega
    exact loop_end (h2 a b this) (by simp)
  | k+1,a,b,ha,hb,hk=>by
    simp only [lastF]
    by_cases h:a<b
    · rw [if_pos h,loop_eq (h1 a b ha h hb)]
      have hp:(2:Int) ^ (k+1)=2*2 ^ k:=by rw [Int.pow_succ];omega
      rw [hp] at hk
      split
      · exact lastF_loop h1 h2 k _ _ (by omega) hb (by omega)
      · exact lastF_loop h1 h2 k _ _ ha (by omega) (by omega)
    · rw [if_neg h]
      exact loop_end (h2 a b h) (by simp)
theorem w_Lasts (n:Nat) (y:Yard) (l:List Stay) (d:Int) (h1:y.pens.length<9223372036854775807) (h2:y.kinds.length<9223372036854775807) (hl:l.length<9223372036854775807) :
    D its (n+8) n_pen_Lasts [.row 1 y.ps,.row 4 y.ks,.row 3 (stays l),ci d]=some (if staying y l=0 then (if within d 0 1000000000000=true then (if eaten y l 0 > d then [ci 0,ci 3] else [ci (lasts y l d),ci 0]) else [ci 0,ci 1]) else [ci 0,ci (staying y l)]):=by
  rw [q_pen_Lasts]
  unfold R_pen_Lasts
  rw [w_staying n y l h1 h2 hl]
  by_cases h:staying y l=0
  · obtain ⟨hy,hs⟩:=staying_ok h
    cases hd:within d 0 1000000000000 with
    | false=>simp [h,hd]
    | true =>
      simp only [h,callO_val,gi_z,gi_s,hd,w_in,gb_z,w_eaten _ hy hs (d:=0) (by omega) (by omega),refIf,List.getD_cons_zero,if_true,beq_self_eq_true,isRefC_ref,cF_ref,chk_true]
      have hb:((0:Int) != 0)=false:=rfl
      simp only [hb,Bool.not_true,iteB]
      by_cases h3:eaten y l 0 > d
      · simp [h3]
      · have h3':(eaten y l 0 > d)=False:=eq_false h3
        simp only [h3',decide_false,if_false]
        rw [lastF_loop (f:=fun x=>decide (eaten y l x≤d)) ?_ ?_ 17 0 100000 (by omega) (by omega) (by decide)]
        · rfl
        · intro a b ha hab hb'
          have e1:wr (a+b)=a+b:=by rw [wr_of] <;> omega
          have e2:wr (a+b+1)=a+b+1:=by rw [wr_of] <;> omega
          have e3:Int.tdiv (a+b+1) 2=(a+b+1) / 2:=Int.tdiv_eq_ediv_of_nonneg (by omega)
          have e4:wr ((a+b+1) / 2)=(a+b+1) / 2:=by rw [wr_of] <;> omega
          have e5:wr ((a+b+1) / 2 - 1)=(a+b+1) / 2 - 1:=by rw [wr_of] <;> omega
          have hlt:(a<b)=True:=eq_true hab
          simp only [gi_z,gi_s,hlt,decide_true,e1,e2,e3,e4,e5,w_eaten _ hy hs (d:=(a+b+1) / 2) (by omega) (by omega),callO_val,iteB]
          by_cases hq:eaten y l ((a+b+1) / 2)≤d
          · have hq':=eq_true hq
            simp only [hq',decide_true,seqO_nx,gi_z,gi_s,if_true]
          · have hq':=eq_false hq
            simp only [hq',decide_false,seqO_nx,gi_z,gi_s,Bool.false_eq_true,if_false]
        · intro a b hab
          simp [hab]
  · simp [h]
end Go.Proofs.Ythkfohoccnnphaa
