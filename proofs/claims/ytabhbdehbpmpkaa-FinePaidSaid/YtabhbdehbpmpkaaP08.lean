/-
  Proved: up to the last one of its days the postings for a stay add up to its due, as known then; what other payers paid they got back; no Amount is 0, no two postings have one day, stay, From and To; all Balances add up to 0, and what the lord, the hayward and the driver get is what is paid; conditions: none.
-/
import Derived.KernelRfl
import Derived.Laws.Externs
import Derived.LoopIn
import Derived.LoopNIn
import Derived.OwnWalkIn
import Derived.RangeFuncKeeps
import Derived.RangeFuncLeaves
import Derived.Shelf.Abstract
import Derived.TacticsInMore
import Derived.Test.YtabhbdehbpmpkaaProg
import Derived.WalkKit
import Derived.Test.YtabhbdehbpmpkaaP07
namespace Go.Proofs.Ytabhbdehbpmpkaa
open Go Go.Sx
set_option maxRecDepth 100000
def fe10 : FE := ⟨153, [.tmp 4], .two (.reg [] [1, 2] none []) (.two (.reg [] [1, 2, 5] none []) (.two (.reg [] [1, 5, 6] none []) (.two (.reg [] [5, 6, 7] none []) (.two (.reg [] [5, 6, 7, 8, 9] none []) (.two (.two (.reg [] [] (some ⟨[6, 7, 8], [(42, .lf lb)], [], []⟩) []) (.cond none (.two (.reg [] [4] none []) (.nil)) (.nil))) (.two (.two (.reg [] [6, 7, 8, 10] none []) (.blk ⟨[6, 7, 8], [], [], []⟩ (.lp [] ⟨[6, 7, 8], [(10, .lf li)], [], []⟩ (.two (.two (.reg [] [6, 7, 8, 10, 46] none []) (.cond none (.nil) (.nil))) (.two (.thru (.two (.reg [] [6, 7, 8, 10, 11] none []) (.two (.two (.reg [] [] (some ⟨[6, 7, 8, 10, 11], [(69, .lf lb)], [], []⟩) []) (.cond none (.two (.reg [] [4] none []) (.nil)) (.nil))) (.two (.reg [] [6, 7, 8, 10, 11, 12] none []) (.blk ⟨[6, 7, 8, 10], [], [], []⟩ (.lp [] ⟨[6, 7, 8, 10, 11], [(12, .lf li)], [], []⟩ (.two (.two (.reg [] [6, 7, 8, 10, 11, 12, 72] none []) (.cond none (.nil) (.nil))) (.two (.thru (.two (.reg [] [6, 7, 8, 10, 11, 12, 13] none []) (.two (.reg [] [] (some ⟨[6, 7, 8, 10, 11, 12], [(104, .lf lb)], [], []⟩) []) (.cond none (.two (.reg [] [4] none []) (.nil)) (.nil))))) (.reg [] [6, 7, 8, 10, 11, 12] none []))))))))) (.reg [] [6, 7, 8, 10] none [])))))) (.two (.reg [] [6, 7, 8, 14] none []) (.two (.two (.reg [] [6, 7, 8, 14, 15] none []) (.blk ⟨[6, 7, 8], [(14, .lf li)], [], []⟩ (.lp [] ⟨[6, 7, 8], [(14, .lf li), (15, .lf li)], [], []⟩ (.two (.two (.reg [] [6, 7, 8, 14, 15, 106] none []) (.cond none (.nil) (.nil))) (.two (.thru (.two (.reg [] [6, 7, 8, 14, 15, 16, 17] none []) (.two (.two (.reg [] [6, 7, 8, 14, 15, 16, 117] none []) (.cond none (.two (.reg [] [4] none []) (.nil)) (.nil))) (.reg [] [6, 7, 8, 14, 15] none [])))) (.reg [] [6, 7, 8, 14, 15] none [])))))) (.two (.two (.reg [] [] (some ⟨[6, 7, 8, 14], [(127, .lf lb)], [], []⟩) []) (.cond none (.two (.reg [] [4] none []) (.nil)) (.nil))) (.two (.two (.reg [] [6, 7, 8, 18] none []) (.blk ⟨[], [], [], []⟩ (.lp [] ⟨[6, 7, 8], [(18, .lf li)], [], []⟩ (.two (.two (.reg [] [6, 7, 8, 18, 139] none []) (.cond none (.nil) (.nil))) (.two (.thru (.two (.reg [] [6, 7, 8, 18, 152] none []) (.cond none (.two (.reg [] [4] none []) (.nil)) (.nil)))) (.reg [] [6, 7, 8, 18] none [])))))) (.two (.reg [] [4] none []) (.nil)))))))))))), ⟨[.agg [Lf.row 6, Lf.row 7, Lf.row 6], .one (Lf.row 1)], [.one lb]⟩⟩
def fe12 : FE := ⟨161, [.tmp 0], .two (.reg [] [] none []) (.two (.reg [] [1] none []) (.two (.reg [] [1, 2, 3] none []) (.two (.reg [] [1, 2, 3, 4, 5] none []) (.two (.reg [] [1, 2, 3, 4, 5, 6, 7] none []) (.two (.reg [] [1, 2, 3, 4, 5, 6, 7, 8, 9] none []) (.two (.reg [] [1, 2, 3, 4, 5, 6, 7, 8, 9, 10, 11] none [(some 48, ⟨[], [], [], []⟩, .rt [.fz 0])]) (.two (.reg [] [1, 2, 3, 4, 5, 6, 7, 8, 9, 10, 11, 12, 13] none []) (.two (.reg [] [1, 2, 3, 4, 5, 6, 7, 8, 9, 10, 11, 13, 14, 15] none [(some 60, ⟨[], [], [], []⟩, .rt [.fz 1])]) (.two (.reg [] [1, 2, 3, 4, 5, 6, 7, 8, 9, 10, 11, 13, 14, 15, 16, 17] none []) (.two (.reg [] [1, 2, 3, 4, 5, 6, 7, 8, 9, 10, 11, 13, 14, 15, 16, 17] none []) (.two (.reg [] [2, 3, 4, 5, 6, 7, 8, 9, 10, 11, 13, 14, 15, 16, 17, 18, 19] none []) (.two (.reg [] [] (some ⟨[2, 4, 6, 8, 10, 14, 16, 18], [(20, .lf lb)], [], []⟩) []) (.two (.reg [] [] (some ⟨[4, 8, 10, 14, 16, 20], [(21, .lf lb)], [], []⟩) []) (.two (.reg [] [] (some ⟨[10, 14, 20, 21], [(22, .lf lb)], [], []⟩) []) (.two (.reg [] [14, 20, 21, 22, 23] none []) (.two (.reg [] [0] none []) (.nil))))))))))))))))), ⟨[], [.one lb]⟩⟩
def fe13 : FE := ⟨50, [.cell 4 26, .tmp 5], .two (.reg [] [2, 3, 4] none []) (.two (.two (.reg [] [2, 3, 4, 6] none []) (.two (.reg [] [2, 3, 4, 6, 12] none []) (.cond none (.two (.reg [] [4, 5] none []) (.nil)) (.nil)))) (.two (.reg [] [2, 3, 4, 7, 8] none []) (.two (.thru (.two (.reg [] [] (some ⟨[2, 3, 4, 7], [(22, .lf lb)], [], []⟩) []) (.cond none (.two (.reg [] [4, 5] none []) (.nil)) (.two (.reg [] [2, 3, 4, 7, 30] none []) (.cond none (.two (.reg [] [4, 5] none []) (.nil)) (.nil)))))) (.two (.reg [] [4, 5] none [(some 48, ⟨[], [], [], []⟩, .ins)]) (.nil))))), ⟨[.agg [Lf.row 24, Lf.row 9, Lf.row 7], .agg [li, li, li, li, li, li, li]], [.agg [Lf.row 24, Lf.row 9, Lf.row 7], .one li]⟩⟩
def fe16 : FE := ⟨21, [.tmp 2], .two (.reg [] [1] none []) (.two (.reg [] [1, 3] none []) (.two (.two (.reg [] [] (some ⟨[], [(20, .lf lb)], [], []⟩) []) (.cond none (.two (.reg [] [2] none []) (.nil)) (.nil))) (.two (.reg [] [2] none []) (.nil)))), ⟨[.agg [Lf.row 24, Lf.row 9, Lf.row 7]], [.one li]⟩⟩
def fe18 : FE := ⟨45, [.tmp 2], .two (.reg [] [1] none []) (.two (.two (.reg [] [] (some ⟨[], [(44, .lf lb)], [], []⟩) []) (.cond none (.two (.reg [] [2] none []) (.nil)) (.nil))) (.two (.reg [] [2] none []) (.nil))), ⟨[.agg [li, li, li, li, li, li, li, li, li, li, li, li, li, li, li, li, li, li, li, li, li, li, li, li]], [.one li]⟩⟩
def fe20 : FE := ⟨47, [.tmp 2], .two (.reg [] [1] none []) (.two (.two (.reg [] [] (some ⟨[], [(46, .lf lb)], [], []⟩) []) (.cond none (.two (.reg [] [2] none []) (.nil)) (.nil))) (.two (.reg [] [2] none []) (.nil))), ⟨[.agg [li, li, li, li, li, li, li, li, li]], [.one li]⟩⟩
def fe22 : FE := ⟨53, [.tmp 2], .two (.reg [] [1] none []) (.two (.reg [] [1, 3] none []) (.two (.reg [] [] (some ⟨[1], [(4, .lf lb)], [], []⟩) []) (.two (.two (.reg [] [] (some ⟨[], [(52, .lf lb)], [], []⟩) []) (.cond none (.two (.reg [] [2] none []) (.nil)) (.nil))) (.two (.reg [] [2] none []) (.nil))))), ⟨[.agg [li, li, li, li, li, li, li]], [.one li]⟩⟩
def fe24 : FE := ⟨194, [.cell 2 26], .two (.reg [] [1, 2] none []) (.two (.reg [] [1, 2, 3] none []) (.two (.reg [] [1, 2, 3, 4] none []) (.two (.two (.reg [] [1, 2, 3, 4, 5] none []) (.blk ⟨[1, 2, 3], [], [(2, 26, [.own 2, .own 0, .own 1])], [(0, 32, 9, none), (1, 34, 7, none), (2, 30, 24, none)]⟩ (.lp [.mkb 2 1 32 9, .mkb 2 2 34 7, .mkb 2 0 30 24] ⟨[1, 2, 3], [(4, .lf li), (5, .lf li)], [(2, 26, [.own 2, .own 0, .own 1])], [(0, 32, 9, none), (1, 34, 7, none), (2, 30, 24, none)]⟩ (.two (.two (.reg [] [] (some ⟨[1, 2, 3, 4, 5], [(23, .lf lb)], [], []⟩) []) (.cond none (.nil) (.nil))) (.two (.thru (.two (.reg [] [1, 2, 3, 4, 5, 6] none []) (.two (.reg [] [1, 2, 3, 4, 5, 6, 7] none []) (.two (.two (.reg [] [1, 2, 3, 4, 5, 6, 7, 8] none []) (.blk ⟨[1, 2, 3, 4, 5, 6, 7], [], [(4, 30, [.lf li, .lf li, .lf li, .lf li, .lf li, .lf li, .lf li, .lf li, .lf li, .lf li, .lf li, .lf li, .lf li, .lf li, .lf li, .lf li, .lf li, .lf li, .lf li, .lf li, .lf li, .lf li, .lf li, .lf li])], []⟩ (.lp [] ⟨[1, 2, 3, 4, 5, 6, 7], [(8, .lf li)], [(4, 30, [.lf li, .lf li, .lf li, .lf li, .lf li, .lf li, .lf li, .lf li, .lf li, .lf li, .lf li, .lf li, .lf li, .lf li, .lf li, .lf li, .lf li, .lf li, .lf li, .lf li, .lf li, .lf li, .lf li, .lf li])], []⟩ (.two (.two (.reg [] [1, 2, 3, 4, 5, 6, 7, 8, 43] none []) (.cond none (.nil) (.nil))) (.two (.thru (.two (.reg [] [1, 2, 3, 4, 5, 6, 7, 8] none []) (.reg [] [1, 2, 3, 4, 5, 6, 7, 8] none []))) (.reg [] [1, 2, 3, 4, 5, 6, 7, 8] none [])))))) (.two (.reg [] [1, 2, 3, 4, 5, 6] none []) (.reg [] [1, 2, 3, 4, 5] none [])))))) (.reg [] [1, 2, 3, 4, 5] none [])))))) (.two (.two (.reg [] [1, 2, 3, 9] none []) (.blk ⟨[1, 2, 3], [], [(2, 26, [.own 2, .own 0, .own 1])], [(0, 32, 9, none), (1, 34, 7, none), (2, 30, 24, none)]⟩ (.lp [] ⟨[1, 2, 3], [(9, .lf li)], [(2, 26, [.own 2, .own 0, .own 1])], [(0, 32, 9, none), (1, 34, 7, none), (2, 30, 24, none)]⟩ (.two (.two (.reg [] [] (some ⟨[1, 2, 3, 9], [(82, .lf lb)], [], []⟩) []) (.cond none (.nil) (.nil))) (.two (.thru (.two (.reg [] [1, 2, 3, 9, 10] none []) (.two (.reg [] [1, 2, 3, 9, 10, 11] none []) (.two (.two (.reg [] [1, 2, 3, 9, 10, 11, 119] none []) (.cond (some ⟨[1, 2, 3, 9, 11], [], [(4, 32, [.lf li, .lf li, .lf li, .lf li, .lf li, .lf li, .lf li, .lf li, .lf li])], []⟩) (.reg [] [1, 2, 3, 9, 11] none []) (.nil))) (.reg [] [1, 2, 3, 9] none []))))) (.reg [] [1, 2, 3, 9] none [])))))) (.two (.two (.reg [] [1, 2, 3, 12] none []) (.blk ⟨[2, 3], [], [(2, 26, [.own 2, .own 0, .own 1])], [(0, 32, 9, none), (1, 34, 7, none), (2, 30, 24, none)]⟩ (.lp [] ⟨[1, 2, 3], [(12, .lf li)], [(2, 26, [.own 2, .own 0, .own 1])], [(0, 32, 9, none), (1, 34, 7, none), (2, 30, 24, none)]⟩ (.two (.two (.reg [] [] (some ⟨[1, 2, 3, 12], [(142, .lf lb)], [], []⟩) []) (.cond none (.nil) (.nil))) (.two (.thru (.two (.reg [] [1, 2, 3, 12, 13] none []) (.two (.reg [] [1, 2, 3, 12, 13, 14] none []) (.two (.two (.reg [] [1, 2, 3, 12, 13, 14, 169] none []) (.cond (some ⟨[1, 2, 3, 12, 13, 14], [], [(4, 34, [.lf li, .lf li, .lf li, .lf li, .lf li, .lf li, .lf li])], []⟩) (.reg [] [1, 2, 3, 12, 13, 14] none []) (.nil))) (.two (.two (.reg [] [1, 2, 3, 12, 13, 14, 178] none []) (.cond (some ⟨[1, 2, 3, 12, 14], [], [(4, 34, [.lf li, .lf li, .lf li, .lf li, .lf li, .lf li, .lf li])], []⟩) (.reg [] [1, 2, 3, 12, 14] none []) (.nil))) (.reg [] [1, 2, 3, 12] none [])))))) (.reg [] [1, 2, 3, 12] none [])))))) (.two (.reg [] [2] none []) (.nil))))))), ⟨[.agg [Lf.row 6, Lf.row 7, Lf.row 6]], [.agg [Lf.row 24, Lf.row 9, Lf.row 7]]⟩⟩
def fe25 : FE := ⟨12, [.tmp 4], .two (.reg [] [0, 1] none []) (.two (.reg [] [4] none []) (.nil)), ⟨[.one li, .one li], [.one li]⟩⟩
def fe26 : FE := ⟨25, [.cell 6 55, .tmp 7], .two (.reg [] [1, 2, 3, 6] none []) (.two (.reg [] [2, 3, 6, 8, 9] none []) (.two (.two (.reg [] [2, 3, 6, 8, 9, 18] none []) (.cond none (.two (.reg [] [6, 7] none []) (.nil)) (.nil))) (.two (.reg [] [6, 7] none []) (.nil)))), ⟨[.agg [Lf.row 24, Lf.row 9, Lf.row 7], .one li, .one li], [.agg [li, li, li, li], .one li]⟩⟩
def fe27 : FE := ⟨29, [.cell 6 59, .tmp 7], .two (.reg [] [1, 2, 3, 6] none []) (.two (.reg [] [2, 3, 6, 8, 9] none []) (.two (.two (.reg [] [2, 3, 6, 8, 9, 18] none []) (.cond none (.two (.reg [] [6, 7] none []) (.nil)) (.nil))) (.two (.reg [] [6, 7] none []) (.nil)))), ⟨[.agg [Lf.row 24, Lf.row 9, Lf.row 7], .one li, .one li], [.agg [li, li, li], .one li]⟩⟩
def fe28 : FE := ⟨25, [.cell 6 64, .tmp 7], .two (.reg [] [1, 2, 3, 6] none []) (.two (.reg [] [2, 3, 6, 8, 9] none []) (.two (.two (.reg [] [2, 3, 6, 8, 9, 18] none []) (.cond none (.two (.reg [] [6, 7] none []) (.nil)) (.nil))) (.two (.reg [] [6, 7] none []) (.nil)))), ⟨[.agg [Lf.row 24, Lf.row 9, Lf.row 7], .one li, .one li], [.agg [li, li, li, li], .one li]⟩⟩
def fe36 : FE := ⟨18, [.tmp 4], .two (.reg [] [0, 1] none []) (.two (.two (.reg [] [0, 1, 5] none []) (.blk ⟨[], [], [], []⟩ (.lp [] ⟨[0, 1], [(5, .lf li)], [], []⟩ (.two (.two (.reg [] [0, 1, 5, 9] none []) (.cond none (.nil) (.nil))) (.two (.thru (.two (.reg [] [0, 1, 5, 17] none []) (.cond none (.two (.reg [] [4] none []) (.nil)) (.nil)))) (.reg [] [0, 1, 5] none [])))))) (.two (.reg [] [4] none []) (.nil))), ⟨[.one (Lf.row 1), .one li], [.one lb]⟩⟩
def fe44 : FE := ⟨18, [.tmp 4, .tmp 5], .two (.reg [] [1, 2] none []) (.two (.two (.reg [] [1, 2, 6] none []) (.two (.reg [] [1, 2, 6, 10] none []) (.cond none (.two (.reg [] [4, 5] none []) (.nil)) (.nil)))) (.two (.two (.reg [] [1, 2, 14] none []) (.cond none (.two (.reg [] [4, 5] none []) (.nil)) (.nil))) (.two (.reg [] [4, 5] none []) (.nil)))), ⟨[.agg [Lf.row 24, Lf.row 9, Lf.row 7], .one (Lf.row 1)], [.one (Lf.row 5), .one li]⟩⟩
def fe46 : FE := ⟨49, [.tmp 6, .tmp 7], .two (.reg [] [1, 2, 3] none []) (.two (.reg [] [2, 8, 9] none []) (.two (.two (.reg [] [2, 8, 9, 20] none []) (.cond none (.two (.reg [] [6, 7] none []) (.nil)) (.nil))) (.two (.two (.reg [] [2, 8, 24] none []) (.cond none (.two (.reg [] [6, 7] none []) (.nil)) (.nil))) (.two (.reg [] [2, 8, 10] none []) (.two (.two (.reg [] [2, 10, 25, 26, 27] none []) (.blk ⟨[], [(10, .lf li)], [], []⟩ (.lp [] ⟨[2, 25, 26], [(10, .lf li), (27, .lf li)], [], []⟩ (.two (.reg [] [2, 10, 25, 26, 27, 28] none []) (.two (.cond none (.nil) (.nil)) (.two (.thru (.two (.reg [] [2, 10, 12, 25, 26, 27] none []) (.two (.two (.reg [] [2, 10, 12, 25, 26, 27, 34] none []) (.cond (some ⟨[2, 12, 25, 26, 27], [(10, .lf li)], [], []⟩) (.reg [] [2, 10, 12, 25, 26, 27] none []) (.nil))) (.two (.reg [] [2, 10, 12, 25, 26, 27, 42] none []) (.cond (some ⟨[2, 25, 26, 27], [(10, .lf li)], [], []⟩) (.reg [] [2, 10, 25, 26, 27] none []) (.nil)))))) (.reg [] [2, 10, 25, 26, 27] none []))))))) (.two (.reg [] [6, 7] none []) (.nil))))))), ⟨[.agg [Lf.row 24, Lf.row 9, Lf.row 7], .one (Lf.row 1), .one li], [.one li, .one li]⟩⟩
def fe48 : FE := ⟨31, [.tmp 4], .two (.reg [] [0, 1] none []) (.two (.reg [] [0, 1, 5] none []) (.two (.two (.reg [] [0, 1, 5, 6] none []) (.blk ⟨[], [(5, .lf lb)], [], []⟩ (.lp [] ⟨[0, 1], [(5, .lf lb), (6, .lf li)], [], []⟩ (.two (.two (.reg [] [] (some ⟨[0, 1, 5, 6], [(18, .lf lb)], [], []⟩) []) (.cond none (.nil) (.nil))) (.two (.thru (.reg [] [0, 1, 5, 6] none [])) (.reg [] [0, 1, 5, 6] none [])))))) (.two (.reg [] [4] none []) (.nil)))), ⟨[.one (Lf.row 5), .one (Lf.row 5)], [.one lb]⟩⟩
def fe49 : FE := ⟨24, [.tmp 6], .two (.reg [] [1, 2, 3] none []) (.two (.reg [] [2, 7, 8] none []) (.two (.thru (.two (.reg [] [2, 7, 8, 15] none []) (.cond none (.two (.reg [] [6] none []) (.nil)) (.two (.reg [] [19] none []) (.cond none (.two (.reg [] [6] none []) (.nil)) (.nil)))))) (.two (.reg [] [6] none []) (.nil)))), ⟨[.agg [Lf.row 24, Lf.row 9, Lf.row 7], .one (Lf.row 1), .one (Lf.row 5)], [.one li]⟩⟩
def fe51 : FE := ⟨29, [.tmp 2], .two (.reg [] [0] none []) (.two (.reg [] [0, 3] none []) (.two (.reg [] [0, 3, 4] none []) (.two (.two (.reg [] [0, 3, 4, 5] none []) (.blk ⟨[], [(3, .own 0)], [], [(0, 3, 1, none)]⟩ (.lp [.mk 3 3 1] ⟨[0], [(3, .own 0), (4, .lf li), (5, .lf li)], [], [(0, 3, 1, none)]⟩ (.two (.two (.reg [] [] (some ⟨[0, 3, 4, 5], [(13, .lf lb)], [], []⟩) []) (.cond none (.nil) (.nil))) (.two (.thru (.two (.reg [] [0, 3, 4, 5] none []) (.reg [] [0, 3, 4, 5] none []))) (.reg [] [0, 3, 4, 5] none [])))))) (.two (.reg [] [2] none []) (.nil))))), ⟨[.one (Lf.row 1)], [.one (Lf.row 1)]⟩⟩
def fe52 : FE := ⟨112, [.tmp 8], .two (.reg [] [3, 4, 5, 6] none []) (.two (.reg [] [3, 4, 5, 9] none []) (.two (.reg [] [3, 5, 10, 11] none []) (.two (.two (.reg [] [3, 5, 10, 11, 34] none []) (.cond (some ⟨[3, 5, 10], [], [(3, 64, [.lf li, .lf li, .lf li, .lf li])], []⟩) (.reg [] [3, 5, 10] none []) (.two (.reg [] [3, 5, 10, 37] none []) (.cond none (.two (.reg [] [8] none []) (.nil)) (.nil))))) (.two (.two (.reg [] [3, 5, 10, 12] none []) (.blk ⟨[], [], [], []⟩ (.lp [] ⟨[3, 5, 10], [(12, .lf li)], [], []⟩ (.two (.two (.reg [] [3, 5, 10, 12, 39] none []) (.cond none (.nil) (.nil))) (.two (.thru (.two (.reg [] [3, 5, 10, 12, 13] none []) (.two (.two (.reg [] [3, 5, 10, 12, 13, 14] none []) (.blk ⟨[3, 5, 10, 12, 13], [], [(4, 137, [.lf li, .lf li, .lf li])], []⟩ (.lp [] ⟨[3, 5, 10, 12, 13], [(14, .lf li)], [(4, 137, [.lf li, .lf li, .lf li])], []⟩ (.two (.two (.reg [] [3, 5, 10, 12, 13, 14, 45] none []) (.cond none (.nil) (.nil))) (.two (.blk ⟨[3, 5, 10, 12, 13, 14], [], [(4, 137, [.lf li, .lf li, .lf li])], []⟩ (.two (.reg [] [3, 5, 10, 12, 13, 14, 15] none []) (.two (.two (.reg [] [] (some ⟨[3, 5, 10, 12, 13, 14, 15], [(62, .lf lb)], [], []⟩) []) (.cond none (.nil) (.nil))) (.two (.reg [] [3, 5, 10, 12, 13, 14, 15, 64] none []) (.thru (.two (.reg [] [3, 5, 10, 12, 13, 14, 15, 64, 65] none []) (.cond (some ⟨[3, 5, 10, 12, 13, 14], [], [(4, 137, [.lf li, .lf li, .lf li])], []⟩) (.reg [] [3, 5, 10, 12, 13, 14] none []) (.two (.reg [] [3, 5, 10, 12, 13, 14, 15, 64, 73] none []) (.cond (some ⟨[3, 5, 10, 12, 13, 14], [], [(4, 137, [.lf li, .lf li, .lf li])], []⟩) (.reg [] [3, 5, 10, 12, 13, 14] none []) (.two (.reg [] [3, 5, 10, 12, 13, 14, 15, 81] none []) (.cond none (.reg [] [3, 5, 10, 12, 13, 14] none []) (.two (.reg [] [8] none []) (.nil))))))))))))) (.reg [] [3, 5, 10, 12, 13, 14] none [])))))) (.two (.reg [] [3, 5, 10, 12, 13, 16] none []) (.two (.two (.reg [] [3, 5, 10, 12, 13, 16, 95] none []) (.cond (some ⟨[3, 5, 10, 12, 13, 16], [], [(5, 137, [.lf li, .lf li, .lf li])], []⟩) (.reg [] [3, 5, 10, 12, 13, 16] none []) (.nil))) (.two (.two (.reg [] [3, 5, 10, 12, 13, 16, 107] none []) (.cond (some ⟨[3, 5, 10, 12, 13, 16], [], [(5, 137, [.lf li, .lf li, .lf li])], []⟩) (.reg [] [3, 5, 10, 12, 13, 16] none []) (.nil))) (.two (.reg [] [3, 5, 10, 12, 111] none []) (.cond none (.two (.reg [] [8] none []) (.nil)) (.nil))))))))) (.reg [] [3, 5, 10, 12] none [])))))) (.two (.reg [] [8] none []) (.nil)))))), ⟨[.agg [Lf.row 24, Lf.row 9, Lf.row 7], .agg [li, li, li, li, li, li, li, li, li], .agg [Lf.row 1, Lf.row 1], .one (Lf.row 5)], [.one lb]⟩⟩
def fe55 : FE := ⟨11, [.cell 0 26], .two (.reg [] [0] none []) (.two (.reg [] [0] none []) (.nil)), ⟨[], [.agg [Lf.row 24, Lf.row 9, Lf.row 7]]⟩⟩
def fe56 : FE := ⟨53, [.tmp 6, .tmp 7], .two (.reg [] [1, 2, 3] none []) (.two (.two (.reg [] [1, 2, 3, 8] none []) (.two (.reg [] [1, 2, 3, 8, 16] none []) (.cond none (.two (.reg [] [6, 7] none []) (.nil)) (.nil)))) (.two (.two (.reg [] [1, 2, 3, 20] none []) (.cond none (.two (.reg [] [6, 7] none []) (.nil)) (.nil))) (.two (.two (.reg [] [1, 2, 3, 23] none []) (.cond none (.two (.reg [] [6, 7] none []) (.nil)) (.nil))) (.two (.reg [] [1, 2, 3, 9] none []) (.two (.two (.reg [] [1, 2, 3, 9, 26, 27, 28] none []) (.blk ⟨[], [(9, .lf li)], [], []⟩ (.lp [] ⟨[1, 2, 3, 26, 27], [(9, .lf li), (28, .lf li)], [], []⟩ (.two (.reg [] [1, 2, 3, 9, 26, 27, 28, 29] none []) (.two (.cond none (.nil) (.nil)) (.two (.thru (.two (.reg [] [1, 2, 3, 9, 11, 26, 27, 28] none []) (.two (.reg [] [1, 2, 3, 9, 12, 26, 27, 28] none []) (.two (.reg [] [1, 2, 3, 9, 12, 26, 27, 28, 40] none []) (.cond (some ⟨[1, 2, 3, 26, 27, 28], [(9, .lf li)], [], []⟩) (.reg [] [1, 2, 3, 9, 26, 27, 28] none []) (.nil)))))) (.reg [] [1, 2, 3, 9, 26, 27, 28] none []))))))) (.two (.reg [] [6, 7] none []) (.nil))))))), ⟨[.agg [Lf.row 24, Lf.row 9, Lf.row 7], .one li, .one li], [.one li, .one li]⟩⟩
def fe57 : FE := ⟨49, [.tmp 6, .tmp 7], .two (.reg [] [0, 2, 4] none []) (.two (.reg [] [0, 2, 4, 8] none []) (.two (.reg [] [0, 2, 4, 8, 9, 10] none []) (.two (.blk ⟨[0, 2, 4, 8], [(9, .lf li)], [], []⟩ (.lp [] ⟨[0, 2, 4, 8], [(9, .lf li), (10, .lf li)], [], []⟩ (.two (.two (.reg [] [0, 2, 4, 8, 9, 10, 17] none []) (.cond none (.nil) (.nil))) (.thru (.two (.reg [] [0, 2, 4, 8, 9, 10, 11] none []) (.two (.reg [] [0, 2, 4, 8, 9, 10, 11, 31] none []) (.cond (some ⟨[0, 2, 4, 8], [(9, .lf li), (10, .lf li)], [], []⟩) (.reg [] [0, 2, 4, 8, 9, 10] none []) (.reg [] [0, 2, 4, 8, 9, 10] none [])))))))) (.two (.reg [] [6, 7] none []) (.nil))))), ⟨[.one (Lf.row 7), .agg [li, li, li, li, li, li, li], .one Lf.raw], [.one li, .one lb]⟩⟩
def fe58 : FE := ⟨10, [.tmp 4], .two (.reg [] [2, 3] none []) (.two (.reg [] [4] none []) (.nil)), ⟨[.agg [li, li, li, li, li, li, li], .agg [li, li, li, li, li, li, li]], [.one li]⟩⟩
def fe59 : FE := ⟨20, [.tmp 4], .two (.reg [] [0, 1] none []) (.two (.reg [] [0, 1, 5] none []) (.two (.reg [] [0, 1, 5, 6] none []) (.two (.two (.reg [] [0, 1, 6, 11] none []) (.cond none (.two (.two (.reg [] [12] none []) (.cond none (.two (.reg [] [4] none []) (.nil)) (.nil))) (.two (.reg [] [4] none []) (.nil))) (.nil))) (.two (.two (.reg [] [0, 1, 13] none []) (.cond none (.two (.reg [] [4] none []) (.nil)) (.nil))) (.two (.two (.reg [] [0, 1, 16] none []) (.cond none (.two (.reg [] [4] none []) (.nil)) (.nil))) (.two (.two (.reg [] [19] none []) (.cond none (.two (.reg [] [4] none []) (.nil)) (.nil))) (.two (.reg [] [4] none []) (.nil)))))))), ⟨[.one li, .one li], [.one li]⟩⟩
def fe60 : FE := ⟨8, [.tmp 2], .two (.reg [] [0] none []) (.two (.two (.reg [] [0, 4] none []) (.cond none (.two (.reg [] [2] none []) (.nil)) (.nil))) (.two (.reg [] [2] none []) (.nil))), ⟨[.one (Lf.row 24)], [.one (Lf.row 24)]⟩⟩
def fe61 : FE := ⟨8, [.tmp 2], .two (.reg [] [0] none []) (.two (.two (.reg [] [0, 4] none []) (.cond none (.two (.reg [] [2] none []) (.nil)) (.nil))) (.two (.reg [] [2] none []) (.nil))), ⟨[.one (Lf.row 9)], [.one (Lf.row 9)]⟩⟩
def fe65 : FE := ⟨44, [.tmp 8], .two (.reg [] [0, 1, 2, 3] none []) (.two (.two (.reg [] [0, 1, 2, 3, 11, 12, 13] none []) (.blk ⟨[0, 1], [], [], []⟩ (.lp [] ⟨[0, 1, 2, 3, 11, 12], [(13, .lf li)], [], []⟩ (.two (.reg [] [0, 1, 2, 3, 11, 12, 13, 14] none []) (.two (.cond none (.nil) (.nil)) (.two (.thru (.two (.reg [] [0, 1, 2, 3, 9, 10, 11, 12, 13] none []) (.two (.reg [] [] (some ⟨[0, 1, 2, 3, 11, 12, 13], [(38, .lf lb)], [], []⟩) []) (.cond none (.two (.reg [] [8] none []) (.nil)) (.nil))))) (.reg [] [0, 1, 2, 3, 11, 12, 13] none []))))))) (.two (.reg [] [8] none []) (.nil))), ⟨[.one (Lf.row 24), .one li, .one Lf.raw, .one Lf.raw], [.one lb]⟩⟩
def fe66 : FE := ⟨5, [.tmp 2], .two (.reg [] [1] none []) (.two (.reg [] [2] none []) (.nil)), ⟨[.agg [li, li, li, li, li, li, li, li, li, li, li, li, li, li, li, li, li, li, li, li, li, li, li, li]], [.one li]⟩⟩
def fe67 : FE := ⟨44, [.tmp 8], .two (.reg [] [0, 1, 2, 3] none []) (.two (.two (.reg [] [0, 1, 2, 3, 11, 12, 13] none []) (.blk ⟨[0, 1], [], [], []⟩ (.lp [] ⟨[0, 1, 2, 3, 11, 12], [(13, .lf li)], [], []⟩ (.two (.reg [] [0, 1, 2, 3, 11, 12, 13, 14] none []) (.two (.cond none (.nil) (.nil)) (.two (.thru (.two (.reg [] [0, 1, 2, 3, 9, 10, 11, 12, 13] none []) (.two (.reg [] [] (some ⟨[0, 1, 2, 3, 11, 12, 13], [(38, .lf lb)], [], []⟩) []) (.cond none (.two (.reg [] [8] none []) (.nil)) (.nil))))) (.reg [] [0, 1, 2, 3, 11, 12, 13] none []))))))) (.two (.reg [] [8] none []) (.nil))), ⟨[.one (Lf.row 9), .one li, .one Lf.raw, .one Lf.raw], [.one lb]⟩⟩
def fe68 : FE := ⟨5, [.tmp 2], .two (.reg [] [1] none []) (.two (.reg [] [2] none []) (.nil)), ⟨[.agg [li, li, li, li, li, li, li, li, li]], [.one li]⟩⟩
def fe69 : FE := ⟨44, [.tmp 8], .two (.reg [] [0, 1, 2, 3] none []) (.two (.two (.reg [] [0, 1, 2, 3, 11, 12, 13] none []) (.blk ⟨[0, 1], [], [], []⟩ (.lp [] ⟨[0, 1, 2, 3, 11, 12], [(13, .lf li)], [], []⟩ (.two (.reg [] [0, 1, 2, 3, 11, 12, 13, 14] none []) (.two (.cond none (.nil) (.nil)) (.two (.thru (.two (.reg [] [0, 1, 2, 3, 9, 10, 11, 12, 13] none []) (.two (.reg [] [] (some ⟨[0, 1, 2, 3, 11, 12, 13], [(38, .lf lb)], [], []⟩) []) (.cond none (.two (.reg [] [8] none []) (.nil)) (.nil))))) (.reg [] [0, 1, 2, 3, 11, 12, 13] none []))))))) (.two (.reg [] [8] none []) (.nil))), ⟨[.one (Lf.row 7), .one li, .one Lf.raw, .one Lf.raw], [.one lb]⟩⟩
def fe70 : FE := ⟨5, [.tmp 2], .two (.reg [] [1] none []) (.two (.reg [] [2] none []) (.nil)), ⟨[.agg [li, li, li, li, li, li, li]], [.one li]⟩⟩
def fe71 : FE := ⟨5, [.tmp 2], .two (.reg [] [0] none []) (.two (.reg [] [2] none []) (.nil)), ⟨[.one li], [.one lb]⟩⟩
def fe72 : FE := ⟨11, [.tmp 2], .two (.reg [] [1] none []) (.two (.reg [.fb 0] [2] none []) (.nil)), ⟨[.agg [li, li, li, li, li, li, li, li, li, li]], [.one lb]⟩⟩
def fe73 : FE := ⟨15, [.tmp 6], .two (.reg [] [0, 1, 2] none []) (.two (.reg [] [6] none []) (.nil)), ⟨[.one li, .one li, .one li], [.one lb]⟩⟩
def fe76 : FE := ⟨26, [.tmp 6], .two (.reg [] [0, 1, 2] none []) (.two (.reg [] [6] none []) (.nil)), ⟨[.one li, .one li, .one li], [.one lb]⟩⟩
def fe78 : FE := ⟨34, [.cell 6 32, .tmp 7], .two (.reg [] [1, 2, 3, 6] none []) (.two (.two (.reg [] [1, 2, 3, 6, 8] none []) (.two (.reg [] [1, 2, 3, 6, 8, 16] none []) (.cond none (.two (.reg [] [6, 7] none []) (.nil)) (.nil)))) (.two (.two (.reg [] [1, 6, 21, 22, 23] none []) (.blk ⟨[6], [], [(1, 32, [.lf li, .lf li, .lf li, .lf li, .lf li, .lf li, .lf li, .lf li, .lf li])], []⟩ (.lp [] ⟨[1, 6, 21, 22], [(23, .lf li)], [(1, 32, [.lf li, .lf li, .lf li, .lf li, .lf li, .lf li, .lf li, .lf li, .lf li])], []⟩ (.two (.reg [] [1, 6, 21, 22, 23, 24] none []) (.two (.cond none (.nil) (.nil)) (.two (.thru (.two (.reg [] [1, 6, 10, 21, 22, 23] none []) (.two (.reg [] [1, 6, 10, 21, 22, 23, 30] none []) (.cond none (.two (.reg [] [6, 7] none []) (.nil)) (.nil))))) (.reg [] [1, 6, 21, 22, 23] none []))))))) (.two (.reg [] [6, 7] none []) (.nil)))), ⟨[.agg [Lf.row 24, Lf.row 9, Lf.row 7], .one li, .one li], [.agg [li, li, li, li, li, li, li, li, li], .one li]⟩⟩
def fe79 : FE := ⟨110, [.cell 6 55], .two (.reg [] [2, 3, 4, 6] none []) (.two (.reg [] [2, 3, 4, 6, 7] none []) (.two (.reg [] [2, 3, 4, 6, 7, 8, 9] none []) (.two (.reg [] [2, 3, 4, 6, 7, 9, 10] none []) (.two (.reg [] [2, 3, 4, 6, 7, 9, 10, 11] none []) (.two (.two (.reg [] [2, 3, 4, 6, 7, 9, 10, 11, 29] none []) (.blk ⟨[2, 3, 4, 6, 7, 9, 10, 11], [], [(4, 146, [.lf li, .lf li, .lf li, .lf li, .lf li])], []⟩ (.lp [] ⟨[2, 3, 4, 6, 7, 9, 10, 11], [(29, .lf li)], [(4, 146, [.lf li, .lf li, .lf li, .lf li, .lf li])], []⟩ (.two (.reg [] [2, 3, 4, 6, 7, 9, 10, 11, 29, 30] none []) (.two (.cond none (.nil) (.nil)) (.two (.thru (.two (.reg [] [2, 3, 4, 6, 7, 9, 10, 11, 12, 29] none []) (.reg [] [2, 3, 4, 6, 7, 9, 10, 11, 29] none []))) (.reg [] [2, 3, 4, 6, 7, 9, 10, 11, 29] none []))))))) (.two (.two (.reg [] [2, 3, 4, 6, 9, 10, 11, 35, 36, 37] none []) (.blk ⟨[2, 3, 4, 6, 9, 10, 11], [], [(4, 146, [.lf li, .lf li, .lf li, .lf li, .lf li])], []⟩ (.lp [] ⟨[2, 3, 4, 6, 9, 10, 11, 35, 36], [(37, .lf li)], [(4, 146, [.lf li, .lf li, .lf li, .lf li, .lf li])], []⟩ (.two (.reg [] [2, 3, 4, 6, 9, 10, 11, 35, 36, 37, 38] none []) (.two (.cond none (.nil) (.nil)) (.two (.thru (.two (.reg [] [2, 3, 4, 6, 9, 10, 11, 14, 35, 36, 37] none []) (.two (.reg [] [] (some ⟨[2, 3, 4, 6, 9, 10, 11, 14, 35, 36, 37], [(55, .lf lb)], [], []⟩) []) (.cond (some ⟨[2, 3, 4, 6, 9, 10, 11, 35, 36, 37], [], [(4, 146, [.lf li, .lf li, .lf li, .lf li, .lf li])], []⟩) (.reg [] [2, 3, 4, 6, 9, 10, 11, 35, 36, 37] none []) (.nil))))) (.reg [] [2, 3, 4, 6, 9, 10, 11, 35, 36, 37] none []))))))) (.two (.reg [] [2, 4, 6, 9, 10, 11] none []) (.two (.two (.reg [] [] (some ⟨[2, 4, 6, 10, 11], [(73, .lf lb)], [], []⟩) []) (.cond (some ⟨[2, 4, 6, 10, 11], [], [(4, 146, [.lf li, .lf li, .lf li, .lf li, .lf li])], []⟩) (.reg [] [2, 4, 6, 10, 11] none []) (.nil))) (.two (.reg [] [2, 6, 10, 11] none []) (.two (.nil) (.two (.two (.reg [] [2, 6, 10, 83, 84] none []) (.blk ⟨[6, 10], [], [(3, 55, [.lf li, .lf li, .lf li, .lf li])], []⟩ (.lp [] ⟨[2, 6, 10, 83], [(84, .lf li)], [(3, 55, [.lf li, .lf li, .lf li, .lf li])], []⟩ (.two (.reg [] [2, 6, 10, 83, 84, 85] none []) (.two (.cond none (.nil) (.nil)) (.two (.blk ⟨[2, 6, 10, 83, 84], [], [(3, 55, [.lf li, .lf li, .lf li, .lf li])], []⟩ (.two (.reg [] [2, 6, 10, 15, 16, 83, 84] none []) (.two (.two (.reg [] [] (some ⟨[2, 6, 10, 15, 16, 83, 84], [(94, .lf lb)], [], []⟩) []) (.cond none (.nil) (.nil))) (.two (.reg [] [] (some ⟨[2, 6, 10, 15, 16, 83, 84], [(103, .lf lb)], [], []⟩) []) (.cond (some ⟨[2, 6, 10, 83, 84], [], [(3, 55, [.lf li, .lf li, .lf li, .lf li])], []⟩) (.reg [] [2, 6, 10, 83, 84] none []) (.nil)))))) (.reg [] [2, 6, 10, 83, 84] none []))))))) (.two (.reg [] [6] none []) (.nil))))))))))))), ⟨[.agg [Lf.row 24, Lf.row 9, Lf.row 7], .agg [li, li, li, li, li, li, li, li, li], .one li], [.agg [li, li, li, li]]⟩⟩
def fe80 : FE := ⟨70, [.cell 8 59], .two (.reg [] [3, 4, 5, 6, 8] none []) (.two (.reg [] [3, 4, 5, 6, 8, 9] none []) (.two (.two (.reg [] [3, 4, 5, 6, 8, 9, 18] none []) (.cond (some ⟨[3, 4, 5, 6, 8, 9], [], [(4, 59, [.lf li, .lf li, .lf li])], []⟩) (.two (.reg [] [3, 4, 5, 6, 8, 9, 10] none []) (.reg [] [3, 4, 5, 6, 8, 9] none [])) (.nil))) (.two (.two (.reg [] [4, 5, 6, 8, 9, 35] none []) (.thru (.lp [] ⟨[4, 5, 6, 8, 9, 35], [], [(4, 59, [.lf li, .lf li, .lf li])], []⟩ (.thru (.two (.reg [] [4, 5, 6, 9, 12, 13] none []) (.two (.reg [] [5, 6, 9, 12, 13] none []) (.two (.reg [] [] (some ⟨[5, 9, 13], [(59, .lf lb)], [], []⟩) []) (.cond (some ⟨[], [], [(4, 59, [.lf li, .lf li, .lf li])], []⟩) (.reg [] [] none []) (.nil))))))))) (.two (.reg [] [8] none []) (.nil))))), ⟨[.agg [Lf.row 24, Lf.row 9, Lf.row 7], .agg [li, li, li, li, li, li, li, li, li], .agg [li, li, li, li], .one li], [.agg [li, li, li]]⟩⟩
def fe81 : FE := ⟨82, [.cell 6 64], .two (.reg [] [2, 3, 4, 6] none []) (.two (.reg [] [2, 3, 4, 6, 7] none []) (.two (.reg [] [3, 4, 6, 7, 8] none []) (.two (.reg [] [3, 4, 6, 7, 8, 9, 10] none []) (.two (.thru (.two (.reg [] [3, 4, 6, 7, 8, 9, 10, 23] none []) (.cond (some ⟨[3, 4, 6], [(9, .lf li), (10, .lf li)], [], []⟩) (.reg [] [3, 4, 6, 9, 10] none []) (.two (.reg [] [] (some ⟨[3, 4, 6, 7, 8, 9, 10], [(29, .lf lb)], [], []⟩) []) (.cond (some ⟨[3, 4, 6], [(9, .lf li), (10, .lf li)], [], []⟩) (.reg [] [3, 4, 6, 9, 10] none []) (.nil)))))) (.two (.reg [] [3, 4, 6, 10, 11] none []) (.two (.reg [] [4, 6, 10, 11, 12] none []) (.two (.reg [] [4, 6, 10, 11, 12] none []) (.two (.two (.reg [] [6, 10, 11, 12, 66] none []) (.cond (some ⟨[6, 10, 11], [], [(5, 64, [.lf li, .lf li, .lf li, .lf li])], []⟩) (.reg [] [6, 10, 11] none []) (.nil))) (.two (.reg [] [6, 11] none []) (.two (.reg [] [6] none []) (.nil))))))))))), ⟨[.agg [Lf.row 24, Lf.row 9, Lf.row 7], .agg [li, li, li, li, li, li, li, li, li], .one li], [.agg [li, li, li, li]]⟩⟩
def fe84 : FE := ⟨26, [.tmp 6], .two (.reg [] [2, 3, 4] none []) (.two (.reg [] [3, 4, 7] none []) (.two (.thru (.two (.reg [] [3, 4, 7, 9] none []) (.cond (some ⟨[3], [(7, .lf li)], [], []⟩) (.reg [] [3, 7] none []) (.two (.reg [] [3, 4, 7, 15] none []) (.cond (some ⟨[3], [(7, .lf li)], [], []⟩) (.reg [] [3, 7] none []) (.nil)))))) (.two (.reg [] [6] none []) (.nil)))), ⟨[.agg [li, li, li, li, li, li, li, li, li], .agg [li, li, li, li], .one li], [.one Lf.raw]⟩⟩
def fe88 : FE := ⟨13, [.tmp 4], .two (.reg [] [1, 2] none []) (.two (.two (.reg [] [1, 5] none []) (.two (.reg [] [1, 5, 9] none []) (.cond none (.two (.reg [] [4] none []) (.nil)) (.nil)))) (.two (.two (.reg [] [12] none []) (.cond none (.two (.reg [] [4] none []) (.nil)) (.nil))) (.two (.reg [] [4] none []) (.nil)))), ⟨[.agg [Lf.row 24, Lf.row 9, Lf.row 7], .one (Lf.row 1)], [.one li]⟩⟩
def fe92 : FE := ⟨10, [.tmp 4], .two (.reg [] [2, 3] none []) (.two (.reg [] [4] none [(some 7, ⟨[3], [(7, .own 0)], [], [(0, 32, 9, none)]⟩, .two (.reg [] [0] none []) (.two (.two (.reg [] [0, 4] none []) (.cond none (.two (.reg [] [2] none []) (.rt [.mk 2 32 9])) (.nil))) (.two (.reg [] [2] none []) (.nil)))), (some 9, ⟨[], [(9, .own 0)], [], [(0, 32, 9, none)]⟩, .two (.reg [] [0, 1] none []) (.two (.reg [] [0, 1, 5] none []) (.two (.two (.reg [] [0, 1, 5, 12] none []) (.cond none (.two (.reg [] [4] none []) (.nil)) (.nil))) (.two (.two (.reg [] [0, 1, 5, 6] none []) (.blk ⟨[0], [(5, .lf li)], [], [(0, 32, 9, some 0)]⟩ (.lp [] ⟨[0, 1], [(5, .lf li), (6, .lf li)], [], [(0, 32, 9, some 0)]⟩ (.two (.two (.reg [] [0, 1, 5, 6, 19] none []) (.cond none (.nil) (.nil))) (.two (.thru (.two (.reg [] [0, 1, 5, 6, 7] none []) (.two (.reg [] [0, 1, 5, 6, 7, 29] none []) (.cond (some ⟨[0, 1, 6], [(5, .lf li)], [], [(0, 32, 9, some 0)]⟩) (.two (.reg [] [0, 1, 5, 6] none []) (.reg [] [0, 1, 5, 6] none [])) (.nil))))) (.reg [] [0, 1, 5, 6] none [])))))) (.two (.reg [] [0, 5] none []) (.two (.reg [] [4] none []) (.nil)))))))]) (.nil)), ⟨[.agg [Lf.row 24, Lf.row 9, Lf.row 7], .one li], [.one (Lf.row 9)]⟩⟩
def fe94 : FE := ⟨23, [.cell 4 30, .tmp 5], .two (.reg [] [1, 2, 4, 5] none []) (.two (.two (.reg [] [1, 4, 5, 9, 10, 11] none []) (.blk ⟨[4], [(5, .lf lb)], [(1, 30, [.lf li, .lf li, .lf li, .lf li, .lf li, .lf li, .lf li, .lf li, .lf li, .lf li, .lf li, .lf li, .lf li, .lf li, .lf li, .lf li, .lf li, .lf li, .lf li, .lf li, .lf li, .lf li, .lf li, .lf li])], []⟩ (.lp [] ⟨[1, 4, 9, 10], [(5, .lf lb), (11, .lf li)], [(1, 30, [.lf li, .lf li, .lf li, .lf li, .lf li, .lf li, .lf li, .lf li, .lf li, .lf li, .lf li, .lf li, .lf li, .lf li, .lf li, .lf li, .lf li, .lf li, .lf li, .lf li, .lf li, .lf li, .lf li, .lf li])], []⟩ (.two (.reg [] [1, 4, 5, 9, 10, 11, 12] none []) (.two (.cond none (.nil) (.nil)) (.two (.thru (.two (.reg [] [1, 4, 5, 7, 9, 10, 11] none []) (.two (.reg [] [1, 4, 5, 7, 9, 10, 11, 18] none []) (.cond (some ⟨[1, 4, 9, 10, 11], [(5, .lf lb)], [(1, 30, [.lf li, .lf li, .lf li, .lf li, .lf li, .lf li, .lf li, .lf li, .lf li, .lf li, .lf li, .lf li, .lf li, .lf li, .lf li, .lf li, .lf li, .lf li, .lf li, .lf li, .lf li, .lf li, .lf li, .lf li])], []⟩) (.reg [] [1, 4, 5, 9, 10, 11] none []) (.nil))))) (.reg [] [1, 4, 5, 9, 10, 11] none []))))))) (.two (.reg [] [4, 5] none []) (.nil))), ⟨[.agg [Lf.row 24, Lf.row 9, Lf.row 7], .one li], [.agg [li, li, li, li, li, li, li, li, li, li, li, li, li, li, li, li, li, li, li, li, li, li, li, li], .one lb]⟩⟩
def fe98 : FE := ⟨12, [.tmp 6], .two (.reg [] [3, 4, 5] none []) (.two (.reg [] [6] none [(some 9, ⟨[4, 5], [(9, .own 0)], [], [(0, 34, 7, none)]⟩, .two (.reg [] [0] none []) (.two (.two (.reg [] [0, 4] none []) (.cond none (.two (.reg [] [2] none []) (.rt [.mk 2 34 7])) (.nil))) (.two (.reg [] [2] none []) (.nil)))), (some 11, ⟨[], [(11, .own 0)], [], [(0, 34, 7, none)]⟩, .two (.reg [] [0, 1] none []) (.two (.reg [] [0, 1, 5] none []) (.two (.two (.reg [] [0, 1, 5, 12] none []) (.cond none (.two (.reg [] [4] none []) (.nil)) (.nil))) (.two (.two (.reg [] [0, 1, 5, 6] none []) (.blk ⟨[0], [(5, .lf li)], [], [(0, 34, 7, some 0)]⟩ (.lp [] ⟨[0, 1], [(5, .lf li), (6, .lf li)], [], [(0, 34, 7, some 0)]⟩ (.two (.two (.reg [] [0, 1, 5, 6, 19] none []) (.cond none (.nil) (.nil))) (.two (.thru (.two (.reg [] [0, 1, 5, 6, 7] none []) (.two (.reg [] [0, 1, 5, 6, 7, 29] none []) (.cond (some ⟨[0, 1, 6], [(5, .lf li)], [], [(0, 34, 7, some 0)]⟩) (.two (.reg [] [0, 1, 5, 6] none []) (.reg [] [0, 1, 5, 6] none [])) (.nil))))) (.reg [] [0, 1, 5, 6] none [])))))) (.two (.reg [] [0, 5] none []) (.two (.reg [] [4] none []) (.nil)))))))]) (.nil)), ⟨[.agg [Lf.row 24, Lf.row 9, Lf.row 7], .agg [li, li, li, li, li, li, li, li, li], .one li], [.one (Lf.row 7)]⟩⟩
def fe100 : FE := ⟨32, [.tmp 2], .two (.reg [] [0] none []) (.two (.two (.reg [] [0, 5, 6, 7] none []) (.blk ⟨[0], [], [], []⟩ (.lp [] ⟨[0, 5, 6], [(7, .lf li)], [], []⟩ (.two (.reg [] [0, 5, 6, 7, 8] none []) (.two (.cond none (.nil) (.nil)) (.two (.thru (.two (.reg [] [0, 3, 4, 5, 6, 7] none []) (.two (.reg [] [] (some ⟨[0, 5, 6, 7], [(27, .lf lb)], [], []⟩) []) (.cond none (.two (.reg [] [2] none []) (.nil)) (.nil))))) (.reg [] [0, 5, 6, 7] none []))))))) (.two (.reg [] [2] none []) (.nil))), ⟨[.one (Lf.row 1)], [.one lb]⟩⟩
def fe101 : FE := ⟨98, [.tmp 4], .two (.reg [] [1, 2] none []) (.two (.reg [] [1, 2, 5] none []) (.two (.two (.reg [] [1, 2, 5, 18, 19, 20] none []) (.blk ⟨[], [(5, .own 0)], [], [(0, 86, 5, none)]⟩ (.lp [.mk 5 86 5] ⟨[1, 2, 18, 19], [(5, .own 0), (20, .lf li)], [], [(0, 86, 5, none)]⟩ (.two (.reg [] [1, 2, 5, 18, 19, 20, 21] none []) (.two (.cond none (.nil) (.nil)) (.two (.thru (.two (.reg [] [1, 2, 5, 6, 7, 18, 19, 20] none []) (.two (.reg [] [1, 2, 5, 6, 7, 18, 19, 20, 26, 27, 28] none []) (.blk ⟨[1, 2, 18, 19, 20], [(5, .own 0)], [], [(0, 86, 5, none)]⟩ (.lp [] ⟨[1, 2, 6, 7, 18, 19, 20, 26, 27], [(5, .own 0), (28, .lf li)], [], [(0, 86, 5, none)]⟩ (.two (.reg [] [1, 2, 5, 6, 7, 18, 19, 20, 26, 27, 28, 29] none []) (.two (.cond none (.nil) (.nil)) (.sel (.thru (.two (.reg [] [1, 2, 5, 6, 7, 9, 18, 19, 20, 26, 27, 28] none []) (.two (.reg [] [1, 2, 5, 6, 7, 9, 10, 11, 18, 19, 20, 26, 27, 28] none [(some 35, ⟨[1, 2, 5, 6, 7, 9, 18, 19, 20, 26, 27, 28], [(35, .own 1)], [], [(1, 3145882, 3, none)]⟩, .two (.reg [] [2, 3, 4] none []) (.two (.reg [] [2, 3, 4, 7] none []) (.two (.two (.reg [] [2, 3, 4, 7, 16] none []) (.cond none (.two (.reg [] [6] none []) (.nil)) (.nil))) (.two (.reg [] [4, 7, 8] none []) (.two (.two (.reg [] [4, 7, 8, 24] none []) (.cond none (.two (.reg [] [6] none []) (.nil)) (.nil))) (.two (.reg [] [4, 7, 8] none []) (.two (.reg [] [4, 7, 8] none []) (.two (.two (.reg [] [4, 7, 8, 48] none []) (.cond (some ⟨[7], [], [], [(1, 3145882, 3, some 0)]⟩) (.reg [] [7] none []) (.nil))) (.two (.reg [] [6] none []) (.nil))))))))))]) (.sel (.two (.reg [] [1, 2, 5, 6, 7, 9, 10, 11, 18, 19, 20, 26, 27, 28, 38] none []) (.cond none (.reg [] [1, 2, 5, 6, 7, 9, 10, 11, 18, 19, 20, 26, 27, 28] none [(some 46, ⟨[1, 2, 5, 6, 7, 9, 10, 11, 18, 19, 20, 26, 27, 28], [(46, .own 3)], [], [(3, 3145882, 3, none)]⟩, .two (.reg [] [2, 3, 4] none []) (.two (.reg [] [2, 3, 4, 7] none []) (.two (.two (.reg [] [2, 3, 4, 7, 16] none []) (.cond none (.two (.reg [] [6] none []) (.nil)) (.nil))) (.two (.reg [] [4, 7, 8] none []) (.two (.two (.reg [] [4, 7, 8, 24] none []) (.cond none (.two (.reg [] [6] none []) (.nil)) (.nil))) (.two (.reg [] [4, 7, 8] none []) (.two (.reg [] [4, 7, 8] none []) (.two (.two (.reg [] [4, 7, 8, 48] none []) (.cond (some ⟨[7], [], [], [(3, 3145882, 3, some 0)]⟩) (.reg [] [7] none []) (.nil))) (.two (.reg [] [6] none []) (.nil))))))))))]) (.nil))) 3 (.two (.reg [] [1, 2, 5, 6, 7, 9, 10, 11, 12, 18, 19, 20, 26, 27, 28] none []) (.two (.two (.reg [] [1, 2, 5, 6, 7, 9, 10, 11, 12, 18, 19, 20, 26, 27, 28, 50] none []) (.cond (some ⟨[1, 2, 5, 6, 7, 9, 10, 11, 18, 19, 20, 26, 27, 28], [(12, .own 3)], [], [(3, 3, 1, none)]⟩) (.reg [] [1, 2, 5, 6, 7, 9, 10, 11, 12, 18, 19, 20, 26, 27, 28] none []) (.nil))) (.two (.reg [] [1, 2, 5, 6, 7, 9, 10, 11, 18, 19, 20, 26, 27, 28, 57, 58, 59] none []) (.blk ⟨[1, 2, 6, 7, 18, 19, 20, 26, 27, 28], [(5, .own 0)], [], [(0, 86, 5, none)]⟩ (.lp [] ⟨[1, 2, 6, 7, 9, 10, 11, 18, 19, 20, 26, 27, 28, 57, 58], [(5, .own 0), (59, .lf li)], [], [(0, 86, 5, none)]⟩ (.two (.reg [] [1, 2, 5, 6, 7, 9, 10, 11, 18, 19, 20, 26, 27, 28, 57, 58, 59, 60] none []) (.two (.cond none (.nil) (.nil)) (.two (.thru (.two (.reg [] [1, 2, 5, 6, 7, 9, 10, 11, 14, 18, 19, 20, 26, 27, 28, 57, 58, 59] none []) (.two (.reg [] [1, 2, 5, 6, 7, 9, 10, 11, 14, 15, 18, 19, 20, 26, 27, 28, 57, 58, 59] none []) (.blk ⟨[1, 2, 6, 7, 9, 10, 11, 18, 19, 20, 26, 27, 28, 57, 58, 59], [(5, .own 0)], [], [(0, 86, 5, none)]⟩ (.lp [] ⟨[1, 2, 6, 7, 9, 10, 11, 14, 18, 19, 20, 26, 27, 28, 57, 58, 59], [(5, .own 0), (15, .lf li)], [], [(0, 86, 5, none)]⟩ (.two (.two (.reg [] [1, 2, 5, 6, 7, 9, 10, 11, 14, 15, 18, 19, 20, 26, 27, 28, 57, 58, 59, 64] none []) (.cond none (.nil) (.nil))) (.two (.thru (.two (.reg [] [1, 2, 5, 6, 7, 9, 10, 11, 14, 15, 16, 18, 19, 20, 26, 27, 28, 57, 58, 59] none []) (.two (.reg [] [1, 2, 5, 6, 7, 9, 10, 11, 14, 15, 17, 18, 19, 20, 26, 27, 28, 57, 58, 59] none []) (.two (.reg [] [] (some ⟨[1, 2, 5, 6, 7, 9, 10, 11, 14, 15, 17, 18, 19, 20, 26, 27, 28, 57, 58, 59], [(83, .lf lb)], [], []⟩) []) (.cond (some ⟨[1, 2, 6, 7, 9, 10, 11, 14, 15, 18, 19, 20, 26, 27, 28, 57, 58, 59], [(5, .own 0)], [], [(0, 86, 5, none)]⟩) (.reg [] [1, 2, 5, 6, 7, 9, 10, 11, 14, 15, 18, 19, 20, 26, 27, 28, 57, 58, 59] none []) (.nil)))))) (.reg [] [1, 2, 5, 6, 7, 9, 10, 11, 14, 15, 18, 19, 20, 26, 27, 28, 57, 58, 59] none [])))))))) (.reg [] [1, 2, 5, 6, 7, 9, 10, 11, 18, 19, 20, 26, 27, 28, 57, 58, 59] none []))))))))) (.two (.reg [] [1, 2, 5, 6, 7, 9, 10, 11, 12, 18, 19, 20, 26, 27, 28] none []) (.two (.two (.reg [] [1, 2, 5, 6, 7, 9, 10, 11, 12, 18, 19, 20, 26, 27, 28, 50] none []) (.cond (some ⟨[1, 2, 5, 6, 7, 9, 10, 11, 18, 19, 20, 26, 27, 28], [(12, .own 4)], [], [(4, 3, 1, none)]⟩) (.reg [] [1, 2, 5, 6, 7, 9, 10, 11, 12, 18, 19, 20, 26, 27, 28] none []) (.nil))) (.two (.reg [] [1, 2, 5, 6, 7, 9, 10, 11, 18, 19, 20, 26, 27, 28, 57, 58, 59] none []) (.blk ⟨[1, 2, 6, 7, 18, 19, 20, 26, 27, 28], [(5, .own 0)], [], [(0, 86, 5, none)]⟩ (.lp [] ⟨[1, 2, 6, 7, 9, 10, 11, 18, 19, 20, 26, 27, 28, 57, 58], [(5, .own 0), (59, .lf li)], [], [(0, 86, 5, none)]⟩ (.two (.reg [] [1, 2, 5, 6, 7, 9, 10, 11, 18, 19, 20, 26, 27, 28, 57, 58, 59, 60] none []) (.two (.cond none (.nil) (.nil)) (.two (.thru (.two (.reg [] [1, 2, 5, 6, 7, 9, 10, 11, 14, 18, 19, 20, 26, 27, 28, 57, 58, 59] none []) (.two (.reg [] [1, 2, 5, 6, 7, 9, 10, 11, 14, 15, 18, 19, 20, 26, 27, 28, 57, 58, 59] none []) (.blk ⟨[1, 2, 6, 7, 9, 10, 11, 18, 19, 20, 26, 27, 28, 57, 58, 59], [(5, .own 0)], [], [(0, 86, 5, none)]⟩ (.lp [] ⟨[1, 2, 6, 7, 9, 10, 11, 14, 18, 19, 20, 26, 27, 28, 57, 58, 59], [(5, .own 0), (15, .lf li)], [], [(0, 86, 5, none)]⟩ (.two (.two (.reg [] [1, 2, 5, 6, 7, 9, 10, 11, 14, 15, 18, 19, 20, 26, 27, 28, 57, 58, 59, 64] none []) (.cond none (.nil) (.nil))) (.two (.thru (.two (.reg [] [1, 2, 5, 6, 7, 9, 10, 11, 14, 15, 16, 18, 19, 20, 26, 27, 28, 57, 58, 59] none []) (.two (.reg [] [1, 2, 5, 6, 7, 9, 10, 11, 14, 15, 17, 18, 19, 20, 26, 27, 28, 57, 58, 59] none []) (.two (.reg [] [] (some ⟨[1, 2, 5, 6, 7, 9, 10, 11, 14, 15, 17, 18, 19, 20, 26, 27, 28, 57, 58, 59], [(83, .lf lb)], [], []⟩) []) (.cond (some ⟨[1, 2, 6, 7, 9, 10, 11, 14, 15, 18, 19, 20, 26, 27, 28, 57, 58, 59], [(5, .own 0)], [], [(0, 86, 5, none)]⟩) (.reg [] [1, 2, 5, 6, 7, 9, 10, 11, 14, 15, 18, 19, 20, 26, 27, 28, 57, 58, 59] none []) (.nil)))))) (.reg [] [1, 2, 5, 6, 7, 9, 10, 11, 14, 15, 18, 19, 20, 26, 27, 28, 57, 58, 59] none [])))))))) (.reg [] [1, 2, 5, 6, 7, 9, 10, 11, 18, 19, 20, 26, 27, 28, 57, 58, 59] none []))))))))))))) 4 (.reg [] [1, 2, 5, 6, 7, 18, 19, 20, 26, 27, 28] none []) (.reg [] [1, 2, 5, 6, 7, 18, 19, 20, 26, 27, 28] none []))))))))) (.reg [] [1, 2, 5, 18, 19, 20] none []))))))) (.two (.reg [] [4] none []) (.nil)))), ⟨[.agg [Lf.row 24, Lf.row 9, Lf.row 7], .one (Lf.row 1)], [.one (Lf.row 5)]⟩⟩
def fe104 : FE := ⟨26, [.tmp 4], .two (.reg [] [0, 1] none []) (.two (.two (.reg [] [0, 1, 10] none []) (.cond none (.two (.reg [] [4] none []) (.nil)) (.nil))) (.two (.two (.reg [] [0, 1, 12, 13] none []) (.blk ⟨[], [], [], []⟩ (.lp [] ⟨[0, 1, 12], [(13, .lf li)], [], []⟩ (.two (.reg [] [0, 1, 12, 13, 14] none []) (.two (.cond none (.nil) (.nil)) (.two (.thru (.two (.reg [] [0, 1, 5, 12, 13] none []) (.two (.reg [] [0, 1, 12, 13, 24] none []) (.cond none (.two (.reg [] [4] none []) (.nil)) (.nil))))) (.reg [] [0, 1, 12, 13] none []))))))) (.two (.reg [] [4] none []) (.nil)))), ⟨[.one (Lf.row 5), .one (Lf.row 5)], [.one lb]⟩⟩
def fe108 : FE := ⟨6, [.tmp 2], .two (.reg [] [0] none []) (.two (.reg [] [2] none []) (.nil)), ⟨[.one li], [.one lb]⟩⟩
def fe111 : FE := ⟨9, [.tmp 4], .two (.reg [] [0, 1] none []) (.two (.reg [] [4] none []) (.nil)), ⟨[.one (Lf.row 1), .one Lf.raw], [.one lb]⟩⟩
def fe112 : FE := ⟨6, [.tmp 2], .two (.reg [] [0] none []) (.two (.reg [] [2] none []) (.nil)), ⟨[.one li], [.one lb]⟩⟩
def fe113 : FE := ⟨61, [.tmp 2, .tmp 3], .two (.reg [] [0] none []) (.two (.reg [] [0, 3] none []) (.two (.reg [] [0, 3, 4, 5] none []) (.two (.two (.reg [] [3, 4, 5, 10, 11, 12] none []) (.blk ⟨[4, 5], [(3, .lf li)], [(0, 34, [.lf li, .lf li, .lf li, .lf li, .lf li, .lf li, .lf li]), (1, 34, [.lf li, .lf li, .lf li, .lf li, .lf li, .lf li, .lf li])], []⟩ (.lp [] ⟨[4, 5, 10, 11], [(3, .lf li), (12, .lf li)], [(0, 34, [.lf li, .lf li, .lf li, .lf li, .lf li, .lf li, .lf li]), (1, 34, [.lf li, .lf li, .lf li, .lf li, .lf li, .lf li, .lf li])], []⟩ (.two (.reg [] [3, 4, 5, 10, 11, 12, 13] none []) (.two (.cond none (.nil) (.nil)) (.two (.blk ⟨[4, 5, 10, 11, 12], [(3, .lf li)], [(0, 34, [.lf li, .lf li, .lf li, .lf li, .lf li, .lf li, .lf li]), (1, 34, [.lf li, .lf li, .lf li, .lf li, .lf li, .lf li, .lf li])], []⟩ (.two (.reg [] [3, 4, 5, 7, 10, 11, 12] none []) (.two (.two (.reg [] [3, 4, 5, 7, 10, 11, 12, 18] none []) (.cond none (.nil) (.nil))) (.two (.two (.reg [] [] (some ⟨[3, 4, 5, 7, 10, 11, 12], [(26, .lf lb)], [], []⟩) []) (.cond (some ⟨[4, 5, 7, 10, 11, 12], [(3, .lf li)], [], []⟩) (.reg [] [3, 4, 5, 7, 10, 11, 12] none []) (.nil))) (.two (.two (.reg [] [] (some ⟨[3, 4, 5, 7, 10, 11, 12], [(38, .lf lb)], [], []⟩) []) (.cond (some ⟨[3, 4, 5, 7, 10, 11, 12], [], [(0, 34, [.lf li, .lf li, .lf li, .lf li, .lf li, .lf li, .lf li])], []⟩) (.reg [] [3, 4, 5, 7, 10, 11, 12] none []) (.nil))) (.two (.reg [] [] (some ⟨[3, 4, 5, 7, 10, 11, 12], [(49, .lf lb)], [], []⟩) []) (.cond (some ⟨[3, 4, 5, 10, 11, 12], [], [(1, 34, [.lf li, .lf li, .lf li, .lf li, .lf li, .lf li, .lf li])], []⟩) (.reg [] [3, 4, 5, 10, 11, 12] none []) (.nil)))))))) (.reg [] [3, 4, 5, 10, 11, 12] none []))))))) (.two (.two (.reg [] [3, 4, 5, 54] none []) (.cond none (.two (.reg [] [2, 3] none []) (.nil)) (.nil))) (.two (.reg [] [2, 3] none []) (.nil)))))), ⟨[.one (Lf.row 7)], [.one li, .one li]⟩⟩
def fe114 : FE := ⟨34, [.cell 6 3], .two (.reg [] [2, 3, 4, 6] none []) (.two (.two (.reg [] [2, 3, 4, 6, 12] none []) (.cond none (.two (.reg [] [6] none []) (.nil)) (.nil))) (.two (.reg [] [2, 3, 4, 6, 7] none []) (.two (.reg [] [2, 3, 4, 6, 7, 8] none []) (.two (.two (.reg [] [3, 4, 6, 7, 8, 21] none []) (.thru (.lp [] ⟨[3, 4, 6, 7, 8, 21], [], [(2, 3, [.lf li]), (3, 3, [.lf li])], []⟩ (.thru (.two (.reg [] [4, 6, 7, 9] none [(some 28, ⟨[4, 6, 7, 9], [], [(3, 3, [.lf li])], []⟩, .reg [] [] none [])]) (.two (.reg [] [6, 9, 32] none []) (.cond none (.two (.reg [] [6] none []) (.nil)) (.nil)))))))) (.two (.reg [] [6] none []) (.nil)))))), ⟨[.agg [Lf.row 24, Lf.row 9, Lf.row 7], .agg [li, li, li, li, li, li, li, li, li], .one li], [.one li]⟩⟩
def fe115 : FE := ⟨21, [.tmp 6], .two (.reg [] [2, 3, 4] none []) (.two (.reg [] [4, 7] none []) (.two (.reg [] [6] none []) (.nil))), ⟨[.agg [Lf.row 24, Lf.row 9, Lf.row 7], .agg [li, li, li, li, li, li, li, li, li], .one li], [.one li]⟩⟩
def fe120 : FE := ⟨6, [.tmp 4], .two (.reg [] [2, 3] none []) (.two (.reg [] [4] none []) (.nil)), ⟨[.one li, .one li], [.one Lf.raw]⟩⟩
def fe122 : FE := ⟨6, [.tmp 2], .two (.reg [] [0] none []) (.two (.reg [] [2] none []) (.nil)), ⟨[.one li], [.one lb]⟩⟩
def fe126 : FE := ⟨19, [.tmp 4], .two (.reg [] [0, 1] none []) (.two (.two (.reg [] [0, 1, 7, 8] none []) (.blk ⟨[], [], [], []⟩ (.lp [] ⟨[0, 1, 7], [(8, .lf li)], [], []⟩ (.two (.reg [] [0, 1, 7, 8, 9] none []) (.two (.cond none (.nil) (.nil)) (.two (.thru (.two (.reg [] [0, 1, 5, 7, 8] none []) (.two (.reg [] [0, 1, 5, 7, 8, 16] none []) (.cond none (.two (.reg [] [4] none []) (.nil)) (.nil))))) (.reg [] [0, 1, 7, 8] none []))))))) (.two (.reg [] [4] none []) (.nil))), ⟨[.one (Lf.row 9), .one Lf.raw], [.one li]⟩⟩
def fe127 : FE := ⟨11, [.tmp 3], .two (.reg [] [1, 2] none []) (.two (.reg [] [3] none []) (.nil)), ⟨[.agg [li, li, li, li, li, li, li, li, li], .one Lf.ref], [.one lb]⟩⟩
def fe128 : FE := ⟨19, [.tmp 6], .two (.reg [] [0, 1, 2] none []) (.two (.reg [] [6] none []) (.nil)), ⟨[.one li, .one li, .one li], [.one lb]⟩⟩
def fe129 : FE := ⟨28, [.tmp 4], .two (.reg [] [1, 2, 3] none []) (.two (.reg [] [4] none []) (.nil)), ⟨[.agg [li, li, li, li, li, li, li], .one Lf.ref, .one Lf.ref], [.one lb]⟩⟩
def fe134 : FE := ⟨19, [.tmp 4], .two (.reg [] [0, 1] none []) (.two (.two (.reg [] [0, 1, 7, 8] none []) (.blk ⟨[], [], [], []⟩ (.lp [] ⟨[0, 1, 7], [(8, .lf li)], [], []⟩ (.two (.reg [] [0, 1, 7, 8, 9] none []) (.two (.cond none (.nil) (.nil)) (.two (.thru (.two (.reg [] [0, 1, 5, 7, 8] none []) (.two (.reg [] [0, 1, 5, 7, 8, 16] none []) (.cond none (.two (.reg [] [4] none []) (.nil)) (.nil))))) (.reg [] [0, 1, 7, 8] none []))))))) (.two (.reg [] [4] none []) (.nil))), ⟨[.one (Lf.row 1), .one Lf.raw], [.one li]⟩⟩
def fe137 : FE := ⟨19, [.tmp 4], .two (.reg [] [0, 1] none []) (.two (.two (.reg [] [0, 1, 7, 8] none []) (.blk ⟨[], [], [], []⟩ (.lp [] ⟨[0, 1, 7], [(8, .lf li)], [], []⟩ (.two (.reg [] [0, 1, 7, 8, 9] none []) (.two (.cond none (.nil) (.nil)) (.two (.thru (.two (.reg [] [0, 1, 5, 7, 8] none []) (.two (.reg [] [0, 1, 5, 7, 8, 16] none []) (.cond none (.two (.reg [] [4] none []) (.nil)) (.nil))))) (.reg [] [0, 1, 7, 8] none []))))))) (.two (.reg [] [4] none []) (.nil))), ⟨[.one (Lf.row 7), .one Lf.raw], [.one li]⟩⟩
def fe63 : FE := ⟨8, [.tmp 2], .two (.reg [] [0] none []) (.two (.two (.reg [] [0, 4] none []) (.cond none (.two (.reg [] [2] none []) (.rt [.mk 2 34 7])) (.nil))) (.two (.reg [] [2] none []) (.nil))), ⟨[.one (Lf.row 7)], [.one (Lf.row 7)]⟩⟩
noncomputable def tb : List (Nat × FE × Code) := [(10, fe10, bodyOf Try.f10), (12, fe12, bodyOf Try.f12), (13, fe13, bodyOf Try.f13), (16, fe16, bodyOf Try.f16), (18, fe18, bodyOf Try.f18), (20, fe20, bodyOf Try.f20), (22, fe22, bodyOf Try.f22), (24, fe24, bodyOf Try.f24), (25, fe25, bodyOf Try.f25), (26, fe26, bodyOf Try.f26), (27, fe27, bodyOf Try.f27), (28, fe28, bodyOf Try.f28), (36, fe36, bodyOf Try.f36), (44, fe44, bodyOf Try.f44), (46, fe46, bodyOf Try.f46), (48, fe48, bodyOf Try.f48), (49, fe49, bodyOf Try.f49), (51, fe51, bodyOf Try.f51), (52, fe52, bodyOf Try.f52), (55, fe55, bodyOf Try.f55), (56, fe56, bodyOf Try.f56), (57, fe57, bodyOf Try.f57), (58, fe58, bodyOf Try.f58), (59, fe59, bodyOf Try.f59), (60, fe60, bodyOf Try.f60), (61, fe61, bodyOf Try.f61), (65, fe65, bodyOf Try.f65), (66, fe66, bodyOf Try.f66), (67, fe67, bodyOf Try.f67), (68, fe68, bodyOf Try.f68), (69, fe69, bodyOf Try.f69), (70, fe70, bodyOf Try.f70), (71, fe71, bodyOf Try.f71), (72, fe72, bodyOf Try.f72), (73, fe73, bodyOf Try.f73), (76, fe76, bodyOf Try.f76), (78, fe78, bodyOf Try.f78), (79, fe79, bodyOf Try.f79), (80, fe80, bodyOf Try.f80), (81, fe81, bodyOf Try.f81), (84, fe84, bodyOf Try.f84), (88, fe88, bodyOf Try.f88), (92, fe92, bodyOf Try.f92), (94, fe94, bodyOf Try.f94), (98, fe98, bodyOf Try.f98), (100, fe100, bodyOf Try.f100), (101, fe101, bodyOf Try.f101), (104, fe104, bodyOf Try.f104), (108, fe108, bodyOf Try.f108), (111, fe111, bodyOf Try.f111), (112, fe112, bodyOf Try.f112), (113, fe113, bodyOf Try.f113), (114, fe114, bodyOf Try.f114), (115, fe115, bodyOf Try.f115), (120, fe120, bodyOf Try.f120), (122, fe122, bodyOf Try.f122), (126, fe126, bodyOf Try.f126), (127, fe127, bodyOf Try.f127), (128, fe128, bodyOf Try.f128), (129, fe129, bodyOf Try.f129), (134, fe134, bodyOf Try.f134), (137, fe137, bodyOf Try.f137)]
noncomputable abbrev sg : FuncId → Option Sig := sgOf tb
end Go.Proofs.Ytabhbdehbpmpkaa
namespace Go.Proofs.Ytabhbdehbpmpkaa
open Go Go.Sx
abbrev n_law06_FinePaid : Nat := 10
abbrev n_law06_sane : Nat := 12
abbrev n_fine_Noted : Nat := 13
abbrev n_fine_Check : Nat := 16
abbrev n_fine_CheckTariff : Nat := 18
abbrev n_fine_CheckHeld : Nat := 20
abbrev n_fine_CheckNote : Nat := 22
abbrev n_r06_Made : Nat := 24
abbrev n_r06_Mod : Nat := 25
abbrev n_fine_Lot : Nat := 26
abbrev n_fine_Charged : Nat := 27
abbrev n_fine_Dues : Nat := 28
abbrev n_r06_Has : Nat := 36
abbrev n_fine_Posts : Nat := 44
abbrev n_fine_Balance : Nat := 46
abbrev n_r06_Same : Nat := 48
abbrev n_fine_CheckPosts : Nat := 49
abbrev n_law06_days : Nat := 51
abbrev n_law06_settled : Nat := 52
abbrev n_law06_example : Nat := 55
abbrev n_fine_Owed : Nat := 56
abbrev n_slices_BinarySearchFunc_Note : Nat := 57
abbrev n_fine_Noted_c1 : Nat := 58
abbrev n_cmp_Compare_int : Nat := 59
abbrev n_slices_Clone_Tariff : Nat := 60
abbrev n_slices_Clone_Held : Nat := 61
abbrev n_slices_Insert_Note : Nat := 62
abbrev n_slices_Clone_Note : Nat := 63
abbrev n_fine_areRising_Tariff : Nat := 65
abbrev n_fine_Check_c1 : Nat := 66
abbrev n_fine_areRising_Held : Nat := 67
abbrev n_fine_heldOf : Nat := 68
abbrev n_fine_areRising_Note : Nat := 69
abbrev n_fine_noteOf : Nat := 70
abbrev n_fine_isDay : Nat := 71
abbrev n_fine_isRow : Nat := 72
abbrev n_fine_within : Nat := 73
abbrev n_fine_areTimes : Nat := 76
abbrev n_fine_stayOf : Nat := 78
abbrev n_fine_lot : Nat := 79
abbrev n_fine_charge : Nat := 80
abbrev n_fine_due : Nat := 81
abbrev n_fine_fed : Nat := 84
abbrev n_fine_check : Nat := 88
abbrev n_fine_stays : Nat := 92
abbrev n_fine_inForce : Nat := 94
abbrev n_fine_notes : Nat := 98
abbrev n_fine_areDays : Nat := 100
abbrev n_fine_postings : Nat := 101
abbrev n_slices_Equal_Posting : Nat := 104
abbrev n_cmp_isNaN_int : Nat := 108
abbrev n_slices_ContainsFunc_int : Nat := 111
abbrev n_fine_isRow_c1 : Nat := 112
abbrev n_fine_whose : Nat := 113
abbrev n_fine_sold : Nat := 114
abbrev n_fine_daily : Nat := 115
abbrev n_fine_days : Nat := 120
abbrev n_fine_check_c1 : Nat := 122
abbrev n_slices_IndexFunc_Held : Nat := 126
abbrev n_fine_stays_c1 : Nat := 127
abbrev n_fine_counts : Nat := 128
abbrev n_fine_notes_c1 : Nat := 129
abbrev n_slices_IndexFunc_int : Nat := 134
abbrev n_fine_days_c1 : Nat := 136
abbrev n_slices_IndexFunc_Note : Nat := 137
end Go.Proofs.Ytabhbdehbpmpkaa
namespace Go.Proofs.Ytabhbdehbpmpkaa
open Go Go.Sx Go.RowKit Go.Shelf
attribute [local go_sem] Oper.semAt_some
def isI : Value → Int
  | .int _ x => x
  | _ => 0
theorem it_isf : Try.prog.funcs[136]? = some Try.f136 := by kernel_rfl
theorem it_ntmps : Try.f136.ntmps = 15 := by kernel_rfl
set_option maxRecDepth 100000 in
set_option maxHeartbeats 1000000 in
theorem it_in (F : Fence) (n : Nat) (h6 : F.fn 136) (hro : F.round = none) (hn : 1 ≤ n) (l : Nat) (b1 o1 b2 o2 : Nat) (lo hi : Int) (hlo : -9223372036854775808 ≤ lo) (hhi : hi < 9223372036854775807) (S : Nat → Prop) (hS1 : S b1) (hS2 : S b2) (J Jx : List Int → World → Prop)
    (hY : ∀ pre x W, J pre W → pre.length < (upto lo hi).length → YieldAt F (n - 1) Try.prog l #[.int .i64 x] W fun e W' =>
      (e = .returned (.bool true) ∧ J (pre ++ [x]) W' ∧ ∀ b, S b → W'.heap[b]? = W.heap[b]?) ∨ (e = .returned (.bool false) ∧ Jx (pre ++ [x]) W'))
    (W : World) (hc1 : W.cell? ⟨b1, o1, none⟩ = some (.int .i64 lo)) (hc2 : W.cell? ⟨b2, o2, none⟩ = some (.int .i64 hi)) (h0 : J [] W) :
    CallsIn F n Try.prog 136 #[.func (.yield l) #[] #[], .pointer (some ⟨b1, o1, none⟩), .pointer (some ⟨b2, o2, none⟩)] W fun e W' => (∃ v, e = .returned v) ∧
      ((∃ ys, ys = upto lo hi ∧ J ys W') ∨ (∃ pre, pre <+: upto lo hi ∧ Jx pre W')) := by
  have keep : ∀ {A B : World} {b o : Nat} {v : Value}, (∀ b, S b → B.heap[b]? = A.heap[b]?) → S b → A.cell? ⟨b, o, none⟩ = some v → B.cell? ⟨b, o, none⟩ = some v := by
    intro A B b o v h hs hc
    simp only [World.cell?] at hc ⊢
    rw [h b hs]; exact hc
  refine callsIn_of_wp it_isf rfl h6 ?_ hro
  simp only [it_ntmps, List.size_toArray, List.length_cons, List.length_nil, Nat.reduceAdd, Nat.reduceSub, Array.replicate_succ, Array.replicate_zero, List.push_toArray, List.append_toArray, List.nil_append, List.cons_append]
  gi_wp2
  gi_loopw [4] (fun p wr => ∃ (pre : List Int) (x : Int), p = .int .i64 x ∧ lo ≤ x ∧ upto lo hi = pre ++ upto x hi ∧ wr.cell? ⟨b2, o2, none⟩ = some (.int .i64 hi) ∧ J pre wr)
    (fun p wr => (hi + 1 - isI p).toNat)
  case atStart =>
    exact ⟨[], lo, rfl, by omega, rfl, hc2, h0⟩
  case round =>
    obtain ⟨pre, x, rfl, hlx, hx, hc2', hJs⟩ := hrel
    by_cases hle : x ≤ hi
    · have hux := upto_cons hle
      obtain ⟨fn, tmps, assign, body, hy, hR⟩ := hY pre x wr hJs (by rw [hx, hux]; simp)
      have hw1 : IntKind.i64.wrap (x + 1) = x + 1 := by rw [IntKind.wrap_i64]; omega
      gi_wp2
      refine hR.mono ?_
      rintro e W3 (⟨rfl, hJ3, hk3⟩ | ⟨rfl, hJx3⟩)
      · have hc3 := keep hk3 hS2 hc2'
        gi_wp2
        go_roundw
        case rel => exact ⟨pre ++ [x], x + 1, rfl, by omega, by rw [hx, hux]; simp, hc3, hJ3⟩
        case measure => simp only [isI]; omega
      · gi_wp2
        refine bodyPost_ret (results_none rfl _ _ _) rfl ?_
        exact ⟨⟨_, rfl⟩, .inr ⟨pre ++ [x], ⟨upto (x + 1) hi, by rw [hx, hux]; simp⟩, hJx3⟩⟩
    · have hux := upto_nil (a := x) (b := hi) (by omega)
      gi_wp2
      go_end0
      exact ⟨⟨_, rfl⟩, .inl hJs⟩
def daysIt : List CV → Option (List CV)
  | [.ref [.val (.int .i64 a)], .ref [.val (.int .i64 b)]] => if -9223372036854775808 ≤ a ∧ b < 9223372036854775807 then some ((upto a b).map ci) else none
  | _ => none
theorem intsOf_ci : ∀ (l : List Int), intsOf (l.map ci) = some l
  | [] => rfl
  | x :: l => by simp [intsOf, ci, intsOf_ci l]
theorem days_it (caps out : List CV) (h : daysIt caps = some out) (xs : List Int) (hx : intsOf out = some xs) : entB Try.prog 136 = true ∧ IterP Try.prog 136 caps xs := by
  refine ⟨by kernel_rfl, ?_⟩
  unfold daysIt at h
  split at h
  · rename_i a b
    split at h
    · rename_i hb
      cases h
      rw [intsOf_ci] at hx
      cases hx
      intro F n S w lb hF hro hn hS hv l J Jx W hW _ _ hY h0
      match lb, hv with
      | ⟨[v1, v2]⟩, hv =>
        simp only [CV.vals, CV.holds, CV.cells, and_true] at hv
        obtain ⟨⟨b1, o1, rfl, hS1, x1, hc1, rfl, _⟩, ⟨b2, o2, rfl, hS2, x2, hc2, rfl, _⟩⟩ := hv
        have hcell : ∀ {b o : Nat} {v : Value}, S b → w.cell? ⟨b, o, none⟩ = some v → W.cell? ⟨b, o, none⟩ = some v := by
          intro b o v hs hc
          simp only [World.cell?] at hc ⊢
          rw [hW.block b (hS b hs)]; exact hc
        exact it_in F n (hF.fn 136) hro hn l b1 o1 b2 o2 a b hb.1 hb.2 S hS1 hS2 J Jx hY W (hcell hS1 hc1) (hcell hS2 hc2) h0
      | ⟨[]⟩, hv => simp [CV.vals] at hv
      | ⟨[_]⟩, hv => simp [CV.vals] at hv
      | ⟨_ :: _ :: _ :: _⟩, hv => simp [CV.vals] at hv
    · cases h
  · cases h
end Go.Proofs.Ytabhbdehbpmpkaa
namespace Go.Proofs.Ytabhbdehbpmpkaa
open Go Go.Sx Go.RowKit
set_option maxRecDepth 100000
section
theorem ins_u : Try.prog.underlying 24 = some (.slice 34) := by kernel_rfl
theorem ins_c : Try.prog.cellsOf 34 = 7 := by kernel_rfl
theorem ins_sz (w : World) : (Go.sizeOf 34).run Try.prog w = .ok 7 w := by
  have := run_sizeOf_cells (P := Try.prog) (T := 34) (by rw [ins_c]; decide) w
  rwa [ins_c] at this
theorem ins_ui : Try.prog.underlying 3 = some (.int .i64) := by kernel_rfl
theorem ins_mixed : Try.prog.follows .mixedOrders = true := by kernel_rfl
theorem ins_isf : Try.prog.funcs[62]? = some Try.f62 := by kernel_rfl
theorem ins_info : ∃ i z, Try.prog.info? 34 = some i ∧ i.zero = some z ∧ i.size = 7 ∧ i.bytes = 56 ∧ z.cells.size = 7 := by
  refine ⟨((Try.prog.info? 34).getD default), ((((Try.prog.info? 34).getD default).zero).getD (.bool false)), by kernel_rfl, by kernel_rfl, by kernel_rfl, by kernel_rfl, by kernel_rfl⟩
theorem ins_ov (w : World) (a b : Addr) (la ca lb cb : Nat) (hne : a.block ≠ b.block) (va vb : Array Value) (tA tB : TypeId) (fz : Nat × Nat) (ha : w.heap[a.block]? = some (.cells va tA fz)) (hva : va.size ≠ 0) (hb : w.heap[b.block]? = some (.cells vb tB (0, 0))) :
    (callFunc 109 #[.slice (some a) la ca, .slice (some b) lb cb]).run Try.prog w = .ok (.value (.bool false)) w := by
  rw [run_callFunc_extern (P := Try.prog) (f := 109) (fn := Try.f109) (by kernel_rfl) (by kernel_rfl) (by kernel_rfl) (by kernel_rfl) (e := Extern.SlicesOverlaps.overlaps #[24, 24] #[4]) (by kernel_rfl),
    run_overlaps_own w 24 4 34 ins_u 7 ins_sz a b la ca lb cb hne va vb tA tB fz ha hva hb]
  rfl
theorem ins_P : InsP Try.prog 62 34 7 56 := by
  intro B V i v nn x hv hsl hT hk hn0 hn hfit hxl
  obtain ⟨q, rfl⟩ : ∃ q : Nat, nn = q := ⟨nn.toNat, by omega⟩
  have hl := Vec.sl_live hsl
  refine CallP_body1 ins_isf rfl fun F n hF hro => ?_
  intro n0 w0 env a w Qr hr hkk
  obtain ⟨xs, hown0, hvals, hrows⟩ := hr.mem.vec i v hv hl
  have hown := hown0.s (Vec.sl_T hsl)
  rw [hT, hk] at hown hown0
  obtain ⟨ao, c, hh, hnc, hcm⟩ := hown.slice
  have e0 := (hr.ev (.tmp 0)).1
  have e1 := (hr.ev (.tmp 1)).1
  have e2 := (hr.ev (.tmp 2)).1
  change AV.holds env w (kss V) (.own i v.ver) (a.eval (.tmp 0)) at e0
  change AV.holds env w (kss V) (.cv (.val (.int .i64 q))) (a.eval (.tmp 1)) at e1
  change AV.holds env w (kss V) (.cv (.row 7 [x])) (a.eval (.tmp 2)) at e2
  simp only [AV.holds, CV.holds, List.cons_ne_nil, false_or, List.length_singleton] at e0 e1 e2
  obtain ⟨ro, rc, e2, hrc, hrcm, rb, roff, rfl, hrS, hrr⟩ := e2
  simp only [CV.rows, and_true] at hrr
  obtain ⟨vs, hvs, hvl, hvc⟩ := CV.cells.vals hrr.2
  have hsz : a.tmps.size = 95 := by have := hr.tm.length; simpa using this
  have hs : Sl 95 a [(0, .slice ao v.es.length c), (1, .int .i64 q), (2, .slice (some ⟨rb, roff, none⟩) 1 rc)] := by
    refine ⟨hsz, fun d u hd => ?_⟩
    simp only [lkv] at hd
    split at hd
    · rename_i h; subst h; cases hd; rw [← hh]; exact e0.1
    split at hd
    · rename_i h; subst h; cases hd; exact e1.1
    split at hd
    · rename_i h; subst h; cases hd; exact e2
    · cases hd
  have hq : q ≤ v.es.length := by omega
  have hxs : xs.length = v.es.length * 7 := hown.len
  have hvl' : vs.length = 7 := by rw [hvl, hrr.1]
  have h1v : ∀ u ∈ vs, u.oneCell' = true := CV.vals.one hvs
  have h1x : ∀ u ∈ xs, u.oneCell' = true := CV.vals.one hvals
  have hfit' : (v.es.length + 1) * 56 ≤ 140737488355328 ∧ v.es.length + 1 ≤ maxLen := by
    unfold fitA at hfit; simp only [Bool.and_eq_true, decide_eq_true_eq] at hfit; exact hfit
  have hmax : maxLen = 9223372036854775807 := rfl
  obtain ⟨D, hd0⟩ : ∃ D, a.defers = D := ⟨_, rfl⟩
  have hdf := hd0
  have hflat : (v.es.take q).flatten.length = q * 7 := by
    have : ∀ (l : List (List CV)), (∀ y ∈ l, y.length = 7) → l.flatten.length = l.length * 7 := by
      intro l
      induction l with
      | nil => intro _; simp
      | cons y l ih => intro hl; simp [hl y (by simp), ih fun x hx => hl x (by simp [hx]), Nat.add_mul]; omega
    rw [this _ fun y hy => by rw [← hk]; exact hrows y (List.mem_of_mem_take hy), List.length_take, Nat.min_eq_left hq]
  have hsp : v.es.flatten = (v.es.take q).flatten ++ (v.es.drop q).flatten := by rw [← List.flatten_append, List.take_append_drop]
  have fin : ∀ (a' : Act) (w' : World) (l : List (Nat × Value)) (v' : Value), a'.defers = D → Sl 95 a' l → lkv l 6 = some v' →
      OwnsV w' n0 34 7 v' (v.es.length + 1) (xs.take (q * 7) ++ vs ++ xs.drop (q * 7)) → w.grownBy w' (oblk (env.hdr i v.ver)) → (oblk v' = oblk (env.hdr i v.ver) ∨ ∀ g, oblk v' = some g → w.heap.size ≤ g) → Qr .ret a' w' := by
    intro a' w' l v' hdf hs h6 hown' hgr hbl
    have hvals' : CV.vals w env.S (v.es.take q ++ x :: v.es.drop q).flatten (xs.take (q * 7) ++ vs ++ xs.drop (q * 7)) := by
      rw [hsp] at hvals
      have h2 := vals_splits hvals
      rw [hflat] at h2
      have := CV.vals.append (CV.vals.append h2.1 hvs) h2.2
      simpa [List.flatten_append] using this
    obtain ⟨env', m1, m2, m3, _⟩ := hr.mem.vecStep (w' := w') hv hl v' (v.es.take q ++ x :: v.es.drop q) (xs.take (q * 7) ++ vs ++ xs.drop (q * 7))
      (by rw [hT, hk]; simpa [Nat.min_eq_left hq, show q + (v.es.length - q + 1) = v.es.length + 1 by omega] using hown') hvals'
      (by intro y hy; rw [hk]; rcases List.mem_append.1 hy with hy | hy
          · rw [← hk]; exact hrows y (List.mem_of_mem_take hy)
          · rcases List.mem_cons.1 hy with rfl | hy
            · exact hxl
            · rw [← hk]; exact hrows y (List.mem_of_mem_drop hy))
      hgr hbl
    have hil := (List.getElem?_eq_some_iff.1 hv).1
    let V' : List Vec := V.set i ⟨v.live, v.T, v.k, v.ver + 1, v.es.take q ++ x :: v.es.drop q⟩
    have hsc : AV.sco B.length (vers V') (.own i (v.ver + 1)) := by simp [AV.sco, V', vers, List.getD, hil]
    have hrel : Rel n0 w0 env' ⟨mkT 95 [(6, .own i (v.ver + 1))], B, V'⟩ a' w' := by
      refine ⟨all_one hs h6 (by simp only [AV.holds]; exact ⟨m3.symm, hown'.one⟩), ?_, m1⟩
      rw [AV.scos_iff]
      intro y hy
      simp only [mkT, List.mem_map, List.mem_range] at hy
      obtain ⟨d, _, rfl⟩ := hy
      simp only [lk]
      split
      · exact hsc
      · simp [AV.sco]
    exact hkk .ret env' _ a' w' ⟨.inr rfl, .own i (v.ver + 1), rfl, rfl, rfl, by simp [V']⟩ hrel (hdf.trans hd0.symm) m2
  refine raw_reg ?_
  refine raw_gen hF hs rfl rfl (by decide) (by intro c h; cases h) (RunL_assign rfl rfl _) fun a hd hs => ?_; replace hdf := hd.trans hdf
  refine wpListIn_nil ⟨rfl, ?_⟩
  refine raw_reg ?_
  refine raw_gen hF hs rfl rfl (by decide) (by intro c h; cases h) (RunL_move rfl rfl _) fun a hd hs => ?_; replace hdf := hd.trans hdf
  refine raw_gen hF hs rfl rfl (by decide) (by intro c h; cases h) (RunL_move rfl rfl _) fun a hd hs => ?_; replace hdf := hd.trans hdf
  refine raw_gen hF hs rfl rfl (by decide) (by intro c h; cases h) (RunL_lo ins_u ins_sz rfl rfl rfl (by omega) (by omega) _) fun a hd hs => ?_; replace hdf := hd.trans hdf
  refine wpListIn_nil ⟨rfl, ?_⟩
  refine raw_reg ?_
  refine raw_gen hF hs rfl rfl (by decide) (by intro c h; cases h) (RunL_move rfl rfl _) fun a hd hs => ?_; replace hdf := hd.trans hdf
  refine raw_gen hF hs rfl rfl (by decide) (by intro c h; cases h) (RunL_len ins_u rfl rfl _) fun a hd hs => ?_; replace hdf := hd.trans hdf
  refine raw_gen hF hs rfl rfl (by decide) (by intro c h; cases h) (RunL_assign rfl rfl _) fun a hd hs => ?_; replace hdf := hd.trans hdf
  refine wpListIn_nil ⟨rfl, ?_⟩
  refine raw_if ?_
  refine raw_gen hF hs rfl rfl (by decide) (by intro c h; cases h) (RunL_move rfl rfl _) fun a hd hs => ?_; replace hdf := hd.trans hdf
  refine raw_gen hF hs rfl rfl (by decide) (by intro c h; cases h) (RunL_eq rfl rfl rfl _) fun a hd hs => ?_; replace hdf := hd.trans hdf
  refine wpListIn_nil ⟨rfl, wpIn_cond_split (hs.env _ _ rfl) (fun h => by simp at h) fun _ => wpIn_skip ?_⟩
  refine raw_reg ?_
  refine raw_gen hF hs rfl rfl (by decide) (by intro c h; cases h) (RunL_move rfl rfl _) fun a hd hs => ?_; replace hdf := hd.trans hdf
  refine raw_gen hF hs rfl rfl (by decide) (by intro c h; cases h) (RunL_len ins_u rfl rfl _) fun a hd hs => ?_; replace hdf := hd.trans hdf
  refine raw_gen hF hs rfl rfl (by decide) (by intro c h; cases h) (RunL_assign rfl rfl _) fun a hd hs => ?_; replace hdf := hd.trans hdf
  refine wpListIn_nil ⟨rfl, ?_⟩
  refine raw_if ?_
  refine raw_gen hF hs rfl rfl (by decide) (by intro c h; cases h) (RunL_move rfl rfl _) fun a hd hs => ?_; replace hdf := hd.trans hdf
  refine raw_gen hF hs rfl rfl (by decide) (by intro c h; cases h) (RunL_move rfl rfl _) fun a hd hs => ?_; replace hdf := hd.trans hdf
  refine raw_gen hF hs rfl rfl (by decide) (by intro c h; cases h) (RunL_eq rfl rfl rfl _) fun a hd hs => ?_; replace hdf := hd.trans hdf
  obtain ⟨ti, tz, hti, htz, hts, htb, htc⟩ := ins_info
  refine wpListIn_nil ⟨rfl, wpIn_cond_split (hs.env _ _ rfl) (fun h => ?_) fun h => wpIn_skip ?_⟩
  · have hq0 : (q : Int) = v.es.length := eq_of_beq h
    have hq' : q = v.es.length := by omega
    obtain ⟨v', w', hrun, ho, hgr, hbl⟩ := append_own (P := Try.prog) w n0 24 24 34 ti tz 7 56 ins_u hti htz hts htb htc (by decide) _ _ _ hown (by decide) (some ⟨rb, roff, none⟩) 1 rc vs (by omega) (fun h => by cases h)
      (fun a ha j u hj => by cases ha; rw [addr_add]; exact hvc j u hj) h1v hfit'.2 hfit'.1 hr.mem.base
    rw [hh] at hrun
    refine raw_reg ?_
    refine raw_gen hF hs rfl rfl (by decide) (by intro c h; cases h) (RunL_move rfl rfl _) fun a hd hs => ?_; replace hdf := hd.trans hdf
    refine raw_gen hF hs rfl rfl (by decide) (by intro c h; cases h) (RunL_move rfl rfl _) fun a hd hs => ?_; replace hdf := hd.trans hdf
    refine raw_gen hF hs rfl rfl (by decide) (by intro c h; cases h) (RunL_append rfl rfl rfl hrun) fun a hd hs => ?_; replace hdf := hd.trans hdf
    refine raw_gen hF hs rfl rfl (by decide) (by intro c h; cases h) (RunL_assign rfl rfl _) fun a hd hs => ?_; replace hdf := hd.trans hdf
    refine wpListIn_nil ⟨rfl, wpIn_ret (fin _ _ _ v' hdf hs rfl ?_ hgr hbl)⟩
    rw [hq', ← hxs, List.take_length, List.drop_length, List.append_nil]
    exact ho
  have hql : q < v.es.length := by
    have : ¬ q = v.es.length := by intro hc; rw [hc] at h; simp at h
    omega
  rcases hown with ⟨a', _, h2, _⟩ | ⟨⟨h0, h1⟩, g, hg, hg'⟩
  · omega
  rcases h1 with ⟨_, h2⟩ | ⟨g1, cap, cur, h1, hbase, hheap, hle, hcap, hcs, htake⟩
  · omega
  rw [hh] at h1 hg hg'
  obtain ⟨rfl, rfl⟩ : ao = some ⟨g1, 0, none⟩ ∧ c = cap := by injection h1 with a1 a2 a3; exact ⟨a1, a3⟩
  have hgg : g = g1 := by simpa [Value.ownBlock] using hg'.symm
  subst hgg
  have hob : oblk (env.hdr i v.ver) = some g := by rw [hh]; exact hg
  have hne : rb ≠ g := fun hc => hr.mem.vecS i v g hv hl hob (hc ▸ hrS)
  have hgl : g < w.heap.size := (Array.getElem?_eq_some_iff.1 hheap).1
  have hcapl : v.es.length * 7 ≤ cur.toList.length := by
    rw [Array.length_toList, hcs]; exact Nat.mul_le_mul_right _ hle
  obtain ⟨m, hm⟩ : ∃ m, v.es.length = q + m := ⟨v.es.length - q, by omega⟩
  have hxl' : xs.length = q * 7 + m * 7 := by rw [hxs, hm, Nat.add_mul]
  have htake' : cur.toList.take (q * 7 + m * 7) = xs := by rw [← Nat.add_mul, ← hm]; exact htake
  obtain ⟨rcur, rT, rfz, hrow⟩ : ∃ rcur rT rfz, w.heap[rb]? = some (.cells rcur rT rfz) := by
    have := hvc 0 vs[0] (by simp)
    simp only [World.cell?, Nat.add_zero] at this
    split at this
    · rename_i c1 t1 f1 hc1; exact ⟨c1, t1, f1, hc1⟩
    · cases this
  have hrcur : ∀ j u, vs[j]? = some u → rcur[roff + j]? = some u := fun j u hj => by
    have := hvc j u hj
    simpa [World.cell?, hrow] using this
  have hrne : rcur.size ≠ 0 := by
    have := hrcur 0 vs[0] (by simp)
    have := (Array.getElem?_eq_some_iff.1 this).1
    omega
  refine raw_if ?_
  refine raw_gen hF hs rfl rfl (by decide) (by intro c h; cases h) (RunL_move rfl rfl _) fun a hd hs => ?_; replace hdf := hd.trans hdf
  refine raw_gen hF hs rfl rfl (by decide) (by intro c h; cases h) (RunL_move rfl rfl _) fun a hd hs => ?_; replace hdf := hd.trans hdf
  refine raw_gen hF hs rfl rfl (by decide) (by intro c h; cases h) (RunL_add rfl rfl rfl (by omega) _) fun a hd hs => ?_; replace hdf := hd.trans hdf
  refine raw_gen hF hs rfl rfl (by decide) (by intro c h; cases h) (RunL_move rfl rfl _) fun a hd hs => ?_; replace hdf := hd.trans hdf
  refine raw_gen hF hs rfl rfl (by decide) (by intro c h; cases h) (RunL_cap ins_u rfl rfl _) fun a hd hs => ?_; replace hdf := hd.trans hdf
  refine raw_gen hF hs rfl rfl (by decide) (by intro c h; cases h) (RunL_gt rfl rfl rfl _) fun a hd hs => ?_; replace hdf := hd.trans hdf
  refine wpListIn_nil ⟨rfl, wpIn_cond_split (hs.env _ _ rfl) (fun h => ?_) fun h => wpIn_skip ?_⟩
  ·
    have hroom : c < v.es.length + 1 := by
      have := of_decide_eq_true h
      omega
    have hL : q + (v.es.length + 1 - q) = v.es.length + 1 := by omega
    have hqk : q * 7 ≤ xs.length := by rw [hxl']; omega
    have hold : (Builtin.firstCells ti.size q (.slice (some ⟨g, 0, none⟩) q c)).run Try.prog w.drew = .ok (xs.take (q * 7)).toArray w.drew := by
      rw [hts]
      refine run_firstCells_some w.drew 7 q ⟨g, 0, none⟩ q c (xs.take (q * 7)) (by rw [List.length_take]; omega) (fun j u hj => ?_)
      rw [cell_at (w := w.drew) hheap, ← Array.getElem?_toList, Nat.zero_add]
      rw [List.getElem?_take] at hj
      split at hj
      · rw [← htake', List.getElem?_take] at hj
        split at hj
        · exact hj
        · cases hj
      · cases hj
    have hz := Lib.run_append_grow_zeros (P := Try.prog) w 24 3 24 34 ti tz .i64 .i64 ins_u ins_ui hti htz (some ⟨g, 0, none⟩) q c (xs.take (q * 7)) hold (v.es.length + 1 - q) (by omega) (by rw [hts]; decide) (by omega) (by omega)
      (by rw [htb]; have := Nat.mul_le_mul_right 56 (show v.es.length + 1 - q ≤ v.es.length + 1 by omega); omega) (by rw [htb, hL]; exact growslice_fits hroom hfit'.1)
    rw [hL] at hz
    obtain ⟨G, hG⟩ : ∃ G, G = grownCap w (v.es.length + 1) c 34 := ⟨_, rfl⟩
    have hGn : v.es.length + 1 ≤ G := by rw [hG]; exact grownCap_ge w _ _ _
    have hGm : G ≤ maxLen := by rw [hG]; exact grownCap_le_maxLen w _ _ _ hfit'.2
    obtain ⟨R, hR⟩ : ∃ R : Array Value, R = (xs.take (q * 7)).toArray ++ Builtin.zeroCells tz.cells (v.es.length + 1 - q) ++ Builtin.zeroCells tz.cells (G - (v.es.length + 1)) := ⟨_, rfl⟩
    rw [← hG, ← hR] at hz
    have hRs : R.size = G * 7 := by
      rw [hR]
      simp only [Array.size_append, List.size_toArray, size_zeroCells, htc, List.length_take, Nat.min_eq_left hqk]
      rw [← Nat.add_mul, ← Nat.add_mul]
      congr 1
      omega
    have hRt : R.toList.take (q * 7) = xs.take (q * 7) := by
      rw [hR]
      simp only [Array.toList_append, List.append_assoc]
      rw [List.take_append_of_le_length (by rw [List.length_take]; omega), List.take_take, Nat.min_self]
    obtain ⟨W1, hW1⟩ : ∃ W1, W1 = w.drew.alloc (.cells R 34) := ⟨_, rfl⟩
    rw [← hW1] at hz
    obtain ⟨g', hg2⟩ : ∃ g', g' = w.heap.size := ⟨_, rfl⟩
    rw [← hg2] at hz
    have hn1 : W1.heap[g']? = some (.cells R 34 (0, 0)) := by rw [hW1, hg2]; exact heap_alloc_new w.drew _
    have ho1 : ∀ b, b < w.heap.size → W1.heap[b]? = w.heap[b]? := fun b hb => by rw [hW1]; exact heap_alloc_old w.drew _ hb
    have hrbl : rb < w.heap.size := (Array.getElem?_eq_some_iff.1 hrow).1
    have hRl : q * 7 + 7 + m * 7 ≤ R.toList.length := by
      rw [Array.length_toList, hRs]
      have : (q + m + 1) * 7 ≤ G * 7 := Nat.mul_le_mul_right _ (by omega)
      simp only [Nat.add_mul] at this
      omega
    have hc1 := run_copyK (P := Try.prog) W1 24 24 3 34 g' (0 + q * 7) (v.es.length + 1 - q) (G - q) ⟨rb, roff, none⟩ 1 rc 1 7 R 34 vs ins_u ins_sz hn1
      (by simp only [Nat.min_def]; split <;> omega) (by omega)
      (fun j u hj => by
        rw [cell_at (w := W1) (g := rb) (cur := rcur) (t := rT) (fz := rfz) (by rw [ho1 _ hrbl]; exact hrow)]
        exact hrcur j u hj)
      (by rw [← Array.length_toList]; omega) h1v
    obtain ⟨R1, hR1⟩ : ∃ R1 : Array Value, R1 = (R.toList.take (0 + q * 7) ++ vs ++ R.toList.drop (0 + q * 7 + vs.length)).toArray := ⟨_, rfl⟩
    rw [← hR1] at hc1
    have hR1' : R1.toList = R.toList.take (q * 7) ++ vs ++ R.toList.drop (q * 7 + 7) := by rw [hR1, hvl']; simp only [Nat.zero_add]
    have hR1l : R1.size = R.size := by
      rw [← Array.length_toList, hR1', ← Array.length_toList]
      simp only [List.length_append, List.length_take, List.length_drop]
      omega
    have hlists := ins_lists2 R.toList xs vs (q * 7) 7 (m * 7) hvl' hxl' hRt hRl
    obtain ⟨W2, hW2⟩ : ∃ W2 : World, W2 = { W1.setRow g' R1 with drawn := (W1.setRow g' R1).drawn + 1 } := ⟨_, rfl⟩
    have hn2 : W2.heap[g']? = some (.cells R1 34 (0, 0)) := by rw [hW2]; exact setRowS (w := W1) hn1
    have ho2 : ∀ b, b < w.heap.size → W2.heap[b]? = w.heap[b]? := fun b hb => by rw [hW2]; exact (setRowO (w := W1) (by omega)).trans (ho1 b hb)
    have hc2 := run_copyK (P := Try.prog) W2 24 24 3 34 g' (0 + (q + 1) * 7) (v.es.length + 1 - (q + 1)) (G - (q + 1)) ⟨g, 0 + q * 7, none⟩ (v.es.length - q) (c - q) m 7 R1 34 (xs.drop (q * 7)) ins_u ins_sz hn2
      (by simp only [Nat.min_def]; split <;> omega) (by simp only [List.length_drop]; omega)
      (fun j u hj => by
        rw [cell_at (w := W2) (by rw [ho2 _ hgl]; exact hheap), ← Array.getElem?_toList]
        rw [List.getElem?_drop] at hj
        rw [← htake', List.getElem?_take] at hj
        split at hj
        · rw [Nat.zero_add]; exact hj
        · cases hj)
      (by simp only [List.length_drop]
          rw [hR1l, ← Array.length_toList]
          simp only [Nat.add_mul]
          omega) (fun u hu => h1x u (List.mem_of_mem_drop hu))
    obtain ⟨R2, hR2⟩ : ∃ R2 : Array Value, R2 = (R1.toList.take (0 + (q + 1) * 7) ++ xs.drop (q * 7) ++ R1.toList.drop (0 + (q + 1) * 7 + (xs.drop (q * 7)).length)).toArray := ⟨_, rfl⟩
    rw [← hR2] at hc2
    have hR2' : R2.toList = R1.toList.take (q * 7 + 7) ++ xs.drop (q * 7) ++ R1.toList.drop (q * 7 + 7 + m * 7) := by
      rw [hR2]
      have e1 : 0 + (q + 1) * 7 = q * 7 + 7 := by rw [Nat.add_mul]; omega
      have e2 : (xs.drop (q * 7)).length = m * 7 := by simp only [List.length_drop]; omega
      rw [e1, e2]
    rw [hR1'] at hR2'
    have hlists' : R2.toList.take (q * 7 + 7 + m * 7) = xs.take (q * 7) ++ vs ++ xs.drop (q * 7) ∧ R2.toList.length = R.toList.length := by rw [hR2']; exact hlists
    have hn3 : (W2.setRow g' R2).heap[g']? = some (.cells R2 34 (0, 0)) := setRowS hn2
    have hcpos : ∃ c', G = c' + 1 := ⟨G - 1, by omega⟩
    have hoc : ∀ n, oblk (.slice (some ⟨g', 0, none⟩) n G) = some g' := fun n => by obtain ⟨c', rfl⟩ := hcpos; rfl
    refine raw_reg ?_
    refine raw_gen hF hs rfl rfl (by decide) (by intro c h; cases h) (RunL_move rfl rfl _) fun a hd hs => ?_; replace hdf := hd.trans hdf
    refine raw_gen hF hs rfl rfl (by decide) (by intro c h; cases h) (RunL_move rfl rfl _) fun a hd hs => ?_; replace hdf := hd.trans hdf
    refine raw_gen hF hs rfl rfl (by decide) (by intro c h; cases h) (RunL_hi ins_u ins_sz rfl rfl rfl (by omega) (by omega) (by simp [Addr.add]) _) fun a hd hs => ?_; replace hdf := hd.trans hdf
    refine raw_gen hF hs rfl rfl (by decide) (by intro c h; cases h) (RunL_move rfl rfl _) fun a hd hs => ?_; replace hdf := hd.trans hdf
    refine raw_gen hF hs rfl rfl (by decide) (by intro c h; cases h) (RunL_move rfl rfl _) fun a hd hs => ?_; replace hdf := hd.trans hdf
    refine raw_gen hF hs rfl rfl (by decide) (by intro c h; cases h) (RunL_add rfl rfl rfl (by omega) _) fun a hd hs => ?_; replace hdf := hd.trans hdf
    refine raw_gen hF hs rfl rfl (by decide) (by intro c h; cases h) (RunL_move rfl rfl _) fun a hd hs => ?_; replace hdf := hd.trans hdf
    refine raw_gen hF hs rfl rfl (by decide) (by intro c h; cases h) (RunL_sub rfl rfl rfl (by omega) (by omega) _) fun a hd hs => ?_; replace hdf := hd.trans hdf
    refine raw_gen hF hs rfl rfl (by decide) (by intro c h; cases h) (RunL_append rfl rfl rfl hz) fun a hd hs => ?_; replace hdf := hd.trans hdf
    refine raw_gen hF hs rfl rfl (by decide) (by intro c h; cases h) (RunL_assign rfl rfl _) fun a hd hs => ?_; replace hdf := hd.trans hdf
    refine wpListIn_nil ⟨rfl, ?_⟩
    refine raw_reg ?_
    refine raw_gen hF hs rfl rfl (by decide) (by intro c h; cases h) (RunL_move rfl rfl _) fun a hd hs => ?_; replace hdf := hd.trans hdf
    refine raw_gen hF hs rfl rfl (by decide) (by intro c h; cases h) (RunL_move rfl rfl _) fun a hd hs => ?_; replace hdf := hd.trans hdf
    refine raw_gen hF hs rfl rfl (by decide) (by intro c h; cases h) (RunL_lo' ins_u ins_sz rfl rfl rfl (by omega) (by omega) (by omega) _) fun a hd hs => ?_; replace hdf := hd.trans hdf
    refine raw_gen hF hs rfl rfl (by decide) (by intro c h; cases h) (RunL_move rfl rfl _) fun a hd hs => ?_; replace hdf := hd.trans hdf
    refine raw_gen hF hs rfl rfl (by decide) (by intro c h; cases h) (RunL_copy rfl rfl rfl hc1) fun a hd hs => ?_; replace hdf := hd.trans hdf
    refine wpListIn_nil ⟨rfl, ?_⟩
    refine raw_draw hro ins_mixed ?_
    rw [← hW2]
    refine raw_take hro (i := 0) hs rfl (by kernel_rfl) (by kernel_rfl) (by kernel_rfl) (by rintro c a w ⟨h, _⟩; cases h) rfl rfl (by decide) (fun _ _ => rfl) (fun _ => RunL_move rfl rfl _) fun a hd hs => ?_; replace hdf := hd.trans hdf
    refine raw_take hro (i := 1) hs rfl (by kernel_rfl) (by kernel_rfl) (by kernel_rfl) (by rintro c a w ⟨h, _⟩; cases h) rfl rfl (by decide) (fun _ _ => rfl) (fun _ => RunL_move rfl rfl _) fun a hd hs => ?_; replace hdf := hd.trans hdf
    refine raw_take hro (i := 2) hs rfl (by kernel_rfl) (by kernel_rfl) (by kernel_rfl) (by rintro c a w ⟨h, _⟩; cases h) rfl rfl (by decide) (fun _ _ => rfl) (fun _ => RunL_move rfl rfl _) fun a hd hs => ?_; replace hdf := hd.trans hdf
    refine raw_take hro (i := 3) hs rfl (by kernel_rfl) (by kernel_rfl) (by kernel_rfl) (by rintro c a w ⟨h, _⟩; cases h) rfl rfl (by decide) (fun _ _ => rfl) (fun _ => RunL_add rfl rfl rfl (by omega) _) fun a hd hs => ?_; replace hdf := hd.trans hdf
    refine raw_take hro (i := 4) hs rfl (by kernel_rfl) (by kernel_rfl) (by kernel_rfl) (by rintro c a w ⟨h, _⟩; cases h) rfl rfl (by decide) (fun _ _ => rfl) (fun _ => RunL_lo' ins_u ins_sz rfl rfl rfl (by omega) (by omega) (by omega) _) fun a hd hs => ?_; replace hdf := hd.trans hdf
    refine raw_take hro (i := 5) hs rfl (by kernel_rfl) (by kernel_rfl) (by kernel_rfl) (by rintro c a w ⟨h, _⟩; cases h) rfl rfl (by decide) (fun _ _ => rfl) (fun _ => RunL_move rfl rfl _) fun a hd hs => ?_; replace hdf := hd.trans hdf
    refine raw_take hro (i := 6) hs rfl (by kernel_rfl) (by kernel_rfl) (by kernel_rfl) (by rintro c a w ⟨h, _⟩; cases h) rfl rfl (by decide) (fun _ _ => rfl) (fun _ => RunL_move rfl rfl _) fun a hd hs => ?_; replace hdf := hd.trans hdf
    refine raw_take hro (i := 7) hs rfl (by kernel_rfl) (by kernel_rfl) (by kernel_rfl) (by rintro c a w ⟨h, _⟩; cases h) rfl rfl (by decide) (fun _ _ => rfl) (fun _ => RunL_lo' ins_u ins_sz rfl rfl rfl (by omega) (by omega) (by omega) _) fun a hd hs => ?_; replace hdf := hd.trans hdf
    refine raw_last hF (i := 8) hs rfl (by kernel_rfl) (by kernel_rfl) rfl rfl (by decide) (by intro c h; cases h) (RunL_copy rfl rfl rfl hc2) fun a hd hs => ?_; replace hdf := hd.trans hdf
    refine ⟨rfl, ?_⟩
    refine raw_reg ?_
    refine raw_gen hF hs rfl rfl (by decide) (by intro c h; cases h) (RunL_move rfl rfl _) fun a hd hs => ?_; replace hdf := hd.trans hdf
    refine raw_gen hF hs rfl rfl (by decide) (by intro c h; cases h) (RunL_assign rfl rfl _) fun a hd hs => ?_; replace hdf := hd.trans hdf
    refine wpListIn_nil ⟨rfl, wpIn_ret (fin _ _ _ _ hdf hs rfl ?_ ?_ (.inr ?_))⟩
    · refine .inl ⟨by decide, .inr ⟨⟨?_, .inr ⟨g', G, R2, rfl, by rw [hg2]; exact hr.mem.base, hn3, hGn, hGm, ?_, ?_⟩⟩, g', hoc _, rfl⟩⟩
      · simp only [List.length_append, List.length_take, List.length_drop, hvl', hxl', hm, Nat.add_mul]; omega
      · rw [← Array.length_toList, hlists'.2, Array.length_toList, hRs]
      · rw [← hlists'.1, hm]; congr 1; simp only [Nat.add_mul]; omega
    · refine ⟨by rw [hW2, hW1]; rfl, by rw [hW2, hW1]; rfl, by rw [hW2, hW1]; rfl, by rw [setRowZ, hW2]; show w.heap.size ≤ (W1.setRow g' R1).heap.size; rw [setRowZ, hW1]; simp, fun b hb hbn => ?_⟩
      rw [setRowO (by omega), ho2 b hb]
    · intro b hb
      rw [hoc] at hb
      cases hb
      omega
  · have hroom : v.es.length + 1 ≤ c := by
      have := of_decide_eq_false h
      omega
    refine raw_reg ?_
    refine raw_gen hF hs rfl rfl (by decide) (by intro c h; cases h) (RunL_move rfl rfl _) fun a hd hs => ?_; replace hdf := hd.trans hdf
    refine raw_gen hF hs rfl rfl (by decide) (by intro c h; cases h) (RunL_move rfl rfl _) fun a hd hs => ?_; replace hdf := hd.trans hdf
    refine raw_gen hF hs rfl rfl (by decide) (by intro c h; cases h) (RunL_move rfl rfl _) fun a hd hs => ?_; replace hdf := hd.trans hdf
    refine raw_gen hF hs rfl rfl (by decide) (by intro c h; cases h) (RunL_add rfl rfl rfl (by omega) _) fun a hd hs => ?_; replace hdf := hd.trans hdf
    refine raw_gen hF hs rfl rfl (by decide) (by intro c h; cases h) (RunL_hi ins_u ins_sz rfl rfl rfl (by omega) (by omega) (by simp [Addr.add]) _) fun a hd hs => ?_; replace hdf := hd.trans hdf
    refine raw_gen hF hs rfl rfl (by decide) (by intro c h; cases h) (RunL_assign rfl rfl _) fun a hd hs => ?_; replace hdf := hd.trans hdf
    refine wpListIn_nil ⟨rfl, ?_⟩
    refine raw_if ?_
    refine raw_gen hF hs rfl rfl (by decide) (by intro c h; cases h) (RunL_move rfl rfl _) fun a hd hs => ?_; replace hdf := hd.trans hdf
    refine raw_gen hF hs rfl rfl (by decide) (by intro c h; cases h) (RunL_move rfl rfl _) fun a hd hs => ?_; replace hdf := hd.trans hdf
    refine raw_gen hF hs rfl rfl (by decide) (by intro c h; cases h) (RunL_move rfl rfl _) fun a hd hs => ?_; replace hdf := hd.trans hdf
    refine raw_gen hF hs rfl rfl (by decide) (by intro c h; cases h) (RunL_move rfl rfl _) fun a hd hs => ?_; replace hdf := hd.trans hdf
    refine raw_gen hF hs rfl rfl (by decide) (by intro c h; cases h) (RunL_add rfl rfl rfl (by omega) _) fun a hd hs => ?_; replace hdf := hd.trans hdf
    refine raw_gen hF hs rfl rfl (by decide) (by intro c h; cases h) (RunL_lo' ins_u ins_sz rfl rfl rfl (by omega) (by omega) (by omega) _) fun a hd hs => ?_; replace hdf := hd.trans hdf
    refine raw_gen hF hs rfl rfl (by decide) (by intro c h; cases h) (RunL_ext rfl rfl rfl (ins_ov _ ⟨rb, roff, none⟩ ⟨g, 0 + (q + 1) * 7, none⟩ _ _ _ _ hne rcur cur rT _ rfz hrow hrne hheap)) fun a hd hs => ?_; replace hdf := hd.trans hdf
    refine raw_gen hF hs rfl rfl (by decide) (by intro c h; cases h) (RunL_not rfl rfl _) fun a hd hs => ?_; replace hdf := hd.trans hdf
    refine wpListIn_nil ⟨rfl, wpIn_cond_split (hs.env _ _ rfl) (fun h => ?_) (fun h => by simp at h)⟩
    obtain ⟨w1, hw1⟩ : ∃ w1 : World, w1 = { w with drawn := w.drawn + 1 } := ⟨_, rfl⟩
    have hheap1 : ∀ b : Nat, w1.heap[b]? = w.heap[b]? := fun b => by rw [hw1]
    have hc1 := run_copyK (P := Try.prog) w1 24 24 3 34 g (0 + (q + 1) * 7) (v.es.length + 1 - (q + 1)) (c - (q + 1)) ⟨g, 0 + q * 7, none⟩ (v.es.length + 1 - q) (c - q) m 7 cur 34 (xs.drop (q * 7)) ins_u ins_sz (by rw [hheap1]; exact hheap)
      (by simp only [Nat.min_def]; split <;> omega) (by simp only [List.length_drop]; omega)
      (fun j u hj => by
        rw [cell_at (by rw [hheap1]; exact hheap), ← Array.getElem?_toList]
        rw [List.getElem?_drop] at hj
        have hjl := (List.getElem?_eq_some_iff.1 hj).1
        rw [← htake', List.getElem?_take] at hj
        split at hj
        · rw [Nat.zero_add]; exact hj
        · cases hj)
      (by simp only [List.length_drop]
          have : (q + m + 1) * 7 ≤ c * 7 := Nat.mul_le_mul_right _ (by omega)
          simp only [Nat.add_mul] at this ⊢
          omega) (fun u hu => h1x u (List.mem_of_mem_drop hu))
    obtain ⟨cur1, hcur1⟩ : ∃ cur1 : Array Value, cur1 = (cur.toList.take (0 + (q + 1) * 7) ++ xs.drop (q * 7) ++ cur.toList.drop (0 + (q + 1) * 7 + (xs.drop (q * 7)).length)).toArray := ⟨_, rfl⟩
    rw [← hcur1] at hc1
    have hcl : cur.toList.length = c * 7 := by rw [Array.length_toList, hcs]
    have hcc : q * 7 + 7 + m * 7 ≤ cur.toList.length := by
      rw [hcl]
      have : (q + m + 1) * 7 ≤ c * 7 := Nat.mul_le_mul_right _ (by omega)
      simp only [Nat.add_mul] at this
      omega
    have hlists := ins_lists cur.toList xs vs (q * 7) 7 (m * 7) hvl' hxl' htake' hcc
    have hcur1' : cur1.toList = cur.toList.take (q * 7 + 7) ++ xs.drop (q * 7) ++ cur.toList.drop (q * 7 + 7 + m * 7) := by
      rw [hcur1]
      have e1 : 0 + (q + 1) * 7 = q * 7 + 7 := by rw [Nat.add_mul]; omega
      have e2 : (xs.drop (q * 7)).length = m * 7 := by simp only [List.length_drop]; omega
      rw [e1, e2]
    have hcur1l : cur1.size = cur.size := by
      rw [← Array.length_toList, hcur1', ← Array.length_toList]
      simp only [List.length_append, List.length_take, List.length_drop]
      omega
    have hh2 : (w1.setRow g cur1).heap[g]? = some (.cells cur1 34 (0, 0)) := setRowS (by rw [hheap1]; exact hheap)
    have hc2 := run_copyK (P := Try.prog) (w1.setRow g cur1) 24 24 3 34 g (0 + q * 7) (v.es.length + 1 - q) (c - q) ⟨rb, roff, none⟩ 1 rc 1 7 cur1 34 vs ins_u ins_sz hh2
      (by simp only [Nat.min_def]; split <;> omega) (by omega)
      (fun j u hj => by
        rw [cell_at (w := w1.setRow g cur1) (g := rb) (cur := rcur) (t := rT) (fz := rfz) (by rw [setRowO hne, hheap1]; exact hrow)]
        exact hrcur j u hj)
      (by rw [hcur1l, ← Array.length_toList]; omega) h1v
    obtain ⟨cur2, hcur2⟩ : ∃ cur2 : Array Value, cur2 = (cur1.toList.take (0 + q * 7) ++ vs ++ cur1.toList.drop (0 + q * 7 + vs.length)).toArray := ⟨_, rfl⟩
    rw [← hcur2] at hc2
    have hcur2' : cur2.toList = cur1.toList.take (q * 7) ++ vs ++ cur1.toList.drop (q * 7 + 7) := by rw [hcur2, hvl']; simp only [Nat.zero_add]
    rw [hcur1'] at hcur2'
    have hlists' : cur2.toList.take (q * 7 + 7 + m * 7) = xs.take (q * 7) ++ vs ++ xs.drop (q * 7) ∧ cur2.toList.length = cur.toList.length := by rw [hcur2']; exact hlists
    have hheap2 : ((w1.setRow g cur1).setRow g cur2).heap[g]? = some (.cells cur2 34 (0, 0)) := setRowS hh2
    have hcpos : ∃ c', c = c' + 1 := ⟨c - 1, by omega⟩
    have hoc : ∀ n, oblk (.slice (some ⟨g, 0, none⟩) n c) = some g := fun n => by obtain ⟨c', rfl⟩ := hcpos; rfl
    refine raw_draw hro ins_mixed ?_
    rw [← hw1]
    refine raw_take hro (i := 0) hs rfl (by kernel_rfl) (by kernel_rfl) (by kernel_rfl) (by rintro c a w ⟨h, _⟩; cases h) rfl rfl (by decide) (fun _ _ => rfl) (fun _ => RunL_move rfl rfl _) fun a hd hs => ?_; replace hdf := hd.trans hdf
    refine raw_take hro (i := 1) hs rfl (by kernel_rfl) (by kernel_rfl) (by kernel_rfl) (by rintro c a w ⟨h, _⟩; cases h) rfl rfl (by decide) (fun _ _ => rfl) (fun _ => RunL_move rfl rfl _) fun a hd hs => ?_; replace hdf := hd.trans hdf
    refine raw_take hro (i := 2) hs rfl (by kernel_rfl) (by kernel_rfl) (by kernel_rfl) (by rintro c a w ⟨h, _⟩; cases h) rfl rfl (by decide) (fun _ _ => rfl) (fun _ => RunL_move rfl rfl _) fun a hd hs => ?_; replace hdf := hd.trans hdf
    refine raw_take hro (i := 3) hs rfl (by kernel_rfl) (by kernel_rfl) (by kernel_rfl) (by rintro c a w ⟨h, _⟩; cases h) rfl rfl (by decide) (fun _ _ => rfl) (fun _ => RunL_add rfl rfl rfl (by omega) _) fun a hd hs => ?_; replace hdf := hd.trans hdf
    refine raw_take hro (i := 4) hs rfl (by kernel_rfl) (by kernel_rfl) (by kernel_rfl) (by rintro c a w ⟨h, _⟩; cases h) rfl rfl (by decide) (fun _ _ => rfl) (fun _ => RunL_lo' ins_u ins_sz rfl rfl rfl (by omega) (by omega) (by omega) _) fun a hd hs => ?_; replace hdf := hd.trans hdf
    refine raw_take hro (i := 5) hs rfl (by kernel_rfl) (by kernel_rfl) (by kernel_rfl) (by rintro c a w ⟨h, _⟩; cases h) rfl rfl (by decide) (fun _ _ => rfl) (fun _ => RunL_move rfl rfl _) fun a hd hs => ?_; replace hdf := hd.trans hdf
    refine raw_take hro (i := 6) hs rfl (by kernel_rfl) (by kernel_rfl) (by kernel_rfl) (by rintro c a w ⟨h, _⟩; cases h) rfl rfl (by decide) (fun _ _ => rfl) (fun _ => RunL_move rfl rfl _) fun a hd hs => ?_; replace hdf := hd.trans hdf
    refine raw_take hro (i := 7) hs rfl (by kernel_rfl) (by kernel_rfl) (by kernel_rfl) (by rintro c a w ⟨h, _⟩; cases h) rfl rfl (by decide) (fun _ _ => rfl) (fun _ => RunL_lo' ins_u ins_sz rfl rfl rfl (by omega) (by omega) (by omega) _) fun a hd hs => ?_; replace hdf := hd.trans hdf
    refine raw_last hF (i := 8) hs rfl (by kernel_rfl) (by kernel_rfl) rfl rfl (by decide) (by intro c h; cases h) (RunL_copy rfl rfl rfl hc1) fun a hd hs => ?_; replace hdf := hd.trans hdf
    refine ⟨rfl, ?_⟩
    refine raw_reg ?_
    refine raw_gen hF hs rfl rfl (by decide) (by intro c h; cases h) (RunL_move rfl rfl _) fun a hd hs => ?_; replace hdf := hd.trans hdf
    refine raw_gen hF hs rfl rfl (by decide) (by intro c h; cases h) (RunL_move rfl rfl _) fun a hd hs => ?_; replace hdf := hd.trans hdf
    refine raw_gen hF hs rfl rfl (by decide) (by intro c h; cases h) (RunL_lo' ins_u ins_sz rfl rfl rfl (by omega) (by omega) (by omega) _) fun a hd hs => ?_; replace hdf := hd.trans hdf
    refine raw_gen hF hs rfl rfl (by decide) (by intro c h; cases h) (RunL_move rfl rfl _) fun a hd hs => ?_; replace hdf := hd.trans hdf
    refine raw_gen hF hs rfl rfl (by decide) (by intro c h; cases h) (RunL_copy rfl rfl rfl hc2) fun a hd hs => ?_; replace hdf := hd.trans hdf
    refine wpListIn_nil ⟨rfl, ?_⟩
    refine raw_reg ?_
    refine raw_gen hF hs rfl rfl (by decide) (by intro c h; cases h) (RunL_move rfl rfl _) fun a hd hs => ?_; replace hdf := hd.trans hdf
    refine raw_gen hF hs rfl rfl (by decide) (by intro c h; cases h) (RunL_assign rfl rfl _) fun a hd hs => ?_; replace hdf := hd.trans hdf
    refine wpListIn_nil ⟨rfl, wpIn_ret (fin _ _ _ _ hdf hs rfl ?_ ?_ (.inl ?_))⟩
    · refine .inl ⟨by decide, .inr ⟨⟨?_, .inr ⟨g, c, cur2, rfl, hbase, hheap2, hroom, hcap, ?_, ?_⟩⟩, g, hoc _, rfl⟩⟩
      · simp only [List.length_append, List.length_take, List.length_drop, hvl', hxl', hm, Nat.add_mul]; omega
      · rw [← Array.length_toList, hlists'.2, hcl]
      · rw [← hlists'.1, hm]; congr 1; simp only [Nat.add_mul]; omega
    · rw [hob]
      refine ⟨by rw [hw1]; rfl, by rw [hw1]; rfl, by rw [hw1]; rfl, by rw [setRowZ, setRowZ, hw1]; exact Nat.le_refl _, fun b hb hbn => ?_⟩
      have hbg : b ≠ g := fun hc => hbn (by rw [hc])
      rw [setRowO hbg, setRowO hbg, hheap1]
    · rw [hob, hoc]
end
end Go.Proofs.Ytabhbdehbpmpkaa
namespace Go.Proofs.Ytabhbdehbpmpkaa
open Go Go.Sx
set_option maxRecDepth 100000
noncomputable section
def cloneIt (vs : List CV) : Option (List CV) := match evFO Try.prog (fun _ => none) (fun _ _ => none) fe63 (bodyOf Try.f63) vs with
  | some [.row k es, .fn T []] => some [.row k es, .fn T []]
  | _ => none
def insIt : List CV → Option (List CV)
  | [] => some [.row 7 [], .fn 34 [], .fn 56 []]
  | _ => none
def its : List (Nat × (List CV → Option (List CV))) := [(n_fine_days_c1, daysIt), (n_slices_Clone_Note, cloneIt), (n_slices_Insert_Note, insIt)]
def D (n : Nat) : Den := den Try.prog tb its n
theorem daysIt_ints {caps out : List CV} (h : daysIt caps = some out) : ∃ l : List Int, out = l.map ci := by
  unfold daysIt at h
  split at h
  · split at h
    · cases h; exact ⟨_, rfl⟩
    · cases h
  · cases h
theorem cloneIt_row {caps out : List CV} (h : cloneIt caps = some out) : ∃ k es T, out = [.row k es, .fn T []] := by
  unfold cloneIt at h
  split at h
  · cases h; exact ⟨_, _, _, rfl⟩
  · cases h
theorem insIt_out {caps out : List CV} (h : insIt caps = some out) : caps = [] ∧ out = [.row 7 [], .fn 34 [], .fn 56 []] := by
  unfold insIt at h
  split at h
  · cases h; exact ⟨rfl, rfl⟩
  · cases h
theorem its_ok : ItsOk Try.prog its := by
  intro e he caps out h
  simp only [its, List.mem_cons, List.not_mem_nil, or_false] at he
  rcases he with rfl | rfl | rfl
  · simp only at h
    obtain ⟨l, rfl⟩ := daysIt_ints h
    refine ⟨fun xs hx => days_it caps _ h xs hx, fun k es T hc => ?_, fun k T by_ _ hc => ?_⟩ <;>
    · rcases l with _ | ⟨a, l⟩ <;> simp [ci] at hc
  · simp only at h
    obtain ⟨k0, es0, T0, rfl⟩ := cloneIt_row h
    refine ⟨fun xs hx => by simp [intsOf] at hx, fun k es T hc => ?_, fun k T by_ _ hc => by simp at hc⟩
    simp only [List.cons.injEq, CV.row.injEq, CV.fn.injEq, and_true] at hc
    obtain ⟨⟨rfl, rfl⟩, rfl⟩ := hc
    refine ⟨by kernel_rfl, ?_⟩
    refine evFO_sound (fe := fe63) (c := bodyOf Try.f63) (fn := Try.f63) (Fns.none' _) (Its.none' _) (by kernel_rfl) (by kernel_rfl) (by kernel_rfl) (by kernel_rfl) ?_
    unfold cloneIt at h
    split at h
    · rename_i hh; rw [hh]; exact h
    · cases h
  · simp only at h
    obtain ⟨rfl, rfl⟩ := insIt_out h
    refine ⟨fun xs hx => by simp [intsOf] at hx, fun k es T hc => by simp at hc, fun k T by_ _ hc => ?_⟩
    simp only [List.cons.injEq, CV.row.injEq, CV.fn.injEq, and_true] at hc
    obtain ⟨⟨rfl, _⟩, rfl, rfl⟩ := hc
    exact ⟨by kernel_rfl, ins_P⟩
theorem clone_fo (es : List (List CV)) : evFO Try.prog (fun _ => none) (fun _ _ => none) fe63 (bodyOf Try.f63) [.row 7 es] = retO (nilD es (some (.ret [.row 7 [], .fn 34 []])) (chk (fitA 0 es.length 56) (some (.ret [.row 7 es, .fn 34 []])))) := by kernel_rfl
theorem D_clone (n : Nat) (es : List (List CV)) (h : fitA 0 es.length 56 = true) : D (n + 1) n_slices_Clone_Note [.row 7 es] = some [.row 7 es, .fn 34 []] := by
  show cloneIt [.row 7 es] = _
  have : evFO Try.prog (fun _ => none) (fun _ _ => none) fe63 (bodyOf Try.f63) [.row 7 es] = some [.row 7 es, .fn 34 []] := by
    rw [clone_fo, h]
    cases es with
    | nil => simp [nilD, chk, eqO_self, retO]
    | cons a es => rfl
  unfold cloneIt
  rw [this]
theorem D_ins (n : Nat) : D (n + 1) n_slices_Insert_Note [] = some [.row 7 [], .fn 34 [], .fn 56 []] := rfl
end
end Go.Proofs.Ytabhbdehbpmpkaa
namespace Go.Proofs.Ytabhbdehbpmpkaa
open Go Go.Sx
set_option maxRecDepth 100000
set_option maxHeartbeats 0
noncomputable section
def R_fine_postings (M : Den) (a0_0 a0_1 a0_2 a1 : List (List CV)) : Option Ou :=  blkO 0 (loopD (fun v0 => iteB (decide ((gi v0 0) < (il a1))) (chk (inb (gi v0 0) a1) <| chk (oks [li] (el a1 (gi v0 0)) 0) <| blkO 2 (loopD (fun v1 => iteB (decide ((gi v1 0) < (il a0_1))) (chk (inb (gi v1 0) a0_1) <| chk (oks (List.replicate 9 li) (el a0_1 (gi v1 0)) 0) <| inlO (callO (M n_fine_counts [ci (gi (el a0_1 (gi v1 0)) 7), ci (gi (el a0_1 (gi v1 0)) 8), ci (gi (el a1 (gi v0 0)) 0)]) fun v2 => iteB (!(gb v2 0)) (some (.ret ([CV.row 3 []]))) (callO (M n_fine_due (cat [[CV.row 24 a0_0, CV.row 9 a0_1, CV.row 7 a0_2], cis (el a0_1 (gi v1 0)) 0 9, [ci (gi (el a1 (gi v0 0)) 0)]])) fun v3 => iteB ((gi v3 0) == (-1)) (some (.ret ([CV.row 3 []]))) (chk (okEs [(.int .i64), (.int .i64)] (.int .i64) (entM 2 [ci (gi v3 0), ci 1] (.int .i64 0) (List.set (entM 2 [ci (gi v3 0), ci 0] (.int .i64 0) []) 0 [ci (gi v3 0), ci 0, ci (wr (0 + (gi v3 3)))]))) <| chk ((decide (0 ≤ (Int.ofNat (posM 2 [ci (gi v3 0), ci 1] (List.set (entM 2 [ci (gi v3 0), ci 0] (.int .i64 0) []) 0 [ci (gi v3 0), ci 0, ci (wr (0 + (gi v3 3)))]))))) && (decide ((Int.toNat (Int.ofNat (posM 2 [ci (gi v3 0), ci 1] (List.set (entM 2 [ci (gi v3 0), ci 0] (.int .i64 0) []) 0 [ci (gi v3 0), ci 0, ci (wr (0 + (gi v3 3)))])))) < (List.length (entM 2 [ci (gi v3 0), ci 1] (.int .i64 0) (List.set (entM 2 [ci (gi v3 0), ci 0] (.int .i64 0) []) 0 [ci (gi v3 0), ci 0, ci (wr (0 + (gi v3 3)))])))))) <| seqO (iteB ((gi (el a0_1 (gi v1 0)) 5) != 0) (chk (okEs [(.int .i64), (.int .i64)] (.int .i64) (List.set (entM 2 [ci (gi v3 0), ci 1] (.int .i64 0) (List.set (entM 2 [ci (gi v3 0), ci 0] (.int .i64 0) []) 0 [ci (gi v3 0), ci 0, ci (wr (0 + (gi v3 3)))])) (Int.toNat (Int.ofNat (posM 2 [ci (gi v3 0), ci 1] (List.set (entM 2 [ci (gi v3 0), ci 0] (.int .i64 0) []) 0 [ci (gi v3 0), ci 0, ci (wr (0 + (gi v3 3)))])))) ((List.take 2 (el (entM 2 [ci (gi v3 0), ci 1] (.int .i64 0) (List.set (entM 2 [ci (gi v3 0), ci 0] (.int .i64 0) []) 0 [ci (gi v3 0), ci 0, ci (wr (0 + (gi v3 3)))])) (Int.ofNat (posM 2 [ci (gi v3 0), ci 1] (List.set (entM 2 [ci (gi v3 0), ci 0] (.int .i64 0) []) 0 [ci (gi v3 0), ci 0, ci (wr (0 + (gi v3 3)))]))))) ++ ([ci (wr ((cI (lookM 2 [ci (gi v3 0), ci 1] (.int .i64 0) (List.set (entM 2 [ci (gi v3 0), ci 0] (.int .i64 0) []) 0 [ci (gi v3 0), ci 0, ci (wr (0 + (gi v3 3)))]))) + (gi v3 1)))])))) <| chk (okEs [(.int .i64), (.int .i64)] (.int .i64) (List.set (entM 2 [ci (gi v3 0), ci 1] (.int .i64 0) (List.set (entM 2 [ci (gi v3 0), ci 0] (.int .i64 0) []) 0 [ci (gi v3 0), ci 0, ci (wr (0 + (gi v3 3)))])) (Int.toNat (Int.ofNat (posM 2 [ci (gi v3 0), ci 1] (List.set (entM 2 [ci (gi v3 0), ci 0] (.int .i64 0) []) 0 [ci (gi v3 0), ci 0, ci (wr (0 + (gi v3 3)))])))) ((List.take 2 (el (entM 2 [ci (gi v3 0), ci 1] (.int .i64 0) (List.set (entM 2 [ci (gi v3 0), ci 0] (.int .i64 0) []) 0 [ci (gi v3 0), ci 0, ci (wr (0 + (gi v3 3)))])) (Int.ofNat (posM 2 [ci (gi v3 0), ci 1] (List.set (entM 2 [ci (gi v3 0), ci 0] (.int .i64 0) []) 0 [ci (gi v3 0), ci 0, ci (wr (0 + (gi v3 3)))]))))) ++ ([ci (wr ((cI (lookM 2 [ci (gi v3 0), ci 1] (.int .i64 0) (List.set (entM 2 [ci (gi v3 0), ci 0] (.int .i64 0) []) 0 [ci (gi v3 0), ci 0, ci (wr (0 + (gi v3 3)))]))) + (gi v3 1)))])))) <| chk (okEs [(.int .i64), (.int .i64)] (.int .i64) (entM 2 [ci (gi v3 0), ci (wr (2 + (gi (el a0_1 (gi v1 0)) 5)))] (.int .i64 0) (List.set (entM 2 [ci (gi v3 0), ci 1] (.int .i64 0) (List.set (entM 2 [ci (gi v3 0), ci 0] (.int .i64 0) []) 0 [ci (gi v3 0), ci 0, ci (wr (0 + (gi v3 3)))])) (Int.toNat (Int.ofNat (posM 2 [ci (gi v3 0), ci 1] (List.set (entM 2 [ci (gi v3 0), ci 0] (.int .i64 0) []) 0 [ci (gi v3 0), ci 0, ci (wr (0 + (gi v3 3)))])))) ((List.take 2 (el (entM 2 [ci (gi v3 0), ci 1] (.int .i64 0) (List.set (entM 2 [ci (gi v3 0), ci 0] (.int .i64 0) []) 0 [ci (gi v3 0), ci 0, ci (wr (0 + (gi v3 3)))])) (Int.ofNat (posM 2 [ci (gi v3 0), ci 1] (List.set (entM 2 [ci (gi v3 0), ci 0] (.int .i64 0) []) 0 [ci (gi v3 0), ci 0, ci (wr (0 + (gi v3 3)))]))))) ++ ([ci (wr ((cI (lookM 2 [ci (gi v3 0), ci 1] (.int .i64 0) (List.set (entM 2 [ci (gi v3 0), ci 0] (.int .i64 0) []) 0 [ci (gi v3 0), ci 0, ci (wr (0 + (gi v3 3)))]))) + (gi v3 1)))]))))) <| chk ((decide (0 ≤ (Int.ofNat (posM 2 [ci (gi v3 0), ci (wr (2 + (gi (el a0_1 (gi v1 0)) 5)))] (List.set (entM 2 [ci (gi v3 0), ci 1] (.int .i64 0) (List.set (entM 2 [ci (gi v3 0), ci 0] (.int .i64 0) []) 0 [ci (gi v3 0), ci 0, ci (wr (0 + (gi v3 3)))])) (Int.toNat (Int.ofNat (posM 2 [ci (gi v3 0), ci 1] (List.set (entM 2 [ci (gi v3 0), ci 0] (.int .i64 0) []) 0 [ci (gi v3 0), ci 0, ci (wr (0 + (gi v3 3)))])))) ((List.take 2 (el (entM 2 [ci (gi v3 0), ci 1] (.int .i64 0) (List.set (entM 2 [ci (gi v3 0), ci 0] (.int .i64 0) []) 0 [ci (gi v3 0), ci 0, ci (wr (0 + (gi v3 3)))])) (Int.ofNat (posM 2 [ci (gi v3 0), ci 1] (List.set (entM 2 [ci (gi v3 0), ci 0] (.int .i64 0) []) 0 [ci (gi v3 0), ci 0, ci (wr (0 + (gi v3 3)))]))))) ++ ([ci (wr ((cI (lookM 2 [ci (gi v3 0), ci 1] (.int .i64 0) (List.set (entM 2 [ci (gi v3 0), ci 0] (.int .i64 0) []) 0 [ci (gi v3 0), ci 0, ci (wr (0 + (gi v3 3)))]))) + (gi v3 1)))]))))))) && (decide ((Int.toNat (Int.ofNat (posM 2 [ci (gi v3 0), ci (wr (2 + (gi (el a0_1 (gi v1 0)) 5)))] (List.set (entM 2 [ci (gi v3 0), ci 1] (.int .i64 0) (List.set (entM 2 [ci (gi v3 0), ci 0] (.int .i64 0) []) 0 [ci (gi v3 0), ci 0, ci (wr (0 + (gi v3 3)))])) (Int.toNat (Int.ofNat (posM 2 [ci (gi v3 0), ci 1] (List.set (entM 2 [ci (gi v3 0), ci 0] (.int .i64 0) []) 0 [ci (gi v3 0), ci 0, ci (wr (0 + (gi v3 3)))])))) ((List.take 2 (el (entM 2 [ci (gi v3 0), ci 1] (.int .i64 0) (List.set (entM 2 [ci (gi v3 0), ci 0] (.int .i64 0) []) 0 [ci (gi v3 0), ci 0, ci (wr (0 + (gi v3 3)))])) (Int.ofNat (posM 2 [ci (gi v3 0), ci 1] (List.set (entM 2 [ci (gi v3 0), ci 0] (.int .i64 0) []) 0 [ci (gi v3 0), ci 0, ci (wr (0 + (gi v3 3)))]))))) ++ ([ci (wr ((cI (lookM 2 [ci (gi v3 0), ci 1] (.int .i64 0) (List.set (entM 2 [ci (gi v3 0), ci 0] (.int .i64 0) []) 0 [ci (gi v3 0), ci 0, ci (wr (0 + (gi v3 3)))]))) + (gi v3 1)))])))))) < (List.length (entM 2 [ci (gi v3 0), ci (wr (2 + (gi (el a0_1 (gi v1 0)) 5)))] (.int .i64 0) (List.set (entM 2 [ci (gi v3 0), ci 1] (.int .i64 0) (List.set (entM 2 [ci (gi v3 0), ci 0] (.int .i64 0) []) 0 [ci (gi v3 0), ci 0, ci (wr (0 + (gi v3 3)))])) (Int.toNat (Int.ofNat (posM 2 [ci (gi v3 0), ci 1] (List.set (entM 2 [ci (gi v3 0), ci 0] (.int .i64 0) []) 0 [ci (gi v3 0), ci 0, ci (wr (0 + (gi v3 3)))])))) ((List.take 2 (el (entM 2 [ci (gi v3 0), ci 1] (.int .i64 0) (List.set (entM 2 [ci (gi v3 0), ci 0] (.int .i64 0) []) 0 [ci (gi v3 0), ci 0, ci (wr (0 + (gi v3 3)))])) (Int.ofNat (posM 2 [ci (gi v3 0), ci 1] (List.set (entM 2 [ci (gi v3 0), ci 0] (.int .i64 0) []) 0 [ci (gi v3 0), ci 0, ci (wr (0 + (gi v3 3)))]))))) ++ ([ci (wr ((cI (lookM 2 [ci (gi v3 0), ci 1] (.int .i64 0) (List.set (entM 2 [ci (gi v3 0), ci 0] (.int .i64 0) []) 0 [ci (gi v3 0), ci 0, ci (wr (0 + (gi v3 3)))]))) + (gi v3 1)))])))))))) <| some (.nx ([CV.row 3 (List.set (entM 2 [ci (gi v3 0), ci (wr (2 + (gi (el a0_1 (gi v1 0)) 5)))] (.int .i64 0) (List.set (entM 2 [ci (gi v3 0), ci 1] (.int .i64 0) (List.set (entM 2 [ci (gi v3 0), ci 0] (.int .i64 0) []) 0 [ci (gi v3 0), ci 0, ci (wr (0 + (gi v3 3)))])) (Int.toNat (Int.ofNat (posM 2 [ci (gi v3 0), ci 1] (List.set (entM 2 [ci (gi v3 0), ci 0] (.int .i64 0) []) 0 [ci (gi v3 0), ci 0, ci (wr (0 + (gi v3 3)))])))) ((List.take 2 (el (entM 2 [ci (gi v3 0), ci 1] (.int .i64 0) (List.set (entM 2 [ci (gi v3 0), ci 0] (.int .i64 0) []) 0 [ci (gi v3 0), ci 0, ci (wr (0 + (gi v3 3)))])) (Int.ofNat (posM 2 [ci (gi v3 0), ci 1] (List.set (entM 2 [ci (gi v3 0), ci 0] (.int .i64 0) []) 0 [ci (gi v3 0), ci 0, ci (wr (0 + (gi v3 3)))]))))) ++ ([ci (wr ((cI (lookM 2 [ci (gi v3 0), ci 1] (.int .i64 0) (List.set (entM 2 [ci (gi v3 0), ci 0] (.int .i64 0) []) 0 [ci (gi v3 0), ci 0, ci (wr (0 + (gi v3 3)))]))) + (gi v3 1)))])))) (Int.toNat (Int.ofNat (posM 2 [ci (gi v3 0), ci (wr (2 + (gi (el a0_1 (gi v1 0)) 5)))] (List.set (entM 2 [ci (gi v3 0), ci 1] (.int .i64 0) (List.set (entM 2 [ci (gi v3 0), ci 0] (.int .i64 0) []) 0 [ci (gi v3 0), ci 0, ci (wr (0 + (gi v3 3)))])) (Int.toNat (Int.ofNat (posM 2 [ci (gi v3 0), ci 1] (List.set (entM 2 [ci (gi v3 0), ci 0] (.int .i64 0) []) 0 [ci (gi v3 0), ci 0, ci (wr (0 + (gi v3 3)))])))) ((List.take 2 (el (entM 2 [ci (gi v3 0), ci 1] (.int .i64 0) (List.set (entM 2 [ci (gi v3 0), ci 0] (.int .i64 0) []) 0 [ci (gi v3 0), ci 0, ci (wr (0 + (gi v3 3)))])) (Int.ofNat (posM 2 [ci (gi v3 0), ci 1] (List.set (entM 2 [ci (gi v3 0), ci 0] (.int .i64 0) []) 0 [ci (gi v3 0), ci 0, ci (wr (0 + (gi v3 3)))]))))) ++ ([ci (wr ((cI (lookM 2 [ci (gi v3 0), ci 1] (.int .i64 0) (List.set (entM 2 [ci (gi v3 0), ci 0] (.int .i64 0) []) 0 [ci (gi v3 0), ci 0, ci (wr (0 + (gi v3 3)))]))) + (gi v3 1)))])))))) ((List.take 2 (el (entM 2 [ci (gi v3 0), ci (wr (2 + (gi (el a0_1 (gi v1 0)) 5)))] (.int .i64 0) (List.set (entM 2 [ci (gi v3 0), ci 1] (.int .i64 0) (List.set (entM 2 [ci (gi v3 0), ci 0] (.int .i64 0) []) 0 [ci (gi v3 0), ci 0, ci (wr (0 + (gi v3 3)))])) (Int.toNat (Int.ofNat (posM 2 [ci (gi v3 0), ci 1] (List.set (entM 2 [ci (gi v3 0), ci 0] (.int .i64 0) []) 0 [ci (gi v3 0), ci 0, ci (wr (0 + (gi v3 3)))])))) ((List.take 2 (el (entM 2 [ci (gi v3 0), ci 1] (.int .i64 0) (List.set (entM 2 [ci (gi v3 0), ci 0] (.int .i64 0) []) 0 [ci (gi v3 0), ci 0, ci (wr (0 + (gi v3 3)))])) (Int.ofNat (posM 2 [ci (gi v3 0), ci 1] (List.set (entM 2 [ci (gi v3 0), ci 0] (.int .i64 0) []) 0 [ci (gi v3 0), ci 0, ci (wr (0 + (gi v3 3)))]))))) ++ ([ci (wr ((cI (lookM 2 [ci (gi v3 0), ci 1] (.int .i64 0) (List.set (entM 2 [ci (gi v3 0), ci 0] (.int .i64 0) []) 0 [ci (gi v3 0), ci 0, ci (wr (0 + (gi v3 3)))]))) + (gi v3 1)))])))) (Int.ofNat (posM 2 [ci (gi v3 0), ci (wr (2 + (gi (el a0_1 (gi v1 0)) 5)))] (List.set (entM 2 [ci (gi v3 0), ci 1] (.int .i64 0) (List.set (entM 2 [ci (gi v3 0), ci 0] (.int .i64 0) []) 0 [ci (gi v3 0), ci 0, ci (wr (0 + (gi v3 3)))])) (Int.toNat (Int.ofNat (posM 2 [ci (gi v3 0), ci 1] (List.set (entM 2 [ci (gi v3 0), ci 0] (.int .i64 0) []) 0 [ci (gi v3 0), ci 0, ci (wr (0 + (gi v3 3)))])))) ((List.take 2 (el (entM 2 [ci (gi v3 0), ci 1] (.int .i64 0) (List.set (entM 2 [ci (gi v3 0), ci 0] (.int .i64 0) []) 0 [ci (gi v3 0), ci 0, ci (wr (0 + (gi v3 3)))])) (Int.ofNat (posM 2 [ci (gi v3 0), ci 1] (List.set (entM 2 [ci (gi v3 0), ci 0] (.int .i64 0) []) 0 [ci (gi v3 0), ci 0, ci (wr (0 + (gi v3 3)))]))))) ++ ([ci (wr ((cI (lookM 2 [ci (gi v3 0), ci 1] (.int .i64 0) (List.set (entM 2 [ci (gi v3 0), ci 0] (.int .i64 0) []) 0 [ci (gi v3 0), ci 0, ci (wr (0 + (gi v3 3)))]))) + (gi v3 1)))]))))))) ++ ([ci (wr ((cI (lookM 2 [ci (gi v3 0), ci (wr (2 + (gi (el a0_1 (gi v1 0)) 5)))] (.int .i64 0) (List.set (entM 2 [ci (gi v3 0), ci 1] (.int .i64 0) (List.set (entM 2 [ci (gi v3 0), ci 0] (.int .i64 0) []) 0 [ci (gi v3 0), ci 0, ci (wr (0 + (gi v3 3)))])) (Int.toNat (Int.ofNat (posM 2 [ci (gi v3 0), ci 1] (List.set (entM 2 [ci (gi v3 0), ci 0] (.int .i64 0) []) 0 [ci (gi v3 0), ci 0, ci (wr (0 + (gi v3 3)))])))) ((List.take 2 (el (entM 2 [ci (gi v3 0), ci 1] (.int .i64 0) (List.set (entM 2 [ci (gi v3 0), ci 0] (.int .i64 0) []) 0 [ci (gi v3 0), ci 0, ci (wr (0 + (gi v3 3)))])) (Int.ofNat (posM 2 [ci (gi v3 0), ci 1] (List.set (entM 2 [ci (gi v3 0), ci 0] (.int .i64 0) []) 0 [ci (gi v3 0), ci 0, ci (wr (0 + (gi v3 3)))]))))) ++ ([ci (wr ((cI (lookM 2 [ci (gi v3 0), ci 1] (.int .i64 0) (List.set (entM 2 [ci (gi v3 0), ci 0] (.int .i64 0) []) 0 [ci (gi v3 0), ci 0, ci (wr (0 + (gi v3 3)))]))) + (gi v3 1)))]))))) + (gi v3 2)))])))]))) (some (.nx ([CV.row 3 (List.set (entM 2 [ci (gi v3 0), ci 1] (.int .i64 0) (List.set (entM 2 [ci (gi v3 0), ci 0] (.int .i64 0) []) 0 [ci (gi v3 0), ci 0, ci (wr (0 + (gi v3 3)))])) (Int.toNat (Int.ofNat (posM 2 [ci (gi v3 0), ci 1] (List.set (entM 2 [ci (gi v3 0), ci 0] (.int .i64 0) []) 0 [ci (gi v3 0), ci 0, ci (wr (0 + (gi v3 3)))])))) ((List.take 2 (el (entM 2 [ci (gi v3 0), ci 1] (.int .i64 0) (List.set (entM 2 [ci (gi v3 0), ci 0] (.int .i64 0) []) 0 [ci (gi v3 0), ci 0, ci (wr (0 + (gi v3 3)))])) (Int.ofNat (posM 2 [ci (gi v3 0), ci 1] (List.set (entM 2 [ci (gi v3 0), ci 0] (.int .i64 0) []) 0 [ci (gi v3 0), ci 0, ci (wr (0 + (gi v3 3)))]))))) ++ ([ci (wr ((cI (lookM 2 [ci (gi v3 0), ci 1] (.int .i64 0) (List.set (entM 2 [ci (gi v3 0), ci 0] (.int .i64 0) []) 0 [ci (gi v3 0), ci 0, ci (wr (0 + (gi v3 3)))]))) + (gi v3 1)))])))])))) fun v4 => some (.ret [CV.row 3 (gr v4 0)])))) fun v2 => iteB (decide ((gi v0 0) > 0)) (chk (inb (wr ((gi v0 0) - 1)) a1) <| chk (oks [li] (el a1 (wr ((gi v0 0) - 1))) 0) <| inlO (callO (M n_fine_counts [ci (gi (el a0_1 (gi v1 0)) 7), ci (gi (el a0_1 (gi v1 0)) 8), ci (gi (el a1 (wr ((gi v0 0) - 1))) 0)]) fun v3 => iteB (!(gb v3 0)) (some (.ret ([CV.row 3 []]))) (callO (M n_fine_due (cat [[CV.row 24 a0_0, CV.row 9 a0_1, CV.row 7 a0_2], cis (el a0_1 (gi v1 0)) 0 9, [ci (gi (el a1 (wr ((gi v0 0) - 1))) 0)]])) fun v4 => iteB ((gi v4 0) == (-1)) (some (.ret ([CV.row 3 []]))) (chk (okEs [(.int .i64), (.int .i64)] (.int .i64) (entM 2 [ci (gi v4 0), ci 1] (.int .i64 0) (List.set (entM 2 [ci (gi v4 0), ci 0] (.int .i64 0) []) 0 [ci (gi v4 0), ci 0, ci (wr (0 + (gi v4 3)))]))) <| chk ((decide (0 ≤ (Int.ofNat (posM 2 [ci (gi v4 0), ci 1] (List.set (entM 2 [ci (gi v4 0), ci 0] (.int .i64 0) []) 0 [ci (gi v4 0), ci 0, ci (wr (0 + (gi v4 3)))]))))) && (decide ((Int.toNat (Int.ofNat (posM 2 [ci (gi v4 0), ci 1] (List.set (entM 2 [ci (gi v4 0), ci 0] (.int .i64 0) []) 0 [ci (gi v4 0), ci 0, ci (wr (0 + (gi v4 3)))])))) < (List.length (entM 2 [ci (gi v4 0), ci 1] (.int .i64 0) (List.set (entM 2 [ci (gi v4 0), ci 0] (.int .i64 0) []) 0 [ci (gi v4 0), ci 0, ci (wr (0 + (gi v4 3)))])))))) <| seqO (iteB ((gi (el a0_1 (gi v1 0)) 5) != 0) (chk (okEs [(.int .i64), (.int .i64)] (.int .i64) (List.set (entM 2 [ci (gi v4 0), ci 1] (.int .i64 0) (List.set (entM 2 [ci (gi v4 0), ci 0] (.int .i64 0) []) 0 [ci (gi v4 0), ci 0, ci (wr (0 + (gi v4 3)))])) (Int.toNat (Int.ofNat (posM 2 [ci (gi v4 0), ci 1] (List.set (entM 2 [ci (gi v4 0), ci 0] (.int .i64 0) []) 0 [ci (gi v4 0), ci 0, ci (wr (0 + (gi v4 3)))])))) ((List.take 2 (el (entM 2 [ci (gi v4 0), ci 1] (.int .i64 0) (List.set (entM 2 [ci (gi v4 0), ci 0] (.int .i64 0) []) 0 [ci (gi v4 0), ci 0, ci (wr (0 + (gi v4 3)))])) (Int.ofNat (posM 2 [ci (gi v4 0), ci 1] (List.set (entM 2 [ci (gi v4 0), ci 0] (.int .i64 0) []) 0 [ci (gi v4 0), ci 0, ci (wr (0 + (gi v4 3)))]))))) ++ ([ci (wr ((cI (lookM 2 [ci (gi v4 0), ci 1] (.int .i64 0) (List.set (entM 2 [ci (gi v4 0), ci 0] (.int .i64 0) []) 0 [ci (gi v4 0), ci 0, ci (wr (0 + (gi v4 3)))]))) + (gi v4 1)))])))) <| chk (okEs [(.int .i64), (.int .i64)] (.int .i64) (List.set (entM 2 [ci (gi v4 0), ci 1] (.int .i64 0) (List.set (entM 2 [ci (gi v4 0), ci 0] (.int .i64 0) []) 0 [ci (gi v4 0), ci 0, ci (wr (0 + (gi v4 3)))])) (Int.toNat (Int.ofNat (posM 2 [ci (gi v4 0), ci 1] (List.set (entM 2 [ci (gi v4 0), ci 0] (.int .i64 0) []) 0 [ci (gi v4 0), ci 0, ci (wr (0 + (gi v4 3)))])))) ((List.take 2 (el (entM 2 [ci (gi v4 0), ci 1] (.int .i64 0) (List.set (entM 2 [ci (gi v4 0), ci 0] (.int .i64 0) []) 0 [ci (gi v4 0), ci 0, ci (wr (0 + (gi v4 3)))])) (Int.ofNat (posM 2 [ci (gi v4 0), ci 1] (List.set (entM 2 [ci (gi v4 0), ci 0] (.int .i64 0) []) 0 [ci (gi v4 0), ci 0, ci (wr (0 + (gi v4 3)))]))))) ++ ([ci (wr ((cI (lookM 2 [ci (gi v4 0), ci 1] (.int .i64 0) (List.set (entM 2 [ci (gi v4 0), ci 0] (.int .i64 0) []) 0 [ci (gi v4 0), ci 0, ci (wr (0 + (gi v4 3)))]))) + (gi v4 1)))])))) <| chk (okEs [(.int .i64), (.int .i64)] (.int .i64) (entM 2 [ci (gi v4 0), ci (wr (2 + (gi (el a0_1 (gi v1 0)) 5)))] (.int .i64 0) (List.set (entM 2 [ci (gi v4 0), ci 1] (.int .i64 0) (List.set (entM 2 [ci (gi v4 0), ci 0] (.int .i64 0) []) 0 [ci (gi v4 0), ci 0, ci (wr (0 + (gi v4 3)))])) (Int.toNat (Int.ofNat (posM 2 [ci (gi v4 0), ci 1] (List.set (entM 2 [ci (gi v4 0), ci 0] (.int .i64 0) []) 0 [ci (gi v4 0), ci 0, ci (wr (0 + (gi v4 3)))])))) ((List.take 2 (el (entM 2 [ci (gi v4 0), ci 1] (.int .i64 0) (List.set (entM 2 [ci (gi v4 0), ci 0] (.int .i64 0) []) 0 [ci (gi v4 0), ci 0, ci (wr (0 + (gi v4 3)))])) (Int.ofNat (posM 2 [ci (gi v4 0), ci 1] (List.set (entM 2 [ci (gi v4 0), ci 0] (.int .i64 0) []) 0 [ci (gi v4 0), ci 0, ci (wr (0 + (gi v4 3)))]))))) ++ ([ci (wr ((cI (lookM 2 [ci (gi v4 0), ci 1] (.int .i64 0) (List.set (entM 2 [ci (gi v4 0), ci 0] (.int .i64 0) []) 0 [ci (gi v4 0), ci 0, ci (wr (0 + (gi v4 3)))]))) + (gi v4 1)))]))))) <| chk ((decide (0 ≤ (Int.ofNat (posM 2 [ci (gi v4 0), ci (wr (2 + (gi (el a0_1 (gi v1 0)) 5)))] (List.set (entM 2 [ci (gi v4 0), ci 1] (.int .i64 0) (List.set (entM 2 [ci (gi v4 0), ci 0] (.int .i64 0) []) 0 [ci (gi v4 0), ci 0, ci (wr (0 + (gi v4 3)))])) (Int.toNat (Int.ofNat (posM 2 [ci (gi v4 0), ci 1] (List.set (entM 2 [ci (gi v4 0), ci 0] (.int .i64 0) []) 0 [ci (gi v4 0), ci 0, ci (wr (0 + (gi v4 3)))])))) ((List.take 2 (el (entM 2 [ci (gi v4 0), ci 1] (.int .i64 0) (List.set (entM 2 [ci (gi v4 0), ci 0] (.int .i64 0) []) 0 [ci (gi v4 0), ci 0, ci (wr (0 + (gi v4 3)))])) (Int.ofNat (posM 2 [ci (gi v4 0), ci 1] (List.set (entM 2 [ci (gi v4 0), ci 0] (.int .i64 0) []) 0 [ci (gi v4 0), ci 0, ci (wr (0 + (gi v4 3)))]))))) ++ ([ci (wr ((cI (lookM 2 [ci (gi v4 0), ci 1] (.int .i64 0) (List.set (entM 2 [ci (gi v4 0), ci 0] (.int .i64 0) []) 0 [ci (gi v4 0), ci 0, ci (wr (0 + (gi v4 3)))]))) + (gi v4 1)))]))))))) && (decide ((Int.toNat (Int.ofNat (posM 2 [ci (gi v4 0), ci (wr (2 + (gi (el a0_1 (gi v1 0)) 5)))] (List.set (entM 2 [ci (gi v4 0), ci 1] (.int .i64 0) (List.set (entM 2 [ci (gi v4 0), ci 0] (.int .i64 0) []) 0 [ci (gi v4 0), ci 0, ci (wr (0 + (gi v4 3)))])) (Int.toNat (Int.ofNat (posM 2 [ci (gi v4 0), ci 1] (List.set (entM 2 [ci (gi v4 0), ci 0] (.int .i64 0) []) 0 [ci (gi v4 0), ci 0, ci (wr (0 + (gi v4 3)))])))) ((List.take 2 (el (entM 2 [ci (gi v4 0), ci 1] (.int .i64 0) (List.set (entM 2 [ci (gi v4 0), ci 0] (.int .i64 0) []) 0 [ci (gi v4 0), ci 0, ci (wr (0 + (gi v4 3)))])) (Int.ofNat (posM 2 [ci (gi v4 0), ci 1] (List.set (entM 2 [ci (gi v4 0), ci 0] (.int .i64 0) []) 0 [ci (gi v4 0), ci 0, ci (wr (0 + (gi v4 3)))]))))) ++ ([ci (wr ((cI (lookM 2 [ci (gi v4 0), ci 1] (.int .i64 0) (List.set (entM 2 [ci (gi v4 0), ci 0] (.int .i64 0) []) 0 [ci (gi v4 0), ci 0, ci (wr (0 + (gi v4 3)))]))) + (gi v4 1)))])))))) < (List.length (entM 2 [ci (gi v4 0), ci (wr (2 + (gi (el a0_1 (gi v1 0)) 5)))] (.int .i64 0) (List.set (entM 2 [ci (gi v4 0), ci 1] (.int .i64 0) (List.set (entM 2 [ci (gi v4 0), ci 0] (.int .i64 0) []) 0 [ci (gi v4 0), ci 0, ci (wr (0 + (gi v4 3)))])) (Int.toNat (Int.ofNat (posM 2 [ci (gi v4 0), ci 1] (List.set (entM 2 [ci (gi v4 0), ci 0] (.int .i64 0) []) 0 [ci (gi v4 0), ci 0, ci (wr (0 + (gi v4 3)))])))) ((List.take 2 (el (entM 2 [ci (gi v4 0), ci 1] (.int .i64 0) (List.set (entM 2 [ci (gi v4 0), ci 0] (.int .i64 0) []) 0 [ci (gi v4 0), ci 0, ci (wr (0 + (gi v4 3)))])) (Int.ofNat (posM 2 [ci (gi v4 0), ci 1] (List.set (entM 2 [ci (gi v4 0), ci 0] (.int .i64 0) []) 0 [ci (gi v4 0), ci 0, ci (wr (0 + (gi v4 3)))]))))) ++ ([ci (wr ((cI (lookM 2 [ci (gi v4 0), ci 1] (.int .i64 0) (List.set (entM 2 [ci (gi v4 0), ci 0] (.int .i64 0) []) 0 [ci (gi v4 0), ci 0, ci (wr (0 + (gi v4 3)))]))) + (gi v4 1)))])))))))) <| some (.nx ([CV.row 3 (List.set (entM 2 [ci (gi v4 0), ci (wr (2 + (gi (el a0_1 (gi v1 0)) 5)))] (.int .i64 0) (List.set (entM 2 [ci (gi v4 0), ci 1] (.int .i64 0) (List.set (entM 2 [ci (gi v4 0), ci 0] (.int .i64 0) []) 0 [ci (gi v4 0), ci 0, ci (wr (0 + (gi v4 3)))])) (Int.toNat (Int.ofNat (posM 2 [ci (gi v4 0), ci 1] (List.set (entM 2 [ci (gi v4 0), ci 0] (.int .i64 0) []) 0 [ci (gi v4 0), ci 0, ci (wr (0 + (gi v4 3)))])))) ((List.take 2 (el (entM 2 [ci (gi v4 0), ci 1] (.int .i64 0) (List.set (entM 2 [ci (gi v4 0), ci 0] (.int .i64 0) []) 0 [ci (gi v4 0), ci 0, ci (wr (0 + (gi v4 3)))])) (Int.ofNat (posM 2 [ci (gi v4 0), ci 1] (List.set (entM 2 [ci (gi v4 0), ci 0] (.int .i64 0) []) 0 [ci (gi v4 0), ci 0, ci (wr (0 + (gi v4 3)))]))))) ++ ([ci (wr ((cI (lookM 2 [ci (gi v4 0), ci 1] (.int .i64 0) (List.set (entM 2 [ci (gi v4 0), ci 0] (.int .i64 0) []) 0 [ci (gi v4 0), ci 0, ci (wr (0 + (gi v4 3)))]))) + (gi v4 1)))])))) (Int.toNat (Int.ofNat (posM 2 [ci (gi v4 0), ci (wr (2 + (gi (el a0_1 (gi v1 0)) 5)))] (List.set (entM 2 [ci (gi v4 0), ci 1] (.int .i64 0) (List.set (entM 2 [ci (gi v4 0), ci 0] (.int .i64 0) []) 0 [ci (gi v4 0), ci 0, ci (wr (0 + (gi v4 3)))])) (Int.toNat (Int.ofNat (posM 2 [ci (gi v4 0), ci 1] (List.set (entM 2 [ci (gi v4 0), ci 0] (.int .i64 0) []) 0 [ci (gi v4 0), ci 0, ci (wr (0 + (gi v4 3)))])))) ((List.take 2 (el (entM 2 [ci (gi v4 0), ci 1] (.int .i64 0) (List.set (entM 2 [ci (gi v4 0), ci 0] (.int .i64 0) []) 0 [ci (gi v4 0), ci 0, ci (wr (0 + (gi v4 3)))])) (Int.ofNat (posM 2 [ci (gi v4 0), ci 1] (List.set (entM 2 [ci (gi v4 0), ci 0] (.int .i64 0) []) 0 [ci (gi v4 0), ci 0, ci (wr (0 + (gi v4 3)))]))))) ++ ([ci (wr ((cI (lookM 2 [ci (gi v4 0), ci 1] (.int .i64 0) (List.set (entM 2 [ci (gi v4 0), ci 0] (.int .i64 0) []) 0 [ci (gi v4 0), ci 0, ci (wr (0 + (gi v4 3)))]))) + (gi v4 1)))])))))) ((List.take 2 (el (entM 2 [ci (gi v4 0), ci (wr (2 + (gi (el a0_1 (gi v1 0)) 5)))] (.int .i64 0) (List.set (entM 2 [ci (gi v4 0), ci 1] (.int .i64 0) (List.set (entM 2 [ci (gi v4 0), ci 0] (.int .i64 0) []) 0 [ci (gi v4 0), ci 0, ci (wr (0 + (gi v4 3)))])) (Int.toNat (Int.ofNat (posM 2 [ci (gi v4 0), ci 1] (List.set (entM 2 [ci (gi v4 0), ci 0] (.int .i64 0) []) 0 [ci (gi v4 0), ci 0, ci (wr (0 + (gi v4 3)))])))) ((List.take 2 (el (entM 2 [ci (gi v4 0), ci 1] (.int .i64 0) (List.set (entM 2 [ci (gi v4 0), ci 0] (.int .i64 0) []) 0 [ci (gi v4 0), ci 0, ci (wr (0 + (gi v4 3)))])) (Int.ofNat (posM 2 [ci (gi v4 0), ci 1] (List.set (entM 2 [ci (gi v4 0), ci 0] (.int .i64 0) []) 0 [ci (gi v4 0), ci 0, ci (wr (0 + (gi v4 3)))]))))) ++ ([ci (wr ((cI (lookM 2 [ci (gi v4 0), ci 1] (.int .i64 0) (List.set (entM 2 [ci (gi v4 0), ci 0] (.int .i64 0) []) 0 [ci (gi v4 0), ci 0, ci (wr (0 + (gi v4 3)))]))) + (gi v4 1)))])))) (Int.ofNat (posM 2 [ci (gi v4 0), ci (wr (2 + (gi (el a0_1 (gi v1 0)) 5)))] (List.set (entM 2 [ci (gi v4 0), ci 1] (.int .i64 0) (List.set (entM 2 [ci (gi v4 0), ci 0] (.int .i64 0) []) 0 [ci (gi v4 0), ci 0, ci (wr (0 + (gi v4 3)))])) (Int.toNat (Int.ofNat (posM 2 [ci (gi v4 0), ci 1] (List.set (entM 2 [ci (gi v4 0), ci 0] (.int .i64 0) []) 0 [ci (gi v4 0), ci 0, ci (wr (0 + (gi v4 3)))])))) ((List.take 2 (el (entM 2 [ci (gi v4 0), ci 1] (.int .i64 0) (List.set (entM 2 [ci (gi v4 0), ci 0] (.int .i64 0) []) 0 [ci (gi v4 0), ci 0, ci (wr (0 + (gi v4 3)))])) (Int.ofNat (posM 2 [ci (gi v4 0), ci 1] (List.set (entM 2 [ci (gi v4 0), ci 0] (.int .i64 0) []) 0 [ci (gi v4 0), ci 0, ci (wr (0 + (gi v4 3)))]))))) ++ ([ci (wr ((cI (lookM 2 [ci (gi v4 0), ci 1] (.int .i64 0) (List.set (entM 2 [ci (gi v4 0), ci 0] (.int .i64 0) []) 0 [ci (gi v4 0), ci 0, ci (wr (0 + (gi v4 3)))]))) + (gi v4 1)))]))))))) ++ ([ci (wr ((cI (lookM 2 [ci (gi v4 0), ci (wr (2 + (gi (el a0_1 (gi v1 0)) 5)))] (.int .i64 0) (List.set (entM 2 [ci (gi v4 0), ci 1] (.int .i64 0) (List.set (entM 2 [ci (gi v4 0), ci 0] (.int .i64 0) []) 0 [ci (gi v4 0), ci 0, ci (wr (0 + (gi v4 3)))])) (Int.toNat (Int.ofNat (posM 2 [ci (gi v4 0), ci 1] (List.set (entM 2 [ci (gi v4 0), ci 0] (.int .i64 0) []) 0 [ci (gi v4 0), ci 0, ci (wr (0 + (gi v4 3)))])))) ((List.take 2 (el (entM 2 [ci (gi v4 0), ci 1] (.int .i64 0) (List.set (entM 2 [ci (gi v4 0), ci 0] (.int .i64 0) []) 0 [ci (gi v4 0), ci 0, ci (wr (0 + (gi v4 3)))])) (Int.ofNat (posM 2 [ci (gi v4 0), ci 1] (List.set (entM 2 [ci (gi v4 0), ci 0] (.int .i64 0) []) 0 [ci (gi v4 0), ci 0, ci (wr (0 + (gi v4 3)))]))))) ++ ([ci (wr ((cI (lookM 2 [ci (gi v4 0), ci 1] (.int .i64 0) (List.set (entM 2 [ci (gi v4 0), ci 0] (.int .i64 0) []) 0 [ci (gi v4 0), ci 0, ci (wr (0 + (gi v4 3)))]))) + (gi v4 1)))]))))) + (gi v4 2)))])))]))) (some (.nx ([CV.row 3 (List.set (entM 2 [ci (gi v4 0), ci 1] (.int .i64 0) (List.set (entM 2 [ci (gi v4 0), ci 0] (.int .i64 0) []) 0 [ci (gi v4 0), ci 0, ci (wr (0 + (gi v4 3)))])) (Int.toNat (Int.ofNat (posM 2 [ci (gi v4 0), ci 1] (List.set (entM 2 [ci (gi v4 0), ci 0] (.int .i64 0) []) 0 [ci (gi v4 0), ci 0, ci (wr (0 + (gi v4 3)))])))) ((List.take 2 (el (entM 2 [ci (gi v4 0), ci 1] (.int .i64 0) (List.set (entM 2 [ci (gi v4 0), ci 0] (.int .i64 0) []) 0 [ci (gi v4 0), ci 0, ci (wr (0 + (gi v4 3)))])) (Int.ofNat (posM 2 [ci (gi v4 0), ci 1] (List.set (entM 2 [ci (gi v4 0), ci 0] (.int .i64 0) []) 0 [ci (gi v4 0), ci 0, ci (wr (0 + (gi v4 3)))]))))) ++ ([ci (wr ((cI (lookM 2 [ci (gi v4 0), ci 1] (.int .i64 0) (List.set (entM 2 [ci (gi v4 0), ci 0] (.int .i64 0) []) 0 [ci (gi v4 0), ci 0, ci (wr (0 + (gi v4 3)))]))) + (gi v4 1)))])))])))) fun v5 => some (.ret [CV.row 3 (gr v5 0)])))) fun v3 => seqO (iteB ((gi (el a0_1 (gi v1 0)) 5) != 0) (some (.nx ([CV.row 1 ([[ci 0], [ci 1], [ci (wr (2 + (gi (el a0_1 (gi v1 0)) 5)))]])]))) (some (.nx ([CV.row 1 (chunk 1 2 [ci 0, ci 1])])))) fun v4 => blkO 4 (loopD (fun v5 => iteB (decide ((gi v5 0) < (il (gr v4 0)))) (chk (inb (gi v5 0) (gr v4 0)) <| chk (decide ((Int.toNat (gi v5 0)) < (List.length (gr v4 0)))) <| chk (oks [li] (el (gr v4 0) (gi v5 0)) 0) <| blkO 6 (loopD (fun v6 => iteB (decide ((gi v6 0) ≤ 101)) (chk (okEs [(.int .i64), (.int .i64)] (.int .i64) (gr v2 0)) <| chk (okEs [(.int .i64), (.int .i64)] (.int .i64) (gr v3 0)) <| seqO (iteB ((wr ((cI (lookM 2 [ci (gi v6 0), ci (gi (el (gr v4 0) (gi v5 0)) 0)] (.int .i64 0) (gr v2 0))) - (cI (lookM 2 [ci (gi v6 0), ci (gi (el (gr v4 0) (gi v5 0)) 0)] (.int .i64 0) (gr v3 0))))) != 0) (some (.nx [cb ((gi v6 0) != (gi (el (gr v4 0) (gi v5 0)) 0))])) (some (.nx [cb false]))) fun v7 => seqO (iteB (gb v7 0) (chk (fitA (List.length (gr v6 1)) 1 40) <| some (.nx ([CV.row 5 ((gr v6 1) ++ (chunk 5 1 ([ci (gi (el a1 (gi v0 0)) 0), ci (gi (el a0_1 (gi v1 0)) 0), ci (gi v6 0), ci (gi (el (gr v4 0) (gi v5 0)) 0), ci (wr ((cI (lookM 2 [ci (gi v6 0), ci (gi (el (gr v4 0) (gi v5 0)) 0)] (.int .i64 0) (gr v2 0))) - (cI (lookM 2 [ci (gi v6 0), ci (gi (el (gr v4 0) (gi v5 0)) 0)] (.int .i64 0) (gr v3 0)))))])))]))) (some (.nx [CV.row 5 (gr v6 1)]))) fun v8 => some (.nx [ci (wr ((gi v6 0) + 1)), CV.row 5 (gr v8 0)])) (some (.br 6 [CV.row 5 (gr v6 1)]))) [ci 2, CV.row 5 (gr v5 1)]) fun v6 => some (.nx [ci (wr ((gi v5 0) + 1)), CV.row 5 (gr v6 0)])) (some (.br 4 [CV.row 5 (gr v5 1)]))) [ci 0, CV.row 5 (gr v1 1)]) fun v5 => some (.nx [ci (wr ((gi v1 0) + 1)), CV.row 5 (gr v5 0)])) (seqO (iteB ((gi (el a0_1 (gi v1 0)) 5) != 0) (some (.nx ([CV.row 1 ([[ci 0], [ci 1], [ci (wr (2 + (gi (el a0_1 (gi v1 0)) 5)))]])]))) (some (.nx ([CV.row 1 (chunk 1 2 [ci 0, ci 1])])))) fun v3 => blkO 4 (loopD (fun v4 => iteB (decide ((gi v4 0) < (il (gr v3 0)))) (chk (inb (gi v4 0) (gr v3 0)) <| chk (decide ((Int.toNat (gi v4 0)) < (List.length (gr v3 0)))) <| chk (oks [li] (el (gr v3 0) (gi v4 0)) 0) <| blkO 6 (loopD (fun v5 => iteB (decide ((gi v5 0) ≤ 101)) (chk (okEs [(.int .i64), (.int .i64)] (.int .i64) (gr v2 0)) <| seqO (iteB ((wr ((cI (lookM 2 [ci (gi v5 0), ci (gi (el (gr v3 0) (gi v4 0)) 0)] (.int .i64 0) (gr v2 0))) - 0)) != 0) (some (.nx [cb ((gi v5 0) != (gi (el (gr v3 0) (gi v4 0)) 0))])) (some (.nx [cb false]))) fun v6 => seqO (iteB (gb v6 0) (chk (fitA (List.length (gr v5 1)) 1 40) <| some (.nx ([CV.row 5 ((gr v5 1) ++ (chunk 5 1 ([ci (gi (el a1 (gi v0 0)) 0), ci (gi (el a0_1 (gi v1 0)) 0), ci (gi v5 0), ci (gi (el (gr v3 0) (gi v4 0)) 0), ci (wr ((cI (lookM 2 [ci (gi v5 0), ci (gi (el (gr v3 0) (gi v4 0)) 0)] (.int .i64 0) (gr v2 0))) - 0))])))]))) (some (.nx [CV.row 5 (gr v5 1)]))) fun v7 => some (.nx [ci (wr ((gi v5 0) + 1)), CV.row 5 (gr v7 0)])) (some (.br 6 [CV.row 5 (gr v5 1)]))) [ci 2, CV.row 5 (gr v4 1)]) fun v5 => some (.nx [ci (wr ((gi v4 0) + 1)), CV.row 5 (gr v5 0)])) (some (.br 4 [CV.row 5 (gr v4 1)]))) [ci 0, CV.row 5 (gr v1 1)]) fun v4 => some (.nx [ci (wr ((gi v1 0) + 1)), CV.row 5 (gr v4 0)]))) (some (.br 2 [CV.row 5 (gr v1 1)]))) [ci 0, CV.row 5 (gr v0 1)]) fun v1 => some (.nx [ci (wr ((gi v0 0) + 1)), CV.row 5 (gr v1 0)])) (some (.br 0 [CV.row 5 (gr v0 1)]))) ([ci 0, CV.row 5 []])) fun v0 => some (.ret [CV.row 5 (gr v0 0)])
theorem q_fine_postings (n : Nat) (a0_0 a0_1 a0_2 a1 : List (List CV)) : D (n + 1) n_fine_postings [(.row 24 a0_0), (.row 9 a0_1), (.row 7 a0_2), (.row 1 a1)] = retO (R_fine_postings (D n) a0_0 a0_1 a0_2 a1) := by kernel_rfl
end
end Go.Proofs.Ytabhbdehbpmpkaa
namespace Go.Proofs.Ytabhbdehbpmpkaa
open Go Go.Sx
set_option maxRecDepth 100000
set_option maxHeartbeats 0
noncomputable section
def R_r06_Made (M : Den) (a0_0 a0_1 a0_2 : List (List CV)) : Option Ou :=  blkO 0 (loopD (fun v0 => seqO (iteB (decide ((gi v0 1) < (il a0_0))) (some (.nx [cb (decide ((gi v0 1) < 3))])) (some (.nx [cb false]))) fun v1 => iteB (gb v1 0) (chk (inb (gi v0 1) a0_0) <| chk (oks (List.replicate 6 li) (el a0_0 (gi v0 1)) 0) <| callO (M n_r06_Mod [ci (gi (el a0_0 (gi v0 1)) 0), ci 12]) fun v2 => callO (M n_r06_Mod [ci (gi (el a0_0 (gi v0 1)) 1), ci 31]) fun v3 => callO (M n_r06_Mod [ci (gi (el a0_0 (gi v0 1)) 2), ci 30]) fun v4 => blkO 2 (loopD (fun v5 => iteB (decide ((gi v5 0) ≤ 3)) (callO (M n_r06_Mod [ci (wr ((gi (el a0_0 (gi v0 1)) 3) + (gi v5 0))), ci 40]) fun v6 => chk ((decide (0 ≤ (gi v5 0))) && (decide ((gi v5 0) < (Int.ofNat 10)))) <| chk (oks [li] (cis v5 1 24) (1 + ((Int.toNat (gi v5 0)) * 1))) <| callO (M n_r06_Mod [ci (wr ((gi (el a0_0 (gi v0 1)) 4) * (gi v5 0))), ci 9]) fun v7 => chk ((decide (0 ≤ (gi v5 0))) && (decide ((gi v5 0) < (Int.ofNat 10)))) <| chk (oks [li] [ci (if (decide (0 = (1 + ((Int.toNat (gi v5 0)) * 1)))) = true then gi v6 0 else gi v5 1), ci (if (decide (1 = (1 + ((Int.toNat (gi v5 0)) * 1)))) = true then gi v6 0 else gi v5 2), ci (if (decide (2 = (1 + ((Int.toNat (gi v5 0)) * 1)))) = true then gi v6 0 else gi v5 3), ci (if (decide (3 = (1 + ((Int.toNat (gi v5 0)) * 1)))) = true then gi v6 0 else gi v5 4), ci (if (decide (4 = (1 + ((Int.toNat (gi v5 0)) * 1)))) = true then gi v6 0 else gi v5 5), ci (if (decide (5 = (1 + ((Int.toNat (gi v5 0)) * 1)))) = true then gi v6 0 else gi v5 6), ci (if (decide (6 = (1 + ((Int.toNat (gi v5 0)) * 1)))) = true then gi v6 0 else gi v5 7), ci (if (decide (7 = (1 + ((Int.toNat (gi v5 0)) * 1)))) = true then gi v6 0 else gi v5 8), ci (if (decide (8 = (1 + ((Int.toNat (gi v5 0)) * 1)))) = true then gi v6 0 else gi v5 9), ci (if (decide (9 = (1 + ((Int.toNat (gi v5 0)) * 1)))) = true then gi v6 0 else gi v5 10), ci (if (decide (10 = (1 + ((Int.toNat (gi v5 0)) * 1)))) = true then gi v6 0 else gi v5 11), ci (if (decide (11 = (1 + ((Int.toNat (gi v5 0)) * 1)))) = true then gi v6 0 else gi v5 12), ci (if (decide (12 = (1 + ((Int.toNat (gi v5 0)) * 1)))) = true then gi v6 0 else gi v5 13), ci (if (decide (13 = (1 + ((Int.toNat (gi v5 0)) * 1)))) = true then gi v6 0 else gi v5 14), ci (if (decide (14 = (1 + ((Int.toNat (gi v5 0)) * 1)))) = true then gi v6 0 else gi v5 15), ci (if (decide (15 = (1 + ((Int.toNat (gi v5 0)) * 1)))) = true then gi v6 0 else gi v5 16), ci (if (decide (16 = (1 + ((Int.toNat (gi v5 0)) * 1)))) = true then gi v6 0 else gi v5 17), ci (if (decide (17 = (1 + ((Int.toNat (gi v5 0)) * 1)))) = true then gi v6 0 else gi v5 18), ci (if (decide (18 = (1 + ((Int.toNat (gi v5 0)) * 1)))) = true then gi v6 0 else gi v5 19), ci (if (decide (19 = (1 + ((Int.toNat (gi v5 0)) * 1)))) = true then gi v6 0 else gi v5 20), ci (if (decide (20 = (1 + ((Int.toNat (gi v5 0)) * 1)))) = true then gi v6 0 else gi v5 21), ci (if (decide (21 = (1 + ((Int.toNat (gi v5 0)) * 1)))) = true then gi v6 0 else gi v5 22), ci (if (decide (22 = (1 + ((Int.toNat (gi v5 0)) * 1)))) = true then gi v6 0 else gi v5 23), ci (if (decide (23 = (1 + ((Int.toNat (gi v5 0)) * 1)))) = true then gi v6 0 else gi v5 24)] (11 + ((Int.toNat (gi v5 0)) * 1))) <| some (.nx [ci (wr ((gi v5 0) + 1)), ci (if (decide (0 = (11 + ((Int.toNat (gi v5 0)) * 1)))) = true then gi v7 0 else if (decide (0 = (1 + ((Int.toNat (gi v5 0)) * 1)))) = true then gi v6 0 else gi v5 1), ci (if (decide (1 = (11 + ((Int.toNat (gi v5 0)) * 1)))) = true then gi v7 0 else if (decide (1 = (1 + ((Int.toNat (gi v5 0)) * 1)))) = true then gi v6 0 else gi v5 2), ci (if (decide (2 = (11 + ((Int.toNat (gi v5 0)) * 1)))) = true then gi v7 0 else if (decide (2 = (1 + ((Int.toNat (gi v5 0)) * 1)))) = true then gi v6 0 else gi v5 3), ci (if (decide (3 = (11 + ((Int.toNat (gi v5 0)) * 1)))) = true then gi v7 0 else if (decide (3 = (1 + ((Int.toNat (gi v5 0)) * 1)))) = true then gi v6 0 else gi v5 4), ci (if (decide (4 = (11 + ((Int.toNat (gi v5 0)) * 1)))) = true then gi v7 0 else if (decide (4 = (1 + ((Int.toNat (gi v5 0)) * 1)))) = true then gi v6 0 else gi v5 5), ci (if (decide (5 = (11 + ((Int.toNat (gi v5 0)) * 1)))) = true then gi v7 0 else if (decide (5 = (1 + ((Int.toNat (gi v5 0)) * 1)))) = true then gi v6 0 else gi v5 6), ci (if (decide (6 = (11 + ((Int.toNat (gi v5 0)) * 1)))) = true then gi v7 0 else if (decide (6 = (1 + ((Int.toNat (gi v5 0)) * 1)))) = true then gi v6 0 else gi v5 7), ci (if (decide (7 = (11 + ((Int.toNat (gi v5 0)) * 1)))) = true then gi v7 0 else if (decide (7 = (1 + ((Int.toNat (gi v5 0)) * 1)))) = true then gi v6 0 else gi v5 8), ci (if (decide (8 = (11 + ((Int.toNat (gi v5 0)) * 1)))) = true then gi v7 0 else if (decide (8 = (1 + ((Int.toNat (gi v5 0)) * 1)))) = true then gi v6 0 else gi v5 9), ci (if (decide (9 = (11 + ((Int.toNat (gi v5 0)) * 1)))) = true then gi v7 0 else if (decide (9 = (1 + ((Int.toNat (gi v5 0)) * 1)))) = true then gi v6 0 else gi v5 10), ci (if (decide (10 = (11 + ((Int.toNat (gi v5 0)) * 1)))) = true then gi v7 0 else if (decide (10 = (1 + ((Int.toNat (gi v5 0)) * 1)))) = true then gi v6 0 else gi v5 11), ci (if (decide (11 = (11 + ((Int.toNat (gi v5 0)) * 1)))) = true then gi v7 0 else if (decide (11 = (1 + ((Int.toNat (gi v5 0)) * 1)))) = true then gi v6 0 else gi v5 12), ci (if (decide (12 = (11 + ((Int.toNat (gi v5 0)) * 1)))) = true then gi v7 0 else if (decide (12 = (1 + ((Int.toNat (gi v5 0)) * 1)))) = true then gi v6 0 else gi v5 13), ci (if (decide (13 = (11 + ((Int.toNat (gi v5 0)) * 1)))) = true then gi v7 0 else if (decide (13 = (1 + ((Int.toNat (gi v5 0)) * 1)))) = true then gi v6 0 else gi v5 14), ci (if (decide (14 = (11 + ((Int.toNat (gi v5 0)) * 1)))) = true then gi v7 0 else if (decide (14 = (1 + ((Int.toNat (gi v5 0)) * 1)))) = true then gi v6 0 else gi v5 15), ci (if (decide (15 = (11 + ((Int.toNat (gi v5 0)) * 1)))) = true then gi v7 0 else if (decide (15 = (1 + ((Int.toNat (gi v5 0)) * 1)))) = true then gi v6 0 else gi v5 16), ci (if (decide (16 = (11 + ((Int.toNat (gi v5 0)) * 1)))) = true then gi v7 0 else if (decide (16 = (1 + ((Int.toNat (gi v5 0)) * 1)))) = true then gi v6 0 else gi v5 17), ci (if (decide (17 = (11 + ((Int.toNat (gi v5 0)) * 1)))) = true then gi v7 0 else if (decide (17 = (1 + ((Int.toNat (gi v5 0)) * 1)))) = true then gi v6 0 else gi v5 18), ci (if (decide (18 = (11 + ((Int.toNat (gi v5 0)) * 1)))) = true then gi v7 0 else if (decide (18 = (1 + ((Int.toNat (gi v5 0)) * 1)))) = true then gi v6 0 else gi v5 19), ci (if (decide (19 = (11 + ((Int.toNat (gi v5 0)) * 1)))) = true then gi v7 0 else if (decide (19 = (1 + ((Int.toNat (gi v5 0)) * 1)))) = true then gi v6 0 else gi v5 20), ci (if (decide (20 = (11 + ((Int.toNat (gi v5 0)) * 1)))) = true then gi v7 0 else if (decide (20 = (1 + ((Int.toNat (gi v5 0)) * 1)))) = true then gi v6 0 else gi v5 21), ci (if (decide (21 = (11 + ((Int.toNat (gi v5 0)) * 1)))) = true then gi v7 0 else if (decide (21 = (1 + ((Int.toNat (gi v5 0)) * 1)))) = true then gi v6 0 else gi v5 22), ci (if (decide (22 = (11 + ((Int.toNat (gi v5 0)) * 1)))) = true then gi v7 0 else if (decide (22 = (1 + ((Int.toNat (gi v5 0)) * 1)))) = true then gi v6 0 else gi v5 23), ci (if (decide (23 = (11 + ((Int.toNat (gi v5 0)) * 1)))) = true then gi v7 0 else if (decide (23 = (1 + ((Int.toNat (gi v5 0)) * 1)))) = true then gi v6 0 else gi v5 24)])) (some (.br 2 (cis v5 1 24)))) [ci 1, ci (gi v0 0), ci 0, ci 0, ci 0, ci 0, ci 0, ci 0, ci 0, ci 0, ci 0, ci 0, ci 0, ci 0, ci 0, ci 0, ci 0, ci 0, ci 0, ci 0, ci 0, ci 0, ci (gi v2 0), ci (gi v3 0), ci (gi v4 0)]) fun v5 => chk (fitA (List.length (gr v0 4)) 1 192) <| callO (M n_r06_Mod [ci (gi (el a0_0 (gi v0 1)) 5), ci 60]) fun v6 => some (.nx [ci (wr ((wr ((gi v0 0) + 1)) + (gi v6 0))), ci (wr ((gi v0 1) + 1)), CV.row 9 (gr v0 2), CV.row 7 (gr v0 3), CV.row 24 ((gr v0 4) ++ (chunk 24 1 (cis v5 0 24)))])) (some (.br 0 [CV.row 9 (gr v0 2), CV.row 7 (gr v0 3), CV.row 24 (gr v0 4)]))) ([ci 0, ci 0, CV.row 9 [], CV.row 7 [], CV.row 24 []])) fun v0 => blkO 4 (loopD (fun v1 => seqO (iteB (decide ((gi v1 0) < (il a0_1))) (some (.nx [cb (decide ((gi v1 0) < 4))])) (some (.nx [cb false]))) fun v2 => iteB (gb v2 0) (chk (inb (gi v1 0) a0_1) <| chk (oks (List.replicate 7 li) (el a0_1 (gi v1 0)) 0) <| callO (M n_r06_Mod [ci (gi (el a0_1 (gi v1 0)) 0), ci 5]) fun v3 => callO (M n_r06_Mod [ci (gi (el a0_1 (gi v1 0)) 0), ci 3]) fun v4 => callO (M n_r06_Mod [ci (gi (el a0_1 (gi v1 0)) 1), ci 40]) fun v5 => callO (M n_r06_Mod [ci (gi (el a0_1 (gi v1 0)) 2), ci 900]) fun v6 => callO (M n_r06_Mod [ci (gi (el a0_1 (gi v1 0)) 3), ci 6]) fun v7 => callO (M n_r06_Mod [ci (gi (el a0_1 (gi v1 0)) 4), ci 40]) fun v8 => callO (M n_r06_Mod [ci (gi (el a0_1 (gi v1 0)) 5), ci 60]) fun v9 => callO (M n_r06_Mod [ci (gi (el a0_1 (gi v1 0)) 6), ci 6]) fun v10 => seqO (iteB ((gi v10 0) == 0) (callO (M n_r06_Mod [ci (gi (el a0_1 (gi v1 0)) 6), ci 300]) fun v11 => some (.nx [ci (wr (10 + (gi v1 0))), ci (wr (1 + (gi v3 0))), ci (wr (1 + (gi v4 0))), ci (gi v5 0), ci (gi v6 0), ci (gi v7 0), ci (gi v8 0), ci (gi v9 0), ci (wr ((wr ((gi v9 0) + 1)) + (gi v11 0)))])) (some (.nx [ci (wr (10 + (gi v1 0))), ci (wr (1 + (gi v3 0))), ci (wr (1 + (gi v4 0))), ci (gi v5 0), ci (gi v6 0), ci (gi v7 0), ci (gi v8 0), ci (gi v9 0), ci 0]))) fun v11 => chk (fitA (List.length (gr v1 1)) 1 72) <| some (.nx [ci (wr ((gi v1 0) + 1)), CV.row 9 ((gr v1 1) ++ (chunk 9 1 (cis v11 0 9))), CV.row 7 (gr v1 2), CV.row 24 (gr v1 3)])) (some (.br 4 [CV.row 9 (gr v1 1), CV.row 7 (gr v1 2), CV.row 24 (gr v1 3)]))) [ci 0, CV.row 9 (gr v0 0), CV.row 7 (gr v0 1), CV.row 24 (gr v0 2)]) fun v1 => blkO 6 (loopD (fun v2 => seqO (iteB (decide ((gi v2 0) < (il a0_2))) (some (.nx [cb (decide ((gi v2 0) < 8))])) (some (.nx [cb false]))) fun v3 => iteB (gb v3 0) (chk (inb (gi v2 0) a0_2) <| chk (oks (List.replicate 6 li) (el a0_2 (gi v2 0)) 0) <| callO (M n_r06_Mod [ci (gi (el a0_2 (gi v2 0)) 0), ci 4]) fun v4 => callO (M n_r06_Mod [ci (gi (el a0_2 (gi v2 0)) 1), ci 3]) fun v5 => callO (M n_r06_Mod [ci (gi (el a0_2 (gi v2 0)) 2), ci 450]) fun v6 => callO (M n_r06_Mod [ci (gi (el a0_2 (gi v2 0)) 3), ci 500]) fun v7 => seqO (iteB ((wr (1 + (gi v5 0))) != 2) (callO (M n_r06_Mod [ci (gi (el a0_2 (gi v2 0)) 4), ci 5]) fun v8 => some (.nx [ci (wr (20 + (gi v2 0))), ci (wr (10 + (gi v4 0))), ci (wr (1 + (gi v5 0))), ci (wr (1 + (gi v8 0))), ci (gi v6 0), ci (gi v7 0), ci 0])) (some (.nx [ci (wr (20 + (gi v2 0))), ci (wr (10 + (gi v4 0))), ci (wr (1 + (gi v5 0))), ci 0, ci (gi v6 0), ci (gi v7 0), ci 0]))) fun v8 => callO (M n_r06_Mod [ci (gi (el a0_2 (gi v2 0)) 5), ci 5]) fun v9 => seqO (iteB ((gi v9 0) == 0) (callO (M n_r06_Mod [ci (gi (el a0_2 (gi v2 0)) 5), ci 200]) fun v10 => some (.nx (cat [cis v8 0 6, [ci (wr ((wr ((gi v8 5) + 1)) + (gi v10 0)))]]))) (some (.nx (cis v8 0 7)))) fun v10 => chk (fitA (List.length (gr v2 2)) 1 56) <| some (.nx [ci (wr ((gi v2 0) + 1)), CV.row 9 (gr v2 1), CV.row 7 ((gr v2 2) ++ (chunk 7 1 (cis v10 0 7))), CV.row 24 (gr v2 3)])) (some (.br 6 [CV.row 9 (gr v2 1), CV.row 7 (gr v2 2), CV.row 24 (gr v2 3)]))) [ci 0, CV.row 9 (gr v1 0), CV.row 7 (gr v1 1), CV.row 24 (gr v1 2)]) fun v2 => some (.ret [CV.row 24 (gr v2 2), CV.row 9 (gr v2 0), CV.row 7 (gr v2 1)])
theorem q_r06_Made (n : Nat) (a0_0 a0_1 a0_2 : List (List CV)) : D (n + 1) n_r06_Made [(.row 6 a0_0), (.row 7 a0_1), (.row 6 a0_2)] = retO (R_r06_Made (D n) a0_0 a0_1 a0_2) := by kernel_rfl
def R_fine_due (M : Den) (a0_0 a0_1 a0_2 : List (List CV)) (a1_0 a1_1 a1_2 a1_3 a1_4 a1_5 a1_6 a1_7 a1_8 a2 : Int) : Option Ou :=  callO (M n_fine_lot [CV.row 24 a0_0, CV.row 9 a0_1, CV.row 7 a0_2, ci a1_0, ci a1_1, ci a1_2, ci a1_3, ci a1_4, ci a1_5, ci a1_6, ci a1_7, ci a1_8, ci a2]) fun v0 => callO (M n_fine_charge (cat [[CV.row 24 a0_0, CV.row 9 a0_1, CV.row 7 a0_2, ci a1_0, ci a1_1, ci a1_2, ci a1_3, ci a1_4, ci a1_5, ci a1_6, ci a1_7, ci a1_8], cis v0 0 4, [ci a2]])) fun v1 => seqO (iteB ((gi v0 2) == 2) (some (.nx [ci 2, ci a1_4])) (seqO (iteB ((gi v0 2) != 3) (some (.nx [cb ((gi v0 0) != 0)])) (some (.nx [cb false]))) fun v2 => seqO (iteB (gb v2 0) (some (.nx [ci (wr (2 + (gi v0 0))), ci (wr ((wr ((gi v1 0) + (gi v1 1))) + (gi v1 2)))])) (some (.nx [ci (-1), ci 0]))) fun v3 => some (.nx [ci (gi v3 0), ci (gi v3 1)]))) fun v2 => callO (M n_fine_inForce [CV.row 24 a0_0, CV.row 9 a0_1, CV.row 7 a0_2, ci a1_6]) fun v3 => seqO (iteB (a1_5 != 0) (some (.nx [ci (gi v2 0), ci (wr (Int.tdiv (wr ((gi v2 1) * (gi v3 22))) 60)), ci (wr (Int.tdiv (wr ((gi v2 1) * (gi v3 23))) 60)), ci 0])) (some (.nx [ci (gi v2 0), ci (wr (Int.tdiv (wr ((gi v2 1) * (gi v3 22))) 60)), ci 0, ci 0]))) fun v4 => some (.ret [ci (gi v4 0), ci (gi v4 1), ci (gi v4 2), ci (wr ((wr ((gi v2 1) - (gi v4 1))) - (gi v4 2)))])
theorem q_fine_due (n : Nat) (a0_0 a0_1 a0_2 : List (List CV)) (a1_0 a1_1 a1_2 a1_3 a1_4 a1_5 a1_6 a1_7 a1_8 a2 : Int) : D (n + 1) n_fine_due [(.row 24 a0_0), (.row 9 a0_1), (.row 7 a0_2), (ci a1_0), (ci a1_1), (ci a1_2), (ci a1_3), (ci a1_4), (ci a1_5), (ci a1_6), (ci a1_7), (ci a1_8), (ci a2)] = retO (R_fine_due (D n) a0_0 a0_1 a0_2 a1_0 a1_1 a1_2 a1_3 a1_4 a1_5 a1_6 a1_7 a1_8 a2) := by kernel_rfl
def R_fine_areRising_Held (M : Den) (a0 : List (List CV)) (a1 : Int) (a2 a3 : CV) : Option Ou :=  blkO 0 (loopD (fun v0 => iteB (decide ((gi v0 0) < (il a0))) (chk (inb (gi v0 0) a0) <| chk (oks (List.replicate 9 li) (el a0 (gi v0 0)) 0) <| seqO (callO (callV sg M a2 (cis (el a0 (gi v0 0)) 0 9) [.agg (List.replicate 9 li)] [.one li]) fun v1 => iteB ((gi v1 0) != 0) (some (.nx [cb true])) (iteB (decide ((gi v0 0) > 0)) (chk (inb (wr ((gi v0 0) - 1)) a0) <| chk (oks (List.replicate 9 li) (el a0 (wr ((gi v0 0) - 1))) 0) <| callO (callV sg M a3 (cis (el a0 (wr ((gi v0 0) - 1))) 0 9) [.agg (List.replicate 9 li)] [.one li]) fun v2 => callO (callV sg M a3 (cis (el a0 (gi v0 0)) 0 9) [.agg (List.replicate 9 li)] [.one li]) fun v3 => some (.nx [cb (decide ((gi v2 0) ≥ (gi v3 0)))])) (some (.nx [cb false])))) fun v1 => iteB (gb v1 0) (some (.ret [cb false])) (some (.nx [ci (wr ((gi v0 0) + 1))]))) (some (.br 0 []))) [ci 0]) fun v0 => some (.ret [cb (decide ((il a0) ≤ a1))])
theorem q_fine_areRising_Held (n : Nat) (a0 : List (List CV)) (a1 : Int) (a2 a3 : CV) : D (n + 1) n_fine_areRising_Held [(.row 9 a0), (ci a1), a2, a3] = retO (R_fine_areRising_Held (D n) a0 a1 a2 a3) := by kernel_rfl
def R_fine_CheckTariff (M : Den) (a0_0 a0_1 a0_2 a0_3 a0_4 a0_5 a0_6 a0_7 a0_8 a0_9 a0_10 a0_11 a0_12 a0_13 a0_14 a0_15 a0_16 a0_17 a0_18 a0_19 a0_20 a0_21 a0_22 a0_23 : Int) : Option Ou :=  seqO (callO (M n_fine_isDay [ci a0_0]) fun v0 => iteB (!(gb v0 0)) (some (.nx [cb true])) (callO (M n_fine_isRow [ci a0_1, ci a0_2, ci a0_3, ci a0_4, ci a0_5, ci a0_6, ci a0_7, ci a0_8, ci a0_9, ci a0_10]) fun v1 => iteB (!(gb v1 0)) (some (.nx [cb true])) (callO (M n_fine_isRow [ci a0_11, ci a0_12, ci a0_13, ci a0_14, ci a0_15, ci a0_16, ci a0_17, ci a0_18, ci a0_19, ci a0_20]) fun v2 => iteB (!(gb v2 0)) (some (.nx [cb true])) (callO (M n_fine_within [ci a0_21, ci 0, ci 10000]) fun v3 => iteB (!(gb v3 0)) (some (.nx [cb true])) (callO (M n_fine_within [ci a0_22, ci 0, ci 60]) fun v4 => iteB (!(gb v4 0)) (some (.nx [cb true])) (callO (M n_fine_within [ci a0_23, ci 0, ci 60]) fun v5 => iteB (!(gb v5 0)) (some (.nx [cb true])) (some (.nx [cb (decide ((wr (a0_22 + a0_23)) > 60))])))))))) fun v0 => iteB (gb v0 0) (some (.ret [ci 60])) (some (.ret [ci 0]))
theorem q_fine_CheckTariff (n : Nat) (a0_0 a0_1 a0_2 a0_3 a0_4 a0_5 a0_6 a0_7 a0_8 a0_9 a0_10 a0_11 a0_12 a0_13 a0_14 a0_15 a0_16 a0_17 a0_18 a0_19 a0_20 a0_21 a0_22 a0_23 : Int) : D (n + 1) n_fine_CheckTariff [(ci a0_0), (ci a0_1), (ci a0_2), (ci a0_3), (ci a0_4), (ci a0_5), (ci a0_6), (ci a0_7), (ci a0_8), (ci a0_9), (ci a0_10), (ci a0_11), (ci a0_12), (ci a0_13), (ci a0_14), (ci a0_15), (ci a0_16), (ci a0_17), (ci a0_18), (ci a0_19), (ci a0_20), (ci a0_21), (ci a0_22), (ci a0_23)] = retO (R_fine_CheckTariff (D n) a0_0 a0_1 a0_2 a0_3 a0_4 a0_5 a0_6 a0_7 a0_8 a0_9 a0_10 a0_11 a0_12 a0_13 a0_14 a0_15 a0_16 a0_17 a0_18 a0_19 a0_20 a0_21 a0_22 a0_23) := by kernel_rfl
def R_r06_Same (M : Den) (a0 a1 : List (List CV)) : Option Ou :=  blkO 0 (loopD (fun v0 => seqO (iteB (decide ((gi v0 1) < (il a0))) (some (.nx [cb (gb v0 0)])) (some (.nx [cb false]))) fun v1 => iteB (gb v1 0) (chk (inb (gi v0 1) a0) <| chk (oks (List.replicate 5 li) (el a0 (gi v0 1)) 0) <| chk (inb (gi v0 1) a1) <| chk (oks (List.replicate 5 li) (el a1 (gi v0 1)) 0) <| some (.nx [cb (((gi (el a0 (gi v0 1)) 0) == (gi (el a1 (gi v0 1)) 0)) && (((gi (el a0 (gi v0 1)) 1) == (gi (el a1 (gi v0 1)) 1)) && (((gi (el a0 (gi v0 1)) 2) == (gi (el a1 (gi v0 1)) 2)) && (((gi (el a0 (gi v0 1)) 3) == (gi (el a1 (gi v0 1)) 3)) && (((gi (el a0 (gi v0 1)) 4) == (gi (el a1 (gi v0 1)) 4)) && true))))), ci (wr ((gi v0 1) + 1))])) (some (.br 0 [cb (gb v0 0)]))) [cb ((il a0) == (il a1)), ci 0]) fun v0 => some (.ret [cb (gb v0 0)])
theorem q_r06_Same (n : Nat) (a0 a1 : List (List CV)) : D (n + 1) n_r06_Same [(.row 5 a0), (.row 5 a1)] = retO (R_r06_Same (D n) a0 a1) := by kernel_rfl
def R_fine_inForce (M : Den) (a0_0 a0_1 a0_2 : List (List CV)) (a1 : Int) : Option Ou :=  blkO 0 (loopD (fun v0 => iteB (decide ((gi v0 1) < (il a0_0))) (chk (inb (gi v0 1) a0_0) <| chk (oks (List.replicate 24 li) (el a0_0 (gi v0 1)) 0) <| seqO (iteB (decide ((gi (el a0_0 (gi v0 1)) 0) ≤ a1)) (some (.nx (cat [[cb true], cis (el a0_0 (gi v0 1)) 0 24]))) (some (.nx (cat [[cb (gb v0 0)], cis v0 2 24])))) fun v1 => some (.nx (cat [[cb (gb v1 0), ci (wr ((gi v0 1) + 1))], cis v1 1 24]))) (some (.br 0 (cat [[cb (gb v0 0)], cis v0 2 24])))) [cb false, ci 0, ci 0, ci 0, ci 0, ci 0, ci 0, ci 0, ci 0, ci 0, ci 0, ci 0, ci 0, ci 0, ci 0, ci 0, ci 0, ci 0, ci 0, ci 0, ci 0, ci 0, ci 0, ci 0, ci 0, ci 0]) fun v0 => some (.ret (cat [cis v0 1 24, [cb (gb v0 0)]]))
theorem q_fine_inForce (n : Nat) (a0_0 a0_1 a0_2 : List (List CV)) (a1 : Int) : D (n + 1) n_fine_inForce [(.row 24 a0_0), (.row 9 a0_1), (.row 7 a0_2), (ci a1)] = retO (R_fine_inForce (D n) a0_0 a0_1 a0_2 a1) := by kernel_rfl
def R_fine_Check (M : Den) (a0_0 a0_1 a0_2 : List (List CV)) : Option Ou :=  callO (M n_fine_areRising_Tariff ([CV.row 24 a0_0, ci 8, CV.fn n_fine_CheckTariff [], CV.fn n_fine_Check_c1 []])) fun v0 => seqO (iteB (!(gb v0 0)) (some (.nx [cb true])) (callO (M n_fine_areRising_Held ([CV.row 9 a0_1, ci 60, CV.fn n_fine_CheckHeld [], CV.fn n_fine_heldOf []])) fun v1 => iteB (!(gb v1 0)) (some (.nx [cb true])) (callO (M n_fine_areRising_Note ([CV.row 7 a0_2, ci 60, CV.fn n_fine_CheckNote [], CV.fn n_fine_noteOf []])) fun v2 => some (.nx [cb (!(gb v2 0))])))) fun v1 => iteB (gb v1 0) (some (.ret [ci 63])) (some (.ret [ci 0]))
theorem q_fine_Check (n : Nat) (a0_0 a0_1 a0_2 : List (List CV)) : D (n + 1) n_fine_Check [(.row 24 a0_0), (.row 9 a0_1), (.row 7 a0_2)] = retO (R_fine_Check (D n) a0_0 a0_1 a0_2) := by kernel_rfl
def R_fine_Charged (M : Den) (a0_0 a0_1 a0_2 : List (List CV)) (a1 a2 : Int) : Option Ou :=  callO (M n_fine_stayOf [CV.row 24 a0_0, CV.row 9 a0_1, CV.row 7 a0_2, ci a1, ci a2]) fun v0 => iteB ((gi v0 9) != 0) (some (.ret [ci 0, ci 0, ci 0, ci (gi v0 9)])) (callO (M n_fine_lot (cat [[CV.row 24 a0_0, CV.row 9 a0_1, CV.row 7 a0_2], cis v0 0 9, [ci a2]])) fun v1 => callO (M n_fine_charge (cat [[CV.row 24 a0_0, CV.row 9 a0_1, CV.row 7 a0_2], cis v0 0 9, cis v1 0 4, [ci a2]])) fun v2 => some (.ret [ci (gi v2 0), ci (gi v2 1), ci (gi v2 2), ci 0]))
theorem q_fine_Charged (n : Nat) (a0_0 a0_1 a0_2 : List (List CV)) (a1 a2 : Int) : D (n + 1) n_fine_Charged [(.row 24 a0_0), (.row 9 a0_1), (.row 7 a0_2), (ci a1), (ci a2)] = retO (R_fine_Charged (D n) a0_0 a0_1 a0_2 a1 a2) := by kernel_rfl
def R_fine_Posts (M : Den) (a0_0 a0_1 a0_2 a1 : List (List CV)) : Option Ou :=  callO (M n_fine_Check [CV.row 24 a0_0, CV.row 9 a0_1, CV.row 7 a0_2]) fun v0 => iteB ((gi v0 0) != 0) (some (.ret ([CV.row 5 [], ci (gi v0 0)]))) (callO (M n_fine_areDays [CV.row 1 a1]) fun v1 => iteB (!(gb v1 0)) (some (.ret ([CV.row 5 [], ci 66]))) (callO (M n_fine_postings [CV.row 24 a0_0, CV.row 9 a0_1, CV.row 7 a0_2, CV.row 1 a1]) fun v2 => some (.ret [CV.row 5 (gr v2 0), ci 0])))
theorem q_fine_Posts (n : Nat) (a0_0 a0_1 a0_2 a1 : List (List CV)) : D (n + 1) n_fine_Posts [(.row 24 a0_0), (.row 9 a0_1), (.row 7 a0_2), (.row 1 a1)] = retO (R_fine_Posts (D n) a0_0 a0_1 a0_2 a1) := by kernel_rfl
def R_law06_example (M : Den)  : Option Ou :=  some (.ret ([CV.row 24 (chunk 24 1 [ci 0, ci 0, ci 12, ci 0, ci 0, ci 0, ci 0, ci 0, ci 0, ci 0, ci 0, ci 0, ci 4, ci 0, ci 0, ci 0, ci 0, ci 0, ci 0, ci 0, ci 0, ci 5, ci 20, ci 10]), CV.row 9 (chunk 9 1 [ci 1, ci 7, ci 1, ci 20, ci 500, ci 9, ci 10, ci 10, ci 0]), CV.row 7 (chunk 7 2 [ci 2, ci 1, ci 1, ci 3, ci 13, ci 14, ci 0, ci 3, ci 1, ci 2, ci 0, ci 15, ci 15, ci 0])]))
theorem q_law06_example (n : Nat)  : D (n + 1) n_law06_example [] = retO (R_law06_example (D n) ) := by kernel_rfl
def R_fine_Dues (M : Den) (a0_0 a0_1 a0_2 : List (List CV)) (a1 a2 : Int) : Option Ou :=  callO (M n_fine_stayOf [CV.row 24 a0_0, CV.row 9 a0_1, CV.row 7 a0_2, ci a1, ci a2]) fun v0 => iteB ((gi v0 9) != 0) (some (.ret [ci 0, ci 0, ci 0, ci 0, ci (gi v0 9)])) (callO (M n_fine_due (cat [[CV.row 24 a0_0, CV.row 9 a0_1, CV.row 7 a0_2], cis v0 0 9, [ci a2]])) fun v1 => some (.ret (cat [cis v1 0 4, [ci 0]])))
theorem q_fine_Dues (n : Nat) (a0_0 a0_1 a0_2 : List (List CV)) (a1 a2 : Int) : D (n + 1) n_fine_Dues [(.row 24 a0_0), (.row 9 a0_1), (.row 7 a0_2), (ci a1), (ci a2)] = retO (R_fine_Dues (D n) a0_0 a0_1 a0_2 a1 a2) := by kernel_rfl
def R_fine_isRow (M : Den) (a0_0 a0_1 a0_2 a0_3 a0_4 a0_5 a0_6 a0_7 a0_8 a0_9 : Int) : Option Ou :=  iteB (a0_0 == 0) (callO (M n_slices_ContainsFunc_int ([CV.row 1 (chunk 1 10 [ci a0_0, ci a0_1, ci a0_2, ci a0_3, ci a0_4, ci a0_5, ci a0_6, ci a0_7, ci a0_8, ci a0_9]), CV.fn n_fine_isRow_c1 []])) fun v0 => some (.ret [cb (!(gb v0 0))])) (some (.ret [cb false]))
theorem q_fine_isRow (n : Nat) (a0_0 a0_1 a0_2 a0_3 a0_4 a0_5 a0_6 a0_7 a0_8 a0_9 : Int) : D (n + 1) n_fine_isRow [(ci a0_0), (ci a0_1), (ci a0_2), (ci a0_3), (ci a0_4), (ci a0_5), (ci a0_6), (ci a0_7), (ci a0_8), (ci a0_9)] = retO (R_fine_isRow (D n) a0_0 a0_1 a0_2 a0_3 a0_4 a0_5 a0_6 a0_7 a0_8 a0_9) := by kernel_rfl
def R_slices_Clone_Tariff (M : Den) (a0 : List (List CV)) : Option Ou :=  nilD a0 (some (.ret ([CV.row 24 []]))) (chk (fitA 0 (List.length a0) 192) <| some (.ret [CV.row 24 a0]))
theorem q_slices_Clone_Tariff (n : Nat) (a0 : List (List CV)) : D (n + 1) n_slices_Clone_Tariff [(.row 24 a0)] = retO (R_slices_Clone_Tariff (D n) a0) := by kernel_rfl
def R_fine_stays_c1 (M : Den) (a0_0 a0_1 a0_2 a0_3 a0_4 a0_5 a0_6 a0_7 a0_8 : Int) (a1 : List CV) : Option Ou :=  chk (oks [li] a1 0) <| callO (M n_fine_counts [ci a0_7, ci a0_8, ci (gi a1 0)]) fun v0 => some (.ret [cb (!(gb v0 0))])
theorem q_fine_stays_c1 (n : Nat) (a0_0 a0_1 a0_2 a0_3 a0_4 a0_5 a0_6 a0_7 a0_8 : Int) (a1 : List CV) : D (n + 1) n_fine_stays_c1 [(ci a0_0), (ci a0_1), (ci a0_2), (ci a0_3), (ci a0_4), (ci a0_5), (ci a0_6), (ci a0_7), (ci a0_8), (.ref a1)] = retO (R_fine_stays_c1 (D n) a0_0 a0_1 a0_2 a0_3 a0_4 a0_5 a0_6 a0_7 a0_8 a1) := by kernel_rfl
def R_fine_isDay (M : Den) (a0 : Int) : Option Ou :=  callO (M n_fine_within [ci a0, ci 0, ci 100000]) fun v0 => some (.ret [cb (gb v0 0)])
theorem q_fine_isDay (n : Nat) (a0 : Int) : D (n + 1) n_fine_isDay [(ci a0)] = retO (R_fine_isDay (D n) a0) := by kernel_rfl
def R_fine_days (M : Den) (a0 a1 : Int) : Option Ou :=  some (.ret ([CV.fn n_fine_days_c1 ([CV.ref [ci a0], CV.ref [ci a1]])]))
theorem q_fine_days (n : Nat) (a0 a1 : Int) : D (n + 1) n_fine_days [(ci a0), (ci a1)] = retO (R_fine_days (D n) a0 a1) := by kernel_rfl
def R_fine_Check_c1 (M : Den) (a0_0 a0_1 a0_2 a0_3 a0_4 a0_5 a0_6 a0_7 a0_8 a0_9 a0_10 a0_11 a0_12 a0_13 a0_14 a0_15 a0_16 a0_17 a0_18 a0_19 a0_20 a0_21 a0_22 a0_23 : Int) : Option Ou :=  some (.ret [ci a0_0])
theorem q_fine_Check_c1 (n : Nat) (a0_0 a0_1 a0_2 a0_3 a0_4 a0_5 a0_6 a0_7 a0_8 a0_9 a0_10 a0_11 a0_12 a0_13 a0_14 a0_15 a0_16 a0_17 a0_18 a0_19 a0_20 a0_21 a0_22 a0_23 : Int) : D (n + 1) n_fine_Check_c1 [(ci a0_0), (ci a0_1), (ci a0_2), (ci a0_3), (ci a0_4), (ci a0_5), (ci a0_6), (ci a0_7), (ci a0_8), (ci a0_9), (ci a0_10), (ci a0_11), (ci a0_12), (ci a0_13), (ci a0_14), (ci a0_15), (ci a0_16), (ci a0_17), (ci a0_18), (ci a0_19), (ci a0_20), (ci a0_21), (ci a0_22), (ci a0_23)] = retO (R_fine_Check_c1 (D n) a0_0 a0_1 a0_2 a0_3 a0_4 a0_5 a0_6 a0_7 a0_8 a0_9 a0_10 a0_11 a0_12 a0_13 a0_14 a0_15 a0_16 a0_17 a0_18 a0_19 a0_20 a0_21 a0_22 a0_23) := by kernel_rfl
end
end Go.Proofs.Ytabhbdehbpmpkaa
