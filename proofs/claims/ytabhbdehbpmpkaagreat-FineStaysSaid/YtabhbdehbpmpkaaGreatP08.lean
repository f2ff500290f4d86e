/-
  Proved: what an owner owes, which stays are inside, ended in a way, and moved by a source, are as the chapter says; conditions: none.
-/
import Derived.KernelRfl
import Derived.Laws.Externs
import Derived.LoopIn
import Derived.LoopNIn
import Derived.OwnWalkIn
import Derived.RangeFuncKeeps
import Derived.RangeFuncLeaves
import Derived.Shelf.Abstract
import Derived.TacticsInMore
import Derived.Test.YtabhbdehbpmpkaaGreatProg
import Derived.WalkKit
import Derived.Test.YtabhbdehbpmpkaaGreatP07
namespace Go.Proofs.YtabhbdehbpmpkaaGreat
open Go Go.Sx
set_option maxRecDepth 100000
def fe3 : FE := ⟨138, [.tmp 4], .two (.reg [] [2, 3] none []) (.two (.reg [] [2, 3, 5] none []) (.two (.reg [] [2, 3, 5, 6, 7] none []) (.two (.reg [] [2, 3, 5, 6, 7, 8, 9] none []) (.two (.reg [] [2, 3, 5, 6, 7, 8, 9, 10, 11] none []) (.two (.reg [] [2, 3, 5, 6, 7, 8, 9, 10, 11, 12, 13] none []) (.two (.reg [] [2, 3, 5, 6, 7, 8, 9, 10, 11, 12, 13, 14, 15] none []) (.two (.reg [] [2, 3, 5, 6, 7, 8, 9, 10, 11, 12, 13, 14, 15, 16, 17] none []) (.two (.reg [] [2, 3, 5, 6, 7, 8, 9, 10, 11, 12, 13, 14, 15, 16, 17, 18, 19] none []) (.two (.reg [] [5, 6, 7, 8, 9, 10, 11, 12, 13, 14, 15, 16, 17, 18, 19, 20, 21] none []) (.two (.reg [] [5, 6, 7, 8, 9, 11, 13, 14, 15, 16, 17, 18, 19, 20, 21, 22] none []) (.two (.reg [] [5, 6, 7, 8, 9, 11, 13, 15, 17, 18, 19, 20, 21, 22, 23] none []) (.two (.reg [] [5, 6, 7, 8, 9, 11, 13, 15, 17, 19, 21, 22, 23, 24] none []) (.two (.reg [] [4] none []) (.nil)))))))))))))), ⟨[.agg [Lf.row 24, Lf.row 9, Lf.row 7], .agg [li, li, li, li]], [.one lb]⟩⟩
def fe4 : FE := ⟨161, [.tmp 0], .two (.reg [] [] none []) (.two (.reg [] [1] none []) (.two (.reg [] [1, 2, 3] none []) (.two (.reg [] [1, 2, 3, 4, 5] none []) (.two (.reg [] [1, 2, 3, 4, 5, 6, 7] none []) (.two (.reg [] [1, 2, 3, 4, 5, 6, 7, 8, 9] none []) (.two (.reg [] [1, 2, 3, 4, 5, 6, 7, 8, 9, 10, 11] none [(some 48, ⟨[], [], [], []⟩, .rt [.fz 0])]) (.two (.reg [] [1, 2, 3, 4, 5, 6, 7, 8, 9, 10, 11, 12, 13] none []) (.two (.reg [] [1, 2, 3, 4, 5, 6, 7, 8, 9, 10, 11, 13, 14, 15] none [(some 60, ⟨[], [], [], []⟩, .rt [.fz 1])]) (.two (.reg [] [1, 2, 3, 4, 5, 6, 7, 8, 9, 10, 11, 13, 14, 15, 16, 17] none []) (.two (.reg [] [1, 2, 3, 4, 5, 6, 7, 8, 9, 10, 11, 13, 14, 15, 16, 17] none []) (.two (.reg [] [2, 3, 4, 5, 6, 7, 8, 9, 10, 11, 13, 14, 15, 16, 17, 18, 19] none []) (.two (.reg [] [] (some ⟨[2, 4, 6, 8, 10, 14, 16, 18], [(20, .lf lb)], [], []⟩) []) (.two (.reg [] [] (some ⟨[4, 8, 10, 14, 16, 20], [(21, .lf lb)], [], []⟩) []) (.two (.reg [] [] (some ⟨[10, 14, 20, 21], [(22, .lf lb)], [], []⟩) []) (.two (.reg [] [14, 20, 21, 22, 23] none []) (.two (.reg [] [0] none []) (.nil))))))))))))))))), ⟨[], [.one lb]⟩⟩
def fe5 : FE := ⟨53, [.tmp 6, .tmp 7], .two (.reg [] [1, 2, 3] none []) (.two (.two (.reg [] [1, 2, 3, 8] none []) (.two (.reg [] [1, 2, 3, 8, 16] none []) (.cond none (.two (.reg [] [6, 7] none []) (.nil)) (.nil)))) (.two (.two (.reg [] [1, 2, 3, 20] none []) (.cond none (.two (.reg [] [6, 7] none []) (.nil)) (.nil))) (.two (.two (.reg [] [1, 2, 3, 23] none []) (.cond none (.two (.reg [] [6, 7] none []) (.nil)) (.nil))) (.two (.reg [] [1, 2, 3, 9] none []) (.two (.two (.reg [] [1, 2, 3, 9, 26, 27, 28] none []) (.blk ⟨[], [(9, .lf li)], [], []⟩ (.lp [] ⟨[1, 2, 3, 26, 27], [(9, .lf li), (28, .lf li)], [], []⟩ (.two (.reg [] [1, 2, 3, 9, 26, 27, 28, 29] none []) (.two (.cond none (.nil) (.nil)) (.two (.thru (.two (.reg [] [1, 2, 3, 9, 11, 26, 27, 28] none []) (.two (.reg [] [1, 2, 3, 9, 12, 26, 27, 28] none []) (.two (.reg [] [1, 2, 3, 9, 12, 26, 27, 28, 40] none []) (.cond (some ⟨[1, 2, 3, 26, 27, 28], [(9, .lf li)], [], []⟩) (.reg [] [1, 2, 3, 9, 26, 27, 28] none []) (.nil)))))) (.reg [] [1, 2, 3, 9, 26, 27, 28] none []))))))) (.two (.reg [] [6, 7] none []) (.nil))))))), ⟨[.agg [Lf.row 24, Lf.row 9, Lf.row 7], .one li, .one li], [.one li, .one li]⟩⟩
def fe6 : FE := ⟨61, [.tmp 6, .tmp 7], .two (.reg [] [1, 2, 3] none []) (.two (.two (.reg [] [1, 2, 3, 16] none []) (.cond none (.two (.reg [] [6, 7] none []) (.nil)) (.nil))) (.two (.two (.reg [] [1, 2, 3, 19] none []) (.cond none (.two (.reg [] [6, 7] none []) (.nil)) (.nil))) (.two (.reg [] [1, 2, 3, 8, 9] none []) (.two (.two (.reg [] [1, 2, 3, 8, 9, 27] none []) (.cond none (.two (.reg [] [6, 7] none []) (.nil)) (.nil))) (.two (.reg [] [1, 2, 3, 8, 10] none []) (.two (.two (.reg [] [1, 2, 3, 8, 10, 11] none []) (.blk ⟨[], [(10, .lf li)], [], []⟩ (.lp [] ⟨[1, 2, 3, 8], [(10, .lf li), (11, .lf li)], [], []⟩ (.two (.two (.reg [] [1, 2, 3, 8, 10, 11, 32] none []) (.cond none (.nil) (.nil))) (.two (.thru (.two (.reg [] [1, 2, 3, 8, 10, 11, 12] none []) (.two (.reg [] [1, 2, 3, 8, 10, 11, 12, 49] none []) (.cond (some ⟨[1, 2, 3, 8, 11], [(10, .lf li)], [], []⟩) (.reg [] [1, 2, 3, 8, 10, 11] none []) (.nil))))) (.reg [] [1, 2, 3, 8, 10, 11] none [])))))) (.two (.reg [] [6, 7] none []) (.nil)))))))), ⟨[.agg [Lf.row 24, Lf.row 9, Lf.row 7], .one li, .one li], [.one li, .one li]⟩⟩
def fe7 : FE := ⟨18, [.tmp 4, .tmp 5], .two (.reg [] [2, 3] none []) (.two (.two (.reg [] [2, 3, 6] none []) (.two (.reg [] [2, 3, 6, 12] none []) (.cond none (.two (.reg [] [4, 5] none []) (.nil)) (.nil)))) (.two (.reg [] [4, 5] none [(some 17, ⟨[], [], [], []⟩, .rt [.fb 1])]) (.nil))), ⟨[.agg [Lf.row 24, Lf.row 9, Lf.row 7], .one li], [.one (Lf.row 1), .one li]⟩⟩
def fe8 : FE := ⟨54, [.tmp 4, .tmp 5], .two (.reg [] [1, 2] none []) (.two (.reg [] [1, 2, 6] none []) (.two (.two (.reg [] [1, 2, 6, 14] none []) (.cond none (.two (.reg [] [4, 5] none []) (.nil)) (.nil))) (.two (.reg [] [1, 2, 7] none []) (.two (.two (.reg [] [1, 2, 7, 8] none []) (.blk ⟨[], [(7, .own 0)], [], [(0, 3, 1, none)]⟩ (.lp [.mk 7 3 1] ⟨[1, 2], [(7, .own 0), (8, .lf li)], [], [(0, 3, 1, none)]⟩ (.two (.two (.reg [] [1, 2, 7, 8, 20] none []) (.cond none (.nil) (.nil))) (.two (.thru (.two (.reg [] [1, 2, 7, 8, 9] none []) (.two (.reg [] [] (some ⟨[1, 2, 7, 8, 9], [(47, .lf lb)], [], []⟩) []) (.cond (some ⟨[1, 2, 8], [(7, .own 0)], [], [(0, 3, 1, none)]⟩) (.reg [] [1, 2, 7, 8] none []) (.nil))))) (.reg [] [1, 2, 7, 8] none [])))))) (.two (.reg [] [4, 5] none []) (.nil)))))), ⟨[.agg [Lf.row 24, Lf.row 9, Lf.row 7], .one li], [.one (Lf.row 1), .one li]⟩⟩
def fe9 : FE := ⟨24, [.tmp 6, .tmp 7], .two (.reg [] [2, 3, 4] none []) (.two (.two (.reg [] [2, 3, 4, 8] none []) (.two (.reg [] [2, 3, 4, 8, 12] none []) (.cond none (.two (.reg [] [6, 7] none []) (.nil)) (.nil)))) (.two (.two (.reg [] [2, 3, 4, 16] none []) (.cond none (.two (.reg [] [6, 7] none []) (.nil)) (.nil))) (.two (.two (.reg [] [2, 3, 4, 19] none []) (.cond none (.two (.reg [] [6, 7] none []) (.nil)) (.nil))) (.two (.reg [] [6, 7] none [(some 23, ⟨[], [], [], []⟩, .rt [.fb 1])]) (.nil))))), ⟨[.agg [Lf.row 24, Lf.row 9, Lf.row 7], .one li, .one li], [.one (Lf.row 1), .one li]⟩⟩
def fe10 : FE := ⟨57, [.tmp 6, .tmp 7], .two (.reg [] [1, 2, 3] none []) (.two (.two (.reg [] [1, 2, 3, 16] none []) (.cond none (.two (.reg [] [6, 7] none []) (.nil)) (.nil))) (.two (.two (.reg [] [1, 2, 3, 19] none []) (.cond none (.two (.reg [] [6, 7] none []) (.nil)) (.nil))) (.two (.reg [] [1, 2, 3, 8, 9] none []) (.two (.two (.reg [] [1, 2, 3, 8, 9, 27] none []) (.cond none (.two (.reg [] [6, 7] none []) (.nil)) (.nil))) (.two (.reg [] [1, 2, 3, 8, 10] none []) (.two (.two (.reg [] [1, 2, 3, 8, 10, 11] none []) (.blk ⟨[], [(10, .own 0)], [], [(0, 3, 1, none)]⟩ (.lp [.mk 10 3 1] ⟨[1, 2, 3, 8], [(10, .own 0), (11, .lf li)], [], [(0, 3, 1, none)]⟩ (.two (.two (.reg [] [1, 2, 3, 8, 10, 11, 32] none []) (.cond none (.nil) (.nil))) (.two (.thru (.two (.reg [] [1, 2, 3, 8, 10, 11, 12] none []) (.two (.reg [] [1, 2, 3, 8, 10, 11, 48] none []) (.cond (some ⟨[1, 2, 3, 8, 11], [(10, .own 0)], [], [(0, 3, 1, none)]⟩) (.reg [] [1, 2, 3, 8, 10, 11] none []) (.nil))))) (.reg [] [1, 2, 3, 8, 10, 11] none [])))))) (.two (.reg [] [6, 7] none []) (.nil)))))))), ⟨[.agg [Lf.row 24, Lf.row 9, Lf.row 7], .one li, .one li], [.one (Lf.row 1), .one li]⟩⟩
def fe11 : FE := ⟨32, [.tmp 6, .tmp 7], .two (.reg [] [3, 4, 5] none []) (.two (.two (.reg [] [3, 4, 5, 8] none []) (.two (.reg [] [3, 4, 5, 8, 16] none []) (.cond none (.two (.reg [] [6, 7] none []) (.nil)) (.nil)))) (.two (.reg [] [3, 4, 5, 9, 10] none []) (.two (.two (.reg [] [3, 4, 5, 9, 25] none []) (.cond none (.two (.reg [] [6, 7] none []) (.nil)) (.nil))) (.two (.reg [] [6, 7] none [(some 28, ⟨[3, 4, 5, 9], [(28, .own 1)], [], [(1, 67, 9, none)]⟩, .two (.reg [] [2, 3] none []) (.two (.reg [] [4] none [(some 7, ⟨[3], [(7, .own 1)], [], [(1, 67, 9, none)]⟩, .two (.reg [] [0] none []) (.two (.two (.reg [] [0, 4] none []) (.cond none (.two (.reg [] [2] none []) (.rt [.mk 2 67 9])) (.nil))) (.two (.reg [] [2] none []) (.nil)))), (some 9, ⟨[], [(9, .own 1)], [], [(1, 67, 9, none)]⟩, .two (.reg [] [0, 1] none []) (.two (.reg [] [0, 1, 5] none []) (.two (.two (.reg [] [0, 1, 5, 12] none []) (.cond none (.two (.reg [] [4] none []) (.nil)) (.nil))) (.two (.two (.reg [] [0, 1, 5, 6] none []) (.blk ⟨[0], [(5, .lf li)], [], [(1, 67, 9, some 0)]⟩ (.lp [] ⟨[0, 1], [(5, .lf li), (6, .lf li)], [], [(1, 67, 9, some 0)]⟩ (.two (.two (.reg [] [0, 1, 5, 6, 19] none []) (.cond none (.nil) (.nil))) (.two (.thru (.two (.reg [] [0, 1, 5, 6, 7] none []) (.two (.reg [] [0, 1, 5, 6, 7, 29] none []) (.cond (some ⟨[0, 1, 6], [(5, .lf li)], [], [(1, 67, 9, some 0)]⟩) (.two (.reg [] [0, 1, 5, 6] none []) (.reg [] [0, 1, 5, 6] none [])) (.nil))))) (.reg [] [0, 1, 5, 6] none [])))))) (.two (.reg [] [0, 5] none []) (.two (.reg [] [4] none []) (.nil)))))))]) (.nil))), (some 30, ⟨[], [(30, .own 1)], [], [(1, 67, 9, none)]⟩, .two (.reg [] [0, 1] none []) (.two (.reg [] [0, 1, 5] none []) (.two (.two (.reg [] [0, 1, 5, 12] none []) (.cond none (.two (.reg [] [4] none []) (.nil)) (.nil))) (.two (.two (.reg [] [0, 1, 5, 6] none []) (.blk ⟨[0], [(5, .lf li)], [], [(1, 67, 9, some 0)]⟩ (.lp [] ⟨[0, 1], [(5, .lf li), (6, .lf li)], [], [(1, 67, 9, some 0)]⟩ (.two (.two (.reg [] [0, 1, 5, 6, 19] none []) (.cond none (.nil) (.nil))) (.two (.thru (.two (.reg [] [0, 1, 5, 6, 7] none []) (.two (.reg [] [0, 1, 5, 6, 7, 29] none []) (.cond (some ⟨[0, 1, 6], [(5, .lf li)], [], [(1, 67, 9, some 0)]⟩) (.two (.reg [] [0, 1, 5, 6] none []) (.reg [] [0, 1, 5, 6] none [])) (.nil))))) (.reg [] [0, 1, 5, 6] none [])))))) (.two (.reg [] [0, 5] none []) (.two (.reg [] [4] none []) (.nil))))))), (some 31, ⟨[], [], [], []⟩, .rt [.fz 1])]) (.nil))))), ⟨[.agg [Lf.row 24, Lf.row 9, Lf.row 7], .one li, .one li], [.one (Lf.row 1), .one li]⟩⟩
def fe12 : FE := ⟨80, [.tmp 6, .tmp 7], .two (.reg [] [1, 2, 3] none []) (.two (.reg [] [1, 2, 3, 8] none []) (.two (.two (.reg [] [1, 2, 3, 8, 21] none []) (.cond none (.two (.reg [] [6, 7] none []) (.nil)) (.nil))) (.two (.reg [] [2, 3, 9, 10] none []) (.two (.two (.reg [] [2, 3, 9, 30] none []) (.cond none (.two (.reg [] [6, 7] none []) (.nil)) (.nil))) (.two (.reg [] [2, 3, 9, 11] none []) (.two (.two (.reg [] [2, 3, 9, 11, 12] none []) (.blk ⟨[], [(11, .own 0)], [], [(0, 3, 1, none)]⟩ (.lp [.mk 11 3 1] ⟨[2, 3, 9], [(11, .own 0), (12, .lf li)], [], [(0, 3, 1, none)]⟩ (.two (.two (.reg [] [2, 3, 9, 11, 12, 35] none []) (.cond none (.nil) (.nil))) (.two (.thru (.two (.reg [] [2, 3, 9, 11, 12, 13, 14] none []) (.two (.reg [] [2, 3, 9, 11, 12, 13, 14, 15, 16] none []) (.two (.reg [] [] (some ⟨[2, 3, 9, 11, 12], [(69, .lf lb)], [], []⟩) []) (.cond (some ⟨[2, 3, 9, 12], [(11, .own 0)], [], [(0, 3, 1, none)]⟩) (.reg [] [2, 3, 9, 11, 12] none []) (.nil)))))) (.reg [] [2, 3, 9, 11, 12] none [])))))) (.two (.reg [] [6, 7] none []) (.nil)))))))), ⟨[.agg [Lf.row 24, Lf.row 9, Lf.row 7], .one li, .one li], [.one (Lf.row 1), .one li]⟩⟩
def fe13 : FE := ⟨31, [.tmp 4], .two (.reg [] [0, 1] none []) (.two (.reg [] [0, 1, 5] none []) (.two (.two (.reg [] [0, 1, 5, 6] none []) (.blk ⟨[], [(5, .lf lb)], [], []⟩ (.lp [] ⟨[0, 1], [(5, .lf lb), (6, .lf li)], [], []⟩ (.two (.two (.reg [] [] (some ⟨[0, 1, 5, 6], [(18, .lf lb)], [], []⟩) []) (.cond none (.nil) (.nil))) (.two (.thru (.reg [] [0, 1, 5, 6] none [])) (.reg [] [0, 1, 5, 6] none [])))))) (.two (.reg [] [4] none []) (.nil)))), ⟨[.one (Lf.row 1), .one (Lf.row 1)], [.one lb]⟩⟩
def fe14 : FE := ⟨11, [.cell 0 26], .two (.reg [] [0] none []) (.two (.reg [] [0] none []) (.nil)), ⟨[], [.agg [Lf.row 24, Lf.row 9, Lf.row 7]]⟩⟩
def fe15 : FE := ⟨25, [.cell 6 41, .tmp 7], .two (.reg [] [1, 2, 3, 6] none []) (.two (.reg [] [2, 3, 6, 8, 9] none []) (.two (.two (.reg [] [2, 3, 6, 8, 9, 18] none []) (.cond none (.two (.reg [] [6, 7] none []) (.nil)) (.nil))) (.two (.reg [] [6, 7] none []) (.nil)))), ⟨[.agg [Lf.row 24, Lf.row 9, Lf.row 7], .one li, .one li], [.agg [li, li, li, li], .one li]⟩⟩
def fe16 : FE := ⟨29, [.cell 6 45, .tmp 7], .two (.reg [] [1, 2, 3, 6] none []) (.two (.reg [] [2, 3, 6, 8, 9] none []) (.two (.two (.reg [] [2, 3, 6, 8, 9, 18] none []) (.cond none (.two (.reg [] [6, 7] none []) (.nil)) (.nil))) (.two (.reg [] [6, 7] none []) (.nil)))), ⟨[.agg [Lf.row 24, Lf.row 9, Lf.row 7], .one li, .one li], [.agg [li, li, li], .one li]⟩⟩
def fe17 : FE := ⟨25, [.cell 6 49, .tmp 7], .two (.reg [] [1, 2, 3, 6] none []) (.two (.reg [] [2, 3, 6, 8, 9] none []) (.two (.two (.reg [] [2, 3, 6, 8, 9, 18] none []) (.cond none (.two (.reg [] [6, 7] none []) (.nil)) (.nil))) (.two (.reg [] [6, 7] none []) (.nil)))), ⟨[.agg [Lf.row 24, Lf.row 9, Lf.row 7], .one li, .one li], [.agg [li, li, li, li], .one li]⟩⟩
def fe18 : FE := ⟨18, [.tmp 4, .tmp 5], .two (.reg [] [1, 2] none []) (.two (.two (.reg [] [1, 2, 6] none []) (.two (.reg [] [1, 2, 6, 10] none []) (.cond none (.two (.reg [] [4, 5] none []) (.nil)) (.nil)))) (.two (.two (.reg [] [1, 2, 14] none []) (.cond none (.two (.reg [] [4, 5] none []) (.nil)) (.nil))) (.two (.reg [] [4, 5] none []) (.nil)))), ⟨[.agg [Lf.row 24, Lf.row 9, Lf.row 7], .one (Lf.row 1)], [.one (Lf.row 5), .one li]⟩⟩
def fe19 : FE := ⟨50, [.cell 4 26, .tmp 5], .two (.reg [] [2, 3, 4] none []) (.two (.two (.reg [] [2, 3, 4, 6] none []) (.two (.reg [] [2, 3, 4, 6, 12] none []) (.cond none (.two (.reg [] [4, 5] none []) (.nil)) (.nil)))) (.two (.reg [] [2, 3, 4, 7, 8] none []) (.two (.thru (.two (.reg [] [] (some ⟨[2, 3, 4, 7], [(22, .lf lb)], [], []⟩) []) (.cond none (.two (.reg [] [4, 5] none []) (.nil)) (.two (.reg [] [2, 3, 4, 7, 30] none []) (.cond none (.two (.reg [] [4, 5] none []) (.nil)) (.nil)))))) (.two (.reg [] [4, 5] none [(some 48, ⟨[], [], [], []⟩, .ins)]) (.nil))))), ⟨[.agg [Lf.row 24, Lf.row 9, Lf.row 7], .agg [li, li, li, li, li, li, li]], [.agg [Lf.row 24, Lf.row 9, Lf.row 7], .one li]⟩⟩
def fe20 : FE := ⟨31, [.tmp 4], .two (.reg [] [0, 1] none []) (.two (.reg [] [0, 1, 5] none []) (.two (.two (.reg [] [0, 1, 5, 6] none []) (.blk ⟨[], [(5, .lf lb)], [], []⟩ (.lp [] ⟨[0, 1], [(5, .lf lb), (6, .lf li)], [], []⟩ (.two (.two (.reg [] [] (some ⟨[0, 1, 5, 6], [(18, .lf lb)], [], []⟩) []) (.cond none (.nil) (.nil))) (.two (.thru (.reg [] [0, 1, 5, 6] none [])) (.reg [] [0, 1, 5, 6] none [])))))) (.two (.reg [] [4] none []) (.nil)))), ⟨[.one (Lf.row 5), .one (Lf.row 5)], [.one lb]⟩⟩
def fe21 : FE := ⟨21, [.tmp 2], .two (.reg [] [1] none []) (.two (.reg [] [1, 3] none []) (.two (.two (.reg [] [] (some ⟨[], [(20, .lf lb)], [], []⟩) []) (.cond none (.two (.reg [] [2] none []) (.nil)) (.nil))) (.two (.reg [] [2] none []) (.nil)))), ⟨[.agg [Lf.row 24, Lf.row 9, Lf.row 7]], [.one li]⟩⟩
def fe22 : FE := ⟨15, [.tmp 6], .two (.reg [] [0, 1, 2] none []) (.two (.reg [] [6] none []) (.nil)), ⟨[.one li, .one li, .one li], [.one lb]⟩⟩
def fe23 : FE := ⟨5, [.tmp 2], .two (.reg [] [0] none []) (.two (.reg [] [2] none []) (.nil)), ⟨[.one li], [.one lb]⟩⟩
def fe24 : FE := ⟨10, [.tmp 4], .two (.reg [] [2, 3] none []) (.two (.reg [] [4] none [(some 7, ⟨[3], [(7, .own 0)], [], [(0, 67, 9, none)]⟩, .two (.reg [] [0] none []) (.two (.two (.reg [] [0, 4] none []) (.cond none (.two (.reg [] [2] none []) (.rt [.mk 2 67 9])) (.nil))) (.two (.reg [] [2] none []) (.nil)))), (some 9, ⟨[], [(9, .own 0)], [], [(0, 67, 9, none)]⟩, .two (.reg [] [0, 1] none []) (.two (.reg [] [0, 1, 5] none []) (.two (.two (.reg [] [0, 1, 5, 12] none []) (.cond none (.two (.reg [] [4] none []) (.nil)) (.nil))) (.two (.two (.reg [] [0, 1, 5, 6] none []) (.blk ⟨[0], [(5, .lf li)], [], [(0, 67, 9, some 0)]⟩ (.lp [] ⟨[0, 1], [(5, .lf li), (6, .lf li)], [], [(0, 67, 9, some 0)]⟩ (.two (.two (.reg [] [0, 1, 5, 6, 19] none []) (.cond none (.nil) (.nil))) (.two (.thru (.two (.reg [] [0, 1, 5, 6, 7] none []) (.two (.reg [] [0, 1, 5, 6, 7, 29] none []) (.cond (some ⟨[0, 1, 6], [(5, .lf li)], [], [(0, 67, 9, some 0)]⟩) (.two (.reg [] [0, 1, 5, 6] none []) (.reg [] [0, 1, 5, 6] none [])) (.nil))))) (.reg [] [0, 1, 5, 6] none [])))))) (.two (.reg [] [0, 5] none []) (.two (.reg [] [4] none []) (.nil)))))))]) (.nil)), ⟨[.agg [Lf.row 24, Lf.row 9, Lf.row 7], .one li], [.one (Lf.row 9)]⟩⟩
def fe25 : FE := ⟨82, [.cell 6 49], .two (.reg [] [2, 3, 4, 6] none []) (.two (.reg [] [2, 3, 4, 6, 7] none []) (.two (.reg [] [3, 4, 6, 7, 8] none []) (.two (.reg [] [3, 4, 6, 7, 8, 9, 10] none []) (.two (.thru (.two (.reg [] [3, 4, 6, 7, 8, 9, 10, 23] none []) (.cond (some ⟨[3, 4, 6], [(9, .lf li), (10, .lf li)], [], []⟩) (.reg [] [3, 4, 6, 9, 10] none []) (.two (.reg [] [] (some ⟨[3, 4, 6, 7, 8, 9, 10], [(29, .lf lb)], [], []⟩) []) (.cond (some ⟨[3, 4, 6], [(9, .lf li), (10, .lf li)], [], []⟩) (.reg [] [3, 4, 6, 9, 10] none []) (.nil)))))) (.two (.reg [] [3, 4, 6, 10, 11] none []) (.two (.reg [] [4, 6, 10, 11, 12] none []) (.two (.reg [] [4, 6, 10, 11, 12] none []) (.two (.two (.reg [] [6, 10, 11, 12, 66] none []) (.cond (some ⟨[6, 10, 11], [], [(5, 49, [.lf li, .lf li, .lf li, .lf li])], []⟩) (.reg [] [6, 10, 11] none []) (.nil))) (.two (.reg [] [6, 11] none []) (.two (.reg [] [6] none []) (.nil))))))))))), ⟨[.agg [Lf.row 24, Lf.row 9, Lf.row 7], .agg [li, li, li, li, li, li, li, li, li], .one li], [.agg [li, li, li, li]]⟩⟩
def fe26 : FE := ⟨124, [.tmp 2], .two (.reg [] [1] none []) (.two (.two (.reg [] [] (some ⟨[1], [(21, .lf lb)], [], []⟩) []) (.cond none (.two (.reg [] [2] none []) (.nil)) (.nil))) (.two (.two (.reg [] [1, 3] none []) (.blk ⟨[1], [], [], []⟩ (.lp [] ⟨[1], [(3, .lf li)], [], []⟩ (.two (.two (.reg [] [1, 3, 26] none []) (.cond none (.nil) (.nil))) (.two (.thru (.two (.reg [] [] (some ⟨[1, 3], [(55, .lf lb)], [], []⟩) []) (.cond none (.two (.reg [] [2] none []) (.nil)) (.nil)))) (.reg [] [1, 3] none [])))))) (.two (.two (.reg [] [1, 4] none []) (.blk ⟨[1], [], [], []⟩ (.lp [] ⟨[1], [(4, .lf li)], [], []⟩ (.two (.two (.reg [] [1, 4, 60] none []) (.cond none (.nil) (.nil))) (.two (.thru (.two (.reg [] [] (some ⟨[1, 4], [(89, .lf lb)], [], []⟩) []) (.cond none (.two (.reg [] [2] none []) (.nil)) (.nil)))) (.reg [] [1, 4] none [])))))) (.two (.two (.reg [] [1, 5] none []) (.blk ⟨[], [], [], []⟩ (.lp [] ⟨[1], [(5, .lf li)], [], []⟩ (.two (.two (.reg [] [1, 5, 94] none []) (.cond none (.nil) (.nil))) (.two (.thru (.two (.reg [] [] (some ⟨[1, 5], [(123, .lf lb)], [], []⟩) []) (.cond none (.two (.reg [] [2] none []) (.nil)) (.nil)))) (.reg [] [1, 5] none [])))))) (.two (.reg [] [2] none []) (.nil)))))), ⟨[.agg [Lf.row 24, Lf.row 9, Lf.row 7]], [.one li]⟩⟩
def fe27 : FE := ⟨15, [.tmp 6], .two (.reg [] [0, 1, 2] none []) (.two (.reg [] [6] none []) (.nil)), ⟨[.one li, .one li, .one li], [.one lb]⟩⟩
def fe28 : FE := ⟨46, [.tmp 4, .tmp 5], .two (.reg [] [1, 2] none []) (.two (.reg [] [1, 2, 6] none []) (.two (.two (.reg [] [1, 2, 6, 13] none []) (.cond none (.two (.reg [] [4, 5] none []) (.nil)) (.nil))) (.two (.reg [] [1, 2, 7] none []) (.two (.two (.reg [] [1, 2, 7, 8] none []) (.blk ⟨[], [(7, .own 0)], [], [(0, 3, 1, none)]⟩ (.lp [.mk 7 3 1] ⟨[1, 2], [(7, .own 0), (8, .lf li)], [], [(0, 3, 1, none)]⟩ (.two (.two (.reg [] [1, 2, 7, 8, 19] none []) (.cond none (.nil) (.nil))) (.two (.thru (.two (.reg [] [1, 2, 7, 8, 35] none []) (.cond (some ⟨[1, 2, 8], [(7, .own 0)], [], [(0, 3, 1, none)]⟩) (.reg [] [1, 2, 7, 8] none []) (.nil)))) (.reg [] [1, 2, 7, 8] none [])))))) (.two (.reg [] [4, 5] none []) (.nil)))))), ⟨[.agg [Lf.row 24, Lf.row 9, Lf.row 7], .one li], [.one (Lf.row 1), .one li]⟩⟩
def fe29 : FE := ⟨25, [.cell 6 49, .tmp 7], .two (.reg [] [1, 2, 3, 6] none []) (.two (.reg [] [2, 3, 6, 8, 9] none []) (.two (.two (.reg [] [2, 3, 6, 8, 9, 18] none []) (.cond none (.two (.reg [] [6, 7] none []) (.nil)) (.nil))) (.two (.reg [] [6, 7] none []) (.nil)))), ⟨[.agg [Lf.row 24, Lf.row 9, Lf.row 7], .one li, .one li], [.agg [li, li, li, li], .one li]⟩⟩
def fe30 : FE := ⟨13, [.tmp 4], .two (.reg [] [1, 2] none []) (.two (.two (.reg [] [1, 5] none []) (.two (.reg [] [1, 5, 9] none []) (.cond none (.two (.reg [] [4] none []) (.nil)) (.nil)))) (.two (.two (.reg [] [12] none []) (.cond none (.two (.reg [] [4] none []) (.nil)) (.nil))) (.two (.reg [] [4] none []) (.nil)))), ⟨[.agg [Lf.row 24, Lf.row 9, Lf.row 7], .one (Lf.row 1)], [.one li]⟩⟩
def fe31 : FE := ⟨13, [.tmp 6], .two (.reg [] [3, 4, 5] none []) (.two (.reg [] [6] none [(some 9, ⟨[3, 4, 5], [(9, .own 0)], [], [(0, 67, 9, none)]⟩, .two (.reg [] [2, 3] none []) (.two (.reg [] [4] none [(some 7, ⟨[3], [(7, .own 0)], [], [(0, 67, 9, none)]⟩, .two (.reg [] [0] none []) (.two (.two (.reg [] [0, 4] none []) (.cond none (.two (.reg [] [2] none []) (.rt [.mk 2 67 9])) (.nil))) (.two (.reg [] [2] none []) (.nil)))), (some 9, ⟨[], [(9, .own 0)], [], [(0, 67, 9, none)]⟩, .two (.reg [] [0, 1] none []) (.two (.reg [] [0, 1, 5] none []) (.two (.two (.reg [] [0, 1, 5, 12] none []) (.cond none (.two (.reg [] [4] none []) (.nil)) (.nil))) (.two (.two (.reg [] [0, 1, 5, 6] none []) (.blk ⟨[0], [(5, .lf li)], [], [(0, 67, 9, some 0)]⟩ (.lp [] ⟨[0, 1], [(5, .lf li), (6, .lf li)], [], [(0, 67, 9, some 0)]⟩ (.two (.two (.reg [] [0, 1, 5, 6, 19] none []) (.cond none (.nil) (.nil))) (.two (.thru (.two (.reg [] [0, 1, 5, 6, 7] none []) (.two (.reg [] [0, 1, 5, 6, 7, 29] none []) (.cond (some ⟨[0, 1, 6], [(5, .lf li)], [], [(0, 67, 9, some 0)]⟩) (.two (.reg [] [0, 1, 5, 6] none []) (.reg [] [0, 1, 5, 6] none [])) (.nil))))) (.reg [] [0, 1, 5, 6] none [])))))) (.two (.reg [] [0, 5] none []) (.two (.reg [] [4] none []) (.nil)))))))]) (.nil))), (some 11, ⟨[], [(11, .own 0)], [], [(0, 67, 9, none)]⟩, .two (.reg [] [0, 1] none []) (.two (.reg [] [0, 1, 5] none []) (.two (.two (.reg [] [0, 1, 5, 12] none []) (.cond none (.two (.reg [] [4] none []) (.nil)) (.nil))) (.two (.two (.reg [] [0, 1, 5, 6] none []) (.blk ⟨[0], [(5, .lf li)], [], [(0, 67, 9, some 0)]⟩ (.lp [] ⟨[0, 1], [(5, .lf li), (6, .lf li)], [], [(0, 67, 9, some 0)]⟩ (.two (.two (.reg [] [0, 1, 5, 6, 19] none []) (.cond none (.nil) (.nil))) (.two (.thru (.two (.reg [] [0, 1, 5, 6, 7] none []) (.two (.reg [] [0, 1, 5, 6, 7, 29] none []) (.cond (some ⟨[0, 1, 6], [(5, .lf li)], [], [(0, 67, 9, some 0)]⟩) (.two (.reg [] [0, 1, 5, 6] none []) (.reg [] [0, 1, 5, 6] none [])) (.nil))))) (.reg [] [0, 1, 5, 6] none [])))))) (.two (.reg [] [0, 5] none []) (.two (.reg [] [4] none []) (.nil))))))), (some 12, ⟨[], [], [], []⟩, .rt [.fz 0])]) (.nil)), ⟨[.agg [Lf.row 24, Lf.row 9, Lf.row 7], .one li, .one Lf.raw], [.one (Lf.row 1)]⟩⟩
def fe32 : FE := ⟨15, [.tmp 5], .two (.reg [] [2, 3, 4] none []) (.two (.reg [] [5] none []) (.nil)), ⟨[.agg [li, li, li, li, li, li, li, li, li], .agg [li, li, li, li], .one Lf.ref], [.one lb]⟩⟩
def fe33 : FE := ⟨11, [.tmp 4], .two (.reg [] [1, 2] none []) (.two (.two (.reg [] [1, 7] none []) (.cond none (.two (.reg [] [4] none []) (.nil)) (.nil))) (.two (.two (.reg [] [10] none []) (.cond none (.two (.reg [] [4] none []) (.nil)) (.nil))) (.two (.reg [] [4] none []) (.nil)))), ⟨[.agg [Lf.row 24, Lf.row 9, Lf.row 7], .one li], [.one li]⟩⟩
def fe34 : FE := ⟨19, [.tmp 6], .two (.reg [] [0, 1, 2] none []) (.two (.reg [] [6] none []) (.nil)), ⟨[.one li, .one li, .one li], [.one lb]⟩⟩
def fe35 : FE := ⟨80, [.cell 6 41], .two (.reg [] [2, 3, 4, 6] none []) (.two (.reg [] [2, 3, 4, 6, 7] none []) (.two (.reg [] [2, 3, 4, 6, 7, 8] none []) (.two (.reg [] [2, 4, 6, 8, 9] none []) (.two (.two (.reg [] [] (some ⟨[2, 4, 6, 8, 9], [(40, .lf lb)], [], []⟩) []) (.cond (some ⟨[2, 6, 8, 9], [], [(4, 112, [.lf li, .lf li, .lf li, .lf li, .lf li])], []⟩) (.reg [] [2, 6, 8, 9] none []) (.nil))) (.two (.two (.reg [] [2, 6, 8, 9, 10] none []) (.blk ⟨[6, 8], [], [(3, 41, [.lf li, .lf li, .lf li, .lf li])], []⟩ (.lp [] ⟨[2, 6, 8, 9], [(10, .lf li)], [(3, 41, [.lf li, .lf li, .lf li, .lf li])], []⟩ (.two (.two (.reg [] [2, 6, 8, 9, 10, 46] none []) (.cond none (.nil) (.nil))) (.two (.thru (.two (.reg [] [] (some ⟨[2, 6, 8, 9, 10], [(72, .lf lb)], [], []⟩) []) (.cond (some ⟨[2, 6, 8, 9, 10], [], [(3, 41, [.lf li, .lf li, .lf li, .lf li])], []⟩) (.two (.reg [] [2, 6, 8, 9, 10] none []) (.reg [] [2, 6, 8, 9, 10] none [])) (.nil)))) (.reg [] [2, 6, 8, 9, 10] none [])))))) (.two (.reg [] [6] none []) (.nil))))))), ⟨[.agg [Lf.row 24, Lf.row 9, Lf.row 7], .agg [li, li, li, li, li, li, li, li, li], .one li], [.agg [li, li, li, li]]⟩⟩
def fe36 : FE := ⟨10, [.tmp 5], .two (.reg [] [2, 4] none []) (.two (.reg [] [5] none []) (.nil)), ⟨[.agg [li, li, li, li, li, li, li, li, li], .agg [li, li, li, li], .one Lf.ref], [.one lb]⟩⟩
def fe37 : FE := ⟨25, [.cell 6 41, .tmp 7], .two (.reg [] [1, 2, 3, 6] none []) (.two (.reg [] [2, 3, 6, 8, 9] none []) (.two (.two (.reg [] [2, 3, 6, 8, 9, 18] none []) (.cond none (.two (.reg [] [6, 7] none []) (.nil)) (.nil))) (.two (.reg [] [6, 7] none []) (.nil)))), ⟨[.agg [Lf.row 24, Lf.row 9, Lf.row 7], .one li, .one li], [.agg [li, li, li, li], .one li]⟩⟩
def fe38 : FE := ⟨38, [.cell 4 26, .tmp 5], .two (.reg [] [2, 3, 4] none []) (.two (.reg [] [2, 3, 4, 6] none []) (.two (.reg [] [2, 3, 4, 6] none [(some 12, ⟨[2, 3, 4, 6], [(12, .own 0)], [], [(0, 67, 9, none)]⟩, .two (.reg [] [0] none []) (.two (.two (.reg [] [0, 4] none []) (.cond none (.two (.reg [] [2] none []) (.rt [.mk 2 67 9])) (.nil))) (.two (.reg [] [2] none []) (.nil)))), (some 14, ⟨[2, 3, 4, 6], [(14, .own 0)], [], [(0, 67, 9, none)]⟩, .two (.reg [] [0, 1] none []) (.two (.reg [] [0, 1, 5] none []) (.two (.two (.reg [] [0, 1, 5, 12] none []) (.cond none (.two (.reg [] [4] none []) (.nil)) (.nil))) (.two (.two (.reg [] [0, 1, 5, 6] none []) (.blk ⟨[0], [(5, .lf li)], [], [(0, 67, 9, some 0)]⟩ (.lp [] ⟨[0, 1], [(5, .lf li), (6, .lf li)], [], [(0, 67, 9, some 0)]⟩ (.two (.two (.reg [] [0, 1, 5, 6, 19] none []) (.cond none (.nil) (.nil))) (.two (.thru (.two (.reg [] [0, 1, 5, 6, 7] none []) (.two (.reg [] [0, 1, 5, 6, 7, 29] none []) (.cond (some ⟨[0, 1, 6], [(5, .lf li)], [], [(0, 67, 9, some 0)]⟩) (.two (.reg [] [0, 1, 5, 6] none []) (.reg [] [0, 1, 5, 6] none [])) (.nil))))) (.reg [] [0, 1, 5, 6] none [])))))) (.two (.reg [] [0, 5] none []) (.two (.reg [] [4] none []) (.nil)))))))]) (.two (.reg [] [2, 4, 6] none [(some 18, ⟨[2, 3, 4, 6], [(18, .own 1)], [], [(1, 58, 7, none)]⟩, .two (.reg [] [0] none []) (.two (.two (.reg [] [0, 4] none []) (.cond none (.two (.reg [] [2] none []) (.rt [.mk 2 58 7])) (.nil))) (.two (.reg [] [2] none []) (.nil)))), (some 20, ⟨[2, 4, 6], [(20, .own 1)], [], [(1, 58, 7, none)]⟩, .two (.reg [] [0, 1] none []) (.two (.reg [] [0, 1, 5] none []) (.two (.two (.reg [] [0, 1, 5, 12] none []) (.cond none (.two (.reg [] [4] none []) (.nil)) (.nil))) (.two (.two (.reg [] [0, 1, 5, 6] none []) (.blk ⟨[0], [(5, .lf li)], [], [(1, 58, 7, some 0)]⟩ (.lp [] ⟨[0, 1], [(5, .lf li), (6, .lf li)], [], [(1, 58, 7, some 0)]⟩ (.two (.two (.reg [] [0, 1, 5, 6, 19] none []) (.cond none (.nil) (.nil))) (.two (.thru (.two (.reg [] [0, 1, 5, 6, 7] none []) (.two (.reg [] [0, 1, 5, 6, 7, 29] none []) (.cond (some ⟨[0, 1, 6], [(5, .lf li)], [], [(1, 58, 7, some 0)]⟩) (.two (.reg [] [0, 1, 5, 6] none []) (.reg [] [0, 1, 5, 6] none [])) (.nil))))) (.reg [] [0, 1, 5, 6] none [])))))) (.two (.reg [] [0, 5] none []) (.two (.reg [] [4] none []) (.nil)))))))]) (.two (.reg [] [4, 5] none []) (.nil))))), ⟨[.agg [Lf.row 24, Lf.row 9, Lf.row 7], .one li], [.agg [Lf.row 24, Lf.row 9, Lf.row 7], .one lb]⟩⟩
def fe39 : FE := ⟨19, [.tmp 2], .two (.reg [] [0] none []) (.two (.reg [] [0, 3] none []) (.two (.two (.reg [] [3, 6, 7, 8] none []) (.blk ⟨[], [(3, .own 0)], [], [(0, 3, 1, none)]⟩ (.lp [.mk 3 3 1] ⟨[6, 7], [(3, .own 0), (8, .lf li)], [], [(0, 3, 1, none)]⟩ (.two (.reg [] [3, 6, 7, 8, 9] none []) (.two (.cond none (.nil) (.nil)) (.two (.thru (.two (.reg [] [3, 5, 6, 7, 8] none []) (.reg [] [3, 6, 7, 8] none []))) (.reg [] [3, 6, 7, 8] none []))))))) (.two (.reg [] [2] none []) (.nil)))), ⟨[.one (Lf.row 9)], [.one (Lf.row 1)]⟩⟩
def fe41 : FE := ⟨22, [.tmp 6], .two (.reg [] [1, 2, 3, 4, 5] none []) (.two (.reg [] [6] none []) (.nil)), ⟨[.agg [li, li, li, li, li, li, li, li, li], .one Lf.ref, .one Lf.ref, .one Lf.ref, .one Lf.ref], [.one lb]⟩⟩
def fe42 : FE := ⟨67, [.cell 4 26, .tmp 5], .two (.reg [] [1, 2, 4] none []) (.two (.reg [] [1, 2, 4, 6] none []) (.two (.reg [] [1, 2, 4, 6, 7] none []) (.two (.two (.reg [] [1, 2, 4, 6, 7, 8] none []) (.blk ⟨[1, 2, 4, 6], [(7, .lf lb)], [(2, 26, [.own 0, .own 2, .own 1])], [(0, 82, 24, none), (1, 58, 7, none), (2, 67, 9, none)]⟩ (.lp [.mkb 2 2 58 7, .mkb 2 1 67 9] ⟨[1, 2, 4, 6], [(7, .lf lb), (8, .lf li)], [(2, 26, [.own 0, .own 2, .own 1])], [(0, 82, 24, none), (1, 58, 7, none), (2, 67, 9, none)]⟩ (.two (.two (.reg [] [1, 2, 4, 6, 7, 8, 19] none []) (.cond none (.nil) (.nil))) (.two (.thru (.two (.reg [] [1, 2, 4, 6, 7, 8, 29] none []) (.cond (some ⟨[1, 2, 4, 6, 8], [(7, .lf lb)], [(2, 26, [.own 0, .own 2, .own 1])], [(0, 82, 24, none), (1, 58, 7, none), (2, 67, 9, none)]⟩) (.reg [] [1, 2, 4, 6, 7, 8] none []) (.reg [] [1, 2, 4, 6, 7, 8] none [])))) (.reg [] [1, 2, 4, 6, 7, 8] none [])))))) (.two (.two (.reg [] [1, 2, 4, 6, 7, 9] none []) (.blk ⟨[4, 6], [(7, .lf lb)], [(2, 26, [.own 0, .own 2, .own 1])], [(0, 82, 24, none), (1, 58, 7, none), (2, 67, 9, none)]⟩ (.lp [] ⟨[1, 2, 4, 6], [(7, .lf lb), (9, .lf li)], [(2, 26, [.own 0, .own 2, .own 1])], [(0, 82, 24, none), (1, 58, 7, none), (2, 67, 9, none)]⟩ (.two (.two (.reg [] [1, 2, 4, 6, 7, 9, 44] none []) (.cond none (.nil) (.nil))) (.two (.thru (.two (.reg [] [1, 2, 4, 6, 7, 9, 54] none []) (.cond (some ⟨[1, 2, 4, 6, 9], [(7, .lf lb)], [(2, 26, [.own 0, .own 2, .own 1])], [(0, 82, 24, none), (1, 58, 7, none), (2, 67, 9, none)]⟩) (.reg [] [1, 2, 4, 6, 7, 9] none []) (.reg [] [1, 2, 4, 6, 7, 9] none [])))) (.reg [] [1, 2, 4, 6, 7, 9] none [])))))) (.two (.reg [] [4, 5] none []) (.nil)))))), ⟨[.agg [Lf.row 24, Lf.row 9, Lf.row 7], .one li], [.agg [Lf.row 24, Lf.row 9, Lf.row 7], .one lb]⟩⟩
def fe43 : FE := ⟨34, [.cell 6 67, .tmp 7], .two (.reg [] [1, 2, 3, 6] none []) (.two (.two (.reg [] [1, 2, 3, 6, 8] none []) (.two (.reg [] [1, 2, 3, 6, 8, 16] none []) (.cond none (.two (.reg [] [6, 7] none []) (.nil)) (.nil)))) (.two (.two (.reg [] [1, 6, 21, 22, 23] none []) (.blk ⟨[6], [], [(1, 67, [.lf li, .lf li, .lf li, .lf li, .lf li, .lf li, .lf li, .lf li, .lf li])], []⟩ (.lp [] ⟨[1, 6, 21, 22], [(23, .lf li)], [(1, 67, [.lf li, .lf li, .lf li, .lf li, .lf li, .lf li, .lf li, .lf li, .lf li])], []⟩ (.two (.reg [] [1, 6, 21, 22, 23, 24] none []) (.two (.cond none (.nil) (.nil)) (.two (.thru (.two (.reg [] [1, 6, 10, 21, 22, 23] none []) (.two (.reg [] [1, 6, 10, 21, 22, 23, 30] none []) (.cond none (.two (.reg [] [6, 7] none []) (.nil)) (.nil))))) (.reg [] [1, 6, 21, 22, 23] none []))))))) (.two (.reg [] [6, 7] none []) (.nil)))), ⟨[.agg [Lf.row 24, Lf.row 9, Lf.row 7], .one li, .one li], [.agg [li, li, li, li, li, li, li, li, li], .one li]⟩⟩
def fe44 : FE := ⟨110, [.cell 6 41], .two (.reg [] [2, 3, 4, 6] none []) (.two (.reg [] [2, 3, 4, 6, 7] none []) (.two (.reg [] [2, 3, 4, 6, 7, 8, 9] none []) (.two (.reg [] [2, 3, 4, 6, 7, 9, 10] none []) (.two (.reg [] [2, 3, 4, 6, 7, 9, 10, 11] none []) (.two (.two (.reg [] [2, 3, 4, 6, 7, 9, 10, 11, 29] none []) (.blk ⟨[2, 3, 4, 6, 7, 9, 10, 11], [], [(4, 112, [.lf li, .lf li, .lf li, .lf li, .lf li])], []⟩ (.lp [] ⟨[2, 3, 4, 6, 7, 9, 10, 11], [(29, .lf li)], [(4, 112, [.lf li, .lf li, .lf li, .lf li, .lf li])], []⟩ (.two (.reg [] [2, 3, 4, 6, 7, 9, 10, 11, 29, 30] none []) (.two (.cond none (.nil) (.nil)) (.two (.thru (.two (.reg [] [2, 3, 4, 6, 7, 9, 10, 11, 12, 29] none []) (.reg [] [2, 3, 4, 6, 7, 9, 10, 11, 29] none []))) (.reg [] [2, 3, 4, 6, 7, 9, 10, 11, 29] none []))))))) (.two (.two (.reg [] [2, 3, 4, 6, 9, 10, 11, 35, 36, 37] none []) (.blk ⟨[2, 3, 4, 6, 9, 10, 11], [], [(4, 112, [.lf li, .lf li, .lf li, .lf li, .lf li])], []⟩ (.lp [] ⟨[2, 3, 4, 6, 9, 10, 11, 35, 36], [(37, .lf li)], [(4, 112, [.lf li, .lf li, .lf li, .lf li, .lf li])], []⟩ (.two (.reg [] [2, 3, 4, 6, 9, 10, 11, 35, 36, 37, 38] none []) (.two (.cond none (.nil) (.nil)) (.two (.thru (.two (.reg [] [2, 3, 4, 6, 9, 10, 11, 14, 35, 36, 37] none []) (.two (.reg [] [] (some ⟨[2, 3, 4, 6, 9, 10, 11, 14, 35, 36, 37], [(55, .lf lb)], [], []⟩) []) (.cond (some ⟨[2, 3, 4, 6, 9, 10, 11, 35, 36, 37], [], [(4, 112, [.lf li, .lf li, .lf li, .lf li, .lf li])], []⟩) (.reg [] [2, 3, 4, 6, 9, 10, 11, 35, 36, 37] none []) (.nil))))) (.reg [] [2, 3, 4, 6, 9, 10, 11, 35, 36, 37] none []))))))) (.two (.reg [] [2, 4, 6, 9, 10, 11] none []) (.two (.two (.reg [] [] (some ⟨[2, 4, 6, 10, 11], [(73, .lf lb)], [], []⟩) []) (.cond (some ⟨[2, 4, 6, 10, 11], [], [(4, 112, [.lf li, .lf li, .lf li, .lf li, .lf li])], []⟩) (.reg [] [2, 4, 6, 10, 11] none []) (.nil))) (.two (.reg [] [2, 6, 10, 11] none []) (.two (.nil) (.two (.two (.reg [] [2, 6, 10, 83, 84] none []) (.blk ⟨[6, 10], [], [(3, 41, [.lf li, .lf li, .lf li, .lf li])], []⟩ (.lp [] ⟨[2, 6, 10, 83], [(84, .lf li)], [(3, 41, [.lf li, .lf li, .lf li, .lf li])], []⟩ (.two (.reg [] [2, 6, 10, 83, 84, 85] none []) (.two (.cond none (.nil) (.nil)) (.two (.blk ⟨[2, 6, 10, 83, 84], [], [(3, 41, [.lf li, .lf li, .lf li, .lf li])], []⟩ (.two (.reg [] [2, 6, 10, 15, 16, 83, 84] none []) (.two (.two (.reg [] [] (some ⟨[2, 6, 10, 15, 16, 83, 84], [(94, .lf lb)], [], []⟩) []) (.cond none (.nil) (.nil))) (.two (.reg [] [] (some ⟨[2, 6, 10, 15, 16, 83, 84], [(103, .lf lb)], [], []⟩) []) (.cond (some ⟨[2, 6, 10, 83, 84], [], [(3, 41, [.lf li, .lf li, .lf li, .lf li])], []⟩) (.reg [] [2, 6, 10, 83, 84] none []) (.nil)))))) (.reg [] [2, 6, 10, 83, 84] none []))))))) (.two (.reg [] [6] none []) (.nil))))))))))))), ⟨[.agg [Lf.row 24, Lf.row 9, Lf.row 7], .agg [li, li, li, li, li, li, li, li, li], .one li], [.agg [li, li, li, li]]⟩⟩
def fe45 : FE := ⟨70, [.cell 8 45], .two (.reg [] [3, 4, 5, 6, 8] none []) (.two (.reg [] [3, 4, 5, 6, 8, 9] none []) (.two (.two (.reg [] [3, 4, 5, 6, 8, 9, 18] none []) (.cond (some ⟨[3, 4, 5, 6, 8, 9], [], [(4, 45, [.lf li, .lf li, .lf li])], []⟩) (.two (.reg [] [3, 4, 5, 6, 8, 9, 10] none []) (.reg [] [3, 4, 5, 6, 8, 9] none [])) (.nil))) (.two (.two (.reg [] [4, 5, 6, 8, 9, 35] none []) (.thru (.lp [] ⟨[4, 5, 6, 8, 9, 35], [], [(4, 45, [.lf li, .lf li, .lf li])], []⟩ (.thru (.two (.reg [] [4, 5, 6, 9, 12, 13] none []) (.two (.reg [] [5, 6, 9, 12, 13] none []) (.two (.reg [] [] (some ⟨[5, 9, 13], [(59, .lf lb)], [], []⟩) []) (.cond (some ⟨[], [], [(4, 45, [.lf li, .lf li, .lf li])], []⟩) (.reg [] [] none []) (.nil))))))))) (.two (.reg [] [8] none []) (.nil))))), ⟨[.agg [Lf.row 24, Lf.row 9, Lf.row 7], .agg [li, li, li, li, li, li, li, li, li], .agg [li, li, li, li], .one li], [.agg [li, li, li]]⟩⟩
def fe46 : FE := ⟨32, [.tmp 2], .two (.reg [] [0] none []) (.two (.two (.reg [] [0, 5, 6, 7] none []) (.blk ⟨[0], [], [], []⟩ (.lp [] ⟨[0, 5, 6], [(7, .lf li)], [], []⟩ (.two (.reg [] [0, 5, 6, 7, 8] none []) (.two (.cond none (.nil) (.nil)) (.two (.thru (.two (.reg [] [0, 3, 4, 5, 6, 7] none []) (.two (.reg [] [] (some ⟨[0, 5, 6, 7], [(27, .lf lb)], [], []⟩) []) (.cond none (.two (.reg [] [2] none []) (.nil)) (.nil))))) (.reg [] [0, 5, 6, 7] none []))))))) (.two (.reg [] [2] none []) (.nil))), ⟨[.one (Lf.row 1)], [.one lb]⟩⟩
def fe47 : FE := ⟨98, [.tmp 4], .two (.reg [] [1, 2] none []) (.two (.reg [] [1, 2, 5] none []) (.two (.two (.reg [] [1, 2, 5, 18, 19, 20] none []) (.blk ⟨[], [(5, .own 0)], [], [(0, 61, 5, none)]⟩ (.lp [.mk 5 61 5] ⟨[1, 2, 18, 19], [(5, .own 0), (20, .lf li)], [], [(0, 61, 5, none)]⟩ (.two (.reg [] [1, 2, 5, 18, 19, 20, 21] none []) (.two (.cond none (.nil) (.nil)) (.two (.thru (.two (.reg [] [1, 2, 5, 6, 7, 18, 19, 20] none []) (.two (.reg [] [1, 2, 5, 6, 7, 18, 19, 20, 26, 27, 28] none []) (.blk ⟨[1, 2, 18, 19, 20], [(5, .own 0)], [], [(0, 61, 5, none)]⟩ (.lp [] ⟨[1, 2, 6, 7, 18, 19, 20, 26, 27], [(5, .own 0), (28, .lf li)], [], [(0, 61, 5, none)]⟩ (.two (.reg [] [1, 2, 5, 6, 7, 18, 19, 20, 26, 27, 28, 29] none []) (.two (.cond none (.nil) (.nil)) (.sel (.thru (.two (.reg [] [1, 2, 5, 6, 7, 9, 18, 19, 20, 26, 27, 28] none []) (.two (.reg [] [1, 2, 5, 6, 7, 9, 10, 11, 18, 19, 20, 26, 27, 28] none [(some 35, ⟨[1, 2, 5, 6, 7, 9, 18, 19, 20, 26, 27, 28], [(35, .own 1)], [], [(1, 3145848, 3, none)]⟩, .two (.reg [] [2, 3, 4] none []) (.two (.reg [] [2, 3, 4, 7] none []) (.two (.two (.reg [] [2, 3, 4, 7, 16] none []) (.cond none (.two (.reg [] [6] none []) (.nil)) (.nil))) (.two (.reg [] [4, 7, 8] none []) (.two (.two (.reg [] [4, 7, 8, 24] none []) (.cond none (.two (.reg [] [6] none []) (.nil)) (.nil))) (.two (.reg [] [4, 7, 8] none []) (.two (.reg [] [4, 7, 8] none []) (.two (.two (.reg [] [4, 7, 8, 48] none []) (.cond (some ⟨[7], [], [], [(1, 3145848, 3, some 0)]⟩) (.reg [] [7] none []) (.nil))) (.two (.reg [] [6] none []) (.nil))))))))))]) (.sel (.two (.reg [] [1, 2, 5, 6, 7, 9, 10, 11, 18, 19, 20, 26, 27, 28, 38] none []) (.cond none (.reg [] [1, 2, 5, 6, 7, 9, 10, 11, 18, 19, 20, 26, 27, 28] none [(some 46, ⟨[1, 2, 5, 6, 7, 9, 10, 11, 18, 19, 20, 26, 27, 28], [(46, .own 3)], [], [(3, 3145848, 3, none)]⟩, .two (.reg [] [2, 3, 4] none []) (.two (.reg [] [2, 3, 4, 7] none []) (.two (.two (.reg [] [2, 3, 4, 7, 16] none []) (.cond none (.two (.reg [] [6] none []) (.nil)) (.nil))) (.two (.reg [] [4, 7, 8] none []) (.two (.two (.reg [] [4, 7, 8, 24] none []) (.cond none (.two (.reg [] [6] none []) (.nil)) (.nil))) (.two (.reg [] [4, 7, 8] none []) (.two (.reg [] [4, 7, 8] none []) (.two (.two (.reg [] [4, 7, 8, 48] none []) (.cond (some ⟨[7], [], [], [(3, 3145848, 3, some 0)]⟩) (.reg [] [7] none []) (.nil))) (.two (.reg [] [6] none []) (.nil))))))))))]) (.nil))) 3 (.two (.reg [] [1, 2, 5, 6, 7, 9, 10, 11, 12, 18, 19, 20, 26, 27, 28] none []) (.two (.two (.reg [] [1, 2, 5, 6, 7, 9, 10, 11, 12, 18, 19, 20, 26, 27, 28, 50] none []) (.cond (some ⟨[1, 2, 5, 6, 7, 9, 10, 11, 18, 19, 20, 26, 27, 28], [(12, .own 3)], [], [(3, 3, 1, none)]⟩) (.reg [] [1, 2, 5, 6, 7, 9, 10, 11, 12, 18, 19, 20, 26, 27, 28] none []) (.nil))) (.two (.reg [] [1, 2, 5, 6, 7, 9, 10, 11, 18, 19, 20, 26, 27, 28, 57, 58, 59] none []) (.blk ⟨[1, 2, 6, 7, 18, 19, 20, 26, 27, 28], [(5, .own 0)], [], [(0, 61, 5, none)]⟩ (.lp [] ⟨[1, 2, 6, 7, 9, 10, 11, 18, 19, 20, 26, 27, 28, 57, 58], [(5, .own 0), (59, .lf li)], [], [(0, 61, 5, none)]⟩ (.two (.reg [] [1, 2, 5, 6, 7, 9, 10, 11, 18, 19, 20, 26, 27, 28, 57, 58, 59, 60] none []) (.two (.cond none (.nil) (.nil)) (.two (.thru (.two (.reg [] [1, 2, 5, 6, 7, 9, 10, 11, 14, 18, 19, 20, 26, 27, 28, 57, 58, 59] none []) (.two (.reg [] [1, 2, 5, 6, 7, 9, 10, 11, 14, 15, 18, 19, 20, 26, 27, 28, 57, 58, 59] none []) (.blk ⟨[1, 2, 6, 7, 9, 10, 11, 18, 19, 20, 26, 27, 28, 57, 58, 59], [(5, .own 0)], [], [(0, 61, 5, none)]⟩ (.lp [] ⟨[1, 2, 6, 7, 9, 10, 11, 14, 18, 19, 20, 26, 27, 28, 57, 58, 59], [(5, .own 0), (15, .lf li)], [], [(0, 61, 5, none)]⟩ (.two (.two (.reg [] [1, 2, 5, 6, 7, 9, 10, 11, 14, 15, 18, 19, 20, 26, 27, 28, 57, 58, 59, 64] none []) (.cond none (.nil) (.nil))) (.two (.thru (.two (.reg [] [1, 2, 5, 6, 7, 9, 10, 11, 14, 15, 16, 18, 19, 20, 26, 27, 28, 57, 58, 59] none []) (.two (.reg [] [1, 2, 5, 6, 7, 9, 10, 11, 14, 15, 17, 18, 19, 20, 26, 27, 28, 57, 58, 59] none []) (.two (.reg [] [] (some ⟨[1, 2, 5, 6, 7, 9, 10, 11, 14, 15, 17, 18, 19, 20, 26, 27, 28, 57, 58, 59], [(83, .lf lb)], [], []⟩) []) (.cond (some ⟨[1, 2, 6, 7, 9, 10, 11, 14, 15, 18, 19, 20, 26, 27, 28, 57, 58, 59], [(5, .own 0)], [], [(0, 61, 5, none)]⟩) (.reg [] [1, 2, 5, 6, 7, 9, 10, 11, 14, 15, 18, 19, 20, 26, 27, 28, 57, 58, 59] none []) (.nil)))))) (.reg [] [1, 2, 5, 6, 7, 9, 10, 11, 14, 15, 18, 19, 20, 26, 27, 28, 57, 58, 59] none [])))))))) (.reg [] [1, 2, 5, 6, 7, 9, 10, 11, 18, 19, 20, 26, 27, 28, 57, 58, 59] none []))))))))) (.two (.reg [] [1, 2, 5, 6, 7, 9, 10, 11, 12, 18, 19, 20, 26, 27, 28] none []) (.two (.two (.reg [] [1, 2, 5, 6, 7, 9, 10, 11, 12, 18, 19, 20, 26, 27, 28, 50] none []) (.cond (some ⟨[1, 2, 5, 6, 7, 9, 10, 11, 18, 19, 20, 26, 27, 28], [(12, .own 4)], [], [(4, 3, 1, none)]⟩) (.reg [] [1, 2, 5, 6, 7, 9, 10, 11, 12, 18, 19, 20, 26, 27, 28] none []) (.nil))) (.two (.reg [] [1, 2, 5, 6, 7, 9, 10, 11, 18, 19, 20, 26, 27, 28, 57, 58, 59] none []) (.blk ⟨[1, 2, 6, 7, 18, 19, 20, 26, 27, 28], [(5, .own 0)], [], [(0, 61, 5, none)]⟩ (.lp [] ⟨[1, 2, 6, 7, 9, 10, 11, 18, 19, 20, 26, 27, 28, 57, 58], [(5, .own 0), (59, .lf li)], [], [(0, 61, 5, none)]⟩ (.two (.reg [] [1, 2, 5, 6, 7, 9, 10, 11, 18, 19, 20, 26, 27, 28, 57, 58, 59, 60] none []) (.two (.cond none (.nil) (.nil)) (.two (.thru (.two (.reg [] [1, 2, 5, 6, 7, 9, 10, 11, 14, 18, 19, 20, 26, 27, 28, 57, 58, 59] none []) (.two (.reg [] [1, 2, 5, 6, 7, 9, 10, 11, 14, 15, 18, 19, 20, 26, 27, 28, 57, 58, 59] none []) (.blk ⟨[1, 2, 6, 7, 9, 10, 11, 18, 19, 20, 26, 27, 28, 57, 58, 59], [(5, .own 0)], [], [(0, 61, 5, none)]⟩ (.lp [] ⟨[1, 2, 6, 7, 9, 10, 11, 14, 18, 19, 20, 26, 27, 28, 57, 58, 59], [(5, .own 0), (15, .lf li)], [], [(0, 61, 5, none)]⟩ (.two (.two (.reg [] [1, 2, 5, 6, 7, 9, 10, 11, 14, 15, 18, 19, 20, 26, 27, 28, 57, 58, 59, 64] none []) (.cond none (.nil) (.nil))) (.two (.thru (.two (.reg [] [1, 2, 5, 6, 7, 9, 10, 11, 14, 15, 16, 18, 19, 20, 26, 27, 28, 57, 58, 59] none []) (.two (.reg [] [1, 2, 5, 6, 7, 9, 10, 11, 14, 15, 17, 18, 19, 20, 26, 27, 28, 57, 58, 59] none []) (.two (.reg [] [] (some ⟨[1, 2, 5, 6, 7, 9, 10, 11, 14, 15, 17, 18, 19, 20, 26, 27, 28, 57, 58, 59], [(83, .lf lb)], [], []⟩) []) (.cond (some ⟨[1, 2, 6, 7, 9, 10, 11, 14, 15, 18, 19, 20, 26, 27, 28, 57, 58, 59], [(5, .own 0)], [], [(0, 61, 5, none)]⟩) (.reg [] [1, 2, 5, 6, 7, 9, 10, 11, 14, 15, 18, 19, 20, 26, 27, 28, 57, 58, 59] none []) (.nil)))))) (.reg [] [1, 2, 5, 6, 7, 9, 10, 11, 14, 15, 18, 19, 20, 26, 27, 28, 57, 58, 59] none [])))))))) (.reg [] [1, 2, 5, 6, 7, 9, 10, 11, 18, 19, 20, 26, 27, 28, 57, 58, 59] none []))))))))))))) 4 (.reg [] [1, 2, 5, 6, 7, 18, 19, 20, 26, 27, 28] none []) (.reg [] [1, 2, 5, 6, 7, 18, 19, 20, 26, 27, 28] none []))))))))) (.reg [] [1, 2, 5, 18, 19, 20] none []))))))) (.two (.reg [] [4] none []) (.nil)))), ⟨[.agg [Lf.row 24, Lf.row 9, Lf.row 7], .one (Lf.row 1)], [.one (Lf.row 5)]⟩⟩
def fe48 : FE := ⟨49, [.tmp 6, .tmp 7], .two (.reg [] [0, 2, 4] none []) (.two (.reg [] [0, 2, 4, 8] none []) (.two (.reg [] [0, 2, 4, 8, 9, 10] none []) (.two (.blk ⟨[0, 2, 4, 8], [(9, .lf li)], [], []⟩ (.lp [] ⟨[0, 2, 4, 8], [(9, .lf li), (10, .lf li)], [], []⟩ (.two (.two (.reg [] [0, 2, 4, 8, 9, 10, 17] none []) (.cond none (.nil) (.nil))) (.thru (.two (.reg [] [0, 2, 4, 8, 9, 10, 11] none []) (.two (.reg [] [0, 2, 4, 8, 9, 10, 11, 31] none []) (.cond (some ⟨[0, 2, 4, 8], [(9, .lf li), (10, .lf li)], [], []⟩) (.reg [] [0, 2, 4, 8, 9, 10] none []) (.reg [] [0, 2, 4, 8, 9, 10] none [])))))))) (.two (.reg [] [6, 7] none []) (.nil))))), ⟨[.one (Lf.row 7), .agg [li, li, li, li, li, li, li], .one Lf.raw], [.one li, .one lb]⟩⟩
def fe49 : FE := ⟨10, [.tmp 4], .two (.reg [] [2, 3] none []) (.two (.reg [] [4] none []) (.nil)), ⟨[.agg [li, li, li, li, li, li, li], .agg [li, li, li, li, li, li, li]], [.one li]⟩⟩
def fe50 : FE := ⟨20, [.tmp 4], .two (.reg [] [0, 1] none []) (.two (.reg [] [0, 1, 5] none []) (.two (.reg [] [0, 1, 5, 6] none []) (.two (.two (.reg [] [0, 1, 6, 11] none []) (.cond none (.two (.two (.reg [] [12] none []) (.cond none (.two (.reg [] [4] none []) (.nil)) (.nil))) (.two (.reg [] [4] none []) (.nil))) (.nil))) (.two (.two (.reg [] [0, 1, 13] none []) (.cond none (.two (.reg [] [4] none []) (.nil)) (.nil))) (.two (.two (.reg [] [0, 1, 16] none []) (.cond none (.two (.reg [] [4] none []) (.nil)) (.nil))) (.two (.two (.reg [] [19] none []) (.cond none (.two (.reg [] [4] none []) (.nil)) (.nil))) (.two (.reg [] [4] none []) (.nil)))))))), ⟨[.one li, .one li], [.one li]⟩⟩
def fe51 : FE := ⟨53, [.tmp 2], .two (.reg [] [1] none []) (.two (.reg [] [1, 3] none []) (.two (.reg [] [] (some ⟨[1], [(4, .lf lb)], [], []⟩) []) (.two (.two (.reg [] [] (some ⟨[], [(52, .lf lb)], [], []⟩) []) (.cond none (.two (.reg [] [2] none []) (.nil)) (.nil))) (.two (.reg [] [2] none []) (.nil))))), ⟨[.agg [li, li, li, li, li, li, li]], [.one li]⟩⟩
def fe52 : FE := ⟨8, [.tmp 2], .two (.reg [] [0] none []) (.two (.two (.reg [] [0, 4] none []) (.cond none (.two (.reg [] [2] none []) (.nil)) (.nil))) (.two (.reg [] [2] none []) (.nil))), ⟨[.one (Lf.row 24)], [.one (Lf.row 24)]⟩⟩
def fe53 : FE := ⟨8, [.tmp 2], .two (.reg [] [0] none []) (.two (.two (.reg [] [0, 4] none []) (.cond none (.two (.reg [] [2] none []) (.nil)) (.nil))) (.two (.reg [] [2] none []) (.nil))), ⟨[.one (Lf.row 9)], [.one (Lf.row 9)]⟩⟩
def fe56 : FE := ⟨44, [.tmp 8], .two (.reg [] [0, 1, 2, 3] none []) (.two (.two (.reg [] [0, 1, 2, 3, 11, 12, 13] none []) (.blk ⟨[0, 1], [], [], []⟩ (.lp [] ⟨[0, 1, 2, 3, 11, 12], [(13, .lf li)], [], []⟩ (.two (.reg [] [0, 1, 2, 3, 11, 12, 13, 14] none []) (.two (.cond none (.nil) (.nil)) (.two (.thru (.two (.reg [] [0, 1, 2, 3, 9, 10, 11, 12, 13] none []) (.two (.reg [] [] (some ⟨[0, 1, 2, 3, 11, 12, 13], [(38, .lf lb)], [], []⟩) []) (.cond none (.two (.reg [] [8] none []) (.nil)) (.nil))))) (.reg [] [0, 1, 2, 3, 11, 12, 13] none []))))))) (.two (.reg [] [8] none []) (.nil))), ⟨[.one (Lf.row 24), .one li, .one Lf.raw, .one Lf.raw], [.one lb]⟩⟩
def fe57 : FE := ⟨45, [.tmp 2], .two (.reg [] [1] none []) (.two (.two (.reg [] [] (some ⟨[], [(44, .lf lb)], [], []⟩) []) (.cond none (.two (.reg [] [2] none []) (.nil)) (.nil))) (.two (.reg [] [2] none []) (.nil))), ⟨[.agg [li, li, li, li, li, li, li, li, li, li, li, li, li, li, li, li, li, li, li, li, li, li, li, li]], [.one li]⟩⟩
def fe58 : FE := ⟨5, [.tmp 2], .two (.reg [] [1] none []) (.two (.reg [] [2] none []) (.nil)), ⟨[.agg [li, li, li, li, li, li, li, li, li, li, li, li, li, li, li, li, li, li, li, li, li, li, li, li]], [.one li]⟩⟩
def fe59 : FE := ⟨44, [.tmp 8], .two (.reg [] [0, 1, 2, 3] none []) (.two (.two (.reg [] [0, 1, 2, 3, 11, 12, 13] none []) (.blk ⟨[0, 1], [], [], []⟩ (.lp [] ⟨[0, 1, 2, 3, 11, 12], [(13, .lf li)], [], []⟩ (.two (.reg [] [0, 1, 2, 3, 11, 12, 13, 14] none []) (.two (.cond none (.nil) (.nil)) (.two (.thru (.two (.reg [] [0, 1, 2, 3, 9, 10, 11, 12, 13] none []) (.two (.reg [] [] (some ⟨[0, 1, 2, 3, 11, 12, 13], [(38, .lf lb)], [], []⟩) []) (.cond none (.two (.reg [] [8] none []) (.nil)) (.nil))))) (.reg [] [0, 1, 2, 3, 11, 12, 13] none []))))))) (.two (.reg [] [8] none []) (.nil))), ⟨[.one (Lf.row 9), .one li, .one Lf.raw, .one Lf.raw], [.one lb]⟩⟩
def fe60 : FE := ⟨47, [.tmp 2], .two (.reg [] [1] none []) (.two (.two (.reg [] [] (some ⟨[], [(46, .lf lb)], [], []⟩) []) (.cond none (.two (.reg [] [2] none []) (.nil)) (.nil))) (.two (.reg [] [2] none []) (.nil))), ⟨[.agg [li, li, li, li, li, li, li, li, li]], [.one li]⟩⟩
def fe61 : FE := ⟨5, [.tmp 2], .two (.reg [] [1] none []) (.two (.reg [] [2] none []) (.nil)), ⟨[.agg [li, li, li, li, li, li, li, li, li]], [.one li]⟩⟩
def fe62 : FE := ⟨44, [.tmp 8], .two (.reg [] [0, 1, 2, 3] none []) (.two (.two (.reg [] [0, 1, 2, 3, 11, 12, 13] none []) (.blk ⟨[0, 1], [], [], []⟩ (.lp [] ⟨[0, 1, 2, 3, 11, 12], [(13, .lf li)], [], []⟩ (.two (.reg [] [0, 1, 2, 3, 11, 12, 13, 14] none []) (.two (.cond none (.nil) (.nil)) (.two (.thru (.two (.reg [] [0, 1, 2, 3, 9, 10, 11, 12, 13] none []) (.two (.reg [] [] (some ⟨[0, 1, 2, 3, 11, 12, 13], [(38, .lf lb)], [], []⟩) []) (.cond none (.two (.reg [] [8] none []) (.nil)) (.nil))))) (.reg [] [0, 1, 2, 3, 11, 12, 13] none []))))))) (.two (.reg [] [8] none []) (.nil))), ⟨[.one (Lf.row 7), .one li, .one Lf.raw, .one Lf.raw], [.one lb]⟩⟩
def fe63 : FE := ⟨5, [.tmp 2], .two (.reg [] [1] none []) (.two (.reg [] [2] none []) (.nil)), ⟨[.agg [li, li, li, li, li, li, li]], [.one li]⟩⟩
def fe64 : FE := ⟨11, [.tmp 3], .two (.reg [] [1, 2] none []) (.two (.reg [] [3] none []) (.nil)), ⟨[.agg [li, li, li, li, li, li, li, li, li], .one Lf.ref], [.one lb]⟩⟩
def fe65 : FE := ⟨19, [.tmp 6], .two (.reg [] [0, 1, 2] none []) (.two (.reg [] [6] none []) (.nil)), ⟨[.one li, .one li, .one li], [.one lb]⟩⟩
def fe66 : FE := ⟨23, [.cell 4 82, .tmp 5], .two (.reg [] [1, 2, 4, 5] none []) (.two (.two (.reg [] [1, 4, 5, 9, 10, 11] none []) (.blk ⟨[4], [(5, .lf lb)], [(1, 82, [.lf li, .lf li, .lf li, .lf li, .lf li, .lf li, .lf li, .lf li, .lf li, .lf li, .lf li, .lf li, .lf li, .lf li, .lf li, .lf li, .lf li, .lf li, .lf li, .lf li, .lf li, .lf li, .lf li, .lf li])], []⟩ (.lp [] ⟨[1, 4, 9, 10], [(5, .lf lb), (11, .lf li)], [(1, 82, [.lf li, .lf li, .lf li, .lf li, .lf li, .lf li, .lf li, .lf li, .lf li, .lf li, .lf li, .lf li, .lf li, .lf li, .lf li, .lf li, .lf li, .lf li, .lf li, .lf li, .lf li, .lf li, .lf li, .lf li])], []⟩ (.two (.reg [] [1, 4, 5, 9, 10, 11, 12] none []) (.two (.cond none (.nil) (.nil)) (.two (.thru (.two (.reg [] [1, 4, 5, 7, 9, 10, 11] none []) (.two (.reg [] [1, 4, 5, 7, 9, 10, 11, 18] none []) (.cond (some ⟨[1, 4, 9, 10, 11], [(5, .lf lb)], [(1, 82, [.lf li, .lf li, .lf li, .lf li, .lf li, .lf li, .lf li, .lf li, .lf li, .lf li, .lf li, .lf li, .lf li, .lf li, .lf li, .lf li, .lf li, .lf li, .lf li, .lf li, .lf li, .lf li, .lf li, .lf li])], []⟩) (.reg [] [1, 4, 5, 9, 10, 11] none []) (.nil))))) (.reg [] [1, 4, 5, 9, 10, 11] none []))))))) (.two (.reg [] [4, 5] none []) (.nil))), ⟨[.agg [Lf.row 24, Lf.row 9, Lf.row 7], .one li], [.agg [li, li, li, li, li, li, li, li, li, li, li, li, li, li, li, li, li, li, li, li, li, li, li, li], .one lb]⟩⟩
def fe67 : FE := ⟨45, [.tmp 2], .two (.reg [] [1] none []) (.two (.two (.reg [] [] (some ⟨[], [(44, .lf lb)], [], []⟩) []) (.cond none (.two (.reg [] [2] none []) (.nil)) (.nil))) (.two (.reg [] [2] none []) (.nil))), ⟨[.agg [li, li, li, li, li, li, li, li, li, li, li, li, li, li, li, li, li, li, li, li, li, li, li, li]], [.one li]⟩⟩
def fe68 : FE := ⟨51, [.tmp 2], .two (.reg [] [1] none []) (.two (.two (.reg [] [] (some ⟨[], [(50, .lf lb)], [], []⟩) []) (.cond none (.two (.reg [] [2] none []) (.nil)) (.nil))) (.two (.reg [] [2] none []) (.nil))), ⟨[.agg [li, li, li, li, li, li, li, li, li]], [.one li]⟩⟩
def fe69 : FE := ⟨53, [.tmp 2], .two (.reg [] [1] none []) (.two (.two (.reg [] [] (some ⟨[1], [(27, .lf lb)], [], []⟩) []) (.cond none (.two (.reg [] [2] none []) (.nil)) (.nil))) (.two (.reg [] [] (some ⟨[1], [(3, .lf lb)], [], []⟩) []) (.two (.two (.reg [] [] (some ⟨[], [(52, .lf lb)], [], []⟩) []) (.cond none (.two (.reg [] [2] none []) (.nil)) (.nil))) (.two (.reg [] [2] none []) (.nil))))), ⟨[.agg [li, li, li, li, li, li, li]], [.one li]⟩⟩
def fe70 : FE := ⟨54, [.cell 6 67, .tmp 7], .two (.reg [] [1, 2, 3, 6] none []) (.two (.reg [] [1, 2, 3, 6, 8] none []) (.two (.two (.reg [] [1, 2, 3, 6, 8, 14] none []) (.cond none (.two (.reg [] [6, 7] none []) (.nil)) (.nil))) (.two (.two (.reg [] [1, 2, 3, 6, 9] none []) (.blk ⟨[6], [], [(1, 67, [.lf li, .lf li, .lf li, .lf li, .lf li, .lf li, .lf li, .lf li, .lf li])], []⟩ (.lp [] ⟨[1, 2, 3, 6], [(9, .lf li)], [(1, 67, [.lf li, .lf li, .lf li, .lf li, .lf li, .lf li, .lf li, .lf li, .lf li])], []⟩ (.two (.two (.reg [] [1, 2, 3, 6, 9, 21] none []) (.cond none (.nil) (.nil))) (.two (.thru (.two (.reg [] [] (some ⟨[1, 2, 3, 6, 9], [(47, .lf lb)], [], []⟩) []) (.cond none (.two (.reg [] [6, 7] none []) (.nil)) (.nil)))) (.reg [] [1, 2, 3, 6, 9] none [])))))) (.two (.reg [] [6, 7] none []) (.nil))))), ⟨[.agg [Lf.row 24, Lf.row 9, Lf.row 7], .one li, .one li], [.agg [li, li, li, li, li, li, li, li, li], .one li]⟩⟩
def fe71 : FE := ⟨79, [.cell 6 49], .two (.reg [] [2, 3, 4, 6] none []) (.two (.reg [] [2, 3, 4, 6, 7] none []) (.two (.reg [] [3, 4, 6, 7, 8] none []) (.two (.reg [] [3, 4, 6, 7, 8, 9] none []) (.two (.reg [] [3, 4, 6, 7, 9, 10] none []) (.two (.two (.reg [] [3, 4, 6, 7, 9, 10, 35] none []) (.cond (some ⟨[3, 4, 6, 9], [(10, .lf li)], [(2, 49, [.lf li, .lf li, .lf li, .lf li]), (5, 49, [.lf li, .lf li, .lf li, .lf li])], []⟩) (.two (.reg [] [3, 4, 6, 9] none []) (.reg [] [3, 4, 6, 9, 10] none [])) (.two (.reg [] [] (some ⟨[3, 4, 6, 9, 10], [(46, .lf lb)], [], []⟩) []) (.cond none (.two (.reg [] [6] none []) (.nil)) (.nil))))) (.two (.reg [] [4, 6, 9, 10, 11] none []) (.two (.reg [] [4, 6, 9, 10, 11] none []) (.two (.two (.reg [] [6, 9, 10, 11, 63] none []) (.cond (some ⟨[6, 9, 10], [], [(5, 49, [.lf li, .lf li, .lf li, .lf li])], []⟩) (.reg [] [6, 9, 10] none []) (.nil))) (.two (.reg [] [6, 9] none []) (.two (.reg [] [6] none []) (.nil))))))))))), ⟨[.agg [Lf.row 24, Lf.row 9, Lf.row 7], .agg [li, li, li, li, li, li, li, li, li], .one li], [.agg [li, li, li, li]]⟩⟩
def fe72 : FE := ⟨9, [.tmp 4], .two (.reg [] [0, 1] none []) (.two (.reg [] [4] none []) (.nil)), ⟨[.one (Lf.row 1), .one Lf.raw], [.one lb]⟩⟩
def fe73 : FE := ⟨6, [.tmp 2], .two (.reg [] [0] none []) (.two (.reg [] [2] none []) (.nil)), ⟨[.one li], [.one lb]⟩⟩
def fe74 : FE := ⟨14, [.tmp 5], .two (.reg [] [1, 2, 3, 4] none []) (.two (.reg [] [5] none []) (.nil)), ⟨[.agg [li, li, li, li, li, li, li, li, li], .one Lf.ref, .one Lf.ref, .one Lf.ref], [.one lb]⟩⟩
def fe75 : FE := ⟨48, [.tmp 6], .two (.reg [] [2, 3, 4] none []) (.two (.reg [] [2, 3, 4, 7] none []) (.two (.two (.reg [] [2, 3, 4, 7, 8] none []) (.blk ⟨[], [(7, .own 0)], [], [(0, 58, 7, none)]⟩ (.lp [.mk 7 58 7] ⟨[2, 3, 4], [(7, .own 0), (8, .lf li)], [], [(0, 58, 7, none)]⟩ (.two (.two (.reg [] [2, 3, 4, 7, 8, 14] none []) (.cond none (.nil) (.nil))) (.two (.thru (.two (.reg [] [2, 3, 4, 7, 8, 9] none []) (.two (.reg [] [] (some ⟨[2, 3, 4, 7, 8, 9], [(42, .lf lb)], [], []⟩) []) (.cond (some ⟨[2, 3, 4, 8], [(7, .own 0)], [], [(0, 58, 7, none)]⟩) (.reg [] [2, 3, 4, 7, 8] none []) (.nil))))) (.reg [] [2, 3, 4, 7, 8] none [])))))) (.two (.reg [] [6] none []) (.nil)))), ⟨[.agg [Lf.row 24, Lf.row 9, Lf.row 7], .agg [li, li, li, li, li, li, li, li, li], .one li], [.one (Lf.row 7)]⟩⟩
def fe76 : FE := ⟨73, [.tmp 2], .two (.reg [] [0] none []) (.two (.reg [] [0, 3] none []) (.two (.reg [] [0, 3, 4] none []) (.two (.two (.reg [] [0, 3, 4, 5] none []) (.blk ⟨[0], [(3, .lf li)], [(0, 58, [.lf li, .lf li, .lf li, .lf li, .lf li, .lf li, .lf li])], []⟩ (.lp [] ⟨[0, 4], [(3, .lf li), (5, .lf li)], [(0, 58, [.lf li, .lf li, .lf li, .lf li, .lf li, .lf li, .lf li])], []⟩ (.two (.two (.reg [] [0, 3, 4, 5, 12] none []) (.cond none (.nil) (.nil))) (.two (.thru (.two (.reg [] [] (some ⟨[0, 3, 4, 5], [(30, .lf lb)], [], []⟩) []) (.cond (some ⟨[0, 4, 5], [(3, .lf li)], [(0, 58, [.lf li, .lf li, .lf li, .lf li, .lf li, .lf li, .lf li])], []⟩) (.two (.reg [] [0, 4, 5] none []) (.reg [] [0, 3, 4, 5] none [])) (.nil)))) (.reg [] [0, 3, 4, 5] none [])))))) (.two (.two (.reg [] [0, 3, 41] none []) (.cond none (.two (.reg [] [2] none []) (.nil)) (.nil))) (.two (.reg [] [0, 3, 6] none []) (.two (.two (.reg [] [0, 3, 6, 7] none []) (.blk ⟨[], [(3, .lf li)], [], []⟩ (.lp [] ⟨[0, 6], [(3, .lf li), (7, .lf li)], [], []⟩ (.two (.two (.reg [] [0, 3, 6, 7, 49] none []) (.cond none (.nil) (.nil))) (.two (.thru (.two (.reg [] [] (some ⟨[0, 3, 6, 7], [(66, .lf lb)], [], []⟩) []) (.cond (some ⟨[0, 6, 7], [(3, .lf li)], [], []⟩) (.reg [] [0, 3, 6, 7] none []) (.nil)))) (.reg [] [0, 3, 6, 7] none [])))))) (.two (.reg [] [2] none []) (.nil)))))))), ⟨[.one (Lf.row 7)], [.one li]⟩⟩
def fe77 : FE := ⟨22, [.tmp 2], .two (.reg [] [0] none []) (.two (.reg [] [0, 3] none []) (.two (.reg [] [3, 4] none []) (.two (.two (.reg [] [] (some ⟨[3, 4], [(19, .lf lb)], [], []⟩) []) (.cond none (.two (.reg [] [2] none []) (.nil)) (.nil))) (.two (.reg [] [2] none []) (.nil))))), ⟨[.one (Lf.row 7)], [.one li]⟩⟩
def fe78 : FE := ⟨39, [.tmp 4], .two (.reg [] [0, 1] none []) (.two (.reg [] [0, 1, 5] none []) (.two (.two (.reg [] [0, 1, 5, 6] none []) (.blk ⟨[], [(5, .lf li)], [], []⟩ (.lp [] ⟨[0, 1], [(5, .lf li), (6, .lf li)], [], []⟩ (.two (.two (.reg [] [0, 1, 5, 6, 10] none []) (.cond none (.nil) (.nil))) (.two (.thru (.two (.reg [] [] (some ⟨[0, 1, 5, 6], [(32, .lf lb)], [], []⟩) []) (.cond (some ⟨[0, 1, 6], [(5, .lf li)], [], []⟩) (.reg [] [0, 1, 5, 6] none []) (.nil)))) (.reg [] [0, 1, 5, 6] none [])))))) (.two (.reg [] [4] none []) (.nil)))), ⟨[.one (Lf.row 7), .one li], [.one li]⟩⟩
def fe79 : FE := ⟨39, [.tmp 6], .two (.reg [] [2, 3, 4] none []) (.two (.reg [] [2, 3, 4, 7] none []) (.two (.two (.reg [] [2, 3, 4, 7, 8] none []) (.blk ⟨[], [], [], []⟩ (.lp [] ⟨[2, 3, 4], [(7, .lf li), (8, .lf li)], [], []⟩ (.two (.two (.reg [] [] (some ⟨[2, 3, 4, 7, 8], [(25, .lf lb)], [], []⟩) []) (.cond none (.nil) (.nil))) (.two (.thru (.two (.reg [] [2, 3, 4, 7, 8] none []) (.two (.reg [] [2, 3, 4, 7, 8, 37] none []) (.cond none (.two (.reg [] [6] none []) (.nil)) (.nil))))) (.reg [] [2, 3, 4, 7, 8] none [])))))) (.two (.reg [] [6] none []) (.nil)))), ⟨[.agg [Lf.row 24, Lf.row 9, Lf.row 7], .agg [li, li, li, li, li, li, li, li, li], .one li], [.one li]⟩⟩
def fe80 : FE := ⟨8, [.tmp 3], .two (.reg [] [1, 2] none []) (.two (.reg [] [3] none []) (.nil)), ⟨[.agg [li, li, li, li, li, li, li, li, li], .one Lf.ref], [.one lb]⟩⟩
def fe82 : FE := ⟨8, [.tmp 3], .two (.reg [] [1, 2] none []) (.two (.reg [] [3] none []) (.nil)), ⟨[.agg [li, li, li, li, li, li, li], .one Lf.ref], [.one lb]⟩⟩
def fe83 : FE := ⟨19, [.tmp 4], .two (.reg [] [0, 1] none []) (.two (.two (.reg [] [0, 1, 7, 8] none []) (.blk ⟨[], [], [], []⟩ (.lp [] ⟨[0, 1, 7], [(8, .lf li)], [], []⟩ (.two (.reg [] [0, 1, 7, 8, 9] none []) (.two (.cond none (.nil) (.nil)) (.two (.thru (.two (.reg [] [0, 1, 5, 7, 8] none []) (.two (.reg [] [0, 1, 5, 7, 8, 16] none []) (.cond none (.two (.reg [] [4] none []) (.nil)) (.nil))))) (.reg [] [0, 1, 7, 8] none []))))))) (.two (.reg [] [4] none []) (.nil))), ⟨[.one (Lf.row 9), .one Lf.raw], [.one li]⟩⟩
def fe84 : FE := ⟨12, [.tmp 6], .two (.reg [] [3, 4, 5] none []) (.two (.reg [] [6] none [(some 9, ⟨[4, 5], [(9, .own 0)], [], [(0, 58, 7, none)]⟩, .two (.reg [] [0] none []) (.two (.two (.reg [] [0, 4] none []) (.cond none (.two (.reg [] [2] none []) (.rt [.mk 2 58 7])) (.nil))) (.two (.reg [] [2] none []) (.nil)))), (some 11, ⟨[], [(11, .own 0)], [], [(0, 58, 7, none)]⟩, .two (.reg [] [0, 1] none []) (.two (.reg [] [0, 1, 5] none []) (.two (.two (.reg [] [0, 1, 5, 12] none []) (.cond none (.two (.reg [] [4] none []) (.nil)) (.nil))) (.two (.two (.reg [] [0, 1, 5, 6] none []) (.blk ⟨[0], [(5, .lf li)], [], [(0, 58, 7, some 0)]⟩ (.lp [] ⟨[0, 1], [(5, .lf li), (6, .lf li)], [], [(0, 58, 7, some 0)]⟩ (.two (.two (.reg [] [0, 1, 5, 6, 19] none []) (.cond none (.nil) (.nil))) (.two (.thru (.two (.reg [] [0, 1, 5, 6, 7] none []) (.two (.reg [] [0, 1, 5, 6, 7, 29] none []) (.cond (some ⟨[0, 1, 6], [(5, .lf li)], [], [(0, 58, 7, some 0)]⟩) (.two (.reg [] [0, 1, 5, 6] none []) (.reg [] [0, 1, 5, 6] none [])) (.nil))))) (.reg [] [0, 1, 5, 6] none [])))))) (.two (.reg [] [0, 5] none []) (.two (.reg [] [4] none []) (.nil)))))))]) (.nil)), ⟨[.agg [Lf.row 24, Lf.row 9, Lf.row 7], .agg [li, li, li, li, li, li, li, li, li], .one li], [.one (Lf.row 7)]⟩⟩
def fe85 : FE := ⟨61, [.tmp 2, .tmp 3], .two (.reg [] [0] none []) (.two (.reg [] [0, 3] none []) (.two (.reg [] [0, 3, 4, 5] none []) (.two (.two (.reg [] [3, 4, 5, 10, 11, 12] none []) (.blk ⟨[4, 5], [(3, .lf li)], [(0, 58, [.lf li, .lf li, .lf li, .lf li, .lf li, .lf li, .lf li]), (1, 58, [.lf li, .lf li, .lf li, .lf li, .lf li, .lf li, .lf li])], []⟩ (.lp [] ⟨[4, 5, 10, 11], [(3, .lf li), (12, .lf li)], [(0, 58, [.lf li, .lf li, .lf li, .lf li, .lf li, .lf li, .lf li]), (1, 58, [.lf li, .lf li, .lf li, .lf li, .lf li, .lf li, .lf li])], []⟩ (.two (.reg [] [3, 4, 5, 10, 11, 12, 13] none []) (.two (.cond none (.nil) (.nil)) (.two (.blk ⟨[4, 5, 10, 11, 12], [(3, .lf li)], [(0, 58, [.lf li, .lf li, .lf li, .lf li, .lf li, .lf li, .lf li]), (1, 58, [.lf li, .lf li, .lf li, .lf li, .lf li, .lf li, .lf li])], []⟩ (.two (.reg [] [3, 4, 5, 7, 10, 11, 12] none []) (.two (.two (.reg [] [3, 4, 5, 7, 10, 11, 12, 18] none []) (.cond none (.nil) (.nil))) (.two (.two (.reg [] [] (some ⟨[3, 4, 5, 7, 10, 11, 12], [(26, .lf lb)], [], []⟩) []) (.cond (some ⟨[4, 5, 7, 10, 11, 12], [(3, .lf li)], [], []⟩) (.reg [] [3, 4, 5, 7, 10, 11, 12] none []) (.nil))) (.two (.two (.reg [] [] (some ⟨[3, 4, 5, 7, 10, 11, 12], [(38, .lf lb)], [], []⟩) []) (.cond (some ⟨[3, 4, 5, 7, 10, 11, 12], [], [(0, 58, [.lf li, .lf li, .lf li, .lf li, .lf li, .lf li, .lf li])], []⟩) (.reg [] [3, 4, 5, 7, 10, 11, 12] none []) (.nil))) (.two (.reg [] [] (some ⟨[3, 4, 5, 7, 10, 11, 12], [(49, .lf lb)], [], []⟩) []) (.cond (some ⟨[3, 4, 5, 10, 11, 12], [], [(1, 58, [.lf li, .lf li, .lf li, .lf li, .lf li, .lf li, .lf li])], []⟩) (.reg [] [3, 4, 5, 10, 11, 12] none []) (.nil)))))))) (.reg [] [3, 4, 5, 10, 11, 12] none []))))))) (.two (.two (.reg [] [3, 4, 5, 54] none []) (.cond none (.two (.reg [] [2, 3] none []) (.nil)) (.nil))) (.two (.reg [] [2, 3] none []) (.nil)))))), ⟨[.one (Lf.row 7)], [.one li, .one li]⟩⟩
def fe86 : FE := ⟨34, [.cell 6 3], .two (.reg [] [2, 3, 4, 6] none []) (.two (.two (.reg [] [2, 3, 4, 6, 12] none []) (.cond none (.two (.reg [] [6] none []) (.nil)) (.nil))) (.two (.reg [] [2, 3, 4, 6, 7] none []) (.two (.reg [] [2, 3, 4, 6, 7, 8] none []) (.two (.two (.reg [] [3, 4, 6, 7, 8, 21] none []) (.thru (.lp [] ⟨[3, 4, 6, 7, 8, 21], [], [(2, 3, [.lf li]), (3, 3, [.lf li])], []⟩ (.thru (.two (.reg [] [4, 6, 7, 9] none [(some 28, ⟨[4, 6, 7, 9], [], [(3, 3, [.lf li])], []⟩, .reg [] [] none [])]) (.two (.reg [] [6, 9, 32] none []) (.cond none (.two (.reg [] [6] none []) (.nil)) (.nil)))))))) (.two (.reg [] [6] none []) (.nil)))))), ⟨[.agg [Lf.row 24, Lf.row 9, Lf.row 7], .agg [li, li, li, li, li, li, li, li, li], .one li], [.one li]⟩⟩
def fe87 : FE := ⟨26, [.tmp 6], .two (.reg [] [2, 3, 4] none []) (.two (.reg [] [3, 4, 7] none []) (.two (.thru (.two (.reg [] [3, 4, 7, 9] none []) (.cond (some ⟨[3], [(7, .lf li)], [], []⟩) (.reg [] [3, 7] none []) (.two (.reg [] [3, 4, 7, 15] none []) (.cond (some ⟨[3], [(7, .lf li)], [], []⟩) (.reg [] [3, 7] none []) (.nil)))))) (.two (.reg [] [6] none []) (.nil)))), ⟨[.agg [li, li, li, li, li, li, li, li, li], .agg [li, li, li, li], .one li], [.one Lf.raw]⟩⟩
def fe88 : FE := ⟨21, [.tmp 6], .two (.reg [] [2, 3, 4] none []) (.two (.reg [] [4, 7] none []) (.two (.reg [] [6] none []) (.nil))), ⟨[.agg [Lf.row 24, Lf.row 9, Lf.row 7], .agg [li, li, li, li, li, li, li, li, li], .one li], [.one li]⟩⟩
def fe90 : FE := ⟨6, [.tmp 2], .two (.reg [] [0] none []) (.two (.reg [] [2] none []) (.nil)), ⟨[.one li], [.one lb]⟩⟩
def fe91 : FE := ⟨26, [.tmp 6], .two (.reg [] [0, 1, 2] none []) (.two (.reg [] [6] none []) (.nil)), ⟨[.one li, .one li, .one li], [.one lb]⟩⟩
def fe94 : FE := ⟨11, [.tmp 2], .two (.reg [] [1] none []) (.two (.reg [.fb 0] [2] none []) (.nil)), ⟨[.agg [li, li, li, li, li, li, li, li, li, li]], [.one lb]⟩⟩
def fe95 : FE := ⟨16, [.tmp 2], .two (.reg [] [1] none []) (.two (.two (.reg [] [1, 3] none []) (.blk ⟨[1], [], [], []⟩ (.lp [] ⟨[1], [(3, .lf li)], [], []⟩ (.two (.two (.reg [] [1, 3, 5] none []) (.cond none (.nil) (.nil))) (.two (.thru (.two (.reg [] [1, 3, 12] none []) (.cond none (.two (.reg [] [2] none []) (.nil)) (.nil)))) (.reg [] [1, 3] none [])))))) (.two (.reg [] [2] none []) (.nil))), ⟨[.agg [li, li, li, li, li, li, li, li, li, li]], [.one lb]⟩⟩
def fe96 : FE := ⟨20, [.tmp 4], .two (.reg [] [0, 1] none []) (.two (.reg [] [4] none []) (.nil)), ⟨[.one li, .one li], [.one lb]⟩⟩
def fe97 : FE := ⟨78, [.cell 6 45], .two (.reg [] [2, 3, 4, 6] none []) (.two (.reg [] [2, 3, 4, 6, 7] none []) (.two (.two (.reg [] [2, 3, 4, 6, 7, 17] none []) (.cond none (.two (.reg [] [6] none []) (.nil)) (.nil))) (.two (.reg [] [2, 3, 4, 6, 7, 8] none []) (.two (.reg [] [2, 3, 4, 6, 7, 8, 9] none []) (.two (.reg [] [2, 3, 4, 6, 7, 8] none []) (.two (.two (.reg [] [2, 3, 4, 6, 7, 8, 11] none []) (.blk ⟨[6, 7], [], [(3, 45, [.lf li, .lf li, .lf li])], []⟩ (.lp [] ⟨[2, 3, 4, 6, 7, 8], [(11, .lf li)], [(3, 45, [.lf li, .lf li, .lf li])], []⟩ (.two (.two (.reg [] [2, 3, 4, 6, 7, 8, 11, 42] none []) (.cond none (.nil) (.nil))) (.two (.thru (.two (.reg [] [2, 3, 4, 6, 7, 8, 11, 12] none []) (.two (.reg [] [2, 3, 4, 6, 7, 8, 11, 12] none []) (.two (.reg [] [] (some ⟨[2, 3, 4, 6, 7, 8, 11, 12], [(67, .lf lb)], [], []⟩) []) (.cond (some ⟨[2, 3, 4, 6, 7, 8, 11], [], [(3, 45, [.lf li, .lf li, .lf li])], []⟩) (.reg [] [2, 3, 4, 6, 7, 8, 11] none []) (.nil)))))) (.reg [] [2, 3, 4, 6, 7, 8, 11] none [])))))) (.two (.reg [] [6] none []) (.nil)))))))), ⟨[.agg [Lf.row 24, Lf.row 9, Lf.row 7], .agg [li, li, li, li, li, li, li, li, li], .one li], [.agg [li, li, li]]⟩⟩
def fe98 : FE := ⟨29, [.cell 4 82, .tmp 5], .two (.reg [] [1, 2, 4] none []) (.two (.two (.reg [] [1, 2, 4, 6] none []) (.blk ⟨[4], [], [(1, 82, [.lf li, .lf li, .lf li, .lf li, .lf li, .lf li, .lf li, .lf li, .lf li, .lf li, .lf li, .lf li, .lf li, .lf li, .lf li, .lf li, .lf li, .lf li, .lf li, .lf li, .lf li, .lf li, .lf li, .lf li])], []⟩ (.lp [] ⟨[1, 2, 4], [(6, .lf li)], [(1, 82, [.lf li, .lf li, .lf li, .lf li, .lf li, .lf li, .lf li, .lf li, .lf li, .lf li, .lf li, .lf li, .lf li, .lf li, .lf li, .lf li, .lf li, .lf li, .lf li, .lf li, .lf li, .lf li, .lf li, .lf li])], []⟩ (.two (.two (.reg [] [1, 2, 4, 6, 12] none []) (.cond none (.nil) (.nil))) (.two (.thru (.two (.reg [] [1, 2, 4, 6, 22] none []) (.cond none (.two (.reg [] [4, 5] none []) (.nil)) (.nil)))) (.reg [] [1, 2, 4, 6] none [])))))) (.two (.reg [] [4, 5] none []) (.nil))), ⟨[.agg [Lf.row 24, Lf.row 9, Lf.row 7], .one li], [.agg [li, li, li, li, li, li, li, li, li, li, li, li, li, li, li, li, li, li, li, li, li, li, li, li], .one lb]⟩⟩
def fe99 : FE := ⟨19, [.tmp 4], .two (.reg [] [0, 1] none []) (.two (.two (.reg [] [0, 1, 7, 8] none []) (.blk ⟨[], [], [], []⟩ (.lp [] ⟨[0, 1, 7], [(8, .lf li)], [], []⟩ (.two (.reg [] [0, 1, 7, 8, 9] none []) (.two (.cond none (.nil) (.nil)) (.two (.thru (.two (.reg [] [0, 1, 5, 7, 8] none []) (.two (.reg [] [0, 1, 5, 7, 8, 16] none []) (.cond none (.two (.reg [] [4] none []) (.nil)) (.nil))))) (.reg [] [0, 1, 7, 8] none []))))))) (.two (.reg [] [4] none []) (.nil))), ⟨[.one (Lf.row 1), .one Lf.raw], [.one li]⟩⟩
def fe100 : FE := ⟨21, [.tmp 6], .two (.reg [] [2, 3, 4] none []) (.two (.reg [] [4, 7] none []) (.two (.reg [] [6] none []) (.nil))), ⟨[.agg [Lf.row 24, Lf.row 9, Lf.row 7], .agg [li, li, li, li, li, li, li, li, li], .one li], [.one li]⟩⟩
def fe101 : FE := ⟨19, [.tmp 4], .two (.reg [] [0, 1] none []) (.two (.two (.reg [] [0, 1, 7, 8] none []) (.blk ⟨[], [], [], []⟩ (.lp [] ⟨[0, 1, 7], [(8, .lf li)], [], []⟩ (.two (.reg [] [0, 1, 7, 8, 9] none []) (.two (.cond none (.nil) (.nil)) (.two (.thru (.two (.reg [] [0, 1, 5, 7, 8] none []) (.two (.reg [] [0, 1, 5, 7, 8, 16] none []) (.cond none (.two (.reg [] [4] none []) (.nil)) (.nil))))) (.reg [] [0, 1, 7, 8] none []))))))) (.two (.reg [] [4] none []) (.nil))), ⟨[.one (Lf.row 7), .one Lf.raw], [.one li]⟩⟩
def fe102 : FE := ⟨28, [.tmp 4], .two (.reg [] [1, 2, 3] none []) (.two (.reg [] [4] none []) (.nil)), ⟨[.agg [li, li, li, li, li, li, li], .one Lf.ref, .one Lf.ref], [.one lb]⟩⟩
def fe104 : FE := ⟨6, [.tmp 4], .two (.reg [] [2, 3] none []) (.two (.reg [] [4] none []) (.nil)), ⟨[.one li, .one li], [.one Lf.raw]⟩⟩
def fe106 : FE := ⟨6, [.tmp 2], .two (.reg [] [0] none []) (.two (.reg [] [2] none []) (.nil)), ⟨[.one li], [.one lb]⟩⟩
def fe107 : FE := ⟨17, [.tmp 4], .two (.reg [] [1, 2] none []) (.two (.two (.reg [] [1, 2, 7] none []) (.cond none (.two (.reg [] [4] none []) (.nil)) (.nil))) (.two (.two (.reg [] [2, 11] none []) (.cond none (.two (.reg [] [4] none []) (.nil)) (.nil))) (.two (.reg [] [4] none []) (.nil)))), ⟨[.agg [li, li, li, li], .one li], [.one li]⟩⟩
def fe55 : FE := ⟨8, [.tmp 2], .two (.reg [] [0] none []) (.two (.two (.reg [] [0, 4] none []) (.cond none (.two (.reg [] [2] none []) (.rt [.mk 2 58 7])) (.nil))) (.two (.reg [] [2] none []) (.nil))), ⟨[.one (Lf.row 7)], [.one (Lf.row 7)]⟩⟩
noncomputable def tb : List (Nat × FE × Code) := [(3, fe3, bodyOf Tryz.f3), (4, fe4, bodyOf Tryz.f4), (5, fe5, bodyOf Tryz.f5), (6, fe6, bodyOf Tryz.f6), (7, fe7, bodyOf Tryz.f7), (8, fe8, bodyOf Tryz.f8), (9, fe9, bodyOf Tryz.f9), (10, fe10, bodyOf Tryz.f10), (11, fe11, bodyOf Tryz.f11), (12, fe12, bodyOf Tryz.f12), (13, fe13, bodyOf Tryz.f13), (14, fe14, bodyOf Tryz.f14), (15, fe15, bodyOf Tryz.f15), (16, fe16, bodyOf Tryz.f16), (17, fe17, bodyOf Tryz.f17), (18, fe18, bodyOf Tryz.f18), (19, fe19, bodyOf Tryz.f19), (20, fe20, bodyOf Tryz.f20), (21, fe21, bodyOf Tryz.f21), (22, fe22, bodyOf Tryz.f22), (23, fe23, bodyOf Tryz.f23), (24, fe24, bodyOf Tryz.f24), (25, fe25, bodyOf Tryz.f25), (26, fe26, bodyOf Tryz.f26), (27, fe27, bodyOf Tryz.f27), (28, fe28, bodyOf Tryz.f28), (29, fe29, bodyOf Tryz.f29), (30, fe30, bodyOf Tryz.f30), (31, fe31, bodyOf Tryz.f31), (32, fe32, bodyOf Tryz.f32), (33, fe33, bodyOf Tryz.f33), (34, fe34, bodyOf Tryz.f34), (35, fe35, bodyOf Tryz.f35), (36, fe36, bodyOf Tryz.f36), (37, fe37, bodyOf Tryz.f37), (38, fe38, bodyOf Tryz.f38), (39, fe39, bodyOf Tryz.f39), (41, fe41, bodyOf Tryz.f41), (42, fe42, bodyOf Tryz.f42), (43, fe43, bodyOf Tryz.f43), (44, fe44, bodyOf Tryz.f44), (45, fe45, bodyOf Tryz.f45), (46, fe46, bodyOf Tryz.f46), (47, fe47, bodyOf Tryz.f47), (48, fe48, bodyOf Tryz.f48), (49, fe49, bodyOf Tryz.f49), (50, fe50, bodyOf Tryz.f50), (51, fe51, bodyOf Tryz.f51), (52, fe52, bodyOf Tryz.f52), (53, fe53, bodyOf Tryz.f53), (56, fe56, bodyOf Tryz.f56), (57, fe57, bodyOf Tryz.f57), (58, fe58, bodyOf Tryz.f58), (59, fe59, bodyOf Tryz.f59), (60, fe60, bodyOf Tryz.f60), (61, fe61, bodyOf Tryz.f61), (62, fe62, bodyOf Tryz.f62), (63, fe63, bodyOf Tryz.f63), (64, fe64, bodyOf Tryz.f64), (65, fe65, bodyOf Tryz.f65), (66, fe66, bodyOf Tryz.f66), (67, fe67, bodyOf Tryz.f67), (68, fe68, bodyOf Tryz.f68), (69, fe69, bodyOf Tryz.f69), (70, fe70, bodyOf Tryz.f70), (71, fe71, bodyOf Tryz.f71), (72, fe72, bodyOf Tryz.f72), (73, fe73, bodyOf Tryz.f73), (74, fe74, bodyOf Tryz.f74), (75, fe75, bodyOf Tryz.f75), (76, fe76, bodyOf Tryz.f76), (77, fe77, bodyOf Tryz.f77), (78, fe78, bodyOf Tryz.f78), (79, fe79, bodyOf Tryz.f79), (80, fe80, bodyOf Tryz.f80), (82, fe82, bodyOf Tryz.f82), (83, fe83, bodyOf Tryz.f83), (84, fe84, bodyOf Tryz.f84), (85, fe85, bodyOf Tryz.f85), (86, fe86, bodyOf Tryz.f86), (87, fe87, bodyOf Tryz.f87), (88, fe88, bodyOf Tryz.f88), (90, fe90, bodyOf Tryz.f90), (91, fe91, bodyOf Tryz.f91), (94, fe94, bodyOf Tryz.f94), (95, fe95, bodyOf Tryz.f95), (96, fe96, bodyOf Tryz.f96), (97, fe97, bodyOf Tryz.f97), (98, fe98, bodyOf Tryz.f98), (99, fe99, bodyOf Tryz.f99), (100, fe100, bodyOf Tryz.f100), (101, fe101, bodyOf Tryz.f101), (102, fe102, bodyOf Tryz.f102), (104, fe104, bodyOf Tryz.f104), (106, fe106, bodyOf Tryz.f106), (107, fe107, bodyOf Tryz.f107)]
noncomputable abbrev sg : FuncId → Option Sig := sgOf tb
end Go.Proofs.YtabhbdehbpmpkaaGreat
namespace Go.Proofs.YtabhbdehbpmpkaaGreat
open Go Go.Sx
abbrev n_law06_FineStays : Nat := 3
abbrev n_law06_sane : Nat := 4
abbrev n_fine_Owed : Nat := 5
abbrev n_r06_Owed : Nat := 6
abbrev n_fine_Inside : Nat := 7
abbrev n_r06_Inside : Nat := 8
abbrev n_fine_Ended : Nat := 9
abbrev n_r06_Ended : Nat := 10
abbrev n_fine_Moved : Nat := 11
abbrev n_r06_Moved : Nat := 12
abbrev n_r06_SameInts : Nat := 13
abbrev n_law06_example : Nat := 14
abbrev n_fine_Lot : Nat := 15
abbrev n_fine_Charged : Nat := 16
abbrev n_fine_Dues : Nat := 17
abbrev n_fine_Posts : Nat := 18
abbrev n_fine_Noted : Nat := 19
abbrev n_r06_Same : Nat := 20
abbrev n_fine_Check : Nat := 21
abbrev n_fine_within : Nat := 22
abbrev n_fine_isDay : Nat := 23
abbrev n_fine_stays : Nat := 24
abbrev n_fine_due : Nat := 25
abbrev n_r06_Check : Nat := 26
abbrev n_r06_In : Nat := 27
abbrev n_r06_Stays : Nat := 28
abbrev n_r06_Dues : Nat := 29
abbrev n_fine_check : Nat := 30
abbrev n_fine_ended : Nat := 31
abbrev n_fine_Inside_c1 : Nat := 32
abbrev n_r06_asked : Nat := 33
abbrev n_r06_counts : Nat := 34
abbrev n_r06_lot : Nat := 35
abbrev n_fine_Ended_c1 : Nat := 36
abbrev n_r06_Lot : Nat := 37
abbrev n_fine_without : Nat := 38
abbrev n_fine_sources : Nat := 39
abbrev n_fine_Moved_c1 : Nat := 41
abbrev n_r06_Without : Nat := 42
abbrev n_fine_stayOf : Nat := 43
abbrev n_fine_lot : Nat := 44
abbrev n_fine_charge : Nat := 45
abbrev n_fine_areDays : Nat := 46
abbrev n_fine_postings : Nat := 47
abbrev n_slices_BinarySearchFunc_Note : Nat := 48
abbrev n_fine_Noted_c1 : Nat := 49
abbrev n_cmp_Compare_int : Nat := 50
abbrev n_fine_CheckNote : Nat := 51
abbrev n_slices_Clone_Tariff : Nat := 52
abbrev n_slices_Clone_Held : Nat := 53
abbrev n_slices_Insert_Note : Nat := 54
abbrev n_slices_Clone_Note : Nat := 55
abbrev n_fine_areRising_Tariff : Nat := 56
abbrev n_fine_CheckTariff : Nat := 57
abbrev n_fine_Check_c1 : Nat := 58
abbrev n_fine_areRising_Held : Nat := 59
abbrev n_fine_CheckHeld : Nat := 60
abbrev n_fine_heldOf : Nat := 61
abbrev n_fine_areRising_Note : Nat := 62
abbrev n_fine_noteOf : Nat := 63
abbrev n_fine_stays_c1 : Nat := 64
abbrev n_fine_counts : Nat := 65
abbrev n_fine_inForce : Nat := 66
abbrev n_r06_CheckTariff : Nat := 67
abbrev n_r06_CheckHeld : Nat := 68
abbrev n_r06_CheckNote : Nat := 69
abbrev n_r06_stayOf : Nat := 70
abbrev n_r06_due : Nat := 71
abbrev n_slices_ContainsFunc_int : Nat := 72
abbrev n_fine_check_c1 : Nat := 73
abbrev n_fine_ended_c1 : Nat := 74
abbrev n_r06_says : Nat := 75
abbrev n_r06_owner : Nat := 76
abbrev n_r06_stop : Nat := 77
abbrev n_r06_least : Nat := 78
abbrev n_r06_market : Nat := 79
abbrev n_fine_without_c1 : Nat := 80
abbrev n_fine_without_c2 : Nat := 82
abbrev n_slices_IndexFunc_Held : Nat := 83
abbrev n_fine_notes : Nat := 84
abbrev n_fine_whose : Nat := 85
abbrev n_fine_sold : Nat := 86
abbrev n_fine_fed : Nat := 87
abbrev n_fine_daily : Nat := 88
abbrev n_cmp_isNaN_int : Nat := 90
abbrev n_fine_areTimes : Nat := 91
abbrev n_fine_isRow : Nat := 94
abbrev n_r06_areRates : Nat := 95
abbrev n_r06_isUntil : Nat := 96
abbrev n_r06_charged : Nat := 97
abbrev n_r06_inForce : Nat := 98
abbrev n_slices_IndexFunc_int : Nat := 99
abbrev n_r06_fed : Nat := 100
abbrev n_slices_IndexFunc_Note : Nat := 101
abbrev n_fine_notes_c1 : Nat := 102
abbrev n_fine_days : Nat := 104
abbrev n_fine_isRow_c1 : Nat := 106
abbrev n_r06_last : Nat := 107
abbrev n_fine_days_c1 : Nat := 108
end Go.Proofs.YtabhbdehbpmpkaaGreat
namespace Go.Proofs.YtabhbdehbpmpkaaGreat
open Go Go.Sx Go.RowKit Go.Shelf
attribute [local go_sem] Oper.semAt_some
def isI : Value → Int
  | .int _ x => x
  | _ => 0
theorem it_isf : Tryz.prog.funcs[108]? = some Tryz.f108 := by kernel_rfl
theorem it_ntmps : Tryz.f108.ntmps = 15 := by kernel_rfl
set_option maxRecDepth 100000 in
set_option maxHeartbeats 1000000 in
theorem it_in (F : Fence) (n : Nat) (h6 : F.fn 108) (hro : F.round = none) (hn : 1 ≤ n) (l : Nat) (b1 o1 b2 o2 : Nat) (lo hi : Int) (hlo : -9223372036854775808 ≤ lo) (hhi : hi < 9223372036854775807) (S : Nat → Prop) (hS1 : S b1) (hS2 : S b2) (J Jx : List Int → World → Prop)
    (hY : ∀ pre x W, J pre W → pre.length < (upto lo hi).length → YieldAt F (n - 1) Tryz.prog l #[.int .i64 x] W fun e W' =>
      (e = .returned (.bool true) ∧ J (pre ++ [x]) W' ∧ ∀ b, S b → W'.heap[b]? = W.heap[b]?) ∨ (e = .returned (.bool false) ∧ Jx (pre ++ [x]) W'))
    (W : World) (hc1 : W.cell? ⟨b1, o1, none⟩ = some (.int .i64 lo)) (hc2 : W.cell? ⟨b2, o2, none⟩ = some (.int .i64 hi)) (h0 : J [] W) :
    CallsIn F n Tryz.prog 108 #[.func (.yield l) #[] #[], .pointer (some ⟨b1, o1, none⟩), .pointer (some ⟨b2, o2, none⟩)] W fun e W' => (∃ v, e = .returned v) ∧
      ((∃ ys, ys = upto lo hi ∧ J ys W') ∨ (∃ pre, pre <+: upto lo hi ∧ Jx pre W')) := by
  have keep : ∀ {A B : World} {b o : Nat} {v : Value}, (∀ b, S b → B.heap[b]? = A.heap[b]?) → S b → A.cell? ⟨b, o, none⟩ = some v → B.cell? ⟨b, o, none⟩ = some v := by
    intro A B b o v h hs hc
    simp only [World.cell?] at hc ⊢
    rw [h b hs]; exact hc
  refine callsIn_of_wp it_isf rfl h6 ?_ hro
  simp only [it_ntmps, List.size_toArray, List.length_cons, List.length_nil, Nat.reduceAdd, Nat.reduceSub, Array.replicate_succ, Array.replicate_zero, List.push_toArray, List.append_toArray, List.nil_append, List.cons_append]
  gi_wp2
  gi_loopw [4] (fun p wr => ∃ (pre : List Int) (x : Int), p = .int .i64 x ∧ lo ≤ x ∧ upto lo hi = pre ++ upto x hi ∧ wr.cell? ⟨b2, o2, none⟩ = some (.int .i64 hi) ∧ J pre wr)
    (fun p wr => (hi + 1 - isI p).toNat)
  case atStart =>
    exact ⟨[], lo, rfl, by omega, rfl, hc2, h0⟩
  case round =>
    obtain ⟨pre, x, rfl, hlx, hx, hc2', hJs⟩ := hrel
    by_cases hle : x ≤ hi
    · have hux := upto_cons hle
      obtain ⟨fn, tmps, assign, body, hy, hR⟩ := hY pre x wr hJs (by rw [hx, hux]; simp)
      have hw1 : IntKind.i64.wrap (x + 1) = x + 1 := by rw [IntKind.wrap_i64]; omega
      gi_wp2
      refine hR.mono ?_
      rintro e W3 (⟨rfl, hJ3, hk3⟩ | ⟨rfl, hJx3⟩)
      · have hc3 := keep hk3 hS2 hc2'
        gi_wp2
        go_roundw
        case rel => exact ⟨pre ++ [x], x + 1, rfl, by omega, by rw [hx, hux]; simp, hc3, hJ3⟩
        case measure => simp only [isI]; omega
      · gi_wp2
        refine bodyPost_ret (results_none rfl _ _ _) rfl ?_
        exact ⟨⟨_, rfl⟩, .inr ⟨pre ++ [x], ⟨upto (x + 1) hi, by rw [hx, hux]; simp⟩, hJx3⟩⟩
    · have hux := upto_nil (a := x) (b := hi) (by omega)
      gi_wp2
      go_end0
      exact ⟨⟨_, rfl⟩, .inl hJs⟩
def daysIt : List CV → Option (List CV)
  | [.ref [.val (.int .i64 a)], .ref [.val (.int .i64 b)]] => if -9223372036854775808 ≤ a ∧ b < 9223372036854775807 then some ((upto a b).map ci) else none
  | _ => none
theorem intsOf_ci : ∀ (l : List Int), intsOf (l.map ci) = some l
  | [] => rfl
  | x :: l => by simp [intsOf, ci, intsOf_ci l]
theorem days_it (caps out : List CV) (h : daysIt caps = some out) (xs : List Int) (hx : intsOf out = some xs) : entB Tryz.prog 108 = true ∧ IterP Tryz.prog 108 caps xs := by
  refine ⟨by kernel_rfl, ?_⟩
  unfold daysIt at h
  split at h
  · rename_i a b
    split at h
    · rename_i hb
      cases h
      rw [intsOf_ci] at hx
      cases hx
      intro F n S w lb hF hro hn hS hv l J Jx W hW _ _ hY h0
      match lb, hv with
      | ⟨[v1, v2]⟩, hv =>
        simp only [CV.vals, CV.holds, CV.cells, and_true] at hv
        obtain ⟨⟨b1, o1, rfl, hS1, x1, hc1, rfl, _⟩, ⟨b2, o2, rfl, hS2, x2, hc2, rfl, _⟩⟩ := hv
        have hcell : ∀ {b o : Nat} {v : Value}, S b → w.cell? ⟨b, o, none⟩ = some v → W.cell? ⟨b, o, none⟩ = some v := by
          intro b o v hs hc
          simp only [World.cell?] at hc ⊢
          rw [hW.block b (hS b hs)]; exact hc
        exact it_in F n (hF.fn 108) hro hn l b1 o1 b2 o2 a b hb.1 hb.2 S hS1 hS2 J Jx hY W (hcell hS1 hc1) (hcell hS2 hc2) h0
      | ⟨[]⟩, hv => simp [CV.vals] at hv
      | ⟨[_]⟩, hv => simp [CV.vals] at hv
      | ⟨_ :: _ :: _ :: _⟩, hv => simp [CV.vals] at hv
    · cases h
  · cases h
end Go.Proofs.YtabhbdehbpmpkaaGreat
namespace Go.Proofs.YtabhbdehbpmpkaaGreat
open Go Go.Sx Go.RowKit
set_option maxRecDepth 100000
section
theorem ins_u : Tryz.prog.underlying 24 = some (.slice 58) := by kernel_rfl
theorem ins_c : Tryz.prog.cellsOf 58 = 7 := by kernel_rfl
theorem ins_sz (w : World) : (Go.sizeOf 58).run Tryz.prog w = .ok 7 w := by
  have := run_sizeOf_cells (P := Tryz.prog) (T := 58) (by rw [ins_c]; decide) w
  rwa [ins_c] at this
theorem ins_ui : Tryz.prog.underlying 3 = some (.int .i64) := by kernel_rfl
theorem ins_mixed : Tryz.prog.follows .mixedOrders = true := by kernel_rfl
theorem ins_isf : Tryz.prog.funcs[54]? = some Tryz.f54 := by kernel_rfl
theorem ins_info : ∃ i z, Tryz.prog.info? 58 = some i ∧ i.zero = some z ∧ i.size = 7 ∧ i.bytes = 56 ∧ z.cells.size = 7 := by
  refine ⟨((Tryz.prog.info? 58).getD default), ((((Tryz.prog.info? 58).getD default).zero).getD (.bool false)), by kernel_rfl, by kernel_rfl, by kernel_rfl, by kernel_rfl, by kernel_rfl⟩
theorem ins_ov (w : World) (a b : Addr) (la ca lb cb : Nat) (hne : a.block ≠ b.block) (va vb : Array Value) (tA tB : TypeId) (fz : Nat × Nat) (ha : w.heap[a.block]? = some (.cells va tA fz)) (hva : va.size ≠ 0) (hb : w.heap[b.block]? = some (.cells vb tB (0, 0))) :
    (callFunc 92 #[.slice (some a) la ca, .slice (some b) lb cb]).run Tryz.prog w = .ok (.value (.bool false)) w := by
  rw [run_callFunc_extern (P := Tryz.prog) (f := 92) (fn := Tryz.f92) (by kernel_rfl) (by kernel_rfl) (by kernel_rfl) (by kernel_rfl) (e := Extern.SlicesOverlaps.overlaps #[24, 24] #[4]) (by kernel_rfl),
    run_overlaps_own w 24 4 58 ins_u 7 ins_sz a b la ca lb cb hne va vb tA tB fz ha hva hb]
  rfl
theorem ins_P : InsP Tryz.prog 54 58 7 56 := by
  intro B V i v nn x hv hsl hT hk hn0 hn hfit hxl
  obtain ⟨q, rfl⟩ : ∃ q : Nat, nn = q := ⟨nn.toNat, by omega⟩
  have hl := Vec.sl_live hsl
  refine CallP_body1 ins_isf rfl fun F n hF hro => ?_
  intro n0 w0 env a w Qr hr hkk
  obtain ⟨xs, hown0, hvals, hrows⟩ := hr.mem.vec i v hv hl
  have hown := hown0.s (Vec.sl_T hsl)
  rw [hT, hk] at hown hown0
  obtain ⟨ao, c, hh, hnc, hcm⟩ := hown.slice
  have e0 := (hr.ev (.tmp 0)).1
  have e1 := (hr.ev (.tmp 1)).1
  have e2 := (hr.ev (.tmp 2)).1
  change AV.holds env w (kss V) (.own i v.ver) (a.eval (.tmp 0)) at e0
  change AV.holds env w (kss V) (.cv (.val (.int .i64 q))) (a.eval (.tmp 1)) at e1
  change AV.holds env w (kss V) (.cv (.row 7 [x])) (a.eval (.tmp 2)) at e2
  simp only [AV.holds, CV.holds, List.cons_ne_nil, false_or, List.length_singleton] at e0 e1 e2
  obtain ⟨ro, rc, e2, hrc, hrcm, rb, roff, rfl, hrS, hrr⟩ := e2
  simp only [CV.rows, and_true] at hrr
  obtain ⟨vs, hvs, hvl, hvc⟩ := CV.cells.vals hrr.2
  have hsz : a.tmps.size = 95 := by have := hr.tm.length; simpa using this
  have hs : Sl 95 a [(0, .slice ao v.es.length c), (1, .int .i64 q), (2, .slice (some ⟨rb, roff, none⟩) 1 rc)] := by
    refine ⟨hsz, fun d u hd => ?_⟩
    simp only [lkv] at hd
    split at hd
    · rename_i h; subst h; cases hd; rw [← hh]; exact e0.1
    split at hd
    · rename_i h; subst h; cases hd; exact e1.1
    split at hd
    · rename_i h; subst h; cases hd; exact e2
    · cases hd
  have hq : q ≤ v.es.length := by omega
  have hxs : xs.length = v.es.length * 7 := hown.len
  have hvl' : vs.length = 7 := by rw [hvl, hrr.1]
  have h1v : ∀ u ∈ vs, u.oneCell' = true := CV.vals.one hvs
  have h1x : ∀ u ∈ xs, u.oneCell' = true := CV.vals.one hvals
  have hfit' : (v.es.length + 1) * 56 ≤ 140737488355328 ∧ v.es.length + 1 ≤ maxLen := by
    unfold fitA at hfit; simp only [Bool.and_eq_true, decide_eq_true_eq] at hfit; exact hfit
  have hmax : maxLen = 9223372036854775807 := rfl
  obtain ⟨D, hd0⟩ : ∃ D, a.defers = D := ⟨_, rfl⟩
  have hdf := hd0
  have hflat : (v.es.take q).flatten.length = q * 7 := by
    have : ∀ (l : List (List CV)), (∀ y ∈ l, y.length = 7) → l.flatten.length = l.length * 7 := by
      intro l
      induction l with
      | nil => intro _; simp
      | cons y l ih => intro hl; simp [hl y (by simp), ih fun x hx => hl x (by simp [hx]), Nat.add_mul]; omega
    rw [this _ fun y hy => by rw [← hk]; exact hrows y (List.mem_of_mem_take hy), List.length_take, Nat.min_eq_left hq]
  have hsp : v.es.flatten = (v.es.take q).flatten ++ (v.es.drop q).flatten := by rw [← List.flatten_append, List.take_append_drop]
  have fin : ∀ (a' : Act) (w' : World) (l : List (Nat × Value)) (v' : Value), a'.defers = D → Sl 95 a' l → lkv l 6 = some v' →
      OwnsV w' n0 58 7 v' (v.es.length + 1) (xs.take (q * 7) ++ vs ++ xs.drop (q * 7)) → w.grownBy w' (oblk (env.hdr i v.ver)) → (oblk v' = oblk (env.hdr i v.ver) ∨ ∀ g, oblk v' = some g → w.heap.size ≤ g) → Qr .ret a' w' := by
    intro a' w' l v' hdf hs h6 hown' hgr hbl
    have hvals' : CV.vals w env.S (v.es.take q ++ x :: v.es.drop q).flatten (xs.take (q * 7) ++ vs ++ xs.drop (q * 7)) := by
      rw [hsp] at hvals
      have h2 := vals_splits hvals
      rw [hflat] at h2
      have := CV.vals.append (CV.vals.append h2.1 hvs) h2.2
      simpa [List.flatten_append] using this
    obtain ⟨env', m1, m2, m3, _⟩ := hr.mem.vecStep (w' := w') hv hl v' (v.es.take q ++ x :: v.es.drop q) (xs.take (q * 7) ++ vs ++ xs.drop (q * 7))
      (by rw [hT, hk]; simpa [Nat.min_eq_left hq, show q + (v.es.length - q + 1) = v.es.length + 1 by omega] using hown') hvals'
      (by intro y hy; rw [hk]; rcases List.mem_append.1 hy with hy | hy
          · rw [← hk]; exact hrows y (List.mem_of_mem_take hy)
          · rcases List.mem_cons.1 hy with rfl | hy
            · exact hxl
            · rw [← hk]; exact hrows y (List.mem_of_mem_drop hy))
      hgr hbl
    have hil := (List.getElem?_eq_some_iff.1 hv).1
    let V' : List Vec := V.set i ⟨v.live, v.T, v.k, v.ver + 1, v.es.take q ++ x :: v.es.drop q⟩
    have hsc : AV.sco B.length (vers V') (.own i (v.ver + 1)) := by simp [AV.sco, V', vers, List.getD, hil]
    have hrel : Rel n0 w0 env' ⟨mkT 95 [(6, .own i (v.ver + 1))], B, V'⟩ a' w' := by
      refine ⟨all_one hs h6 (by simp only [AV.holds]; exact ⟨m3.symm, hown'.one⟩), ?_, m1⟩
      rw [AV.scos_iff]
      intro y hy
      simp only [mkT, List.mem_map, List.mem_range] at hy
      obtain ⟨d, _, rfl⟩ := hy
      simp only [lk]
      split
      · exact hsc
      · simp [AV.sco]
    exact hkk .ret env' _ a' w' ⟨.inr rfl, .own i (v.ver + 1), rfl, rfl, rfl, by simp [V']⟩ hrel (hdf.trans hd0.symm) m2
  refine raw_reg ?_
  refine raw_gen hF hs rfl rfl (by decide) (by intro c h; cases h) (RunL_assign rfl rfl _) fun a hd hs => ?_; replace hdf := hd.trans hdf
  refine wpListIn_nil ⟨rfl, ?_⟩
  refine raw_reg ?_
  refine raw_gen hF hs rfl rfl (by decide) (by intro c h; cases h) (RunL_move rfl rfl _) fun a hd hs => ?_; replace hdf := hd.trans hdf
  refine raw_gen hF hs rfl rfl (by decide) (by intro c h; cases h) (RunL_move rfl rfl _) fun a hd hs => ?_; replace hdf := hd.trans hdf
  refine raw_gen hF hs rfl rfl (by decide) (by intro c h; cases h) (RunL_lo ins_u ins_sz rfl rfl rfl (by omega) (by omega) _) fun a hd hs => ?_; replace hdf := hd.trans hdf
  refine wpListIn_nil ⟨rfl, ?_⟩
  refine raw_reg ?_
  refine raw_gen hF hs rfl rfl (by decide) (by intro c h; cases h) (RunL_move rfl rfl _) fun a hd hs => ?_; replace hdf := hd.trans hdf
  refine raw_gen hF hs rfl rfl (by decide) (by intro c h; cases h) (RunL_len ins_u rfl rfl _) fun a hd hs => ?_; replace hdf := hd.trans hdf
  refine raw_gen hF hs rfl rfl (by decide) (by intro c h; cases h) (RunL_assign rfl rfl _) fun a hd hs => ?_; replace hdf := hd.trans hdf
  refine wpListIn_nil ⟨rfl, ?_⟩
  refine raw_if ?_
  refine raw_gen hF hs rfl rfl (by decide) (by intro c h; cases h) (RunL_move rfl rfl _) fun a hd hs => ?_; replace hdf := hd.trans hdf
  refine raw_gen hF hs rfl rfl (by decide) (by intro c h; cases h) (RunL_eq rfl rfl rfl _) fun a hd hs => ?_; replace hdf := hd.trans hdf
  refine wpListIn_nil ⟨rfl, wpIn_cond_split (hs.env _ _ rfl) (fun h => by simp at h) fun _ => wpIn_skip ?_⟩
  refine raw_reg ?_
  refine raw_gen hF hs rfl rfl (by decide) (by intro c h; cases h) (RunL_move rfl rfl _) fun a hd hs => ?_; replace hdf := hd.trans hdf
  refine raw_gen hF hs rfl rfl (by decide) (by intro c h; cases h) (RunL_len ins_u rfl rfl _) fun a hd hs => ?_; replace hdf := hd.trans hdf
  refine raw_gen hF hs rfl rfl (by decide) (by intro c h; cases h) (RunL_assign rfl rfl _) fun a hd hs => ?_; replace hdf := hd.trans hdf
  refine wpListIn_nil ⟨rfl, ?_⟩
  refine raw_if ?_
  refine raw_gen hF hs rfl rfl (by decide) (by intro c h; cases h) (RunL_move rfl rfl _) fun a hd hs => ?_; replace hdf := hd.trans hdf
  refine raw_gen hF hs rfl rfl (by decide) (by intro c h; cases h) (RunL_move rfl rfl _) fun a hd hs => ?_; replace hdf := hd.trans hdf
  refine raw_gen hF hs rfl rfl (by decide) (by intro c h; cases h) (RunL_eq rfl rfl rfl _) fun a hd hs => ?_; replace hdf := hd.trans hdf
  obtain ⟨ti, tz, hti, htz, hts, htb, htc⟩ := ins_info
  refine wpListIn_nil ⟨rfl, wpIn_cond_split (hs.env _ _ rfl) (fun h => ?_) fun h => wpIn_skip ?_⟩
  · have hq0 : (q : Int) = v.es.length := eq_of_beq h
    have hq' : q = v.es.length := by omega
    obtain ⟨v', w', hrun, ho, hgr, hbl⟩ := append_own (P := Tryz.prog) w n0 24 24 58 ti tz 7 56 ins_u hti htz hts htb htc (by decide) _ _ _ hown (by decide) (some ⟨rb, roff, none⟩) 1 rc vs (by omega) (fun h => by cases h)
      (fun a ha j u hj => by cases ha; rw [addr_add]; exact hvc j u hj) h1v hfit'.2 hfit'.1 hr.mem.base
    rw [hh] at hrun
    refine raw_reg ?_
    refine raw_gen hF hs rfl rfl (by decide) (by intro c h; cases h) (RunL_move rfl rfl _) fun a hd hs => ?_; replace hdf := hd.trans hdf
    refine raw_gen hF hs rfl rfl (by decide) (by intro c h; cases h) (RunL_move rfl rfl _) fun a hd hs => ?_; replace hdf := hd.trans hdf
    refine raw_gen hF hs rfl rfl (by decide) (by intro c h; cases h) (RunL_append rfl rfl rfl hrun) fun a hd hs => ?_; replace hdf := hd.trans hdf
    refine raw_gen hF hs rfl rfl (by decide) (by intro c h; cases h) (RunL_assign rfl rfl _) fun a hd hs => ?_; replace hdf := hd.trans hdf
    refine wpListIn_nil ⟨rfl, wpIn_ret (fin _ _ _ v' hdf hs rfl ?_ hgr hbl)⟩
    rw [hq', ← hxs, List.take_length, List.drop_length, List.append_nil]
    exact ho
  have hql : q < v.es.length := by
    have : ¬ q = v.es.length := by intro hc; rw [hc] at h; simp at h
    omega
  rcases hown with ⟨a', _, h2, _⟩ | ⟨⟨h0, h1⟩, g, hg, hg'⟩
  · omega
  rcases h1 with ⟨_, h2⟩ | ⟨g1, cap, cur, h1, hbase, hheap, hle, hcap, hcs, htake⟩
  · omega
  rw [hh] at h1 hg hg'
  obtain ⟨rfl, rfl⟩ : ao = some ⟨g1, 0, none⟩ ∧ c = cap := by injection h1 with a1 a2 a3; exact ⟨a1, a3⟩
  have hgg : g = g1 := by simpa [Value.ownBlock] using hg'.symm
  subst hgg
  have hob : oblk (env.hdr i v.ver) = some g := by rw [hh]; exact hg
  have hne : rb ≠ g := fun hc => hr.mem.vecS i v g hv hl hob (hc ▸ hrS)
  have hgl : g < w.heap.size := (Array.getElem?_eq_some_iff.1 hheap).1
  have hcapl : v.es.length * 7 ≤ cur.toList.length := by
    rw [Array.length_toList, hcs]; exact Nat.mul_le_mul_right _ hle
  obtain ⟨m, hm⟩ : ∃ m, v.es.length = q + m := ⟨v.es.length - q, by omega⟩
  have hxl' : xs.length = q * 7 + m * 7 := by rw [hxs, hm, Nat.add_mul]
  have htake' : cur.toList.take (q * 7 + m * 7) = xs := by rw [← Nat.add_mul, ← hm]; exact htake
  obtain ⟨rcur, rT, rfz, hrow⟩ : ∃ rcur rT rfz, w.heap[rb]? = some (.cells rcur rT rfz) := by
    have := hvc 0 vs[0] (by simp)
    simp only [World.cell?, Nat.add_zero] at this
    split at this
    · rename_i c1 t1 f1 hc1; exact ⟨c1, t1, f1, hc1⟩
    · cases this
  have hrcur : ∀ j u, vs[j]? = some u → rcur[roff + j]? = some u := fun j u hj => by
    have := hvc j u hj
    simpa [World.cell?, hrow] using this
  have hrne : rcur.size ≠ 0 := by
    have := hrcur 0 vs[0] (by simp)
    have := (Array.getElem?_eq_some_iff.1 this).1
    omega
  refine raw_if ?_
  refine raw_gen hF hs rfl rfl (by decide) (by intro c h; cases h) (RunL_move rfl rfl _) fun a hd hs => ?_; replace hdf := hd.trans hdf
  refine raw_gen hF hs rfl rfl (by decide) (by intro c h; cases h) (RunL_move rfl rfl _) fun a hd hs => ?_; replace hdf := hd.trans hdf
  refine raw_gen hF hs rfl rfl (by decide) (by intro c h; cases h) (RunL_add rfl rfl rfl (by omega) _) fun a hd hs => ?_; replace hdf := hd.trans hdf
  refine raw_gen hF hs rfl rfl (by decide) (by intro c h; cases h) (RunL_move rfl rfl _) fun a hd hs => ?_; replace hdf := hd.trans hdf
  refine raw_gen hF hs rfl rfl (by decide) (by intro c h; cases h) (RunL_cap ins_u rfl rfl _) fun a hd hs => ?_; replace hdf := hd.trans hdf
  refine raw_gen hF hs rfl rfl (by decide) (by intro c h; cases h) (RunL_gt rfl rfl rfl _) fun a hd hs => ?_; replace hdf := hd.trans hdf
  refine wpListIn_nil ⟨rfl, wpIn_cond_split (hs.env _ _ rfl) (fun h => ?_) fun h => wpIn_skip ?_⟩
  ·
    have hroom : c < v.es.length + 1 := by
      have := of_decide_eq_true h
      omega
    have hL : q + (v.es.length + 1 - q) = v.es.length + 1 := by omega
    have hqk : q * 7 ≤ xs.length := by rw [hxl']; omega
    have hold : (Builtin.firstCells ti.size q (.slice (some ⟨g, 0, none⟩) q c)).run Tryz.prog w.drew = .ok (xs.take (q * 7)).toArray w.drew := by
      rw [hts]
      refine run_firstCells_some w.drew 7 q ⟨g, 0, none⟩ q c (xs.take (q * 7)) (by rw [List.length_take]; omega) (fun j u hj => ?_)
      rw [cell_at (w := w.drew) hheap, ← Array.getElem?_toList, Nat.zero_add]
      rw [List.getElem?_take] at hj
      split at hj
      · rw [← htake', List.getElem?_take] at hj
        split at hj
        · exact hj
        · cases hj
      · cases hj
    have hz := Lib.run_append_grow_zeros (P := Tryz.prog) w 24 3 24 58 ti tz .i64 .i64 ins_u ins_ui hti htz (some ⟨g, 0, none⟩) q c (xs.take (q * 7)) hold (v.es.length + 1 - q) (by omega) (by rw [hts]; decide) (by omega) (by omega)
      (by rw [htb]; have := Nat.mul_le_mul_right 56 (show v.es.length + 1 - q ≤ v.es.length + 1 by omega); omega) (by rw [htb, hL]; exact growslice_fits hroom hfit'.1)
    rw [hL] at hz
    obtain ⟨G, hG⟩ : ∃ G, G = grownCap w (v.es.length + 1) c 58 := ⟨_, rfl⟩
    have hGn : v.es.length + 1 ≤ G := by rw [hG]; exact grownCap_ge w _ _ _
    have hGm : G ≤ maxLen := by rw [hG]; exact grownCap_le_maxLen w _ _ _ hfit'.2
    obtain ⟨R, hR⟩ : ∃ R : Array Value, R = (xs.take (q * 7)).toArray ++ Builtin.zeroCells tz.cells (v.es.length + 1 - q) ++ Builtin.zeroCells tz.cells (G - (v.es.length + 1)) := ⟨_, rfl⟩
    rw [← hG, ← hR] at hz
    have hRs : R.size = G * 7 := by
      rw [hR]
      simp only [Array.size_append, List.size_toArray, size_zeroCells, htc, List.length_take, Nat.min_eq_left hqk]
      rw [← Nat.add_mul, ← Nat.add_mul]
      congr 1
      omega
    have hRt : R.toList.take (q * 7) = xs.take (q * 7) := by
      rw [hR]
      simp only [Array.toList_append, List.append_assoc]
      rw [List.take_append_of_le_length (by rw [List.length_take]; omega), List.take_take, Nat.min_self]
    obtain ⟨W1, hW1⟩ : ∃ W1, W1 = w.drew.alloc (.cells R 58) := ⟨_, rfl⟩
    rw [← hW1] at hz
    obtain ⟨g', hg2⟩ : ∃ g', g' = w.heap.size := ⟨_, rfl⟩
    rw [← hg2] at hz
    have hn1 : W1.heap[g']? = some (.cells R 58 (0, 0)) := by rw [hW1, hg2]; exact heap_alloc_new w.drew _
    have ho1 : ∀ b, b < w.heap.size → W1.heap[b]? = w.heap[b]? := fun b hb => by rw [hW1]; exact heap_alloc_old w.drew _ hb
    have hrbl : rb < w.heap.size := (Array.getElem?_eq_some_iff.1 hrow).1
    have hRl : q * 7 + 7 + m * 7 ≤ R.toList.length := by
      rw [Array.length_toList, hRs]
      have : (q + m + 1) * 7 ≤ G * 7 := Nat.mul_le_mul_right _ (by omega)
      simp only [Nat.add_mul] at this
      omega
    have hc1 := run_copyK (P := Tryz.prog) W1 24 24 3 58 g' (0 + q * 7) (v.es.length + 1 - q) (G - q) ⟨rb, roff, none⟩ 1 rc 1 7 R 58 vs ins_u ins_sz hn1
      (by simp only [Nat.min_def]; split <;> omega) (by omega)
      (fun j u hj => by
        rw [cell_at (w := W1) (g := rb) (cur := rcur) (t := rT) (fz := rfz) (by rw [ho1 _ hrbl]; exact hrow)]
        exact hrcur j u hj)
      (by rw [← Array.length_toList]; omega) h1v
    obtain ⟨R1, hR1⟩ : ∃ R1 : Array Value, R1 = (R.toList.take (0 + q * 7) ++ vs ++ R.toList.drop (0 + q * 7 + vs.length)).toArray := ⟨_, rfl⟩
    rw [← hR1] at hc1
    have hR1' : R1.toList = R.toList.take (q * 7) ++ vs ++ R.toList.drop (q * 7 + 7) := by rw [hR1, hvl']; simp only [Nat.zero_add]
    have hR1l : R1.size = R.size := by
      rw [← Array.length_toList, hR1', ← Array.length_toList]
      simp only [List.length_append, List.length_take, List.length_drop]
      omega
    have hlists := ins_lists2 R.toList xs vs (q * 7) 7 (m * 7) hvl' hxl' hRt hRl
    obtain ⟨W2, hW2⟩ : ∃ W2 : World, W2 = { W1.setRow g' R1 with drawn := (W1.setRow g' R1).drawn + 1 } := ⟨_, rfl⟩
    have hn2 : W2.heap[g']? = some (.cells R1 58 (0, 0)) := by rw [hW2]; exact setRowS (w := W1) hn1
    have ho2 : ∀ b, b < w.heap.size → W2.heap[b]? = w.heap[b]? := fun b hb => by rw [hW2]; exact (setRowO (w := W1) (by omega)).trans (ho1 b hb)
    have hc2 := run_copyK (P := Tryz.prog) W2 24 24 3 58 g' (0 + (q + 1) * 7) (v.es.length + 1 - (q + 1)) (G - (q + 1)) ⟨g, 0 + q * 7, none⟩ (v.es.length - q) (c - q) m 7 R1 58 (xs.drop (q * 7)) ins_u ins_sz hn2
      (by simp only [Nat.min_def]; split <;> omega) (by simp only [List.length_drop]; omega)
      (fun j u hj => by
        rw [cell_at (w := W2) (by rw [ho2 _ hgl]; exact hheap), ← Array.getElem?_toList]
        rw [List.getElem?_drop] at hj
        rw [← htake', List.getElem?_take] at hj
        split at hj
        · rw [Nat.zero_add]; exact hj
        · cases hj)
      (by simp only [List.length_drop]
          rw [hR1l, ← Array.length_toList]
          simp only [Nat.add_mul]
          omega) (fun u hu => h1x u (List.mem_of_mem_drop hu))
    obtain ⟨R2, hR2⟩ : ∃ R2 : Array Value, R2 = (R1.toList.take (0 + (q + 1) * 7) ++ xs.drop (q * 7) ++ R1.toList.drop (0 + (q + 1) * 7 + (xs.drop (q * 7)).length)).toArray := ⟨_, rfl⟩
    rw [← hR2] at hc2
    have hR2' : R2.toList = R1.toList.take (q * 7 + 7) ++ xs.drop (q * 7) ++ R1.toList.drop (q * 7 + 7 + m * 7) := by
      rw [hR2]
      have e1 : 0 + (q + 1) * 7 = q * 7 + 7 := by rw [Nat.add_mul]; omega
      have e2 : (xs.drop (q * 7)).length = m * 7 := by simp only [List.length_drop]; omega
      rw [e1, e2]
    rw [hR1'] at hR2'
    have hlists' : R2.toList.take (q * 7 + 7 + m * 7) = xs.take (q * 7) ++ vs ++ xs.drop (q * 7) ∧ R2.toList.length = R.toList.length := by rw [hR2']; exact hlists
    have hn3 : (W2.setRow g' R2).heap[g']? = some (.cells R2 58 (0, 0)) := setRowS hn2
    have hcpos : ∃ c', G = c' + 1 := ⟨G - 1, by omega⟩
    have hoc : ∀ n, oblk (.slice (some ⟨g', 0, none⟩) n G) = some g' := fun n => by obtain ⟨c', rfl⟩ := hcpos; rfl
    refine raw_reg ?_
    refine raw_gen hF hs rfl rfl (by decide) (by intro c h; cases h) (RunL_move rfl rfl _) fun a hd hs => ?_; replace hdf := hd.trans hdf
    refine raw_gen hF hs rfl rfl (by decide) (by intro c h; cases h) (RunL_move rfl rfl _) fun a hd hs => ?_; replace hdf := hd.trans hdf
    refine raw_gen hF hs rfl rfl (by decide) (by intro c h; cases h) (RunL_hi ins_u ins_sz rfl rfl rfl (by omega) (by omega) (by simp [Addr.add]) _) fun a hd hs => ?_; replace hdf := hd.trans hdf
    refine raw_gen hF hs rfl rfl (by decide) (by intro c h; cases h) (RunL_move rfl rfl _) fun a hd hs => ?_; replace hdf := hd.trans hdf
    refine raw_gen hF hs rfl rfl (by decide) (by intro c h; cases h) (RunL_move rfl rfl _) fun a hd hs => ?_; replace hdf := hd.trans hdf
    refine raw_gen hF hs rfl rfl (by decide) (by intro c h; cases h) (RunL_add rfl rfl rfl (by omega) _) fun a hd hs => ?_; replace hdf := hd.trans hdf
    refine raw_gen hF hs rfl rfl (by decide) (by intro c h; cases h) (RunL_move rfl rfl _) fun a hd hs => ?_; replace hdf := hd.trans hdf
    refine raw_gen hF hs rfl rfl (by decide) (by intro c h; cases h) (RunL_sub rfl rfl rfl (by omega) (by omega) _) fun a hd hs => ?_; replace hdf := hd.trans hdf
    refine raw_gen hF hs rfl rfl (by decide) (by intro c h; cases h) (RunL_append rfl rfl rfl hz) fun a hd hs => ?_; replace hdf := hd.trans hdf
    refine raw_gen hF hs rfl rfl (by decide) (by intro c h; cases h) (RunL_assign rfl rfl _) fun a hd hs => ?_; replace hdf := hd.trans hdf
    refine wpListIn_nil ⟨rfl, ?_⟩
    refine raw_reg ?_
    refine raw_gen hF hs rfl rfl (by decide) (by intro c h; cases h) (RunL_move rfl rfl _) fun a hd hs => ?_; replace hdf := hd.trans hdf
    refine raw_gen hF hs rfl rfl (by decide) (by intro c h; cases h) (RunL_move rfl rfl _) fun a hd hs => ?_; replace hdf := hd.trans hdf
    refine raw_gen hF hs rfl rfl (by decide) (by intro c h; cases h) (RunL_lo' ins_u ins_sz rfl rfl rfl (by omega) (by omega) (by omega) _) fun a hd hs => ?_; replace hdf := hd.trans hdf
    refine raw_gen hF hs rfl rfl (by decide) (by intro c h; cases h) (RunL_move rfl rfl _) fun a hd hs => ?_; replace hdf := hd.trans hdf
    refine raw_gen hF hs rfl rfl (by decide) (by intro c h; cases h) (RunL_copy rfl rfl rfl hc1) fun a hd hs => ?_; replace hdf := hd.trans hdf
    refine wpListIn_nil ⟨rfl, ?_⟩
    refine raw_draw hro ins_mixed ?_
    rw [← hW2]
    refine raw_take hro (i := 0) hs rfl (by kernel_rfl) (by kernel_rfl) (by kernel_rfl) (by rintro c a w ⟨h, _⟩; cases h) rfl rfl (by decide) (fun _ _ => rfl) (fun _ => RunL_move rfl rfl _) fun a hd hs => ?_; replace hdf := hd.trans hdf
    refine raw_take hro (i := 1) hs rfl (by kernel_rfl) (by kernel_rfl) (by kernel_rfl) (by rintro c a w ⟨h, _⟩; cases h) rfl rfl (by decide) (fun _ _ => rfl) (fun _ => RunL_move rfl rfl _) fun a hd hs => ?_; replace hdf := hd.trans hdf
    refine raw_take hro (i := 2) hs rfl (by kernel_rfl) (by kernel_rfl) (by kernel_rfl) (by rintro c a w ⟨h, _⟩; cases h) rfl rfl (by decide) (fun _ _ => rfl) (fun _ => RunL_move rfl rfl _) fun a hd hs => ?_; replace hdf := hd.trans hdf
    refine raw_take hro (i := 3) hs rfl (by kernel_rfl) (by kernel_rfl) (by kernel_rfl) (by rintro c a w ⟨h, _⟩; cases h) rfl rfl (by decide) (fun _ _ => rfl) (fun _ => RunL_add rfl rfl rfl (by omega) _) fun a hd hs => ?_; replace hdf := hd.trans hdf
    refine raw_take hro (i := 4) hs rfl (by kernel_rfl) (by kernel_rfl) (by kernel_rfl) (by rintro c a w ⟨h, _⟩; cases h) rfl rfl (by decide) (fun _ _ => rfl) (fun _ => RunL_lo' ins_u ins_sz rfl rfl rfl (by omega) (by omega) (by omega) _) fun a hd hs => ?_; replace hdf := hd.trans hdf
    refine raw_take hro (i := 5) hs rfl (by kernel_rfl) (by kernel_rfl) (by kernel_rfl) (by rintro c a w ⟨h, _⟩; cases h) rfl rfl (by decide) (fun _ _ => rfl) (fun _ => RunL_move rfl rfl _) fun a hd hs => ?_; replace hdf := hd.trans hdf
    refine raw_take hro (i := 6) hs rfl (by kernel_rfl) (by kernel_rfl) (by kernel_rfl) (by rintro c a w ⟨h, _⟩; cases h) rfl rfl (by decide) (fun _ _ => rfl) (fun _ => RunL_move rfl rfl _) fun a hd hs => ?_; replace hdf := hd.trans hdf
    refine raw_take hro (i := 7) hs rfl (by kernel_rfl) (by kernel_rfl) (by kernel_rfl) (by rintro c a w ⟨h, _⟩; cases h) rfl rfl (by decide) (fun _ _ => rfl) (fun _ => RunL_lo' ins_u ins_sz rfl rfl rfl (by omega) (by omega) (by omega) _) fun a hd hs => ?_; replace hdf := hd.trans hdf
    refine raw_last hF (i := 8) hs rfl (by kernel_rfl) (by kernel_rfl) rfl rfl (by decide) (by intro c h; cases h) (RunL_copy rfl rfl rfl hc2) fun a hd hs => ?_; replace hdf := hd.trans hdf
    refine ⟨rfl, ?_⟩
    refine raw_reg ?_
    refine raw_gen hF hs rfl rfl (by decide) (by intro c h; cases h) (RunL_move rfl rfl _) fun a hd hs => ?_; replace hdf := hd.trans hdf
    refine raw_gen hF hs rfl rfl (by decide) (by intro c h; cases h) (RunL_assign rfl rfl _) fun a hd hs => ?_; replace hdf := hd.trans hdf
    refine wpListIn_nil ⟨rfl, wpIn_ret (fin _ _ _ _ hdf hs rfl ?_ ?_ (.inr ?_))⟩
    · refine .inl ⟨by decide, .inr ⟨⟨?_, .inr ⟨g', G, R2, rfl, by rw [hg2]; exact hr.mem.base, hn3, hGn, hGm, ?_, ?_⟩⟩, g', hoc _, rfl⟩⟩
      · simp only [List.length_append, List.length_take, List.length_drop, hvl', hxl', hm, Nat.add_mul]; omega
      · rw [← Array.length_toList, hlists'.2, Array.length_toList, hRs]
      · rw [← hlists'.1, hm]; congr 1; simp only [Nat.add_mul]; omega
    · refine ⟨by rw [hW2, hW1]; rfl, by rw [hW2, hW1]; rfl, by rw [hW2, hW1]; rfl, by rw [setRowZ, hW2]; show w.heap.size ≤ (W1.setRow g' R1).heap.size; rw [setRowZ, hW1]; simp, fun b hb hbn => ?_⟩
      rw [setRowO (by omega), ho2 b hb]
    · intro b hb
      rw [hoc] at hb
      cases hb
      omega
  · have hroom : v.es.length + 1 ≤ c := by
      have := of_decide_eq_false h
      omega
    refine raw_reg ?_
    refine raw_gen hF hs rfl rfl (by decide) (by intro c h; cases h) (RunL_move rfl rfl _) fun a hd hs => ?_; replace hdf := hd.trans hdf
    refine raw_gen hF hs rfl rfl (by decide) (by intro c h; cases h) (RunL_move rfl rfl _) fun a hd hs => ?_; replace hdf := hd.trans hdf
    refine raw_gen hF hs rfl rfl (by decide) (by intro c h; cases h) (RunL_move rfl rfl _) fun a hd hs => ?_; replace hdf := hd.trans hdf
    refine raw_gen hF hs rfl rfl (by decide) (by intro c h; cases h) (RunL_add rfl rfl rfl (by omega) _) fun a hd hs => ?_; replace hdf := hd.trans hdf
    refine raw_gen hF hs rfl rfl (by decide) (by intro c h; cases h) (RunL_hi ins_u ins_sz rfl rfl rfl (by omega) (by omega) (by simp [Addr.add]) _) fun a hd hs => ?_; replace hdf := hd.trans hdf
    refine raw_gen hF hs rfl rfl (by decide) (by intro c h; cases h) (RunL_assign rfl rfl _) fun a hd hs => ?_; replace hdf := hd.trans hdf
    refine wpListIn_nil ⟨rfl, ?_⟩
    refine raw_if ?_
    refine raw_gen hF hs rfl rfl (by decide) (by intro c h; cases h) (RunL_move rfl rfl _) fun a hd hs => ?_; replace hdf := hd.trans hdf
    refine raw_gen hF hs rfl rfl (by decide) (by intro c h; cases h) (RunL_move rfl rfl _) fun a hd hs => ?_; replace hdf := hd.trans hdf
    refine raw_gen hF hs rfl rfl (by decide) (by intro c h; cases h) (RunL_move rfl rfl _) fun a hd hs => ?_; replace hdf := hd.trans hdf
    refine raw_gen hF hs rfl rfl (by decide) (by intro c h; cases h) (RunL_move rfl rfl _) fun a hd hs => ?_; replace hdf := hd.trans hdf
    refine raw_gen hF hs rfl rfl (by decide) (by intro c h; cases h) (RunL_add rfl rfl rfl (by omega) _) fun a hd hs => ?_; replace hdf := hd.trans hdf
    refine raw_gen hF hs rfl rfl (by decide) (by intro c h; cases h) (RunL_lo' ins_u ins_sz rfl rfl rfl (by omega) (by omega) (by omega) _) fun a hd hs => ?_; replace hdf := hd.trans hdf
    refine raw_gen hF hs rfl rfl (by decide) (by intro c h; cases h) (RunL_ext rfl rfl rfl (ins_ov _ ⟨rb, roff, none⟩ ⟨g, 0 + (q + 1) * 7, none⟩ _ _ _ _ hne rcur cur rT _ rfz hrow hrne hheap)) fun a hd hs => ?_; replace hdf := hd.trans hdf
    refine raw_gen hF hs rfl rfl (by decide) (by intro c h; cases h) (RunL_not rfl rfl _) fun a hd hs => ?_; replace hdf := hd.trans hdf
    refine wpListIn_nil ⟨rfl, wpIn_cond_split (hs.env _ _ rfl) (fun h => ?_) (fun h => by simp at h)⟩
    obtain ⟨w1, hw1⟩ : ∃ w1 : World, w1 = { w with drawn := w.drawn + 1 } := ⟨_, rfl⟩
    have hheap1 : ∀ b : Nat, w1.heap[b]? = w.heap[b]? := fun b => by rw [hw1]
    have hc1 := run_copyK (P := Tryz.prog) w1 24 24 3 58 g (0 + (q + 1) * 7) (v.es.length + 1 - (q + 1)) (c - (q + 1)) ⟨g, 0 + q * 7, none⟩ (v.es.length + 1 - q) (c - q) m 7 cur 58 (xs.drop (q * 7)) ins_u ins_sz (by rw [hheap1]; exact hheap)
      (by simp only [Nat.min_def]; split <;> omega) (by simp only [List.length_drop]; omega)
      (fun j u hj => by
        rw [cell_at (by rw [hheap1]; exact hheap), ← Array.getElem?_toList]
        rw [List.getElem?_drop] at hj
        have hjl := (List.getElem?_eq_some_iff.1 hj).1
        rw [← htake', List.getElem?_take] at hj
        split at hj
        · rw [Nat.zero_add]; exact hj
        · cases hj)
      (by simp only [List.length_drop]
          have : (q + m + 1) * 7 ≤ c * 7 := Nat.mul_le_mul_right _ (by omega)
          simp only [Nat.add_mul] at this ⊢
          omega) (fun u hu => h1x u (List.mem_of_mem_drop hu))
    obtain ⟨cur1, hcur1⟩ : ∃ cur1 : Array Value, cur1 = (cur.toList.take (0 + (q + 1) * 7) ++ xs.drop (q * 7) ++ cur.toList.drop (0 + (q + 1) * 7 + (xs.drop (q * 7)).length)).toArray := ⟨_, rfl⟩
    rw [← hcur1] at hc1
    have hcl : cur.toList.length = c * 7 := by rw [Array.length_toList, hcs]
    have hcc : q * 7 + 7 + m * 7 ≤ cur.toList.length := by
      rw [hcl]
      have : (q + m + 1) * 7 ≤ c * 7 := Nat.mul_le_mul_right _ (by omega)
      simp only [Nat.add_mul] at this
      omega
    have hlists := ins_lists cur.toList xs vs (q * 7) 7 (m * 7) hvl' hxl' htake' hcc
    have hcur1' : cur1.toList = cur.toList.take (q * 7 + 7) ++ xs.drop (q * 7) ++ cur.toList.drop (q * 7 + 7 + m * 7) := by
      rw [hcur1]
      have e1 : 0 + (q + 1) * 7 = q * 7 + 7 := by rw [Nat.add_mul]; omega
      have e2 : (xs.drop (q * 7)).length = m * 7 := by simp only [List.length_drop]; omega
      rw [e1, e2]
    have hcur1l : cur1.size = cur.size := by
      rw [← Array.length_toList, hcur1', ← Array.length_toList]
      simp only [List.length_append, List.length_take, List.length_drop]
      omega
    have hh2 : (w1.setRow g cur1).heap[g]? = some (.cells cur1 58 (0, 0)) := setRowS (by rw [hheap1]; exact hheap)
    have hc2 := run_copyK (P := Tryz.prog) (w1.setRow g cur1) 24 24 3 58 g (0 + q * 7) (v.es.length + 1 - q) (c - q) ⟨rb, roff, none⟩ 1 rc 1 7 cur1 58 vs ins_u ins_sz hh2
      (by simp only [Nat.min_def]; split <;> omega) (by omega)
      (fun j u hj => by
        rw [cell_at (w := w1.setRow g cur1) (g := rb) (cur := rcur) (t := rT) (fz := rfz) (by rw [setRowO hne, hheap1]; exact hrow)]
        exact hrcur j u hj)
      (by rw [hcur1l, ← Array.length_toList]; omega) h1v
    obtain ⟨cur2, hcur2⟩ : ∃ cur2 : Array Value, cur2 = (cur1.toList.take (0 + q * 7) ++ vs ++ cur1.toList.drop (0 + q * 7 + vs.length)).toArray := ⟨_, rfl⟩
    rw [← hcur2] at hc2
    have hcur2' : cur2.toList = cur1.toList.take (q * 7) ++ vs ++ cur1.toList.drop (q * 7 + 7) := by rw [hcur2, hvl']; simp only [Nat.zero_add]
    rw [hcur1'] at hcur2'
    have hlists' : cur2.toList.take (q * 7 + 7 + m * 7) = xs.take (q * 7) ++ vs ++ xs.drop (q * 7) ∧ cur2.toList.length = cur.toList.length := by rw [hcur2']; exact hlists
    have hheap2 : ((w1.setRow g cur1).setRow g cur2).heap[g]? = some (.cells cur2 58 (0, 0)) := setRowS hh2
    have hcpos : ∃ c', c = c' + 1 := ⟨c - 1, by omega⟩
    have hoc : ∀ n, oblk (.slice (some ⟨g, 0, none⟩) n c) = some g := fun n => by obtain ⟨c', rfl⟩ := hcpos; rfl
    refine raw_draw hro ins_mixed ?_
    rw [← hw1]
    refine raw_take hro (i := 0) hs rfl (by kernel_rfl) (by kernel_rfl) (by kernel_rfl) (by rintro c a w ⟨h, _⟩; cases h) rfl rfl (by decide) (fun _ _ => rfl) (fun _ => RunL_move rfl rfl _) fun a hd hs => ?_; replace hdf := hd.trans hdf
    refine raw_take hro (i := 1) hs rfl (by kernel_rfl) (by kernel_rfl) (by kernel_rfl) (by rintro c a w ⟨h, _⟩; cases h) rfl rfl (by decide) (fun _ _ => rfl) (fun _ => RunL_move rfl rfl _) fun a hd hs => ?_; replace hdf := hd.trans hdf
    refine raw_take hro (i := 2) hs rfl (by kernel_rfl) (by kernel_rfl) (by kernel_rfl) (by rintro c a w ⟨h, _⟩; cases h) rfl rfl (by decide) (fun _ _ => rfl) (fun _ => RunL_move rfl rfl _) fun a hd hs => ?_; replace hdf := hd.trans hdf
    refine raw_take hro (i := 3) hs rfl (by kernel_rfl) (by kernel_rfl) (by kernel_rfl) (by rintro c a w ⟨h, _⟩; cases h) rfl rfl (by decide) (fun _ _ => rfl) (fun _ => RunL_add rfl rfl rfl (by omega) _) fun a hd hs => ?_; replace hdf := hd.trans hdf
    refine raw_take hro (i := 4) hs rfl (by kernel_rfl) (by kernel_rfl) (by kernel_rfl) (by rintro c a w ⟨h, _⟩; cases h) rfl rfl (by decide) (fun _ _ => rfl) (fun _ => RunL_lo' ins_u ins_sz rfl rfl rfl (by omega) (by omega) (by omega) _) fun a hd hs => ?_; replace hdf := hd.trans hdf
    refine raw_take hro (i := 5) hs rfl (by kernel_rfl) (by kernel_rfl) (by kernel_rfl) (by rintro c a w ⟨h, _⟩; cases h) rfl rfl (by decide) (fun _ _ => rfl) (fun _ => RunL_move rfl rfl _) fun a hd hs => ?_; replace hdf := hd.trans hdf
    refine raw_take hro (i := 6) hs rfl (by kernel_rfl) (by kernel_rfl) (by kernel_rfl) (by rintro c a w ⟨h, _⟩; cases h) rfl rfl (by decide) (fun _ _ => rfl) (fun _ => RunL_move rfl rfl _) fun a hd hs => ?_; replace hdf := hd.trans hdf
    refine raw_take hro (i := 7) hs rfl (by kernel_rfl) (by kernel_rfl) (by kernel_rfl) (by rintro c a w ⟨h, _⟩; cases h) rfl rfl (by decide) (fun _ _ => rfl) (fun _ => RunL_lo' ins_u ins_sz rfl rfl rfl (by omega) (by omega) (by omega) _) fun a hd hs => ?_; replace hdf := hd.trans hdf
    refine raw_last hF (i := 8) hs rfl (by kernel_rfl) (by kernel_rfl) rfl rfl (by decide) (by intro c h; cases h) (RunL_copy rfl rfl rfl hc1) fun a hd hs => ?_; replace hdf := hd.trans hdf
    refine ⟨rfl, ?_⟩
    refine raw_reg ?_
    refine raw_gen hF hs rfl rfl (by decide) (by intro c h; cases h) (RunL_move rfl rfl _) fun a hd hs => ?_; replace hdf := hd.trans hdf
    refine raw_gen hF hs rfl rfl (by decide) (by intro c h; cases h) (RunL_move rfl rfl _) fun a hd hs => ?_; replace hdf := hd.trans hdf
    refine raw_gen hF hs rfl rfl (by decide) (by intro c h; cases h) (RunL_lo' ins_u ins_sz rfl rfl rfl (by omega) (by omega) (by omega) _) fun a hd hs => ?_; replace hdf := hd.trans hdf
    refine raw_gen hF hs rfl rfl (by decide) (by intro c h; cases h) (RunL_move rfl rfl _) fun a hd hs => ?_; replace hdf := hd.trans hdf
    refine raw_gen hF hs rfl rfl (by decide) (by intro c h; cases h) (RunL_copy rfl rfl rfl hc2) fun a hd hs => ?_; replace hdf := hd.trans hdf
    refine wpListIn_nil ⟨rfl, ?_⟩
    refine raw_reg ?_
    refine raw_gen hF hs rfl rfl (by decide) (by intro c h; cases h) (RunL_move rfl rfl _) fun a hd hs => ?_; replace hdf := hd.trans hdf
    refine raw_gen hF hs rfl rfl (by decide) (by intro c h; cases h) (RunL_assign rfl rfl _) fun a hd hs => ?_; replace hdf := hd.trans hdf
    refine wpListIn_nil ⟨rfl, wpIn_ret (fin _ _ _ _ hdf hs rfl ?_ ?_ (.inl ?_))⟩
    · refine .inl ⟨by decide, .inr ⟨⟨?_, .inr ⟨g, c, cur2, rfl, hbase, hheap2, hroom, hcap, ?_, ?_⟩⟩, g, hoc _, rfl⟩⟩
      · simp only [List.length_append, List.length_take, List.length_drop, hvl', hxl', hm, Nat.add_mul]; omega
      · rw [← Array.length_toList, hlists'.2, hcl]
      · rw [← hlists'.1, hm]; congr 1; simp only [Nat.add_mul]; omega
    · rw [hob]
      refine ⟨by rw [hw1]; rfl, by rw [hw1]; rfl, by rw [hw1]; rfl, by rw [setRowZ, setRowZ, hw1]; exact Nat.le_refl _, fun b hb hbn => ?_⟩
      have hbg : b ≠ g := fun hc => hbn (by rw [hc])
      rw [setRowO hbg, setRowO hbg, hheap1]
    · rw [hob, hoc]
end
end Go.Proofs.YtabhbdehbpmpkaaGreat
namespace Go.Proofs.YtabhbdehbpmpkaaGreat
open Go Go.Sx
set_option maxRecDepth 100000
noncomputable section
def cloneIt (vs : List CV) : Option (List CV) := match evFO Tryz.prog (fun _ => none) (fun _ _ => none) fe55 (bodyOf Tryz.f55) vs with
  | some [.row k es, .fn T []] => some [.row k es, .fn T []]
  | _ => none
def insIt : List CV → Option (List CV)
  | [] => some [.row 7 [], .fn 58 [], .fn 56 []]
  | _ => none
def its : List (Nat × (List CV → Option (List CV))) := [(n_fine_days_c1, daysIt), (n_slices_Clone_Note, cloneIt), (n_slices_Insert_Note, insIt)]
def D (n : Nat) : Den := den Tryz.prog tb its n
theorem daysIt_ints {caps out : List CV} (h : daysIt caps = some out) : ∃ l : List Int, out = l.map ci := by
  unfold daysIt at h
  split at h
  · split at h
    · cases h; exact ⟨_, rfl⟩
    · cases h
  · cases h
theorem cloneIt_row {caps out : List CV} (h : cloneIt caps = some out) : ∃ k es T, out = [.row k es, .fn T []] := by
  unfold cloneIt at h
  split at h
  · cases h; exact ⟨_, _, _, rfl⟩
  · cases h
theorem insIt_out {caps out : List CV} (h : insIt caps = some out) : caps = [] ∧ out = [.row 7 [], .fn 58 [], .fn 56 []] := by
  unfold insIt at h
  split at h
  · cases h; exact ⟨rfl, rfl⟩
  · cases h
theorem its_ok : ItsOk Tryz.prog its := by
  intro e he caps out h
  simp only [its, List.mem_cons, List.not_mem_nil, or_false] at he
  rcases he with rfl | rfl | rfl
  · simp only at h
    obtain ⟨l, rfl⟩ := daysIt_ints h
    refine ⟨fun xs hx => days_it caps _ h xs hx, fun k es T hc => ?_, fun k T by_ _ hc => ?_⟩ <;>
    · rcases l with _ | ⟨a, l⟩ <;> simp [ci] at hc
  · simp only at h
    obtain ⟨k0, es0, T0, rfl⟩ := cloneIt_row h
    refine ⟨fun xs hx => by simp [intsOf] at hx, fun k es T hc => ?_, fun k T by_ _ hc => by simp at hc⟩
    simp only [List.cons.injEq, CV.row.injEq, CV.fn.injEq, and_true] at hc
    obtain ⟨⟨rfl, rfl⟩, rfl⟩ := hc
    refine ⟨by kernel_rfl, ?_⟩
    refine evFO_sound (fe := fe55) (c := bodyOf Tryz.f55) (fn := Tryz.f55) (Fns.none' _) (Its.none' _) (by kernel_rfl) (by kernel_rfl) (by kernel_rfl) (by kernel_rfl) ?_
    unfold cloneIt at h
    split at h
    · rename_i hh; rw [hh]; exact h
    · cases h
  · simp only at h
    obtain ⟨rfl, rfl⟩ := insIt_out h
    refine ⟨fun xs hx => by simp [intsOf] at hx, fun k es T hc => by simp at hc, fun k T by_ _ hc => ?_⟩
    simp only [List.cons.injEq, CV.row.injEq, CV.fn.injEq, and_true] at hc
    obtain ⟨⟨rfl, _⟩, rfl, rfl⟩ := hc
    exact ⟨by kernel_rfl, ins_P⟩
theorem clone_fo (es : List (List CV)) : evFO Tryz.prog (fun _ => none) (fun _ _ => none) fe55 (bodyOf Tryz.f55) [.row 7 es] = retO (nilD es (some (.ret [.row 7 [], .fn 58 []])) (chk (fitA 0 es.length 56) (some (.ret [.row 7 es, .fn 58 []])))) := by kernel_rfl
theorem D_clone (n : Nat) (es : List (List CV)) (h : fitA 0 es.length 56 = true) : D (n + 1) n_slices_Clone_Note [.row 7 es] = some [.row 7 es, .fn 58 []] := by
  show cloneIt [.row 7 es] = _
  have : evFO Tryz.prog (fun _ => none) (fun _ _ => none) fe55 (bodyOf Tryz.f55) [.row 7 es] = some [.row 7 es, .fn 58 []] := by
    rw [clone_fo, h]
    cases es with
    | nil => simp [nilD, chk, eqO_self, retO]
    | cons a es => rfl
  unfold cloneIt
  rw [this]
theorem D_ins (n : Nat) : D (n + 1) n_slices_Insert_Note [] = some [.row 7 [], .fn 58 [], .fn 56 []] := rfl
end
end Go.Proofs.YtabhbdehbpmpkaaGreat
