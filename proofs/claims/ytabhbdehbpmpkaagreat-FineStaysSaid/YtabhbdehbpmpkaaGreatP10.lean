/-
  Proved: what an owner owes, which stays are inside, ended in a way, and moved by a source, are as the chapter says; conditions: none.
-/
import Derived.KernelRfl
import Derived.Test.YtabhbdehbpmpkaaGreatP09
namespace Go.Proofs.YtabhbdehbpmpkaaGreat
open Go Go.Sx
set_option maxRecDepth 100000
theorem en3 : ∃ fn, EntOk Tryz.prog 3 fe3 fn ∧ bodyOf Tryz.f3 = bodyOf fn := by refine ⟨Tryz.f3, ⟨?_, ?_, ?_, ?_, ?_⟩, rfl⟩ <;> kernel_rfl
theorem en4 : ∃ fn, EntOk Tryz.prog 4 fe4 fn ∧ bodyOf Tryz.f4 = bodyOf fn := by refine ⟨Tryz.f4, ⟨?_, ?_, ?_, ?_, ?_⟩, rfl⟩ <;> kernel_rfl
theorem en5 : ∃ fn, EntOk Tryz.prog 5 fe5 fn ∧ bodyOf Tryz.f5 = bodyOf fn := by refine ⟨Tryz.f5, ⟨?_, ?_, ?_, ?_, ?_⟩, rfl⟩ <;> kernel_rfl
theorem en6 : ∃ fn, EntOk Tryz.prog 6 fe6 fn ∧ bodyOf Tryz.f6 = bodyOf fn := by refine ⟨Tryz.f6, ⟨?_, ?_, ?_, ?_, ?_⟩, rfl⟩ <;> kernel_rfl
theorem en7 : ∃ fn, EntOk Tryz.prog 7 fe7 fn ∧ bodyOf Tryz.f7 = bodyOf fn := by refine ⟨Tryz.f7, ⟨?_, ?_, ?_, ?_, ?_⟩, rfl⟩ <;> kernel_rfl
theorem en8 : ∃ fn, EntOk Tryz.prog 8 fe8 fn ∧ bodyOf Tryz.f8 = bodyOf fn := by refine ⟨Tryz.f8, ⟨?_, ?_, ?_, ?_, ?_⟩, rfl⟩ <;> kernel_rfl
theorem en9 : ∃ fn, EntOk Tryz.prog 9 fe9 fn ∧ bodyOf Tryz.f9 = bodyOf fn := by refine ⟨Tryz.f9, ⟨?_, ?_, ?_, ?_, ?_⟩, rfl⟩ <;> kernel_rfl
theorem en10 : ∃ fn, EntOk Tryz.prog 10 fe10 fn ∧ bodyOf Tryz.f10 = bodyOf fn := by refine ⟨Tryz.f10, ⟨?_, ?_, ?_, ?_, ?_⟩, rfl⟩ <;> kernel_rfl
theorem en11 : ∃ fn, EntOk Tryz.prog 11 fe11 fn ∧ bodyOf Tryz.f11 = bodyOf fn := by refine ⟨Tryz.f11, ⟨?_, ?_, ?_, ?_, ?_⟩, rfl⟩ <;> kernel_rfl
theorem en12 : ∃ fn, EntOk Tryz.prog 12 fe12 fn ∧ bodyOf Tryz.f12 = bodyOf fn := by refine ⟨Tryz.f12, ⟨?_, ?_, ?_, ?_, ?_⟩, rfl⟩ <;> kernel_rfl
theorem en13 : ∃ fn, EntOk Tryz.prog 13 fe13 fn ∧ bodyOf Tryz.f13 = bodyOf fn := by refine ⟨Tryz.f13, ⟨?_, ?_, ?_, ?_, ?_⟩, rfl⟩ <;> kernel_rfl
theorem en14 : ∃ fn, EntOk Tryz.prog 14 fe14 fn ∧ bodyOf Tryz.f14 = bodyOf fn := by refine ⟨Tryz.f14, ⟨?_, ?_, ?_, ?_, ?_⟩, rfl⟩ <;> kernel_rfl
theorem en15 : ∃ fn, EntOk Tryz.prog 15 fe15 fn ∧ bodyOf Tryz.f15 = bodyOf fn := by refine ⟨Tryz.f15, ⟨?_, ?_, ?_, ?_, ?_⟩, rfl⟩ <;> kernel_rfl
theorem en16 : ∃ fn, EntOk Tryz.prog 16 fe16 fn ∧ bodyOf Tryz.f16 = bodyOf fn := by refine ⟨Tryz.f16, ⟨?_, ?_, ?_, ?_, ?_⟩, rfl⟩ <;> kernel_rfl
theorem en17 : ∃ fn, EntOk Tryz.prog 17 fe17 fn ∧ bodyOf Tryz.f17 = bodyOf fn := by refine ⟨Tryz.f17, ⟨?_, ?_, ?_, ?_, ?_⟩, rfl⟩ <;> kernel_rfl
theorem en18 : ∃ fn, EntOk Tryz.prog 18 fe18 fn ∧ bodyOf Tryz.f18 = bodyOf fn := by refine ⟨Tryz.f18, ⟨?_, ?_, ?_, ?_, ?_⟩, rfl⟩ <;> kernel_rfl
theorem en19 : ∃ fn, EntOk Tryz.prog 19 fe19 fn ∧ bodyOf Tryz.f19 = bodyOf fn := by refine ⟨Tryz.f19, ⟨?_, ?_, ?_, ?_, ?_⟩, rfl⟩ <;> kernel_rfl
theorem en20 : ∃ fn, EntOk Tryz.prog 20 fe20 fn ∧ bodyOf Tryz.f20 = bodyOf fn := by refine ⟨Tryz.f20, ⟨?_, ?_, ?_, ?_, ?_⟩, rfl⟩ <;> kernel_rfl
theorem en21 : ∃ fn, EntOk Tryz.prog 21 fe21 fn ∧ bodyOf Tryz.f21 = bodyOf fn := by refine ⟨Tryz.f21, ⟨?_, ?_, ?_, ?_, ?_⟩, rfl⟩ <;> kernel_rfl
theorem en22 : ∃ fn, EntOk Tryz.prog 22 fe22 fn ∧ bodyOf Tryz.f22 = bodyOf fn := by refine ⟨Tryz.f22, ⟨?_, ?_, ?_, ?_, ?_⟩, rfl⟩ <;> kernel_rfl
theorem en23 : ∃ fn, EntOk Tryz.prog 23 fe23 fn ∧ bodyOf Tryz.f23 = bodyOf fn := by refine ⟨Tryz.f23, ⟨?_, ?_, ?_, ?_, ?_⟩, rfl⟩ <;> kernel_rfl
theorem en24 : ∃ fn, EntOk Tryz.prog 24 fe24 fn ∧ bodyOf Tryz.f24 = bodyOf fn := by refine ⟨Tryz.f24, ⟨?_, ?_, ?_, ?_, ?_⟩, rfl⟩ <;> kernel_rfl
theorem en25 : ∃ fn, EntOk Tryz.prog 25 fe25 fn ∧ bodyOf Tryz.f25 = bodyOf fn := by refine ⟨Tryz.f25, ⟨?_, ?_, ?_, ?_, ?_⟩, rfl⟩ <;> kernel_rfl
theorem en26 : ∃ fn, EntOk Tryz.prog 26 fe26 fn ∧ bodyOf Tryz.f26 = bodyOf fn := by refine ⟨Tryz.f26, ⟨?_, ?_, ?_, ?_, ?_⟩, rfl⟩ <;> kernel_rfl
theorem en27 : ∃ fn, EntOk Tryz.prog 27 fe27 fn ∧ bodyOf Tryz.f27 = bodyOf fn := by refine ⟨Tryz.f27, ⟨?_, ?_, ?_, ?_, ?_⟩, rfl⟩ <;> kernel_rfl
theorem en28 : ∃ fn, EntOk Tryz.prog 28 fe28 fn ∧ bodyOf Tryz.f28 = bodyOf fn := by refine ⟨Tryz.f28, ⟨?_, ?_, ?_, ?_, ?_⟩, rfl⟩ <;> kernel_rfl
theorem en29 : ∃ fn, EntOk Tryz.prog 29 fe29 fn ∧ bodyOf Tryz.f29 = bodyOf fn := by refine ⟨Tryz.f29, ⟨?_, ?_, ?_, ?_, ?_⟩, rfl⟩ <;> kernel_rfl
theorem en30 : ∃ fn, EntOk Tryz.prog 30 fe30 fn ∧ bodyOf Tryz.f30 = bodyOf fn := by refine ⟨Tryz.f30, ⟨?_, ?_, ?_, ?_, ?_⟩, rfl⟩ <;> kernel_rfl
theorem en31 : ∃ fn, EntOk Tryz.prog 31 fe31 fn ∧ bodyOf Tryz.f31 = bodyOf fn := by refine ⟨Tryz.f31, ⟨?_, ?_, ?_, ?_, ?_⟩, rfl⟩ <;> kernel_rfl
theorem en32 : ∃ fn, EntOk Tryz.prog 32 fe32 fn ∧ bodyOf Tryz.f32 = bodyOf fn := by refine ⟨Tryz.f32, ⟨?_, ?_, ?_, ?_, ?_⟩, rfl⟩ <;> kernel_rfl
theorem en33 : ∃ fn, EntOk Tryz.prog 33 fe33 fn ∧ bodyOf Tryz.f33 = bodyOf fn := by refine ⟨Tryz.f33, ⟨?_, ?_, ?_, ?_, ?_⟩, rfl⟩ <;> kernel_rfl
theorem en34 : ∃ fn, EntOk Tryz.prog 34 fe34 fn ∧ bodyOf Tryz.f34 = bodyOf fn := by refine ⟨Tryz.f34, ⟨?_, ?_, ?_, ?_, ?_⟩, rfl⟩ <;> kernel_rfl
theorem en35 : ∃ fn, EntOk Tryz.prog 35 fe35 fn ∧ bodyOf Tryz.f35 = bodyOf fn := by refine ⟨Tryz.f35, ⟨?_, ?_, ?_, ?_, ?_⟩, rfl⟩ <;> kernel_rfl
theorem en36 : ∃ fn, EntOk Tryz.prog 36 fe36 fn ∧ bodyOf Tryz.f36 = bodyOf fn := by refine ⟨Tryz.f36, ⟨?_, ?_, ?_, ?_, ?_⟩, rfl⟩ <;> kernel_rfl
theorem en37 : ∃ fn, EntOk Tryz.prog 37 fe37 fn ∧ bodyOf Tryz.f37 = bodyOf fn := by refine ⟨Tryz.f37, ⟨?_, ?_, ?_, ?_, ?_⟩, rfl⟩ <;> kernel_rfl
theorem en38 : ∃ fn, EntOk Tryz.prog 38 fe38 fn ∧ bodyOf Tryz.f38 = bodyOf fn := by refine ⟨Tryz.f38, ⟨?_, ?_, ?_, ?_, ?_⟩, rfl⟩ <;> kernel_rfl
theorem en39 : ∃ fn, EntOk Tryz.prog 39 fe39 fn ∧ bodyOf Tryz.f39 = bodyOf fn := by refine ⟨Tryz.f39, ⟨?_, ?_, ?_, ?_, ?_⟩, rfl⟩ <;> kernel_rfl
theorem en41 : ∃ fn, EntOk Tryz.prog 41 fe41 fn ∧ bodyOf Tryz.f41 = bodyOf fn := by refine ⟨Tryz.f41, ⟨?_, ?_, ?_, ?_, ?_⟩, rfl⟩ <;> kernel_rfl
theorem en42 : ∃ fn, EntOk Tryz.prog 42 fe42 fn ∧ bodyOf Tryz.f42 = bodyOf fn := by refine ⟨Tryz.f42, ⟨?_, ?_, ?_, ?_, ?_⟩, rfl⟩ <;> kernel_rfl
theorem en43 : ∃ fn, EntOk Tryz.prog 43 fe43 fn ∧ bodyOf Tryz.f43 = bodyOf fn := by refine ⟨Tryz.f43, ⟨?_, ?_, ?_, ?_, ?_⟩, rfl⟩ <;> kernel_rfl
theorem en44 : ∃ fn, EntOk Tryz.prog 44 fe44 fn ∧ bodyOf Tryz.f44 = bodyOf fn := by refine ⟨Tryz.f44, ⟨?_, ?_, ?_, ?_, ?_⟩, rfl⟩ <;> kernel_rfl
theorem en45 : ∃ fn, EntOk Tryz.prog 45 fe45 fn ∧ bodyOf Tryz.f45 = bodyOf fn := by refine ⟨Tryz.f45, ⟨?_, ?_, ?_, ?_, ?_⟩, rfl⟩ <;> kernel_rfl
theorem en46 : ∃ fn, EntOk Tryz.prog 46 fe46 fn ∧ bodyOf Tryz.f46 = bodyOf fn := by refine ⟨Tryz.f46, ⟨?_, ?_, ?_, ?_, ?_⟩, rfl⟩ <;> kernel_rfl
theorem en47 : ∃ fn, EntOk Tryz.prog 47 fe47 fn ∧ bodyOf Tryz.f47 = bodyOf fn := by refine ⟨Tryz.f47, ⟨?_, ?_, ?_, ?_, ?_⟩, rfl⟩ <;> kernel_rfl
theorem en48 : ∃ fn, EntOk Tryz.prog 48 fe48 fn ∧ bodyOf Tryz.f48 = bodyOf fn := by refine ⟨Tryz.f48, ⟨?_, ?_, ?_, ?_, ?_⟩, rfl⟩ <;> kernel_rfl
theorem en49 : ∃ fn, EntOk Tryz.prog 49 fe49 fn ∧ bodyOf Tryz.f49 = bodyOf fn := by refine ⟨Tryz.f49, ⟨?_, ?_, ?_, ?_, ?_⟩, rfl⟩ <;> kernel_rfl
theorem en50 : ∃ fn, EntOk Tryz.prog 50 fe50 fn ∧ bodyOf Tryz.f50 = bodyOf fn := by refine ⟨Tryz.f50, ⟨?_, ?_, ?_, ?_, ?_⟩, rfl⟩ <;> kernel_rfl
theorem en51 : ∃ fn, EntOk Tryz.prog 51 fe51 fn ∧ bodyOf Tryz.f51 = bodyOf fn := by refine ⟨Tryz.f51, ⟨?_, ?_, ?_, ?_, ?_⟩, rfl⟩ <;> kernel_rfl
theorem en52 : ∃ fn, EntOk Tryz.prog 52 fe52 fn ∧ bodyOf Tryz.f52 = bodyOf fn := by refine ⟨Tryz.f52, ⟨?_, ?_, ?_, ?_, ?_⟩, rfl⟩ <;> kernel_rfl
theorem en53 : ∃ fn, EntOk Tryz.prog 53 fe53 fn ∧ bodyOf Tryz.f53 = bodyOf fn := by refine ⟨Tryz.f53, ⟨?_, ?_, ?_, ?_, ?_⟩, rfl⟩ <;> kernel_rfl
theorem en56 : ∃ fn, EntOk Tryz.prog 56 fe56 fn ∧ bodyOf Tryz.f56 = bodyOf fn := by refine ⟨Tryz.f56, ⟨?_, ?_, ?_, ?_, ?_⟩, rfl⟩ <;> kernel_rfl
theorem en57 : ∃ fn, EntOk Tryz.prog 57 fe57 fn ∧ bodyOf Tryz.f57 = bodyOf fn := by refine ⟨Tryz.f57, ⟨?_, ?_, ?_, ?_, ?_⟩, rfl⟩ <;> kernel_rfl
theorem en58 : ∃ fn, EntOk Tryz.prog 58 fe58 fn ∧ bodyOf Tryz.f58 = bodyOf fn := by refine ⟨Tryz.f58, ⟨?_, ?_, ?_, ?_, ?_⟩, rfl⟩ <;> kernel_rfl
theorem en59 : ∃ fn, EntOk Tryz.prog 59 fe59 fn ∧ bodyOf Tryz.f59 = bodyOf fn := by refine ⟨Tryz.f59, ⟨?_, ?_, ?_, ?_, ?_⟩, rfl⟩ <;> kernel_rfl
theorem en60 : ∃ fn, EntOk Tryz.prog 60 fe60 fn ∧ bodyOf Tryz.f60 = bodyOf fn := by refine ⟨Tryz.f60, ⟨?_, ?_, ?_, ?_, ?_⟩, rfl⟩ <;> kernel_rfl
theorem en61 : ∃ fn, EntOk Tryz.prog 61 fe61 fn ∧ bodyOf Tryz.f61 = bodyOf fn := by refine ⟨Tryz.f61, ⟨?_, ?_, ?_, ?_, ?_⟩, rfl⟩ <;> kernel_rfl
theorem en62 : ∃ fn, EntOk Tryz.prog 62 fe62 fn ∧ bodyOf Tryz.f62 = bodyOf fn := by refine ⟨Tryz.f62, ⟨?_, ?_, ?_, ?_, ?_⟩, rfl⟩ <;> kernel_rfl
theorem en63 : ∃ fn, EntOk Tryz.prog 63 fe63 fn ∧ bodyOf Tryz.f63 = bodyOf fn := by refine ⟨Tryz.f63, ⟨?_, ?_, ?_, ?_, ?_⟩, rfl⟩ <;> kernel_rfl
theorem en64 : ∃ fn, EntOk Tryz.prog 64 fe64 fn ∧ bodyOf Tryz.f64 = bodyOf fn := by refine ⟨Tryz.f64, ⟨?_, ?_, ?_, ?_, ?_⟩, rfl⟩ <;> kernel_rfl
theorem en65 : ∃ fn, EntOk Tryz.prog 65 fe65 fn ∧ bodyOf Tryz.f65 = bodyOf fn := by refine ⟨Tryz.f65, ⟨?_, ?_, ?_, ?_, ?_⟩, rfl⟩ <;> kernel_rfl
theorem en66 : ∃ fn, EntOk Tryz.prog 66 fe66 fn ∧ bodyOf Tryz.f66 = bodyOf fn := by refine ⟨Tryz.f66, ⟨?_, ?_, ?_, ?_, ?_⟩, rfl⟩ <;> kernel_rfl
theorem en67 : ∃ fn, EntOk Tryz.prog 67 fe67 fn ∧ bodyOf Tryz.f67 = bodyOf fn := by refine ⟨Tryz.f67, ⟨?_, ?_, ?_, ?_, ?_⟩, rfl⟩ <;> kernel_rfl
theorem en68 : ∃ fn, EntOk Tryz.prog 68 fe68 fn ∧ bodyOf Tryz.f68 = bodyOf fn := by refine ⟨Tryz.f68, ⟨?_, ?_, ?_, ?_, ?_⟩, rfl⟩ <;> kernel_rfl
theorem en69 : ∃ fn, EntOk Tryz.prog 69 fe69 fn ∧ bodyOf Tryz.f69 = bodyOf fn := by refine ⟨Tryz.f69, ⟨?_, ?_, ?_, ?_, ?_⟩, rfl⟩ <;> kernel_rfl
theorem en70 : ∃ fn, EntOk Tryz.prog 70 fe70 fn ∧ bodyOf Tryz.f70 = bodyOf fn := by refine ⟨Tryz.f70, ⟨?_, ?_, ?_, ?_, ?_⟩, rfl⟩ <;> kernel_rfl
theorem en71 : ∃ fn, EntOk Tryz.prog 71 fe71 fn ∧ bodyOf Tryz.f71 = bodyOf fn := by refine ⟨Tryz.f71, ⟨?_, ?_, ?_, ?_, ?_⟩, rfl⟩ <;> kernel_rfl
theorem en72 : ∃ fn, EntOk Tryz.prog 72 fe72 fn ∧ bodyOf Tryz.f72 = bodyOf fn := by refine ⟨Tryz.f72, ⟨?_, ?_, ?_, ?_, ?_⟩, rfl⟩ <;> kernel_rfl
theorem en73 : ∃ fn, EntOk Tryz.prog 73 fe73 fn ∧ bodyOf Tryz.f73 = bodyOf fn := by refine ⟨Tryz.f73, ⟨?_, ?_, ?_, ?_, ?_⟩, rfl⟩ <;> kernel_rfl
theorem en74 : ∃ fn, EntOk Tryz.prog 74 fe74 fn ∧ bodyOf Tryz.f74 = bodyOf fn := by refine ⟨Tryz.f74, ⟨?_, ?_, ?_, ?_, ?_⟩, rfl⟩ <;> kernel_rfl
theorem en75 : ∃ fn, EntOk Tryz.prog 75 fe75 fn ∧ bodyOf Tryz.f75 = bodyOf fn := by refine ⟨Tryz.f75, ⟨?_, ?_, ?_, ?_, ?_⟩, rfl⟩ <;> kernel_rfl
theorem en76 : ∃ fn, EntOk Tryz.prog 76 fe76 fn ∧ bodyOf Tryz.f76 = bodyOf fn := by refine ⟨Tryz.f76, ⟨?_, ?_, ?_, ?_, ?_⟩, rfl⟩ <;> kernel_rfl
theorem en77 : ∃ fn, EntOk Tryz.prog 77 fe77 fn ∧ bodyOf Tryz.f77 = bodyOf fn := by refine ⟨Tryz.f77, ⟨?_, ?_, ?_, ?_, ?_⟩, rfl⟩ <;> kernel_rfl
theorem en78 : ∃ fn, EntOk Tryz.prog 78 fe78 fn ∧ bodyOf Tryz.f78 = bodyOf fn := by refine ⟨Tryz.f78, ⟨?_, ?_, ?_, ?_, ?_⟩, rfl⟩ <;> kernel_rfl
theorem en79 : ∃ fn, EntOk Tryz.prog 79 fe79 fn ∧ bodyOf Tryz.f79 = bodyOf fn := by refine ⟨Tryz.f79, ⟨?_, ?_, ?_, ?_, ?_⟩, rfl⟩ <;> kernel_rfl
theorem en80 : ∃ fn, EntOk Tryz.prog 80 fe80 fn ∧ bodyOf Tryz.f80 = bodyOf fn := by refine ⟨Tryz.f80, ⟨?_, ?_, ?_, ?_, ?_⟩, rfl⟩ <;> kernel_rfl
theorem en82 : ∃ fn, EntOk Tryz.prog 82 fe82 fn ∧ bodyOf Tryz.f82 = bodyOf fn := by refine ⟨Tryz.f82, ⟨?_, ?_, ?_, ?_, ?_⟩, rfl⟩ <;> kernel_rfl
theorem en83 : ∃ fn, EntOk Tryz.prog 83 fe83 fn ∧ bodyOf Tryz.f83 = bodyOf fn := by refine ⟨Tryz.f83, ⟨?_, ?_, ?_, ?_, ?_⟩, rfl⟩ <;> kernel_rfl
theorem en84 : ∃ fn, EntOk Tryz.prog 84 fe84 fn ∧ bodyOf Tryz.f84 = bodyOf fn := by refine ⟨Tryz.f84, ⟨?_, ?_, ?_, ?_, ?_⟩, rfl⟩ <;> kernel_rfl
theorem en85 : ∃ fn, EntOk Tryz.prog 85 fe85 fn ∧ bodyOf Tryz.f85 = bodyOf fn := by refine ⟨Tryz.f85, ⟨?_, ?_, ?_, ?_, ?_⟩, rfl⟩ <;> kernel_rfl
theorem en86 : ∃ fn, EntOk Tryz.prog 86 fe86 fn ∧ bodyOf Tryz.f86 = bodyOf fn := by refine ⟨Tryz.f86, ⟨?_, ?_, ?_, ?_, ?_⟩, rfl⟩ <;> kernel_rfl
theorem en87 : ∃ fn, EntOk Tryz.prog 87 fe87 fn ∧ bodyOf Tryz.f87 = bodyOf fn := by refine ⟨Tryz.f87, ⟨?_, ?_, ?_, ?_, ?_⟩, rfl⟩ <;> kernel_rfl
theorem en88 : ∃ fn, EntOk Tryz.prog 88 fe88 fn ∧ bodyOf Tryz.f88 = bodyOf fn := by refine ⟨Tryz.f88, ⟨?_, ?_, ?_, ?_, ?_⟩, rfl⟩ <;> kernel_rfl
theorem en90 : ∃ fn, EntOk Tryz.prog 90 fe90 fn ∧ bodyOf Tryz.f90 = bodyOf fn := by refine ⟨Tryz.f90, ⟨?_, ?_, ?_, ?_, ?_⟩, rfl⟩ <;> kernel_rfl
theorem en91 : ∃ fn, EntOk Tryz.prog 91 fe91 fn ∧ bodyOf Tryz.f91 = bodyOf fn := by refine ⟨Tryz.f91, ⟨?_, ?_, ?_, ?_, ?_⟩, rfl⟩ <;> kernel_rfl
theorem en94 : ∃ fn, EntOk Tryz.prog 94 fe94 fn ∧ bodyOf Tryz.f94 = bodyOf fn := by refine ⟨Tryz.f94, ⟨?_, ?_, ?_, ?_, ?_⟩, rfl⟩ <;> kernel_rfl
theorem en95 : ∃ fn, EntOk Tryz.prog 95 fe95 fn ∧ bodyOf Tryz.f95 = bodyOf fn := by refine ⟨Tryz.f95, ⟨?_, ?_, ?_, ?_, ?_⟩, rfl⟩ <;> kernel_rfl
theorem en96 : ∃ fn, EntOk Tryz.prog 96 fe96 fn ∧ bodyOf Tryz.f96 = bodyOf fn := by refine ⟨Tryz.f96, ⟨?_, ?_, ?_, ?_, ?_⟩, rfl⟩ <;> kernel_rfl
theorem en97 : ∃ fn, EntOk Tryz.prog 97 fe97 fn ∧ bodyOf Tryz.f97 = bodyOf fn := by refine ⟨Tryz.f97, ⟨?_, ?_, ?_, ?_, ?_⟩, rfl⟩ <;> kernel_rfl
theorem en98 : ∃ fn, EntOk Tryz.prog 98 fe98 fn ∧ bodyOf Tryz.f98 = bodyOf fn := by refine ⟨Tryz.f98, ⟨?_, ?_, ?_, ?_, ?_⟩, rfl⟩ <;> kernel_rfl
theorem en99 : ∃ fn, EntOk Tryz.prog 99 fe99 fn ∧ bodyOf Tryz.f99 = bodyOf fn := by refine ⟨Tryz.f99, ⟨?_, ?_, ?_, ?_, ?_⟩, rfl⟩ <;> kernel_rfl
theorem en100 : ∃ fn, EntOk Tryz.prog 100 fe100 fn ∧ bodyOf Tryz.f100 = bodyOf fn := by refine ⟨Tryz.f100, ⟨?_, ?_, ?_, ?_, ?_⟩, rfl⟩ <;> kernel_rfl
theorem en101 : ∃ fn, EntOk Tryz.prog 101 fe101 fn ∧ bodyOf Tryz.f101 = bodyOf fn := by refine ⟨Tryz.f101, ⟨?_, ?_, ?_, ?_, ?_⟩, rfl⟩ <;> kernel_rfl
theorem en102 : ∃ fn, EntOk Tryz.prog 102 fe102 fn ∧ bodyOf Tryz.f102 = bodyOf fn := by refine ⟨Tryz.f102, ⟨?_, ?_, ?_, ?_, ?_⟩, rfl⟩ <;> kernel_rfl
theorem en104 : ∃ fn, EntOk Tryz.prog 104 fe104 fn ∧ bodyOf Tryz.f104 = bodyOf fn := by refine ⟨Tryz.f104, ⟨?_, ?_, ?_, ?_, ?_⟩, rfl⟩ <;> kernel_rfl
theorem en106 : ∃ fn, EntOk Tryz.prog 106 fe106 fn ∧ bodyOf Tryz.f106 = bodyOf fn := by refine ⟨Tryz.f106, ⟨?_, ?_, ?_, ?_, ?_⟩, rfl⟩ <;> kernel_rfl
theorem en107 : ∃ fn, EntOk Tryz.prog 107 fe107 fn ∧ bodyOf Tryz.f107 = bodyOf fn := by refine ⟨Tryz.f107, ⟨?_, ?_, ?_, ?_, ?_⟩, rfl⟩ <;> kernel_rfl
theorem tb_ok : ∀ e ∈ tb, ∃ fn, EntOk Tryz.prog e.1 e.2.1 fn ∧ e.2.2 = bodyOf fn := by
  intro e he
  unfold tb at he
  rcases List.mem_cons.1 he with rfl | he
  · exact en3
  rcases List.mem_cons.1 he with rfl | he
  · exact en4
  rcases List.mem_cons.1 he with rfl | he
  · exact en5
  rcases List.mem_cons.1 he with rfl | he
  · exact en6
  rcases List.mem_cons.1 he with rfl | he
  · exact en7
  rcases List.mem_cons.1 he with rfl | he
  · exact en8
  rcases List.mem_cons.1 he with rfl | he
  · exact en9
  rcases List.mem_cons.1 he with rfl | he
  · exact en10
  rcases List.mem_cons.1 he with rfl | he
  · exact en11
  rcases List.mem_cons.1 he with rfl | he
  · exact en12
  rcases List.mem_cons.1 he with rfl | he
  · exact en13
  rcases List.mem_cons.1 he with rfl | he
  · exact en14
  rcases List.mem_cons.1 he with rfl | he
  · exact en15
  rcases List.mem_cons.1 he with rfl | he
  · exact en16
  rcases List.mem_cons.1 he with rfl | he
  · exact en17
  rcases List.mem_cons.1 he with rfl | he
  · exact en18
  rcases List.mem_cons.1 he with rfl | he
  · exact en19
  rcases List.mem_cons.1 he with rfl | he
  · exact en20
  rcases List.mem_cons.1 he with rfl | he
  · exact en21
  rcases List.mem_cons.1 he with rfl | he
  · exact en22
  rcases List.mem_cons.1 he with rfl | he
  · exact en23
  rcases List.mem_cons.1 he with rfl | he
  · exact en24
  rcases List.mem_cons.1 he with rfl | he
  · exact en25
  rcases List.mem_cons.1 he with rfl | he
  · exact en26
  rcases List.mem_cons.1 he with rfl | he
  · exact en27
  rcases List.mem_cons.1 he with rfl | he
  · exact en28
  rcases List.mem_cons.1 he with rfl | he
  · exact en29
  rcases List.mem_cons.1 he with rfl | he
  · exact en30
  rcases List.mem_cons.1 he with rfl | he
  · exact en31
  rcases List.mem_cons.1 he with rfl | he
  · exact en32
  rcases List.mem_cons.1 he with rfl | he
  · exact en33
  rcases List.mem_cons.1 he with rfl | he
  · exact en34
  rcases List.mem_cons.1 he with rfl | he
  · exact en35
  rcases List.mem_cons.1 he with rfl | he
  · exact en36
  rcases List.mem_cons.1 he with rfl | he
  · exact en37
  rcases List.mem_cons.1 he with rfl | he
  · exact en38
  rcases List.mem_cons.1 he with rfl | he
  · exact en39
  rcases List.mem_cons.1 he with rfl | he
  · exact en41
  rcases List.mem_cons.1 he with rfl | he
  · exact en42
  rcases List.mem_cons.1 he with rfl | he
  · exact en43
  rcases List.mem_cons.1 he with rfl | he
  · exact en44
  rcases List.mem_cons.1 he with rfl | he
  · exact en45
  rcases List.mem_cons.1 he with rfl | he
  · exact en46
  rcases List.mem_cons.1 he with rfl | he
  · exact en47
  rcases List.mem_cons.1 he with rfl | he
  · exact en48
  rcases List.mem_cons.1 he with rfl | he
  · exact en49
  rcases List.mem_cons.1 he with rfl | he
  · exact en50
  rcases List.mem_cons.1 he with rfl | he
  · exact en51
  rcases List.mem_cons.1 he with rfl | he
  · exact en52
  rcases List.mem_cons.1 he with rfl | he
  · exact en53
  rcases List.mem_cons.1 he with rfl | he
  · exact en56
  rcases List.mem_cons.1 he with rfl | he
  · exact en57
  rcases List.mem_cons.1 he with rfl | he
  · exact en58
  rcases List.mem_cons.1 he with rfl | he
  · exact en59
  rcases List.mem_cons.1 he with rfl | he
  · exact en60
  rcases List.mem_cons.1 he with rfl | he
  · exact en61
  rcases List.mem_cons.1 he with rfl | he
  · exact en62
  rcases List.mem_cons.1 he with rfl | he
  · exact en63
  rcases List.mem_cons.1 he with rfl | he
  · exact en64
  rcases List.mem_cons.1 he with rfl | he
  · exact en65
  rcases List.mem_cons.1 he with rfl | he
  · exact en66
  rcases List.mem_cons.1 he with rfl | he
  · exact en67
  rcases List.mem_cons.1 he with rfl | he
  · exact en68
  rcases List.mem_cons.1 he with rfl | he
  · exact en69
  rcases List.mem_cons.1 he with rfl | he
  · exact en70
  rcases List.mem_cons.1 he with rfl | he
  · exact en71
  rcases List.mem_cons.1 he with rfl | he
  · exact en72
  rcases List.mem_cons.1 he with rfl | he
  · exact en73
  rcases List.mem_cons.1 he with rfl | he
  · exact en74
  rcases List.mem_cons.1 he with rfl | he
  · exact en75
  rcases List.mem_cons.1 he with rfl | he
  · exact en76
  rcases List.mem_cons.1 he with rfl | he
  · exact en77
  rcases List.mem_cons.1 he with rfl | he
  · exact en78
  rcases List.mem_cons.1 he with rfl | he
  · exact en79
  rcases List.mem_cons.1 he with rfl | he
  · exact en80
  rcases List.mem_cons.1 he with rfl | he
  · exact en82
  rcases List.mem_cons.1 he with rfl | he
  · exact en83
  rcases List.mem_cons.1 he with rfl | he
  · exact en84
  rcases List.mem_cons.1 he with rfl | he
  · exact en85
  rcases List.mem_cons.1 he with rfl | he
  · exact en86
  rcases List.mem_cons.1 he with rfl | he
  · exact en87
  rcases List.mem_cons.1 he with rfl | he
  · exact en88
  rcases List.mem_cons.1 he with rfl | he
  · exact en90
  rcases List.mem_cons.1 he with rfl | he
  · exact en91
  rcases List.mem_cons.1 he with rfl | he
  · exact en94
  rcases List.mem_cons.1 he with rfl | he
  · exact en95
  rcases List.mem_cons.1 he with rfl | he
  · exact en96
  rcases List.mem_cons.1 he with rfl | he
  · exact en97
  rcases List.mem_cons.1 he with rfl | he
  · exact en98
  rcases List.mem_cons.1 he with rfl | he
  · exact en99
  rcases List.mem_cons.1 he with rfl | he
  · exact en100
  rcases List.mem_cons.1 he with rfl | he
  · exact en101
  rcases List.mem_cons.1 he with rfl | he
  · exact en102
  rcases List.mem_cons.1 he with rfl | he
  · exact en104
  rcases List.mem_cons.1 he with rfl | he
  · exact en106
  rcases List.mem_cons.1 he with rfl | he
  · exact en107
  cases he
end Go.Proofs.YtabhbdehbpmpkaaGreat
namespace Go.Proofs.YtabhbdehbpmpkaaGreat
open Go Go.Sx Go.Fine
set_option maxRecDepth 10000
attribute [local simp] Bool.and_assoc Bool.or_assoc
theorem v_isRow_c1 (M : Den) (x : CV) : callV sg M (.fn n_fine_isRow_c1 []) [x] [.one li] [.one lb] = M n_fine_isRow_c1 [x] := rfl
theorem v_check_c1 (M : Den) (x : CV) : callV sg M (.fn n_fine_check_c1 []) [x] [.one li] [.one lb] = M n_fine_check_c1 [x] := rfl
@[simp] theorem w_within (n : Nat) (a b c : Int) : D (n + 1) n_fine_within [ci a, ci b, ci c] = some [cb (within a b c)] := by
  rw [q_fine_within]; simp [R_fine_within, within]
@[simp] theorem w_In (n : Nat) (a b c : Int) : D (n + 1) n_r06_In [ci a, ci b, ci c] = some [cb (within a b c)] := by
  rw [q_r06_In]; simp [R_r06_In, within]
@[simp] theorem w_isDay (n : Nat) (a : Int) : D (n + 2) n_fine_isDay [ci a] = some [cb (isDay a)] := by
  rw [q_fine_isDay]; simp [R_fine_isDay, isDay]
@[simp] theorem w_areTimes (n : Nat) (a b c : Int) : D (n + 3) n_fine_areTimes [ci a, ci b, ci c] = some [cb (areTimes a b c)] := by
  rw [q_fine_areTimes]; simp [R_fine_areTimes, areTimes, retO_ite]
@[simp] theorem w_isUntil (n : Nat) (b c : Int) : D (n + 2) n_r06_isUntil [ci b, ci c] = some [cb (isDay b && (c == 0 || decide (b < c) && decide (c ≤ 100000)))] := by
  rw [q_r06_isUntil]; simp [R_r06_isUntil, isDay, retO_ite]
@[simp] theorem w_counts (n : Nat) (a b c : Int) : D (n + 1) n_fine_counts [ci a, ci b, ci c] = some [cb (counts a b c)] := by
  rw [q_fine_counts]; simp [R_fine_counts, counts, retO_ite]
@[simp] theorem w_counts' (n : Nat) (a b c : Int) : D (n + 1) n_r06_counts [ci a, ci b, ci c] = some [cb (counts a b c)] := by
  rw [q_r06_counts]; simp [R_r06_counts, counts, retO_ite]
@[simp] theorem w_isRow_c1 (n : Nat) (a : Int) : D (n + 2) n_fine_isRow_c1 [ci a] = some [cb (!within a 0 10000)] := by
  rw [q_fine_isRow_c1]; simp [R_fine_isRow_c1]
@[simp] theorem w_check_c1 (n : Nat) (a : Int) : D (n + 3) n_fine_check_c1 [ci a] = some [cb (!isDay a)] := by
  rw [q_fine_check_c1]; simp [R_fine_check_c1]
@[simp] theorem w_isNaN (n : Nat) (a : Int) : D (n + 1) n_cmp_isNaN_int [ci a] = some [cb false] := by
  rw [q_cmp_isNaN_int]; simp [R_cmp_isNaN_int]
@[simp] theorem w_Compare (n : Nat) (a b : Int) : D (n + 2) n_cmp_Compare_int [ci a, ci b] = some [ci (if a < b then -1 else if a > b then 1 else 0)] := by
  rw [q_cmp_Compare_int]; simp [R_cmp_Compare_int]
@[simp] theorem w_days (n : Nat) (a b : Int) : D (n + 1) n_fine_days [ci a, ci b] = some [.fn n_fine_days_c1 [.ref [ci a], .ref [ci b]]] := by
  rw [q_fine_days]; simp [R_fine_days]
end Go.Proofs.YtabhbdehbpmpkaaGreat
namespace Go.Proofs.YtabhbdehbpmpkaaGreat
open Go Go.Sx Go.Fine
set_option maxRecDepth 10000
attribute [local simp] Bool.and_assoc Bool.or_assoc
@[simp] theorem w_CheckHeld (n : Nat) (s : Held) : D (n + 4) n_fine_CheckHeld [ci s.src, ci s.beast, ci s.sort, ci s.eats, ci s.worth, ci s.drv, ci s.day, ci s.known, ci s.til] = some [ci (if s.ok = true then 0 else 61)] := by
  rw [q_fine_CheckHeld]; simp [R_fine_CheckHeld, Held.ok]; grind
@[simp] theorem w_CheckHeld' (n : Nat) (s : Held) : D (n + 3) n_r06_CheckHeld [ci s.src, ci s.beast, ci s.sort, ci s.eats, ci s.worth, ci s.drv, ci s.day, ci s.known, ci s.til] = some [ci (if s.ok = true then 0 else 61)] := by
  rw [q_r06_CheckHeld]; simp [R_r06_CheckHeld, Held.ok, areTimes, isDay]; grind
@[simp] theorem w_CheckNote (n : Nat) (s : Note) : D (n + 4) n_fine_CheckNote [ci s.src, ci s.stay, ci s.kind, ci s.owner, ci s.day, ci s.known, ci s.til] = some [ci (if s.ok = true then 0 else 62)] := by
  rw [q_fine_CheckNote]; simp [R_fine_CheckNote, Note.ok]; grind
@[simp] theorem w_CheckNote' (n : Nat) (s : Note) : D (n + 3) n_r06_CheckNote [ci s.src, ci s.stay, ci s.kind, ci s.owner, ci s.day, ci s.known, ci s.til] = some [ci (if s.ok = true then 0 else 62)] := by
  rw [q_r06_CheckNote]; simp [R_r06_CheckNote, Note.ok, areTimes, isDay]; grind
theorem w_IndexFunc_int (n : Nat) (l : List Int) (f : CV) (p : Int → Bool) (hl : l.length < 9223372036854775807) (hf : ∀ x ∈ l, callV sg (D n) f [ci x] [.one li] [.one lb] = some [cb (p x)]) :
    D (n + 1) n_slices_IndexFunc_int [.row 1 (ints l), f] = some [ci (match (List.range l.length).find? (fun i => p (l.getD i 0)) with | some i => (i : Int) | none => -1)] := by
  have hg : ∀ i (h : i < l.length), l.getD i 0 = l[i] := fun i h => by simp [h]
  have hf' : ∀ i (h : i < l.length), callV sg (D n) f [ci l[i]] [.one li] [.one lb] = some [cb (p l[i])] := fun i h => hf _ (List.getElem_mem h)
  rw [q_slices_IndexFunc_int]
  unfold R_slices_IndexFunc_int
  rw [loop_find l.length (fun i => [ci (i : Int)]) (fun i => p (l.getD i 0)) (fun i => some (.ret [ci (i : Int)])) (some (.br 0 [])) ?hv ?hR ?hX
    (fun i hi hp => ?h1) (fun i hi hp => ?h2) ?h3]
  case hv => rfl
  case hR => simp
  case hX => simp
  case h3 => simp [ints]
  case h1 =>
    rw [hg i hi] at hp
    simp [ints, hi, hp, inb_map, el_map, hf', wr_nat (show i < 9223372036854775807 by omega)]
  case h2 =>
    rw [hg i hi] at hp
    simp [ints, hi, hp, inb_map, el_map, hf']
  · cases (List.range l.length).find? fun i => p (l.getD i 0) <;> simp
theorem find_any {l : List Int} {p : Int → Bool} : (∃ i, (List.range l.length).find? (fun i => p (l.getD i 0)) = some i) ↔ l.any p = true := by
  constructor
  · rintro ⟨i, hi⟩
    have h1 := List.find?_some hi
    have h2 := List.mem_of_find?_eq_some hi
    rw [List.mem_range] at h2
    simp only [List.any_eq_true]
    exact ⟨l[i], List.getElem_mem h2, by simpa [h2] using h1⟩
  · intro h
    obtain ⟨x, hx, hp⟩ := List.any_eq_true.1 h
    obtain ⟨i, hi, rfl⟩ := List.mem_iff_getElem.1 hx
    cases hf : (List.range l.length).find? (fun i => p (l.getD i 0)) with
    | some j => exact ⟨j, rfl⟩
    | none =>
      rw [List.find?_eq_none] at hf
      have := hf i (by simpa using hi)
      simp [hi, hp] at this
theorem w_ContainsFunc_int (n : Nat) (l : List Int) (f : CV) (p : Int → Bool) (hl : l.length < 9223372036854775807) (hf : ∀ x ∈ l, callV sg (D n) f [ci x] [.one li] [.one lb] = some [cb (p x)]) :
    D (n + 2) n_slices_ContainsFunc_int [.row 1 (ints l), f] = some [cb (l.any p)] := by
  rw [q_slices_ContainsFunc_int]
  simp only [R_slices_ContainsFunc_int, w_IndexFunc_int n l f p hl hf]
  have key := @find_any l p
  cases hh : (List.range l.length).find? (fun i => p (l.getD i 0)) with
  | some i => simp [key.1 ⟨i, hh⟩]
  | none =>
    have : l.any p = false := by
      cases hc : l.any p with
      | false => rfl
      | true => obtain ⟨i, hi⟩ := key.2 hc; rw [hh] at hi; cases hi
    simp [this]
theorem w_isRow (n : Nat) (a0 a1 a2 a3 a4 a5 a6 a7 a8 a9 : Int) : D (n + 5) n_fine_isRow [ci a0, ci a1, ci a2, ci a3, ci a4, ci a5, ci a6, ci a7, ci a8, ci a9] = some [cb (rowOk [a0, a1, a2, a3, a4, a5, a6, a7, a8, a9])] := by
  rw [q_fine_isRow]
  have := w_ContainsFunc_int (n + 2) [a0, a1, a2, a3, a4, a5, a6, a7, a8, a9] (.fn n_fine_isRow_c1 []) (fun x => !within x 0 10000) (by simp) (fun x _ => by rw [v_isRow_c1]; simp)
  simp only [ints, List.map_cons, List.map_nil] at this
  simp [R_fine_isRow, this, retO_ite, rowOk, List.all_cons]
attribute [simp] w_isRow
@[simp] theorem w_CheckTariff (n : Nat) (t : Tariff) : D (n + 6) n_fine_CheckTariff [ci t.frm, ci t.h0, ci t.h1, ci t.h2, ci t.h3, ci t.h4, ci t.h5, ci t.h6, ci t.h7, ci t.h8, ci t.h9, ci t.d0, ci t.d1, ci t.d2, ci t.d3, ci t.d4, ci t.d5, ci t.d6, ci t.d7, ci t.d8, ci t.d9, ci t.feed, ci t.hay, ci t.drv] = some [ci (if t.ok = true then 0 else 60)] := by
  rw [q_fine_CheckTariff]
  by_cases hw : within t.hay 0 60 = true ∧ within t.drv 0 60 = true
  · have e : wr (t.hay + t.drv) = t.hay + t.drv := by
      simp only [within, Bool.and_eq_true, decide_eq_true_eq] at hw
      rw [wr_of (by omega) (by omega)]
    simp [R_fine_CheckTariff, Tariff.ok, Tariff.hs, Tariff.ds, hw, e]; grind
  · simp [R_fine_CheckTariff, Tariff.ok, Tariff.hs, Tariff.ds]; grind
@[simp] theorem w_areRates (n : Nat) (a0 a1 a2 a3 a4 a5 a6 a7 a8 a9 : Int) : D (n + 2) n_r06_areRates [ci a0, ci a1, ci a2, ci a3, ci a4, ci a5, ci a6, ci a7, ci a8, ci a9] = some [cb (rowOk [a0, a1, a2, a3, a4, a5, a6, a7, a8, a9])] := by
  rw [q_r06_areRates]
  unfold R_r06_areRates
  obtain ⟨l, hl⟩ : ∃ l, l = [a0, a1, a2, a3, a4, a5, a6, a7, a8, a9] := ⟨_, rfl⟩
  have hc : [ci a0, ci a1, ci a2, ci a3, ci a4, ci a5, ci a6, ci a7, ci a8, ci a9] = l.map ci := by rw [hl]; rfl
  have hn : l.length = 10 := by rw [hl]; rfl
  have hg : ∀ (i : Nat) (h : i < 10), gi (l.map ci) i = l[i] := fun i h => by simp [gi, hn, h]
  have ho : ∀ (i : Nat) (h : i < 10), oks [li] (l.map ci) i = true := fun i h => oks_int1 (by simp [intsFrom, ok_ci]) (by simp [hn, h])
  rw [hc, ← hl]
  rw [loop_find 10 (fun i => [ci (i : Int)]) (fun i => !within (l.getD i 0) 0 10000) (fun i => some (.ret [cb false])) (some (.br 0 [])) ?hv ?hR ?hX
    (fun i hi hp => ?h1) (fun i hi hp => ?h2) ?h3]
  case hv => rfl
  case hR => simp
  case hX => simp
  case h3 => simp
  case h1 =>
    have hp' : within l[i] 0 10000 = true := by simpa [hn, hi] using hp
    have hi' : (i : Int) < 10 := by omega
    simp [hi, hi', hg, ho, hp', wr_nat (show i < 9223372036854775807 by omega)]
  case h2 =>
    have hp' : within l[i] 0 10000 = false := by simpa [hn, hi] using hp
    have hi' : (i : Int) < 10 := by omega
    simp [hi, hi', hg, ho, hp']
  · rw [← hn]
    have key := @find_any l (fun x => !within x 0 10000)
    have hh0 : l.head?.getD 1 = a0 := by rw [hl]; rfl
    cases hh : (List.range l.length).find? (fun i => !within (l.getD i 0) 0 10000) with
    | some i =>
      have h1 := key.1 ⟨i, hh⟩
      have : l.all (fun x => within x 0 10000) = false := by
        rw [← Bool.not_eq_true, List.all_eq_true]; intro hc
        obtain ⟨x, hx, hp⟩ := List.any_eq_true.1 h1
        rw [hc x hx] at hp; cases hp
      simp [rowOk, this]
    | none =>
      have : l.all (fun x => within x 0 10000) = true := by
        rw [List.all_eq_true]; intro x hx
        cases hc : within x 0 10000 with
        | true => rfl
        | false =>
          obtain ⟨i, hi⟩ := key.2 (List.any_eq_true.2 ⟨x, hx, by simp [hc]⟩)
          exact absurd (hi.symm.trans hh) (by simp)
      simp [rowOk, this, hh0]
@[simp] theorem w_CheckTariff' (n : Nat) (t : Tariff) : D (n + 3) n_r06_CheckTariff [ci t.frm, ci t.h0, ci t.h1, ci t.h2, ci t.h3, ci t.h4, ci t.h5, ci t.h6, ci t.h7, ci t.h8, ci t.h9, ci t.d0, ci t.d1, ci t.d2, ci t.d3, ci t.d4, ci t.d5, ci t.d6, ci t.d7, ci t.d8, ci t.d9, ci t.feed, ci t.hay, ci t.drv] = some [ci (if t.ok = true then 0 else 60)] := by
  rw [q_r06_CheckTariff]
  by_cases hw : within t.hay 0 60 = true ∧ within t.drv 0 60 = true
  · have e : wr (t.hay + t.drv) = t.hay + t.drv := by
      simp only [within, Bool.and_eq_true, decide_eq_true_eq] at hw
      rw [wr_of (by omega) (by omega)]
    simp [R_r06_CheckTariff, Tariff.ok, Tariff.hs, Tariff.ds, isDay, hw, e]; grind
  · simp [R_r06_CheckTariff, Tariff.ok, Tariff.hs, Tariff.ds, isDay]; grind
end Go.Proofs.YtabhbdehbpmpkaaGreat
namespace Go.Proofs.YtabhbdehbpmpkaaGreat
open Go Go.Sx Go.Fine
set_option maxRecDepth 10000
attribute [local simp] Bool.and_assoc Bool.or_assoc
theorem rising_iff : ∀ {l : List Int}, rising l = true ↔ ∀ i (h : i + 1 < l.length), l[i] < l[i + 1]
  | [] => by simp [rising]
  | [x] => by simp [rising]
  | x :: y :: l => by
    have ih := @rising_iff (y :: l)
    rw [rising, Bool.and_eq_true, ih]
    simp only [decide_eq_true_eq]
    constructor
    · rintro ⟨h1, h2⟩ i hi
      cases i with
      | zero => simpa using h1
      | succ i => exact h2 i (by simpa using hi)
    · intro h
      exact ⟨by simpa using h 0 (by simp), fun i hi => h (i + 1) (by simpa using hi)⟩
def bad {A : Type} (ok : A → Bool) (num : A → Int) (l : List A) (i : Nat) : Bool := match l[i]? with
  | some x => !ok x || (decide (0 < i) && match l[i - 1]? with
    | some y => decide (num x ≤ num y)
    | none => false)
  | none => false
theorem bad_none {A : Type} (ok : A → Bool) (num : A → Int) (l : List A) : ((List.range l.length).find? (bad ok num l)).isNone = (l.all ok && rising (l.map num)) := by
  rw [Bool.eq_iff_iff, Option.isNone_iff_eq_none, List.find?_eq_none, Bool.and_eq_true, List.all_eq_true, rising_iff]
  simp only [List.mem_range, List.length_map, List.getElem_map]
  constructor
  · intro h
    refine ⟨fun x hx => ?_, fun i hi => ?_⟩
    · obtain ⟨i, hi, rfl⟩ := List.mem_iff_getElem.1 hx
      have := h i hi
      simp only [bad, List.getElem?_eq_getElem hi] at this
      simp only [Bool.or_eq_true, not_or, Bool.not_eq_true', Bool.not_eq_false] at this
      exact this.1
    · have := h (i + 1) hi
      simp only [bad, List.getElem?_eq_getElem hi, Nat.add_sub_cancel, List.getElem?_eq_getElem (show i < l.length by omega)] at this
      simp only [Bool.or_eq_true, not_or, Bool.and_eq_true, decide_eq_true_eq, Nat.zero_lt_succ, true_and] at this
      omega
  · rintro ⟨h1, h2⟩ i hi
    simp only [bad, List.getElem?_eq_getElem hi, h1 _ (List.getElem_mem hi), Bool.not_true, Bool.false_or, Bool.and_eq_true, decide_eq_true_eq, not_and]
    intro h0
    rw [List.getElem?_eq_getElem (show i - 1 < l.length by omega)]
    have := h2 (i - 1) (by omega)
    simp only [Nat.sub_add_cancel h0] at this
    simp only [decide_eq_true_eq]
    omega
theorem v_Tariff (M : Den) (t : Tariff) : callV sg M (.fn n_fine_CheckTariff []) [ci t.frm, ci t.h0, ci t.h1, ci t.h2, ci t.h3, ci t.h4, ci t.h5, ci t.h6, ci t.h7, ci t.h8, ci t.h9, ci t.d0, ci t.d1, ci t.d2, ci t.d3, ci t.d4, ci t.d5, ci t.d6, ci t.d7, ci t.d8, ci t.d9, ci t.feed, ci t.hay, ci t.drv] [.agg [li, li, li, li, li, li, li, li, li, li, li, li, li, li, li, li, li, li, li, li, li, li, li, li]] [.one li] = M n_fine_CheckTariff [ci t.frm, ci t.h0, ci t.h1, ci t.h2, ci t.h3, ci t.h4, ci t.h5, ci t.h6, ci t.h7, ci t.h8, ci t.h9, ci t.d0, ci t.d1, ci t.d2, ci t.d3, ci t.d4, ci t.d5, ci t.d6, ci t.d7, ci t.d8, ci t.d9, ci t.feed, ci t.hay, ci t.drv] := rfl
theorem v_num_Tariff (M : Den) (t : Tariff) : callV sg M (.fn n_fine_Check_c1 []) [ci t.frm, ci t.h0, ci t.h1, ci t.h2, ci t.h3, ci t.h4, ci t.h5, ci t.h6, ci t.h7, ci t.h8, ci t.h9, ci t.d0, ci t.d1, ci t.d2, ci t.d3, ci t.d4, ci t.d5, ci t.d6, ci t.d7, ci t.d8, ci t.d9, ci t.feed, ci t.hay, ci t.drv] [.agg [li, li, li, li, li, li, li, li, li, li, li, li, li, li, li, li, li, li, li, li, li, li, li, li]] [.one li] = M n_fine_Check_c1 [ci t.frm, ci t.h0, ci t.h1, ci t.h2, ci t.h3, ci t.h4, ci t.h5, ci t.h6, ci t.h7, ci t.h8, ci t.h9, ci t.d0, ci t.d1, ci t.d2, ci t.d3, ci t.d4, ci t.d5, ci t.d6, ci t.d7, ci t.d8, ci t.d9, ci t.feed, ci t.hay, ci t.drv] := rfl
@[simp] theorem w_num_Tariff (n : Nat) (t : Tariff) : D (n + 1) n_fine_Check_c1 [ci t.frm, ci t.h0, ci t.h1, ci t.h2, ci t.h3, ci t.h4, ci t.h5, ci t.h6, ci t.h7, ci t.h8, ci t.h9, ci t.d0, ci t.d1, ci t.d2, ci t.d3, ci t.d4, ci t.d5, ci t.d6, ci t.d7, ci t.d8, ci t.d9, ci t.feed, ci t.hay, ci t.drv] = some [ci t.frm] := by
  rw [q_fine_Check_c1]; simp [R_fine_Check_c1]
@[simp] theorem w_areRising_Tariff (n : Nat) (l : List Tariff) (most : Int) (hl : l.length < 100000000000000) : D (n + 7) n_fine_areRising_Tariff [.row 24 (l.map Tariff.cv), ci most, .fn n_fine_CheckTariff [], .fn n_fine_Check_c1 []] = some [cb (l.all Tariff.ok && rising (l.map Tariff.frm) && decide ((l.length : Int) ≤ most))] := by
  rw [q_fine_areRising_Tariff]
  unfold R_fine_areRising_Tariff
  rw [loop_find l.length (fun i => [ci (i : Int)]) (bad Tariff.ok Tariff.frm l) (fun i => some (.ret [cb false])) (some (.br 0 [])) ?hv ?hR ?hX
    (fun i hi hp => ?h1) (fun i hi hp => ?h2) ?h3]
  case hv => rfl
  case hR => simp
  case hX => simp
  case h3 => simp
  case h1 =>
    have hw := wr_nat (show i < 9223372036854775807 by omega)
    by_cases h0 : i = 0
    · subst h0
      simp [bad, hi] at hp
      have hw1 : wr 1 = 1 := by decide
      simp [hi, inb_map0, el_map0, Tariff.cv, v_Tariff, hp, hw1]
    · have h0' : 0 < i := by omega
      have hj : i - 1 < l.length := by omega
      have hwj := wr_pred h0' (show i < 9223372036854775807 by omega)
      simp only [bad, List.getElem?_eq_getElem hi, List.getElem?_eq_getElem hj, h0', decide_true, Bool.true_and, Bool.or_eq_false_iff, Bool.not_eq_false', decide_eq_false_iff_not] at hp
      simp [hi, hj, inb_map, el_map, Tariff.cv, v_Tariff, v_num_Tariff, hp, hw, hwj, h0']
  case h2 =>
    by_cases h0 : i = 0
    · subst h0
      simp [bad, hi] at hp
      simp [hi, inb_map0, el_map0, Tariff.cv, v_Tariff, hp]
    · have h0' : 0 < i := by omega
      have hj : i - 1 < l.length := by omega
      have hwj := wr_pred h0' (show i < 9223372036854775807 by omega)
      simp only [bad, List.getElem?_eq_getElem hi, List.getElem?_eq_getElem hj, h0', decide_true, Bool.true_and, Bool.or_eq_true, Bool.not_eq_true', decide_eq_true_eq] at hp
      cases hk : l[i].ok with
      | false => simp [hi, hj, inb_map, el_map, Tariff.cv, v_Tariff, v_num_Tariff, hk, hwj, h0']
      | true =>
        have hp' : l[i].frm ≤ l[i - 1].frm := by simpa [hk] using hp
        simp [hi, hj, inb_map, el_map, Tariff.cv, v_Tariff, v_num_Tariff, hk, hp', hwj, h0']
  · rw [← bad_none Tariff.ok Tariff.frm l]
    cases (List.range l.length).find? (bad Tariff.ok Tariff.frm l) <;> simp
theorem v_Held (M : Den) (t : Held) : callV sg M (.fn n_fine_CheckHeld []) [ci t.src, ci t.beast, ci t.sort, ci t.eats, ci t.worth, ci t.drv, ci t.day, ci t.known, ci t.til] [.agg [li, li, li, li, li, li, li, li, li]] [.one li] = M n_fine_CheckHeld [ci t.src, ci t.beast, ci t.sort, ci t.eats, ci t.worth, ci t.drv, ci t.day, ci t.known, ci t.til] := rfl
theorem v_num_Held (M : Den) (t : Held) : callV sg M (.fn n_fine_heldOf []) [ci t.src, ci t.beast, ci t.sort, ci t.eats, ci t.worth, ci t.drv, ci t.day, ci t.known, ci t.til] [.agg [li, li, li, li, li, li, li, li, li]] [.one li] = M n_fine_heldOf [ci t.src, ci t.beast, ci t.sort, ci t.eats, ci t.worth, ci t.drv, ci t.day, ci t.known, ci t.til] := rfl
@[simp] theorem w_num_Held (n : Nat) (t : Held) : D (n + 1) n_fine_heldOf [ci t.src, ci t.beast, ci t.sort, ci t.eats, ci t.worth, ci t.drv, ci t.day, ci t.known, ci t.til] = some [ci t.src] := by
  rw [q_fine_heldOf]; simp [R_fine_heldOf]
@[simp] theorem w_areRising_Held (n : Nat) (l : List Held) (most : Int) (hl : l.length < 100000000000000) : D (n + 7) n_fine_areRising_Held [.row 9 (l.map Held.cv), ci most, .fn n_fine_CheckHeld [], .fn n_fine_heldOf []] = some [cb (l.all Held.ok && rising (l.map Held.src) && decide ((l.length : Int) ≤ most))] := by
  rw [q_fine_areRising_Held]
  unfold R_fine_areRising_Held
  rw [loop_find l.length (fun i => [ci (i : Int)]) (bad Held.ok Held.src l) (fun i => some (.ret [cb false])) (some (.br 0 [])) ?hv ?hR ?hX
    (fun i hi hp => ?h1) (fun i hi hp => ?h2) ?h3]
  case hv => rfl
  case hR => simp
  case hX => simp
  case h3 => simp
  case h1 =>
    have hw := wr_nat (show i < 9223372036854775807 by omega)
    by_cases h0 : i = 0
    · subst h0
      simp [bad, hi] at hp
      have hw1 : wr 1 = 1 := by decide
      simp [hi, inb_map0, el_map0, Held.cv, v_Held, hp, hw1]
    · have h0' : 0 < i := by omega
      have hj : i - 1 < l.length := by omega
      have hwj := wr_pred h0' (show i < 9223372036854775807 by omega)
      simp only [bad, List.getElem?_eq_getElem hi, List.getElem?_eq_getElem hj, h0', decide_true, Bool.true_and, Bool.or_eq_false_iff, Bool.not_eq_false', decide_eq_false_iff_not] at hp
      simp [hi, hj, inb_map, el_map, Held.cv, v_Held, v_num_Held, hp, hw, hwj, h0']
  case h2 =>
    by_cases h0 : i = 0
    · subst h0
      simp [bad, hi] at hp
      simp [hi, inb_map0, el_map0, Held.cv, v_Held, hp]
    · have h0' : 0 < i := by omega
      have hj : i - 1 < l.length := by omega
      have hwj := wr_pred h0' (show i < 9223372036854775807 by omega)
      simp only [bad, List.getElem?_eq_getElem hi, List.getElem?_eq_getElem hj, h0', decide_true, Bool.true_and, Bool.or_eq_true, Bool.not_eq_true', decide_eq_true_eq] at hp
      cases hk : l[i].ok with
      | false => simp [hi, hj, inb_map, el_map, Held.cv, v_Held, v_num_Held, hk, hwj, h0']
      | true =>
        have hp' : l[i].src ≤ l[i - 1].src := by simpa [hk] using hp
        simp [hi, hj, inb_map, el_map, Held.cv, v_Held, v_num_Held, hk, hp', hwj, h0']
  · rw [← bad_none Held.ok Held.src l]
    cases (List.range l.length).find? (bad Held.ok Held.src l) <;> simp
theorem v_Note (M : Den) (t : Note) : callV sg M (.fn n_fine_CheckNote []) [ci t.src, ci t.stay, ci t.kind, ci t.owner, ci t.day, ci t.known, ci t.til] [.agg [li, li, li, li, li, li, li]] [.one li] = M n_fine_CheckNote [ci t.src, ci t.stay, ci t.kind, ci t.owner, ci t.day, ci t.known, ci t.til] := rfl
theorem v_num_Note (M : Den) (t : Note) : callV sg M (.fn n_fine_noteOf []) [ci t.src, ci t.stay, ci t.kind, ci t.owner, ci t.day, ci t.known, ci t.til] [.agg [li, li, li, li, li, li, li]] [.one li] = M n_fine_noteOf [ci t.src, ci t.stay, ci t.kind, ci t.owner, ci t.day, ci t.known, ci t.til] := rfl
@[simp] theorem w_num_Note (n : Nat) (t : Note) : D (n + 1) n_fine_noteOf [ci t.src, ci t.stay, ci t.kind, ci t.owner, ci t.day, ci t.known, ci t.til] = some [ci t.src] := by
  rw [q_fine_noteOf]; simp [R_fine_noteOf]
@[simp] theorem w_areRising_Note (n : Nat) (l : List Note) (most : Int) (hl : l.length < 100000000000000) : D (n + 7) n_fine_areRising_Note [.row 7 (l.map Note.cv), ci most, .fn n_fine_CheckNote [], .fn n_fine_noteOf []] = some [cb (l.all Note.ok && rising (l.map Note.src) && decide ((l.length : Int) ≤ most))] := by
  rw [q_fine_areRising_Note]
  unfold R_fine_areRising_Note
  rw [loop_find l.length (fun i => [ci (i : Int)]) (bad Note.ok Note.src l) (fun i => some (.ret [cb false])) (some (.br 0 [])) ?hv ?hR ?hX
    (fun i hi hp => ?h1) (fun i hi hp => ?h2) ?h3]
  case hv => rfl
  case hR => simp
  case hX => simp
  case h3 => simp
  case h1 =>
    have hw := wr_nat (show i < 9223372036854775807 by omega)
    by_cases h0 : i = 0
    · subst h0
      simp [bad, hi] at hp
      have hw1 : wr 1 = 1 := by decide
      simp [hi, inb_map0, el_map0, Note.cv, v_Note, hp, hw1]
    · have h0' : 0 < i := by omega
      have hj : i - 1 < l.length := by omega
      have hwj := wr_pred h0' (show i < 9223372036854775807 by omega)
      simp only [bad, List.getElem?_eq_getElem hi, List.getElem?_eq_getElem hj, h0', decide_true, Bool.true_and, Bool.or_eq_false_iff, Bool.not_eq_false', decide_eq_false_iff_not] at hp
      simp [hi, hj, inb_map, el_map, Note.cv, v_Note, v_num_Note, hp, hw, hwj, h0']
  case h2 =>
    by_cases h0 : i = 0
    · subst h0
      simp [bad, hi] at hp
      simp [hi, inb_map0, el_map0, Note.cv, v_Note, hp]
    · have h0' : 0 < i := by omega
      have hj : i - 1 < l.length := by omega
      have hwj := wr_pred h0' (show i < 9223372036854775807 by omega)
      simp only [bad, List.getElem?_eq_getElem hi, List.getElem?_eq_getElem hj, h0', decide_true, Bool.true_and, Bool.or_eq_true, Bool.not_eq_true', decide_eq_true_eq] at hp
      cases hk : l[i].ok with
      | false => simp [hi, hj, inb_map, el_map, Note.cv, v_Note, v_num_Note, hk, hwj, h0']
      | true =>
        have hp' : l[i].src ≤ l[i - 1].src := by simpa [hk] using hp
        simp [hi, hj, inb_map, el_map, Note.cv, v_Note, v_num_Note, hk, hp', hwj, h0']
  · rw [← bad_none Note.ok Note.src l]
    cases (List.range l.length).find? (bad Note.ok Note.src l) <;> simp
end Go.Proofs.YtabhbdehbpmpkaaGreat
namespace Go.Proofs.YtabhbdehbpmpkaaGreat
open Go Go.Sx Go.Fine
set_option maxRecDepth 10000
attribute [local simp] Bool.and_assoc Bool.or_assoc
@[simp] theorem w_Check (n : Nat) (p : Acc) (hp : p.fits) : D (n + 8) n_fine_Check [.row 24 (p.ts.map Tariff.cv), .row 9 (p.ss.map Held.cv), .row 7 (p.ns.map Note.cv)] = some [ci (check p)] := by
  rw [q_fine_Check]
  obtain ⟨h1, h2, h3⟩ := hp
  have e1 : ((p.ts.length : Int) ≤ 8) = (p.ts.length ≤ 8) := by apply propext; omega
  have e2 : ((p.ss.length : Int) ≤ 60) = (p.ss.length ≤ 60) := by apply propext; omega
  have e3 : ((p.ns.length : Int) ≤ 60) = (p.ns.length ≤ 60) := by apply propext; omega
  simp [R_fine_Check, h1, h2, h3, check, Acc.ok, listOk, e1, e2, e3]; grind
theorem ck_Tariff (n : Nat) (l : List Tariff) (hl : l.length < 100000000000000) (K : List CV → Option Ou) : blkO 0 (loopD (fun v =>
          iteB (decide ((gi v 0) < (il (l.map Tariff.cv))))
            (seqO (chk (inb (gi v 0) (l.map Tariff.cv)) <|
              chk (oks (List.replicate 24 li) (el (l.map Tariff.cv) (gi v 0)) 0) <|
              callO (D (n + 3) n_r06_CheckTariff (cis (el (l.map Tariff.cv) (gi v 0)) 0 24)) fun v2 =>
              iteB ((gi v2 0) != 0)
                (some (.nx [cb true]))
                (iteB (decide ((gi v 0) > 0))
                  (chk (inb (wr ((gi v 0) - 1)) (l.map Tariff.cv)) <|
                  chk (oks [li] (List.drop 0 (el (l.map Tariff.cv) (wr ((gi v 0) - 1)))) 0) <|
                  chk (inb (gi v 0) (l.map Tariff.cv)) <|
                  chk (oks [li] (List.drop 0 (el (l.map Tariff.cv) (gi v 0))) 0) <|
                  some (.nx [cb (decide ((gi (List.drop 0 (el (l.map Tariff.cv) (wr ((gi v 0) - 1)))) 0) ≥ (gi (List.drop 0 (el (l.map Tariff.cv) (gi v 0))) 0)))]))
                  (some (.nx [cb false])))) fun v2 =>
            iteB (gb v2 0)
              (some (.ret [ci 63]))
              (some (.nx [ci (wr ((gi v 0) + 1))])))
            (some (.br 0 []))) [ci 0]) K = if (l.all Tariff.ok && rising (l.map Tariff.frm)) = true then K [] else some (.ret [ci 63]) := by
  rw [loop_find l.length (fun i => [ci (i : Int)]) (bad Tariff.ok Tariff.frm l) (fun i => some (.ret [ci 63])) (some (.br 0 [])) ?hv ?hR ?hX
    (fun i hi hp => ?h1) (fun i hi hp => ?h2) ?h3]
  case hv => rfl
  case hR => simp
  case hX => simp
  case h3 => simp
  case h1 =>
    have hw := wr_nat (show i < 9223372036854775807 by omega)
    by_cases h0 : i = 0
    · subst h0
      simp [bad, hi] at hp
      have hw1 : wr 1 = 1 := by decide
      simp [hi, inb_map0, el_map0, Tariff.cv, hp, hw1]
    · have h0' : 0 < i := by omega
      have hj : i - 1 < l.length := by omega
      have hwj := wr_pred h0' (show i < 9223372036854775807 by omega)
      simp only [bad, List.getElem?_eq_getElem hi, List.getElem?_eq_getElem hj, h0', decide_true, Bool.true_and, Bool.or_eq_false_iff, Bool.not_eq_false', decide_eq_false_iff_not] at hp
      simp [hi, hj, inb_map, el_map, Tariff.cv, hp, hw, hwj, h0']
  case h2 =>
    by_cases h0 : i = 0
    · subst h0
      simp [bad, hi] at hp
      simp [hi, inb_map0, el_map0, Tariff.cv, hp]
    · have h0' : 0 < i := by omega
      have hj : i - 1 < l.length := by omega
      have hwj := wr_pred h0' (show i < 9223372036854775807 by omega)
      simp only [bad, List.getElem?_eq_getElem hi, List.getElem?_eq_getElem hj, h0', decide_true, Bool.true_and, Bool.or_eq_true, Bool.not_eq_true', decide_eq_true_eq] at hp
      cases hk : l[i].ok with
      | false => simp [hi, hj, inb_map, el_map, Tariff.cv, hk, hwj, h0']
      | true =>
        have hp' : l[i].frm ≤ l[i - 1].frm := by simpa [hk] using hp
        simp [hi, hj, inb_map, el_map, Tariff.cv, hk, hp', hwj, h0']
  · rw [← bad_none Tariff.ok Tariff.frm l]
    cases (List.range l.length).find? (bad Tariff.ok Tariff.frm l) <;> simp
theorem ck_Held (n : Nat) (l : List Held) (hl : l.length < 100000000000000) (K : List CV → Option Ou) : blkO 2 (loopD (fun v =>
          iteB (decide ((gi v 0) < (il (l.map Held.cv))))
            (seqO (chk (inb (gi v 0) (l.map Held.cv)) <|
              chk (oks (List.replicate 9 li) (el (l.map Held.cv) (gi v 0)) 0) <|
              callO (D (n + 3) n_r06_CheckHeld (cis (el (l.map Held.cv) (gi v 0)) 0 9)) fun v2 =>
              iteB ((gi v2 0) != 0)
                (some (.nx [cb true]))
                (iteB (decide ((gi v 0) > 0))
                  (chk (inb (wr ((gi v 0) - 1)) (l.map Held.cv)) <|
                  chk (oks [li] (List.drop 0 (el (l.map Held.cv) (wr ((gi v 0) - 1)))) 0) <|
                  chk (inb (gi v 0) (l.map Held.cv)) <|
                  chk (oks [li] (List.drop 0 (el (l.map Held.cv) (gi v 0))) 0) <|
                  some (.nx [cb (decide ((gi (List.drop 0 (el (l.map Held.cv) (wr ((gi v 0) - 1)))) 0) ≥ (gi (List.drop 0 (el (l.map Held.cv) (gi v 0))) 0)))]))
                  (some (.nx [cb false])))) fun v2 =>
            iteB (gb v2 0)
              (some (.ret [ci 63]))
              (some (.nx [ci (wr ((gi v 0) + 1))])))
            (some (.br 2 []))) [ci 0]) K = if (l.all Held.ok && rising (l.map Held.src)) = true then K [] else some (.ret [ci 63]) := by
  rw [loop_find l.length (fun i => [ci (i : Int)]) (bad Held.ok Held.src l) (fun i => some (.ret [ci 63])) (some (.br 2 [])) ?hv ?hR ?hX
    (fun i hi hp => ?h1) (fun i hi hp => ?h2) ?h3]
  case hv => rfl
  case hR => simp
  case hX => simp
  case h3 => simp
  case h1 =>
    have hw := wr_nat (show i < 9223372036854775807 by omega)
    by_cases h0 : i = 0
    · subst h0
      simp [bad, hi] at hp
      have hw1 : wr 1 = 1 := by decide
      simp [hi, inb_map0, el_map0, Held.cv, hp, hw1]
    · have h0' : 0 < i := by omega
      have hj : i - 1 < l.length := by omega
      have hwj := wr_pred h0' (show i < 9223372036854775807 by omega)
      simp only [bad, List.getElem?_eq_getElem hi, List.getElem?_eq_getElem hj, h0', decide_true, Bool.true_and, Bool.or_eq_false_iff, Bool.not_eq_false', decide_eq_false_iff_not] at hp
      simp [hi, hj, inb_map, el_map, Held.cv, hp, hw, hwj, h0']
  case h2 =>
    by_cases h0 : i = 0
    · subst h0
      simp [bad, hi] at hp
      simp [hi, inb_map0, el_map0, Held.cv, hp]
    · have h0' : 0 < i := by omega
      have hj : i - 1 < l.length := by omega
      have hwj := wr_pred h0' (show i < 9223372036854775807 by omega)
      simp only [bad, List.getElem?_eq_getElem hi, List.getElem?_eq_getElem hj, h0', decide_true, Bool.true_and, Bool.or_eq_true, Bool.not_eq_true', decide_eq_true_eq] at hp
      cases hk : l[i].ok with
      | false => simp [hi, hj, inb_map, el_map, Held.cv, hk, hwj, h0']
      | true =>
        have hp' : l[i].src ≤ l[i - 1].src := by simpa [hk] using hp
        simp [hi, hj, inb_map, el_map, Held.cv, hk, hp', hwj, h0']
  · rw [← bad_none Held.ok Held.src l]
    cases (List.range l.length).find? (bad Held.ok Held.src l) <;> simp
theorem ck_Note (n : Nat) (l : List Note) (hl : l.length < 100000000000000) (K : List CV → Option Ou) : blkO 4 (loopD (fun v =>
          iteB (decide ((gi v 0) < (il (l.map Note.cv))))
            (seqO (chk (inb (gi v 0) (l.map Note.cv)) <|
              chk (oks (List.replicate 7 li) (el (l.map Note.cv) (gi v 0)) 0) <|
              callO (D (n + 3) n_r06_CheckNote (cis (el (l.map Note.cv) (gi v 0)) 0 7)) fun v2 =>
              iteB ((gi v2 0) != 0)
                (some (.nx [cb true]))
                (iteB (decide ((gi v 0) > 0))
                  (chk (inb (wr ((gi v 0) - 1)) (l.map Note.cv)) <|
                  chk (oks [li] (List.drop 0 (el (l.map Note.cv) (wr ((gi v 0) - 1)))) 0) <|
                  chk (inb (gi v 0) (l.map Note.cv)) <|
                  chk (oks [li] (List.drop 0 (el (l.map Note.cv) (gi v 0))) 0) <|
                  some (.nx [cb (decide ((gi (List.drop 0 (el (l.map Note.cv) (wr ((gi v 0) - 1)))) 0) ≥ (gi (List.drop 0 (el (l.map Note.cv) (gi v 0))) 0)))]))
                  (some (.nx [cb false])))) fun v2 =>
            iteB (gb v2 0)
              (some (.ret [ci 63]))
              (some (.nx [ci (wr ((gi v 0) + 1))])))
            (some (.br 4 []))) [ci 0]) K = if (l.all Note.ok && rising (l.map Note.src)) = true then K [] else some (.ret [ci 63]) := by
  rw [loop_find l.length (fun i => [ci (i : Int)]) (bad Note.ok Note.src l) (fun i => some (.ret [ci 63])) (some (.br 4 [])) ?hv ?hR ?hX
    (fun i hi hp => ?h1) (fun i hi hp => ?h2) ?h3]
  case hv => rfl
  case hR => simp
  case hX => simp
  case h3 => simp
  case h1 =>
    have hw := wr_nat (show i < 9223372036854775807 by omega)
    by_cases h0 : i = 0
    · subst h0
      simp [bad, hi] at hp
      have hw1 : wr 1 = 1 := by decide
      simp [hi, inb_map0, el_map0, Note.cv, hp, hw1]
    · have h0' : 0 < i := by omega
      have hj : i - 1 < l.length := by omega
      have hwj := wr_pred h0' (show i < 9223372036854775807 by omega)
      simp only [bad, List.getElem?_eq_getElem hi, List.getElem?_eq_getElem hj, h0', decide_true, Bool.true_and, Bool.or_eq_false_iff, Bool.not_eq_false', decide_eq_false_iff_not] at hp
      simp [hi, hj, inb_map, el_map, Note.cv, hp, hw, hwj, h0']
  case h2 =>
    by_cases h0 : i = 0
    · subst h0
      simp [bad, hi] at hp
      simp [hi, inb_map0, el_map0, Note.cv, hp]
    · have h0' : 0 < i := by omega
      have hj : i - 1 < l.length := by omega
      have hwj := wr_pred h0' (show i < 9223372036854775807 by omega)
      simp only [bad, List.getElem?_eq_getElem hi, List.getElem?_eq_getElem hj, h0', decide_true, Bool.true_and, Bool.or_eq_true, Bool.not_eq_true', decide_eq_true_eq] at hp
      cases hk : l[i].ok with
      | false => simp [hi, hj, inb_map, el_map, Note.cv, hk, hwj, h0']
      | true =>
        have hp' : l[i].src ≤ l[i - 1].src := by simpa [hk] using hp
        simp [hi, hj, inb_map, el_map, Note.cv, hk, hp', hwj, h0']
  · rw [← bad_none Note.ok Note.src l]
    cases (List.range l.length).find? (bad Note.ok Note.src l) <;> simp
@[simp] theorem w_Check' (n : Nat) (p : Acc) (hp : p.fits) : D (n + 4) n_r06_Check [.row 24 (p.ts.map Tariff.cv), .row 9 (p.ss.map Held.cv), .row 7 (p.ns.map Note.cv)] = some [ci (check p)] := by
  rw [q_r06_Check]
  obtain ⟨h1, h2, h3⟩ := hp
  unfold R_r06_Check
  simp only [ck_Tariff _ _ h1, ck_Held _ _ h2, ck_Note _ _ h3]
  have e1 : ((p.ts.length : Int) > 8) = ¬ (p.ts.length ≤ 8) := by apply propext; omega
  have e2 : ((p.ss.length : Int) > 60) = ¬ (p.ss.length ≤ 60) := by apply propext; omega
  have e3 : ((p.ns.length : Int) > 60) = ¬ (p.ns.length ≤ 60) := by apply propext; omega
  simp [check, Acc.ok, listOk, e1, e2, e3, retO_ite]; grind
@[simp] theorem w_asked (n : Nat) (p : Acc) (k : Int) (hp : p.fits) : D (n + 5) n_r06_asked [.row 24 (p.ts.map Tariff.cv), .row 9 (p.ss.map Held.cv), .row 7 (p.ns.map Note.cv), ci k] = some [ci (asked p k)] := by
  rw [q_r06_asked]; simp [R_r06_asked, hp, asked, check, isDay, retO_ite]; grind
@[simp] theorem w_check (n : Nat) (p : Acc) (l : List Int) (hp : p.fits) (hl : l.length < 9223372036854775807) : D (n + 9) n_fine_check [.row 24 (p.ts.map Tariff.cv), .row 9 (p.ss.map Held.cv), .row 7 (p.ns.map Note.cv), .row 1 (ints l)] = some [ci (if p.ok then (if l.all isDay then 0 else 6) else 63)] := by
  rw [q_fine_check]
  have h1 := w_ContainsFunc_int (n + 6) l (.fn n_fine_check_c1 []) (fun x => !isDay x) hl (fun x _ => by rw [v_check_c1]; simp)
  have h2 : l.any (fun x => !isDay x) = !l.all isDay := by rw [List.not_all_eq_any_not]
  rw [h2] at h1
  generalize l.all isDay = b at h1 ⊢
  simp [R_fine_check, hp, check, h1, retO_ite]
  cases b <;> simp <;> grind
end Go.Proofs.YtabhbdehbpmpkaaGreat
namespace Go.Proofs.YtabhbdehbpmpkaaGreat
open Go Go.Sx Go.Fine
set_option maxRecDepth 10000
attribute [local simp] Bool.and_assoc Bool.or_assoc
theorem last_fold {A : Type} (p : A → Bool) (z : A) : ∀ (l : List A) (s : A × Bool), l.foldl (fun s t => if p t = true then (t, true) else s) s = match (l.filter p).getLast? with
    | some t => (t, true)
    | none => s
  | [], s => rfl
  | a :: l, s => by
    rw [List.foldl_cons, last_fold p z l]
    cases hp : p a with
    | true =>
      rw [List.filter_cons_of_pos hp, List.getLast?_cons]
      cases (l.filter p).getLast? <;> simp
    | false => rw [List.filter_cons_of_neg (by simp [hp])]; simp
def Tariff.cvb (t : Tariff) (b : Bool) : List CV := [ci t.frm, ci t.h0, ci t.h1, ci t.h2, ci t.h3, ci t.h4, ci t.h5, ci t.h6, ci t.h7, ci t.h8, ci t.h9, ci t.d0, ci t.d1, ci t.d2, ci t.d3, ci t.d4, ci t.d5, ci t.d6, ci t.d7, ci t.d8, ci t.d9, ci t.feed, ci t.hay, ci t.drv, cb b]
@[simp] theorem w_inForce (n : Nat) (l : List Tariff) (ss ns : List (List CV)) (d : Int) (hl : l.length < 100000000000000) : D (n + 1) n_fine_inForce [.row 24 (l.map Tariff.cv), .row 9 ss, .row 7 ns, ci d] =
    some (match (l.filter fun t => decide (t.frm ≤ d)).getLast? with | some t => Tariff.cvb t true | none => Tariff.cvb tz false) := by
  rw [q_fine_inForce]
  unfold R_fine_inForce
  rw [loop_foldl l (fun i (s : Tariff × Bool) => cb s.2 :: ci (i : Int) :: s.1.cv) (fun s t => if decide (t.frm ≤ d) = true then (t, true) else s) 0 (fun s => cb s.2 :: s.1.cv) (tz, false) ?hv (fun i h s => ?hs) (fun s => ?he)]
  case hv => simp [Tariff.cv, tz]
  case he => simp [Tariff.cv]
  case hs =>
    have hw := wr_nat (show i < 9223372036854775807 by omega)
    by_cases hc : l[i].frm ≤ d <;> simp [h, inb_map, el_map, Tariff.cv, hw, hc]
  · rw [last_fold _ tz]
    cases (l.filter fun t => decide (t.frm ≤ d)).getLast? <;> simp [Tariff.cv, Tariff.cvb]
@[simp] theorem w_inForce' (n : Nat) (l : List Tariff) (ss ns : List (List CV)) (d : Int) (hl : l.length < 100000000000000) : D (n + 1) n_r06_inForce [.row 24 (l.map Tariff.cv), .row 9 ss, .row 7 ns, ci d] =
    some (match (l.filter fun t => decide (t.frm ≤ d)).getLast? with | some t => Tariff.cvb t true | none => Tariff.cvb tz false) := by
  rw [q_r06_inForce]
  unfold R_r06_inForce
  have hrl : l.reverse.length = l.length := List.length_reverse
  rw [loop_findL (fun t => decide (t.frm ≤ d)) (fun t => some (.ret (Tariff.cvb t true))) (some (.br 0 tz.cv)) l.reverse (fun j => ci (l.length - 1 - (j : Int)) :: tz.cv) ?hv ?hR ?hX (fun i h hp => ?h1) (fun i h hp => ?h2) ?h3]
  case hv =>
    have : wr ((l.length : Int) - 1) = l.length - 1 := by rw [wr_of] <;> omega
    simp [Tariff.cv, tz, this]
  case hR => simp
  case hX => simp
  case h3 =>
    rw [hrl, show (l.length : Int) - 1 - (l.length : Nat) = -1 by omega]
    simp [Tariff.cv, tz]
  case h1 =>
    rw [hrl] at h
    have e1 : (l.length : Int) - 1 - (i : Int) = ((l.length - 1 - i : Nat) : Int) := by omega
    have e2 : l.length - 1 - i < l.length := by omega
    have e3 : wr (((l.length - 1 - i : Nat) : Int) - 1) = (l.length : Int) - 1 - ((i + 1 : Nat) : Int) := by rw [wr_of] <;> omega
    rw [e1]
    rw [List.getElem_reverse] at hp
    simp only [decide_eq_false_iff_not] at hp
    have e4 : (0 : Int) ≤ ((l.length - 1 - i : Nat) : Int) := by omega
    simp only [gi_z, e4, iteB_eq, ge_iff_le, decide_true, if_true, inb_map e2, el_map e2, chk_true]
    simp [Tariff.cv, tz, hp, e3]
  case h2 =>
    rw [hrl] at h
    have e1 : (l.length : Int) - 1 - (i : Int) = ((l.length - 1 - i : Nat) : Int) := by omega
    have e2 : l.length - 1 - i < l.length := by omega
    rw [e1]
    rw [List.getElem_reverse] at hp ⊢
    simp only [decide_eq_true_eq] at hp
    have e4 : (0 : Int) ≤ ((l.length - 1 - i : Nat) : Int) := by omega
    simp only [gi_z, e4, iteB_eq, ge_iff_le, decide_true, if_true, inb_map e2, el_map e2, chk_true]
    simp [Tariff.cv, hp, Tariff.cvb]
  · have : l.reverse.find? (fun t => decide (t.frm ≤ d)) = (l.filter fun t => decide (t.frm ≤ d)).getLast? := by
      rw [← List.head?_filter, List.filter_reverse, List.head?_reverse]
    rw [this]
    cases (l.filter fun t => decide (t.frm ≤ d)).getLast? <;> simp [Tariff.cv, Tariff.cvb, tz]
end Go.Proofs.YtabhbdehbpmpkaaGreat
namespace Go.Proofs.YtabhbdehbpmpkaaGreat
open Go Go.Sx Go.Fine
set_option maxRecDepth 10000
attribute [local simp] Bool.and_assoc Bool.or_assoc
theorem w_inF (n : Nat) (p : Acc) (ss ns : List (List CV)) (d : Int) (hp : p.fits) : D (n + 1) n_fine_inForce [.row 24 (p.ts.map Tariff.cv), .row 9 ss, .row 7 ns, ci d] = some (Tariff.cvb (inForce p d) (inF p d).isSome) := by
  rw [w_inForce _ _ _ _ _ hp.1]
  unfold inForce inF
  cases (p.ts.filter fun t => decide (t.frm ≤ d)).getLast? <;> rfl
theorem w_inF' (n : Nat) (p : Acc) (ss ns : List (List CV)) (d : Int) (hp : p.fits) : D (n + 1) n_r06_inForce [.row 24 (p.ts.map Tariff.cv), .row 9 ss, .row 7 ns, ci d] = some (Tariff.cvb (inForce p d) (inF p d).isSome) := by
  rw [w_inForce' _ _ _ _ _ hp.1]
  unfold inForce inF
  cases (p.ts.filter fun t => decide (t.frm ≤ d)).getLast? <;> rfl
attribute [-simp] w_inForce w_inForce'
attribute [simp] w_inF w_inF'
@[simp] theorem w_daily (n : Nat) (p : Acc) (s : Held) (d : Int) (hp : p.ok = true) (hs : s.ok = true) : D (n + 2) n_fine_daily [.row 24 (p.ts.map Tariff.cv), .row 9 (p.ss.map Held.cv), .row 7 (p.ns.map Note.cv), ci s.src, ci s.beast, ci s.sort, ci s.eats, ci s.worth, ci s.drv, ci s.day, ci s.known, ci s.til, ci d] = some [ci (daily p s d)] := by
  rw [q_fine_daily]
  obtain ⟨h1, h2, h3, h4⟩ := daily_bounds hp hs d
  have e1 : wr (s.eats * (inForce p d).feed) = s.eats * (inForce p d).feed := by rw [wr_of] <;> omega
  have e2 : wr (Int.tdiv (s.eats * (inForce p d).feed) 10) = daily p s d := by unfold daily at *; rw [wr_of] <;> omega
  simp [R_fine_daily, p.ok_fits hp, Tariff.cvb, e1, e2]
@[simp] theorem w_fed' (n : Nat) (p : Acc) (s : Held) (d : Int) (hp : p.ok = true) (hs : s.ok = true) : D (n + 2) n_r06_fed [.row 24 (p.ts.map Tariff.cv), .row 9 (p.ss.map Held.cv), .row 7 (p.ns.map Note.cv), ci s.src, ci s.beast, ci s.sort, ci s.eats, ci s.worth, ci s.drv, ci s.day, ci s.known, ci s.til, ci d] = some [ci (daily p s d)] := by
  rw [q_r06_fed]
  obtain ⟨h1, h2, h3, h4⟩ := daily_bounds hp hs d
  have e1 : wr (s.eats * (inForce p d).feed) = s.eats * (inForce p d).feed := by rw [wr_of] <;> omega
  have e2 : wr (Int.tdiv (s.eats * (inForce p d).feed) 10) = daily p s d := by unfold daily at *; rw [wr_of] <;> omega
  simp [R_r06_fed, p.ok_fits hp, Tariff.cvb, e1, e2]
theorem ints_app (a b : List Int) : ints (a ++ b) = ints a ++ ints b := List.map_append
@[simp] theorem ints_1 (x : Int) : ints [x] = [[ci x]] := rfl
@[simp] theorem w_sources (n : Nat) (l : List Held) (hl : l.length ≤ 1000) : D (n + 1) n_fine_sources [.row 9 (l.map Held.cv)] = some [.row 1 (ints (l.map Held.src))] := by
  rw [q_fine_sources]
  unfold R_fine_sources
  rw [loop_ix l.length (fun i => [ci (i : Int), .row 1 (ints ((l.map Held.src).take i))]) (some (.br 0 [.row 1 (ints (l.map Held.src))])) ?hv (fun i hi => ?hs) ?he ?hr]
  case hv => rfl
  case hr => simp
  case he => simp [List.take_of_length_le]
  case hs =>
    have hw := wr_nat (show i < 9223372036854775807 by omega)
    have hf : fitA (ints ((l.map Held.src).take i)).length 1 8 = true := fitA_of (by simp [ints]; omega) (by simp [ints]; omega)
    have e : (l.map Held.src).take (i + 1) = (l.map Held.src).take i ++ [l[i].src] := by rw [take_succ (by simpa using hi)]; simp
    simp only [e]
    simp [hi, inb_map, el_map, Held.cv, hw, hf, ints_app]
  · simp
theorem w_IndexFunc_Held (n : Nat) (l : List Held) (f : CV) (q : Held → Bool) (hl : l.length < 9223372036854775807) (hf : ∀ t ∈ l, callV sg (D n) f [ci t.src, ci t.beast, ci t.sort, ci t.eats, ci t.worth, ci t.drv, ci t.day, ci t.known, ci t.til] [.agg [li, li, li, li, li, li, li, li, li]] [.one lb] = some [cb (q t)]) :
    D (n + 1) n_slices_IndexFunc_Held [.row 9 (l.map Held.cv), f] = some [ci (idxI (l.findIdx? q))] := by
  rw [q_slices_IndexFunc_Held]
  unfold R_slices_IndexFunc_Held
  have hf' : ∀ i (h : i < l.length), callV sg (D n) f [ci l[i].src, ci l[i].beast, ci l[i].sort, ci l[i].eats, ci l[i].worth, ci l[i].drv, ci l[i].day, ci l[i].known, ci l[i].til] [.agg [li, li, li, li, li, li, li, li, li]] [.one lb] = some [cb (q l[i])] := fun i h => hf _ (List.getElem_mem h)
  rw [loop_idx q l (fun i => some (.ret [ci (i : Int)])) (some (.br 0 [])) (fun i => [ci (i : Int)]) ?hv ?hR ?hX (fun i hi hp => ?h1) (fun i hi hp => ?h2) ?h3]
  case hv => rfl
  case hR => simp
  case hX => simp
  case h3 => simp
  case h1 =>
    have hw := wr_nat (show i < 9223372036854775807 by omega)
    simp [hi, inb_map, el_map, Held.cv, hf', hp, hw]
  case h2 => simp [hi, inb_map, el_map, Held.cv, hf', hp]
  · cases l.findIdx? q <;> simp [idxI]
theorem cv_Held_len (t : Held) : t.cv.length = 9 := rfl
theorem cv_Held_oks (t : Held) : oks (List.replicate 9 li) t.cv 0 = true := rfl
theorem cv_Held_cis (t : Held) : cis t.cv 0 9 = t.cv := rfl
theorem w_IndexFunc_Note (n : Nat) (l : List Note) (f : CV) (q : Note → Bool) (hl : l.length < 9223372036854775807) (hf : ∀ t ∈ l, callV sg (D n) f [ci t.src, ci t.stay, ci t.kind, ci t.owner, ci t.day, ci t.known, ci t.til] [.agg [li, li, li, li, li, li, li]] [.one lb] = some [cb (q t)]) :
    D (n + 1) n_slices_IndexFunc_Note [.row 7 (l.map Note.cv), f] = some [ci (idxI (l.findIdx? q))] := by
  rw [q_slices_IndexFunc_Note]
  unfold R_slices_IndexFunc_Note
  have hf' : ∀ i (h : i < l.length), callV sg (D n) f [ci l[i].src, ci l[i].stay, ci l[i].kind, ci l[i].owner, ci l[i].day, ci l[i].known, ci l[i].til] [.agg [li, li, li, li, li, li, li]] [.one lb] = some [cb (q l[i])] := fun i h => hf _ (List.getElem_mem h)
  rw [loop_idx q l (fun i => some (.ret [ci (i : Int)])) (some (.br 0 [])) (fun i => [ci (i : Int)]) ?hv ?hR ?hX (fun i hi hp => ?h1) (fun i hi hp => ?h2) ?h3]
  case hv => rfl
  case hR => simp
  case hX => simp
  case h3 => simp
  case h1 =>
    have hw := wr_nat (show i < 9223372036854775807 by omega)
    simp [hi, inb_map, el_map, Note.cv, hf', hp, hw]
  case h2 => simp [hi, inb_map, el_map, Note.cv, hf', hp]
  · cases l.findIdx? q <;> simp [idxI]
theorem cv_Note_len (t : Note) : t.cv.length = 7 := rfl
theorem cv_Note_oks (t : Note) : oks (List.replicate 7 li) t.cv 0 = true := rfl
theorem cv_Note_cis (t : Note) : cis t.cv 0 7 = t.cv := rfl
theorem v_stays_c1 (M : Den) (s : Held) (c : List CV) : callV sg M (.fn n_fine_stays_c1 [.ref c]) [ci s.src, ci s.beast, ci s.sort, ci s.eats, ci s.worth, ci s.drv, ci s.day, ci s.known, ci s.til] [.agg [li, li, li, li, li, li, li, li, li]] [.one lb] = M n_fine_stays_c1 [ci s.src, ci s.beast, ci s.sort, ci s.eats, ci s.worth, ci s.drv, ci s.day, ci s.known, ci s.til, .ref c] := rfl
@[simp] theorem w_stays_c1 (n : Nat) (s : Held) (k : Int) : D (n + 2) n_fine_stays_c1 [ci s.src, ci s.beast, ci s.sort, ci s.eats, ci s.worth, ci s.drv, ci s.day, ci s.known, ci s.til, .ref [ci k]] = some [cb (!counts s.known s.til k)] := by
  rw [q_fine_stays_c1]; simp [R_fine_stays_c1]
@[simp] theorem w_stays (n : Nat) (p : Acc) (k : Int) (hp : p.ok = true) : D (n + 4) n_fine_stays [.row 24 (p.ts.map Tariff.cv), .row 9 (p.ss.map Held.cv), .row 7 (p.ns.map Note.cv), ci k] = some [.row 9 ((stays p k).map Held.cv)] := by
  rw [q_fine_stays]
  obtain ⟨_, h1, _⟩ := p.ok_len hp
  have hix := w_IndexFunc_Held (n + 2) p.ss (.fn n_fine_stays_c1 [.ref [ci k]]) (fun s => !counts s.known s.til k) (by omega) (fun s _ => by rw [v_stays_c1]; simp)
  have hd := del_row 9 Held.cv hz.cv cv_Held_len cv_Held_oks cv_Held_cis (fun s => !counts s.known s.til k) p.ss (by omega) hix (call := fun c => D (n + 3) n_fine_stays_c1 (cat [c, [.ref [ci k]]])) (fun s _ => by simp [Held.cv])
  have hc := clone_row 9 72 Held.cv p.ss (by omega) (by omega)
  unfold R_fine_stays
  rw [hc]
  simp only [inlO_ret, gr_z]
  change retO (inlO (delX _ (fun c => D (n + 3) n_fine_stays_c1 (cat [c, [.ref [ci k]]])) 9 hz.cv (p.ss.map Held.cv)) _) = _
  rw [hd]
  simp [stays]
theorem v_notes_c1 (M : Den) (x : Note) (c d : List CV) : callV sg M (.fn n_fine_notes_c1 [.ref c, .ref d]) [ci x.src, ci x.stay, ci x.kind, ci x.owner, ci x.day, ci x.known, ci x.til] [.agg [li, li, li, li, li, li, li]] [.one lb] = M n_fine_notes_c1 [ci x.src, ci x.stay, ci x.kind, ci x.owner, ci x.day, ci x.known, ci x.til, .ref c, .ref d] := rfl
@[simp] theorem w_notes_c1 (n : Nat) (x : Note) (s : Held) (k : Int) : D (n + 2) n_fine_notes_c1 [ci x.src, ci x.stay, ci x.kind, ci x.owner, ci x.day, ci x.known, ci x.til, .ref [ci k], .ref [ci s.src, ci s.beast, ci s.sort, ci s.eats, ci s.worth, ci s.drv, ci s.day, ci s.known, ci s.til]] = some [cb (!(counts x.known x.til k && x.stay == s.src && within x.day s.day k))] := by
  rw [q_fine_notes_c1]; simp [R_fine_notes_c1, retO_ite]
@[simp] theorem w_notes (n : Nat) (p : Acc) (s : Held) (k : Int) (hp : p.ok = true) : D (n + 4) n_fine_notes [.row 24 (p.ts.map Tariff.cv), .row 9 (p.ss.map Held.cv), .row 7 (p.ns.map Note.cv), ci s.src, ci s.beast, ci s.sort, ci s.eats, ci s.worth, ci s.drv, ci s.day, ci s.known, ci s.til, ci k] = some [.row 7 ((notes p s k).map Note.cv)] := by
  rw [q_fine_notes]
  obtain ⟨_, _, h1⟩ := p.ok_len hp
  have hix := w_IndexFunc_Note (n + 2) p.ns (.fn n_fine_notes_c1 [.ref [ci k], .ref [ci s.src, ci s.beast, ci s.sort, ci s.eats, ci s.worth, ci s.drv, ci s.day, ci s.known, ci s.til]]) (fun x => !(counts x.known x.til k && x.stay == s.src && within x.day s.day k)) (by omega) (fun x _ => by rw [v_notes_c1]; simp)
  have hd := del_row 7 Note.cv (List.replicate 7 (ci 0)) cv_Note_len cv_Note_oks cv_Note_cis (fun x => !(counts x.known x.til k && x.stay == s.src && within x.day s.day k)) p.ns (by omega) hix (call := fun c => D (n + 3) n_fine_notes_c1 (cat [c, [.ref [ci k], .ref [ci s.src, ci s.beast, ci s.sort, ci s.eats, ci s.worth, ci s.drv, ci s.day, ci s.known, ci s.til]]])) (fun x _ => by simp [Note.cv])
  have hc := clone_row 7 56 Note.cv p.ns (by omega) (by omega)
  unfold R_fine_notes
  rw [hc]
  simp only [inlO_ret, gr_z]
  change retO (inlO (delX _ (fun c => D (n + 3) n_fine_notes_c1 (cat [c, [.ref [ci k], .ref [ci s.src, ci s.beast, ci s.sort, ci s.eats, ci s.worth, ci s.drv, ci s.day, ci s.known, ci s.til]]])) 7 (List.replicate 7 (ci 0)) (p.ns.map Note.cv)) _) = _
  rw [hd]
  simp [notes]
end Go.Proofs.YtabhbdehbpmpkaaGreat
namespace Go.Proofs.YtabhbdehbpmpkaaGreat
open Go Go.Sx Go.Fine
set_option maxRecDepth 10000
attribute [local simp] Bool.and_assoc Bool.or_assoc
theorem w_check1 (n : Nat) (p : Acc) (k : Int) (hp : p.fits) : D (n + 9) n_fine_check [.row 24 (p.ts.map Tariff.cv), .row 9 (p.ss.map Held.cv), .row 7 (p.ns.map Note.cv), .row 1 [[ci k]]] = some [ci (asked p k)] := by
  have := w_check n p [k] hp (by simp)
  rw [ints_1] at this
  rw [this]; simp [asked]
@[simp] theorem w_says (n : Nat) (p : Acc) (s : Held) (k : Int) (hp : p.ok = true) : D (n + 2) n_r06_says [.row 24 (p.ts.map Tariff.cv), .row 9 (p.ss.map Held.cv), .row 7 (p.ns.map Note.cv), ci s.src, ci s.beast, ci s.sort, ci s.eats, ci s.worth, ci s.drv, ci s.day, ci s.known, ci s.til, ci k] = some [.row 7 ((notes p s k).map Note.cv)] := by
  rw [q_r06_says]
  obtain ⟨_, _, h1⟩ := p.ok_len hp
  unfold R_r06_says
  rw [loop_coll p.ns (fun x => counts x.known x.til k && x.stay == s.src && within x.day s.day k) Note.cv 7 0 ?hv (fun i hi es hes => ?hs) (fun es => ?he)]
  case hv => rfl
  case he => simp
  case hs =>
    have hw := wr_nat (show i < 9223372036854775807 by omega)
    have hf : fitA es.length 1 56 = true := fitA_of (by omega) (by omega)
    cases hc : (counts p.ns[i].known p.ns[i].til k && p.ns[i].stay == s.src && within p.ns[i].day s.day k) with
    | true => simp [Bool.and_eq_true] at hc; simp [hi, inb_map, el_map, Note.cv, hf, hw, hc]
    | false => simp [Bool.and_eq_false_iff] at hc; simp [hi, inb_map, el_map, Note.cv, hf, hw]; grind
  · simp [notes]
@[simp] theorem w_Stays' (n : Nat) (p : Acc) (k : Int) (hp : p.fits) : D (n + 6) n_r06_Stays [.row 24 (p.ts.map Tariff.cv), .row 9 (p.ss.map Held.cv), .row 7 (p.ns.map Note.cv), ci k] = some (if asked p k = 0 then [.row 1 (ints ((stays p k).map Held.src)), ci 0] else [.row 1 [], ci (asked p k)]) := by
  rw [q_r06_Stays]
  unfold R_r06_Stays
  rw [w_asked _ _ _ hp]
  simp only [callO_val, gi_z, bne_dec, iteB_eq]
  by_cases ha : asked p k = 0
  · have hok : p.ok = true := by unfold asked at ha; cases h : p.ok <;> simp [h] at ha ⊢
    obtain ⟨_, h1, _⟩ := p.ok_len hok
    simp only [ha, decide_true, Bool.not_true, Bool.false_eq_true, if_false, if_true]
    rw [loop_coll p.ss (fun s => counts s.known s.til k) (fun s => [ci s.src]) 1 0 ?hv (fun i hi es hes => ?hs) (fun es => ?he)]
    case hv => rfl
    case he => simp
    case hs =>
      have hw := wr_nat (show i < 9223372036854775807 by omega)
      have hf : fitA es.length 1 8 = true := fitA_of (by omega) (by omega)
      cases hc : counts p.ss[i].known p.ss[i].til k <;> simp [hi, inb_map, el_map, Held.cv, hf, hw, hc]
    · simp [stays, ints]
  · simp [ha]
theorem asked_ok {p : Acc} {k : Int} (h : asked p k = 0) : p.ok = true ∧ isDay k = true := by
  unfold asked at h
  cases h1 : p.ok <;> cases h2 : isDay k <;> simp [h1, h2] at h ⊢
def Held.cve (s : Held) (e : Int) : List CV := [ci s.src, ci s.beast, ci s.sort, ci s.eats, ci s.worth, ci s.drv, ci s.day, ci s.known, ci s.til, ci e]
@[simp] theorem w_stayOf (n : Nat) (p : Acc) (y k : Int) (hp : p.fits) : D (n + 10) n_fine_stayOf [.row 24 (p.ts.map Tariff.cv), .row 9 (p.ss.map Held.cv), .row 7 (p.ns.map Note.cv), ci y, ci k] = some (Held.cve (stayOf p y k).1 (stayOf p y k).2) := by
  rw [q_fine_stayOf]
  unfold R_fine_stayOf
  have hck := w_check1 n p k hp
  simp only [chunk_s, chunk_z, List.take_succ_cons, List.take_zero]
  rw [hck]
  simp only [callO_val, gi_z, bne_dec, iteB_eq]
  by_cases ha : asked p k = 0
  · obtain ⟨hok, _⟩ := asked_ok ha
    obtain ⟨_, h1, _⟩ := p.ok_len hok
    have h2 : (stays p k).length ≤ 60 := Nat.le_trans (filter_len _ _) h1
    simp only [ha, decide_true, Bool.not_true, Bool.false_eq_true, if_false, w_stays _ _ _ hok, callO_val, gr_z]
    rw [loop_findL (fun s => s.src == y) (fun s => some (.ret (Held.cve s 0))) (some (.br 0 hz.cv)) (stays p k) (fun i => ci (i : Int) :: hz.cv) ?hv ?hR ?hX (fun i hi hq => ?h1) (fun i hi hq => ?h2) ?h3]
    case hv => rfl
    case hR => simp
    case hX => simp
    case h3 => simp [Held.cv, hz]
    case h1 =>
      have hw := wr_nat (show i < 9223372036854775807 by omega)
      simp at hq
      simp [hi, inb_map, el_map, Held.cv, hw, hq, hz]
    case h2 =>
      simp at hq
      simp [hi, inb_map, el_map, Held.cv, hq, Held.cve]
    · simp only [stayOf, ha, if_true]
      cases (stays p k).find? fun s => s.src == y <;> simp [Held.cve, hz]
  · simp [ha, stayOf, Held.cve, hz]
@[simp] theorem w_stayOf' (n : Nat) (p : Acc) (y k : Int) (hp : p.fits) : D (n + 6) n_r06_stayOf [.row 24 (p.ts.map Tariff.cv), .row 9 (p.ss.map Held.cv), .row 7 (p.ns.map Note.cv), ci y, ci k] = some (Held.cve (stayOf p y k).1 (stayOf p y k).2) := by
  rw [q_r06_stayOf]
  unfold R_r06_stayOf
  rw [w_asked _ _ _ hp]
  simp only [callO_val, gi_z, bne_dec, iteB_eq]
  by_cases ha : asked p k = 0
  · obtain ⟨hok, _⟩ := asked_ok ha
    obtain ⟨_, h1, _⟩ := p.ok_len hok
    simp only [ha, decide_true, Bool.not_true, Bool.false_eq_true, if_false]
    rw [loop_findL (fun s => s.src == y && counts s.known s.til k) (fun s => some (.ret (Held.cve s 0))) (some (.br 0 hz.cv)) p.ss (fun i => ci (i : Int) :: hz.cv) ?hv ?hR ?hX (fun i hi hq => ?h1) (fun i hi hq => ?h2) ?h3]
    case hv => rfl
    case hR => simp
    case hX => simp
    case h3 => simp [Held.cv, hz]
    case h1 =>
      have hw := wr_nat (show i < 9223372036854775807 by omega)
      cases hc : decide (p.ss[i].src = y) with
      | true =>
        simp at hc; simp [hc] at hq
        simp [hi, inb_map, el_map, Held.cv, hw, hc, hq, hz]
      | false =>
        simp at hc
        simp [hi, inb_map, el_map, Held.cv, hw, hc, hz]
    case h2 =>
      simp at hq
      simp [hi, inb_map, el_map, Held.cv, hq, Held.cve]
    · have : (stays p k).find? (fun s => s.src == y) = p.ss.find? fun s => s.src == y && counts s.known s.til k := by
        rw [stays, List.find?_filter]
        congr 1; funext s; simp [Bool.and_comm]
      simp only [stayOf, ha, if_true, this]
      cases p.ss.find? fun s => s.src == y && counts s.known s.til k <;> simp [Held.cve, hz]
  · simp [ha, stayOf, Held.cve, hz]
theorem stayOf_ok {p : Acc} {y k : Int} (h : (stayOf p y k).2 = 0) : p.ok = true ∧ isDay k = true ∧ (stayOf p y k).1 ∈ stays p k ∧ (stayOf p y k).1.ok = true ∧ (stayOf p y k).1.src = y := by
  unfold stayOf at h ⊢
  split at h
  · rename_i ha
    obtain ⟨h1, h2⟩ := asked_ok ha
    rw [if_pos ha]
    cases hf : (stays p k).find? fun s => s.src == y with
    | none => rw [hf] at h; simp at h
    | some s =>
      have hm := List.mem_of_find?_eq_some hf
      have hs := List.find?_some hf
      exact ⟨h1, h2, hm, p.ok_s h1 (stays_mem hm), by simpa using hs⟩
  · rename_i ha; exact absurd h ha
end Go.Proofs.YtabhbdehbpmpkaaGreat
namespace Go.Proofs.YtabhbdehbpmpkaaGreat
open Go Go.Sx Go.Fine
set_option maxRecDepth 10000
attribute [local simp] Bool.and_assoc Bool.or_assoc
@[simp] theorem w_least (n : Nat) (l : List Note) (k : Int) (hl : l.length ≤ 1000) : D (n + 1) n_r06_least [.row 7 (l.map Note.cv), ci k] = some [ci (least k l)] := by
  rw [q_r06_least]
  unfold R_r06_least
  rw [loop_foldl l (fun i (s : Int) => [ci s, ci (i : Int)]) (leastS k) 0 (fun s => [ci s]) (-1) ?hv (fun i hi s => ?hs) (fun s => ?he)]
  case hv => rfl
  case he => simp
  case hs =>
    have hw := wr_nat (show i < 9223372036854775807 by omega)
    by_cases hk : l[i].kind = k <;> simp [hi, inb_map, el_map, Note.cv, hw, hk, leastS]
    grind
  · simp [least_def]
@[simp] theorem w_stop (n : Nat) (l : List Note) (hl : l.length ≤ 1000) : D (n + 2) n_r06_stop [.row 7 (l.map Note.cv)] = some [ci (stopOf l)] := by
  rw [q_r06_stop]
  simp [R_r06_stop, hl, stopOf]
  grind
theorem w_owner (n : Nat) (l : List Note) (hl : l.length ≤ 1000) (ho : ∀ x ∈ l, x.ok = true) : D (n + 2) n_r06_owner [.row 7 (l.map Note.cv)] = some [ci (ownerOf l)] := by
  rw [q_r06_owner]
  unfold R_r06_owner
  rw [loop_foldl l (fun i (s : Note) => ci s.owner :: ci (i : Int) :: s.cv) judgeS 0 (fun s => ci s.owner :: s.cv) j0 ?hv (fun i hi s => ?hs) (fun s => ?he)]
  case hv => simp [Note.cv, j0]
  case he => simp [Note.cv]
  case hs =>
    have hw := wr_nat (show i < 9223372036854775807 by omega)
    by_cases hk : l[i].kind = 3
    · by_cases hd : s.known ≤ l[i].known <;> simp [hi, inb_map, el_map, Note.cv, hw, hk, hd, judgeS]
    · simp [hi, inb_map, el_map, Note.cv, hw, hk, judgeS]
  · have hj := judge_fold l
    have hn := judge_owner l ho
    rw [hj] at hn
    simp only [blkO_br, gi_z, iteB_eq, ownerOf, hj]
    by_cases h0 : 0 < (l.foldl judgeS j0).owner
    · simp [h0]
    · have hz : (l.foldl judgeS j0).owner = 0 := by omega
      simp only [hz, gt_iff_lt, Int.lt_irrefl, decide_false, Bool.false_eq_true, if_false, w_least _ _ _ hl, callO_val, gi_z]
      have hrl : l.reverse.length = l.length := List.length_reverse
      rw [loop_foldl l.reverse (fun i (s : Int) => [ci s, ci (l.length - 1 - (i : Int))]) (fun (s : Int) x => if x.kind = 1 ∧ x.day = least 1 l then x.owner else s) 2 (fun s => [ci s]) 0 ?hv (fun i hi s => ?hs) (fun s => ?he)]
      case hv =>
        have : wr ((l.length : Int) - 1) = l.length - 1 := by rw [wr_of] <;> omega
        simp [this]
      case he =>
        rw [hrl, show (l.length : Int) - 1 - (l.length : Nat) = -1 by omega]
        simp
      case hs =>
        rw [hrl] at hi
        have e1 : (l.length : Int) - 1 - (i : Int) = ((l.length - 1 - i : Nat) : Int) := by omega
        have e2 : l.length - 1 - i < l.length := by omega
        have e3 : wr (((l.length - 1 - i : Nat) : Int) - 1) = (l.length : Int) - 1 - ((i + 1 : Nat) : Int) := by rw [wr_of] <;> omega
        have e4 : (0 : Int) ≤ ((l.length - 1 - i : Nat) : Int) := by omega
        rw [e1, List.getElem_reverse]
        simp only [gi_z, gi_s, e4, iteB_eq, ge_iff_le, decide_true, if_true, inb_map e2, el_map e2, chk_true, e3]
        by_cases hk : l[l.length - 1 - i].kind = 1
        · by_cases hd : l[l.length - 1 - i].day = least 1 l <;> simp [Note.cv, hk, hd]
        · simp [Note.cv, hk]
      · rw [claim_back]; simp
theorem w_whose (n : Nat) (l : List Note) (hl : l.length ≤ 1000) (ho : ∀ x ∈ l, x.ok = true) : D (n + 1) n_fine_whose [.row 7 (l.map Note.cv)] = some [ci (ownerOf l), ci (stopOf l)] := by
  rw [q_fine_whose]
  unfold R_fine_whose
  rw [loop_foldl l (fun i (s : Int × Note × Note) => ci s.1 :: ci (i : Int) :: (s.2.1.cv ++ s.2.2.cv)) (fun s x => (stopS s.1 x, claimS s.2.1 x, judgeS s.2.2 x)) 0 (fun s => ci s.1 :: (s.2.1.cv ++ s.2.2.cv)) (-1, c0, j0) ?hv (fun i hi s => ?hs) (fun s => ?he)]
  case hv => simp [Note.cv, j0, c0]
  case he => simp [Note.cv]
  case hs =>
    have hw := wr_nat (show i < 9223372036854775807 by omega)
    have hk := (Note.ok_b (ho _ (List.getElem_mem hi))).2.2.1
    rcases hk with ⟨hk, _⟩ | ⟨hk | hk, _⟩
    · simp [hi, inb_map, el_map, Note.cv, hw, hk, stopS, claimS, judgeS]
    · by_cases hd : l[i].day < s.2.1.day <;> simp [hi, inb_map, el_map, Note.cv, hw, hk, hd, stopS, claimS, judgeS] <;> grind
    · by_cases hd : s.2.2.known ≤ l[i].known <;> simp [hi, inb_map, el_map, Note.cv, hw, hk, hd, stopS, claimS, judgeS] <;> grind
  · have h3 : l.foldl (fun (s : Int × Note × Note) x => (stopS s.1 x, claimS s.2.1 x, judgeS s.2.2 x)) (-1, c0, j0) = (l.foldl stopS (-1), l.foldl claimS c0, l.foldl judgeS j0) := by
      have key : ∀ (l : List Note) (a : Int) (b c : Note), l.foldl (fun (s : Int × Note × Note) x => (stopS s.1 x, claimS s.2.1 x, judgeS s.2.2 x)) (a, b, c) = (l.foldl stopS a, l.foldl claimS b, l.foldl judgeS c) := by
        intro l
        induction l with
        | nil => intros; rfl
        | cons x l ih => intro a b c; simp only [List.foldl_cons]; exact ih _ _ _
      exact key _ _ _ _
    have hj := judge_fold l
    have hn := judge_owner l ho
    rw [h3, stop_fold l ho]
    rw [hj] at hn
    simp [Note.cv, ownerOf, hj, (claim_fold l ho).1]
    grind
attribute [simp] w_whose w_owner
theorem w_days_c1 (n : Nat) (a b : Int) (h1 : -9223372036854775808 ≤ a) (h2 : b < 9223372036854775807) : D (n + 1) n_fine_days_c1 [.ref [ci a], .ref [ci b]] = some ((upto a b).map ci) := by
  show daysIt [.ref [ci a], .ref [ci b]] = _
  simp only [daysIt, ci]
  rw [if_pos ⟨h1, h2⟩]
theorem it_days (n : Nat) (a b : Int) (h1 : -9223372036854775808 ≤ a) (h2 : b < 9223372036854775807) : itV sg (D (n + 1)) (.fn n_fine_days_c1 [.ref [ci a], .ref [ci b]]) = some (upto a b) := by
  have hs : sg n_fine_days_c1 = none := rfl
  simp only [itV, hs, w_days_c1 n a b h1 h2, intsOf_ci]
theorem sold_step (p : Acc) (s : Held) (hp : p.ok = true) (hs : s.ok = true) {x : Int} {e : Int} (he : 0 ≤ e ∧ e ≤ s.worth) : wr (e + daily p s x) = e + daily p s x := by
  obtain ⟨h1, h2, _⟩ := daily_bounds hp hs x
  have := (Held.ok_b hs).2.2.2.1
  rw [wr_of] <;> omega
@[simp] theorem w_sold (n : Nat) (p : Acc) (s : Held) (k : Int) (hp : p.ok = true) (hs : s.ok = true) (hk : isDay k = true) : D (n + 3) n_fine_sold [.row 24 (p.ts.map Tariff.cv), .row 9 (p.ss.map Held.cv), .row 7 (p.ns.map Note.cv), ci s.src, ci s.beast, ci s.sort, ci s.eats, ci s.worth, ci s.drv, ci s.day, ci s.known, ci s.til, ci k] = some [ci (sold p s k)] := by
  rw [q_fine_sold]
  unfold R_fine_sold
  have hb := Held.ok_b hs
  simp only [isDay, within, Bool.and_eq_true, decide_eq_true_eq] at hk
  by_cases h0 : s.worth = 0
  · simp [h0, sold]
  · have e1 : wr (s.day + 720) = s.day + 720 := by rw [wr_of] <;> omega
    have e2 : (if s.day + 720 < k then s.day + 720 else k) = min k (s.day + 720) := by omega
    simp only [iteB_eq, beq_dec, h0, decide_false, Bool.false_eq_true, if_false, e1, e2, w_days, callO_val]
    rw [show List.getD [CV.fn n_fine_days_c1 [.ref [ci s.day], .ref [ci (min k (s.day + 720))]]] 0 dC = CV.fn n_fine_days_c1 [.ref [ci s.day], .ref [ci (min k (s.day + 720))]] from rfl, it_days _ _ _ (by omega) (by omega)]
    generalize hst : (fun (x1 : Int) (v1 : List CV) => _) = step
    have hstep : ∀ (x : Int) (e : Int × Int), step x [ci e.1, ci e.2] = if wr (e.2 + daily p s x) ≥ s.worth then some (Ou.ret [ci x]) else some (Ou.nx [ci e.1, ci (wr (e.2 + daily p s x))]) := by
      intro x e
      rw [← hst]
      simp [hp, hs]; grind
    rw [rangeO_of (xs := upto s.day (min k (s.day + 720))) (step := step) (vs := [ci 0, ci 0]) (fun l => range_total (fun (e : Int × Int) => [ci e.1, ci e.2]) (fun x e => by
      rw [hstep]
      split
      · exact .inr ⟨_, rfl, by simp⟩
      · exact .inl ⟨(e.1, wr (e.2 + daily p s x)), rfl⟩) l (0, 0))]
    have key : ∀ (xs : List Int) (e : Int × Int), (∀ x ∈ xs, 0 ≤ x) → 0 ≤ e.2 → e.2 < s.worth → (soldL p s e.2 xs = -1 ∧ ∃ vs, rangeL step xs [ci e.1, ci e.2] = some (.nx vs)) ∨ (0 ≤ soldL p s e.2 xs ∧ rangeL step xs [ci e.1, ci e.2] = some (.ret [ci (soldL p s e.2 xs)])) := by
      intro xs
      induction xs with
      | nil => intro e _ _ _; exact .inl ⟨rfl, _, rfl⟩
      | cons x xs ih =>
        intro e hx h1 h2
        have h3 := hstep x e
        rw [sold_step p s hp hs ⟨h1, by omega⟩] at h3
        simp only [rangeL, h3, soldL]
        by_cases hc : e.2 + daily p s x ≥ s.worth
        · simp only [if_pos hc]; exact .inr ⟨hx x (by simp), trivial⟩
        · simp only [if_neg hc]
          exact ih (e.1, e.2 + daily p s x) (fun y hy => hx y (by simp [hy])) (by have := (daily_bounds hp hs x).1; simp only; omega) (by simp only; omega)
    have hpos : ∀ x ∈ upto s.day (min k (s.day + 720)), 0 ≤ x := fun x hx => by have := mem_upto.1 hx; omega
    rcases key (upto s.day (min k (s.day + 720))) (0, 0) hpos (by simp) (by simp only; omega) with ⟨h1, vs, h2⟩ | ⟨h1, h2⟩
    · simp only at h1 h2
      rw [h2]; simp [sold, h0, h1]
    · simp only at h1 h2
      rw [h2]; simp [sold, h0]
@[simp] theorem w_market (n : Nat) (p : Acc) (s : Held) (k : Int) (hp : p.ok = true) (hs : s.ok = true) (hk : isDay k = true) : D (n + 3) n_r06_market [.row 24 (p.ts.map Tariff.cv), .row 9 (p.ss.map Held.cv), .row 7 (p.ns.map Note.cv), ci s.src, ci s.beast, ci s.sort, ci s.eats, ci s.worth, ci s.drv, ci s.day, ci s.known, ci s.til, ci k] = some [ci (sold p s k)] := by
  rw [q_r06_market]
  unfold R_r06_market
  have hb := Held.ok_b hs
  simp only [isDay, within, Bool.and_eq_true, decide_eq_true_eq] at hk
  have e1 : wr (s.day + 720) = s.day + 720 := by rw [wr_of] <;> omega
  simp only [e1]
  generalize hst : (fun (v0 : List CV) => _) = step
  have hstep : ∀ (e d : Int), step [ci e, ci d] = if d ≤ k ∧ d ≤ s.day + 720 ∧ 0 < s.worth then (if wr (e + daily p s d) ≥ s.worth then some (Ou.ret [ci d]) else some (Ou.nx [ci (wr (e + daily p s d)), ci (wr (d + 1))])) else some (Ou.br 0 []) := by
    intro e d
    rw [← hst]
    simp [hp, hs]; grind
  by_cases h0 : s.worth = 0
  · rw [loop_end (hstep 0 s.day) (by rw [if_neg (by omega)]; simp), if_neg (by omega)]
    simp [sold, h0]
  · have key : ∀ (m : Nat) (e d : Int), (min k (s.day + 720) + 1 - d).toNat = m → 0 ≤ d → 0 ≤ e → e < s.worth → (soldL p s e (upto d (min k (s.day + 720))) = -1 ∧ loopD step [ci e, ci d] = some (.br 0 [])) ∨ (0 ≤ soldL p s e (upto d (min k (s.day + 720))) ∧ loopD step [ci e, ci d] = some (.ret [ci (soldL p s e (upto d (min k (s.day + 720))))])) := by
      intro m
      induction m with
      | zero =>
        intro e d hm h1 h2 h3
        rw [upto_nil (by omega)]
        refine .inl ⟨rfl, ?_⟩
        rw [loop_end (hstep e d) (by rw [if_neg (by omega)]; simp), if_neg (by omega)]
      | succ m ih =>
        intro e d hm h1 h2 h3
        have h4 := hstep e d
        have hd : wr (d + 1) = d + 1 := by rw [wr_of] <;> omega
        rw [if_pos (by omega), sold_step p s hp hs ⟨h2, by omega⟩, hd] at h4
        rw [upto_cons (by omega), soldL]
        by_cases hc : e + daily p s d ≥ s.worth
        · rw [if_pos hc] at h4 ⊢
          exact .inr ⟨h1, loop_end h4 (by simp)⟩
        · rw [if_neg hc] at h4 ⊢
          rw [loop_eq h4]
          exact ih _ _ (by omega) (by omega) (by have := (daily_bounds hp hs d).1; omega) (by omega)
    rcases key _ 0 s.day rfl (by omega) (by omega) (by omega) with ⟨h1, h2⟩ | ⟨h1, h2⟩
    · rw [h2]; simp [sold, h0, h1]
    · rw [h2]; simp [sold, h0]
end Go.Proofs.YtabhbdehbpmpkaaGreat
namespace Go.Proofs.YtabhbdehbpmpkaaGreat
open Go Go.Sx Go.Fine
set_option maxRecDepth 10000
attribute [local simp] Bool.and_assoc Bool.or_assoc
theorem w_lot' (n : Nat) (p : Acc) (s : Held) (k : Int) (hp : p.ok = true) (hs : s.ok = true) (hk : isDay k = true) : D (n + 4) n_r06_lot [.row 24 (p.ts.map Tariff.cv), .row 9 (p.ss.map Held.cv), .row 7 (p.ns.map Note.cv), ci s.src, ci s.beast, ci s.sort, ci s.eats, ci s.worth, ci s.drv, ci s.day, ci s.known, ci s.til, ci k] = some [ci (lot p s k).owner, ci (lot p s k).stop, ci (lot p s k).fin, ci (lot p s k).day] := by
  rw [q_r06_lot]
  have hb := Held.ok_b hs
  have hl : (notes p s k).length ≤ 1000 := Nat.le_trans (filter_len _ _) (by have := p.ok_len hp; omega)
  have ho : ∀ x ∈ notes p s k, x.ok = true := fun x hx => p.ok_n hp (notes_mem hx)
  have e1 : wr (s.day + 360) = s.day + 360 := by rw [wr_of] <;> omega
  have e2 : wr (s.day + 361) = s.day + 361 := by rw [wr_of] <;> omega
  have e2' : wr (s.day + 360 + 1) = s.day + 361 := by rw [wr_of] <;> omega
  have e3 : wr (s.day + 720) = s.day + 720 := by rw [wr_of] <;> omega
  have hfv : (if (decide (stopOf (notes p s k) < 0) || decide (stopOf (notes p s k) > s.day + 360)) = true then s.day + 361 else -1) = forfeit s (notes p s k) := by simp [forfeit]
  have hel : ends p s k = [(1, least 2 (notes p s k)), (2, sold p s k), (3, forfeit s (notes p s k)), (4, s.day + 720)] := rfl
  simp only [R_r06_lot, w_says _ _ _ _ hp, callO_val, gr_z, w_owner _ _ hl ho, w_stop _ _ hl, w_least _ _ _ hl, w_market _ _ _ _ hp hs hk, gi_z, e1, e2, e3, seq_or, seq_if, gb_z, ite_cells, ite_ci, ite_self, hfv]
  rw [loop_foldl (ends p s k) (fun i (x : Int × Int) => [ci ((i + 1 : Nat) : Int), ci (ownerOf (notes p s k)), ci (stopOf (notes p s k)), ci x.1, ci x.2]) (lotStep k) 0 (fun x => [ci (ownerOf (notes p s k)), ci (stopOf (notes p s k)), ci x.1, ci x.2]) (0, -1) ?hv (fun i hi x => ?hs) (fun x => ?he)]
  case hv => rfl
  case he => simp [hel]
  case hs =>
    have hi : i < 4 := hi
    have : i = 0 ∨ i = 1 ∨ i = 2 ∨ i = 3 := by omega
    have w2 : wr 2 = 2 := by decide
    have w3 : wr 3 = 3 := by decide
    have w4 : wr 4 = 4 := by decide
    have w5 : wr 5 = 5 := by decide
    rcases this with rfl | rfl | rfl | rfl <;> simp [hel, lotStep, w2, w3, w4, w5] <;> grind
  · simp [lot]
theorem w_lot (n : Nat) (p : Acc) (s : Held) (k : Int) (hp : p.ok = true) (hs : s.ok = true) (hk : isDay k = true) : D (n + 5) n_fine_lot [.row 24 (p.ts.map Tariff.cv), .row 9 (p.ss.map Held.cv), .row 7 (p.ns.map Note.cv), ci s.src, ci s.beast, ci s.sort, ci s.eats, ci s.worth, ci s.drv, ci s.day, ci s.known, ci s.til, ci k] = some [ci (lot p s k).owner, ci (lot p s k).stop, ci (lot p s k).fin, ci (lot p s k).day] := by
  rw [q_fine_lot]
  have hb := Held.ok_b hs
  have hl : (notes p s k).length ≤ 1000 := Nat.le_trans (filter_len _ _) (by have := p.ok_len hp; omega)
  have ho : ∀ x ∈ notes p s k, x.ok = true := fun x hx => p.ok_n hp (notes_mem hx)
  have e1 : wr (s.day + 360) = s.day + 360 := by rw [wr_of] <;> omega
  have e2 : wr (s.day + 361) = s.day + 361 := by rw [wr_of] <;> omega
  have e2' : wr (s.day + 360 + 1) = s.day + 361 := by rw [wr_of] <;> omega
  have e3 : wr (s.day + 720) = s.day + 720 := by rw [wr_of] <;> omega
  have hfv : (if (decide (stopOf (notes p s k) < 0) || decide (stopOf (notes p s k) > s.day + 360)) = true then s.day + 361 else -1) = forfeit s (notes p s k) := by simp [forfeit]
  have hel : ends p s k = [(1, least 2 (notes p s k)), (2, sold p s k), (3, forfeit s (notes p s k)), (4, s.day + 720)] := rfl
  simp only [R_fine_lot, w_notes _ _ _ _ hp, callO_val, gr_z, w_whose _ _ hl ho, w_sold _ _ _ _ hp hs hk, gi_z, gi_s, e1, e2', e3]
  rw [loop_ix 5 (fun i => [ci (i : Int), ci (if 0 < i then -1 else 0), ci (if 1 < i then -1 else 0), ci (if 2 < i then -1 else 0), ci (if 3 < i then -1 else 0), ci (if 4 < i then -1 else 0)]) (some (.br 0 [ci (-1), ci (-1), ci (-1), ci (-1), ci (-1)])) ?hv1 (fun i hi => ?hs1) ?he1 ?hr1]
  case hv1 => rfl
  case hr1 => simp
  case hs1 =>
    have w1 : wr 1 = 1 := by decide
    have w2 : wr 2 = 2 := by decide
    have w3 : wr 3 = 3 := by decide
    have w4 : wr 4 = 4 := by decide
    have w5 : wr 5 = 5 := by decide
    have : i = 0 ∨ i = 1 ∨ i = 2 ∨ i = 3 ∨ i = 4 := by omega
    rcases this with rfl | rfl | rfl | rfl | rfl <;> simp [w1, w2, w3, w4, w5]
  case he1 => simp
  simp only [blkO_br]
  rw [loop_foldl (notes p s k) (fun i (x : Int) => [ci (i : Int), ci (-1), ci x, ci (-1), ci (-1), ci (-1)]) (leastS 2) 2 (fun x => [ci (-1), ci x, ci (-1), ci (-1), ci (-1)]) (-1) ?hv2 (fun i hi x => ?hs2) (fun x => ?he2)]
  case hv2 => rfl
  case he2 => simp
  case hs2 =>
    have hw := wr_nat (show i < 9223372036854775807 by omega)
    by_cases hk : (notes p s k)[i].kind = 2 <;> simp [hi, inb_map, el_map, Note.cv, hw, hk, leastS] <;> grind
  rw [← least_def]
  simp only [blkO_br, gi_z, gi_s, seq_or, seq_if, gb_z, ite_cells, ite_ci, ite_self, hfv]
  rw [loop_foldl ((0, -1) :: ends p s k) (fun i (x : Int × Int) => [ci (i : Int), ci (ownerOf (notes p s k)), ci (stopOf (notes p s k)), ci x.1, ci x.2]) (lotStep k) 4 (fun x => [ci (ownerOf (notes p s k)), ci (stopOf (notes p s k)), ci x.1, ci x.2]) (0, -1) ?hv (fun i hi x => ?hs) (fun x => ?he)]
  case hv => rfl
  case he => simp [hel]
  case hs =>
    have hi : i < 5 := hi
    have : i = 0 ∨ i = 1 ∨ i = 2 ∨ i = 3 ∨ i = 4 := by omega
    have w1 : wr 1 = 1 := by decide
    have w2 : wr 2 = 2 := by decide
    have w3 : wr 3 = 3 := by decide
    have w4 : wr 4 = 4 := by decide
    have w5 : wr 5 = 5 := by decide
    rcases this with rfl | rfl | rfl | rfl | rfl <;> simp [hel, lotStep, blkO_ite, seqO_ite, w1, w2, w3, w4, w5] <;> grind
  · have : lotStep k (0, -1) (0, -1) = (0, -1) := by simp [lotStep]
    simp [lot, this]
end Go.Proofs.YtabhbdehbpmpkaaGreat
namespace Go.Proofs.YtabhbdehbpmpkaaGreat
open Go Go.Sx Go.Fine
set_option maxRecDepth 10000
attribute [local simp] Bool.and_assoc Bool.or_assoc
attribute [simp] w_lot w_lot'
theorem last_wr (x : Lot) (h1 : -1 ≤ x.day) (h2 : x.day ≤ 100000) : wr (x.day - 1) = x.day - 1 := by rw [wr_of] <;> omega
@[simp] theorem w_fed (n : Nat) (s : Held) (x : Lot) (k : Int) (h1 : -1 ≤ x.day) (h2 : x.day ≤ 100000) : D (n + 2) n_fine_fed [ci s.src, ci s.beast, ci s.sort, ci s.eats, ci s.worth, ci s.drv, ci s.day, ci s.known, ci s.til, ci x.owner, ci x.stop, ci x.fin, ci x.day, ci k] = some [.fn n_fine_days_c1 [.ref [ci s.day], .ref [ci (lastDay x k)]]] := by
  rw [q_fine_fed]
  have e := last_wr x h1 h2
  simp only [R_fine_fed, lastDay, beq_dec, bne_dec, iteB_eq]
  by_cases hc : x.fin = 2
  · simp [hc]
  · by_cases hd : x.fin = 0 <;> simp [hc, hd, e]
@[simp] theorem w_last (n : Nat) (x : Lot) (k : Int) (h1 : -1 ≤ x.day) (h2 : x.day ≤ 100000) : D (n + 1) n_r06_last [ci x.owner, ci x.stop, ci x.fin, ci x.day, ci k] = some [ci (lastDay x k)] := by
  rw [q_r06_last]
  have e := last_wr x h1 h2
  simp only [R_r06_last, lastDay, beq_dec, bne_dec, iteB_eq]
  by_cases hc : x.fin = 2
  · simp [hc]
  · by_cases hd : x.fin = 0 <;> simp [hc, hd, e]
theorem cis_cvb (t : Tariff) (b : Bool) : cis (Tariff.cvb t b) 0 24 = t.cv := rfl
theorem oks_cv (t : Tariff) (o : Nat) (h : o < 24) : oks [li] t.cv o = true := oks_int1 rfl h
def runS (p : Acc) (s : Held) (x : Lot) (a : Int × Int × Int) (d : Int) : Int × Int × Int := (a.1, wr (a.2.1 + daily p s d), if x.stop < 0 ∨ d < x.stop then wr (a.2.2 + dailyOf (inForce p d) s.sort) else a.2.2)
theorem run_sums {p : Acc} (hp : p.ok = true) {s : Held} (hs : s.ok = true) (x : Lot) : ∀ (l : List Int) (a : Int × Int × Int), 0 ≤ a.2.1 → 0 ≤ a.2.2 → a.2.1 + l.length * 100000 < 9223372036854775808 → a.2.2 + l.length * 100000 < 9223372036854775808 →
    l.foldl (runS p s x) a = (a.1, a.2.1 + sumOf (daily p s) l, a.2.2 + sumOf (fineOf p s x) l)
  | [], a, _, _, _, _ => by simp [sumOf]
  | d :: l, a, h1, h2, h3, h4 => by
    obtain ⟨b1, b2, _⟩ := daily_bounds hp hs d
    obtain ⟨c1, c2⟩ := (head_bounds hp hs d).2
    have hl : (((d :: l).length : Nat) : Int) * 100000 = l.length * 100000 + 100000 := by simp [Int.add_mul]
    rw [hl] at h3 h4
    have e1 : wr (a.2.1 + daily p s d) = a.2.1 + daily p s d := by rw [wr_of] <;> omega
    have e2 : wr (a.2.2 + dailyOf (inForce p d) s.sort) = a.2.2 + dailyOf (inForce p d) s.sort := by rw [wr_of] <;> omega
    have e3 : runS p s x a d = (a.1, a.2.1 + daily p s d, a.2.2 + fineOf p s x d) := by
      unfold runS fineOf; rw [e1, e2]; split <;> simp
    have f := fineOf_bounds hp hs x d
    rw [List.foldl_cons, e3, run_sums hp hs x l _ (by simp only; omega) (by simp only; omega) (by simp only; omega) (by simp only; omega)]
    simp only [sumOf_cons, Prod.mk.injEq, true_and]
    omega
@[simp] theorem w_charge (n : Nat) (p : Acc) (s : Held) (x : Lot) (k : Int) (hp : p.ok = true) (hs : s.ok = true) (hk : isDay k = true) (h1 : -1 ≤ x.day) (h2 : x.day ≤ 100000) : D (n + 4) n_fine_charge [.row 24 (p.ts.map Tariff.cv), .row 9 (p.ss.map Held.cv), .row 7 (p.ns.map Note.cv), ci s.src, ci s.beast, ci s.sort, ci s.eats, ci s.worth, ci s.drv, ci s.day, ci s.known, ci s.til, ci x.owner, ci x.stop, ci x.fin, ci x.day, ci k] = some [ci (charge p s x k).head, ci (charge p s x k).feed, ci (charge p s x k).fine] := by
  rw [q_fine_charge]
  have hb := Held.ok_b hs
  simp only [isDay, within, Bool.and_eq_true, decide_eq_true_eq] at hk
  have hf := p.ok_fits hp
  have hs1 : (0 : Int) ≤ s.sort := by omega
  have hs2 : s.sort < 10 := by omega
  have hs3 : 1 + s.sort.toNat * 1 < 24 := by omega
  have hs4 : 11 + s.sort.toNat * 1 < 24 := by omega
  have hlb : -2 ≤ lastDay x k ∧ lastDay x k ≤ 100000 := by unfold lastDay; split <;> (try split) <;> omega
  have hl := fed_len s x k hb.2.2.2.2.2.1.1 hk.2 h2
  unfold R_fine_charge
  simp only [w_inF _ _ _ _ _ hf, callO_val, cis_cvb, hs1, hs2, decide_true, Bool.and_self, chk_true, oks_cv _ _ hs3, oks_cv _ _ hs4, Int.ofNat_eq_natCast, Int.cast_ofNat_Int, w_fed _ _ _ _ h1 h2, seq_if]
  rw [show List.getD [CV.fn n_fine_days_c1 [.ref [ci s.day], .ref [ci (lastDay x k)]]] 0 dC = CV.fn n_fine_days_c1 [.ref [ci s.day], .ref [ci (lastDay x k)]] from rfl, it_days _ _ _ (by omega) (by omega)]
  obtain ⟨h0, hh0⟩ : ∃ h0, h0 = if s.day ≤ k then headOf (inForce p s.day) s.sort else 0 := ⟨_, rfl⟩
  have e0 : (if decide (s.day ≤ k) = true then [ci (gi (inForce p s.day).cv (1 + s.sort.toNat * 1)), ci 0, ci 0] else [ci 0, ci 0, ci 0]) = [ci h0, ci 0, ci 0] := by
    rw [hh0]; simp [headOf]
  rw [e0]
  rw [range_fold (fun (a : Int × Int × Int) => [ci a.1, ci a.2.1, ci a.2.2]) (runS p s x) (h0, 0, 0) ?hv (fun d a => ?hs)]
  case hv => rfl
  case hs =>
    by_cases hc : x.stop < 0
    · simp [hp, hs, hc, runS, dailyOf]
    · by_cases hd : d < x.stop <;> simp [hp, hs, hc, hd, runS, dailyOf]
  · rw [show upto s.day (lastDay x k) = fedDays s x k from rfl, run_sums hp hs x _ _ (by simp) (by simp) (by simp only; omega) (by simp only; omega)]
    simp [charge, hh0]
theorem upto_get {a b : Int} {i : Nat} (h : i < (upto a b).length) : (upto a b)[i] = a + i := by simp [upto]
theorem w_charged (n : Nat) (p : Acc) (s : Held) (k : Int) (hp : p.ok = true) (hs : s.ok = true) (hk : isDay k = true) : D (n + 5) n_r06_charged [.row 24 (p.ts.map Tariff.cv), .row 9 (p.ss.map Held.cv), .row 7 (p.ns.map Note.cv), ci s.src, ci s.beast, ci s.sort, ci s.eats, ci s.worth, ci s.drv, ci s.day, ci s.known, ci s.til, ci k] = some [ci (charge p s (lot p s k) k).head, ci (charge p s (lot p s k) k).feed, ci (charge p s (lot p s k) k).fine] := by
  rw [q_r06_charged]
  have hb := Held.ok_b hs
  have hlot := w_lot' n p s k hp hs hk
  simp only [isDay, within, Bool.and_eq_true, decide_eq_true_eq] at hk
  have hf := p.ok_fits hp
  have hs1 : (0 : Int) ≤ s.sort := by omega
  have hs2 : s.sort < 10 := by omega
  have hs3 : 1 + s.sort.toNat * 1 < 24 := by omega
  have hs4 : 11 + s.sort.toNat * 1 < 24 := by omega
  obtain ⟨h1, h2, _⟩ := lot_day p s k (by omega)
  unfold R_r06_charged
  by_cases he : s.day > k
  · have hfin := lot_early hp hs (show k < s.day by omega) (by omega)
    have : fedDays s (lot p s k) k = [] := by unfold fedDays lastDay; rw [hfin]; exact upto_nil (by simp; omega)
    simp [he, charge, this, sumOf, show ¬ s.day ≤ k by omega]
  · simp only [he, decide_false, iteB_eq, Bool.false_eq_true, if_false, hlot, callO_val]
    generalize hx : lot p s k = x at *
    have hlb : -2 ≤ lastDay x k ∧ lastDay x k ≤ 100000 := by unfold lastDay; split <;> (try split) <;> omega
    have hl := fed_len s x k hb.2.2.2.2.2.1.1 hk.2 (by omega)
    simp only [w_inF' _ _ _ _ _ hf, callO_val, cis_cvb, hs1, hs2, decide_true, Bool.and_self, chk_true, oks_cv _ _ hs3, oks_cv _ _ hs4, Int.ofNat_eq_natCast, Int.cast_ofNat_Int]
    rw [loop_foldl (fedDays s x k) (fun i (a : Int × Int × Int) => [ci (s.day + (i : Nat)), ci a.1, ci a.2.1, ci a.2.2]) (runS p s x) 0 (fun a => [ci a.1, ci a.2.1, ci a.2.2]) (headOf (inForce p s.day) s.sort, 0, 0) ?hv (fun i hi a => ?hs) (fun a => ?he)]
    case hv => simp [headOf]
    case he =>
      have hn : ¬ (s.day + ((fedDays s x k).length : Int) ≤ lastDay x k) := by unfold fedDays; rw [upto_length]; omega
      have e4 : D (n + 4) n_r06_last [ci x.owner, ci x.stop, ci x.fin, ci x.day, ci k] = some [ci (lastDay x k)] := w_last _ _ _ h1 (by omega)
      simp [e4, hn]
    case hs =>
      have hn : s.day + (i : Int) ≤ lastDay x k := by unfold fedDays at hi; rw [upto_length] at hi; omega
      have e4 : D (n + 4) n_r06_last [ci x.owner, ci x.stop, ci x.fin, ci x.day, ci k] = some [ci (lastDay x k)] := w_last _ _ _ h1 (by omega)
      have e5 : (fedDays s x k)[i] = s.day + i := upto_get hi
      have e6 : wr (s.day + (i : Int) + 1) = s.day + ((i + 1 : Nat) : Int) := by rw [wr_of] <;> omega
      rw [e5]
      by_cases hc : x.stop < 0
      · simp [e4, hn, hp, hs, hc, runS, dailyOf, e6]
      · by_cases hd : s.day + (i : Int) < x.stop <;> simp [e4, hn, hp, hs, hc, hd, runS, dailyOf, e6]
    · rw [run_sums hp hs x _ _ (by simp) (by simp) (by simp only; omega) (by simp only; omega)]
      simp [charge, show s.day ≤ k by omega]
attribute [simp] w_charged
theorem payer_bounds {p : Acc} (hp : p.ok = true) {s : Held} (hs : s.ok = true) (k : Int) (hk : isDay k = true) : 0 ≤ (payer s (lot p s k) (charge p s (lot p s k) k)).2 ∧ (payer s (lot p s k) (charge p s (lot p s k) k)).2 ≤ 50000000000 := by
  have hb := Held.ok_b hs
  simp only [isDay, within, Bool.and_eq_true, decide_eq_true_eq] at hk
  obtain ⟨h1, h2, _⟩ := lot_day p s k (by omega)
  obtain ⟨c1, c2, c3⟩ := charge_bounds hp hs (lot p s k) k hk.2 (by omega)
  unfold payer Charge.sum
  split
  · simp only; omega
  · split <;> simp only <;> omega
theorem shares_wr (y h : Int) (h1 : 0 ≤ y) (h2 : y ≤ 50000000000) (h3 : 0 ≤ h) (h4 : h ≤ 60) : wr (y * h) = y * h ∧ wr (Int.tdiv (y * h) 60) = Int.tdiv (y * h) 60 ∧ 0 ≤ Int.tdiv (y * h) 60 ∧ Int.tdiv (y * h) 60 ≤ y := by
  have a1 : 0 ≤ y * h := Int.mul_nonneg h1 h3
  have a2 : y * h ≤ y * 60 := Int.mul_le_mul_of_nonneg_left h4 h1
  have a3 : Int.tdiv (y * h) 60 = y * h / 60 := Int.tdiv_eq_ediv_of_nonneg a1
  rw [a3]
  refine ⟨by rw [wr_of] <;> omega, by rw [wr_of] <;> omega, by omega, by omega⟩
theorem owner_bounds : ∀ (l : List Note), (∀ n ∈ l, n.ok = true) → 0 ≤ ownerOf l ∧ ownerOf l ≤ 99 := by
  intro l h
  have hj : 0 ≤ (judged l).2 ∧ (judged l).2 ≤ 99 := by
    revert h
    refine snoc_ind (P := fun l => (∀ n ∈ l, n.ok = true) → 0 ≤ (judged l).2 ∧ (judged l).2 ≤ 99) ?_ ?_ l
    · intro _; simp [judged]
    · intro l a ih h
      have ih := ih fun n hn => h n (by simp [hn])
      obtain ⟨_, _, hk, _⟩ := Note.ok_b (h a (by simp))
      simp only [judged, List.foldl_append, List.foldl_cons, List.foldl_nil] at ih ⊢
      split <;> omega
  have hc : 0 ≤ claimer l ∧ claimer l ≤ 99 := by
    unfold claimer
    cases hf : l.find? (fun n => n.kind == 1 && n.day == least 1 l) with
    | none => simp
    | some n =>
      obtain ⟨_, _, hk, _⟩ := Note.ok_b (h n (List.mem_of_find?_eq_some hf))
      simp only [Option.map_some, Option.getD_some]; omega
  unfold ownerOf; split <;> omega
theorem w_due (n : Nat) (p : Acc) (s : Held) (k : Int) (hp : p.ok = true) (hs : s.ok = true) (hk : isDay k = true) : D (n + 6) n_fine_due [.row 24 (p.ts.map Tariff.cv), .row 9 (p.ss.map Held.cv), .row 7 (p.ns.map Note.cv), ci s.src, ci s.beast, ci s.sort, ci s.eats, ci s.worth, ci s.drv, ci s.day, ci s.known, ci s.til, ci k] = some [ci (dueOf p s k).payer, ci (dueOf p s k).hay, ci (dueOf p s k).drv, ci (dueOf p s k).lord] := by
  rw [q_fine_due]
  have hf := p.ok_fits hp
  obtain ⟨y1, y2⟩ := payer_bounds hp hs k hk
  obtain ⟨t1, t2, t3⟩ := hay_bounds hp s.day
  have hk' := hk
  simp only [isDay, within, Bool.and_eq_true, decide_eq_true_eq] at hk'
  obtain ⟨h1, h2, _⟩ := lot_day p s k (by omega)
  obtain ⟨c1, c2, c3⟩ := charge_bounds hp hs (lot p s k) k hk'.2 (by omega)
  have ho := owner_bounds (notes p s k) fun x hx => p.ok_n hp (notes_mem hx)
  have hoo : (lot p s k).owner = ownerOf (notes p s k) := rfl
  obtain ⟨a1, a2, a3, a4⟩ := shares_wr _ (inForce p s.day).hay y1 y2 (by omega) (by omega)
  obtain ⟨b1, b2, b3, b4⟩ := shares_wr _ (inForce p s.day).drv y1 y2 (by omega) (by omega)
  have e1 : wr (2 + (lot p s k).owner) = 2 + (lot p s k).owner := by rw [wr_of] <;> omega
  have e2 : wr ((charge p s (lot p s k) k).head + (charge p s (lot p s k) k).feed) = (charge p s (lot p s k) k).head + (charge p s (lot p s k) k).feed := by rw [wr_of] <;> omega
  have e3 : wr ((charge p s (lot p s k) k).head + (charge p s (lot p s k) k).feed + (charge p s (lot p s k) k).fine) = (charge p s (lot p s k) k).sum := by unfold Charge.sum; rw [wr_of] <;> omega
  simp only [R_fine_due, w_lot _ _ _ _ hp hs hk, callO_val, cis_s, cis_z, cat_s, cat_1, gi_z, gi_s, List.cons_append, List.nil_append, w_charge _ _ _ _ _ hp hs hk h1 (by omega : (lot p s k).day ≤ 100000), w_inF _ _ _ _ _ hf]
  have hy : ∀ K : List CV → Option Ou, (seqO (iteB ((lot p s k).fin == 2)
        (some (.nx [ci 2, ci s.worth]))
        (seqO (iteB ((lot p s k).fin != 3)
            (some (.nx [cb ((lot p s k).owner != 0)]))
            (some (.nx [cb false]))) fun v2 =>
        seqO (iteB (gb v2 0)
            (some (.nx [ci (wr (2 + (lot p s k).owner)), ci (wr ((wr ((charge p s (lot p s k) k).head + (charge p s (lot p s k) k).feed)) + (charge p s (lot p s k) k).fine))]))
            (some (.nx [ci (-1), ci 0]))) fun v3 =>
        some (.nx [ci (gi v3 0), ci (gi v3 1)]))) K) = K [ci (payer s (lot p s k) (charge p s (lot p s k) k)).1, ci (payer s (lot p s k) (charge p s (lot p s k) k)).2] := by
    intro K
    rw [e1, e2, e3]
    unfold payer
    by_cases x1 : (lot p s k).fin = 2
    · simp [x1]
    · by_cases x2 : (lot p s k).fin = 3
      · simp [x2]
      · by_cases x3 : (lot p s k).owner = 0 <;> simp [x1, x2, x3]
  rw [hy]
  unfold dueOf shares
  generalize hyy : payer s (lot p s k) (charge p s (lot p s k) k) = y at *
  by_cases hd : s.drv = 0
  · have e4 : wr (y.2 - (y.2 * (inForce p s.day).hay).tdiv 60) = y.2 - (y.2 * (inForce p s.day).hay).tdiv 60 := by rw [wr_of] <;> omega
    simp [hd, Tariff.cvb, a1, a2, e4]
  · have e4 : wr (y.2 - (y.2 * (inForce p s.day).hay).tdiv 60) = y.2 - (y.2 * (inForce p s.day).hay).tdiv 60 := by rw [wr_of] <;> omega
    have e5 : wr (y.2 - (y.2 * (inForce p s.day).hay).tdiv 60 - (y.2 * (inForce p s.day).drv).tdiv 60) = y.2 - (y.2 * (inForce p s.day).hay).tdiv 60 - (y.2 * (inForce p s.day).drv).tdiv 60 := by rw [wr_of] <;> omega
    simp [hd, Tariff.cvb, a1, a2, b1, b2, e4, e5]
theorem w_due' (n : Nat) (p : Acc) (s : Held) (k : Int) (hp : p.ok = true) (hs : s.ok = true) (hk : isDay k = true) : D (n + 6) n_r06_due [.row 24 (p.ts.map Tariff.cv), .row 9 (p.ss.map Held.cv), .row 7 (p.ns.map Note.cv), ci s.src, ci s.beast, ci s.sort, ci s.eats, ci s.worth, ci s.drv, ci s.day, ci s.known, ci s.til, ci k] = some [ci (dueOf p s k).payer, ci (dueOf p s k).hay, ci (dueOf p s k).drv, ci (dueOf p s k).lord] := by
  rw [q_r06_due]
  have hf := p.ok_fits hp
  obtain ⟨y1, y2⟩ := payer_bounds hp hs k hk
  obtain ⟨t1, t2, t3⟩ := hay_bounds hp s.day
  have hb := Held.ok_b hs
  have hk' := hk
  simp only [isDay, within, Bool.and_eq_true, decide_eq_true_eq] at hk'
  obtain ⟨h1, h2, _⟩ := lot_day p s k (by omega)
  obtain ⟨c1, c2, c3⟩ := charge_bounds hp hs (lot p s k) k hk'.2 (by omega)
  have ho := owner_bounds (notes p s k) fun x hx => p.ok_n hp (notes_mem hx)
  have hoo : (lot p s k).owner = ownerOf (notes p s k) := rfl
  obtain ⟨a1, a2, a3, a4⟩ := shares_wr _ (inForce p s.day).hay y1 y2 (by omega) (by omega)
  obtain ⟨b1, b2, b3, b4⟩ := shares_wr _ (inForce p s.day).drv y1 y2 (by omega) (by omega)
  have e1 : wr (2 + (lot p s k).owner) = 2 + (lot p s k).owner := by rw [wr_of] <;> omega
  have e2 : wr ((charge p s (lot p s k) k).head + (charge p s (lot p s k) k).feed) = (charge p s (lot p s k) k).head + (charge p s (lot p s k) k).feed := by rw [wr_of] <;> omega
  have e3 : wr ((charge p s (lot p s k) k).head + (charge p s (lot p s k) k).feed + (charge p s (lot p s k) k).fine) = (charge p s (lot p s k) k).sum := by unfold Charge.sum; rw [wr_of] <;> omega
  simp only [R_r06_due, w_lot' _ _ _ _ hp hs hk, callO_val, gi_z, gi_s, w_charged _ _ _ _ hp hs hk, w_inF' _ _ _ _ _ hf, e1, e2, e3]
  by_cases xx : (lot p s k).fin ≠ 2 ∧ ((lot p s k).fin = 3 ∨ (lot p s k).owner = 0)
  · have hyy : payer s (lot p s k) (charge p s (lot p s k) k) = (-1, 0) := by unfold payer; rw [if_neg xx.1, if_pos xx.2]
    unfold dueOf shares
    rw [hyy]
    rcases xx with ⟨x1, x2 | x2⟩
    · simp [x2]
    · by_cases x3 : (lot p s k).fin = 3 <;> simp [x1, x2, x3]
  · obtain ⟨y, hy⟩ : ∃ y, y = payer s (lot p s k) (charge p s (lot p s k) k) := ⟨_, rfl⟩
    have hpay : (lot p s k).fin = 2 ∧ y = (2, s.worth) ∨ (lot p s k).fin ≠ 2 ∧ (lot p s k).fin ≠ 3 ∧ (lot p s k).owner ≠ 0 ∧ y = (2 + (lot p s k).owner, (charge p s (lot p s k) k).sum) := by
      rw [hy]; unfold payer
      by_cases x1 : (lot p s k).fin = 2
      · exact .inl ⟨x1, by rw [if_pos x1]⟩
      · have x2 : ¬ ((lot p s k).fin = 3 ∨ (lot p s k).owner = 0) := fun h => xx ⟨x1, h⟩
        exact .inr ⟨x1, fun h => x2 (.inl h), fun h => x2 (.inr h), by rw [if_neg x1, if_neg x2]⟩
    unfold dueOf shares
    rw [← hy] at y1 y2 a1 a2 a3 a4 b1 b2 b3 b4 ⊢
    have e4 : wr (y.2 - (y.2 * (inForce p s.day).hay).tdiv 60) = y.2 - (y.2 * (inForce p s.day).hay).tdiv 60 := by rw [wr_of] <;> omega
    have e5 : wr (y.2 - (y.2 * (inForce p s.day).hay).tdiv 60 - (y.2 * (inForce p s.day).drv).tdiv 60) = y.2 - (y.2 * (inForce p s.day).hay).tdiv 60 - (y.2 * (inForce p s.day).drv).tdiv 60 := by rw [wr_of] <;> omega
    rcases hpay with ⟨x1, x2⟩ | ⟨x1, x3, x4, x2⟩ <;> rw [x2] at a1 a2 b1 b2 e4 e5 ⊢ <;> simp only at a1 a2 b1 b2 e4 e5
    · by_cases hd : s.drv = 0
      · simp [x1, hd, Tariff.cvb, a1, a2, e4]
      · have : 0 < s.drv := by omega
        simp [x1, hd, this, Tariff.cvb, a1, a2, b1, b2, e4, e5]
    · by_cases hd : s.drv = 0
      · simp [x1, x3, x4, hd, Tariff.cvb, a1, a2, e4]
      · have : 0 < s.drv := by omega
        simp [x1, x3, x4, hd, this, Tariff.cvb, a1, a2, b1, b2, e4, e5]
attribute [simp] w_due w_due'
end Go.Proofs.YtabhbdehbpmpkaaGreat
namespace Go.Proofs.YtabhbdehbpmpkaaGreat
open Go Go.Sx Go.Fine
set_option maxRecDepth 10000
attribute [local simp] Bool.and_assoc Bool.or_assoc
def lotOf (p : Acc) (y k : Int) : Fine.Lot × Int := if (stayOf p y k).2 = 0 then (lot p (stayOf p y k).1 k, 0) else (⟨0, 0, 0, 0⟩, (stayOf p y k).2)
def chargedOf (p : Acc) (y k : Int) : Charge × Int := if (stayOf p y k).2 = 0 then (charge p (stayOf p y k).1 (lot p (stayOf p y k).1 k) k, 0) else (⟨0, 0, 0⟩, (stayOf p y k).2)
def duesOf (p : Acc) (y k : Int) : Due × Int := if (stayOf p y k).2 = 0 then (dueOf p (stayOf p y k).1 k, 0) else (⟨0, 0, 0, 0⟩, (stayOf p y k).2)
@[simp] theorem w_Lot (n : Nat) (p : Acc) (y k : Int) (hp : p.fits) : D (n + 11) n_fine_Lot [.row 24 (p.ts.map Tariff.cv), .row 9 (p.ss.map Held.cv), .row 7 (p.ns.map Note.cv), ci y, ci k] = some [ci (lotOf p y k).1.owner, ci (lotOf p y k).1.stop, ci (lotOf p y k).1.fin, ci (lotOf p y k).1.day, ci (lotOf p y k).2] := by
  rw [q_fine_Lot]
  simp only [R_fine_Lot, w_stayOf _ _ _ _ hp, callO_val, Held.cve, gi_z, gi_s, bne_dec, iteB_eq]
  by_cases he : (stayOf p y k).2 = 0
  · obtain ⟨hok, hk, hm, hs, _⟩ := stayOf_ok he
    have hk' := hk
    simp only [isDay, within, Bool.and_eq_true, decide_eq_true_eq] at hk'
    obtain ⟨h1, h2, _⟩ := lot_day p (stayOf p y k).1 k (by omega)
    simp [he, lotOf, hok, hs, hk, h1, (by omega : (lot p (stayOf p y k).1 k).day ≤ 100000)]
  · simp [he, lotOf]
@[simp] theorem w_Lot' (n : Nat) (p : Acc) (y k : Int) (hp : p.fits) : D (n + 7) n_r06_Lot [.row 24 (p.ts.map Tariff.cv), .row 9 (p.ss.map Held.cv), .row 7 (p.ns.map Note.cv), ci y, ci k] = some [ci (lotOf p y k).1.owner, ci (lotOf p y k).1.stop, ci (lotOf p y k).1.fin, ci (lotOf p y k).1.day, ci (lotOf p y k).2] := by
  rw [q_r06_Lot]
  simp only [R_r06_Lot, w_stayOf' _ _ _ _ hp, callO_val, Held.cve, gi_z, gi_s, bne_dec, iteB_eq]
  by_cases he : (stayOf p y k).2 = 0
  · obtain ⟨hok, hk, hm, hs, _⟩ := stayOf_ok he
    have hk' := hk
    simp only [isDay, within, Bool.and_eq_true, decide_eq_true_eq] at hk'
    obtain ⟨h1, h2, _⟩ := lot_day p (stayOf p y k).1 k (by omega)
    simp [he, lotOf, hok, hs, hk, h1, (by omega : (lot p (stayOf p y k).1 k).day ≤ 100000)]
  · simp [he, lotOf]
@[simp] theorem w_Charged (n : Nat) (p : Acc) (y k : Int) (hp : p.fits) : D (n + 11) n_fine_Charged [.row 24 (p.ts.map Tariff.cv), .row 9 (p.ss.map Held.cv), .row 7 (p.ns.map Note.cv), ci y, ci k] = some [ci (chargedOf p y k).1.head, ci (chargedOf p y k).1.feed, ci (chargedOf p y k).1.fine, ci (chargedOf p y k).2] := by
  rw [q_fine_Charged]
  simp only [R_fine_Charged, w_stayOf _ _ _ _ hp, callO_val, Held.cve, gi_z, gi_s, bne_dec, iteB_eq]
  by_cases he : (stayOf p y k).2 = 0
  · obtain ⟨hok, hk, hm, hs, _⟩ := stayOf_ok he
    have hk' := hk
    simp only [isDay, within, Bool.and_eq_true, decide_eq_true_eq] at hk'
    obtain ⟨h1, h2, _⟩ := lot_day p (stayOf p y k).1 k (by omega)
    simp [he, chargedOf, hok, hs, hk, h1, (by omega : (lot p (stayOf p y k).1 k).day ≤ 100000)]
  · simp [he, chargedOf]
@[simp] theorem w_Dues (n : Nat) (p : Acc) (y k : Int) (hp : p.fits) : D (n + 11) n_fine_Dues [.row 24 (p.ts.map Tariff.cv), .row 9 (p.ss.map Held.cv), .row 7 (p.ns.map Note.cv), ci y, ci k] = some [ci (duesOf p y k).1.payer, ci (duesOf p y k).1.hay, ci (duesOf p y k).1.drv, ci (duesOf p y k).1.lord, ci (duesOf p y k).2] := by
  rw [q_fine_Dues]
  simp only [R_fine_Dues, w_stayOf _ _ _ _ hp, callO_val, Held.cve, gi_z, gi_s, bne_dec, iteB_eq]
  by_cases he : (stayOf p y k).2 = 0
  · obtain ⟨hok, hk, hm, hs, _⟩ := stayOf_ok he
    have hk' := hk
    simp only [isDay, within, Bool.and_eq_true, decide_eq_true_eq] at hk'
    obtain ⟨h1, h2, _⟩ := lot_day p (stayOf p y k).1 k (by omega)
    simp [he, duesOf, hok, hs, hk, h1, (by omega : (lot p (stayOf p y k).1 k).day ≤ 100000)]
  · simp [he, duesOf]
@[simp] theorem w_Dues' (n : Nat) (p : Acc) (y k : Int) (hp : p.fits) : D (n + 7) n_r06_Dues [.row 24 (p.ts.map Tariff.cv), .row 9 (p.ss.map Held.cv), .row 7 (p.ns.map Note.cv), ci y, ci k] = some [ci (duesOf p y k).1.payer, ci (duesOf p y k).1.hay, ci (duesOf p y k).1.drv, ci (duesOf p y k).1.lord, ci (duesOf p y k).2] := by
  rw [q_r06_Dues]
  simp only [R_r06_Dues, w_stayOf' _ _ _ _ hp, callO_val, Held.cve, gi_z, gi_s, bne_dec, iteB_eq]
  by_cases he : (stayOf p y k).2 = 0
  · obtain ⟨hok, hk, hm, hs, _⟩ := stayOf_ok he
    have hk' := hk
    simp only [isDay, within, Bool.and_eq_true, decide_eq_true_eq] at hk'
    obtain ⟨h1, h2, _⟩ := lot_day p (stayOf p y k).1 k (by omega)
    simp [he, duesOf, hok, hs, hk, h1, (by omega : (lot p (stayOf p y k).1 k).day ≤ 100000)]
  · simp [he, duesOf]
end Go.Proofs.YtabhbdehbpmpkaaGreat
namespace Go.Proofs.YtabhbdehbpmpkaaGreat
open Go Go.Sx Go.Fine
set_option maxRecDepth 10000
attribute [local simp] Bool.and_assoc Bool.or_assoc
theorem v_Noted_c1 (M : Den) (z x : Note) : callV sg M (.fn n_fine_Noted_c1 []) [ci z.src, ci z.stay, ci z.kind, ci z.owner, ci z.day, ci z.known, ci z.til, ci x.src, ci x.stay, ci x.kind, ci x.owner, ci x.day, ci x.known, ci x.til] [.agg [li, li, li, li, li, li, li], .agg [li, li, li, li, li, li, li]] [.one li] = M n_fine_Noted_c1 [ci z.src, ci z.stay, ci z.kind, ci z.owner, ci z.day, ci z.known, ci z.til, ci x.src, ci x.stay, ci x.kind, ci x.owner, ci x.day, ci x.known, ci x.til] := rfl
@[simp] theorem w_Noted_c1 (n : Nat) (z x : Note) : D (n + 3) n_fine_Noted_c1 [ci z.src, ci z.stay, ci z.kind, ci z.owner, ci z.day, ci z.known, ci z.til, ci x.src, ci x.stay, ci x.kind, ci x.owner, ci x.day, ci x.known, ci x.til] = some [ci (if z.src < x.src then -1 else if z.src > x.src then 1 else 0)] := by
  rw [q_fine_Noted_c1]; simp [R_fine_Noted_c1]
theorem half (a b : Nat) (h : a + b < 1000) : wr (Int.fdiv (IntKind.wrap .u64 (wr ((a : Int) + (b : Int)))) 2) = ((a + b) / 2 : Nat) := by
  have e1 : wr ((a : Int) + b) = ((a + b : Nat) : Int) := by rw [wr_of] <;> omega
  have e2 : IntKind.wrap .u64 ((a + b : Nat) : Int) = ((a + b : Nat) : Int) := by rw [IntKind.wrap_u64]; omega
  rw [e1, e2, Int.fdiv_eq_ediv_of_nonneg _ (by omega), wr_of] <;> omega
theorem acc_lt {p : Acc} (hp : p.ok = true) : ∀ (j i : Nat) (hj : j < p.ns.length) (hi : i < j), p.ns[i].src < p.ns[j].src := by
  simp only [Acc.ok, listOk, Bool.and_eq_true] at hp
  have h1 := rising_iff.1 hp.2.1.2
  intro j i hj hi
  have := rising_lt (l := p.ns.map Note.src) h1 j i (by simpa using hj) hi
  simpa using this
theorem w_BSF (n : Nat) (p : Acc) (x : Note) (hp : p.ok = true) : D (n + 4) n_slices_BinarySearchFunc_Note [.row 7 (p.ns.map Note.cv), ci x.src, ci x.stay, ci x.kind, ci x.owner, ci x.day, ci x.known, ci x.til, .fn n_fine_Noted_c1 []] = some [ci (posN p.ns x.src), cb (p.ns.any fun z => decide (z.src = x.src))] := by
  rw [q_slices_BinarySearchFunc_Note]
  unfold R_slices_BinarySearchFunc_Note
  obtain ⟨_, _, hlen⟩ := p.ok_len hp
  have hlt := acc_lt hp
  obtain ⟨hpos, hiff⟩ := posN_spec hlt x.src
  generalize hst : (fun (v0 : List CV) => _) = step
  have hstep : ∀ (a b : Nat), a < b → b ≤ p.ns.length → step [ci a, ci b] = some (.nx (if ((a + b) / 2 : Nat) < posN p.ns x.src then [ci (((a + b) / 2 + 1 : Nat) : Int), ci b] else [ci a, ci (((a + b) / 2 : Nat) : Int)])) := by
    intro a b h1 h2
    have hh := half a b (by omega)
    obtain ⟨m, hm⟩ : ∃ m, m = (a + b) / 2 := ⟨_, rfl⟩
    have hml : m < p.ns.length := by omega
    have hmm := hiff m hml
    have hw := wr_nat (show m < 9223372036854775807 by omega)
    rw [← hst]
    simp only [gi_z, gi_s, hh, ← hm, show (a : Int) < b by omega, decide_true, iteB_eq, if_true, inb_map hml, el_map hml, chk_true]
    by_cases hc : p.ns[m].src < x.src
    · rw [if_pos (hmm.1 hc)]
      simp [Note.cv, v_Noted_c1, hc, hw]
    · rw [if_neg (fun h => hc (hmm.2 h))]
      by_cases hd : p.ns[m].src > x.src <;> simp [Note.cv, v_Noted_c1, hc, hd]
  have hend : ∀ (a : Nat), step [ci a, ci a] = some (.br 0 [ci a]) := by
    intro a; rw [← hst]; simp
  have key : ∀ (m a b : Nat), b - a = m → a ≤ posN p.ns x.src → posN p.ns x.src ≤ b → b ≤ p.ns.length → loopD step [ci a, ci b] = some (.br 0 [ci (posN p.ns x.src)]) := by
    intro m
    induction m using Nat.strongRecOn with
    | _ m ih =>
      intro a b h1 h2 h3 h4
      by_cases e : a = b
      · subst e
        rw [loop_end (hend a) (by simp), show posN p.ns x.src = a by omega]
      · rw [loop_eq (hstep a b (by omega) h4)]
        split
        · exact ih _ (by omega) _ _ rfl (by omega) h3 h4
        · exact ih _ (by omega) _ _ rfl h2 (by omega) (by omega)
  have hrun := key _ 0 p.ns.length rfl (by omega) hpos (by omega)
  rw [show ([ci 0, ci (il (p.ns.map Note.cv))] : List CV) = [ci ((0 : Nat) : Int), ci p.ns.length] by simp, hrun]
  generalize hi : posN p.ns x.src = i0 at *
  by_cases hlt' : i0 < p.ns.length
  · have hn : ¬ p.ns[i0].src < x.src := fun h => by have := (hiff i0 hlt').1 h; omega
    have hany : (p.ns.any fun z => decide (z.src = x.src)) = decide (p.ns[i0].src = x.src) := by
      rw [Bool.eq_iff_iff, List.any_eq_true]
      constructor
      · rintro ⟨z, hz, he⟩
        obtain ⟨j, hj, rfl⟩ := List.mem_iff_getElem.1 hz
        simp only [decide_eq_true_eq] at he ⊢
        have h5 : ¬ j < i0 := fun h => by have := (hiff j hj).2 h; omega
        by_cases h6 : j = i0
        · subst h6; exact he
        · have := hlt j i0 hj (by omega); omega
      · intro he; exact ⟨_, List.getElem_mem hlt', he⟩
    rw [hany]
    by_cases hd : p.ns[i0].src > x.src
    · simp [hlt', inb_map, el_map, Note.cv, v_Noted_c1, hn, hd, show ¬ p.ns[i0].src = x.src by omega]
    · have he : p.ns[i0].src = x.src := by omega
      simp [hlt', inb_map, el_map, Note.cv, v_Noted_c1, hn, hd]; simp [he]
  · have hany : (p.ns.any fun z => decide (z.src = x.src)) = false := by
      rw [Bool.eq_false_iff]; intro h
      obtain ⟨z, hz, he⟩ := List.any_eq_true.1 h
      obtain ⟨j, hj, rfl⟩ := List.mem_iff_getElem.1 hz
      simp only [decide_eq_true_eq] at he
      have := (hiff j hj).2 (by omega); omega
    simp [hlt', hany]
@[simp] theorem w_Clone_T (n : Nat) (l : List Tariff) (h : l.length ≤ 1000) : D (n + 1) n_slices_Clone_Tariff [.row 24 (l.map Tariff.cv)] = some [.row 24 (l.map Tariff.cv)] := by
  rw [q_slices_Clone_Tariff]
  unfold R_slices_Clone_Tariff
  rw [clone_row _ _ _ _ (by omega) (by omega)]; rfl
@[simp] theorem w_Clone_H (n : Nat) (l : List Held) (h : l.length ≤ 1000) : D (n + 1) n_slices_Clone_Held [.row 9 (l.map Held.cv)] = some [.row 9 (l.map Held.cv)] := by
  rw [q_slices_Clone_Held]
  unfold R_slices_Clone_Held
  rw [clone_row _ _ _ _ (by omega) (by omega)]; rfl
@[simp] theorem w_Clone_N (n : Nat) (l : List Note) (h : l.length ≤ 1000) : D (n + 1) n_slices_Clone_Note [.row 7 (l.map Note.cv)] = some [.row 7 (l.map Note.cv), .fn 58 []] := D_clone n _ (fitA_of (by simp; omega) (by simp; omega))
@[simp] theorem w_Noted (n : Nat) (p : Acc) (x : Note) (hp : p.fits) : D (n + 9) n_fine_Noted [.row 24 (p.ts.map Tariff.cv), .row 9 (p.ss.map Held.cv), .row 7 (p.ns.map Note.cv), ci x.src, ci x.stay, ci x.kind, ci x.owner, ci x.day, ci x.known, ci x.til] = some [.row 24 ((noted p x).1.ts.map Tariff.cv), .row 9 ((noted p x).1.ss.map Held.cv), .row 7 ((noted p x).1.ns.map Note.cv), ci (noted p x).2] := by
  rw [q_fine_Noted]
  simp only [R_fine_Noted, w_Check _ _ hp, callO_val, gi_z, bne_dec, iteB_eq, check]
  cases hok : p.ok with
  | false => simp [noted, hok, Acc.none]
  | true =>
    obtain ⟨l1, l2, l3⟩ := p.ok_len hok
    have hpos := (posN_spec (acc_lt hok) x.src).1
    have hb := w_BSF (n + 4) p x hok
    simp only [if_true, decide_true, Bool.not_true, Bool.false_eq_true, if_false, hb, callO_val]
    cases hx : x.ok with
    | false => simp [noted, hok, hx, Acc.none]
    | true =>
      cases hy : p.ns.any fun z => decide (z.src = x.src) with
      | true => simp [noted, hok, hx, hy, Acc.none]
      | false =>
        by_cases h60 : p.ns.length = 60
        · simp [noted, hok, hx, hy, h60, Acc.none]
        · have hf : fitA p.ns.length 1 56 = true := fitA_of (by omega) (by omega)
          have h60' : ¬ ((p.ns.length : Int) = 60) := by omega
          have l1' : p.ts.length ≤ 1000 := by omega
          have l2' : p.ss.length ≤ 1000 := by omega
          have l3' : p.ns.length ≤ 1000 := by omega
          have hpos' : ((posN p.ns x.src : Nat) : Int) ≤ p.ns.length := by omega
          simp [noted, hok, hx, hy, h60, h60', l1', l2', l3', ownR, insR, D_ins, hf, hpos, List.map_take, List.map_drop, Note.cv]
end Go.Proofs.YtabhbdehbpmpkaaGreat
namespace Go.Proofs.YtabhbdehbpmpkaaGreat
open Go Go.Sx Go.Fine
set_option maxRecDepth 10000
attribute [local simp] Bool.and_assoc Bool.or_assoc
def eqP (a b : Post) : Bool := decide (a.day = b.day) && (decide (a.stay = b.stay) && (decide (a.frm = b.frm) && (decide (a.to = b.to) && decide (a.amt = b.amt))))
def eqI (a b : Int) : Bool := decide (a = b)
def eqT (a b : Tariff) : Bool := decide (a.frm = b.frm) && (decide (a.h0 = b.h0) && (decide (a.h1 = b.h1) && (decide (a.h2 = b.h2) && (decide (a.h3 = b.h3) && (decide (a.h4 = b.h4) && (decide (a.h5 = b.h5) && (decide (a.h6 = b.h6) && (decide (a.h7 = b.h7) && (decide (a.h8 = b.h8) && (decide (a.h9 = b.h9) && (decide (a.d0 = b.d0) && (decide (a.d1 = b.d1) && (decide (a.d2 = b.d2) && (decide (a.d3 = b.d3) && (decide (a.d4 = b.d4) && (decide (a.d5 = b.d5) && (decide (a.d6 = b.d6) && (decide (a.d7 = b.d7) && (decide (a.d8 = b.d8) && (decide (a.d9 = b.d9) && (decide (a.feed = b.feed) && (decide (a.hay = b.hay) && (decide (a.drv = b.drv))))))))))))))))))))))))
theorem eqP_refl (a : Post) : eqP a a = true := by simp [eqP]
theorem eqI_refl (a : Int) : eqI a a = true := by simp [eqI]
theorem w_Same (n : Nat) (a b : List Post) (ha : a.length < 9223372036854775807) : D (n + 1) n_r06_Same [.row 5 (a.map Post.cv), .row 5 (b.map Post.cv)] = some [cb (sameL eqP a b)] := by
  rw [q_r06_Same]
  unfold R_r06_Same
  rw [loop_all a.length (decide (a.length = b.length)) (atB eqP a b) 0 ?hv (fun h i hi => ?hs) (fun i => ?hf) (fun h => ?he)]
  case hv =>
    have e : ((a.length : Int) = b.length) = (a.length = b.length) := by apply propext; omega
    simp [e]
  case hf => simp
  case he => simp
  case hs =>
    have hi' : i < b.length := by simp at h; omega
    have hw := wr_nat (show i < 9223372036854775807 by omega)
    simp [hi, hi', inb_map, el_map, Post.cv, hw, atB, eqP]
  · rw [sameL_all]; simp
theorem w_SameInts (n : Nat) (a b : List Int) (ha : a.length < 9223372036854775807) : D (n + 1) n_r06_SameInts [.row 1 (ints a), .row 1 (ints b)] = some [cb (sameL eqI a b)] := by
  rw [q_r06_SameInts]
  unfold R_r06_SameInts
  rw [loop_all a.length (decide (a.length = b.length)) (atB eqI a b) 0 ?hv (fun h i hi => ?hs) (fun i => ?hf) (fun h => ?he)]
  case hv =>
    have e : ((a.length : Int) = b.length) = (a.length = b.length) := by apply propext; omega
    simp [ints, e]
  case hf => simp
  case he => simp [ints]
  case hs =>
    have hi' : i < b.length := by simp at h; omega
    have hw := wr_nat (show i < 9223372036854775807 by omega)
    simp [hi, hi', ints, inb_map, el_map, hw, atB, eqI]
  · rw [sameL_all]; simp
end Go.Proofs.YtabhbdehbpmpkaaGreat
