/-
  Proved: each stay that counts, and has begun, is inside, or in just one way ended; no beast is forfeit whose owner was known within the year, none is held beyond MaxKept days; the buyer pays no more than the feed cost; conditions: none.
-/
import Derived.Test.YtabhbdehbpmpkaaRows
import Derived.Test.YtabhbdehbpmpkaaP10
namespace Go.Proofs.Ytabhbdehbpmpkaa
open Go Go.Sx Go.Fine Go.ChangeShapes Go.WideShapes Go.ChangeAt Go.RowKit
set_option maxRecDepth 100000
theorem Try.own : ownKnob Try.prog.godebug = none := by kernel_rfl
theorem Try.kids : Kids Try.prog (· < Try.prog.types.size) := kids_rows (by kernel_rfl) (by kernel_rfl)
theorem Try.full : ∀ t e, t < Try.prog.types.size → Try.prog.underlying t = some (.slice e) → 0 < Try.prog.cellsOf e := slices_full_of Try.prog (by kernel_rfl)
theorem spec_of {f : FuncId} {g : Sig} {vs out : List CV} {n : Nat} (hg : sg f = some g) (h : D n f vs = some out) : SpecR Try.prog f (Sc.avs g.ps vs 0) (Sc.res g.rs out) := (den_fns its_ok tb_ok n).spec f g vs out hg h
end Go.Proofs.Ytabhbdehbpmpkaa
namespace Go.Proofs.Ytabhbdehbpmpkaa
open Go Go.Sx Go.Fine Go.ChangeShapes Go.WideShapes Go.ChangeAt Go.RowKit
set_option maxRecDepth 100000
theorem fineEnds_spec (css : List (List CV)) (h : ShpAll Try.prog 6 Try.f11.params.toList css) : SpecR Try.prog 11 (avsOf Try.prog Try.f11.params.toList css) (.cv (cb true)) := by
  rw [Try.params11] at h ⊢
  match css, h with
  | [c1, c2], h =>
    simp only [ShpAll, and_true] at h
    obtain ⟨h1, h2⟩ := h
    obtain ⟨p0, hp0, rfl⟩ := shp_raw h1
    obtain ⟨y1, rfl, _⟩ := shp_int h2
    exact spec_of (g := fe11.g) rfl (w_FineEnds 0 p0 y1 hp0)
  | [], h => simp [ShpAll] at h
  | [_], h => simp [ShpAll] at h
  | _ :: _ :: _ :: _, h => simp [ShpAll] at h
theorem fineEnds_lifted (os : Os) (started : os.Started) (H : Type) (enc : TypeId × Value → H) :
    ReturnsInHanded {} Try.checked os 11 .any (Rows.fineEndsSpec.pre6 enc Try.prog Try.f11 Rows.fineEndsRow.domain false) (Rows.fineEndsSpec.post enc Try.prog Try.f11 false true false false) :=
  law_lift (C := Try.checked) (tb := 4) 6 Try.own started (by kernel_rfl) Try.func11 Try.kids Try.full
    (by rw [Try.params11]; intro t ht; simp only [List.mem_cons, List.not_mem_nil, or_false] at ht; rcases ht with rfl | rfl <;> exact of_decide_eq_true (by kernel_rfl))
    (by kernel_rfl) (by rfl) Try.underlying4 rfl
    (fun ds h => by
      rw [Try.params11] at h
      match ds, h with
      | [_, _], _ => rfl)
    (ChangeSpec.witness6 (enc := enc) (C := Try.checked) false ⟨#[], #[.agg #[.slice none 0 0, .slice none 0 0, .slice none 0 0], .int .i64 0], []⟩ 8 (by kernel_rfl) (by kernel_rfl) (by kernel_rfl) (by kernel_rfl))
    fineEnds_spec
theorem fineEnds_holds : Rows.FineEndsSaid :=
  OpenClaim.holds_of_wide 11 Try.f11 rfl rfl rfl rfl rfl rfl rfl ⟨rfl, rfl, rfl, rfl, rfl⟩ rfl rfl rfl rfl rfl (by kernel_rfl) Try.func11 (by kernel_rfl)
    (of_decide_eq_true (by kernel_rfl)) (by unfold Func.isWrapper; first | (rw [if_pos (by decide +kernel)]; kernel_rfl) | (rw [if_neg (by decide +kernel)]; exact ⟨rfl, rfl⟩))
    (fun os started H enc _ => fineEnds_lifted os started H enc)
end Go.Proofs.Ytabhbdehbpmpkaa
