/-
 The laws of a pinder's court (plaints) hold at every input, without any condition.
-/
import Derived.Test.YtgpnoeojpmaeiaaGreatP12
set_option linter.unusedSectionVars false
set_option linter.unusedVariables false
set_option linter.unusedSimpArgs false
namespace Go.Proofs.YtgpnoeojpmaeiaaGreat
open Go Go.Sx Go.Plaint Go.ChangeShapes Go.WideShapes Go.ChangeAt Go.RowKit
set_option maxRecDepth 100000
theorem aKD (css:List (List CV)) (h:uN Tryz.prog 6 Tryz.f4.params.toList css):@SpecR ghost0 Tryz.prog (gS Tryz.prog) 4 (GA Tryz.prog Tryz.f4.params.toList css) (.cv (cb true)):=by
 rw [Tryz.params4] at h ⊢
 match css,h with
 | [c1,c2],h =>
  simp only [uN,and_true] at h;obtain ⟨h1,h2⟩:=h;obtain ⟨r,hr,rfl⟩:=aEN h1;obtain ⟨k,rfl⟩:=NZ h2;exact aIB (g:=fe4.g) rfl (aKO 0 aGz hr k) (by kernel_rfl) (by kernel_rfl)
 | [],h=>simp [uN] at h
 | [_],h=>simp [uN] at h
 | _::_::_::_,h=>simp [uN] at h
theorem aKy (os:Os) (started:os.Started) (H:Type) (enc:TypeId×Value->H) :
  ReturnsInLeavingWide {} Tryz.checked os 4 .any (Rows.plaintSpareSpec.pre6 enc Tryz.prog Tryz.f4 Rows.plaintSpareRow.domain false) (Rows.plaintSpareSpec.post enc Tryz.prog Tryz.f4 false true false false):=
 ZN (Gh:=ghost0) (C:=Tryz.checked) (tb:=4) 6 Tryz.own started (by kernel_rfl) Tryz.func4 Tryz.kids Tryz.full
  (by rw [Tryz.params4];intro t ht;simp only [List.mem_cons,List.not_mem_nil,or_false] at ht;rcases ht with rfl | rfl <;> exact of_decide_eq_true (by kernel_rfl))
  (by kernel_rfl) (by rfl) Tryz.underlying4 rfl
  (fun ds h=>by
   rw [Tryz.params4] at h
   match ds,h with
   | [_,_],_=>rfl)
  (ChangeSpec.witness6 (enc:=enc) (C:=Tryz.checked) false ⟨#[],#[.agg #[.slice none 0 0,.slice none 0 0,.slice none 0 0],.int .i64 0],[]⟩ 8 (by kernel_rfl) (by kernel_rfl) (by kernel_rfl) (by kernel_rfl))
  aKD
theorem plaintSpare_holds:Rows.PlaintSpareSaid:=
 OpenClaim.holds_of_wide_leaving 4 Tryz.f4 rfl rfl rfl rfl rfl rfl rfl ⟨rfl,rfl,rfl,rfl,rfl⟩ rfl rfl rfl rfl rfl (by kernel_rfl) Tryz.func4 (by kernel_rfl)
  (of_decide_eq_true (by kernel_rfl)) (by unfold Func.isWrapper;first | (rw [if_pos (by decide +kernel)];kernel_rfl) | (rw [if_neg (by decide +kernel)];exact ⟨rfl,rfl⟩))
  (fun os started H enc _=>aKy os started H enc)
end Go.Proofs.YtgpnoeojpmaeiaaGreat
