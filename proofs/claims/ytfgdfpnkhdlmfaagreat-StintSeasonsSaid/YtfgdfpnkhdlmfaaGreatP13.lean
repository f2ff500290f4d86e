/-
 The laws of the stints of a common hold at every input, without any condition.
-/
import Derived.Test.YtfgdfpnkhdlmfaaGreatP12
set_option linter.unusedVariables false
set_option linter.unusedSimpArgs false
namespace Go.Proofs.YtfgdfpnkhdlmfaaGreat
open Go Go.Sx Go.Stint Go.ChangeShapes Go.WideShapes Go.ChangeAt Go.RowKit
set_option maxRecDepth 100000
theorem EG (css:List (List CV)) (h:bO Tryz.prog 6 Tryz.f3.params.toList css):SpecR Tryz.prog 3 (sL Tryz.prog Tryz.f3.params.toList css) (.cv (cb true)):=by
 rw [Tryz.params3] at h ⊢
 match css,h with
 | [c1,c2],h =>
  simp only [bO,and_true] at h;obtain ⟨h1,h2⟩:=h;obtain ⟨p,rfl⟩:=UQ h1;obtain ⟨day,rfl⟩:=cT h2;exact sM (g:=fe3.g) rfl (NG yQ 0 p day)
 | [],h=>simp [bO] at h
 | [_],h=>simp [bO] at h
 | _::_::_::_,h=>simp [bO] at h
theorem zZ (os:Os) (started:os.Started) (H:Type) (enc:TypeId×Value->H) :
  ReturnsInHanded {} Tryz.checked os 3 .any (Rows.stintSeasonsSpec.pre6 enc Tryz.prog Tryz.f3 Rows.stintSeasonsRow.domain false) (Rows.stintSeasonsSpec.post enc Tryz.prog Tryz.f3 false true false false):=
 pE (C:=Tryz.checked) (tb:=4) 6 Tryz.own started (by kernel_rfl) Tryz.func3 Tryz.kids Tryz.full
  (by rw [Tryz.params3];intro t ht;simp only [List.mem_cons,List.not_mem_nil,or_false] at ht;rcases ht with rfl | rfl <;> exact of_decide_eq_true (by kernel_rfl))
  (by kernel_rfl) (by rfl) Tryz.underlying4 rfl
  (fun ds h=>by
   rw [Tryz.params3] at h
   match ds,h with
   | [_,_],_=>rfl)
  (ChangeSpec.witness6 (enc:=enc) (C:=Tryz.checked) false ⟨#[],#[.agg #[.int .i64 0,.int .i64 0,.int .i64 0],.int .i64 0],[]⟩ 8 (by kernel_rfl) (by kernel_rfl) (by kernel_rfl) (by kernel_rfl))
  EG
theorem stintSeasons_holds:Rows.StintSeasonsSaid:=
 OpenClaim.holds_of_wide 3 Tryz.f3 rfl rfl rfl rfl rfl rfl rfl ⟨rfl,rfl,rfl,rfl,rfl⟩ rfl rfl rfl rfl rfl (by kernel_rfl) Tryz.func3 (by kernel_rfl)
  (of_decide_eq_true (by kernel_rfl)) (by unfold Func.isWrapper;first | (rw [if_pos (by decide +kernel)];kernel_rfl) | (rw [if_neg (by decide +kernel)];exact ⟨rfl,rfl⟩))
  (fun os started H enc _=>zZ os started H enc)
end Go.Proofs.YtfgdfpnkhdlmfaaGreat
