/-
 The laws of the stints of a common hold at every input, without any condition.
-/
import Derived.Test.YtfgdfpnkhdlmfaaGreatP12
set_option linter.unusedVariables false
set_option linter.unusedSimpArgs false
namespace Go.Proofs.YtfgdfpnkhdlmfaaGreat
open Go Go.Sx Go.Stint Go.ChangeShapes Go.WideShapes Go.ChangeAt Go.RowKit
set_option maxRecDepth 100000
theorem OZ (css:List (List CV)) (h:bO Tryz.prog 6 Tryz.f14.params.toList css):SpecR Tryz.prog 14 (sL Tryz.prog Tryz.f14.params.toList css) (.cv (cb true)):=by
 rw [Tryz.params14] at h ⊢
 match css,h with
 | [c1,c2,c3],h =>
  simp only [bO,and_true] at h;obtain ⟨h1,h2,h3⟩:=h;obtain ⟨y0,ut,rfl⟩:=BZ h1;obtain ⟨a1_0,a1_1,rfl⟩:=yS h2;obtain ⟨a2_0,a2_1,a2_2,a2_3,rfl⟩:=aGc h3;exact sM (g:=aKc.g) rfl (aAV yQ 0 y0 a1_0 a1_1 a2_0 a2_1 a2_2 a2_3 ut)
 | [],h=>simp [bO] at h
 | [_],h=>simp [bO] at h
 | [_,_],h=>simp [bO] at h
 | _::_::_::_::_,h=>simp [bO] at h
theorem IS (os:Os) (started:os.Started) (H:Type) (enc:TypeId×Value->H) :
  ReturnsInHanded {} Tryz.checked os 14 .any (Rows.stintOneSpec.pre6 enc Tryz.prog Tryz.f14 Rows.stintOneRow.domain false) (Rows.stintOneSpec.post enc Tryz.prog Tryz.f14 false true false false):=
 pE (C:=Tryz.checked) (tb:=4) 6 Tryz.own started (by kernel_rfl) Tryz.func14 Tryz.kids Tryz.full
  (by rw [Tryz.params14];intro t ht;simp only [List.mem_cons,List.not_mem_nil,or_false] at ht;rcases ht with rfl | rfl | rfl <;> exact of_decide_eq_true (by kernel_rfl))
  (by kernel_rfl) (by rfl) Tryz.underlying4 rfl
  (fun ds h=>by
   rw [Tryz.params14] at h
   match ds,h with
   | [_,_,_],_=>rfl)
  (ChangeSpec.witness6 (enc:=enc) (C:=Tryz.checked) false ⟨#[],#[.agg #[.slice none 0 0,.slice none 0 0,.slice none 0 0],.agg #[.int .i64 0,.int .i64 0],.agg #[.int .i64 0,.int .i64 0,.int .i64 0,.int .i64 0]],[]⟩ 8 (by kernel_rfl) (by kernel_rfl) (by kernel_rfl) (by kernel_rfl))
  OZ
theorem stintOne_holds:Rows.StintOneSaid:=
 OpenClaim.holds_of_wide 14 Tryz.f14 rfl rfl rfl rfl rfl rfl rfl ⟨rfl,rfl,rfl,rfl,rfl⟩ rfl rfl rfl rfl rfl (by kernel_rfl) Tryz.func14 (by kernel_rfl)
  (of_decide_eq_true (by kernel_rfl)) (by unfold Func.isWrapper;first | (rw [if_pos (by decide +kernel)];kernel_rfl) | (rw [if_neg (by decide +kernel)];exact ⟨rfl,rfl⟩))
  (fun os started H enc _=>IS os started H enc)
end Go.Proofs.YtfgdfpnkhdlmfaaGreat
