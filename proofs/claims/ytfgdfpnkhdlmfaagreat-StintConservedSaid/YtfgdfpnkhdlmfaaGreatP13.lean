/-
 The laws of the stints of a common hold at every input, without any condition.
-/
import Derived.Test.YtfgdfpnkhdlmfaaGreatP12
set_option linter.unusedVariables false
set_option linter.unusedSimpArgs false
namespace Go.Proofs.YtfgdfpnkhdlmfaaGreat
open Go Go.Sx Go.Stint Go.ChangeShapes Go.WideShapes Go.ChangeAt Go.RowKit
set_option maxRecDepth 100000
theorem zY (css:List (List CV)) (h:bO Tryz.prog 6 Tryz.f10.params.toList css):SpecR Tryz.prog 10 (sL Tryz.prog Tryz.f10.params.toList css) (.cv (cb true)):=by
 rw [Tryz.params10] at h ⊢
 match css,h with
 | [c1,c2],h =>
  simp only [bO,and_true] at h;obtain ⟨h1,h2⟩:=h;obtain ⟨y0,ut,rfl⟩:=BZ h1;obtain ⟨a1_0,a1_1,rfl⟩:=yS h2;exact sM (g:=aJ9.g) rfl (GG yQ 0 y0 a1_0 a1_1 ut)
 | [],h=>simp [bO] at h
 | [_],h=>simp [bO] at h
 | _::_::_::_,h=>simp [bO] at h
theorem wV (os:Os) (started:os.Started) (H:Type) (enc:TypeId×Value->H) :
  ReturnsInHanded {} Tryz.checked os 10 .any (Rows.stintConservedSpec.pre6 enc Tryz.prog Tryz.f10 Rows.stintConservedRow.domain false) (Rows.stintConservedSpec.post enc Tryz.prog Tryz.f10 false true false false):=
 pE (C:=Tryz.checked) (tb:=4) 6 Tryz.own started (by kernel_rfl) Tryz.func10 Tryz.kids Tryz.full
  (by rw [Tryz.params10];intro t ht;simp only [List.mem_cons,List.not_mem_nil,or_false] at ht;rcases ht with rfl | rfl <;> exact of_decide_eq_true (by kernel_rfl))
  (by kernel_rfl) (by rfl) Tryz.underlying4 rfl
  (fun ds h=>by
   rw [Tryz.params10] at h
   match ds,h with
   | [_,_],_=>rfl)
  (ChangeSpec.witness6 (enc:=enc) (C:=Tryz.checked) false ⟨#[],#[.agg #[.slice none 0 0,.slice none 0 0,.slice none 0 0],.agg #[.int .i64 0,.int .i64 0]],[]⟩ 8 (by kernel_rfl) (by kernel_rfl) (by kernel_rfl) (by kernel_rfl))
  zY
theorem stintConserved_holds:Rows.StintConservedSaid:=
 OpenClaim.holds_of_wide 10 Tryz.f10 rfl rfl rfl rfl rfl rfl rfl ⟨rfl,rfl,rfl,rfl,rfl⟩ rfl rfl rfl rfl rfl (by kernel_rfl) Tryz.func10 (by kernel_rfl)
  (of_decide_eq_true (by kernel_rfl)) (by unfold Func.isWrapper;first | (rw [if_pos (by decide +kernel)];kernel_rfl) | (rw [if_neg (by decide +kernel)];exact ⟨rfl,rfl⟩))
  (fun os started H enc _=>wV os started H enc)
end Go.Proofs.YtfgdfpnkhdlmfaaGreat
