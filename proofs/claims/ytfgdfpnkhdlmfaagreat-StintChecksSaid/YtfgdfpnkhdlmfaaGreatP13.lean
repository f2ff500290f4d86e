/-
 The laws of the stints of a common hold at every input, without any condition.
-/
import Derived.Test.YtfgdfpnkhdlmfaaGreatP12
set_option linter.unusedVariables false
set_option linter.unusedSimpArgs false
namespace Go.Proofs.YtfgdfpnkhdlmfaaGreat
open Go Go.Sx Go.Stint Go.ChangeShapes Go.WideShapes Go.ChangeAt Go.RowKit
set_option maxRecDepth 100000
theorem GI (css:List (List CV)) (h:bO Tryz.prog 6 Tryz.f12.params.toList css):SpecR Tryz.prog 12 (sL Tryz.prog Tryz.f12.params.toList css) (.cv (cb true)):=by
 rw [Tryz.params12] at h ⊢
 match css,h with
 | [c1,c2],h =>
  simp only [bO,and_true] at h;obtain ⟨h1,h2⟩:=h;obtain ⟨y,hy,rfl⟩:=BZ h1;obtain ⟨p,b,x,rfl⟩:=aH2 h2;exact sM (g:=aKa.g) rfl (OY yQ 0 y p b x hy)
 | [],h=>simp [bO] at h
 | [_],h=>simp [bO] at h
 | _::_::_::_,h=>simp [bO] at h
theorem CB (os:Os) (started:os.Started) (H:Type) (enc:TypeId×Value->H) :
  ReturnsInHanded {} Tryz.checked os 12 .any (Rows.stintChecksSpec.pre6 enc Tryz.prog Tryz.f12 Rows.stintChecksRow.domain false) (Rows.stintChecksSpec.post enc Tryz.prog Tryz.f12 false true false false):=
 pE (C:=Tryz.checked) (tb:=4) 6 Tryz.own started (by kernel_rfl) Tryz.func12 Tryz.kids Tryz.full
  (by rw [Tryz.params12];intro t ht;simp only [List.mem_cons,List.not_mem_nil,or_false] at ht;rcases ht with rfl | rfl <;> exact of_decide_eq_true (by kernel_rfl))
  (by kernel_rfl) (by rfl) Tryz.underlying4 rfl
  (fun ds h=>by
   rw [Tryz.params12] at h
   match ds,h with
   | [_,_],_=>rfl)
  (ChangeSpec.witness6 (enc:=enc) (C:=Tryz.checked) false ⟨#[],#[.agg #[.slice none 0 0,.slice none 0 0,.slice none 0 0],.agg #[.int .i64 0,.int .i64 0,.int .i64 0,.int .i64 0,.int .i64 0,.int .i64 0,.int .i64 0,.int .i64 0,.int .i64 0,.int .i64 0,.int .i64 0,.int .i64 0,.int .i64 0,.int .i64 0,.int .i64 0,.int .i64 0,.int .i64 0,.int .i64 0,.int .i64 0,.int .i64 0,.int .i64 0,.int .i64 0,.int .i64 0,.int .i64 0,.int .i64 0,.int .i64 0,.int .i64 0,.int .i64 0,.int .i64 0]],[]⟩ 8 (by kernel_rfl) (by kernel_rfl) (by kernel_rfl) (by kernel_rfl))
  GI
theorem stintChecks_holds:Rows.StintChecksSaid:=
 OpenClaim.holds_of_wide 12 Tryz.f12 rfl rfl rfl rfl rfl rfl rfl ⟨rfl,rfl,rfl,rfl,rfl⟩ rfl rfl rfl rfl rfl (by kernel_rfl) Tryz.func12 (by kernel_rfl)
  (of_decide_eq_true (by kernel_rfl)) (by unfold Func.isWrapper;first | (rw [if_pos (by decide +kernel)];kernel_rfl) | (rw [if_neg (by decide +kernel)];exact ⟨rfl,rfl⟩))
  (fun os started H enc _=>CB os started H enc)
end Go.Proofs.YtfgdfpnkhdlmfaaGreat
