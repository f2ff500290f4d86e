/-
 The laws of the stints of a common hold at every input, without any condition.
-/
import Derived.Test.YtfgdfpnkhdlmfaaGreatP12
set_option linter.unusedVariables false
set_option linter.unusedSimpArgs false
namespace Go.Proofs.YtfgdfpnkhdlmfaaGreat
open Go Go.Sx Go.Stint Go.ChangeShapes Go.WideShapes Go.ChangeAt Go.RowKit
set_option maxRecDepth 100000
theorem IT (css:List (List CV)) (h:bO Tryz.prog 6 Tryz.f13.params.toList css):SpecR Tryz.prog 13 (sL Tryz.prog Tryz.f13.params.toList css) (.cv (cb true)):=by
 rw [Tryz.params13] at h ⊢
 match css,h with
 | [c1,c2,c3],h =>
  simp only [bO,and_true] at h;obtain ⟨h1,h2,h3⟩:=h;obtain ⟨y,hy,rfl⟩:=BZ h1;obtain ⟨l,hl,rfl⟩:=aBV h2;obtain ⟨u,v,rfl⟩:=aH3 h3;exact sM (g:=aKb.g) rfl (UN yQ 0 y l u v hy hl)
 | [],h=>simp [bO] at h
 | [_],h=>simp [bO] at h
 | [_,_],h=>simp [bO] at h
 | _::_::_::_::_,h=>simp [bO] at h
theorem EH (os:Os) (started:os.Started) (H:Type) (enc:TypeId×Value->H) :
  ReturnsInHanded {} Tryz.checked os 13 .any (Rows.stintJoinsSpec.pre6 enc Tryz.prog Tryz.f13 Rows.stintJoinsRow.domain false) (Rows.stintJoinsSpec.post enc Tryz.prog Tryz.f13 false true false false):=
 pE (C:=Tryz.checked) (tb:=4) 6 Tryz.own started (by kernel_rfl) Tryz.func13 Tryz.kids Tryz.full
  (by rw [Tryz.params13];intro t ht;simp only [List.mem_cons,List.not_mem_nil,or_false] at ht;rcases ht with rfl | rfl | rfl <;> exact of_decide_eq_true (by kernel_rfl))
  (by kernel_rfl) (by rfl) Tryz.underlying4 rfl
  (fun ds h=>by
   rw [Tryz.params13] at h
   match ds,h with
   | [_,_,_],_=>rfl)
  (ChangeSpec.witness6 (enc:=enc) (C:=Tryz.checked) false ⟨#[],#[.agg #[.slice none 0 0,.slice none 0 0,.slice none 0 0],.slice none 0 0,.agg #[.int .i64 0,.int .i64 0]],[]⟩ 8 (by kernel_rfl) (by kernel_rfl) (by kernel_rfl) (by kernel_rfl))
  IT
theorem stintJoins_holds:Rows.StintJoinsSaid:=
 OpenClaim.holds_of_wide 13 Tryz.f13 rfl rfl rfl rfl rfl rfl rfl ⟨rfl,rfl,rfl,rfl,rfl⟩ rfl rfl rfl rfl rfl (by kernel_rfl) Tryz.func13 (by kernel_rfl)
  (of_decide_eq_true (by kernel_rfl)) (by unfold Func.isWrapper;first | (rw [if_pos (by decide +kernel)];kernel_rfl) | (rw [if_neg (by decide +kernel)];exact ⟨rfl,rfl⟩))
  (fun os started H enc _=>EH os started H enc)
end Go.Proofs.YtfgdfpnkhdlmfaaGreat
