/-
  Proved: each stay that counts, and has begun, is inside, or in just one way ended; no beast is forfeit whose owner was known within the year, none is held beyond MaxKept days; the buyer pays no more than the feed cost; conditions: none.
-/
import Derived.KernelRfl
import Derived.Test.YtabhbdehbpmpkaaP09
namespace Go.Proofs.Ytabhbdehbpmpkaa
open Go Go.Sx Go.Fine
set_option maxRecDepth 10000
attribute [local simp] Bool.and_assoc Bool.or_assoc
theorem rising_iff : ∀ {l : List Int}, rising l = true ↔ ∀ i (h : i + 1 < l.length), l[i] < l[i + 1]
  | [] => by simp [rising]
  | [x] => by simp [rising]
  | x :: y :: l => by
    have ih := @rising_iff (y :: l)
    rw [rising, Bool.and_eq_true, ih]
    simp only [decide_eq_true_eq]
    constructor
    · rintro ⟨h1, h2⟩ i hi
      cases i with
      | zero => simpa using h1
      | succ i => exact h2 i (by simpa using hi)
    · intro h
      exact ⟨by simpa using h 0 (by simp), fun i hi => h (i + 1) (by simpa using hi)⟩
def bad {A : Type} (ok : A → Bool) (num : A → Int) (l : List A) (i : Nat) : Bool := match l[i]? with
  | some x => !ok x || (decide (0 < i) && match l[i - 1]? with
    | some y => decide (num x ≤ num y)
    | none => false)
  | none => false
theorem bad_none {A : Type} (ok : A → Bool) (num : A → Int) (l : List A) : ((List.range l.length).find? (bad ok num l)).isNone = (l.all ok && rising (l.map num)) := by
  rw [Bool.eq_iff_iff, Option.isNone_iff_eq_none, List.find?_eq_none, Bool.and_eq_true, List.all_eq_true, rising_iff]
  simp only [List.mem_range, List.length_map, List.getElem_map]
  constructor
  · intro h
    refine ⟨fun x hx => ?_, fun i hi => ?_⟩
    · obtain ⟨i, hi, rfl⟩ := List.mem_iff_getElem.1 hx
      have := h i hi
      simp only [bad, List.getElem?_eq_getElem hi] at this
      simp only [Bool.or_eq_true, not_or, Bool.not_eq_true', Bool.not_eq_false] at this
      exact this.1
    · have := h (i + 1) hi
      simp only [bad, List.getElem?_eq_getElem hi, Nat.add_sub_cancel, List.getElem?_eq_getElem (show i < l.length by omega)] at this
      simp only [Bool.or_eq_true, not_or, Bool.and_eq_true, decide_eq_true_eq, Nat.zero_lt_succ, true_and] at this
      omega
  · rintro ⟨h1, h2⟩ i hi
    simp only [bad, List.getElem?_eq_getElem hi, h1 _ (List.getElem_mem hi), Bool.not_true, Bool.false_or, Bool.and_eq_true, decide_eq_true_eq, not_and]
    intro h0
    rw [List.getElem?_eq_getElem (show i - 1 < l.length by omega)]
    have := h2 (i - 1) (by omega)
    simp only [Nat.sub_add_cancel h0] at this
    simp only [decide_eq_true_eq]
    omega
theorem v_Tariff (M : Den) (t : Tariff) : callV sg M (.fn n_fine_CheckTariff []) [ci t.frm, ci t.h0, ci t.h1, ci t.h2, ci t.h3, ci t.h4, ci t.h5, ci t.h6, ci t.h7, ci t.h8, ci t.h9, ci t.d0, ci t.d1, ci t.d2, ci t.d3, ci t.d4, ci t.d5, ci t.d6, ci t.d7, ci t.d8, ci t.d9, ci t.feed, ci t.hay, ci t.drv] [.agg [li, li, li, li, li, li, li, li, li, li, li, li, li, li, li, li, li, li, li, li, li, li, li, li]] [.one li] = M n_fine_CheckTariff [ci t.frm, ci t.h0, ci t.h1, ci t.h2, ci t.h3, ci t.h4, ci t.h5, ci t.h6, ci t.h7, ci t.h8, ci t.h9, ci t.d0, ci t.d1, ci t.d2, ci t.d3, ci t.d4, ci t.d5, ci t.d6, ci t.d7, ci t.d8, ci t.d9, ci t.feed, ci t.hay, ci t.drv] := rfl
theorem v_num_Tariff (M : Den) (t : Tariff) : callV sg M (.fn n_fine_Check_c1 []) [ci t.frm, ci t.h0, ci t.h1, ci t.h2, ci t.h3, ci t.h4, ci t.h5, ci t.h6, ci t.h7, ci t.h8, ci t.h9, ci t.d0, ci t.d1, ci t.d2, ci t.d3, ci t.d4, ci t.d5, ci t.d6, ci t.d7, ci t.d8, ci t.d9, ci t.feed, ci t.hay, ci t.drv] [.agg [li, li, li, li, li, li, li, li, li, li, li, li, li, li, li, li, li, li, li, li, li, li, li, li]] [.one li] = M n_fine_Check_c1 [ci t.frm, ci t.h0, ci t.h1, ci t.h2, ci t.h3, ci t.h4, ci t.h5, ci t.h6, ci t.h7, ci t.h8, ci t.h9, ci t.d0, ci t.d1, ci t.d2, ci t.d3, ci t.d4, ci t.d5, ci t.d6, ci t.d7, ci t.d8, ci t.d9, ci t.feed, ci t.hay, ci t.drv] := rfl
@[simp] theorem w_num_Tariff (n : Nat) (t : Tariff) : D (n + 1) n_fine_Check_c1 [ci t.frm, ci t.h0, ci t.h1, ci t.h2, ci t.h3, ci t.h4, ci t.h5, ci t.h6, ci t.h7, ci t.h8, ci t.h9, ci t.d0, ci t.d1, ci t.d2, ci t.d3, ci t.d4, ci t.d5, ci t.d6, ci t.d7, ci t.d8, ci t.d9, ci t.feed, ci t.hay, ci t.drv] = some [ci t.frm] := by
  rw [q_fine_Check_c1]; simp [R_fine_Check_c1]
@[simp] theorem w_areRising_Tariff (n : Nat) (l : List Tariff) (most : Int) (hl : l.length < 100000000000000) : D (n + 7) n_fine_areRising_Tariff [.row 24 (l.map Tariff.cv), ci most, .fn n_fine_CheckTariff [], .fn n_fine_Check_c1 []] = some [cb (l.all Tariff.ok && rising (l.map Tariff.frm) && decide ((l.length : Int) ≤ most))] := by
  rw [q_fine_areRising_Tariff]
  unfold R_fine_areRising_Tariff
  rw [loop_find l.length (fun i => [ci (i : Int)]) (bad Tariff.ok Tariff.frm l) (fun i => some (.ret [cb false])) (some (.br 0 [])) ?hv ?hR ?hX
    (fun i hi hp => ?h1) (fun i hi hp => ?h2) ?h3]
  case hv => rfl
  case hR => simp
  case hX => simp
  case h3 => simp
  case h1 =>
    have hw := wr_nat (show i < 9223372036854775807 by omega)
    by_cases h0 : i = 0
    · subst h0
      simp [bad, hi] at hp
      have hw1 : wr 1 = 1 := by decide
      simp [hi, inb_map0, el_map0, Tariff.cv, v_Tariff, hp, hw1]
    · have h0' : 0 < i := by omega
      have hj : i - 1 < l.length := by omega
      have hwj := wr_pred h0' (show i < 9223372036854775807 by omega)
      simp only [bad, List.getElem?_eq_getElem hi, List.getElem?_eq_getElem hj, h0', decide_true, Bool.true_and, Bool.or_eq_false_iff, Bool.not_eq_false', decide_eq_false_iff_not] at hp
      simp [hi, hj, inb_map, el_map, Tariff.cv, v_Tariff, v_num_Tariff, hp, hw, hwj, h0']
  case h2 =>
    by_cases h0 : i = 0
    · subst h0
      simp [bad, hi] at hp
      simp [hi, inb_map0, el_map0, Tariff.cv, v_Tariff, hp]
    · have h0' : 0 < i := by omega
      have hj : i - 1 < l.length := by omega
      have hwj := wr_pred h0' (show i < 9223372036854775807 by omega)
      simp only [bad, List.getElem?_eq_getElem hi, List.getElem?_eq_getElem hj, h0', decide_true, Bool.true_and, Bool.or_eq_true, Bool.not_eq_true', decide_eq_true_eq] at hp
      cases hk : l[i].ok with
      | false => simp [hi, hj, inb_map, el_map, Tariff.cv, v_Tariff, v_num_Tariff, hk, hwj, h0']
      | true =>
        have hp' : l[i].frm ≤ l[i - 1].frm := by simpa [hk] using hp
        simp [hi, hj, inb_map, el_map, Tariff.cv, v_Tariff, v_num_Tariff, hk, hp', hwj, h0']
  · rw [← bad_none Tariff.ok Tariff.frm l]
    cases (List.range l.length).find? (bad Tariff.ok Tariff.frm l) <;> simp
theorem v_Held (M : Den) (t : Held) : callV sg M (.fn n_fine_CheckHeld []) [ci t.src, ci t.beast, ci t.sort, ci t.eats, ci t.worth, ci t.drv, ci t.day, ci t.known, ci t.til] [.agg [li, li, li, li, li, li, li, li, li]] [.one li] = M n_fine_CheckHeld [ci t.src, ci t.beast, ci t.sort, ci t.eats, ci t.worth, ci t.drv, ci t.day, ci t.known, ci t.til] := rfl
theorem v_num_Held (M : Den) (t : Held) : callV sg M (.fn n_fine_heldOf []) [ci t.src, ci t.beast, ci t.sort, ci t.eats, ci t.worth, ci t.drv, ci t.day, ci t.known, ci t.til] [.agg [li, li, li, li, li, li, li, li, li]] [.one li] = M n_fine_heldOf [ci t.src, ci t.beast, ci t.sort, ci t.eats, ci t.worth, ci t.drv, ci t.day, ci t.known, ci t.til] := rfl
@[simp] theorem w_num_Held (n : Nat) (t : Held) : D (n + 1) n_fine_heldOf [ci t.src, ci t.beast, ci t.sort, ci t.eats, ci t.worth, ci t.drv, ci t.day, ci t.known, ci t.til] = some [ci t.src] := by
  rw [q_fine_heldOf]; simp [R_fine_heldOf]
@[simp] theorem w_areRising_Held (n : Nat) (l : List Held) (most : Int) (hl : l.length < 100000000000000) : D (n + 7) n_fine_areRising_Held [.row 9 (l.map Held.cv), ci most, .fn n_fine_CheckHeld [], .fn n_fine_heldOf []] = some [cb (l.all Held.ok && rising (l.map Held.src) && decide ((l.length : Int) ≤ most))] := by
  rw [q_fine_areRising_Held]
  unfold R_fine_areRising_Held
  rw [loop_find l.length (fun i => [ci (i : Int)]) (bad Held.ok Held.src l) (fun i => some (.ret [cb false])) (some (.br 0 [])) ?hv ?hR ?hX
    (fun i hi hp => ?h1) (fun i hi hp => ?h2) ?h3]
  case hv => rfl
  case hR => simp
  case hX => simp
  case h3 => simp
  case h1 =>
    have hw := wr_nat (show i < 9223372036854775807 by omega)
    by_cases h0 : i = 0
    · subst h0
      simp [bad, hi] at hp
      have hw1 : wr 1 = 1 := by decide
      simp [hi, inb_map0, el_map0, Held.cv, v_Held, hp, hw1]
    · have h0' : 0 < i := by omega
      have hj : i - 1 < l.length := by omega
      have hwj := wr_pred h0' (show i < 9223372036854775807 by omega)
      simp only [bad, List.getElem?_eq_getElem hi, List.getElem?_eq_getElem hj, h0', decide_true, Bool.true_and, Bool.or_eq_false_iff, Bool.not_eq_false', decide_eq_false_iff_not] at hp
      simp [hi, hj, inb_map, el_map, Held.cv, v_Held, v_num_Held, hp, hw, hwj, h0']
  case h2 =>
    by_cases h0 : i = 0
    · subst h0
      simp [bad, hi] at hp
      simp [hi, inb_map0, el_map0, Held.cv, v_Held, hp]
    · have h0' : 0 < i := by omega
      have hj : i - 1 < l.length := by omega
      have hwj := wr_pred h0' (show i < 9223372036854775807 by omega)
      simp only [bad, List.getElem?_eq_getElem hi, List.getElem?_eq_getElem hj, h0', decide_true, Bool.true_and, Bool.or_eq_true, Bool.not_eq_true', decide_eq_true_eq] at hp
      cases hk : l[i].ok with
      | false => simp [hi, hj, inb_map, el_map, Held.cv, v_Held, v_num_Held, hk, hwj, h0']
      | true =>
        have hp' : l[i].src ≤ l[i - 1].src := by simpa [hk] using hp
        simp [hi, hj, inb_map, el_map, Held.cv, v_Held, v_num_Held, hk, hp', hwj, h0']
  · rw [← bad_none Held.ok Held.src l]
    cases (List.range l.length).find? (bad Held.ok Held.src l) <;> simp
theorem v_Note (M : Den) (t : Note) : callV sg M (.fn n_fine_CheckNote []) [ci t.src, ci t.stay, ci t.kind, ci t.owner, ci t.day, ci t.known, ci t.til] [.agg [li, li, li, li, li, li, li]] [.one li] = M n_fine_CheckNote [ci t.src, ci t.stay, ci t.kind, ci t.owner, ci t.day, ci t.known, ci t.til] := rfl
theorem v_num_Note (M : Den) (t : Note) : callV sg M (.fn n_fine_noteOf []) [ci t.src, ci t.stay, ci t.kind, ci t.owner, ci t.day, ci t.known, ci t.til] [.agg [li, li, li, li, li, li, li]] [.one li] = M n_fine_noteOf [ci t.src, ci t.stay, ci t.kind, ci t.owner, ci t.day, ci t.known, ci t.til] := rfl
@[simp] theorem w_num_Note (n : Nat) (t : Note) : D (n + 1) n_fine_noteOf [ci t.src, ci t.stay, ci t.kind, ci t.owner, ci t.day, ci t.known, ci t.til] = some [ci t.src] := by
  rw [q_fine_noteOf]; simp [R_fine_noteOf]
@[simp] theorem w_areRising_Note (n : Nat) (l : List Note) (most : Int) (hl : l.length < 100000000000000) : D (n + 7) n_fine_areRising_Note [.row 7 (l.map Note.cv), ci most, .fn n_fine_CheckNote [], .fn n_fine_noteOf []] = some [cb (l.all Note.ok && rising (l.map Note.src) && decide ((l.length : Int) ≤ most))] := by
  rw [q_fine_areRising_Note]
  unfold R_fine_areRising_Note
  rw [loop_find l.length (fun i => [ci (i : Int)]) (bad Note.ok Note.src l) (fun i => some (.ret [cb false])) (some (.br 0 [])) ?hv ?hR ?hX
    (fun i hi hp => ?h1) (fun i hi hp => ?h2) ?h3]
  case hv => rfl
  case hR => simp
  case hX => simp
  case h3 => simp
  case h1 =>
    have hw := wr_nat (show i < 9223372036854775807 by omega)
    by_cases h0 : i = 0
    · subst h0
      simp [bad, hi] at hp
      have hw1 : wr 1 = 1 := by decide
      simp [hi, inb_map0, el_map0, Note.cv, v_Note, hp, hw1]
    · have h0' : 0 < i := by omega
      have hj : i - 1 < l.length := by omega
      have hwj := wr_pred h0' (show i < 9223372036854775807 by omega)
      simp only [bad, List.getElem?_eq_getElem hi, List.getElem?_eq_getElem hj, h0', decide_true, Bool.true_and, Bool.or_eq_false_iff, Bool.not_eq_false', decide_eq_false_iff_not] at hp
      simp [hi, hj, inb_map, el_map, Note.cv, v_Note, v_num_Note, hp, hw, hwj, h0']
  case h2 =>
    by_cases h0 : i = 0
    · subst h0
      simp [bad, hi] at hp
      simp [hi, inb_map0, el_map0, Note.cv, v_Note, hp]
    · have h0' : 0 < i := by omega
      have hj : i - 1 < l.length := by omega
      have hwj := wr_pred h0' (show i < 9223372036854775807 by omega)
      simp only [bad, List.getElem?_eq_getElem hi, List.getElem?_eq_getElem hj, h0', decide_true, Bool.true_and, Bool.or_eq_true, Bool.not_eq_true', decide_eq_true_eq] at hp
      cases hk : l[i].ok with
      | false => simp [hi, hj, inb_map, el_map, Note.cv, v_Note, v_num_Note, hk, hwj, h0']
      | true =>
        have hp' : l[i].src ≤ l[i - 1].src := by simpa [hk] using hp
        simp [hi, hj, inb_map, el_map, Note.cv, v_Note, v_num_Note, hk, hp', hwj, h0']
  · rw [← bad_none Note.ok Note.src l]
    cases (List.range l.length).find? (bad Note.ok Note.src l) <;> simp
end Go.Proofs.Ytabhbdehbpmpkaa
namespace Go.Proofs.Ytabhbdehbpmpkaa
open Go Go.Sx Go.Fine
set_option maxRecDepth 10000
attribute [local simp] Bool.and_assoc Bool.or_assoc
@[simp] theorem w_Check (n : Nat) (p : Acc) (hp : p.fits) : D (n + 8) n_fine_Check [.row 24 (p.ts.map Tariff.cv), .row 9 (p.ss.map Held.cv), .row 7 (p.ns.map Note.cv)] = some [ci (check p)] := by
  rw [q_fine_Check]
  obtain ⟨h1, h2, h3⟩ := hp
  have e1 : ((p.ts.length : Int) ≤ 8) = (p.ts.length ≤ 8) := by apply propext; omega
  have e2 : ((p.ss.length : Int) ≤ 60) = (p.ss.length ≤ 60) := by apply propext; omega
  have e3 : ((p.ns.length : Int) ≤ 60) = (p.ns.length ≤ 60) := by apply propext; omega
  simp [R_fine_Check, h1, h2, h3, check, Acc.ok, listOk, e1, e2, e3]; grind
@[simp] theorem w_check (n : Nat) (p : Acc) (l : List Int) (hp : p.fits) (hl : l.length < 9223372036854775807) : D (n + 9) n_fine_check [.row 24 (p.ts.map Tariff.cv), .row 9 (p.ss.map Held.cv), .row 7 (p.ns.map Note.cv), .row 1 (ints l)] = some [ci (if p.ok then (if l.all isDay then 0 else 6) else 63)] := by
  rw [q_fine_check]
  have h1 := w_ContainsFunc_int (n + 6) l (.fn n_fine_check_c1 []) (fun x => !isDay x) hl (fun x _ => by rw [v_check_c1]; simp)
  have h2 : l.any (fun x => !isDay x) = !l.all isDay := by rw [List.not_all_eq_any_not]
  rw [h2] at h1
  generalize l.all isDay = b at h1 ⊢
  simp [R_fine_check, hp, check, h1, retO_ite]
  cases b <;> simp <;> grind
end Go.Proofs.Ytabhbdehbpmpkaa
namespace Go.Proofs.Ytabhbdehbpmpkaa
open Go Go.Sx Go.Fine
set_option maxRecDepth 10000
attribute [local simp] Bool.and_assoc Bool.or_assoc
theorem last_fold {A : Type} (p : A → Bool) (z : A) : ∀ (l : List A) (s : A × Bool), l.foldl (fun s t => if p t = true then (t, true) else s) s = match (l.filter p).getLast? with
    | some t => (t, true)
    | none => s
  | [], s => rfl
  | a :: l, s => by
    rw [List.foldl_cons, last_fold p z l]
    cases hp : p a with
    | true =>
      rw [List.filter_cons_of_pos hp, List.getLast?_cons]
      cases (l.filter p).getLast? <;> simp
    | false => rw [List.filter_cons_of_neg (by simp [hp])]; simp
def Tariff.cvb (t : Tariff) (b : Bool) : List CV := [ci t.frm, ci t.h0, ci t.h1, ci t.h2, ci t.h3, ci t.h4, ci t.h5, ci t.h6, ci t.h7, ci t.h8, ci t.h9, ci t.d0, ci t.d1, ci t.d2, ci t.d3, ci t.d4, ci t.d5, ci t.d6, ci t.d7, ci t.d8, ci t.d9, ci t.feed, ci t.hay, ci t.drv, cb b]
@[simp] theorem w_inForce (n : Nat) (l : List Tariff) (ss ns : List (List CV)) (d : Int) (hl : l.length < 100000000000000) : D (n + 1) n_fine_inForce [.row 24 (l.map Tariff.cv), .row 9 ss, .row 7 ns, ci d] =
    some (match (l.filter fun t => decide (t.frm ≤ d)).getLast? with | some t => Tariff.cvb t true | none => Tariff.cvb tz false) := by
  rw [q_fine_inForce]
  unfold R_fine_inForce
  rw [loop_foldl l (fun i (s : Tariff × Bool) => cb s.2 :: ci (i : Int) :: s.1.cv) (fun s t => if decide (t.frm ≤ d) = true then (t, true) else s) 0 (fun s => cb s.2 :: s.1.cv) (tz, false) ?hv (fun i h s => ?hs) (fun s => ?he)]
  case hv => simp [Tariff.cv, tz]
  case he => simp [Tariff.cv]
  case hs =>
    have hw := wr_nat (show i < 9223372036854775807 by omega)
    by_cases hc : l[i].frm ≤ d <;> simp [h, inb_map, el_map, Tariff.cv, hw, hc]
  · rw [last_fold _ tz]
    cases (l.filter fun t => decide (t.frm ≤ d)).getLast? <;> simp [Tariff.cv, Tariff.cvb]
end Go.Proofs.Ytabhbdehbpmpkaa
namespace Go.Proofs.Ytabhbdehbpmpkaa
open Go Go.Sx Go.Fine
set_option maxRecDepth 10000
attribute [local simp] Bool.and_assoc Bool.or_assoc
theorem w_inF (n : Nat) (p : Acc) (ss ns : List (List CV)) (d : Int) (hp : p.fits) : D (n + 1) n_fine_inForce [.row 24 (p.ts.map Tariff.cv), .row 9 ss, .row 7 ns, ci d] = some (Tariff.cvb (inForce p d) (inF p d).isSome) := by
  rw [w_inForce _ _ _ _ _ hp.1]
  unfold inForce inF
  cases (p.ts.filter fun t => decide (t.frm ≤ d)).getLast? <;> rfl
attribute [-simp] w_inForce
attribute [simp] w_inF
@[simp] theorem w_daily (n : Nat) (p : Acc) (s : Held) (d : Int) (hp : p.ok = true) (hs : s.ok = true) : D (n + 2) n_fine_daily [.row 24 (p.ts.map Tariff.cv), .row 9 (p.ss.map Held.cv), .row 7 (p.ns.map Note.cv), ci s.src, ci s.beast, ci s.sort, ci s.eats, ci s.worth, ci s.drv, ci s.day, ci s.known, ci s.til, ci d] = some [ci (daily p s d)] := by
  rw [q_fine_daily]
  obtain ⟨h1, h2, h3, h4⟩ := daily_bounds hp hs d
  have e1 : wr (s.eats * (inForce p d).feed) = s.eats * (inForce p d).feed := by rw [wr_of] <;> omega
  have e2 : wr (Int.tdiv (s.eats * (inForce p d).feed) 10) = daily p s d := by unfold daily at *; rw [wr_of] <;> omega
  simp [R_fine_daily, p.ok_fits hp, Tariff.cvb, e1, e2]
theorem ints_app (a b : List Int) : ints (a ++ b) = ints a ++ ints b := List.map_append
@[simp] theorem ints_1 (x : Int) : ints [x] = [[ci x]] := rfl
@[simp] theorem w_sources (n : Nat) (l : List Held) (hl : l.length ≤ 1000) : D (n + 1) n_fine_sources [.row 9 (l.map Held.cv)] = some [.row 1 (ints (l.map Held.src))] := by
  rw [q_fine_sources]
  unfold R_fine_sources
  rw [loop_ix l.length (fun i => [ci (i : Int), .row 1 (ints ((l.map Held.src).take i))]) (some (.br 0 [.row 1 (ints (l.map Held.src))])) ?hv (fun i hi => ?hs) ?he ?hr]
  case hv => rfl
  case hr => simp
  case he => simp [List.take_of_length_le]
  case hs =>
    have hw := wr_nat (show i < 9223372036854775807 by omega)
    have hf : fitA (ints ((l.map Held.src).take i)).length 1 8 = true := fitA_of (by simp [ints]; omega) (by simp [ints]; omega)
    have e : (l.map Held.src).take (i + 1) = (l.map Held.src).take i ++ [l[i].src] := by rw [take_succ (by simpa using hi)]; simp
    simp only [e]
    simp [hi, inb_map, el_map, Held.cv, hw, hf, ints_app]
  · simp
theorem w_IndexFunc_Held (n : Nat) (l : List Held) (f : CV) (q : Held → Bool) (hl : l.length < 9223372036854775807) (hf : ∀ t ∈ l, callV sg (D n) f [ci t.src, ci t.beast, ci t.sort, ci t.eats, ci t.worth, ci t.drv, ci t.day, ci t.known, ci t.til] [.agg [li, li, li, li, li, li, li, li, li]] [.one lb] = some [cb (q t)]) :
    D (n + 1) n_slices_IndexFunc_Held [.row 9 (l.map Held.cv), f] = some [ci (idxI (l.findIdx? q))] := by
  rw [q_slices_IndexFunc_Held]
  unfold R_slices_IndexFunc_Held
  have hf' : ∀ i (h : i < l.length), callV sg (D n) f [ci l[i].src, ci l[i].beast, ci l[i].sort, ci l[i].eats, ci l[i].worth, ci l[i].drv, ci l[i].day, ci l[i].known, ci l[i].til] [.agg [li, li, li, li, li, li, li, li, li]] [.one lb] = some [cb (q l[i])] := fun i h => hf _ (List.getElem_mem h)
  rw [loop_idx q l (fun i => some (.ret [ci (i : Int)])) (some (.br 0 [])) (fun i => [ci (i : Int)]) ?hv ?hR ?hX (fun i hi hp => ?h1) (fun i hi hp => ?h2) ?h3]
  case hv => rfl
  case hR => simp
  case hX => simp
  case h3 => simp
  case h1 =>
    have hw := wr_nat (show i < 9223372036854775807 by omega)
    simp [hi, inb_map, el_map, Held.cv, hf', hp, hw]
  case h2 => simp [hi, inb_map, el_map, Held.cv, hf', hp]
  · cases l.findIdx? q <;> simp [idxI]
theorem cv_Held_len (t : Held) : t.cv.length = 9 := rfl
theorem cv_Held_oks (t : Held) : oks (List.replicate 9 li) t.cv 0 = true := rfl
theorem cv_Held_cis (t : Held) : cis t.cv 0 9 = t.cv := rfl
theorem w_IndexFunc_Note (n : Nat) (l : List Note) (f : CV) (q : Note → Bool) (hl : l.length < 9223372036854775807) (hf : ∀ t ∈ l, callV sg (D n) f [ci t.src, ci t.stay, ci t.kind, ci t.owner, ci t.day, ci t.known, ci t.til] [.agg [li, li, li, li, li, li, li]] [.one lb] = some [cb (q t)]) :
    D (n + 1) n_slices_IndexFunc_Note [.row 7 (l.map Note.cv), f] = some [ci (idxI (l.findIdx? q))] := by
  rw [q_slices_IndexFunc_Note]
  unfold R_slices_IndexFunc_Note
  have hf' : ∀ i (h : i < l.length), callV sg (D n) f [ci l[i].src, ci l[i].stay, ci l[i].kind, ci l[i].owner, ci l[i].day, ci l[i].known, ci l[i].til] [.agg [li, li, li, li, li, li, li]] [.one lb] = some [cb (q l[i])] := fun i h => hf _ (List.getElem_mem h)
  rw [loop_idx q l (fun i => some (.ret [ci (i : Int)])) (some (.br 0 [])) (fun i => [ci (i : Int)]) ?hv ?hR ?hX (fun i hi hp => ?h1) (fun i hi hp => ?h2) ?h3]
  case hv => rfl
  case hR => simp
  case hX => simp
  case h3 => simp
  case h1 =>
    have hw := wr_nat (show i < 9223372036854775807 by omega)
    simp [hi, inb_map, el_map, Note.cv, hf', hp, hw]
  case h2 => simp [hi, inb_map, el_map, Note.cv, hf', hp]
  · cases l.findIdx? q <;> simp [idxI]
theorem cv_Note_len (t : Note) : t.cv.length = 7 := rfl
theorem cv_Note_oks (t : Note) : oks (List.replicate 7 li) t.cv 0 = true := rfl
theorem cv_Note_cis (t : Note) : cis t.cv 0 7 = t.cv := rfl
theorem v_stays_c1 (M : Den) (s : Held) (c : List CV) : callV sg M (.fn n_fine_stays_c1 [.ref c]) [ci s.src, ci s.beast, ci s.sort, ci s.eats, ci s.worth, ci s.drv, ci s.day, ci s.known, ci s.til] [.agg [li, li, li, li, li, li, li, li, li]] [.one lb] = M n_fine_stays_c1 [ci s.src, ci s.beast, ci s.sort, ci s.eats, ci s.worth, ci s.drv, ci s.day, ci s.known, ci s.til, .ref c] := rfl
@[simp] theorem w_stays_c1 (n : Nat) (s : Held) (k : Int) : D (n + 2) n_fine_stays_c1 [ci s.src, ci s.beast, ci s.sort, ci s.eats, ci s.worth, ci s.drv, ci s.day, ci s.known, ci s.til, .ref [ci k]] = some [cb (!counts s.known s.til k)] := by
  rw [q_fine_stays_c1]; simp [R_fine_stays_c1]
@[simp] theorem w_stays (n : Nat) (p : Acc) (k : Int) (hp : p.ok = true) : D (n + 4) n_fine_stays [.row 24 (p.ts.map Tariff.cv), .row 9 (p.ss.map Held.cv), .row 7 (p.ns.map Note.cv), ci k] = some [.row 9 ((stays p k).map Held.cv)] := by
  rw [q_fine_stays]
  obtain ⟨_, h1, _⟩ := p.ok_len hp
  have hix := w_IndexFunc_Held (n + 2) p.ss (.fn n_fine_stays_c1 [.ref [ci k]]) (fun s => !counts s.known s.til k) (by omega) (fun s _ => by rw [v_stays_c1]; simp)
  have hd := del_row 9 Held.cv hz.cv cv_Held_len cv_Held_oks cv_Held_cis (fun s => !counts s.known s.til k) p.ss (by omega) hix (call := fun c => D (n + 3) n_fine_stays_c1 (cat [c, [.ref [ci k]]])) (fun s _ => by simp [Held.cv])
  have hc := clone_row 9 72 Held.cv p.ss (by omega) (by omega)
  unfold R_fine_stays
  rw [hc]
  simp only [inlO_ret, gr_z]
  change retO (inlO (delX _ (fun c => D (n + 3) n_fine_stays_c1 (cat [c, [.ref [ci k]]])) 9 hz.cv (p.ss.map Held.cv)) _) = _
  rw [hd]
  simp [stays]
theorem v_notes_c1 (M : Den) (x : Note) (c d : List CV) : callV sg M (.fn n_fine_notes_c1 [.ref c, .ref d]) [ci x.src, ci x.stay, ci x.kind, ci x.owner, ci x.day, ci x.known, ci x.til] [.agg [li, li, li, li, li, li, li]] [.one lb] = M n_fine_notes_c1 [ci x.src, ci x.stay, ci x.kind, ci x.owner, ci x.day, ci x.known, ci x.til, .ref c, .ref d] := rfl
@[simp] theorem w_notes_c1 (n : Nat) (x : Note) (s : Held) (k : Int) : D (n + 2) n_fine_notes_c1 [ci x.src, ci x.stay, ci x.kind, ci x.owner, ci x.day, ci x.known, ci x.til, .ref [ci k], .ref [ci s.src, ci s.beast, ci s.sort, ci s.eats, ci s.worth, ci s.drv, ci s.day, ci s.known, ci s.til]] = some [cb (!(counts x.known x.til k && x.stay == s.src && within x.day s.day k))] := by
  rw [q_fine_notes_c1]; simp [R_fine_notes_c1, retO_ite]
@[simp] theorem w_notes (n : Nat) (p : Acc) (s : Held) (k : Int) (hp : p.ok = true) : D (n + 4) n_fine_notes [.row 24 (p.ts.map Tariff.cv), .row 9 (p.ss.map Held.cv), .row 7 (p.ns.map Note.cv), ci s.src, ci s.beast, ci s.sort, ci s.eats, ci s.worth, ci s.drv, ci s.day, ci s.known, ci s.til, ci k] = some [.row 7 ((notes p s k).map Note.cv)] := by
  rw [q_fine_notes]
  obtain ⟨_, _, h1⟩ := p.ok_len hp
  have hix := w_IndexFunc_Note (n + 2) p.ns (.fn n_fine_notes_c1 [.ref [ci k], .ref [ci s.src, ci s.beast, ci s.sort, ci s.eats, ci s.worth, ci s.drv, ci s.day, ci s.known, ci s.til]]) (fun x => !(counts x.known x.til k && x.stay == s.src && within x.day s.day k)) (by omega) (fun x _ => by rw [v_notes_c1]; simp)
  have hd := del_row 7 Note.cv (List.replicate 7 (ci 0)) cv_Note_len cv_Note_oks cv_Note_cis (fun x => !(counts x.known x.til k && x.stay == s.src && within x.day s.day k)) p.ns (by omega) hix (call := fun c => D (n + 3) n_fine_notes_c1 (cat [c, [.ref [ci k], .ref [ci s.src, ci s.beast, ci s.sort, ci s.eats, ci s.worth, ci s.drv, ci s.day, ci s.known, ci s.til]]])) (fun x _ => by simp [Note.cv])
  have hc := clone_row 7 56 Note.cv p.ns (by omega) (by omega)
  unfold R_fine_notes
  rw [hc]
  simp only [inlO_ret, gr_z]
  change retO (inlO (delX _ (fun c => D (n + 3) n_fine_notes_c1 (cat [c, [.ref [ci k], .ref [ci s.src, ci s.beast, ci s.sort, ci s.eats, ci s.worth, ci s.drv, ci s.day, ci s.known, ci s.til]]])) 7 (List.replicate 7 (ci 0)) (p.ns.map Note.cv)) _) = _
  rw [hd]
  simp [notes]
end Go.Proofs.Ytabhbdehbpmpkaa
namespace Go.Proofs.Ytabhbdehbpmpkaa
open Go Go.Sx Go.Fine
set_option maxRecDepth 10000
attribute [local simp] Bool.and_assoc Bool.or_assoc
theorem w_check1 (n : Nat) (p : Acc) (k : Int) (hp : p.fits) : D (n + 9) n_fine_check [.row 24 (p.ts.map Tariff.cv), .row 9 (p.ss.map Held.cv), .row 7 (p.ns.map Note.cv), .row 1 [[ci k]]] = some [ci (asked p k)] := by
  have := w_check n p [k] hp (by simp)
  rw [ints_1] at this
  rw [this]; simp [asked]
theorem asked_ok {p : Acc} {k : Int} (h : asked p k = 0) : p.ok = true ∧ isDay k = true := by
  unfold asked at h
  cases h1 : p.ok <;> cases h2 : isDay k <;> simp [h1, h2] at h ⊢
@[simp] theorem w_Stays (n : Nat) (p : Acc) (k : Int) (hp : p.fits) : D (n + 10) n_fine_Stays [.row 24 (p.ts.map Tariff.cv), .row 9 (p.ss.map Held.cv), .row 7 (p.ns.map Note.cv), ci k] = some (if asked p k = 0 then [.row 1 (ints ((stays p k).map Held.src)), ci 0] else [.row 1 [], ci (asked p k)]) := by
  rw [q_fine_Stays]
  by_cases ha : asked p k = 0
  · obtain ⟨hok, _⟩ := asked_ok ha
    obtain ⟨_, h1, _⟩ := p.ok_len hok
    have h2 : (stays p k).length ≤ 1000 := Nat.le_trans (filter_len _ _) (by omega)
    simp [R_fine_Stays, w_check1 _ _ _ hp, hok, h2, ha]
  · simp [R_fine_Stays, w_check1 _ _ _ hp, ha]
def Held.cve (s : Held) (e : Int) : List CV := [ci s.src, ci s.beast, ci s.sort, ci s.eats, ci s.worth, ci s.drv, ci s.day, ci s.known, ci s.til, ci e]
@[simp] theorem w_stayOf (n : Nat) (p : Acc) (y k : Int) (hp : p.fits) : D (n + 10) n_fine_stayOf [.row 24 (p.ts.map Tariff.cv), .row 9 (p.ss.map Held.cv), .row 7 (p.ns.map Note.cv), ci y, ci k] = some (Held.cve (stayOf p y k).1 (stayOf p y k).2) := by
  rw [q_fine_stayOf]
  unfold R_fine_stayOf
  have hck := w_check1 n p k hp
  simp only [chunk_s, chunk_z, List.take_succ_cons, List.take_zero]
  rw [hck]
  simp only [callO_val, gi_z, bne_dec, iteB_eq]
  by_cases ha : asked p k = 0
  · obtain ⟨hok, _⟩ := asked_ok ha
    obtain ⟨_, h1, _⟩ := p.ok_len hok
    have h2 : (stays p k).length ≤ 60 := Nat.le_trans (filter_len _ _) h1
    simp only [ha, decide_true, Bool.not_true, Bool.false_eq_true, if_false, w_stays _ _ _ hok, callO_val, gr_z]
    rw [loop_findL (fun s => s.src == y) (fun s => some (.ret (Held.cve s 0))) (some (.br 0 hz.cv)) (stays p k) (fun i => ci (i : Int) :: hz.cv) ?hv ?hR ?hX (fun i hi hq => ?h1) (fun i hi hq => ?h2) ?h3]
    case hv => rfl
    case hR => simp
    case hX => simp
    case h3 => simp [Held.cv, hz]
    case h1 =>
      have hw := wr_nat (show i < 9223372036854775807 by omega)
      simp at hq
      simp [hi, inb_map, el_map, Held.cv, hw, hq, hz]
    case h2 =>
      simp at hq
      simp [hi, inb_map, el_map, Held.cv, hq, Held.cve]
    · simp only [stayOf, ha, if_true]
      cases (stays p k).find? fun s => s.src == y <;> simp [Held.cve, hz]
  · simp [ha, stayOf, Held.cve, hz]
theorem stayOf_ok {p : Acc} {y k : Int} (h : (stayOf p y k).2 = 0) : p.ok = true ∧ isDay k = true ∧ (stayOf p y k).1 ∈ stays p k ∧ (stayOf p y k).1.ok = true ∧ (stayOf p y k).1.src = y := by
  unfold stayOf at h ⊢
  split at h
  · rename_i ha
    obtain ⟨h1, h2⟩ := asked_ok ha
    rw [if_pos ha]
    cases hf : (stays p k).find? fun s => s.src == y with
    | none => rw [hf] at h; simp at h
    | some s =>
      have hm := List.mem_of_find?_eq_some hf
      have hs := List.find?_some hf
      exact ⟨h1, h2, hm, p.ok_s h1 (stays_mem hm), by simpa using hs⟩
  · rename_i ha; exact absurd h ha
end Go.Proofs.Ytabhbdehbpmpkaa
namespace Go.Proofs.Ytabhbdehbpmpkaa
open Go Go.Sx Go.Fine
set_option maxRecDepth 10000
attribute [local simp] Bool.and_assoc Bool.or_assoc
theorem w_whose (n : Nat) (l : List Note) (hl : l.length ≤ 1000) (ho : ∀ x ∈ l, x.ok = true) : D (n + 1) n_fine_whose [.row 7 (l.map Note.cv)] = some [ci (ownerOf l), ci (stopOf l)] := by
  rw [q_fine_whose]
  unfold R_fine_whose
  rw [loop_foldl l (fun i (s : Int × Note × Note) => ci s.1 :: ci (i : Int) :: (s.2.1.cv ++ s.2.2.cv)) (fun s x => (stopS s.1 x, claimS s.2.1 x, judgeS s.2.2 x)) 0 (fun s => ci s.1 :: (s.2.1.cv ++ s.2.2.cv)) (-1, c0, j0) ?hv (fun i hi s => ?hs) (fun s => ?he)]
  case hv => simp [Note.cv, j0, c0]
  case he => simp [Note.cv]
  case hs =>
    have hw := wr_nat (show i < 9223372036854775807 by omega)
    have hk := (Note.ok_b (ho _ (List.getElem_mem hi))).2.2.1
    rcases hk with ⟨hk, _⟩ | ⟨hk | hk, _⟩
    · simp [hi, inb_map, el_map, Note.cv, hw, hk, stopS, claimS, judgeS]
    · by_cases hd : l[i].day < s.2.1.day <;> simp [hi, inb_map, el_map, Note.cv, hw, hk, hd, stopS, claimS, judgeS] <;> grind
    · by_cases hd : s.2.2.known ≤ l[i].known <;> simp [hi, inb_map, el_map, Note.cv, hw, hk, hd, stopS, claimS, judgeS] <;> grind
  · have h3 : l.foldl (fun (s : Int × Note × Note) x => (stopS s.1 x, claimS s.2.1 x, judgeS s.2.2 x)) (-1, c0, j0) = (l.foldl stopS (-1), l.foldl claimS c0, l.foldl judgeS j0) := by
      have key : ∀ (l : List Note) (a : Int) (b c : Note), l.foldl (fun (s : Int × Note × Note) x => (stopS s.1 x, claimS s.2.1 x, judgeS s.2.2 x)) (a, b, c) = (l.foldl stopS a, l.foldl claimS b, l.foldl judgeS c) := by
        intro l
        induction l with
        | nil => intros; rfl
        | cons x l ih => intro a b c; simp only [List.foldl_cons]; exact ih _ _ _
      exact key _ _ _ _
    have hj := judge_fold l
    have hn := judge_owner l ho
    rw [h3, stop_fold l ho]
    rw [hj] at hn
    simp [Note.cv, ownerOf, hj, (claim_fold l ho).1]
    grind
attribute [simp] w_whose
theorem w_days_c1 (n : Nat) (a b : Int) (h1 : -9223372036854775808 ≤ a) (h2 : b < 9223372036854775807) : D (n + 1) n_fine_days_c1 [.ref [ci a], .ref [ci b]] = some ((upto a b).map ci) := by
  show daysIt [.ref [ci a], .ref [ci b]] = _
  simp only [daysIt, ci]
  rw [if_pos ⟨h1, h2⟩]
theorem it_days (n : Nat) (a b : Int) (h1 : -9223372036854775808 ≤ a) (h2 : b < 9223372036854775807) : itV sg (D (n + 1)) (.fn n_fine_days_c1 [.ref [ci a], .ref [ci b]]) = some (upto a b) := by
  have hs : sg n_fine_days_c1 = none := rfl
  simp only [itV, hs, w_days_c1 n a b h1 h2, intsOf_ci]
theorem sold_step (p : Acc) (s : Held) (hp : p.ok = true) (hs : s.ok = true) {x : Int} {e : Int} (he : 0 ≤ e ∧ e ≤ s.worth) : wr (e + daily p s x) = e + daily p s x := by
  obtain ⟨h1, h2, _⟩ := daily_bounds hp hs x
  have := (Held.ok_b hs).2.2.2.1
  rw [wr_of] <;> omega
@[simp] theorem w_sold (n : Nat) (p : Acc) (s : Held) (k : Int) (hp : p.ok = true) (hs : s.ok = true) (hk : isDay k = true) : D (n + 3) n_fine_sold [.row 24 (p.ts.map Tariff.cv), .row 9 (p.ss.map Held.cv), .row 7 (p.ns.map Note.cv), ci s.src, ci s.beast, ci s.sort, ci s.eats, ci s.worth, ci s.drv, ci s.day, ci s.known, ci s.til, ci k] = some [ci (sold p s k)] := by
  rw [q_fine_sold]
  unfold R_fine_sold
  have hb := Held.ok_b hs
  simp only [isDay, within, Bool.and_eq_true, decide_eq_true_eq] at hk
  by_cases h0 : s.worth = 0
  · simp [h0, sold]
  · have e1 : wr (s.day + 720) = s.day + 720 := by rw [wr_of] <;> omega
    have e2 : (if s.day + 720 < k then s.day + 720 else k) = min k (s.day + 720) := by omega
    simp only [iteB_eq, beq_dec, h0, decide_false, Bool.false_eq_true, if_false, e1, e2, w_days, callO_val]
    rw [show List.getD [CV.fn n_fine_days_c1 [.ref [ci s.day], .ref [ci (min k (s.day + 720))]]] 0 dC = CV.fn n_fine_days_c1 [.ref [ci s.day], .ref [ci (min k (s.day + 720))]] from rfl, it_days _ _ _ (by omega) (by omega)]
    generalize hst : (fun (x1 : Int) (v1 : List CV) => _) = step
    have hstep : ∀ (x : Int) (e : Int × Int), step x [ci e.1, ci e.2] = if wr (e.2 + daily p s x) ≥ s.worth then some (Ou.ret [ci x]) else some (Ou.nx [ci e.1, ci (wr (e.2 + daily p s x))]) := by
      intro x e
      rw [← hst]
      simp [hp, hs]; grind
    rw [rangeO_of (xs := upto s.day (min k (s.day + 720))) (step := step) (vs := [ci 0, ci 0]) (fun l => range_total (fun (e : Int × Int) => [ci e.1, ci e.2]) (fun x e => by
      rw [hstep]
      split
      · exact .inr ⟨_, rfl, by simp⟩
      · exact .inl ⟨(e.1, wr (e.2 + daily p s x)), rfl⟩) l (0, 0))]
    have key : ∀ (xs : List Int) (e : Int × Int), (∀ x ∈ xs, 0 ≤ x) → 0 ≤ e.2 → e.2 < s.worth → (soldL p s e.2 xs = -1 ∧ ∃ vs, rangeL step xs [ci e.1, ci e.2] = some (.nx vs)) ∨ (0 ≤ soldL p s e.2 xs ∧ rangeL step xs [ci e.1, ci e.2] = some (.ret [ci (soldL p s e.2 xs)])) := by
      intro xs
      induction xs with
      | nil => intro e _ _ _; exact .inl ⟨rfl, _, rfl⟩
      | cons x xs ih =>
        intro e hx h1 h2
        have h3 := hstep x e
        rw [sold_step p s hp hs ⟨h1, by omega⟩] at h3
        simp only [rangeL, h3, soldL]
        by_cases hc : e.2 + daily p s x ≥ s.worth
        · simp only [if_pos hc]; exact .inr ⟨hx x (by simp), trivial⟩
        · simp only [if_neg hc]
          exact ih (e.1, e.2 + daily p s x) (fun y hy => hx y (by simp [hy])) (by have := (daily_bounds hp hs x).1; simp only; omega) (by simp only; omega)
    have hpos : ∀ x ∈ upto s.day (min k (s.day + 720)), 0 ≤ x := fun x hx => by have := mem_upto.1 hx; omega
    rcases key (upto s.day (min k (s.day + 720))) (0, 0) hpos (by simp) (by simp only; omega) with ⟨h1, vs, h2⟩ | ⟨h1, h2⟩
    · simp only at h1 h2
      rw [h2]; simp [sold, h0, h1]
    · simp only at h1 h2
      rw [h2]; simp [sold, h0]
end Go.Proofs.Ytabhbdehbpmpkaa
namespace Go.Proofs.Ytabhbdehbpmpkaa
open Go Go.Sx Go.Fine
set_option maxRecDepth 10000
attribute [local simp] Bool.and_assoc Bool.or_assoc
theorem w_lot (n : Nat) (p : Acc) (s : Held) (k : Int) (hp : p.ok = true) (hs : s.ok = true) (hk : isDay k = true) : D (n + 5) n_fine_lot [.row 24 (p.ts.map Tariff.cv), .row 9 (p.ss.map Held.cv), .row 7 (p.ns.map Note.cv), ci s.src, ci s.beast, ci s.sort, ci s.eats, ci s.worth, ci s.drv, ci s.day, ci s.known, ci s.til, ci k] = some [ci (lot p s k).owner, ci (lot p s k).stop, ci (lot p s k).fin, ci (lot p s k).day] := by
  rw [q_fine_lot]
  have hb := Held.ok_b hs
  have hl : (notes p s k).length ≤ 1000 := Nat.le_trans (filter_len _ _) (by have := p.ok_len hp; omega)
  have ho : ∀ x ∈ notes p s k, x.ok = true := fun x hx => p.ok_n hp (notes_mem hx)
  have e1 : wr (s.day + 360) = s.day + 360 := by rw [wr_of] <;> omega
  have e2 : wr (s.day + 361) = s.day + 361 := by rw [wr_of] <;> omega
  have e2' : wr (s.day + 360 + 1) = s.day + 361 := by rw [wr_of] <;> omega
  have e3 : wr (s.day + 720) = s.day + 720 := by rw [wr_of] <;> omega
  have hfv : (if (decide (stopOf (notes p s k) < 0) || decide (stopOf (notes p s k) > s.day + 360)) = true then s.day + 361 else -1) = forfeit s (notes p s k) := by simp [forfeit]
  have hel : ends p s k = [(1, least 2 (notes p s k)), (2, sold p s k), (3, forfeit s (notes p s k)), (4, s.day + 720)] := rfl
  simp only [R_fine_lot, w_notes _ _ _ _ hp, callO_val, gr_z, w_whose _ _ hl ho, w_sold _ _ _ _ hp hs hk, gi_z, gi_s, e1, e2', e3]
  rw [loop_ix 5 (fun i => [ci (i : Int), ci (if 0 < i then -1 else 0), ci (if 1 < i then -1 else 0), ci (if 2 < i then -1 else 0), ci (if 3 < i then -1 else 0), ci (if 4 < i then -1 else 0)]) (some (.br 0 [ci (-1), ci (-1), ci (-1), ci (-1), ci (-1)])) ?hv1 (fun i hi => ?hs1) ?he1 ?hr1]
  case hv1 => rfl
  case hr1 => simp
  case hs1 =>
    have w1 : wr 1 = 1 := by decide
    have w2 : wr 2 = 2 := by decide
    have w3 : wr 3 = 3 := by decide
    have w4 : wr 4 = 4 := by decide
    have w5 : wr 5 = 5 := by decide
    have : i = 0 ∨ i = 1 ∨ i = 2 ∨ i = 3 ∨ i = 4 := by omega
    rcases this with rfl | rfl | rfl | rfl | rfl <;> simp [w1, w2, w3, w4, w5]
  case he1 => simp
  simp only [blkO_br]
  rw [loop_foldl (notes p s k) (fun i (x : Int) => [ci (i : Int), ci (-1), ci x, ci (-1), ci (-1), ci (-1)]) (leastS 2) 2 (fun x => [ci (-1), ci x, ci (-1), ci (-1), ci (-1)]) (-1) ?hv2 (fun i hi x => ?hs2) (fun x => ?he2)]
  case hv2 => rfl
  case he2 => simp
  case hs2 =>
    have hw := wr_nat (show i < 9223372036854775807 by omega)
    by_cases hk : (notes p s k)[i].kind = 2 <;> simp [hi, inb_map, el_map, Note.cv, hw, hk, leastS] <;> grind
  rw [← least_def]
  simp only [blkO_br, gi_z, gi_s, seq_or, seq_if, gb_z, ite_cells, ite_ci, ite_self, hfv]
  rw [loop_foldl ((0, -1) :: ends p s k) (fun i (x : Int × Int) => [ci (i : Int), ci (ownerOf (notes p s k)), ci (stopOf (notes p s k)), ci x.1, ci x.2]) (lotStep k) 4 (fun x => [ci (ownerOf (notes p s k)), ci (stopOf (notes p s k)), ci x.1, ci x.2]) (0, -1) ?hv (fun i hi x => ?hs) (fun x => ?he)]
  case hv => rfl
  case he => simp [hel]
  case hs =>
    have hi : i < 5 := hi
    have : i = 0 ∨ i = 1 ∨ i = 2 ∨ i = 3 ∨ i = 4 := by omega
    have w1 : wr 1 = 1 := by decide
    have w2 : wr 2 = 2 := by decide
    have w3 : wr 3 = 3 := by decide
    have w4 : wr 4 = 4 := by decide
    have w5 : wr 5 = 5 := by decide
    rcases this with rfl | rfl | rfl | rfl | rfl <;> simp [hel, lotStep, blkO_ite, seqO_ite, w1, w2, w3, w4, w5] <;> grind
  · have : lotStep k (0, -1) (0, -1) = (0, -1) := by simp [lotStep]
    simp [lot, this]
end Go.Proofs.Ytabhbdehbpmpkaa
namespace Go.Proofs.Ytabhbdehbpmpkaa
open Go Go.Sx Go.Fine
set_option maxRecDepth 10000
attribute [local simp] Bool.and_assoc Bool.or_assoc
attribute [simp] w_lot
theorem last_wr (x : Lot) (h1 : -1 ≤ x.day) (h2 : x.day ≤ 100000) : wr (x.day - 1) = x.day - 1 := by rw [wr_of] <;> omega
@[simp] theorem w_fed (n : Nat) (s : Held) (x : Lot) (k : Int) (h1 : -1 ≤ x.day) (h2 : x.day ≤ 100000) : D (n + 2) n_fine_fed [ci s.src, ci s.beast, ci s.sort, ci s.eats, ci s.worth, ci s.drv, ci s.day, ci s.known, ci s.til, ci x.owner, ci x.stop, ci x.fin, ci x.day, ci k] = some [.fn n_fine_days_c1 [.ref [ci s.day], .ref [ci (lastDay x k)]]] := by
  rw [q_fine_fed]
  have e := last_wr x h1 h2
  simp only [R_fine_fed, lastDay, beq_dec, bne_dec, iteB_eq]
  by_cases hc : x.fin = 2
  · simp [hc]
  · by_cases hd : x.fin = 0 <;> simp [hc, hd, e]
theorem cis_cvb (t : Tariff) (b : Bool) : cis (Tariff.cvb t b) 0 24 = t.cv := rfl
theorem oks_cv (t : Tariff) (o : Nat) (h : o < 24) : oks [li] t.cv o = true := oks_int1 rfl h
def runS (p : Acc) (s : Held) (x : Lot) (a : Int × Int × Int) (d : Int) : Int × Int × Int := (a.1, wr (a.2.1 + daily p s d), if x.stop < 0 ∨ d < x.stop then wr (a.2.2 + dailyOf (inForce p d) s.sort) else a.2.2)
theorem run_sums {p : Acc} (hp : p.ok = true) {s : Held} (hs : s.ok = true) (x : Lot) : ∀ (l : List Int) (a : Int × Int × Int), 0 ≤ a.2.1 → 0 ≤ a.2.2 → a.2.1 + l.length * 100000 < 9223372036854775808 → a.2.2 + l.length * 100000 < 9223372036854775808 →
    l.foldl (runS p s x) a = (a.1, a.2.1 + sumOf (daily p s) l, a.2.2 + sumOf (fineOf p s x) l)
  | [], a, _, _, _, _ => by simp [sumOf]
  | d :: l, a, h1, h2, h3, h4 => by
    obtain ⟨b1, b2, _⟩ := daily_bounds hp hs d
    obtain ⟨c1, c2⟩ := (head_bounds hp hs d).2
    have hl : (((d :: l).length : Nat) : Int) * 100000 = l.length * 100000 + 100000 := by simp [Int.add_mul]
    rw [hl] at h3 h4
    have e1 : wr (a.2.1 + daily p s d) = a.2.1 + daily p s d := by rw [wr_of] <;> omega
    have e2 : wr (a.2.2 + dailyOf (inForce p d) s.sort) = a.2.2 + dailyOf (inForce p d) s.sort := by rw [wr_of] <;> omega
    have e3 : runS p s x a d = (a.1, a.2.1 + daily p s d, a.2.2 + fineOf p s x d) := by
      unfold runS fineOf; rw [e1, e2]; split <;> simp
    have f := fineOf_bounds hp hs x d
    rw [List.foldl_cons, e3, run_sums hp hs x l _ (by simp only; omega) (by simp only; omega) (by simp only; omega) (by simp only; omega)]
    simp only [sumOf_cons, Prod.mk.injEq, true_and]
    omega
@[simp] theorem w_charge (n : Nat) (p : Acc) (s : Held) (x : Lot) (k : Int) (hp : p.ok = true) (hs : s.ok = true) (hk : isDay k = true) (h1 : -1 ≤ x.day) (h2 : x.day ≤ 100000) : D (n + 4) n_fine_charge [.row 24 (p.ts.map Tariff.cv), .row 9 (p.ss.map Held.cv), .row 7 (p.ns.map Note.cv), ci s.src, ci s.beast, ci s.sort, ci s.eats, ci s.worth, ci s.drv, ci s.day, ci s.known, ci s.til, ci x.owner, ci x.stop, ci x.fin, ci x.day, ci k] = some [ci (charge p s x k).head, ci (charge p s x k).feed, ci (charge p s x k).fine] := by
  rw [q_fine_charge]
  have hb := Held.ok_b hs
  simp only [isDay, within, Bool.and_eq_true, decide_eq_true_eq] at hk
  have hf := p.ok_fits hp
  have hs1 : (0 : Int) ≤ s.sort := by omega
  have hs2 : s.sort < 10 := by omega
  have hs3 : 1 + s.sort.toNat * 1 < 24 := by omega
  have hs4 : 11 + s.sort.toNat * 1 < 24 := by omega
  have hlb : -2 ≤ lastDay x k ∧ lastDay x k ≤ 100000 := by unfold lastDay; split <;> (try split) <;> omega
  have hl := fed_len s x k hb.2.2.2.2.2.1.1 hk.2 h2
  unfold R_fine_charge
  simp only [w_inF _ _ _ _ _ hf, callO_val, cis_cvb, hs1, hs2, decide_true, Bool.and_self, chk_true, oks_cv _ _ hs3, oks_cv _ _ hs4, Int.ofNat_eq_natCast, Int.cast_ofNat_Int, w_fed _ _ _ _ h1 h2, seq_if]
  rw [show List.getD [CV.fn n_fine_days_c1 [.ref [ci s.day], .ref [ci (lastDay x k)]]] 0 dC = CV.fn n_fine_days_c1 [.ref [ci s.day], .ref [ci (lastDay x k)]] from rfl, it_days _ _ _ (by omega) (by omega)]
  obtain ⟨h0, hh0⟩ : ∃ h0, h0 = if s.day ≤ k then headOf (inForce p s.day) s.sort else 0 := ⟨_, rfl⟩
  have e0 : (if decide (s.day ≤ k) = true then [ci (gi (inForce p s.day).cv (1 + s.sort.toNat * 1)), ci 0, ci 0] else [ci 0, ci 0, ci 0]) = [ci h0, ci 0, ci 0] := by
    rw [hh0]; simp [headOf]
  rw [e0]
  rw [range_fold (fun (a : Int × Int × Int) => [ci a.1, ci a.2.1, ci a.2.2]) (runS p s x) (h0, 0, 0) ?hv (fun d a => ?hs)]
  case hv => rfl
  case hs =>
    by_cases hc : x.stop < 0
    · simp [hp, hs, hc, runS, dailyOf]
    · by_cases hd : d < x.stop <;> simp [hp, hs, hc, hd, runS, dailyOf]
  · rw [show upto s.day (lastDay x k) = fedDays s x k from rfl, run_sums hp hs x _ _ (by simp) (by simp) (by simp only; omega) (by simp only; omega)]
    simp [charge, hh0]
theorem upto_get {a b : Int} {i : Nat} (h : i < (upto a b).length) : (upto a b)[i] = a + i := by simp [upto]
theorem payer_bounds {p : Acc} (hp : p.ok = true) {s : Held} (hs : s.ok = true) (k : Int) (hk : isDay k = true) : 0 ≤ (payer s (lot p s k) (charge p s (lot p s k) k)).2 ∧ (payer s (lot p s k) (charge p s (lot p s k) k)).2 ≤ 50000000000 := by
  have hb := Held.ok_b hs
  simp only [isDay, within, Bool.and_eq_true, decide_eq_true_eq] at hk
  obtain ⟨h1, h2, _⟩ := lot_day p s k (by omega)
  obtain ⟨c1, c2, c3⟩ := charge_bounds hp hs (lot p s k) k hk.2 (by omega)
  unfold payer Charge.sum
  split
  · simp only; omega
  · split <;> simp only <;> omega
theorem shares_wr (y h : Int) (h1 : 0 ≤ y) (h2 : y ≤ 50000000000) (h3 : 0 ≤ h) (h4 : h ≤ 60) : wr (y * h) = y * h ∧ wr (Int.tdiv (y * h) 60) = Int.tdiv (y * h) 60 ∧ 0 ≤ Int.tdiv (y * h) 60 ∧ Int.tdiv (y * h) 60 ≤ y := by
  have a1 : 0 ≤ y * h := Int.mul_nonneg h1 h3
  have a2 : y * h ≤ y * 60 := Int.mul_le_mul_of_nonneg_left h4 h1
  have a3 : Int.tdiv (y * h) 60 = y * h / 60 := Int.tdiv_eq_ediv_of_nonneg a1
  rw [a3]
  refine ⟨by rw [wr_of] <;> omega, by rw [wr_of] <;> omega, by omega, by omega⟩
theorem owner_bounds : ∀ (l : List Note), (∀ n ∈ l, n.ok = true) → 0 ≤ ownerOf l ∧ ownerOf l ≤ 99 := by
  intro l h
  have hj : 0 ≤ (judged l).2 ∧ (judged l).2 ≤ 99 := by
    revert h
    refine snoc_ind (P := fun l => (∀ n ∈ l, n.ok = true) → 0 ≤ (judged l).2 ∧ (judged l).2 ≤ 99) ?_ ?_ l
    · intro _; simp [judged]
    · intro l a ih h
      have ih := ih fun n hn => h n (by simp [hn])
      obtain ⟨_, _, hk, _⟩ := Note.ok_b (h a (by simp))
      simp only [judged, List.foldl_append, List.foldl_cons, List.foldl_nil] at ih ⊢
      split <;> omega
  have hc : 0 ≤ claimer l ∧ claimer l ≤ 99 := by
    unfold claimer
    cases hf : l.find? (fun n => n.kind == 1 && n.day == least 1 l) with
    | none => simp
    | some n =>
      obtain ⟨_, _, hk, _⟩ := Note.ok_b (h n (List.mem_of_find?_eq_some hf))
      simp only [Option.map_some, Option.getD_some]; omega
  unfold ownerOf; split <;> omega
theorem w_due (n : Nat) (p : Acc) (s : Held) (k : Int) (hp : p.ok = true) (hs : s.ok = true) (hk : isDay k = true) : D (n + 6) n_fine_due [.row 24 (p.ts.map Tariff.cv), .row 9 (p.ss.map Held.cv), .row 7 (p.ns.map Note.cv), ci s.src, ci s.beast, ci s.sort, ci s.eats, ci s.worth, ci s.drv, ci s.day, ci s.known, ci s.til, ci k] = some [ci (dueOf p s k).payer, ci (dueOf p s k).hay, ci (dueOf p s k).drv, ci (dueOf p s k).lord] := by
  rw [q_fine_due]
  have hf := p.ok_fits hp
  obtain ⟨y1, y2⟩ := payer_bounds hp hs k hk
  obtain ⟨t1, t2, t3⟩ := hay_bounds hp s.day
  have hk' := hk
  simp only [isDay, within, Bool.and_eq_true, decide_eq_true_eq] at hk'
  obtain ⟨h1, h2, _⟩ := lot_day p s k (by omega)
  obtain ⟨c1, c2, c3⟩ := charge_bounds hp hs (lot p s k) k hk'.2 (by omega)
  have ho := owner_bounds (notes p s k) fun x hx => p.ok_n hp (notes_mem hx)
  have hoo : (lot p s k).owner = ownerOf (notes p s k) := rfl
  obtain ⟨a1, a2, a3, a4⟩ := shares_wr _ (inForce p s.day).hay y1 y2 (by omega) (by omega)
  obtain ⟨b1, b2, b3, b4⟩ := shares_wr _ (inForce p s.day).drv y1 y2 (by omega) (by omega)
  have e1 : wr (2 + (lot p s k).owner) = 2 + (lot p s k).owner := by rw [wr_of] <;> omega
  have e2 : wr ((charge p s (lot p s k) k).head + (charge p s (lot p s k) k).feed) = (charge p s (lot p s k) k).head + (charge p s (lot p s k) k).feed := by rw [wr_of] <;> omega
  have e3 : wr ((charge p s (lot p s k) k).head + (charge p s (lot p s k) k).feed + (charge p s (lot p s k) k).fine) = (charge p s (lot p s k) k).sum := by unfold Charge.sum; rw [wr_of] <;> omega
  simp only [R_fine_due, w_lot _ _ _ _ hp hs hk, callO_val, cis_s, cis_z, cat_s, cat_1, gi_z, gi_s, List.cons_append, List.nil_append, w_charge _ _ _ _ _ hp hs hk h1 (by omega : (lot p s k).day ≤ 100000), w_inF _ _ _ _ _ hf]
  have hy : ∀ K : List CV → Option Ou, (seqO (iteB ((lot p s k).fin == 2)
        (some (.nx [ci 2, ci s.worth]))
        (seqO (iteB ((lot p s k).fin != 3)
            (some (.nx [cb ((lot p s k).owner != 0)]))
            (some (.nx [cb false]))) fun v2 =>
        seqO (iteB (gb v2 0)
            (some (.nx [ci (wr (2 + (lot p s k).owner)), ci (wr ((wr ((charge p s (lot p s k) k).head + (charge p s (lot p s k) k).feed)) + (charge p s (lot p s k) k).fine))]))
            (some (.nx [ci (-1), ci 0]))) fun v3 =>
        some (.nx [ci (gi v3 0), ci (gi v3 1)]))) K) = K [ci (payer s (lot p s k) (charge p s (lot p s k) k)).1, ci (payer s (lot p s k) (charge p s (lot p s k) k)).2] := by
    intro K
    rw [e1, e2, e3]
    unfold payer
    by_cases x1 : (lot p s k).fin = 2
    · simp [x1]
    · by_cases x2 : (lot p s k).fin = 3
      · simp [x2]
      · by_cases x3 : (lot p s k).owner = 0 <;> simp [x1, x2, x3]
  rw [hy]
  unfold dueOf shares
  generalize hyy : payer s (lot p s k) (charge p s (lot p s k) k) = y at *
  by_cases hd : s.drv = 0
  · have e4 : wr (y.2 - (y.2 * (inForce p s.day).hay).tdiv 60) = y.2 - (y.2 * (inForce p s.day).hay).tdiv 60 := by rw [wr_of] <;> omega
    simp [hd, Tariff.cvb, a1, a2, e4]
  · have e4 : wr (y.2 - (y.2 * (inForce p s.day).hay).tdiv 60) = y.2 - (y.2 * (inForce p s.day).hay).tdiv 60 := by rw [wr_of] <;> omega
    have e5 : wr (y.2 - (y.2 * (inForce p s.day).hay).tdiv 60 - (y.2 * (inForce p s.day).drv).tdiv 60) = y.2 - (y.2 * (inForce p s.day).hay).tdiv 60 - (y.2 * (inForce p s.day).drv).tdiv 60 := by rw [wr_of] <;> omega
    simp [hd, Tariff.cvb, a1, a2, b1, b2, e4, e5]
attribute [simp] w_due
end Go.Proofs.Ytabhbdehbpmpkaa
namespace Go.Proofs.Ytabhbdehbpmpkaa
open Go Go.Sx Go.Fine
set_option maxRecDepth 10000
attribute [local simp] Bool.and_assoc Bool.or_assoc
def lotOf (p : Acc) (y k : Int) : Fine.Lot × Int := if (stayOf p y k).2 = 0 then (lot p (stayOf p y k).1 k, 0) else (⟨0, 0, 0, 0⟩, (stayOf p y k).2)
def fedOf (p : Acc) (y k : Int) : Int × Int := if (stayOf p y k).2 = 0 then (((fedDays (stayOf p y k).1 (lot p (stayOf p y k).1 k) k).length : Nat), 0) else (0, (stayOf p y k).2)
def chargedOf (p : Acc) (y k : Int) : Charge × Int := if (stayOf p y k).2 = 0 then (charge p (stayOf p y k).1 (lot p (stayOf p y k).1 k) k, 0) else (⟨0, 0, 0⟩, (stayOf p y k).2)
def duesOf (p : Acc) (y k : Int) : Due × Int := if (stayOf p y k).2 = 0 then (dueOf p (stayOf p y k).1 k, 0) else (⟨0, 0, 0, 0⟩, (stayOf p y k).2)
@[simp] theorem w_Lot (n : Nat) (p : Acc) (y k : Int) (hp : p.fits) : D (n + 11) n_fine_Lot [.row 24 (p.ts.map Tariff.cv), .row 9 (p.ss.map Held.cv), .row 7 (p.ns.map Note.cv), ci y, ci k] = some [ci (lotOf p y k).1.owner, ci (lotOf p y k).1.stop, ci (lotOf p y k).1.fin, ci (lotOf p y k).1.day, ci (lotOf p y k).2] := by
  rw [q_fine_Lot]
  simp only [R_fine_Lot, w_stayOf _ _ _ _ hp, callO_val, Held.cve, gi_z, gi_s, bne_dec, iteB_eq]
  by_cases he : (stayOf p y k).2 = 0
  · obtain ⟨hok, hk, hm, hs, _⟩ := stayOf_ok he
    have hk' := hk
    simp only [isDay, within, Bool.and_eq_true, decide_eq_true_eq] at hk'
    obtain ⟨h1, h2, _⟩ := lot_day p (stayOf p y k).1 k (by omega)
    simp [he, lotOf, hok, hs, hk, h1, (by omega : (lot p (stayOf p y k).1 k).day ≤ 100000)]
  · simp [he, lotOf]
@[simp] theorem w_Charged (n : Nat) (p : Acc) (y k : Int) (hp : p.fits) : D (n + 11) n_fine_Charged [.row 24 (p.ts.map Tariff.cv), .row 9 (p.ss.map Held.cv), .row 7 (p.ns.map Note.cv), ci y, ci k] = some [ci (chargedOf p y k).1.head, ci (chargedOf p y k).1.feed, ci (chargedOf p y k).1.fine, ci (chargedOf p y k).2] := by
  rw [q_fine_Charged]
  simp only [R_fine_Charged, w_stayOf _ _ _ _ hp, callO_val, Held.cve, gi_z, gi_s, bne_dec, iteB_eq]
  by_cases he : (stayOf p y k).2 = 0
  · obtain ⟨hok, hk, hm, hs, _⟩ := stayOf_ok he
    have hk' := hk
    simp only [isDay, within, Bool.and_eq_true, decide_eq_true_eq] at hk'
    obtain ⟨h1, h2, _⟩ := lot_day p (stayOf p y k).1 k (by omega)
    simp [he, chargedOf, hok, hs, hk, h1, (by omega : (lot p (stayOf p y k).1 k).day ≤ 100000)]
  · simp [he, chargedOf]
@[simp] theorem w_Dues (n : Nat) (p : Acc) (y k : Int) (hp : p.fits) : D (n + 11) n_fine_Dues [.row 24 (p.ts.map Tariff.cv), .row 9 (p.ss.map Held.cv), .row 7 (p.ns.map Note.cv), ci y, ci k] = some [ci (duesOf p y k).1.payer, ci (duesOf p y k).1.hay, ci (duesOf p y k).1.drv, ci (duesOf p y k).1.lord, ci (duesOf p y k).2] := by
  rw [q_fine_Dues]
  simp only [R_fine_Dues, w_stayOf _ _ _ _ hp, callO_val, Held.cve, gi_z, gi_s, bne_dec, iteB_eq]
  by_cases he : (stayOf p y k).2 = 0
  · obtain ⟨hok, hk, hm, hs, _⟩ := stayOf_ok he
    have hk' := hk
    simp only [isDay, within, Bool.and_eq_true, decide_eq_true_eq] at hk'
    obtain ⟨h1, h2, _⟩ := lot_day p (stayOf p y k).1 k (by omega)
    simp [he, duesOf, hok, hs, hk, h1, (by omega : (lot p (stayOf p y k).1 k).day ≤ 100000)]
  · simp [he, duesOf]
@[simp] theorem w_Fed (n : Nat) (p : Acc) (y k : Int) (hp : p.fits) : D (n + 11) n_fine_Fed [.row 24 (p.ts.map Tariff.cv), .row 9 (p.ss.map Held.cv), .row 7 (p.ns.map Note.cv), ci y, ci k] = some [ci (fedOf p y k).1, ci (fedOf p y k).2] := by
  rw [q_fine_Fed]
  simp only [R_fine_Fed, w_stayOf _ _ _ _ hp, callO_val, Held.cve, gi_z, gi_s, bne_dec, iteB_eq]
  by_cases he : (stayOf p y k).2 = 0
  · obtain ⟨hok, hk, hm, hs, _⟩ := stayOf_ok he
    have hk' := hk
    simp only [isDay, within, Bool.and_eq_true, decide_eq_true_eq] at hk'
    obtain ⟨h1, h2, _⟩ := lot_day p (stayOf p y k).1 k (by omega)
    have hb := Held.ok_b hs
    simp only [he, decide_true, Bool.not_true, Bool.false_eq_true, if_false, cat_s, cat_1, cis_s, cis_z, List.cons_append, List.nil_append, w_lot _ _ _ _ hok hs hk, callO_val, gi_z, gi_s, w_fed _ _ _ _ h1 (by omega : (lot p (stayOf p y k).1 k).day ≤ 100000), fedOf, if_true]
    generalize (stayOf p y k).1 = s at *
    generalize lot p s k = x at *
    have hlb : -2 ≤ lastDay x k ∧ lastDay x k ≤ 100000 := by unfold lastDay; split <;> (try split) <;> omega
    have hl := fed_len s x k hb.2.2.2.2.2.1.1 hk'.2 (by omega)
    rw [show List.getD [CV.fn n_fine_days_c1 [.ref [ci s.day], .ref [ci (lastDay x k)]]] 0 dC = CV.fn n_fine_days_c1 [.ref [ci s.day], .ref [ci (lastDay x k)]] from rfl, it_days _ _ _ (by omega) (by omega)]
    rw [range_fold (fun (a : Int) => [ci a]) (fun a _ => wr (a + 1)) 0 ?hv (fun d a => ?hs)]
    case hv => rfl
    case hs => simp
    · have key : ∀ (l : List Int) (a : Int), 0 ≤ a → a + l.length ≤ 1000000 → l.foldl (fun a _ => wr (a + 1)) a = a + l.length := by
        intro l
        induction l with
        | nil => intro a _ _; simp
        | cons d l ih =>
          intro a h0 hb
          have e : wr (a + 1) = a + 1 := by rw [wr_of] <;> (simp at hb; omega)
          simp only [List.foldl_cons, e]
          simp only [List.length_cons] at hb ⊢
          rw [ih _ (by omega) (by omega)]; omega
      have e := key (upto s.day (lastDay x k)) 0 (by omega) (by unfold fedDays at hl; omega)
      rw [e]; simp [fedDays]
  · simp [he, fedOf]
end Go.Proofs.Ytabhbdehbpmpkaa
namespace Go.Proofs.Ytabhbdehbpmpkaa
open Go Go.Sx Go.Fine
set_option maxRecDepth 10000
attribute [local simp] Bool.and_assoc Bool.or_assoc
theorem v_Noted_c1 (M : Den) (z x : Note) : callV sg M (.fn n_fine_Noted_c1 []) [ci z.src, ci z.stay, ci z.kind, ci z.owner, ci z.day, ci z.known, ci z.til, ci x.src, ci x.stay, ci x.kind, ci x.owner, ci x.day, ci x.known, ci x.til] [.agg [li, li, li, li, li, li, li], .agg [li, li, li, li, li, li, li]] [.one li] = M n_fine_Noted_c1 [ci z.src, ci z.stay, ci z.kind, ci z.owner, ci z.day, ci z.known, ci z.til, ci x.src, ci x.stay, ci x.kind, ci x.owner, ci x.day, ci x.known, ci x.til] := rfl
@[simp] theorem w_Noted_c1 (n : Nat) (z x : Note) : D (n + 3) n_fine_Noted_c1 [ci z.src, ci z.stay, ci z.kind, ci z.owner, ci z.day, ci z.known, ci z.til, ci x.src, ci x.stay, ci x.kind, ci x.owner, ci x.day, ci x.known, ci x.til] = some [ci (if z.src < x.src then -1 else if z.src > x.src then 1 else 0)] := by
  rw [q_fine_Noted_c1]; simp [R_fine_Noted_c1]
theorem half (a b : Nat) (h : a + b < 1000) : wr (Int.fdiv (IntKind.wrap .u64 (wr ((a : Int) + (b : Int)))) 2) = ((a + b) / 2 : Nat) := by
  have e1 : wr ((a : Int) + b) = ((a + b : Nat) : Int) := by rw [wr_of] <;> omega
  have e2 : IntKind.wrap .u64 ((a + b : Nat) : Int) = ((a + b : Nat) : Int) := by rw [IntKind.wrap_u64]; omega
  rw [e1, e2, Int.fdiv_eq_ediv_of_nonneg _ (by omega), wr_of] <;> omega
theorem acc_lt {p : Acc} (hp : p.ok = true) : ∀ (j i : Nat) (hj : j < p.ns.length) (hi : i < j), p.ns[i].src < p.ns[j].src := by
  simp only [Acc.ok, listOk, Bool.and_eq_true] at hp
  have h1 := rising_iff.1 hp.2.1.2
  intro j i hj hi
  have := rising_lt (l := p.ns.map Note.src) h1 j i (by simpa using hj) hi
  simpa using this
theorem w_BSF (n : Nat) (p : Acc) (x : Note) (hp : p.ok = true) : D (n + 4) n_slices_BinarySearchFunc_Note [.row 7 (p.ns.map Note.cv), ci x.src, ci x.stay, ci x.kind, ci x.owner, ci x.day, ci x.known, ci x.til, .fn n_fine_Noted_c1 []] = some [ci (posN p.ns x.src), cb (p.ns.any fun z => decide (z.src = x.src))] := by
  rw [q_slices_BinarySearchFunc_Note]
  unfold R_slices_BinarySearchFunc_Note
  obtain ⟨_, _, hlen⟩ := p.ok_len hp
  have hlt := acc_lt hp
  obtain ⟨hpos, hiff⟩ := posN_spec hlt x.src
  generalize hst : (fun (v0 : List CV) => _) = step
  have hstep : ∀ (a b : Nat), a < b → b ≤ p.ns.length → step [ci a, ci b] = some (.nx (if ((a + b) / 2 : Nat) < posN p.ns x.src then [ci (((a + b) / 2 + 1 : Nat) : Int), ci b] else [ci a, ci (((a + b) / 2 : Nat) : Int)])) := by
    intro a b h1 h2
    have hh := half a b (by omega)
    obtain ⟨m, hm⟩ : ∃ m, m = (a + b) / 2 := ⟨_, rfl⟩
    have hml : m < p.ns.length := by omega
    have hmm := hiff m hml
    have hw := wr_nat (show m < 9223372036854775807 by omega)
    rw [← hst]
    simp only [gi_z, gi_s, hh, ← hm, show (a : Int) < b by omega, decide_true, iteB_eq, if_true, inb_map hml, el_map hml, chk_true]
    by_cases hc : p.ns[m].src < x.src
    · rw [if_pos (hmm.1 hc)]
      simp [Note.cv, v_Noted_c1, hc, hw]
    · rw [if_neg (fun h => hc (hmm.2 h))]
      by_cases hd : p.ns[m].src > x.src <;> simp [Note.cv, v_Noted_c1, hc, hd]
  have hend : ∀ (a : Nat), step [ci a, ci a] = some (.br 0 [ci a]) := by
    intro a; rw [← hst]; simp
  have key : ∀ (m a b : Nat), b - a = m → a ≤ posN p.ns x.src → posN p.ns x.src ≤ b → b ≤ p.ns.length → loopD step [ci a, ci b] = some (.br 0 [ci (posN p.ns x.src)]) := by
    intro m
    induction m using Nat.strongRecOn with
    | _ m ih =>
      intro a b h1 h2 h3 h4
      by_cases e : a = b
      · subst e
        rw [loop_end (hend a) (by simp), show posN p.ns x.src = a by omega]
      · rw [loop_eq (hstep a b (by omega) h4)]
        split
        · exact ih _ (by omega) _ _ rfl (by omega) h3 h4
        · exact ih _ (by omega) _ _ rfl h2 (by omega) (by omega)
  have hrun := key _ 0 p.ns.length rfl (by omega) hpos (by omega)
  rw [show ([ci 0, ci (il (p.ns.map Note.cv))] : List CV) = [ci ((0 : Nat) : Int), ci p.ns.length] by simp, hrun]
  generalize hi : posN p.ns x.src = i0 at *
  by_cases hlt' : i0 < p.ns.length
  · have hn : ¬ p.ns[i0].src < x.src := fun h => by have := (hiff i0 hlt').1 h; omega
    have hany : (p.ns.any fun z => decide (z.src = x.src)) = decide (p.ns[i0].src = x.src) := by
      rw [Bool.eq_iff_iff, List.any_eq_true]
      constructor
      · rintro ⟨z, hz, he⟩
        obtain ⟨j, hj, rfl⟩ := List.mem_iff_getElem.1 hz
        simp only [decide_eq_true_eq] at he ⊢
        have h5 : ¬ j < i0 := fun h => by have := (hiff j hj).2 h; omega
        by_cases h6 : j = i0
        · subst h6; exact he
        · have := hlt j i0 hj (by omega); omega
      · intro he; exact ⟨_, List.getElem_mem hlt', he⟩
    rw [hany]
    by_cases hd : p.ns[i0].src > x.src
    · simp [hlt', inb_map, el_map, Note.cv, v_Noted_c1, hn, hd, show ¬ p.ns[i0].src = x.src by omega]
    · have he : p.ns[i0].src = x.src := by omega
      simp [hlt', inb_map, el_map, Note.cv, v_Noted_c1, hn, hd]; simp [he]
  · have hany : (p.ns.any fun z => decide (z.src = x.src)) = false := by
      rw [Bool.eq_false_iff]; intro h
      obtain ⟨z, hz, he⟩ := List.any_eq_true.1 h
      obtain ⟨j, hj, rfl⟩ := List.mem_iff_getElem.1 hz
      simp only [decide_eq_true_eq] at he
      have := (hiff j hj).2 (by omega); omega
    simp [hlt', hany]
@[simp] theorem w_Clone_T (n : Nat) (l : List Tariff) (h : l.length ≤ 1000) : D (n + 1) n_slices_Clone_Tariff [.row 24 (l.map Tariff.cv)] = some [.row 24 (l.map Tariff.cv)] := by
  rw [q_slices_Clone_Tariff]
  unfold R_slices_Clone_Tariff
  rw [clone_row _ _ _ _ (by omega) (by omega)]; rfl
@[simp] theorem w_Clone_H (n : Nat) (l : List Held) (h : l.length ≤ 1000) : D (n + 1) n_slices_Clone_Held [.row 9 (l.map Held.cv)] = some [.row 9 (l.map Held.cv)] := by
  rw [q_slices_Clone_Held]
  unfold R_slices_Clone_Held
  rw [clone_row _ _ _ _ (by omega) (by omega)]; rfl
@[simp] theorem w_Clone_N (n : Nat) (l : List Note) (h : l.length ≤ 1000) : D (n + 1) n_slices_Clone_Note [.row 7 (l.map Note.cv)] = some [.row 7 (l.map Note.cv), .fn 34 []] := D_clone n _ (fitA_of (by simp; omega) (by simp; omega))
@[simp] theorem w_Noted (n : Nat) (p : Acc) (x : Note) (hp : p.fits) : D (n + 9) n_fine_Noted [.row 24 (p.ts.map Tariff.cv), .row 9 (p.ss.map Held.cv), .row 7 (p.ns.map Note.cv), ci x.src, ci x.stay, ci x.kind, ci x.owner, ci x.day, ci x.known, ci x.til] = some [.row 24 ((noted p x).1.ts.map Tariff.cv), .row 9 ((noted p x).1.ss.map Held.cv), .row 7 ((noted p x).1.ns.map Note.cv), ci (noted p x).2] := by
  rw [q_fine_Noted]
  simp only [R_fine_Noted, w_Check _ _ hp, callO_val, gi_z, bne_dec, iteB_eq, check]
  cases hok : p.ok with
  | false => simp [noted, hok, Acc.none]
  | true =>
    obtain ⟨l1, l2, l3⟩ := p.ok_len hok
    have hpos := (posN_spec (acc_lt hok) x.src).1
    have hb := w_BSF (n + 4) p x hok
    simp only [if_true, decide_true, Bool.not_true, Bool.false_eq_true, if_false, hb, callO_val]
    cases hx : x.ok with
    | false => simp [noted, hok, hx, Acc.none]
    | true =>
      cases hy : p.ns.any fun z => decide (z.src = x.src) with
      | true => simp [noted, hok, hx, hy, Acc.none]
      | false =>
        by_cases h60 : p.ns.length = 60
        · simp [noted, hok, hx, hy, h60, Acc.none]
        · have hf : fitA p.ns.length 1 56 = true := fitA_of (by omega) (by omega)
          have h60' : ¬ ((p.ns.length : Int) = 60) := by omega
          have l1' : p.ts.length ≤ 1000 := by omega
          have l2' : p.ss.length ≤ 1000 := by omega
          have l3' : p.ns.length ≤ 1000 := by omega
          have hpos' : ((posN p.ns x.src : Nat) : Int) ≤ p.ns.length := by omega
          simp [noted, hok, hx, hy, h60, h60', l1', l2', l3', ownR, insR, D_ins, hf, hpos, List.map_take, List.map_drop, Note.cv]
end Go.Proofs.Ytabhbdehbpmpkaa
namespace Go.Proofs.Ytabhbdehbpmpkaa
open Go Go.Sx Go.Fine
set_option maxRecDepth 10000
attribute [local simp] Bool.and_assoc Bool.or_assoc
def eqP (a b : Post) : Bool := decide (a.day = b.day) && (decide (a.stay = b.stay) && (decide (a.frm = b.frm) && (decide (a.to = b.to) && decide (a.amt = b.amt))))
def eqT (a b : Tariff) : Bool := decide (a.frm = b.frm) && (decide (a.h0 = b.h0) && (decide (a.h1 = b.h1) && (decide (a.h2 = b.h2) && (decide (a.h3 = b.h3) && (decide (a.h4 = b.h4) && (decide (a.h5 = b.h5) && (decide (a.h6 = b.h6) && (decide (a.h7 = b.h7) && (decide (a.h8 = b.h8) && (decide (a.h9 = b.h9) && (decide (a.d0 = b.d0) && (decide (a.d1 = b.d1) && (decide (a.d2 = b.d2) && (decide (a.d3 = b.d3) && (decide (a.d4 = b.d4) && (decide (a.d5 = b.d5) && (decide (a.d6 = b.d6) && (decide (a.d7 = b.d7) && (decide (a.d8 = b.d8) && (decide (a.d9 = b.d9) && (decide (a.feed = b.feed) && (decide (a.hay = b.hay) && (decide (a.drv = b.drv))))))))))))))))))))))))
theorem eqP_refl (a : Post) : eqP a a = true := by simp [eqP]
theorem w_Same (n : Nat) (a b : List Post) (ha : a.length < 9223372036854775807) : D (n + 1) n_r06_Same [.row 5 (a.map Post.cv), .row 5 (b.map Post.cv)] = some [cb (sameL eqP a b)] := by
  rw [q_r06_Same]
  unfold R_r06_Same
  rw [loop_all a.length (decide (a.length = b.length)) (atB eqP a b) 0 ?hv (fun h i hi => ?hs) (fun i => ?hf) (fun h => ?he)]
  case hv =>
    have e : ((a.length : Int) = b.length) = (a.length = b.length) := by apply propext; omega
    simp [e]
  case hf => simp
  case he => simp
  case hs =>
    have hi' : i < b.length := by simp at h; omega
    have hw := wr_nat (show i < 9223372036854775807 by omega)
    simp [hi, hi', inb_map, el_map, Post.cv, hw, atB, eqP]
  · rw [sameL_all]; simp
@[simp] theorem w_Has (n : Nat) (l : List Int) (x : Int) (hl : l.length < 9223372036854775807) : D (n + 1) n_r06_Has [.row 1 (ints l), ci x] = some [cb (l.any fun y => decide (y = x))] := by
  rw [q_r06_Has]
  unfold R_r06_Has
  rw [loop_findL (fun y => decide (y = x)) (fun _ => some (.ret [cb true])) (some (.br 0 [])) l (fun i => [ci (i : Int)]) ?hv ?hR ?hX (fun i hi hp => ?h1) (fun i hi hp => ?h2) ?h3]
  case hv => rfl
  case hR => simp
  case hX => simp
  case h3 => simp [ints]
  case h1 =>
    have hw := wr_nat (show i < 9223372036854775807 by omega)
    simp at hp
    simp [hi, ints, inb_map, el_map, hw, hp]
  case h2 =>
    simp at hp
    simp [hi, ints, inb_map, el_map, hp]
  · cases hf : l.find? fun y => decide (y = x) with
    | none =>
      rw [List.find?_eq_none] at hf
      have : (l.any fun y => decide (y = x)) = false := by rw [Bool.eq_false_iff]; intro h; obtain ⟨y, h1, h2⟩ := List.any_eq_true.1 h; exact hf y h1 h2
      simp [this]
    | some y =>
      have : (l.any fun y => decide (y = x)) = true := List.any_eq_true.2 ⟨y, List.mem_of_find?_eq_some hf, List.find?_some (p := fun y => decide (y = x)) hf⟩
      simp [this]
end Go.Proofs.Ytabhbdehbpmpkaa
namespace Go.Proofs.Ytabhbdehbpmpkaa
open Go Go.Sx Go.Fine
set_option maxRecDepth 10000
attribute [local simp] Bool.and_assoc Bool.or_assoc
noncomputable section
def paidX (M : Den) (a0_0 a0_1 a0_2 : List (List CV)) (sc : List CV) (day : Int) : Option Ou := (callO (M n_fine_counts [ci (gi sc 7), ci (gi sc 8), ci day]) fun v2 =>
                      iteB (!(gb v2 0))
                        (some (.ret ([CV.row 3 []])))
                        (callO (M n_fine_due (cat [[CV.row 24 a0_0, CV.row 9 a0_1, CV.row 7 a0_2], cis sc 0 9, [ci day]])) fun v3 =>
                        iteB ((gi v3 0) == (-1))
                          (some (.ret ([CV.row 3 []])))
                          (chk (okEs [(.int .i64), (.int .i64)] (.int .i64) (entM 2 [ci (gi v3 0), ci 1] (.int .i64 0) (List.set (entM 2 [ci (gi v3 0), ci 0] (.int .i64 0) []) 0 [ci (gi v3 0), ci 0, ci (wr (0 + (gi v3 3)))]))) <|
                          chk ((decide (0 ≤ (Int.ofNat (posM 2 [ci (gi v3 0), ci 1] (List.set (entM 2 [ci (gi v3 0), ci 0] (.int .i64 0) []) 0 [ci (gi v3 0), ci 0, ci (wr (0 + (gi v3 3)))]))))) && (decide ((Int.toNat (Int.ofNat (posM 2 [ci (gi v3 0), ci 1] (List.set (entM 2 [ci (gi v3 0), ci 0] (.int .i64 0) []) 0 [ci (gi v3 0), ci 0, ci (wr (0 + (gi v3 3)))])))) < (List.length (entM 2 [ci (gi v3 0), ci 1] (.int .i64 0) (List.set (entM 2 [ci (gi v3 0), ci 0] (.int .i64 0) []) 0 [ci (gi v3 0), ci 0, ci (wr (0 + (gi v3 3)))])))))) <|
                          seqO (iteB ((gi sc 5) != 0)
                              (chk (okEs [(.int .i64), (.int .i64)] (.int .i64) (List.set (entM 2 [ci (gi v3 0), ci 1] (.int .i64 0) (List.set (entM 2 [ci (gi v3 0), ci 0] (.int .i64 0) []) 0 [ci (gi v3 0), ci 0, ci (wr (0 + (gi v3 3)))])) (Int.toNat (Int.ofNat (posM 2 [ci (gi v3 0), ci 1] (List.set (entM 2 [ci (gi v3 0), ci 0] (.int .i64 0) []) 0 [ci (gi v3 0), ci 0, ci (wr (0 + (gi v3 3)))])))) ((List.take 2 (el (entM 2 [ci (gi v3 0), ci 1] (.int .i64 0) (List.set (entM 2 [ci (gi v3 0), ci 0] (.int .i64 0) []) 0 [ci (gi v3 0), ci 0, ci (wr (0 + (gi v3 3)))])) (Int.ofNat (posM 2 [ci (gi v3 0), ci 1] (List.set (entM 2 [ci (gi v3 0), ci 0] (.int .i64 0) []) 0 [ci (gi v3 0), ci 0, ci (wr (0 + (gi v3 3)))]))))) ++ ([ci (wr ((cI (lookM 2 [ci (gi v3 0), ci 1] (.int .i64 0) (List.set (entM 2 [ci (gi v3 0), ci 0] (.int .i64 0) []) 0 [ci (gi v3 0), ci 0, ci (wr (0 + (gi v3 3)))]))) + (gi v3 1)))])))) <|
                              chk (okEs [(.int .i64), (.int .i64)] (.int .i64) (List.set (entM 2 [ci (gi v3 0), ci 1] (.int .i64 0) (List.set (entM 2 [ci (gi v3 0), ci 0] (.int .i64 0) []) 0 [ci (gi v3 0), ci 0, ci (wr (0 + (gi v3 3)))])) (Int.toNat (Int.ofNat (posM 2 [ci (gi v3 0), ci 1] (List.set (entM 2 [ci (gi v3 0), ci 0] (.int .i64 0) []) 0 [ci (gi v3 0), ci 0, ci (wr (0 + (gi v3 3)))])))) ((List.take 2 (el (entM 2 [ci (gi v3 0), ci 1] (.int .i64 0) (List.set (entM 2 [ci (gi v3 0), ci 0] (.int .i64 0) []) 0 [ci (gi v3 0), ci 0, ci (wr (0 + (gi v3 3)))])) (Int.ofNat (posM 2 [ci (gi v3 0), ci 1] (List.set (entM 2 [ci (gi v3 0), ci 0] (.int .i64 0) []) 0 [ci (gi v3 0), ci 0, ci (wr (0 + (gi v3 3)))]))))) ++ ([ci (wr ((cI (lookM 2 [ci (gi v3 0), ci 1] (.int .i64 0) (List.set (entM 2 [ci (gi v3 0), ci 0] (.int .i64 0) []) 0 [ci (gi v3 0), ci 0, ci (wr (0 + (gi v3 3)))]))) + (gi v3 1)))])))) <|
                              chk (okEs [(.int .i64), (.int .i64)] (.int .i64) (entM 2 [ci (gi v3 0), ci (wr (2 + (gi sc 5)))] (.int .i64 0) (List.set (entM 2 [ci (gi v3 0), ci 1] (.int .i64 0) (List.set (entM 2 [ci (gi v3 0), ci 0] (.int .i64 0) []) 0 [ci (gi v3 0), ci 0, ci (wr (0 + (gi v3 3)))])) (Int.toNat (Int.ofNat (posM 2 [ci (gi v3 0), ci 1] (List.set (entM 2 [ci (gi v3 0), ci 0] (.int .i64 0) []) 0 [ci (gi v3 0), ci 0, ci (wr (0 + (gi v3 3)))])))) ((List.take 2 (el (entM 2 [ci (gi v3 0), ci 1] (.int .i64 0) (List.set (entM 2 [ci (gi v3 0), ci 0] (.int .i64 0) []) 0 [ci (gi v3 0), ci 0, ci (wr (0 + (gi v3 3)))])) (Int.ofNat (posM 2 [ci (gi v3 0), ci 1] (List.set (entM 2 [ci (gi v3 0), ci 0] (.int .i64 0) []) 0 [ci (gi v3 0), ci 0, ci (wr (0 + (gi v3 3)))]))))) ++ ([ci (wr ((cI (lookM 2 [ci (gi v3 0), ci 1] (.int .i64 0) (List.set (entM 2 [ci (gi v3 0), ci 0] (.int .i64 0) []) 0 [ci (gi v3 0), ci 0, ci (wr (0 + (gi v3 3)))]))) + (gi v3 1)))]))))) <|
                              chk ((decide (0 ≤ (Int.ofNat (posM 2 [ci (gi v3 0), ci (wr (2 + (gi sc 5)))] (List.set (entM 2 [ci (gi v3 0), ci 1] (.int .i64 0) (List.set (entM 2 [ci (gi v3 0), ci 0] (.int .i64 0) []) 0 [ci (gi v3 0), ci 0, ci (wr (0 + (gi v3 3)))])) (Int.toNat (Int.ofNat (posM 2 [ci (gi v3 0), ci 1] (List.set (entM 2 [ci (gi v3 0), ci 0] (.int .i64 0) []) 0 [ci (gi v3 0), ci 0, ci (wr (0 + (gi v3 3)))])))) ((List.take 2 (el (entM 2 [ci (gi v3 0), ci 1] (.int .i64 0) (List.set (entM 2 [ci (gi v3 0), ci 0] (.int .i64 0) []) 0 [ci (gi v3 0), ci 0, ci (wr (0 + (gi v3 3)))])) (Int.ofNat (posM 2 [ci (gi v3 0), ci 1] (List.set (entM 2 [ci (gi v3 0), ci 0] (.int .i64 0) []) 0 [ci (gi v3 0), ci 0, ci (wr (0 + (gi v3 3)))]))))) ++ ([ci (wr ((cI (lookM 2 [ci (gi v3 0), ci 1] (.int .i64 0) (List.set (entM 2 [ci (gi v3 0), ci 0] (.int .i64 0) []) 0 [ci (gi v3 0), ci 0, ci (wr (0 + (gi v3 3)))]))) + (gi v3 1)))]))))))) && (decide ((Int.toNat (Int.ofNat (posM 2 [ci (gi v3 0), ci (wr (2 + (gi sc 5)))] (List.set (entM 2 [ci (gi v3 0), ci 1] (.int .i64 0) (List.set (entM 2 [ci (gi v3 0), ci 0] (.int .i64 0) []) 0 [ci (gi v3 0), ci 0, ci (wr (0 + (gi v3 3)))])) (Int.toNat (Int.ofNat (posM 2 [ci (gi v3 0), ci 1] (List.set (entM 2 [ci (gi v3 0), ci 0] (.int .i64 0) []) 0 [ci (gi v3 0), ci 0, ci (wr (0 + (gi v3 3)))])))) ((List.take 2 (el (entM 2 [ci (gi v3 0), ci 1] (.int .i64 0) (List.set (entM 2 [ci (gi v3 0), ci 0] (.int .i64 0) []) 0 [ci (gi v3 0), ci 0, ci (wr (0 + (gi v3 3)))])) (Int.ofNat (posM 2 [ci (gi v3 0), ci 1] (List.set (entM 2 [ci (gi v3 0), ci 0] (.int .i64 0) []) 0 [ci (gi v3 0), ci 0, ci (wr (0 + (gi v3 3)))]))))) ++ ([ci (wr ((cI (lookM 2 [ci (gi v3 0), ci 1] (.int .i64 0) (List.set (entM 2 [ci (gi v3 0), ci 0] (.int .i64 0) []) 0 [ci (gi v3 0), ci 0, ci (wr (0 + (gi v3 3)))]))) + (gi v3 1)))])))))) < (List.length (entM 2 [ci (gi v3 0), ci (wr (2 + (gi sc 5)))] (.int .i64 0) (List.set (entM 2 [ci (gi v3 0), ci 1] (.int .i64 0) (List.set (entM 2 [ci (gi v3 0), ci 0] (.int .i64 0) []) 0 [ci (gi v3 0), ci 0, ci (wr (0 + (gi v3 3)))])) (Int.toNat (Int.ofNat (posM 2 [ci (gi v3 0), ci 1] (List.set (entM 2 [ci (gi v3 0), ci 0] (.int .i64 0) []) 0 [ci (gi v3 0), ci 0, ci (wr (0 + (gi v3 3)))])))) ((List.take 2 (el (entM 2 [ci (gi v3 0), ci 1] (.int .i64 0) (List.set (entM 2 [ci (gi v3 0), ci 0] (.int .i64 0) []) 0 [ci (gi v3 0), ci 0, ci (wr (0 + (gi v3 3)))])) (Int.ofNat (posM 2 [ci (gi v3 0), ci 1] (List.set (entM 2 [ci (gi v3 0), ci 0] (.int .i64 0) []) 0 [ci (gi v3 0), ci 0, ci (wr (0 + (gi v3 3)))]))))) ++ ([ci (wr ((cI (lookM 2 [ci (gi v3 0), ci 1] (.int .i64 0) (List.set (entM 2 [ci (gi v3 0), ci 0] (.int .i64 0) []) 0 [ci (gi v3 0), ci 0, ci (wr (0 + (gi v3 3)))]))) + (gi v3 1)))])))))))) <|
                              some (.nx ([CV.row 3 (List.set (entM 2 [ci (gi v3 0), ci (wr (2 + (gi sc 5)))] (.int .i64 0) (List.set (entM 2 [ci (gi v3 0), ci 1] (.int .i64 0) (List.set (entM 2 [ci (gi v3 0), ci 0] (.int .i64 0) []) 0 [ci (gi v3 0), ci 0, ci (wr (0 + (gi v3 3)))])) (Int.toNat (Int.ofNat (posM 2 [ci (gi v3 0), ci 1] (List.set (entM 2 [ci (gi v3 0), ci 0] (.int .i64 0) []) 0 [ci (gi v3 0), ci 0, ci (wr (0 + (gi v3 3)))])))) ((List.take 2 (el (entM 2 [ci (gi v3 0), ci 1] (.int .i64 0) (List.set (entM 2 [ci (gi v3 0), ci 0] (.int .i64 0) []) 0 [ci (gi v3 0), ci 0, ci (wr (0 + (gi v3 3)))])) (Int.ofNat (posM 2 [ci (gi v3 0), ci 1] (List.set (entM 2 [ci (gi v3 0), ci 0] (.int .i64 0) []) 0 [ci (gi v3 0), ci 0, ci (wr (0 + (gi v3 3)))]))))) ++ ([ci (wr ((cI (lookM 2 [ci (gi v3 0), ci 1] (.int .i64 0) (List.set (entM 2 [ci (gi v3 0), ci 0] (.int .i64 0) []) 0 [ci (gi v3 0), ci 0, ci (wr (0 + (gi v3 3)))]))) + (gi v3 1)))])))) (Int.toNat (Int.ofNat (posM 2 [ci (gi v3 0), ci (wr (2 + (gi sc 5)))] (List.set (entM 2 [ci (gi v3 0), ci 1] (.int .i64 0) (List.set (entM 2 [ci (gi v3 0), ci 0] (.int .i64 0) []) 0 [ci (gi v3 0), ci 0, ci (wr (0 + (gi v3 3)))])) (Int.toNat (Int.ofNat (posM 2 [ci (gi v3 0), ci 1] (List.set (entM 2 [ci (gi v3 0), ci 0] (.int .i64 0) []) 0 [ci (gi v3 0), ci 0, ci (wr (0 + (gi v3 3)))])))) ((List.take 2 (el (entM 2 [ci (gi v3 0), ci 1] (.int .i64 0) (List.set (entM 2 [ci (gi v3 0), ci 0] (.int .i64 0) []) 0 [ci (gi v3 0), ci 0, ci (wr (0 + (gi v3 3)))])) (Int.ofNat (posM 2 [ci (gi v3 0), ci 1] (List.set (entM 2 [ci (gi v3 0), ci 0] (.int .i64 0) []) 0 [ci (gi v3 0), ci 0, ci (wr (0 + (gi v3 3)))]))))) ++ ([ci (wr ((cI (lookM 2 [ci (gi v3 0), ci 1] (.int .i64 0) (List.set (entM 2 [ci (gi v3 0), ci 0] (.int .i64 0) []) 0 [ci (gi v3 0), ci 0, ci (wr (0 + (gi v3 3)))]))) + (gi v3 1)))])))))) ((List.take 2 (el (entM 2 [ci (gi v3 0), ci (wr (2 + (gi sc 5)))] (.int .i64 0) (List.set (entM 2 [ci (gi v3 0), ci 1] (.int .i64 0) (List.set (entM 2 [ci (gi v3 0), ci 0] (.int .i64 0) []) 0 [ci (gi v3 0), ci 0, ci (wr (0 + (gi v3 3)))])) (Int.toNat (Int.ofNat (posM 2 [ci (gi v3 0), ci 1] (List.set (entM 2 [ci (gi v3 0), ci 0] (.int .i64 0) []) 0 [ci (gi v3 0), ci 0, ci (wr (0 + (gi v3 3)))])))) ((List.take 2 (el (entM 2 [ci (gi v3 0), ci 1] (.int .i64 0) (List.set (entM 2 [ci (gi v3 0), ci 0] (.int .i64 0) []) 0 [ci (gi v3 0), ci 0, ci (wr (0 + (gi v3 3)))])) (Int.ofNat (posM 2 [ci (gi v3 0), ci 1] (List.set (entM 2 [ci (gi v3 0), ci 0] (.int .i64 0) []) 0 [ci (gi v3 0), ci 0, ci (wr (0 + (gi v3 3)))]))))) ++ ([ci (wr ((cI (lookM 2 [ci (gi v3 0), ci 1] (.int .i64 0) (List.set (entM 2 [ci (gi v3 0), ci 0] (.int .i64 0) []) 0 [ci (gi v3 0), ci 0, ci (wr (0 + (gi v3 3)))]))) + (gi v3 1)))])))) (Int.ofNat (posM 2 [ci (gi v3 0), ci (wr (2 + (gi sc 5)))] (List.set (entM 2 [ci (gi v3 0), ci 1] (.int .i64 0) (List.set (entM 2 [ci (gi v3 0), ci 0] (.int .i64 0) []) 0 [ci (gi v3 0), ci 0, ci (wr (0 + (gi v3 3)))])) (Int.toNat (Int.ofNat (posM 2 [ci (gi v3 0), ci 1] (List.set (entM 2 [ci (gi v3 0), ci 0] (.int .i64 0) []) 0 [ci (gi v3 0), ci 0, ci (wr (0 + (gi v3 3)))])))) ((List.take 2 (el (entM 2 [ci (gi v3 0), ci 1] (.int .i64 0) (List.set (entM 2 [ci (gi v3 0), ci 0] (.int .i64 0) []) 0 [ci (gi v3 0), ci 0, ci (wr (0 + (gi v3 3)))])) (Int.ofNat (posM 2 [ci (gi v3 0), ci 1] (List.set (entM 2 [ci (gi v3 0), ci 0] (.int .i64 0) []) 0 [ci (gi v3 0), ci 0, ci (wr (0 + (gi v3 3)))]))))) ++ ([ci (wr ((cI (lookM 2 [ci (gi v3 0), ci 1] (.int .i64 0) (List.set (entM 2 [ci (gi v3 0), ci 0] (.int .i64 0) []) 0 [ci (gi v3 0), ci 0, ci (wr (0 + (gi v3 3)))]))) + (gi v3 1)))]))))))) ++ ([ci (wr ((cI (lookM 2 [ci (gi v3 0), ci (wr (2 + (gi sc 5)))] (.int .i64 0) (List.set (entM 2 [ci (gi v3 0), ci 1] (.int .i64 0) (List.set (entM 2 [ci (gi v3 0), ci 0] (.int .i64 0) []) 0 [ci (gi v3 0), ci 0, ci (wr (0 + (gi v3 3)))])) (Int.toNat (Int.ofNat (posM 2 [ci (gi v3 0), ci 1] (List.set (entM 2 [ci (gi v3 0), ci 0] (.int .i64 0) []) 0 [ci (gi v3 0), ci 0, ci (wr (0 + (gi v3 3)))])))) ((List.take 2 (el (entM 2 [ci (gi v3 0), ci 1] (.int .i64 0) (List.set (entM 2 [ci (gi v3 0), ci 0] (.int .i64 0) []) 0 [ci (gi v3 0), ci 0, ci (wr (0 + (gi v3 3)))])) (Int.ofNat (posM 2 [ci (gi v3 0), ci 1] (List.set (entM 2 [ci (gi v3 0), ci 0] (.int .i64 0) []) 0 [ci (gi v3 0), ci 0, ci (wr (0 + (gi v3 3)))]))))) ++ ([ci (wr ((cI (lookM 2 [ci (gi v3 0), ci 1] (.int .i64 0) (List.set (entM 2 [ci (gi v3 0), ci 0] (.int .i64 0) []) 0 [ci (gi v3 0), ci 0, ci (wr (0 + (gi v3 3)))]))) + (gi v3 1)))]))))) + (gi v3 2)))])))])))
                              (some (.nx ([CV.row 3 (List.set (entM 2 [ci (gi v3 0), ci 1] (.int .i64 0) (List.set (entM 2 [ci (gi v3 0), ci 0] (.int .i64 0) []) 0 [ci (gi v3 0), ci 0, ci (wr (0 + (gi v3 3)))])) (Int.toNat (Int.ofNat (posM 2 [ci (gi v3 0), ci 1] (List.set (entM 2 [ci (gi v3 0), ci 0] (.int .i64 0) []) 0 [ci (gi v3 0), ci 0, ci (wr (0 + (gi v3 3)))])))) ((List.take 2 (el (entM 2 [ci (gi v3 0), ci 1] (.int .i64 0) (List.set (entM 2 [ci (gi v3 0), ci 0] (.int .i64 0) []) 0 [ci (gi v3 0), ci 0, ci (wr (0 + (gi v3 3)))])) (Int.ofNat (posM 2 [ci (gi v3 0), ci 1] (List.set (entM 2 [ci (gi v3 0), ci 0] (.int .i64 0) []) 0 [ci (gi v3 0), ci 0, ci (wr (0 + (gi v3 3)))]))))) ++ ([ci (wr ((cI (lookM 2 [ci (gi v3 0), ci 1] (.int .i64 0) (List.set (entM 2 [ci (gi v3 0), ci 0] (.int .i64 0) []) 0 [ci (gi v3 0), ci 0, ci (wr (0 + (gi v3 3)))]))) + (gi v3 1)))])))])))) fun v4 =>
                          some (.ret [CV.row 3 (gr v4 0)]))))
def recX1 (rc m1 : List (List CV)) (day src : Int) (out : List (List CV)) : Option Ou := (loopD (fun v4 =>
                          iteB (decide ((gi v4 0) < (il rc)))
                            (chk (inb (gi v4 0) rc) <|
                            chk (decide ((Int.toNat (gi v4 0)) < (List.length rc))) <|
                            chk (oks [li] (el rc (gi v4 0)) 0) <|
                            blkO 6 (loopD (fun v5 =>
                                iteB (decide ((gi v5 0) ≤ 101))
                                  (chk (okEs [(.int .i64), (.int .i64)] (.int .i64) m1) <|
                                  seqO (iteB ((wr ((cI (lookM 2 [ci (gi v5 0), ci (gi (el rc (gi v4 0)) 0)] (.int .i64 0) m1)) - 0)) != 0)
                                      (some (.nx [cb ((gi v5 0) != (gi (el rc (gi v4 0)) 0))]))
                                      (some (.nx [cb false]))) fun v6 =>
                                  seqO (iteB (gb v6 0)
                                      (chk (fitA (List.length (gr v5 1)) 1 40) <|
                                      some (.nx ([CV.row 5 ((gr v5 1) ++ (chunk 5 1 ([ci day, ci src, ci (gi v5 0), ci (gi (el rc (gi v4 0)) 0), ci (wr ((cI (lookM 2 [ci (gi v5 0), ci (gi (el rc (gi v4 0)) 0)] (.int .i64 0) m1)) - 0))])))])))
                                      (some (.nx [CV.row 5 (gr v5 1)]))) fun v7 =>
                                  some (.nx [ci (wr ((gi v5 0) + 1)), CV.row 5 (gr v7 0)]))
                                  (some (.br 6 [CV.row 5 (gr v5 1)]))) [ci 2, CV.row 5 (gr v4 1)]) fun v5 =>
                            some (.nx [ci (wr ((gi v4 0) + 1)), CV.row 5 (gr v5 0)]))
                            (some (.br 4 [CV.row 5 (gr v4 1)]))) [ci 0, CV.row 5 out])
def recX2 (rc m1 m2 : List (List CV)) (day src : Int) (out : List (List CV)) : Option Ou := (loopD (fun v5 =>
                          iteB (decide ((gi v5 0) < (il rc)))
                            (chk (inb (gi v5 0) rc) <|
                            chk (decide ((Int.toNat (gi v5 0)) < (List.length rc))) <|
                            chk (oks [li] (el rc (gi v5 0)) 0) <|
                            blkO 6 (loopD (fun v6 =>
                                iteB (decide ((gi v6 0) ≤ 101))
                                  (chk (okEs [(.int .i64), (.int .i64)] (.int .i64) m1) <|
                                  chk (okEs [(.int .i64), (.int .i64)] (.int .i64) m2) <|
                                  seqO (iteB ((wr ((cI (lookM 2 [ci (gi v6 0), ci (gi (el rc (gi v5 0)) 0)] (.int .i64 0) m1)) - (cI (lookM 2 [ci (gi v6 0), ci (gi (el rc (gi v5 0)) 0)] (.int .i64 0) m2)))) != 0)
                                      (some (.nx [cb ((gi v6 0) != (gi (el rc (gi v5 0)) 0))]))
                                      (some (.nx [cb false]))) fun v7 =>
                                  seqO (iteB (gb v7 0)
                                      (chk (fitA (List.length (gr v6 1)) 1 40) <|
                                      some (.nx ([CV.row 5 ((gr v6 1) ++ (chunk 5 1 ([ci day, ci src, ci (gi v6 0), ci (gi (el rc (gi v5 0)) 0), ci (wr ((cI (lookM 2 [ci (gi v6 0), ci (gi (el rc (gi v5 0)) 0)] (.int .i64 0) m1)) - (cI (lookM 2 [ci (gi v6 0), ci (gi (el rc (gi v5 0)) 0)] (.int .i64 0) m2))))])))])))
                                      (some (.nx [CV.row 5 (gr v6 1)]))) fun v8 =>
                                  some (.nx [ci (wr ((gi v6 0) + 1)), CV.row 5 (gr v8 0)]))
                                  (some (.br 6 [CV.row 5 (gr v6 1)]))) [ci 2, CV.row 5 (gr v5 1)]) fun v6 =>
                            some (.nx [ci (wr ((gi v5 0) + 1)), CV.row 5 (gr v6 0)]))
                            (some (.br 4 [CV.row 5 (gr v5 1)]))) [ci 0, CV.row 5 out])
def postX (M : Den) (a0_0 a0_1 a0_2 a1 : List (List CV)) : Option Ou :=
    blkO 0 (loopD (fun v0 =>
            iteB (decide ((gi v0 0) < (il a1)))
              (chk (inb (gi v0 0) a1) <|
              chk (oks [li] (el a1 (gi v0 0)) 0) <|
              blkO 2 (loopD (fun v1 =>
                  iteB (decide ((gi v1 0) < (il a0_1)))
                    (chk (inb (gi v1 0) a0_1) <|
                    chk (oks (List.replicate 9 li) (el a0_1 (gi v1 0)) 0) <|
                    inlO (paidX M a0_0 a0_1 a0_2 (el a0_1 (gi v1 0)) (gi (el a1 (gi v0 0)) 0)) fun v2 =>
                    iteB (decide ((gi v0 0) > 0))
                      (chk (inb (wr ((gi v0 0) - 1)) a1) <|
                      chk (oks [li] (el a1 (wr ((gi v0 0) - 1))) 0) <|
                      inlO (paidX M a0_0 a0_1 a0_2 (el a0_1 (gi v1 0)) (gi (el a1 (wr ((gi v0 0) - 1))) 0)) fun v3 =>
                      seqO (iteB ((gi (el a0_1 (gi v1 0)) 5) != 0)
                          (some (.nx ([CV.row 1 ([[ci 0], [ci 1], [ci (wr (2 + (gi (el a0_1 (gi v1 0)) 5)))]])])))
                          (some (.nx ([CV.row 1 (chunk 1 2 [ci 0, ci 1])])))) fun v4 =>
                      blkO 4 (recX2 (gr v4 0) (gr v2 0) (gr v3 0) (gi (el a1 (gi v0 0)) 0) (gi (el a0_1 (gi v1 0)) 0) (gr v1 1)) fun v5 =>
                      some (.nx [ci (wr ((gi v1 0) + 1)), CV.row 5 (gr v5 0)]))
                      (seqO (iteB ((gi (el a0_1 (gi v1 0)) 5) != 0)
                          (some (.nx ([CV.row 1 ([[ci 0], [ci 1], [ci (wr (2 + (gi (el a0_1 (gi v1 0)) 5)))]])])))
                          (some (.nx ([CV.row 1 (chunk 1 2 [ci 0, ci 1])])))) fun v3 =>
                      blkO 4 (recX1 (gr v3 0) (gr v2 0) (gi (el a1 (gi v0 0)) 0) (gi (el a0_1 (gi v1 0)) 0) (gr v1 1)) fun v4 =>
                      some (.nx [ci (wr ((gi v1 0) + 1)), CV.row 5 (gr v4 0)])))
                    (some (.br 2 [CV.row 5 (gr v1 1)]))) [ci 0, CV.row 5 (gr v0 1)]) fun v1 =>
              some (.nx [ci (wr ((gi v0 0) + 1)), CV.row 5 (gr v1 0)]))
              (some (.br 0 [CV.row 5 (gr v0 1)]))) ([ci 0, CV.row 5 []])) fun v0 =>
        some (.ret [CV.row 5 (gr v0 0)])
theorem postX_eq (M : Den) (a0_0 a0_1 a0_2 a1 : List (List CV)) : R_fine_postings M a0_0 a0_1 a0_2 a1 = postX M a0_0 a0_1 a0_2 a1 := rfl
end
theorem posM_z (a b : Int) : posM 2 [ci a, ci b] [] = 0 := rfl
theorem posM_s (a b c d : Int) (r : List CV) (es : List (List CV)) : posM 2 [ci a, ci b] ((ci c :: ci d :: r) :: es) = if a = c ∧ b = d then 0 else posM 2 [ci a, ci b] es + 1 := by
  simp only [posM, ci, List.map_cons, List.map_nil, List.take_succ_cons, List.take_zero, cvV, eqB, vEq, Bool.and_true, beq_dec, Bool.and_eq_true, decide_eq_true_eq]
def paidRow (p : Acc) (s : Held) (k : Int) : List (List CV) :=
  if counts s.known s.til k = false ∨ (dueOf p s k).payer = -1 then [] else
    [ci (dueOf p s k).payer, ci 0, ci (dueOf p s k).lord] :: [ci (dueOf p s k).payer, ci 1, ci (dueOf p s k).hay] :: (if s.drv = 0 then [] else [[ci (dueOf p s k).payer, ci (2 + s.drv), ci (dueOf p s k).drv]])
theorem due_bounds {p : Acc} (hp : p.ok = true) {s : Held} (hs : s.ok = true) {k : Int} (hk : isDay k = true) : -100000000000 ≤ (dueOf p s k).lord ∧ (dueOf p s k).lord ≤ 100000000000 ∧ 0 ≤ (dueOf p s k).hay ∧ (dueOf p s k).hay ≤ 50000000000 ∧ 0 ≤ (dueOf p s k).drv ∧ (dueOf p s k).drv ≤ 50000000000 := by
  obtain ⟨y1, y2⟩ := payer_bounds hp hs k hk
  obtain ⟨t1, t2, t3⟩ := hay_bounds hp s.day
  obtain ⟨a1, a2, a3, a4⟩ := shares_wr _ (inForce p s.day).hay y1 y2 (by omega) (by omega)
  obtain ⟨b1, b2, b3, b4⟩ := shares_wr _ (inForce p s.day).drv y1 y2 (by omega) (by omega)
  unfold dueOf shares
  by_cases hd : s.drv = 0
  · simp only [hd, if_true]; omega
  · simp only [hd, if_false]; omega
theorem okE_cons (a b c : Int) (es : List (List CV)) : okEs [.int .i64, .int .i64] (.int .i64) ([ci a, ci b, ci c] :: es) = okEs [.int .i64, .int .i64] (.int .i64) es := rfl
theorem okE_nil : okEs [.int .i64, .int .i64] (.int .i64) [] = true := rfl
theorem w_paidX (n : Nat) (p : Acc) (s : Held) (k : Int) (hp : p.ok = true) (hs : s.ok = true) (hk : isDay k = true) : paidX (D (n + 6)) (p.ts.map Tariff.cv) (p.ss.map Held.cv) (p.ns.map Note.cv) s.cv k = some (.ret [.row 3 (paidRow p s k)]) := by
  have hb := due_bounds hp hs hk
  have hbs := Held.ok_b hs
  have e0 : wr (0 + (dueOf p s k).lord) = (dueOf p s k).lord := by rw [wr_of] <;> omega
  have e1 : wr ((dueOf p s k).hay) = (dueOf p s k).hay := by rw [wr_of] <;> omega
  have e2 : wr ((dueOf p s k).drv) = (dueOf p s k).drv := by rw [wr_of] <;> omega
  have e3 : wr (2 + s.drv) = 2 + s.drv := by rw [wr_of] <;> omega
  have hcv : s.cv = [ci s.src, ci s.beast, ci s.sort, ci s.eats, ci s.worth, ci s.drv, ci s.day, ci s.known, ci s.til] := rfl
  have zz : CV.val (.int .i64 0) = ci 0 := rfl
  unfold paidX
  simp only [hcv, gi_z, gi_s, w_counts, callO_val, gb_z, cat_s, cat_1, cis_s, cis_z, List.cons_append, List.nil_append, w_due _ _ _ _ hp hs hk, e0, e3]
  cases hc : counts s.known s.til k with
  | false => simp [paidRow, hc]
  | true =>
    by_cases hy : (dueOf p s k).payer = -1
    · simp [paidRow, hc, hy]
    · by_cases hd : s.drv = 0
      · simp [paidRow, hc, hy, hd, entM, lookM, posM_z, posM_s, zz, okE_cons, okE_nil, el, e1]
      · have n0 : ¬ (2 + s.drv = 0) := by omega
        have n1 : ¬ (2 + s.drv = 1) := by omega
        simp [paidRow, hc, hy, hd, entM, lookM, posM_z, posM_s, zz, okE_cons, okE_nil, el, e1, e2, n0, n1]
theorem look_nil (a b : Int) : cI (lookM 2 [ci a, ci b] (.int .i64 0) []) = 0 := rfl
theorem look_cons (a b c d v : Int) (es : List (List CV)) : lookM 2 [ci a, ci b] (.int .i64 0) ([ci c, ci d, ci v] :: es) = if a = c ∧ b = d then ci v else lookM 2 [ci a, ci b] (.int .i64 0) es := by
  unfold lookM
  rw [posM_s]
  by_cases h : a = c ∧ b = d
  · rw [if_pos h, if_pos h]; rfl
  · rw [if_neg h, if_neg h]; rfl
theorem recv_cases {s : Held} {r : Nat × Int} (h : r ∈ receivers s) : r = (0, 0) ∨ r = (1, 1) ∨ (r = (2, 2 + s.drv) ∧ s.drv ≠ 0) := by
  unfold receivers at h
  by_cases hd : s.drv = 0
  · simp [hd] at h; rcases h with h | h <;> simp [h]
  · simp [hd] at h; rcases h with h | h | h <;> simp [h, hd]
theorem look_paid (p : Acc) {s : Held} (hs : s.ok = true) (k : Int) {f : Int} (hf : 2 ≤ f) {r : Nat × Int} (hr : r ∈ receivers s) : cI (lookM 2 [ci f, ci r.2] (.int .i64 0) (paidRow p s k)) = paid p s (some k) f r.1 := by
  have hbs := Held.ok_b hs
  have hz : cI (lookM 2 [ci f, ci r.2] (.int .i64 0) []) = 0 := rfl
  unfold paidRow paid
  change _ = (if counts s.known s.til k = true ∧ (dueOf p s k).payer = f then share (dueOf p s k) r.1 else 0)
  by_cases hc : counts s.known s.til k = true
  · by_cases hy : (dueOf p s k).payer = -1
    · rw [if_pos (.inr hy), hz, if_neg (by rw [hy]; omega)]
    · rw [if_neg (by simp [hc, hy])]
      rcases recv_cases hr with rfl | rfl | ⟨rfl, hd⟩
      · simp only [look_cons]
        by_cases hfp : f = (dueOf p s k).payer
        · simp [hfp, hc, share]
        · have : ¬ (dueOf p s k).payer = f := fun h => hfp h.symm
          by_cases hd : s.drv = 0
          · simp [hfp, this, hd, look_nil]
          · simp [hfp, this, hd, look_nil, look_cons]
      · simp only [look_cons]
        by_cases hfp : f = (dueOf p s k).payer
        · simp [hfp, hc, share]
        · have : ¬ (dueOf p s k).payer = f := fun h => hfp h.symm
          by_cases hd : s.drv = 0
          · simp [hfp, this, hd, look_nil]
          · simp [hfp, this, hd, look_nil, look_cons]
      · have n0 : ¬ (2 + s.drv = 0) := by omega
        have n1 : ¬ (2 + s.drv = 1) := by omega
        simp only [look_cons, if_neg hd]
        by_cases hfp : f = (dueOf p s k).payer
        · simp [hfp, hc, share, n0, n1]
        · have : ¬ (dueOf p s k).payer = f := fun h => hfp h.symm
          simp [hfp, this, look_nil]
  · have hc' : counts s.known s.til k = false := by simpa using hc
    rw [if_pos (.inl hc'), hz, if_neg (by simp [hc'])]
theorem okE_paid (p : Acc) (s : Held) (k : Int) : okEs [.int .i64, .int .i64] (.int .i64) (paidRow p s k) = true := by
  unfold paidRow; split
  · rfl
  · split <;> rfl
theorem paid_bounds {p : Acc} (hp : p.ok = true) {s : Held} (hs : s.ok = true) (k : Option Int) (hk : ∀ d, k = some d → isDay d = true) (f : Int) (r : Nat) : -100000000000 ≤ paid p s k f r ∧ paid p s k f r ≤ 100000000000 := by
  cases k with
  | none => simp [paid]
  | some k =>
    have hb := due_bounds hp hs (hk k rfl)
    simp only [paid]
    split
    · unfold share; split <;> omega
    · omega
theorem loop_acc {A : Type} {step : List CV → Option Ou} (l : List A) (g : A → List (List CV)) (c L : Nat) (hg : ∀ x ∈ l, (g x).length ≤ c) (E : Nat → Int) (k b : Nat) (es0 : List (List CV)) (h0 : es0.length ≤ L) {vs : List CV} (hv : vs = [ci (E 0), .row k es0])
    (hs : ∀ i (h : i < l.length) (es : List (List CV)), es.length ≤ L + i * c → step [ci (E i), .row k es] = some (.nx [ci (E (i + 1)), .row k (es ++ g l[i])]))
    (he : ∀ es, step [ci (E l.length), .row k es] = some (.br b [.row k es])) : loopD step vs = some (.br b [.row k (es0 ++ l.flatMap g)]) := by
  have key : ∀ n, n ≤ l.length → ((l.take n).flatMap g).length ≤ n * c := by
    intro n
    induction n with
    | zero => intro _; simp
    | succ n ih =>
      intro h
      have := hg l[n] (List.getElem_mem (by omega))
      rw [take_succ (by omega), List.flatMap_append, List.length_append]
      simp only [List.flatMap_cons, List.flatMap_nil, List.append_nil]
      have := ih (by omega)
      rw [Nat.add_mul]; omega
  refine loop_ix l.length (fun i => [ci (E i), .row k (es0 ++ (l.take i).flatMap g)]) _ (by simp [hv]) (fun i hi => ?_) ?_ (by simp)
  · rw [hs i hi _ (by rw [List.length_append]; have := key i (by omega); omega), take_succ hi, List.flatMap_append]
    simp
  · simp only [List.take_length, he]
theorem filterMap_cv {A B : Type} (h : A → Option B) (cv : B → List CV) : ∀ (l : List A), (l.filterMap h).map cv = l.flatMap fun x => ((h x).map cv).toList
  | [] => rfl
  | x :: l => by
    rw [List.filterMap_cons, List.flatMap_cons, ← filterMap_cv h cv l]
    cases h x <;> rfl
theorem flatMap_cv {A B : Type} (h : A → List B) (cv : B → List CV) (l : List A) : (l.flatMap h).map cv = l.flatMap fun x => (h x).map cv := by
  induction l with
  | nil => rfl
  | cons x l ih => simp [List.flatMap_cons, ih]
def recRow (s : Held) : List (List CV) := (receivers s).map fun r => [ci r.2]
def toOne (p : Acc) (s : Held) (was : Option Int) (day : Int) (r : Nat × Int) (f : Int) : Option Post :=
  if paid p s (some day) f r.1 - paid p s was f r.1 ≠ 0 ∧ f ≠ r.2 then some ⟨day, s.src, f, r.2, paid p s (some day) f r.1 - paid p s was f r.1⟩ else none
theorem posted_eq (p : Acc) (s : Held) (was : Option Int) (day : Int) : posted p s was day = (receivers s).flatMap fun r => (upto 2 101).filterMap (toOne p s was day r) := rfl
theorem toOne_len (p : Acc) (s : Held) (was : Option Int) (day : Int) (r : Nat × Int) (f : Int) : (((toOne p s was day r f).map Post.cv).toList).length ≤ 1 := by
  cases toOne p s was day r f <;> simp
theorem one_len (p : Acc) (s : Held) (was : Option Int) (day : Int) (r : Nat × Int) : (((upto 2 101).filterMap (toOne p s was day r)).map Post.cv).length ≤ 100 := by
  rw [List.length_map]
  exact Nat.le_trans (List.length_filterMap_le _ _) (by rw [upto_length]; decide)
theorem recv_len (s : Held) : (receivers s).length ≤ 3 := by unfold receivers; split <;> simp
theorem posted_len (p : Acc) (s : Held) (was : Option Int) (day : Int) : (posted p s was day).length ≤ 300 := by
  rw [posted_eq, List.length_flatMap]
  have h : ∀ (l : List (Nat × Int)), (l.map fun r => ((upto 2 101).filterMap (toOne p s was day r)).length).sum ≤ l.length * 100 := by
    intro l
    induction l with
    | nil => simp
    | cons r l ih =>
      have := one_len p s was day r
      rw [List.length_map] at this
      simp only [List.map_cons, List.sum_cons, List.length_cons, Nat.add_mul]; omega
  have := h (receivers s)
  have := recv_len s
  omega
theorem recX2_eq (p : Acc) (s : Held) (w : Int) (k : Int) (hp : p.ok = true) (hs : s.ok = true) (hk : isDay k = true) (hw0 : isDay w = true) (out : List (List CV)) (ho : out.length ≤ 300000) :
    recX2 (recRow s) (paidRow p s k) (paidRow p s w) k s.src out = some (.br 4 [.row 5 (out ++ (posted p s (some w) k).map Post.cv)]) := by
  unfold recX2
  rw [posted_eq, flatMap_cv]
  refine loop_acc (receivers s) (fun r => ((upto 2 101).filterMap (toOne p s (some w) k r)).map Post.cv) 100 300000 (fun r _ => one_len p s (some w) k r) (fun i => (i : Int)) 5 4 out ho rfl (fun i hi es hes => ?_) (fun es => ?_)
  · have hl3 := recv_len s
    have hr : (receivers s)[i] ∈ receivers s := List.getElem_mem hi
    generalize hrr : (receivers s)[i] = r at hr
    have hw := wr_nat (show i < 9223372036854775807 by omega)
    have hel : el (recRow s) (i : Int) = [ci r.2] := by rw [recRow, el_map hi, hrr]
    have hin : inb (i : Int) (recRow s) = true := by rw [recRow]; exact inb_map hi
    have hil : il (recRow s) = (receivers s).length := by rw [recRow]; exact il_map _ _
    have hln : (recRow s).length = (receivers s).length := by rw [recRow, List.length_map]
    have hii : (i : Int) < (receivers s).length := by omega
    simp only [gi_z, gr_s, gr_z, hil, hii, decide_true, iteB_eq, if_true, hin, hln, Int.toNat_natCast, hi, hel, chk_true, oks_cons0, ok_ci, oks_z, Bool.and_self]
    rw [filterMap_cv]
    rw [loop_acc (upto 2 101) (fun f => ((toOne p s (some w) k r f).map Post.cv).toList) 1 310000 (fun f _ => toOne_len p s (some w) k r f) (fun j => 2 + (j : Int)) 5 6 es (by omega) ?hv (fun j hj es' hes' => ?hs') (fun es' => ?he')]
    case hv => rfl
    case he' => simp [upto_length]
    case hs' =>
      have hjl : j < 100 := by rw [upto_length] at hj; simpa using hj
      have hjf : (upto 2 101)[j]'hj = 2 + j := upto_get hj
      have hw2 : wr (2 + (j : Int) + 1) = 2 + ((j + 1 : Nat) : Int) := by rw [wr_of] <;> omega
      have hf2 : (2 : Int) ≤ 2 + j := by omega
      have b1 := paid_bounds hp hs (some k) (fun d h => by cases h; exact hk) (2 + j) r.1
      have b2 := paid_bounds hp hs (some w) (fun d h => by cases h; exact hw0) (2 + j) r.1
      have hl2 := look_paid p hs w hf2 hr
      have hwn : wr (paid p s (some k) (2 + j) r.1 - paid p s (some w) (2 + j) r.1) = paid p s (some k) (2 + j) r.1 - paid p s (some w) (2 + j) r.1 := by rw [wr_of] <;> omega
      have hl1 := look_paid p hs k hf2 hr
      have hfit : fitA es'.length 1 40 = true := fitA_of (by omega) (by omega)
      rw [hjf]
      have hle : (2 : Int) + j ≤ 101 := by omega
      simp only [gi_z, gi_s, gr_z, gr_s, hle, decide_true, iteB_eq, if_true, okE_paid, okE_nil, chk_true, hl1, hl2, hwn, hw2, hfit]
      unfold toOne
      by_cases c1 : paid p s (some k) (2 + j) r.1 - paid p s (some w) (2 + j) r.1 = 0
      · simp [c1]
      · by_cases c2 : (2 : Int) + j = r.2 <;> simp [c1, c2, Post.cv]
    · simp [hw]
  · have hil : il (recRow s) = (receivers s).length := by rw [recRow]; exact il_map _ _
    simp [hil]
theorem recX1_eq (p : Acc) (s : Held)  (k : Int) (hp : p.ok = true) (hs : s.ok = true) (hk : isDay k = true)  (out : List (List CV)) (ho : out.length ≤ 300000) :
    recX1 (recRow s) (paidRow p s k)  k s.src out = some (.br 4 [.row 5 (out ++ (posted p s none k).map Post.cv)]) := by
  unfold recX1
  rw [posted_eq, flatMap_cv]
  refine loop_acc (receivers s) (fun r => ((upto 2 101).filterMap (toOne p s none k r)).map Post.cv) 100 300000 (fun r _ => one_len p s none k r) (fun i => (i : Int)) 5 4 out ho rfl (fun i hi es hes => ?_) (fun es => ?_)
  · have hl3 := recv_len s
    have hr : (receivers s)[i] ∈ receivers s := List.getElem_mem hi
    generalize hrr : (receivers s)[i] = r at hr
    have hw := wr_nat (show i < 9223372036854775807 by omega)
    have hel : el (recRow s) (i : Int) = [ci r.2] := by rw [recRow, el_map hi, hrr]
    have hin : inb (i : Int) (recRow s) = true := by rw [recRow]; exact inb_map hi
    have hil : il (recRow s) = (receivers s).length := by rw [recRow]; exact il_map _ _
    have hln : (recRow s).length = (receivers s).length := by rw [recRow, List.length_map]
    have hii : (i : Int) < (receivers s).length := by omega
    simp only [gi_z, gr_s, gr_z, hil, hii, decide_true, iteB_eq, if_true, hin, hln, Int.toNat_natCast, hi, hel, chk_true, oks_cons0, ok_ci, oks_z, Bool.and_self]
    rw [filterMap_cv]
    rw [loop_acc (upto 2 101) (fun f => ((toOne p s none k r f).map Post.cv).toList) 1 310000 (fun f _ => toOne_len p s none k r f) (fun j => 2 + (j : Int)) 5 6 es (by omega) ?hv (fun j hj es' hes' => ?hs') (fun es' => ?he')]
    case hv => rfl
    case he' => simp [upto_length]
    case hs' =>
      have hjl : j < 100 := by rw [upto_length] at hj; simpa using hj
      have hjf : (upto 2 101)[j]'hj = 2 + j := upto_get hj
      have hw2 : wr (2 + (j : Int) + 1) = 2 + ((j + 1 : Nat) : Int) := by rw [wr_of] <;> omega
      have hf2 : (2 : Int) ≤ 2 + j := by omega
      have b1 := paid_bounds hp hs (some k) (fun d h => by cases h; exact hk) (2 + j) r.1
      have hl2 : True := trivial
      have hwn : wr (paid p s (some k) (2 + j) r.1 - 0) = paid p s (some k) (2 + j) r.1 - paid p s none (2 + j) r.1 := by rw [wr_of] <;> simp only [paid] at * <;> omega
      have hl1 := look_paid p hs k hf2 hr
      have hfit : fitA es'.length 1 40 = true := fitA_of (by omega) (by omega)
      rw [hjf]
      have hle : (2 : Int) + j ≤ 101 := by omega
      simp only [gi_z, gi_s, gr_z, gr_s, hle, decide_true, iteB_eq, if_true, okE_paid, okE_nil, chk_true, hl1, hl2, hwn, hw2, hfit]
      unfold toOne
      by_cases c1 : paid p s (some k) (2 + j) r.1 - paid p s none (2 + j) r.1 = 0
      · simp [c1]
      · by_cases c2 : (2 : Int) + j = r.2 <;> simp [c1, c2, Post.cv]
    · simp [hw]
  · have hil : il (recRow s) = (receivers s).length := by rw [recRow]; exact il_map _ _
    simp [hil]
def prs (w : Option Int) (l : List Int) : List (Option Int × Int) := (w :: l.map some).zip l
theorem postsGo_eq (p : Acc) : ∀ (l : List Int) (w : Option Int), postsGo p w l = (prs w l).flatMap fun x => p.ss.flatMap fun s => posted p s x.1 x.2
  | [], w => rfl
  | d :: l, w => by
    rw [postsGo, postsGo_eq p l (some d)]
    simp only [prs, List.map_cons, List.zip_cons_cons, List.flatMap_cons]
theorem prs_len (l : List Int) : (prs none l).length = l.length := by simp [prs]
theorem prs_get (l : List Int) (i : Nat) (h : i < (prs none l).length) : (prs none l)[i].2 = l[i]'(by rw [prs_len] at h; exact h) ∧ (prs none l)[i].1 = if h0 : i = 0 then none else some (l[i - 1]'(by rw [prs_len] at h; omega)) := by
  have hl := h
  rw [prs_len] at hl
  simp only [prs, List.getElem_zip, true_and]
  cases i with
  | zero => simp
  | succ i => simp
theorem recv_seq (s : Held) (hs : s.ok = true) (K : List CV → Option Ou) : seqO (iteB (s.drv != 0) (some (.nx ([CV.row 1 ([[ci 0], [ci 1], [ci (wr (2 + s.drv))]])]))) (some (.nx ([CV.row 1 (chunk 1 2 [ci 0, ci 1])])))) K = K [.row 1 (recRow s)] := by
  have hbs := Held.ok_b hs
  have e3 : wr (2 + s.drv) = 2 + s.drv := by rw [wr_of] <;> omega
  by_cases hd : s.drv = 0
  · simp [hd, recRow, receivers]
  · simp [hd, recRow, receivers, e3]
theorem cv_days {l : List Int} (h : daysOk l = true) : (∀ d ∈ l, isDay d = true) ∧ l.length ≤ 12 := by
  simp only [daysOk, Bool.and_eq_true, List.all_eq_true, decide_eq_true_eq] at h
  exact ⟨h.1.1, h.2⟩
theorem day_len (p : Acc) (hp : p.ok = true) (x : Option Int × Int) : ((p.ss.flatMap fun s => posted p s x.1 x.2).map Post.cv).length ≤ 18000 := by
  obtain ⟨_, h60, _⟩ := p.ok_len hp
  rw [List.length_map, List.length_flatMap]
  have h : ∀ (l : List Held), (l.map fun s => (posted p s x.1 x.2).length).sum ≤ l.length * 300 := by
    intro l
    induction l with
    | nil => simp
    | cons s l ih =>
      have := posted_len p s x.1 x.2
      simp only [List.map_cons, List.sum_cons, List.length_cons, Nat.add_mul]; omega
  have := h p.ss
  omega
@[simp] theorem w_postings (n : Nat) (p : Acc) (l : List Int) (hp : p.ok = true) (hl : daysOk l = true) : D (n + 7) n_fine_postings [.row 24 (p.ts.map Tariff.cv), .row 9 (p.ss.map Held.cv), .row 7 (p.ns.map Note.cv), .row 1 (ints l)] = some [.row 5 ((postsGo p none l).map Post.cv)] := by
  rw [q_fine_postings, postX_eq]
  obtain ⟨hdays, h12⟩ := cv_days hl
  obtain ⟨_, h60, _⟩ := p.ok_len hp
  unfold postX
  rw [postsGo_eq, flatMap_cv]
  rw [loop_acc (prs none l) (fun x => (p.ss.flatMap fun s => posted p s x.1 x.2).map Post.cv) 18000 0 (fun x _ => day_len p hp x) (fun i => (i : Int)) 5 0 [] (by simp) ?hv (fun i hi es hes => ?hs) (fun es => ?he)]
  case hv => rfl
  case he => simp [prs_len, ints]
  case hs =>
    obtain ⟨g2, g1⟩ := prs_get l i hi
    have hil : i < l.length := by rw [prs_len] at hi; exact hi
    generalize hx : (prs none l)[i] = x at g1 g2
    have hd1 : isDay l[i] = true := hdays _ (List.getElem_mem hil)
    have hw := wr_nat (show i < 9223372036854775807 by omega)
    have hel : el (ints l) (i : Int) = [ci l[i]] := el_map hil
    have hin : inb (i : Int) (ints l) = true := inb_map hil
    have hill : il (ints l) = l.length := il_map _ _
    have hii : (i : Int) < l.length := by omega
    simp only [gi_z, gr_s, gr_z, hill, hii, decide_true, iteB_eq, if_true, hin, hel, chk_true, oks_cons0, ok_ci, oks_z, Bool.and_self]
    rw [flatMap_cv]
    rw [loop_acc p.ss (fun s => (posted p s x.1 x.2).map Post.cv) 300 220000 (fun s _ => by rw [List.length_map]; exact posted_len p s x.1 x.2) (fun j => (j : Int)) 5 2 es (by omega) ?hv2 (fun j hj es' hes' => ?hs2) (fun es' => ?he2)]
    case hv2 => rfl
    case he2 => simp
    case hs2 =>
      have hjs : p.ss[j].ok = true := p.ok_s hp (List.getElem_mem hj)
      generalize hsj : p.ss[j] = s at hjs
      have hw2 := wr_nat (show j < 9223372036854775807 by omega)
      have hel2 : el (p.ss.map Held.cv) (j : Int) = s.cv := by rw [el_map hj, hsj]
      have hin2 : inb (j : Int) (p.ss.map Held.cv) = true := inb_map hj
      have hjj : (j : Int) < p.ss.length := by omega
      have hok9 : oks (List.replicate 9 li) s.cv 0 = true := rfl
      have hsd : gi s.cv 5 = s.drv := rfl
      have hss : gi s.cv 0 = s.src := rfl
      simp only [gi_z, gr_s, gr_z, il_map, hjj, decide_true, if_true, hin2, hel2, hok9, chk_true, w_paidX _ _ _ _ hp hjs hd1, inlO_ret, hsd, hss]
      by_cases h0 : i = 0
      · have hx1 : x.1 = none := by rw [g1, dif_pos h0]
        have hi0 : ¬ ((i : Int) > 0) := by omega
        rw [if_neg (by simpa using hi0)]
        have hrs := recv_seq s hjs
        simp only [iteB_eq] at hrs
        rw [hrs]
        simp only [gr_z]
        rw [recX1_eq p s l[i] hp hjs hd1 es' (by omega)]
        simp only [blkO_br, gr_z, hw2, hx1, g2]
      · have hx1 : x.1 = some (l[i - 1]'(by omega)) := by rw [g1, dif_neg h0]
        have hi0 : (i : Int) > 0 := by omega
        have hm : i - 1 < l.length := by omega
        have hwp := wr_pred (show 0 < i by omega) (show i < 9223372036854775807 by omega)
        have hel3 : el (ints l) ((i - 1 : Nat) : Int) = [ci (l[i - 1]'hm)] := el_map hm
        have hin3 : inb ((i - 1 : Nat) : Int) (ints l) = true := inb_map hm
        have hd0 : isDay (l[i - 1]'hm) = true := hdays _ (List.getElem_mem hm)
        rw [if_pos (by simpa using hi0)]
        simp only [hwp, hin3, hel3, chk_true, oks_cons0, ok_ci, oks_z, Bool.and_self, gi_z, w_paidX _ _ _ _ hp hjs hd0, inlO_ret, gr_z]
        have hrs := recv_seq s hjs
        simp only [iteB_eq] at hrs
        rw [hrs]
        simp only [gr_z]
        rw [recX2_eq p s (l[i - 1]'hm) l[i] hp hjs hd1 hd0 es' (by omega)]
        simp only [blkO_br, gr_z, hw2, hx1, g2]
    · simp [hw]
  · simp
end Go.Proofs.Ytabhbdehbpmpkaa
namespace Go.Proofs.Ytabhbdehbpmpkaa
open Go Go.Sx Go.Fine
set_option maxRecDepth 10000
attribute [local simp] Bool.and_assoc Bool.or_assoc
@[simp] theorem w_areDays (n : Nat) (l : List Int) (hl : l.length < 100000000000000000) : D (n + 3) n_fine_areDays [.row 1 (ints l)] = some [cb (daysOk l)] := by
  rw [q_fine_areDays]
  unfold R_fine_areDays
  have e1 : ((l.length : Int) ≤ 12) = (l.length ≤ 12) := by apply propext; omega
  rw [loop_find l.length (fun i => [ci (i : Int)]) (bad isDay id l) (fun i => some (.ret [cb false])) (some (.br 0 [])) ?hv ?hR ?hX
    (fun i hi hp => ?h1) (fun i hi hp => ?h2) ?h3]
  case hv => rfl
  case hR => simp
  case hX => simp
  case h3 => simp [ints]
  case h1 =>
    have hw := wr_nat (show i < 9223372036854775807 by omega)
    by_cases h0 : i = 0
    · subst h0
      simp [bad, hi] at hp
      have hw1 : wr 1 = 1 := by decide
      simp [ints, hi, inb_map0, el_map0, hp, hw1]
    · have h0' : 0 < i := by omega
      have hj : i - 1 < l.length := by omega
      have hwj := wr_pred h0' (show i < 9223372036854775807 by omega)
      simp only [bad, List.getElem?_eq_getElem hi, List.getElem?_eq_getElem hj, h0', decide_true, Bool.true_and, Bool.or_eq_false_iff, Bool.not_eq_false', decide_eq_false_iff_not, id] at hp
      simp [ints, hi, hj, inb_map, el_map, hp, hw, hwj, h0']
  case h2 =>
    by_cases h0 : i = 0
    · subst h0
      simp [bad, hi] at hp
      simp [ints, hi, inb_map0, el_map0, hp]
    · have h0' : 0 < i := by omega
      have hj : i - 1 < l.length := by omega
      have hwj := wr_pred h0' (show i < 9223372036854775807 by omega)
      simp only [bad, List.getElem?_eq_getElem hi, List.getElem?_eq_getElem hj, h0', decide_true, Bool.true_and, Bool.or_eq_true, Bool.not_eq_true', decide_eq_true_eq, id] at hp
      cases hk : isDay l[i] with
      | false => simp only [isDay] at hk; simp [ints, hi, hj, inb_map, el_map, hk, isDay, hwj, h0']
      | true =>
        have hp' : l[i] ≤ l[i - 1] := by simpa [hk] using hp
        simp only [isDay] at hk
        simp [ints, hi, hj, inb_map, el_map, hk, isDay, hp', hwj, h0']
  · have hb := bad_none isDay id l
    rw [List.map_id] at hb
    have e2 : il (ints l) = l.length := il_map _ _
    rw [daysOk, ← hb, e2]
    simp only [e1]
    cases (List.range l.length).find? (bad isDay id l) <;> simp
@[simp] theorem w_Posts (n : Nat) (p : Acc) (l : List Int) (hp : p.fits) (hl : l.length < 100000000000000000) : D (n + 9) n_fine_Posts [.row 24 (p.ts.map Tariff.cv), .row 9 (p.ss.map Held.cv), .row 7 (p.ns.map Note.cv), .row 1 (ints l)] = some [.row 5 ((posts p l).1.map Post.cv), ci (posts p l).2] := by
  rw [q_fine_Posts]
  simp only [R_fine_Posts, w_Check _ _ hp, callO_val, gi_z, bne_dec, iteB_eq, check]
  cases hok : p.ok with
  | false => simp [posts, hok]
  | true =>
    cases hd : daysOk l <;> simp [posts, hok, hd, hl]
def owedOf (p : Acc) (o k : Int) : Int × Int :=
  if p.ok = false then (0, 63) else if within o 1 99 = false then (0, 1) else if isDay k = false then (0, 6)
  else ((stays p k).foldl (fun a s => if (dueOf p s k).payer = 2 + o then a + ((dueOf p s k).hay + (dueOf p s k).drv + (dueOf p s k).lord) else a) 0, 0)
@[simp] theorem w_Owed (n : Nat) (p : Acc) (o k : Int) (hp : p.fits) : D (n + 9) n_fine_Owed [.row 24 (p.ts.map Tariff.cv), .row 9 (p.ss.map Held.cv), .row 7 (p.ns.map Note.cv), ci o, ci k] = some [ci (owedOf p o k).1, ci (owedOf p o k).2] := by
  rw [q_fine_Owed]
  unfold R_fine_Owed
  rw [w_Check _ _ hp]
  simp only [callO_val, gi_z, bne_dec, iteB_eq, check]
  cases hok : p.ok with
  | false => simp [owedOf, hok]
  | true =>
    cases ho : within o 1 99 with
    | false => simp [owedOf, hok, ho]
    | true =>
      cases hk : isDay k with
      | false => simp [owedOf, hok, ho, hk]
      | true =>
        obtain ⟨_, h60, _⟩ := p.ok_len hok
        have ho' := ho
        simp only [within, Bool.and_eq_true, decide_eq_true_eq] at ho'
        have e3 : wr (2 + o) = 2 + o := by rw [wr_of] <;> omega
        have hl : (stays p k).length ≤ 60 := Nat.le_trans (filter_len _ _) h60
        have hso : ∀ s ∈ stays p k, s.ok = true := fun s hs => p.ok_s hok (stays_mem hs)
        simp only [if_true, decide_true, Bool.not_true, Bool.false_eq_true, if_false, w_within, callO_val, gb_z, ho, w_isDay, hk, w_stays _ _ _ hok, gr_z]
        obtain ⟨T, hT⟩ : ∃ T : Nat → Int, T = fun i => ((stays p k).take i).foldl (fun a s => if (dueOf p s k).payer = 2 + o then a + ((dueOf p s k).hay + (dueOf p s k).drv + (dueOf p s k).lord) else a) 0 := ⟨_, rfl⟩
        have hTs : ∀ i (h : i < (stays p k).length), T (i + 1) = if (dueOf p (stays p k)[i] k).payer = 2 + o then T i + ((dueOf p (stays p k)[i] k).hay + (dueOf p (stays p k)[i] k).drv + (dueOf p (stays p k)[i] k).lord) else T i := by
          intro i h; simp only [hT]; rw [take_succ h, List.foldl_append]; rfl
        have hTb : ∀ i, i ≤ (stays p k).length → -(i : Int) * 200000000000 ≤ T i ∧ T i ≤ (i : Int) * 200000000000 := by
          intro i
          induction i with
          | zero => intro _; simp [hT]
          | succ i ih =>
            intro h
            have h1 := ih (by omega)
            have h2 := due_bounds hok (hso _ (List.getElem_mem (by omega : i < (stays p k).length))) hk
            rw [hTs i (by omega)]
            split <;> omega
        rw [loop_ix (stays p k).length (fun i => [ci (T i), ci (i : Int)]) (some (.br 0 [ci (T (stays p k).length)])) ?hv (fun i hi => ?hs) ?he ?hr]
        case hv => simp [hT]
        case hr => simp
        case he => simp
        case hs =>
          have hw := wr_nat (show i < 9223372036854775807 by omega)
          have hsi := hso _ (List.getElem_mem hi)
          have hb := due_bounds hok hsi hk
          have hti := hTb i (by omega)
          have hts := hTs i hi
          generalize hss : (stays p k)[i] = s at *
          have e1 : wr ((dueOf p s k).hay + (dueOf p s k).drv) = (dueOf p s k).hay + (dueOf p s k).drv := by rw [wr_of] <;> omega
          have e2 : wr ((dueOf p s k).hay + (dueOf p s k).drv + (dueOf p s k).lord) = (dueOf p s k).hay + (dueOf p s k).drv + (dueOf p s k).lord := by rw [wr_of] <;> omega
          have e4 : wr (T i + ((dueOf p s k).hay + (dueOf p s k).drv + (dueOf p s k).lord)) = T i + ((dueOf p s k).hay + (dueOf p s k).drv + (dueOf p s k).lord) := by rw [wr_of] <;> omega
          rw [hts]
          by_cases hpy : (dueOf p s k).payer = 2 + o <;> simp [hi, inb_map, el_map, hss, Held.cv, hok, hsi, hk, e1, e2, e3, e4, hw, hpy]
        · simp [owedOf, hok, ho, hk, hT]
end Go.Proofs.Ytabhbdehbpmpkaa
namespace Go.Proofs.Ytabhbdehbpmpkaa
open Go Go.Sx Go.Fine
set_option maxRecDepth 100000
attribute [local simp] Bool.and_assoc Bool.or_assoc
def exT : Tariff := ⟨0, 0, 12, 0, 0, 0, 0, 0, 0, 0, 0, 0, 4, 0, 0, 0, 0, 0, 0, 0, 0, 5, 20, 10⟩
def exH : Held := ⟨1, 7, 1, 20, 500, 9, 10, 10, 0⟩
def exA : Acc := ⟨[exT], [exH], [⟨2, 1, 1, 3, 13, 14, 0⟩, ⟨3, 1, 2, 0, 15, 15, 0⟩]⟩
def exZ : Acc := ⟨[exT], [exH], []⟩
def exN : Note := ⟨4, 1, 3, 6, 18, 18, 0⟩
def exM : Acc := ⟨[exT], [exH], [⟨2, 1, 1, 3, 13, 14, 0⟩, ⟨3, 1, 2, 0, 15, 15, 0⟩, exN]⟩
theorem ex_fits : exA.fits := ⟨by decide, by decide, by decide⟩
theorem exZ_fits : exZ.fits := ⟨by decide, by decide, by decide⟩
theorem exM_fits : exM.fits := ⟨by decide, by decide, by decide⟩
theorem ex1 : lotOf exA 1 14 = (⟨3, 13, 0, -1⟩, 0) := by kernel_rfl
theorem ex2 : chargedOf exA 1 13 = (⟨12, 40, 16⟩, 0) := by kernel_rfl
theorem ex3 : lotOf exA 1 20 = (⟨3, 13, 1, 15⟩, 0) := by kernel_rfl
theorem ex4 : duesOf exA 1 20 = (⟨5, 24, 12, 38⟩, 0) := by kernel_rfl
theorem ex9 : lotOf exZ 1 100 = (⟨0, -1, 2, 59⟩, 0) := by kernel_rfl
theorem ex8 : owedOf exA 3 20 = (74, 0) := by kernel_rfl
theorem ex6 : noted exA exN = (exM, 0) := by kernel_rfl
theorem ex5 : posts exA [13, 14, 20] = ([⟨14, 1, 5, 0, 38⟩, ⟨14, 1, 5, 1, 24⟩, ⟨14, 1, 5, 11, 12⟩], 0) := by kernel_rfl
theorem ex7 : (posts exM [15, 18]).2 = 0 ∧ (posts exM [15, 18]).1.length = 9 ∧ (posts exM [15, 18]).1[3]? = some ⟨18, 1, 5, 0, -38⟩ := ⟨by kernel_rfl, by kernel_rfl, by kernel_rfl⟩
theorem evF_args {P : Program} {sg : FuncId → Option Sig} {M : Den} {fe : FE} {c : Code} {vs vs' : List CV} (h : Sc.avs fe.g.ps vs 0 = Sc.avs fe.g.ps vs' 0) : evF P sg M fe c vs = evF P sg M fe c vs' := by unfold evF; rw [h]
theorem lot_nil (n : Nat) (a b : List (List CV)) (y k : Int) : D (n + 1) n_fine_Lot [.row 24 a, .row 9 b, .val (.slice none 0 0), ci y, ci k] = D (n + 1) n_fine_Lot [.row 24 a, .row 9 b, .row 7 [], ci y, ci k] :=
  evF_args (P := Try.prog) (sg := sg) (M := D n) (fe := fe26) (c := bodyOf Try.f26) rfl
theorem w_example (n : Nat) : D (n + 1) n_law06_example [] = some [.row 24 (exA.ts.map Tariff.cv), .row 9 (exA.ss.map Held.cv), .row 7 (exA.ns.map Note.cv)] := by rw [q_law06_example]; rfl
theorem w_sane (n : Nat) : D (n + 12) n_law06_sane [] = some [cb true] := by
  rw [q_law06_sane]
  have h0 : D (n + 11) n_law06_example [] = some [.row 24 (exA.ts.map Tariff.cv), .row 9 (exA.ss.map Held.cv), .row 7 (exA.ns.map Note.cv)] := w_example _
  have h1 := w_Lot n exA 1 14 ex_fits
  have h2 := w_Charged n exA 1 13 ex_fits
  have h3 := w_Lot n exA 1 20 ex_fits
  have h4 := w_Dues n exA 1 20 ex_fits
  have h5 := w_Posts (n + 2) exA [13, 14, 20] ex_fits (by decide)
  have h6 := w_Noted (n + 2) exA exN ex_fits
  have h7 := w_Posts (n + 2) exM [15, 18] exM_fits (by decide)
  have h8 := w_Owed (n + 2) exA 3 20 ex_fits
  have h9 := w_Lot n exZ 1 100 exZ_fits
  have h10 := w_Same (n + 10) (posts exA [13, 14, 20]).1 (posts exA [13, 14, 20]).1 (by rw [ex5]; decide)
  rw [ex1] at h1
  rw [ex2] at h2
  rw [ex3] at h3
  rw [ex4] at h4
  rw [ex5] at h5 h10
  rw [ex6] at h6
  rw [ex8] at h8
  rw [ex9] at h9
  rw [sameL_refl _ eqP_refl] at h10
  obtain ⟨g1, g2, g3⟩ := ex7
  rw [g1] at h7
  have h9' : D (n + 11) n_fine_Lot [.row 24 (exA.ts.map Tariff.cv), .row 9 (exA.ss.map Held.cv), .val (.slice none 0 0), ci 1, ci 100] = _ := (lot_nil (n + 10) _ _ _ _).trans h9
  have e3 : 3 < (posts exM [15, 18]).1.length := by rw [g2]; decide
  have e4 : (posts exM [15, 18]).1[3] = ⟨18, 1, 5, 0, -38⟩ := by
    have := List.getElem?_eq_getElem e3
    rw [g3] at this
    exact (Option.some.inj this).symm
  generalize hm : (posts exM [15, 18]).1 = m at *
  simp only [ints, List.map_cons, List.map_nil] at h5 h7
  simp only [exN] at h6
  have c5 : chunk 5 3 [ci 14, ci 1, ci 5, ci 0, ci 38, ci 14, ci 1, ci 5, ci 1, ci 24, ci 14, ci 1, ci 5, ci 11, ci 12] = List.map Post.cv [⟨14, 1, 5, 0, 38⟩, ⟨14, 1, 5, 1, 24⟩, ⟨14, 1, 5, 11, 12⟩] := rfl
  have c3 : chunk 1 3 [ci 13, ci 14, ci 20] = [[ci 13], [ci 14], [ci 20]] := rfl
  have c2 : chunk 1 2 [ci 15, ci 18] = [[ci 15], [ci 18]] := rfl
  have hm3 : el (m.map Post.cv) 3 = Post.cv ⟨18, 1, 5, 0, -38⟩ := by
    rw [show (3 : Int) = ((3 : Nat) : Int) from rfl, el_map e3, e4]
  have hg3 : List.getD (m.map Post.cv) 3 [] = Post.cv ⟨18, 1, 5, 0, -38⟩ := by simp [e3, e4]
  have hi3 : inb 3 (m.map Post.cv) = true := by
    rw [show (3 : Int) = ((3 : Nat) : Int) from rfl]; exact inb_map e3
  unfold R_law06_sane
  simp only [h0, callO_val, gr_z, gr_s, h1, h2, h3, h4, c3, h5, h6, c2, h7, h8, h9', c5, h10]
  have h11 : D (n + 11) n_r06_Same [CV.row 5 [[ci 14, ci 1, ci 5, ci 0, ci 38], [ci 14, ci 1, ci 5, ci 1, ci 24], [ci 14, ci 1, ci 5, ci 11, ci 12]], CV.row 5 [[ci 14, ci 1, ci 5, ci 0, ci 38], [ci 14, ci 1, ci 5, ci 1, ci 24], [ci 14, ci 1, ci 5, ci 11, ci 12]]] = some [cb true] := h10
  simp [g2, hi3, hm3, hg3, Post.cv, h11, e4]
end Go.Proofs.Ytabhbdehbpmpkaa
namespace Go.Proofs.Ytabhbdehbpmpkaa
open Go Go.Sx Go.Fine
set_option maxRecDepth 100000
theorem shp_r6 {n : Nat} {c : List CV} (h : Shp Try.prog (n + 2) 115 c) : ∃ t : R6, c = t.cv := by
  simp only [Shp, Try.underlying115] at h
  obtain ⟨l, hl, rfl⟩ := shp_ints h
  match l, hl with
  | [a0, a1, a2, a3, a4, a5], _ => exact ⟨⟨a0, a1, a2, a3, a4, a5⟩, rfl⟩
theorem shp_r7 {n : Nat} {c : List CV} (h : Shp Try.prog (n + 2) 116 c) : ∃ t : R7, c = t.cv := by
  simp only [Shp, Try.underlying116] at h
  obtain ⟨l, hl, rfl⟩ := shp_ints h
  match l, hl with
  | [a0, a1, a2, a3, a4, a5, a6], _ => exact ⟨⟨a0, a1, a2, a3, a4, a5, a6⟩, rfl⟩
theorem shp_raw {n : Nat} {c : List CV} (h : Shp Try.prog (n + 4) 50 c) : ∃ r : Raw, r.fits ∧ c = [.row 6 (r.ts.map R6.cv), .row 7 (r.ss.map R7.cv), .row 6 (r.ns.map R6.cv)] := by
  have c6 : Try.prog.cellsOf 115 = 6 := by kernel_rfl
  have c7 : Try.prog.cellsOf 116 = 7 := by kernel_rfl
  have b6 : Try.prog.bytesOf 115 = 48 := by kernel_rfl
  have b7 : Try.prog.bytesOf 116 = 56 := by kernel_rfl
  rw [Shp] at h
  simp only [Try.underlying50, List.map_cons, List.map_nil, ShpL] at h
  obtain ⟨_, _, rfl, h1, _, _, rfl, h2, _, _, rfl, h3, rfl⟩ := h
  rw [Shp] at h1 h2 h3
  simp only [Try.underlying47, c6, b6] at h1 h3
  simp only [Try.underlying48, c7, b7] at h2
  obtain ⟨e1, rfl, r1, s1⟩ := h1
  obtain ⟨e2, rfl, r2, s2⟩ := h2
  obtain ⟨e3, rfl, r3, s3⟩ := h3
  obtain ⟨l1, rfl⟩ := rows_cv fun x hx => shp_r6 (r1 x hx)
  obtain ⟨l2, rfl⟩ := rows_cv fun x hx => shp_r7 (r2 x hx)
  obtain ⟨l3, rfl⟩ := rows_cv fun x hx => shp_r6 (r3 x hx)
  simp only [List.length_map] at s1 s2 s3
  exact ⟨⟨l1, l2, l3⟩, ⟨reach_len s1 (by decide), reach_len s2 (by decide), reach_len s3 (by decide)⟩, rfl⟩
end Go.Proofs.Ytabhbdehbpmpkaa
namespace Go.Proofs.Ytabhbdehbpmpkaa
open Go Go.Sx Go.Fine
set_option maxRecDepth 10000
attribute [local simp] Bool.and_assoc Bool.or_assoc
@[simp] theorem w_Mod (n : Nat) (a m : Int) (h0 : 0 < m) (h1 : m < 4000000000000000000) : D (n + 1) n_r06_Mod [ci a, ci m] = some [ci (a % m)] := by
  rw [q_r06_Mod]
  have hne : ¬ m = 0 := by omega
  simp only [R_r06_Mod, bne_dec, hne, decide_false, Bool.not_false, chk_true, retO_ret, mod_eq h0 h1]
theorem frmAt_b (l : List R6) : 0 ≤ frmAt l ∧ frmAt l ≤ 60 * l.length := by
  have key : ∀ (l : List R6) (f : Int), 0 ≤ f → f ≤ l.foldl (fun f n => f + 1 + n.a5 % 60) f ∧ l.foldl (fun f n => f + 1 + n.a5 % 60) f ≤ f + 60 * l.length := by
    intro l
    induction l with
    | nil => intro f _; simp
    | cons a l ih =>
      intro f hf
      have := ih (f + 1 + a.a5 % 60) (by omega)
      simp only [List.foldl_cons, List.length_cons]; omega
  have := key l 0 (by omega)
  unfold frmAt; omega
theorem frmAt_app (l : List R6) (n : R6) : frmAt (l ++ [n]) = frmAt l + 1 + n.a5 % 60 := by simp [frmAt, List.foldl_append]
def rowT (s f h1 h2 h3 d1 d2 d3 n0 n1 n2 : Int) : List CV := [ci s, ci f, ci 0, ci h1, ci h2, ci h3, ci 0, ci 0, ci 0, ci 0, ci 0, ci 0, ci 0, ci d1, ci d2, ci d3, ci 0, ci 0, ci 0, ci 0, ci 0, ci 0, ci n0, ci n1, ci n2]
theorem take_min {A : Type} (l : List A) (m : Nat) : l.take (min l.length m) = l.take m := by
  by_cases h : l.length ≤ m
  · rw [Nat.min_eq_left h, List.take_length, List.take_of_length_le h]
  · rw [Nat.min_eq_right (by omega)]
theorem take_idx {A B : Type} (f : Nat → A → B) {l : List A} {i : Nat} (h : i < l.length) : (l.take (i + 1)).mapIdx f = (l.take i).mapIdx f ++ [f i l[i]] := by
  rw [take_succ h, List.mapIdx_concat]
  simp [List.length_take, Nat.min_eq_left (Nat.le_of_lt h)]
@[simp] theorem w_Made (n : Nat) (r : Raw) (hr : r.fits) : D (n + 2) n_r06_Made [.row 6 (r.ts.map R6.cv), .row 7 (r.ss.map R7.cv), .row 6 (r.ns.map R6.cv)] = some [.row 24 ((made r).ts.map Tariff.cv), .row 9 ((made r).ss.map Held.cv), .row 7 ((made r).ns.map Note.cv)] := by
  rw [q_r06_Made]
  unfold R_r06_Made
  obtain ⟨f1, f2, f3⟩ := hr
  rw [loop_ix (min r.ts.length 3) (fun i => [ci (frmAt (r.ts.take i)), ci (i : Int), .row 9 [], .row 7 [], .row 24 ((madeTs 0 (r.ts.take i)).map Tariff.cv)]) (some (.br 0 [.row 9 [], .row 7 [], .row 24 ((made r).ts.map Tariff.cv)])) ?hv (fun i hi => ?hs) ?he (by simp)]
  case hv => rfl
  case he =>
    have e : r.ts.take (min r.ts.length 3) = r.ts.take 3 := take_min _ _
    have e2 : ¬ (((min r.ts.length 3 : Nat) : Int) < il (r.ts.map R6.cv)) ∨ ¬ (((min r.ts.length 3 : Nat) : Int) < 3) := by
      rw [il_map]; omega
    simp only [gi_z, gi_s, gr_z, gr_s, seq_and, gb_z]
    rcases e2 with e2 | e2 <;> simp only [e2, decide_false, Bool.false_and, Bool.and_false, e, iteB_eq, Bool.false_eq_true, if_false, made]
  case hs =>
    have hi1 : i < r.ts.length := by omega
    have hi2 : i < 3 := by omega
    have hw := wr_nat (show i < 9223372036854775807 by omega)
    have hel : el (r.ts.map R6.cv) (i : Int) = R6.cv r.ts[i] := el_map hi1
    have hin : inb (i : Int) (r.ts.map R6.cv) = true := inb_map hi1
    have hb := frmAt_b (r.ts.take i)
    have hbl : (r.ts.take i).length ≤ 3 := by simp; omega
    have hfa := frmAt_app (r.ts.take i) r.ts[i]
    have hma := madeTs_app (r.ts.take i) r.ts[i] 0
    rw [← take_succ hi1] at hfa hma
    have hml := madeTs_len (r.ts.take i) 0
    have hii1 : (i : Int) < r.ts.length := by omega
    have hii2 : (i : Int) < 3 := by omega
    have hfit : fitA ((madeTs 0 (r.ts.take i)).map Tariff.cv).length 1 192 = true := fitA_of (by rw [List.length_map]; omega) (by rw [List.length_map]; omega)
    have hmf : (r.ts.take i).foldl (fun f n => f + 1 + n.a5 % 60) 0 = frmAt (r.ts.take i) := rfl
    rw [hmf] at hma
    rw [hma, hfa]
    generalize frmAt (r.ts.take i) = f at *
    generalize r.ts[i] = x at *
    have hok : oks (List.replicate 6 li) (R6.cv x) 0 = true := rfl
    have g0 : gi (R6.cv x) 0 = x.a0 := rfl
    have g1 : gi (R6.cv x) 1 = x.a1 := rfl
    have g2 : gi (R6.cv x) 2 = x.a2 := rfl
    have g3 : gi (R6.cv x) 3 = x.a3 := rfl
    have g4 : gi (R6.cv x) 4 = x.a4 := rfl
    have g5 : gi (R6.cv x) 5 = x.a5 := rfl
    have m := fun a m (h0 : 0 < m) (h1 : m < 4000000000000000000) => w_Mod n a m h0 h1
    have m12 := fun a => m a 12 (by omega) (by omega)
    have m31 := fun a => m a 31 (by omega) (by omega)
    have m30 := fun a => m a 30 (by omega) (by omega)
    have m60 := fun a => m a 60 (by omega) (by omega)
    have m40 := fun a => m a 40 (by omega) (by omega)
    have m9 := fun a => m a 9 (by omega) (by omega)
    have wf : wr (wr (f + 1) + x.a5 % 60) = f + 1 + x.a5 % 60 := by rw [wr_of (x := f + 1) (by omega) (by omega), wr_of] <;> omega
    simp only [gi_z, gi_s, gr_z, gr_s, seq_and, gb_z]
    simp only [gi_z, gi_s, gr_z, gr_s, gb_z, il_map, hii1, hii2, decide_true, Bool.and_self, iteB_eq, if_true, hin, hel, hok, chk_true, g0, g1, g2, g3, g4, g5, m12, m31, m30, m60, callO_val]
    rw [loop_ix 3 (fun j => rowT (1 + (j : Int)) f (if 1 ≤ j then wr (x.a3 + 1) % 40 else 0) (if 2 ≤ j then wr (x.a3 + 2) % 40 else 0) (if 3 ≤ j then wr (x.a3 + 3) % 40 else 0) (if 1 ≤ j then wr (x.a4 * 1) % 9 else 0) (if 2 ≤ j then wr (x.a4 * 2) % 9 else 0) (if 3 ≤ j then wr (x.a4 * 3) % 9 else 0) (x.a0 % 12) (x.a1 % 31) (x.a2 % 30)) (some (.br 2 (madeT f x).cv)) ?hv2 (fun j hj => ?hs2) ?he2 (by simp)]
    case hv2 => rfl
    case he2 => simp [rowT, madeT, Tariff.cv]
    case hs2 =>
      have w2 : wr 2 = 2 := by decide
      have w3 : wr 3 = 3 := by decide
      have w4 : wr 4 = 4 := by decide
      rcases (by omega : j = 0 ∨ j = 1 ∨ j = 2) with rfl | rfl | rfl
      · simp [rowT, m40, m9, w2]
      · simp [rowT, m40, m9, w3]
      · simp [rowT, m40, m9, w4]
    · have hc : chunk 24 1 (cis (madeT f x).cv 0 24) = [(madeT f x).cv] := rfl
      simp only [blkO_br, hfit, chk_true, m60, callO_val, gi_z, wf, hw, hc, List.map_append, List.map_cons, List.map_nil]
  simp only [blkO_br, gr_z, gr_s]
  rw [loop_ix (min r.ss.length 4) (fun i => [ci (i : Int), .row 9 (((r.ss.take i).mapIdx madeH).map Held.cv), .row 7 [], .row 24 ((made r).ts.map Tariff.cv)]) (some (.br 4 [.row 9 ((made r).ss.map Held.cv), .row 7 [], .row 24 ((made r).ts.map Tariff.cv)])) ?hv (fun i hi => ?hs) ?he (by simp)]
  case hv => rfl
  case he =>
    have e : r.ss.take (min r.ss.length 4) = r.ss.take 4 := take_min _ _
    have e2 : ¬ (((min r.ss.length 4 : Nat) : Int) < il (r.ss.map R7.cv)) ∨ ¬ (((min r.ss.length 4 : Nat) : Int) < 4) := by
      rw [il_map]; omega
    simp only [gi_z, gi_s, gr_z, gr_s, seq_and, gb_z]
    rcases e2 with e2 | e2 <;> simp only [e2, decide_false, Bool.false_and, Bool.and_false, e, iteB_eq, Bool.false_eq_true, if_false, made]
  case hs =>
    have hi1 : i < r.ss.length := by omega
    have hi2 : i < 4 := by omega
    have hw := wr_nat (show i < 9223372036854775807 by omega)
    have hel : el (r.ss.map R7.cv) (i : Int) = R7.cv r.ss[i] := el_map hi1
    have hin : inb (i : Int) (r.ss.map R7.cv) = true := inb_map hi1
    have hii1 : (i : Int) < r.ss.length := by omega
    have hii2 : (i : Int) < 4 := by omega
    have hfit : fitA (((r.ss.take i).mapIdx madeH).map Held.cv).length 1 72 = true := fitA_of (by simp; omega) (by simp; omega)
    rw [take_idx madeH hi1]
    generalize r.ss[i] = x at *
    have hok : oks (List.replicate 7 li) (R7.cv x) 0 = true := rfl
    have g0 : gi (R7.cv x) 0 = x.a0 := rfl
    have g1 : gi (R7.cv x) 1 = x.a1 := rfl
    have g2 : gi (R7.cv x) 2 = x.a2 := rfl
    have g3 : gi (R7.cv x) 3 = x.a3 := rfl
    have g4 : gi (R7.cv x) 4 = x.a4 := rfl
    have g5 : gi (R7.cv x) 5 = x.a5 := rfl
    have g6 : gi (R7.cv x) 6 = x.a6 := rfl
    have m := fun a m (h0 : 0 < m) (h1 : m < 4000000000000000000) => w_Mod n a m h0 h1
    have m5 := fun a => m a 5 (by omega) (by omega)
    have m3 := fun a => m a 3 (by omega) (by omega)
    have m40 := fun a => m a 40 (by omega) (by omega)
    have m900 := fun a => m a 900 (by omega) (by omega)
    have m6 := fun a => m a 6 (by omega) (by omega)
    have m60 := fun a => m a 60 (by omega) (by omega)
    have m300 := fun a => m a 300 (by omega) (by omega)
    have w1 : wr (10 + (i : Int)) = 10 + i := by rw [wr_of] <;> omega
    have w2 : wr (1 + x.a0 % 5) = 1 + x.a0 % 5 := by rw [wr_of] <;> omega
    have w3 : wr (1 + x.a0 % 3) = 1 + x.a0 % 3 := by rw [wr_of] <;> omega
    have w4 : wr (wr (x.a5 % 60 + 1) + x.a6 % 300) = x.a5 % 60 + 1 + x.a6 % 300 := by rw [wr_of (x := x.a5 % 60 + 1) (by omega) (by omega), wr_of] <;> omega
    simp only [gi_z, gi_s, gr_z, gr_s, seq_and, gb_z]
    simp only [gi_z, gi_s, gr_z, gr_s, gb_z, il_map, hii1, hii2, decide_true, Bool.and_self, iteB_eq, if_true, hin, hel, hok, chk_true, g0, g1, g2, g3, g4, g5, g6, m5, m3, m40, m900, m6, m60, m300, callO_val, w1, w2, w3, w4, hw, hfit]
    by_cases h6 : x.a6 % 6 = 0
    · simp [h6, madeH, Held.cv]
    · simp [h6, madeH, Held.cv]
  simp only [blkO_br, gr_z, gr_s]
  rw [loop_ix (min r.ns.length 8) (fun i => [ci (i : Int), .row 9 ((made r).ss.map Held.cv), .row 7 (((r.ns.take i).mapIdx madeN).map Note.cv), .row 24 ((made r).ts.map Tariff.cv)]) (some (.br 6 [.row 9 ((made r).ss.map Held.cv), .row 7 ((made r).ns.map Note.cv), .row 24 ((made r).ts.map Tariff.cv)])) ?hv (fun i hi => ?hs) ?he (by simp)]
  case hv => rfl
  case he =>
    have e : r.ns.take (min r.ns.length 8) = r.ns.take 8 := take_min _ _
    have e2 : ¬ (((min r.ns.length 8 : Nat) : Int) < il (r.ns.map R6.cv)) ∨ ¬ (((min r.ns.length 8 : Nat) : Int) < 8) := by
      rw [il_map]; omega
    simp only [gi_z, gi_s, gr_z, gr_s, seq_and, gb_z]
    rcases e2 with e2 | e2 <;> simp only [e2, decide_false, Bool.false_and, Bool.and_false, e, iteB_eq, Bool.false_eq_true, if_false, made]
  case hs =>
    have hi1 : i < r.ns.length := by omega
    have hi2 : i < 8 := by omega
    have hw := wr_nat (show i < 9223372036854775807 by omega)
    have hel : el (r.ns.map R6.cv) (i : Int) = R6.cv r.ns[i] := el_map hi1
    have hin : inb (i : Int) (r.ns.map R6.cv) = true := inb_map hi1
    have hii1 : (i : Int) < r.ns.length := by omega
    have hii2 : (i : Int) < 8 := by omega
    have hfit : fitA (((r.ns.take i).mapIdx madeN).map Note.cv).length 1 56 = true := fitA_of (by simp; omega) (by simp; omega)
    rw [take_idx madeN hi1]
    generalize r.ns[i] = x at *
    have hok : oks (List.replicate 6 li) (R6.cv x) 0 = true := rfl
    have g0 : gi (R6.cv x) 0 = x.a0 := rfl
    have g1 : gi (R6.cv x) 1 = x.a1 := rfl
    have g2 : gi (R6.cv x) 2 = x.a2 := rfl
    have g3 : gi (R6.cv x) 3 = x.a3 := rfl
    have g4 : gi (R6.cv x) 4 = x.a4 := rfl
    have g5 : gi (R6.cv x) 5 = x.a5 := rfl
    have m := fun a m (h0 : 0 < m) (h1 : m < 4000000000000000000) => w_Mod n a m h0 h1
    have m4 := fun a => m a 4 (by omega) (by omega)
    have m3 := fun a => m a 3 (by omega) (by omega)
    have m450 := fun a => m a 450 (by omega) (by omega)
    have m500 := fun a => m a 500 (by omega) (by omega)
    have m5 := fun a => m a 5 (by omega) (by omega)
    have m200 := fun a => m a 200 (by omega) (by omega)
    have w1 : wr (20 + (i : Int)) = 20 + i := by rw [wr_of] <;> omega
    have w2 : wr (10 + x.a0 % 4) = 10 + x.a0 % 4 := by rw [wr_of] <;> omega
    have w3 : wr (1 + x.a1 % 3) = 1 + x.a1 % 3 := by rw [wr_of] <;> omega
    have w4 : wr (1 + x.a4 % 5) = 1 + x.a4 % 5 := by rw [wr_of] <;> omega
    have w5 : wr (wr (x.a3 % 500 + 1) + x.a5 % 200) = x.a3 % 500 + 1 + x.a5 % 200 := by rw [wr_of (x := x.a3 % 500 + 1) (by omega) (by omega), wr_of] <;> omega
    simp only [gi_z, gi_s, gr_z, gr_s, seq_and, gb_z]
    simp only [gi_z, gi_s, gr_z, gr_s, gb_z, il_map, hii1, hii2, decide_true, Bool.and_self, iteB_eq, if_true, hin, hel, hok, chk_true, g0, g1, g2, g3, g4, g5, m4, m3, m450, m500, m5, m200, callO_val, w1, w2, w3, w4, hw, hfit]
    by_cases h2 : 1 + x.a1 % 3 = 2 <;> by_cases h5 : x.a5 % 5 = 0 <;> simp [h2, h5, madeN, Note.cv, w5]
  simp
end Go.Proofs.Ytabhbdehbpmpkaa
namespace Go.Proofs.Ytabhbdehbpmpkaa
open Go Go.Sx Go.Fine
set_option maxRecDepth 10000
attribute [local simp] Bool.and_assoc Bool.or_assoc
theorem iteB_t (x y : Option Ou) : iteB true x y = x := rfl
theorem iteB_f (x y : Option Ou) : iteB false x y = y := rfl
theorem v_ended_c1 (M : Den) (s : Held) (a b c : List CV) : callV sg M (.fn n_fine_ended_c1 [.ref a, .ref b, .ref c]) [ci s.src, ci s.beast, ci s.sort, ci s.eats, ci s.worth, ci s.drv, ci s.day, ci s.known, ci s.til] [.agg [li, li, li, li, li, li, li, li, li]] [.one lb] = M n_fine_ended_c1 [ci s.src, ci s.beast, ci s.sort, ci s.eats, ci s.worth, ci s.drv, ci s.day, ci s.known, ci s.til, .ref a, .ref b, .ref c] := rfl
def IsQ (M : Den) (f : CV) (q : Held → Fine.Lot → Bool) : Prop := ∀ (s : Held) (x : Fine.Lot), callV sg M f [ci s.src, ci s.beast, ci s.sort, ci s.eats, ci s.worth, ci s.drv, ci s.day, ci s.known, ci s.til, ci x.owner, ci x.stop, ci x.fin, ci x.day] [.agg (List.replicate 9 li), .agg (List.replicate 4 li)] [.one lb] = some [cb (q s x)]
theorem w_ended_c1 (n : Nat) (f : CV) (q : Held → Fine.Lot → Bool) (hf : IsQ (D (n + 5)) f q) (hraw : oks [.raw] [f] 0 = true) (p : Acc) (s : Held) (k : Int) (hp : p.ok = true) (hs : s.ok = true) (hk : isDay k = true) : D (n + 6) n_fine_ended_c1 [ci s.src, ci s.beast, ci s.sort, ci s.eats, ci s.worth, ci s.drv, ci s.day, ci s.known, ci s.til, .ref [f], .ref [.row 24 (p.ts.map Tariff.cv), .row 9 (p.ss.map Held.cv), .row 7 (p.ns.map Note.cv)], .ref [ci k]] = some [cb (!q s (lot p s k))] := by
  rw [q_fine_ended_c1]
  have h1 := w_lot n p s k hp hs hk
  have h2 := hf s (lot p s k)
  have o3 : ∀ (a b c : List (List CV)), oks [.row 24, .row 9, .row 7] [.row 24 a, .row 9 b, .row 7 c] 0 = true := fun a b c => rfl
  have e0 : List.getD [f] 0 dC = f := rfl
  simp only [R_fine_ended_c1, hraw, o3, oks_cons0, ok_ci, oks_z, Bool.and_self, chk_true, gi_z, gi_s, gr_z, gr_s, h1, callO_val, e0, cis_s, cis_z, cat_s, cat_1, List.cons_append, List.nil_append, h2, gb_z, retO_ret]
theorem w_ended (n : Nat) (f : CV) (q : Held → Fine.Lot → Bool) (hf : ∀ m, IsQ (D (m + 1)) f q) (hraw : oks [.raw] [f] 0 = true) (p : Acc) (k : Int) (hp : p.ok = true) (hk : isDay k = true) : D (n + 9) n_fine_ended [.row 24 (p.ts.map Tariff.cv), .row 9 (p.ss.map Held.cv), .row 7 (p.ns.map Note.cv), ci k, f] = some [.row 1 (ints (((stays p k).filter fun s => q s (lot p s k)).map Held.src))] := by
  rw [q_fine_ended]
  obtain ⟨_, l1, l2⟩ := p.ok_len hp
  have hlen : (stays p k).length ≤ 60 := Nat.le_trans (filter_len _ _) l1
  have hso : ∀ s ∈ stays p k, s.ok = true := fun s hs => p.ok_s hp (stays_mem hs)
  have hix := w_IndexFunc_Held (n + 7) p.ss (.fn n_fine_stays_c1 [.ref [ci k]]) (fun s => !counts s.known s.til k) (by omega) (fun s _ => by rw [v_stays_c1]; simp)
  have hd := del_row 9 Held.cv hz.cv cv_Held_len cv_Held_oks cv_Held_cis (fun s => !counts s.known s.til k) p.ss (by omega) hix (call := fun c => D (n + 8) n_fine_stays_c1 (cat [c, [.ref [ci k]]])) (fun s _ => by simp [Held.cv])
  have hc := clone_row 9 72 Held.cv p.ss (by omega) (by omega)
  have hst : (p.ss.filter fun s => !!counts s.known s.til k) = stays p k := by simp [stays]
  rw [hst] at hd
  have hix2 := w_IndexFunc_Held (n + 7) (stays p k) (.fn n_fine_ended_c1 [.ref [f], .ref [.row 24 (p.ts.map Tariff.cv), .row 9 (p.ss.map Held.cv), .row 7 (p.ns.map Note.cv)], .ref [ci k]]) (fun s => !q s (lot p s k)) (by omega) (fun s hs => by rw [v_ended_c1]; exact w_ended_c1 (n + 1) f q (hf _) hraw p s k hp (hso s hs) hk)
  have hd2 := del_row 9 Held.cv hz.cv cv_Held_len cv_Held_oks cv_Held_cis (fun s => !q s (lot p s k)) (stays p k) (by omega) hix2 (call := fun c => D (n + 8) n_fine_ended_c1 (cat [c, [.ref [f], .ref [.row 24 (p.ts.map Tariff.cv), .row 9 (p.ss.map Held.cv), .row 7 (p.ns.map Note.cv)], .ref [ci k]]])) (fun s hs => w_ended_c1 (n + 2) f q (hf _) hraw p s k hp (hso s hs) hk)
  unfold R_fine_ended
  rw [hc]
  simp only [inlO_ret, gr_z]
  change retO (inlO (inlO (delX _ (fun c => D (n + 8) n_fine_stays_c1 (cat [c, [.ref [ci k]]])) 9 hz.cv (p.ss.map Held.cv)) _) _) = _
  rw [hd]
  simp only [inlO_ret, gr_z]
  change retO (inlO (delX _ (fun c => D (n + 8) n_fine_ended_c1 (cat [c, [.ref [f], .ref [.row 24 (p.ts.map Tariff.cv), .row 9 (p.ss.map Held.cv), .row 7 (p.ns.map Note.cv)], .ref [ci k]]])) 9 hz.cv ((stays p k).map Held.cv)) _) = _
  rw [hd2]
  have hfl := filter_len (fun s => !!q s (lot p s k)) (stays p k)
  have hsrc := w_sources (n + 7) ((stays p k).filter fun s => !!q s (lot p s k)) (by omega)
  have hnn : ((stays p k).filter fun s => !!q s (lot p s k)) = (stays p k).filter fun s => q s (lot p s k) := by simp
  rw [hnn] at hsrc
  simp only [inlO_ret, gr_z, hnn, hsrc, callO_val, retO_ret]
theorem isQ_Inside (m : Nat) (k : Int) : IsQ (D (m + 1)) (.fn n_fine_Inside_c1 [.ref [ci k]]) fun s x => decide (s.day ≤ k) && decide (x.fin = 0) := by
  intro s x
  change D (m + 1) n_fine_Inside_c1 [ci s.src, ci s.beast, ci s.sort, ci s.eats, ci s.worth, ci s.drv, ci s.day, ci s.known, ci s.til, ci x.owner, ci x.stop, ci x.fin, ci x.day, .ref [ci k]] = _
  rw [q_fine_Inside_c1]
  by_cases h : s.day ≤ k <;> simp [R_fine_Inside_c1, h]
theorem isQ_Ended (m : Nat) (w : Int) : IsQ (D (m + 1)) (.fn n_fine_Ended_c1 [.ref [ci w]]) fun s x => decide (x.fin = w) := by
  intro s x
  change D (m + 1) n_fine_Ended_c1 [ci s.src, ci s.beast, ci s.sort, ci s.eats, ci s.worth, ci s.drv, ci s.day, ci s.known, ci s.til, ci x.owner, ci x.stop, ci x.fin, ci x.day, .ref [ci w]] = _
  rw [q_fine_Ended_c1]
  simp [R_fine_Ended_c1]
def insideOf (p : Acc) (k : Int) : List Int × Int := if asked p k ≠ 0 then ([], asked p k) else (((stays p k).filter fun s => decide (s.day ≤ k) && decide ((lot p s k).fin = 0)).map Held.src, 0)
def endedOf (p : Acc) (w k : Int) : List Int × Int :=
  if p.ok = false then ([], 63) else if within w 0 4 = false then ([], 1) else if isDay k = false then ([], 6) else (((stays p k).filter fun s => decide ((lot p s k).fin = w)).map Held.src, 0)
@[simp] theorem w_Inside (n : Nat) (p : Acc) (k : Int) (hp : p.fits) : D (n + 10) n_fine_Inside [.row 24 (p.ts.map Tariff.cv), .row 9 (p.ss.map Held.cv), .row 7 (p.ns.map Note.cv), ci k] = some [.row 1 (ints (insideOf p k).1), ci (insideOf p k).2] := by
  rw [q_fine_Inside]
  have hch : chunk 1 1 [ci k] = [[ci k]] := rfl
  simp only [R_fine_Inside, hch, w_check1 _ _ _ hp, callO_val, gi_z, bne_dec, iteB_eq]
  by_cases h0 : asked p k = 0
  · obtain ⟨hok, hk⟩ := asked_ok h0
    simp only [h0, decide_true, Bool.not_true, Bool.false_eq_true, if_false, w_ended n _ _ (fun m => isQ_Inside m k) rfl p k hok hk, callO_val, gr_z, retO_ret, insideOf, ne_eq, not_true_eq_false]
  · simp [insideOf, h0, ints]
@[simp] theorem w_Ended (n : Nat) (p : Acc) (w k : Int) (hp : p.fits) : D (n + 10) n_fine_Ended [.row 24 (p.ts.map Tariff.cv), .row 9 (p.ss.map Held.cv), .row 7 (p.ns.map Note.cv), ci w, ci k] = some [.row 1 (ints (endedOf p w k).1), ci (endedOf p w k).2] := by
  rw [q_fine_Ended]
  simp only [R_fine_Ended, w_Check _ _ hp, callO_val, gi_z, bne_dec, iteB_eq, check]
  cases hok : p.ok with
  | false => simp [endedOf, hok, ints]
  | true =>
    cases hw : within w 0 4 with
    | false => simp [endedOf, hok, hw, ints]
    | true =>
      cases hk : isDay k with
      | false => simp [endedOf, hok, hw, hk, ints]
      | true => simp [endedOf, hok, hw, hk, w_ended n _ _ (fun m => isQ_Ended m w) rfl p k hok hk]
end Go.Proofs.Ytabhbdehbpmpkaa
namespace Go.Proofs.Ytabhbdehbpmpkaa
open Go Go.Sx Go.Fine
set_option maxRecDepth 10000
attribute [local simp] Bool.and_assoc Bool.or_assoc
theorem chargedOf_src {p : Acc} (hp : p.ok = true) {s : Held} (hs : s ∈ p.ss) {k : Int} (hk : isDay k = true) : chargedOf p s.src k = if counts s.known s.til k = true then (charge p s (lot p s k) k, 0) else (⟨0, 0, 0⟩, 65) := by
  unfold chargedOf; rw [stayOf_src hp hs hk]; split <;> simp
theorem lotOf_src {p : Acc} (hp : p.ok = true) {s : Held} (hs : s ∈ p.ss) {k : Int} (hk : isDay k = true) : lotOf p s.src k = if counts s.known s.til k = true then (lot p s k, 0) else (⟨0, 0, 0, 0⟩, 65) := by
  unfold lotOf; rw [stayOf_src hp hs hk]; split <;> simp
theorem fedOf_src {p : Acc} (hp : p.ok = true) {s : Held} (hs : s ∈ p.ss) {k : Int} (hk : isDay k = true) : fedOf p s.src k = if counts s.known s.til k = true then ((((fedDays s (lot p s k) k).length : Nat) : Int), 0) else (0, 65) := by
  unfold fedOf; rw [stayOf_src hp hs hk]; split <;> simp
theorem isDay_of {k : Int} (h0 : 0 ≤ k) (h1 : k ≤ 100000) : isDay k = true := within_of h0 h1
end Go.Proofs.Ytabhbdehbpmpkaa
namespace Go.Proofs.Ytabhbdehbpmpkaa
open Go Go.Sx Go.Fine
set_option maxRecDepth 10000
attribute [local simp] Bool.and_assoc Bool.or_assoc
theorem ask0 {p : Acc} (hp : p.ok = true) {k : Int} (hk : isDay k = true) : asked p k = 0 := by unfold asked; rw [if_pos hp, if_pos hk]
def manyAt (f : Int) (j : Nat) : Int := if 1 ≤ f ∧ f ≤ j then 1 else 0
theorem w_FineEnds (n : Nat) (r : Raw) (y : Int) (hr : r.fits) : D (n + 13) n_law06_FineEnds [.row 6 (r.ts.map R6.cv), .row 7 (r.ss.map R7.cv), .row 6 (r.ns.map R6.cv), ci y] = some [cb true] := by
  rw [q_law06_FineEnds]
  unfold R_law06_FineEnds
  have h0 := w_sane n
  have hm := w_Made (n + 10) r hr
  have hp := made_ok r
  have hheld := fun s (h : s ∈ (made r).ss) => made_held h
  have hf := Acc.ok_fits hp
  rw [h0, callO_val, hm, callO_val]
  simp only [gr_z, gr_s, gb_z, il_map]
  generalize made r = p at *
  have hsl := (Acc.ok_len hp).2.1
  have hm900 := w_Mod (n + 11) y 900 (by omega) (by omega)
  have hk0 : 0 ≤ y % 900 := by omega
  have hk1 : y % 900 < 900 := by omega
  generalize y % 900 = k at *
  have hk := isDay_of hk0 (by omega)
  have ha := ask0 hp hk
  have c1 := w_Inside (n + 2) p k hf
  have c2 := w_Stays (n + 2) p k hf
  have hi1 : insideOf p k = (((stays p k).filter fun s => decide (s.day ≤ k) && decide ((lot p s k).fin = 0)).map Held.src, 0) := by unfold insideOf; rw [if_neg (by rw [ha]; decide)]
  rw [hi1] at c1
  rw [if_pos ha] at c2
  rw [hm900, callO_val]
  simp only [gi_z]
  rw [c1, callO_val, c2, callO_val]
  simp only [gi_z, gi_s, gr_z, bne_dec, decide_true, Bool.not_true, iteB_f, seqO_nx, gb_z]
  rw [loop_ix p.ss.length (fun i => [ci (i : Int)]) (some (.br 0 [])) ?hv (fun i hi => ?hs) ?he (by simp)]
  case hv => rfl
  case he => simp
  case hs =>
    have hw := wr_nat (show i < 9223372036854775807 by omega)
    have hii : (i : Int) < p.ss.length := by omega
    have hel : el (p.ss.map Held.cv) (i : Int) = Held.cv p.ss[i] := el_map hi
    have hin : inb (i : Int) (p.ss.map Held.cv) = true := inb_map hi
    have hs : p.ss[i] ∈ p.ss := List.getElem_mem hi
    generalize p.ss[i] = s at *
    have hso := p.ok_s hp hs
    obtain ⟨b1, b2, b3, b4⟩ := hheld s hs
    have hok9 : oks (List.replicate 9 li) (Held.cv s) 0 = true := rfl
    have g0 : gi (Held.cv s) 0 = s.src := rfl
    have g4 : gi (Held.cv s) 4 = s.worth := rfl
    have g6 : gi (Held.cv s) 6 = s.day := rfl
    have d1 := w_Has (n + 11) ((stays p k).map Held.src) s.src (by have := filter_len (fun s => counts s.known s.til k) p.ss; rw [List.length_map]; unfold stays; omega)
    have e1 : ((stays p k).map Held.src).any (fun z => decide (z = s.src)) = counts s.known s.til k := by
      have := has_src hp hs fun s => counts s.known s.til k
      exact this
    rw [e1] at d1
    have d2 := w_Has (n + 11) (((stays p k).filter fun s => decide (s.day ≤ k) && decide ((lot p s k).fin = 0)).map Held.src) s.src (by have := filter_len (fun s => decide (s.day ≤ k) && decide ((lot p s k).fin = 0)) (stays p k); have := filter_len (fun s => counts s.known s.til k) p.ss; rw [List.length_map]; unfold stays at *; omega)
    have e2 : (((stays p k).filter fun s => decide (s.day ≤ k) && decide ((lot p s k).fin = 0)).map Held.src).any (fun z => decide (z = s.src)) = ((decide (s.day ≤ k) && decide ((lot p s k).fin = 0)) && counts s.known s.til k) := by
      rw [stays_filter]
      exact has_src hp hs _
    rw [e2] at d2
    have d3 := fun w => w_Has (n + 11) (((stays p k).filter fun s => decide ((lot p s k).fin = w)).map Held.src) s.src (by have := filter_len (fun s => decide ((lot p s k).fin = w)) (stays p k); have := filter_len (fun s => counts s.known s.til k) p.ss; rw [List.length_map]; unfold stays at *; omega)
    have e3 : ∀ w, (((stays p k).filter fun s => decide ((lot p s k).fin = w)).map Held.src).any (fun z => decide (z = s.src)) = (decide ((lot p s k).fin = w) && counts s.known s.til k) := fun w => by
      rw [stays_filter]
      exact has_src hp hs _
    have c3 : ∀ w : Int, 1 ≤ w → w ≤ 4 → D (n + 12) n_fine_Ended [.row 24 (p.ts.map Tariff.cv), .row 9 (p.ss.map Held.cv), .row 7 (p.ns.map Note.cv), ci w, ci k] = some [.row 1 (ints (((stays p k).filter fun s => decide ((lot p s k).fin = w)).map Held.src)), ci 0] := fun w h1 h2 => by
      have := w_Ended (n + 2) p w k hf
      have e : endedOf p w k = (((stays p k).filter fun s => decide ((lot p s k).fin = w)).map Held.src, 0) := by
        unfold endedOf
        rw [if_neg (by simp [hp]), if_neg (by rw [within_of (by omega) (by omega)]; simp), if_neg (by simp [hk])]
      rw [e] at this
      exact this
    have c4 := w_Lot (n + 1) p s.src k hf
    have c5 := w_Charged (n + 1) p s.src k hf
    have c6 := w_Fed (n + 1) p s.src k hf
    rw [lotOf_src hp hs hk] at c4
    rw [chargedOf_src hp hs hk] at c5
    rw [fedOf_src hp hs hk] at c6
    simp only [gi_z, hii, decide_true, iteB_t, hin, hel, hok9, chk_true, g0, d1, callO_val, gb_z]
    cases hc : counts s.known s.til k with
    | false =>
      rw [hc, Bool.and_false] at d2
      simp only [Bool.not_false, iteB_t, d2, callO_val, gb_z, iteB_f, blkO_br, hw]
    | true =>
      rw [hc, Bool.and_true] at d2
      rw [hc] at c4 c5 c6
      simp only [if_true] at c4 c5 c6
      have hfb := lot_day p s k (by omega)
      simp only [Bool.not_true, iteB_f]
      rw [loop_ix 4 (fun j => [ci (manyAt (lot p s k).fin j), ci (1 + (j : Int))]) (some (.br 2 [ci (manyAt (lot p s k).fin 4)])) ?hv2 (fun j hj => ?hs2) ?he2 (by simp)]
      case hv2 =>
        have : manyAt (lot p s k).fin 0 = 0 := by unfold manyAt; rw [if_neg (by omega)]
        rw [this]; rfl
      case he2 => simp
      case hs2 =>
        have hj1 : (1 : Int) + j ≤ 4 := by omega
        have c3j := c3 (1 + j) (by omega) hj1
        have d3j := d3 (1 + j)
        rw [e3, hc, Bool.and_true] at d3j
        have hwj : wr (1 + (j : Int) + 1) = 1 + ((j + 1 : Nat) : Int) := by rw [wr_of] <;> omega
        simp only [gi_z, gi_s, hj1, decide_true, iteB_t, c3j, callO_val, bne_dec, Bool.not_true, iteB_f, gr_z, d3j, gb_z]
        by_cases hq : (lot p s k).fin = 1 + j
        · have m0 : manyAt (lot p s k).fin j = 0 := by unfold manyAt; rw [if_neg (by omega)]
          have m1 : manyAt (lot p s k).fin (j + 1) = 1 := by unfold manyAt; rw [if_pos (by omega)]
          have w01 : wr (0 + 1) = 1 := by decide
          simp only [hq, decide_true, iteB_t, seqO_nx, gi_z, hwj]
          rw [hq] at m0 m1
          rw [m0, m1, w01]
        · have m01 : manyAt (lot p s k).fin (j + 1) = manyAt (lot p s k).fin j := by
            unfold manyAt
            by_cases h : 1 ≤ (lot p s k).fin ∧ (lot p s k).fin ≤ j
            · rw [if_pos h, if_pos (by omega)]
            · rw [if_neg h, if_neg (by omega)]
          simp only [hq, decide_false, iteB_f, seqO_nx, gi_z, hwj, m01]
      have hkept := lot_kept (p := p) (s := s) (k := k) (by omega)
      have hmost := fed_most p (s := s) (k := k) (by omega) hk0
      have hmarket := market_feed (p := p) (s := s) (k := k)
      have hforf := forfeit_stop (p := p) (s := s) (k := k)
      have hmost' : ¬ (((fedDays s (lot p s k) k).length : Nat) : Int) > 721 := by omega
      have w1 : wr (s.day + 360) = s.day + 360 := by rw [wr_of] <;> omega
      have w2 : wr (s.day + 720) = s.day + 720 := by rw [wr_of] <;> omega
      have w01 : wr (0 + 1) = 1 := by decide
      have n1 : ¬ ((1 : Int) > 1) := by decide
      have n0 : ¬ ((0 : Int) > 1) := by decide
      simp only [blkO_br, gi_z, d2, callO_val, gb_z]
      have hma0 : (lot p s k).fin = 0 → manyAt (lot p s k).fin 4 = 0 := fun h => by unfold manyAt; rw [if_neg (by omega)]
      have hma1 : ¬ (lot p s k).fin = 0 → manyAt (lot p s k).fin 4 = 1 := fun h => by unfold manyAt; rw [if_pos (by omega)]
      generalize manyAt (lot p s k).fin 4 = ma at *
      by_cases f0 : (lot p s k).fin = 0
      · have m4 := hma0 f0
        have hk720 : ¬ (s.day + 720 ≤ k) := fun h => (hkept h).1 f0
        have z3 : ¬ ((0 : Int) = 3) := by decide
        have z2 : ¬ ((0 : Int) = 2) := by decide
        by_cases hd : s.day ≤ k
        · simp only [m4, f0, hd, decide_true, Bool.and_self, iteB_t, seqO_nx, gi_z, w01, c4, c5, c6, callO_val, gi_s, g4, g6, bne_dec, beq_dec, Bool.not_true, iteB_f, n1, decide_false, hmost', gb_z, z3, z2, w2, hk720, blkO_br, hw]
        · simp only [m4, f0, hd, decide_true, decide_false, Bool.false_and, iteB_f, seqO_nx, gi_z, c4, c5, c6, callO_val, gi_s, g4, g6, bne_dec, beq_dec, Bool.not_true, n0, hmost', gb_z, z3, z2, iteB_t, w2, hk720, blkO_br, hw]
      · have m4 := hma1 f0
        have hd2 : (decide (s.day ≤ k) && decide ((lot p s k).fin = 0)) = false := by simp [f0]
        by_cases f3 : (lot p s k).fin = 3
        · have z0 : ¬ ((3 : Int) = 0) := by decide
          have z2 : ¬ ((3 : Int) = 2) := by decide
          have hff := hforf f3
          by_cases s0 : (lot p s k).stop ≥ 0
          · have s1 : ¬ ((lot p s k).stop ≤ s.day + 360) := fun h => hff ⟨s0, h⟩
            by_cases hd : s.day ≤ k
            · simp only [m4, f3, hd, decide_true, decide_false, Bool.and_false, iteB_f, seqO_nx, gi_z, c4, c5, c6, callO_val, gi_s, g4, g6, bne_dec, beq_dec, Bool.not_true, n1, hmost', gb_z, z0, z2, s0, s1, iteB_t, w1, blkO_br, hw]
            · simp only [m4, f3, hd, decide_true, decide_false, Bool.and_false, iteB_f, seqO_nx, gi_z, c4, c5, c6, callO_val, gi_s, g4, g6, bne_dec, beq_dec, Bool.not_true, n1, hmost', gb_z, z0, z2, s0, s1, iteB_t, w1, blkO_br, hw]
          · by_cases hd : s.day ≤ k
            · simp only [m4, f3, hd, decide_true, decide_false, Bool.and_false, iteB_f, seqO_nx, gi_z, c4, c5, c6, callO_val, gi_s, g4, g6, bne_dec, beq_dec, Bool.not_true, n1, hmost', gb_z, z0, z2, s0, iteB_t, w1, blkO_br, hw]
            · simp only [m4, f3, hd, decide_true, decide_false, Bool.and_false, iteB_f, seqO_nx, gi_z, c4, c5, c6, callO_val, gi_s, g4, g6, bne_dec, beq_dec, Bool.not_true, n1, hmost', gb_z, z0, z2, s0, iteB_t, w1, blkO_br, hw]
        · by_cases f2 : (lot p s k).fin = 2
          · have z0 : ¬ ((2 : Int) = 0) := by decide
            have z3 : ¬ ((2 : Int) = 3) := by decide
            have hmk : ¬ (s.worth > (charge p s (lot p s k) k).feed) := by have := hmarket f2; omega
            by_cases hd : s.day ≤ k
            · simp only [m4, f2, hd, decide_true, decide_false, Bool.and_false, iteB_f, seqO_nx, gi_z, c4, c5, c6, callO_val, gi_s, g4, g6, bne_dec, beq_dec, Bool.not_true, n1, hmost', gb_z, z0, z3, iteB_t, hmk, blkO_br, hw]
            · simp only [m4, f2, hd, decide_true, decide_false, Bool.and_false, iteB_f, seqO_nx, gi_z, c4, c5, c6, callO_val, gi_s, g4, g6, bne_dec, beq_dec, Bool.not_true, n1, hmost', gb_z, z0, z3, iteB_t, hmk, blkO_br, hw]
          · by_cases hd : s.day ≤ k
            · simp only [m4, f0, f2, f3, hd, decide_true, decide_false, Bool.and_false, iteB_f, seqO_nx, gi_z, c4, c5, c6, callO_val, gi_s, g4, g6, bne_dec, beq_dec, Bool.not_true, n1, hmost', gb_z, iteB_t, blkO_br, hw]
            · simp only [m4, f0, f2, f3, hd, decide_true, decide_false, Bool.and_false, iteB_f, seqO_nx, gi_z, c4, c5, c6, callO_val, gi_s, g4, g6, bne_dec, beq_dec, Bool.not_true, n1, hmost', gb_z, iteB_t, blkO_br, hw]
  · rfl
end Go.Proofs.Ytabhbdehbpmpkaa
