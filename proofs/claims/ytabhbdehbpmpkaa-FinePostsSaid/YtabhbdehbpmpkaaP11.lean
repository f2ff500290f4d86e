/-
  Proved: the postings of days, whether postings are those, and what a party got, are as the chapter says; conditions: none.
-/
import Derived.KernelRfl
import Derived.Test.YtabhbdehbpmpkaaRows
import Derived.Test.YtabhbdehbpmpkaaP10
namespace Go.Proofs.Ytabhbdehbpmpkaa
open Go Go.Sx Go.Fine
set_option maxRecDepth 10000
attribute [local simp] Bool.and_assoc Bool.or_assoc
attribute [simp] w_lot w_lot'
theorem last_wr (x : Lot) (h1 : -1 ≤ x.day) (h2 : x.day ≤ 100000) : wr (x.day - 1) = x.day - 1 := by rw [wr_of] <;> omega
@[simp] theorem w_fed (n : Nat) (s : Held) (x : Lot) (k : Int) (h1 : -1 ≤ x.day) (h2 : x.day ≤ 100000) : D (n + 2) n_fine_fed [ci s.src, ci s.beast, ci s.sort, ci s.eats, ci s.worth, ci s.drv, ci s.day, ci s.known, ci s.til, ci x.owner, ci x.stop, ci x.fin, ci x.day, ci k] = some [.fn n_fine_days_c1 [.ref [ci s.day], .ref [ci (lastDay x k)]]] := by
  rw [q_fine_fed]
  have e := last_wr x h1 h2
  simp only [R_fine_fed, lastDay, beq_dec, bne_dec, iteB_eq]
  by_cases hc : x.fin = 2
  · simp [hc]
  · by_cases hd : x.fin = 0 <;> simp [hc, hd, e]
@[simp] theorem w_last (n : Nat) (x : Lot) (k : Int) (h1 : -1 ≤ x.day) (h2 : x.day ≤ 100000) : D (n + 1) n_r06_last [ci x.owner, ci x.stop, ci x.fin, ci x.day, ci k] = some [ci (lastDay x k)] := by
  rw [q_r06_last]
  have e := last_wr x h1 h2
  simp only [R_r06_last, lastDay, beq_dec, bne_dec, iteB_eq]
  by_cases hc : x.fin = 2
  · simp [hc]
  · by_cases hd : x.fin = 0 <;> simp [hc, hd, e]
theorem cis_cvb (t : Tariff) (b : Bool) : cis (Tariff.cvb t b) 0 24 = t.cv := rfl
theorem oks_cv (t : Tariff) (o : Nat) (h : o < 24) : oks [li] t.cv o = true := oks_int1 rfl h
def runS (p : Acc) (s : Held) (x : Lot) (a : Int × Int × Int) (d : Int) : Int × Int × Int := (a.1, wr (a.2.1 + daily p s d), if x.stop < 0 ∨ d < x.stop then wr (a.2.2 + dailyOf (inForce p d) s.sort) else a.2.2)
theorem run_sums {p : Acc} (hp : p.ok = true) {s : Held} (hs : s.ok = true) (x : Lot) : ∀ (l : List Int) (a : Int × Int × Int), 0 ≤ a.2.1 → 0 ≤ a.2.2 → a.2.1 + l.length * 100000 < 9223372036854775808 → a.2.2 + l.length * 100000 < 9223372036854775808 →
    l.foldl (runS p s x) a = (a.1, a.2.1 + sumOf (daily p s) l, a.2.2 + sumOf (fineOf p s x) l)
  | [], a, _, _, _, _ => by simp [sumOf]
  | d :: l, a, h1, h2, h3, h4 => by
    obtain ⟨b1, b2, _⟩ := daily_bounds hp hs d
    obtain ⟨c1, c2⟩ := (head_bounds hp hs d).2
    have hl : (((d :: l).length : Nat) : Int) * 100000 = l.length * 100000 + 100000 := by simp [Int.add_mul]
    rw [hl] at h3 h4
    have e1 : wr (a.2.1 + daily p s d) = a.2.1 + daily p s d := by rw [wr_of] <;> omega
    have e2 : wr (a.2.2 + dailyOf (inForce p d) s.sort) = a.2.2 + dailyOf (inForce p d) s.sort := by rw [wr_of] <;> omega
    have e3 : runS p s x a d = (a.1, a.2.1 + daily p s d, a.2.2 + fineOf p s x d) := by
      unfold runS fineOf; rw [e1, e2]; split <;> simp
    have f := fineOf_bounds hp hs x d
    rw [List.foldl_cons, e3, run_sums hp hs x l _ (by simp only; omega) (by simp only; omega) (by simp only; omega) (by simp only; omega)]
    simp only [sumOf_cons, Prod.mk.injEq, true_and]
    omega
@[simp] theorem w_charge (n : Nat) (p : Acc) (s : Held) (x : Lot) (k : Int) (hp : p.ok = true) (hs : s.ok = true) (hk : isDay k = true) (h1 : -1 ≤ x.day) (h2 : x.day ≤ 100000) : D (n + 4) n_fine_charge [.row 24 (p.ts.map Tariff.cv), .row 9 (p.ss.map Held.cv), .row 7 (p.ns.map Note.cv), ci s.src, ci s.beast, ci s.sort, ci s.eats, ci s.worth, ci s.drv, ci s.day, ci s.known, ci s.til, ci x.owner, ci x.stop, ci x.fin, ci x.day, ci k] = some [ci (charge p s x k).head, ci (charge p s x k).feed, ci (charge p s x k).fine] := by
  rw [q_fine_charge]
  have hb := Held.ok_b hs
  simp only [isDay, within, Bool.and_eq_true, decide_eq_true_eq] at hk
  have hf := p.ok_fits hp
  have hs1 : (0 : Int) ≤ s.sort := by omega
  have hs2 : s.sort < 10 := by omega
  have hs3 : 1 + s.sort.toNat * 1 < 24 := by omega
  have hs4 : 11 + s.sort.toNat * 1 < 24 := by omega
  have hlb : -2 ≤ lastDay x k ∧ lastDay x k ≤ 100000 := by unfold lastDay; split <;> (try split) <;> omega
  have hl := fed_len s x k hb.2.2.2.2.2.1.1 hk.2 h2
  unfold R_fine_charge
  simp only [w_inF _ _ _ _ _ hf, callO_val, cis_cvb, hs1, hs2, decide_true, Bool.and_self, chk_true, oks_cv _ _ hs3, oks_cv _ _ hs4, Int.ofNat_eq_natCast, Int.cast_ofNat_Int, w_fed _ _ _ _ h1 h2, seq_if]
  rw [show List.getD [CV.fn n_fine_days_c1 [.ref [ci s.day], .ref [ci (lastDay x k)]]] 0 dC = CV.fn n_fine_days_c1 [.ref [ci s.day], .ref [ci (lastDay x k)]] from rfl, it_days _ _ _ (by omega) (by omega)]
  obtain ⟨h0, hh0⟩ : ∃ h0, h0 = if s.day ≤ k then headOf (inForce p s.day) s.sort else 0 := ⟨_, rfl⟩
  have e0 : (if decide (s.day ≤ k) = true then [ci (gi (inForce p s.day).cv (1 + s.sort.toNat * 1)), ci 0, ci 0] else [ci 0, ci 0, ci 0]) = [ci h0, ci 0, ci 0] := by
    rw [hh0]; simp [headOf]
  rw [e0]
  rw [range_fold (fun (a : Int × Int × Int) => [ci a.1, ci a.2.1, ci a.2.2]) (runS p s x) (h0, 0, 0) ?hv (fun d a => ?hs)]
  case hv => rfl
  case hs =>
    by_cases hc : x.stop < 0
    · simp [hp, hs, hc, runS, dailyOf]
    · by_cases hd : d < x.stop <;> simp [hp, hs, hc, hd, runS, dailyOf]
  · rw [show upto s.day (lastDay x k) = fedDays s x k from rfl, run_sums hp hs x _ _ (by simp) (by simp) (by simp only; omega) (by simp only; omega)]
    simp [charge, hh0]
theorem upto_get {a b : Int} {i : Nat} (h : i < (upto a b).length) : (upto a b)[i] = a + i := by simp [upto]
theorem w_charged (n : Nat) (p : Acc) (s : Held) (k : Int) (hp : p.ok = true) (hs : s.ok = true) (hk : isDay k = true) : D (n + 5) n_r06_charged [.row 24 (p.ts.map Tariff.cv), .row 9 (p.ss.map Held.cv), .row 7 (p.ns.map Note.cv), ci s.src, ci s.beast, ci s.sort, ci s.eats, ci s.worth, ci s.drv, ci s.day, ci s.known, ci s.til, ci k] = some [ci (charge p s (lot p s k) k).head, ci (charge p s (lot p s k) k).feed, ci (charge p s (lot p s k) k).fine] := by
  rw [q_r06_charged]
  have hb := Held.ok_b hs
  have hlot := w_lot' n p s k hp hs hk
  simp only [isDay, within, Bool.and_eq_true, decide_eq_true_eq] at hk
  have hf := p.ok_fits hp
  have hs1 : (0 : Int) ≤ s.sort := by omega
  have hs2 : s.sort < 10 := by omega
  have hs3 : 1 + s.sort.toNat * 1 < 24 := by omega
  have hs4 : 11 + s.sort.toNat * 1 < 24 := by omega
  obtain ⟨h1, h2, _⟩ := lot_day p s k (by omega)
  unfold R_r06_charged
  by_cases he : s.day > k
  · have hfin := lot_early hp hs (show k < s.day by omega) (by omega)
    have : fedDays s (lot p s k) k = [] := by unfold fedDays lastDay; rw [hfin]; exact upto_nil (by simp; omega)
    simp [he, charge, this, sumOf, show ¬ s.day ≤ k by omega]
  · simp only [he, decide_false, iteB_eq, Bool.false_eq_true, if_false, hlot, callO_val]
    generalize hx : lot p s k = x at *
    have hlb : -2 ≤ lastDay x k ∧ lastDay x k ≤ 100000 := by unfold lastDay; split <;> (try split) <;> omega
    have hl := fed_len s x k hb.2.2.2.2.2.1.1 hk.2 (by omega)
    simp only [w_inF' _ _ _ _ _ hf, callO_val, cis_cvb, hs1, hs2, decide_true, Bool.and_self, chk_true, oks_cv _ _ hs3, oks_cv _ _ hs4, Int.ofNat_eq_natCast, Int.cast_ofNat_Int]
    rw [loop_foldl (fedDays s x k) (fun i (a : Int × Int × Int) => [ci (s.day + (i : Nat)), ci a.1, ci a.2.1, ci a.2.2]) (runS p s x) 0 (fun a => [ci a.1, ci a.2.1, ci a.2.2]) (headOf (inForce p s.day) s.sort, 0, 0) ?hv (fun i hi a => ?hs) (fun a => ?he)]
    case hv => simp [headOf]
    case he =>
      have hn : ¬ (s.day + ((fedDays s x k).length : Int) ≤ lastDay x k) := by unfold fedDays; rw [upto_length]; omega
      have e4 : D (n + 4) n_r06_last [ci x.owner, ci x.stop, ci x.fin, ci x.day, ci k] = some [ci (lastDay x k)] := w_last _ _ _ h1 (by omega)
      simp [e4, hn]
    case hs =>
      have hn : s.day + (i : Int) ≤ lastDay x k := by unfold fedDays at hi; rw [upto_length] at hi; omega
      have e4 : D (n + 4) n_r06_last [ci x.owner, ci x.stop, ci x.fin, ci x.day, ci k] = some [ci (lastDay x k)] := w_last _ _ _ h1 (by omega)
      have e5 : (fedDays s x k)[i] = s.day + i := upto_get hi
      have e6 : wr (s.day + (i : Int) + 1) = s.day + ((i + 1 : Nat) : Int) := by rw [wr_of] <;> omega
      rw [e5]
      by_cases hc : x.stop < 0
      · simp [e4, hn, hp, hs, hc, runS, dailyOf, e6]
      · by_cases hd : s.day + (i : Int) < x.stop <;> simp [e4, hn, hp, hs, hc, hd, runS, dailyOf, e6]
    · rw [run_sums hp hs x _ _ (by simp) (by simp) (by simp only; omega) (by simp only; omega)]
      simp [charge, show s.day ≤ k by omega]
attribute [simp] w_charged
theorem payer_bounds {p : Acc} (hp : p.ok = true) {s : Held} (hs : s.ok = true) (k : Int) (hk : isDay k = true) : 0 ≤ (payer s (lot p s k) (charge p s (lot p s k) k)).2 ∧ (payer s (lot p s k) (charge p s (lot p s k) k)).2 ≤ 50000000000 := by
  have hb := Held.ok_b hs
  simp only [isDay, within, Bool.and_eq_true, decide_eq_true_eq] at hk
  obtain ⟨h1, h2, _⟩ := lot_day p s k (by omega)
  obtain ⟨c1, c2, c3⟩ := charge_bounds hp hs (lot p s k) k hk.2 (by omega)
  unfold payer Charge.sum
  split
  · simp only; omega
  · split <;> simp only <;> omega
theorem shares_wr (y h : Int) (h1 : 0 ≤ y) (h2 : y ≤ 50000000000) (h3 : 0 ≤ h) (h4 : h ≤ 60) : wr (y * h) = y * h ∧ wr (Int.tdiv (y * h) 60) = Int.tdiv (y * h) 60 ∧ 0 ≤ Int.tdiv (y * h) 60 ∧ Int.tdiv (y * h) 60 ≤ y := by
  have a1 : 0 ≤ y * h := Int.mul_nonneg h1 h3
  have a2 : y * h ≤ y * 60 := Int.mul_le_mul_of_nonneg_left h4 h1
  have a3 : Int.tdiv (y * h) 60 = y * h / 60 := Int.tdiv_eq_ediv_of_nonneg a1
  rw [a3]
  refine ⟨by rw [wr_of] <;> omega, by rw [wr_of] <;> omega, by omega, by omega⟩
theorem owner_bounds : ∀ (l : List Note), (∀ n ∈ l, n.ok = true) → 0 ≤ ownerOf l ∧ ownerOf l ≤ 99 := by
  intro l h
  have hj : 0 ≤ (judged l).2 ∧ (judged l).2 ≤ 99 := by
    revert h
    refine snoc_ind (P := fun l => (∀ n ∈ l, n.ok = true) → 0 ≤ (judged l).2 ∧ (judged l).2 ≤ 99) ?_ ?_ l
    · intro _; simp [judged]
    · intro l a ih h
      have ih := ih fun n hn => h n (by simp [hn])
      obtain ⟨_, _, hk, _⟩ := Note.ok_b (h a (by simp))
      simp only [judged, List.foldl_append, List.foldl_cons, List.foldl_nil] at ih ⊢
      split <;> omega
  have hc : 0 ≤ claimer l ∧ claimer l ≤ 99 := by
    unfold claimer
    cases hf : l.find? (fun n => n.kind == 1 && n.day == least 1 l) with
    | none => simp
    | some n =>
      obtain ⟨_, _, hk, _⟩ := Note.ok_b (h n (List.mem_of_find?_eq_some hf))
      simp only [Option.map_some, Option.getD_some]; omega
  unfold ownerOf; split <;> omega
theorem w_due (n : Nat) (p : Acc) (s : Held) (k : Int) (hp : p.ok = true) (hs : s.ok = true) (hk : isDay k = true) : D (n + 6) n_fine_due [.row 24 (p.ts.map Tariff.cv), .row 9 (p.ss.map Held.cv), .row 7 (p.ns.map Note.cv), ci s.src, ci s.beast, ci s.sort, ci s.eats, ci s.worth, ci s.drv, ci s.day, ci s.known, ci s.til, ci k] = some [ci (dueOf p s k).payer, ci (dueOf p s k).hay, ci (dueOf p s k).drv, ci (dueOf p s k).lord] := by
  rw [q_fine_due]
  have hf := p.ok_fits hp
  obtain ⟨y1, y2⟩ := payer_bounds hp hs k hk
  obtain ⟨t1, t2, t3⟩ := hay_bounds hp s.day
  have hk' := hk
  simp only [isDay, within, Bool.and_eq_true, decide_eq_true_eq] at hk'
  obtain ⟨h1, h2, _⟩ := lot_day p s k (by omega)
  obtain ⟨c1, c2, c3⟩ := charge_bounds hp hs (lot p s k) k hk'.2 (by omega)
  have ho := owner_bounds (notes p s k) fun x hx => p.ok_n hp (notes_mem hx)
  have hoo : (lot p s k).owner = ownerOf (notes p s k) := rfl
  obtain ⟨a1, a2, a3, a4⟩ := shares_wr _ (inForce p s.day).hay y1 y2 (by omega) (by omega)
  obtain ⟨b1, b2, b3, b4⟩ := shares_wr _ (inForce p s.day).drv y1 y2 (by omega) (by omega)
  have e1 : wr (2 + (lot p s k).owner) = 2 + (lot p s k).owner := by rw [wr_of] <;> omega
  have e2 : wr ((charge p s (lot p s k) k).head + (charge p s (lot p s k) k).feed) = (charge p s (lot p s k) k).head + (charge p s (lot p s k) k).feed := by rw [wr_of] <;> omega
  have e3 : wr ((charge p s (lot p s k) k).head + (charge p s (lot p s k) k).feed + (charge p s (lot p s k) k).fine) = (charge p s (lot p s k) k).sum := by unfold Charge.sum; rw [wr_of] <;> omega
  simp only [R_fine_due, w_lot _ _ _ _ hp hs hk, callO_val, cis_s, cis_z, cat_s, cat_1, gi_z, gi_s, List.cons_append, List.nil_append, w_charge _ _ _ _ _ hp hs hk h1 (by omega : (lot p s k).day ≤ 100000), w_inF _ _ _ _ _ hf]
  have hy : ∀ K : List CV → Option Ou, (seqO (iteB ((lot p s k).fin == 2)
        (some (.nx [ci 2, ci s.worth]))
        (seqO (iteB ((lot p s k).fin != 3)
            (some (.nx [cb ((lot p s k).owner != 0)]))
            (some (.nx [cb false]))) fun v2 =>
        seqO (iteB (gb v2 0)
            (some (.nx [ci (wr (2 + (lot p s k).owner)), ci (wr ((wr ((charge p s (lot p s k) k).head + (charge p s (lot p s k) k).feed)) + (charge p s (lot p s k) k).fine))]))
            (some (.nx [ci (-1), ci 0]))) fun v3 =>
        some (.nx [ci (gi v3 0), ci (gi v3 1)]))) K) = K [ci (payer s (lot p s k) (charge p s (lot p s k) k)).1, ci (payer s (lot p s k) (charge p s (lot p s k) k)).2] := by
    intro K
    rw [e1, e2, e3]
    unfold payer
    by_cases x1 : (lot p s k).fin = 2
    · simp [x1]
    · by_cases x2 : (lot p s k).fin = 3
      · simp [x2]
      · by_cases x3 : (lot p s k).owner = 0 <;> simp [x1, x2, x3]
  rw [hy]
  unfold dueOf shares
  generalize hyy : payer s (lot p s k) (charge p s (lot p s k) k) = y at *
  by_cases hd : s.drv = 0
  · have e4 : wr (y.2 - (y.2 * (inForce p s.day).hay).tdiv 60) = y.2 - (y.2 * (inForce p s.day).hay).tdiv 60 := by rw [wr_of] <;> omega
    simp [hd, Tariff.cvb, a1, a2, e4]
  · have e4 : wr (y.2 - (y.2 * (inForce p s.day).hay).tdiv 60) = y.2 - (y.2 * (inForce p s.day).hay).tdiv 60 := by rw [wr_of] <;> omega
    have e5 : wr (y.2 - (y.2 * (inForce p s.day).hay).tdiv 60 - (y.2 * (inForce p s.day).drv).tdiv 60) = y.2 - (y.2 * (inForce p s.day).hay).tdiv 60 - (y.2 * (inForce p s.day).drv).tdiv 60 := by rw [wr_of] <;> omega
    simp [hd, Tariff.cvb, a1, a2, b1, b2, e4, e5]
theorem w_due' (n : Nat) (p : Acc) (s : Held) (k : Int) (hp : p.ok = true) (hs : s.ok = true) (hk : isDay k = true) : D (n + 6) n_r06_due [.row 24 (p.ts.map Tariff.cv), .row 9 (p.ss.map Held.cv), .row 7 (p.ns.map Note.cv), ci s.src, ci s.beast, ci s.sort, ci s.eats, ci s.worth, ci s.drv, ci s.day, ci s.known, ci s.til, ci k] = some [ci (dueOf p s k).payer, ci (dueOf p s k).hay, ci (dueOf p s k).drv, ci (dueOf p s k).lord] := by
  rw [q_r06_due]
  have hf := p.ok_fits hp
  obtain ⟨y1, y2⟩ := payer_bounds hp hs k hk
  obtain ⟨t1, t2, t3⟩ := hay_bounds hp s.day
  have hb := Held.ok_b hs
  have hk' := hk
  simp only [isDay, within, Bool.and_eq_true, decide_eq_true_eq] at hk'
  obtain ⟨h1, h2, _⟩ := lot_day p s k (by omega)
  obtain ⟨c1, c2, c3⟩ := charge_bounds hp hs (lot p s k) k hk'.2 (by omega)
  have ho := owner_bounds (notes p s k) fun x hx => p.ok_n hp (notes_mem hx)
  have hoo : (lot p s k).owner = ownerOf (notes p s k) := rfl
  obtain ⟨a1, a2, a3, a4⟩ := shares_wr _ (inForce p s.day).hay y1 y2 (by omega) (by omega)
  obtain ⟨b1, b2, b3, b4⟩ := shares_wr _ (inForce p s.day).drv y1 y2 (by omega) (by omega)
  have e1 : wr (2 + (lot p s k).owner) = 2 + (lot p s k).owner := by rw [wr_of] <;> omega
  have e2 : wr ((charge p s (lot p s k) k).head + (charge p s (lot p s k) k).feed) = (charge p s (lot p s k) k).head + (charge p s (lot p s k) k).feed := by rw [wr_of] <;> omega
  have e3 : wr ((charge p s (lot p s k) k).head + (charge p s (lot p s k) k).feed + (charge p s (lot p s k) k).fine) = (charge p s (lot p s k) k).sum := by unfold Charge.sum; rw [wr_of] <;> omega
  simp only [R_r06_due, w_lot' _ _ _ _ hp hs hk, callO_val, gi_z, gi_s, w_charged _ _ _ _ hp hs hk, w_inF' _ _ _ _ _ hf, e1, e2, e3]
  by_cases xx : (lot p s k).fin ≠ 2 ∧ ((lot p s k).fin = 3 ∨ (lot p s k).owner = 0)
  · have hyy : payer s (lot p s k) (charge p s (lot p s k) k) = (-1, 0) := by unfold payer; rw [if_neg xx.1, if_pos xx.2]
    unfold dueOf shares
    rw [hyy]
    rcases xx with ⟨x1, x2 | x2⟩
    · simp [x2]
    · by_cases x3 : (lot p s k).fin = 3 <;> simp [x1, x2, x3]
  · obtain ⟨y, hy⟩ : ∃ y, y = payer s (lot p s k) (charge p s (lot p s k) k) := ⟨_, rfl⟩
    have hpay : (lot p s k).fin = 2 ∧ y = (2, s.worth) ∨ (lot p s k).fin ≠ 2 ∧ (lot p s k).fin ≠ 3 ∧ (lot p s k).owner ≠ 0 ∧ y = (2 + (lot p s k).owner, (charge p s (lot p s k) k).sum) := by
      rw [hy]; unfold payer
      by_cases x1 : (lot p s k).fin = 2
      · exact .inl ⟨x1, by rw [if_pos x1]⟩
      · have x2 : ¬ ((lot p s k).fin = 3 ∨ (lot p s k).owner = 0) := fun h => xx ⟨x1, h⟩
        exact .inr ⟨x1, fun h => x2 (.inl h), fun h => x2 (.inr h), by rw [if_neg x1, if_neg x2]⟩
    unfold dueOf shares
    rw [← hy] at y1 y2 a1 a2 a3 a4 b1 b2 b3 b4 ⊢
    have e4 : wr (y.2 - (y.2 * (inForce p s.day).hay).tdiv 60) = y.2 - (y.2 * (inForce p s.day).hay).tdiv 60 := by rw [wr_of] <;> omega
    have e5 : wr (y.2 - (y.2 * (inForce p s.day).hay).tdiv 60 - (y.2 * (inForce p s.day).drv).tdiv 60) = y.2 - (y.2 * (inForce p s.day).hay).tdiv 60 - (y.2 * (inForce p s.day).drv).tdiv 60 := by rw [wr_of] <;> omega
    rcases hpay with ⟨x1, x2⟩ | ⟨x1, x3, x4, x2⟩ <;> rw [x2] at a1 a2 b1 b2 e4 e5 ⊢ <;> simp only at a1 a2 b1 b2 e4 e5
    · by_cases hd : s.drv = 0
      · simp [x1, hd, Tariff.cvb, a1, a2, e4]
      · have : 0 < s.drv := by omega
        simp [x1, hd, this, Tariff.cvb, a1, a2, b1, b2, e4, e5]
    · by_cases hd : s.drv = 0
      · simp [x1, x3, x4, hd, Tariff.cvb, a1, a2, e4]
      · have : 0 < s.drv := by omega
        simp [x1, x3, x4, hd, this, Tariff.cvb, a1, a2, b1, b2, e4, e5]
attribute [simp] w_due w_due'
end Go.Proofs.Ytabhbdehbpmpkaa
namespace Go.Proofs.Ytabhbdehbpmpkaa
open Go Go.Sx Go.Fine
set_option maxRecDepth 10000
attribute [local simp] Bool.and_assoc Bool.or_assoc
def lotOf (p : Acc) (y k : Int) : Fine.Lot × Int := if (stayOf p y k).2 = 0 then (lot p (stayOf p y k).1 k, 0) else (⟨0, 0, 0, 0⟩, (stayOf p y k).2)
def chargedOf (p : Acc) (y k : Int) : Charge × Int := if (stayOf p y k).2 = 0 then (charge p (stayOf p y k).1 (lot p (stayOf p y k).1 k) k, 0) else (⟨0, 0, 0⟩, (stayOf p y k).2)
def duesOf (p : Acc) (y k : Int) : Due × Int := if (stayOf p y k).2 = 0 then (dueOf p (stayOf p y k).1 k, 0) else (⟨0, 0, 0, 0⟩, (stayOf p y k).2)
@[simp] theorem w_Lot (n : Nat) (p : Acc) (y k : Int) (hp : p.fits) : D (n + 11) n_fine_Lot [.row 24 (p.ts.map Tariff.cv), .row 9 (p.ss.map Held.cv), .row 7 (p.ns.map Note.cv), ci y, ci k] = some [ci (lotOf p y k).1.owner, ci (lotOf p y k).1.stop, ci (lotOf p y k).1.fin, ci (lotOf p y k).1.day, ci (lotOf p y k).2] := by
  rw [q_fine_Lot]
  simp only [R_fine_Lot, w_stayOf _ _ _ _ hp, callO_val, Held.cve, gi_z, gi_s, bne_dec, iteB_eq]
  by_cases he : (stayOf p y k).2 = 0
  · obtain ⟨hok, hk, hm, hs, _⟩ := stayOf_ok he
    have hk' := hk
    simp only [isDay, within, Bool.and_eq_true, decide_eq_true_eq] at hk'
    obtain ⟨h1, h2, _⟩ := lot_day p (stayOf p y k).1 k (by omega)
    simp [he, lotOf, hok, hs, hk, h1, (by omega : (lot p (stayOf p y k).1 k).day ≤ 100000)]
  · simp [he, lotOf]
@[simp] theorem w_Charged (n : Nat) (p : Acc) (y k : Int) (hp : p.fits) : D (n + 11) n_fine_Charged [.row 24 (p.ts.map Tariff.cv), .row 9 (p.ss.map Held.cv), .row 7 (p.ns.map Note.cv), ci y, ci k] = some [ci (chargedOf p y k).1.head, ci (chargedOf p y k).1.feed, ci (chargedOf p y k).1.fine, ci (chargedOf p y k).2] := by
  rw [q_fine_Charged]
  simp only [R_fine_Charged, w_stayOf _ _ _ _ hp, callO_val, Held.cve, gi_z, gi_s, bne_dec, iteB_eq]
  by_cases he : (stayOf p y k).2 = 0
  · obtain ⟨hok, hk, hm, hs, _⟩ := stayOf_ok he
    have hk' := hk
    simp only [isDay, within, Bool.and_eq_true, decide_eq_true_eq] at hk'
    obtain ⟨h1, h2, _⟩ := lot_day p (stayOf p y k).1 k (by omega)
    simp [he, chargedOf, hok, hs, hk, h1, (by omega : (lot p (stayOf p y k).1 k).day ≤ 100000)]
  · simp [he, chargedOf]
@[simp] theorem w_Dues (n : Nat) (p : Acc) (y k : Int) (hp : p.fits) : D (n + 11) n_fine_Dues [.row 24 (p.ts.map Tariff.cv), .row 9 (p.ss.map Held.cv), .row 7 (p.ns.map Note.cv), ci y, ci k] = some [ci (duesOf p y k).1.payer, ci (duesOf p y k).1.hay, ci (duesOf p y k).1.drv, ci (duesOf p y k).1.lord, ci (duesOf p y k).2] := by
  rw [q_fine_Dues]
  simp only [R_fine_Dues, w_stayOf _ _ _ _ hp, callO_val, Held.cve, gi_z, gi_s, bne_dec, iteB_eq]
  by_cases he : (stayOf p y k).2 = 0
  · obtain ⟨hok, hk, hm, hs, _⟩ := stayOf_ok he
    have hk' := hk
    simp only [isDay, within, Bool.and_eq_true, decide_eq_true_eq] at hk'
    obtain ⟨h1, h2, _⟩ := lot_day p (stayOf p y k).1 k (by omega)
    simp [he, duesOf, hok, hs, hk, h1, (by omega : (lot p (stayOf p y k).1 k).day ≤ 100000)]
  · simp [he, duesOf]
end Go.Proofs.Ytabhbdehbpmpkaa
namespace Go.Proofs.Ytabhbdehbpmpkaa
open Go Go.Sx Go.Fine
set_option maxRecDepth 10000
attribute [local simp] Bool.and_assoc Bool.or_assoc
theorem v_Noted_c1 (M : Den) (z x : Note) : callV sg M (.fn n_fine_Noted_c1 []) [ci z.src, ci z.stay, ci z.kind, ci z.owner, ci z.day, ci z.known, ci z.til, ci x.src, ci x.stay, ci x.kind, ci x.owner, ci x.day, ci x.known, ci x.til] [.agg [li, li, li, li, li, li, li], .agg [li, li, li, li, li, li, li]] [.one li] = M n_fine_Noted_c1 [ci z.src, ci z.stay, ci z.kind, ci z.owner, ci z.day, ci z.known, ci z.til, ci x.src, ci x.stay, ci x.kind, ci x.owner, ci x.day, ci x.known, ci x.til] := rfl
@[simp] theorem w_Noted_c1 (n : Nat) (z x : Note) : D (n + 3) n_fine_Noted_c1 [ci z.src, ci z.stay, ci z.kind, ci z.owner, ci z.day, ci z.known, ci z.til, ci x.src, ci x.stay, ci x.kind, ci x.owner, ci x.day, ci x.known, ci x.til] = some [ci (if z.src < x.src then -1 else if z.src > x.src then 1 else 0)] := by
  rw [q_fine_Noted_c1]; simp [R_fine_Noted_c1]
theorem half (a b : Nat) (h : a + b < 1000) : wr (Int.fdiv (IntKind.wrap .u64 (wr ((a : Int) + (b : Int)))) 2) = ((a + b) / 2 : Nat) := by
  have e1 : wr ((a : Int) + b) = ((a + b : Nat) : Int) := by rw [wr_of] <;> omega
  have e2 : IntKind.wrap .u64 ((a + b : Nat) : Int) = ((a + b : Nat) : Int) := by rw [IntKind.wrap_u64]; omega
  rw [e1, e2, Int.fdiv_eq_ediv_of_nonneg _ (by omega), wr_of] <;> omega
theorem acc_lt {p : Acc} (hp : p.ok = true) : ∀ (j i : Nat) (hj : j < p.ns.length) (hi : i < j), p.ns[i].src < p.ns[j].src := by
  simp only [Acc.ok, listOk, Bool.and_eq_true] at hp
  have h1 := rising_iff.1 hp.2.1.2
  intro j i hj hi
  have := rising_lt (l := p.ns.map Note.src) h1 j i (by simpa using hj) hi
  simpa using this
theorem w_BSF (n : Nat) (p : Acc) (x : Note) (hp : p.ok = true) : D (n + 4) n_slices_BinarySearchFunc_Note [.row 7 (p.ns.map Note.cv), ci x.src, ci x.stay, ci x.kind, ci x.owner, ci x.day, ci x.known, ci x.til, .fn n_fine_Noted_c1 []] = some [ci (posN p.ns x.src), cb (p.ns.any fun z => decide (z.src = x.src))] := by
  rw [q_slices_BinarySearchFunc_Note]
  unfold R_slices_BinarySearchFunc_Note
  obtain ⟨_, _, hlen⟩ := p.ok_len hp
  have hlt := acc_lt hp
  obtain ⟨hpos, hiff⟩ := posN_spec hlt x.src
  generalize hst : (fun (v0 : List CV) => _) = step
  have hstep : ∀ (a b : Nat), a < b → b ≤ p.ns.length → step [ci a, ci b] = some (.nx (if ((a + b) / 2 : Nat) < posN p.ns x.src then [ci (((a + b) / 2 + 1 : Nat) : Int), ci b] else [ci a, ci (((a + b) / 2 : Nat) : Int)])) := by
    intro a b h1 h2
    have hh := half a b (by omega)
    obtain ⟨m, hm⟩ : ∃ m, m = (a + b) / 2 := ⟨_, rfl⟩
    have hml : m < p.ns.length := by omega
    have hmm := hiff m hml
    have hw := wr_nat (show m < 9223372036854775807 by omega)
    rw [← hst]
    simp only [gi_z, gi_s, hh, ← hm, show (a : Int) < b by omega, decide_true, iteB_eq, if_true, inb_map hml, el_map hml, chk_true]
    by_cases hc : p.ns[m].src < x.src
    · rw [if_pos (hmm.1 hc)]
      simp [Note.cv, v_Noted_c1, hc, hw]
    · rw [if_neg (fun h => hc (hmm.2 h))]
      by_cases hd : p.ns[m].src > x.src <;> simp [Note.cv, v_Noted_c1, hc, hd]
  have hend : ∀ (a : Nat), step [ci a, ci a] = some (.br 0 [ci a]) := by
    intro a; rw [← hst]; simp
  have key : ∀ (m a b : Nat), b - a = m → a ≤ posN p.ns x.src → posN p.ns x.src ≤ b → b ≤ p.ns.length → loopD step [ci a, ci b] = some (.br 0 [ci (posN p.ns x.src)]) := by
    intro m
    induction m using Nat.strongRecOn with
    | _ m ih =>
      intro a b h1 h2 h3 h4
      by_cases e : a = b
      · subst e
        rw [loop_end (hend a) (by simp), show posN p.ns x.src = a by omega]
      · rw [loop_eq (hstep a b (by omega) h4)]
        split
        · exact ih _ (by omega) _ _ rfl (by omega) h3 h4
        · exact ih _ (by omega) _ _ rfl h2 (by omega) (by omega)
  have hrun := key _ 0 p.ns.length rfl (by omega) hpos (by omega)
  rw [show ([ci 0, ci (il (p.ns.map Note.cv))] : List CV) = [ci ((0 : Nat) : Int), ci p.ns.length] by simp, hrun]
  generalize hi : posN p.ns x.src = i0 at *
  by_cases hlt' : i0 < p.ns.length
  · have hn : ¬ p.ns[i0].src < x.src := fun h => by have := (hiff i0 hlt').1 h; omega
    have hany : (p.ns.any fun z => decide (z.src = x.src)) = decide (p.ns[i0].src = x.src) := by
      rw [Bool.eq_iff_iff, List.any_eq_true]
      constructor
      · rintro ⟨z, hz, he⟩
        obtain ⟨j, hj, rfl⟩ := List.mem_iff_getElem.1 hz
        simp only [decide_eq_true_eq] at he ⊢
        have h5 : ¬ j < i0 := fun h => by have := (hiff j hj).2 h; omega
        by_cases h6 : j = i0
        · subst h6; exact he
        · have := hlt j i0 hj (by omega); omega
      · intro he; exact ⟨_, List.getElem_mem hlt', he⟩
    rw [hany]
    by_cases hd : p.ns[i0].src > x.src
    · simp [hlt', inb_map, el_map, Note.cv, v_Noted_c1, hn, hd, show ¬ p.ns[i0].src = x.src by omega]
    · have he : p.ns[i0].src = x.src := by omega
      simp [hlt', inb_map, el_map, Note.cv, v_Noted_c1, hn, hd]; simp [he]
  · have hany : (p.ns.any fun z => decide (z.src = x.src)) = false := by
      rw [Bool.eq_false_iff]; intro h
      obtain ⟨z, hz, he⟩ := List.any_eq_true.1 h
      obtain ⟨j, hj, rfl⟩ := List.mem_iff_getElem.1 hz
      simp only [decide_eq_true_eq] at he
      have := (hiff j hj).2 (by omega); omega
    simp [hlt', hany]
@[simp] theorem w_Clone_T (n : Nat) (l : List Tariff) (h : l.length ≤ 1000) : D (n + 1) n_slices_Clone_Tariff [.row 24 (l.map Tariff.cv)] = some [.row 24 (l.map Tariff.cv)] := by
  rw [q_slices_Clone_Tariff]
  unfold R_slices_Clone_Tariff
  rw [clone_row _ _ _ _ (by omega) (by omega)]; rfl
@[simp] theorem w_Clone_H (n : Nat) (l : List Held) (h : l.length ≤ 1000) : D (n + 1) n_slices_Clone_Held [.row 9 (l.map Held.cv)] = some [.row 9 (l.map Held.cv)] := by
  rw [q_slices_Clone_Held]
  unfold R_slices_Clone_Held
  rw [clone_row _ _ _ _ (by omega) (by omega)]; rfl
@[simp] theorem w_Clone_N (n : Nat) (l : List Note) (h : l.length ≤ 1000) : D (n + 1) n_slices_Clone_Note [.row 7 (l.map Note.cv)] = some [.row 7 (l.map Note.cv), .fn 34 []] := D_clone n _ (fitA_of (by simp; omega) (by simp; omega))
@[simp] theorem w_Noted (n : Nat) (p : Acc) (x : Note) (hp : p.fits) : D (n + 9) n_fine_Noted [.row 24 (p.ts.map Tariff.cv), .row 9 (p.ss.map Held.cv), .row 7 (p.ns.map Note.cv), ci x.src, ci x.stay, ci x.kind, ci x.owner, ci x.day, ci x.known, ci x.til] = some [.row 24 ((noted p x).1.ts.map Tariff.cv), .row 9 ((noted p x).1.ss.map Held.cv), .row 7 ((noted p x).1.ns.map Note.cv), ci (noted p x).2] := by
  rw [q_fine_Noted]
  simp only [R_fine_Noted, w_Check _ _ hp, callO_val, gi_z, bne_dec, iteB_eq, check]
  cases hok : p.ok with
  | false => simp [noted, hok, Acc.none]
  | true =>
    obtain ⟨l1, l2, l3⟩ := p.ok_len hok
    have hpos := (posN_spec (acc_lt hok) x.src).1
    have hb := w_BSF (n + 4) p x hok
    simp only [if_true, decide_true, Bool.not_true, Bool.false_eq_true, if_false, hb, callO_val]
    cases hx : x.ok with
    | false => simp [noted, hok, hx, Acc.none]
    | true =>
      cases hy : p.ns.any fun z => decide (z.src = x.src) with
      | true => simp [noted, hok, hx, hy, Acc.none]
      | false =>
        by_cases h60 : p.ns.length = 60
        · simp [noted, hok, hx, hy, h60, Acc.none]
        · have hf : fitA p.ns.length 1 56 = true := fitA_of (by omega) (by omega)
          have h60' : ¬ ((p.ns.length : Int) = 60) := by omega
          have l1' : p.ts.length ≤ 1000 := by omega
          have l2' : p.ss.length ≤ 1000 := by omega
          have l3' : p.ns.length ≤ 1000 := by omega
          have hpos' : ((posN p.ns x.src : Nat) : Int) ≤ p.ns.length := by omega
          simp [noted, hok, hx, hy, h60, h60', l1', l2', l3', ownR, insR, D_ins, hf, hpos, List.map_take, List.map_drop, Note.cv]
end Go.Proofs.Ytabhbdehbpmpkaa
namespace Go.Proofs.Ytabhbdehbpmpkaa
open Go Go.Sx Go.Fine
set_option maxRecDepth 10000
attribute [local simp] Bool.and_assoc Bool.or_assoc
def eqP (a b : Post) : Bool := decide (a.day = b.day) && (decide (a.stay = b.stay) && (decide (a.frm = b.frm) && (decide (a.to = b.to) && decide (a.amt = b.amt))))
def eqT (a b : Tariff) : Bool := decide (a.frm = b.frm) && (decide (a.h0 = b.h0) && (decide (a.h1 = b.h1) && (decide (a.h2 = b.h2) && (decide (a.h3 = b.h3) && (decide (a.h4 = b.h4) && (decide (a.h5 = b.h5) && (decide (a.h6 = b.h6) && (decide (a.h7 = b.h7) && (decide (a.h8 = b.h8) && (decide (a.h9 = b.h9) && (decide (a.d0 = b.d0) && (decide (a.d1 = b.d1) && (decide (a.d2 = b.d2) && (decide (a.d3 = b.d3) && (decide (a.d4 = b.d4) && (decide (a.d5 = b.d5) && (decide (a.d6 = b.d6) && (decide (a.d7 = b.d7) && (decide (a.d8 = b.d8) && (decide (a.d9 = b.d9) && (decide (a.feed = b.feed) && (decide (a.hay = b.hay) && (decide (a.drv = b.drv))))))))))))))))))))))))
theorem eqP_refl (a : Post) : eqP a a = true := by simp [eqP]
theorem w_Same (n : Nat) (a b : List Post) (ha : a.length < 9223372036854775807) : D (n + 1) n_r06_Same [.row 5 (a.map Post.cv), .row 5 (b.map Post.cv)] = some [cb (sameL eqP a b)] := by
  rw [q_r06_Same]
  unfold R_r06_Same
  rw [loop_all a.length (decide (a.length = b.length)) (atB eqP a b) 0 ?hv (fun h i hi => ?hs) (fun i => ?hf) (fun h => ?he)]
  case hv =>
    have e : ((a.length : Int) = b.length) = (a.length = b.length) := by apply propext; omega
    simp [e]
  case hf => simp
  case he => simp
  case hs =>
    have hi' : i < b.length := by simp at h; omega
    have hw := wr_nat (show i < 9223372036854775807 by omega)
    simp [hi, hi', inb_map, el_map, Post.cv, hw, atB, eqP]
  · rw [sameL_all]; simp
theorem w_Equal (n : Nat) (a b : List Post) (ha : a.length < 9223372036854775807) : D (n + 1) n_slices_Equal_Posting [.row 5 (a.map Post.cv), .row 5 (b.map Post.cv)] = some [cb (sameL eqP a b)] := by
  rw [q_slices_Equal_Posting]
  unfold R_slices_Equal_Posting
  rw [sameL_all]
  by_cases hl : a.length = b.length
  · have hl' : ((a.length : Int) = b.length) := by omega
    simp only [il_map, bne_dec, hl', decide_true, Bool.not_true, iteB_eq, Bool.false_eq_true, if_false]
    rw [loop_find a.length (fun i => [ci (i : Int)]) (fun i => !atB eqP a b i) (fun _ => some (.ret [cb false])) (some (.br 0 [])) ?hv ?hR ?hX (fun i hi hp => ?h1) (fun i hi hp => ?h2) ?h3]
    case hv => rfl
    case hR => simp
    case hX => simp
    case h3 => simp [hl]
    case h1 =>
      have hi' : i < b.length := by omega
      have hw := wr_nat (show i < 9223372036854775807 by omega)
      simp [atB, hi, hi', eqP] at hp
      have hi2 : (i : Int) < b.length := by omega
      simp [hi, hi', hi2, inb_map, el_map, Post.cv, hw, hp]
    case h2 =>
      have hi' : i < b.length := by omega
      simp [atB, hi, hi', eqP] at hp
      have hi2 : (i : Int) < b.length := by omega
      simp [hi, hi', hi2, inb_map, el_map, Post.cv]
      grind
    · have key : ((List.range a.length).find? (fun i => !atB eqP a b i)).isNone = (List.range a.length).all (atB eqP a b) := by
        rw [Bool.eq_iff_iff, Option.isNone_iff_eq_none, List.find?_eq_none, List.all_eq_true]; simp
      rw [← key]
      cases (List.range a.length).find? (fun i => !atB eqP a b i) <;> simp [hl]
  · have hl' : ¬ ((a.length : Int) = b.length) := by omega
    simp [hl, hl']
end Go.Proofs.Ytabhbdehbpmpkaa
namespace Go.Proofs.Ytabhbdehbpmpkaa
open Go Go.Sx Go.Fine
set_option maxRecDepth 10000
attribute [local simp] Bool.and_assoc Bool.or_assoc
noncomputable section
def paidX (M : Den) (a0_0 a0_1 a0_2 : List (List CV)) (sc : List CV) (day : Int) : Option Ou := (callO (M n_fine_counts [ci (gi sc 7), ci (gi sc 8), ci day]) fun v2 =>
                      iteB (!(gb v2 0))
                        (some (.ret ([CV.row 3 []])))
                        (callO (M n_fine_due (cat [[CV.row 24 a0_0, CV.row 9 a0_1, CV.row 7 a0_2], cis sc 0 9, [ci day]])) fun v3 =>
                        iteB ((gi v3 0) == (-1))
                          (some (.ret ([CV.row 3 []])))
                          (chk (okEs [(.int .i64), (.int .i64)] (.int .i64) (entM 2 [ci (gi v3 0), ci 1] (.int .i64 0) (List.set (entM 2 [ci (gi v3 0), ci 0] (.int .i64 0) []) 0 [ci (gi v3 0), ci 0, ci (wr (0 + (gi v3 3)))]))) <|
                          chk ((decide (0 ≤ (Int.ofNat (posM 2 [ci (gi v3 0), ci 1] (List.set (entM 2 [ci (gi v3 0), ci 0] (.int .i64 0) []) 0 [ci (gi v3 0), ci 0, ci (wr (0 + (gi v3 3)))]))))) && (decide ((Int.toNat (Int.ofNat (posM 2 [ci (gi v3 0), ci 1] (List.set (entM 2 [ci (gi v3 0), ci 0] (.int .i64 0) []) 0 [ci (gi v3 0), ci 0, ci (wr (0 + (gi v3 3)))])))) < (List.length (entM 2 [ci (gi v3 0), ci 1] (.int .i64 0) (List.set (entM 2 [ci (gi v3 0), ci 0] (.int .i64 0) []) 0 [ci (gi v3 0), ci 0, ci (wr (0 + (gi v3 3)))])))))) <|
                          seqO (iteB ((gi sc 5) != 0)
                              (chk (okEs [(.int .i64), (.int .i64)] (.int .i64) (List.set (entM 2 [ci (gi v3 0), ci 1] (.int .i64 0) (List.set (entM 2 [ci (gi v3 0), ci 0] (.int .i64 0) []) 0 [ci (gi v3 0), ci 0, ci (wr (0 + (gi v3 3)))])) (Int.toNat (Int.ofNat (posM 2 [ci (gi v3 0), ci 1] (List.set (entM 2 [ci (gi v3 0), ci 0] (.int .i64 0) []) 0 [ci (gi v3 0), ci 0, ci (wr (0 + (gi v3 3)))])))) ((List.take 2 (el (entM 2 [ci (gi v3 0), ci 1] (.int .i64 0) (List.set (entM 2 [ci (gi v3 0), ci 0] (.int .i64 0) []) 0 [ci (gi v3 0), ci 0, ci (wr (0 + (gi v3 3)))])) (Int.ofNat (posM 2 [ci (gi v3 0), ci 1] (List.set (entM 2 [ci (gi v3 0), ci 0] (.int .i64 0) []) 0 [ci (gi v3 0), ci 0, ci (wr (0 + (gi v3 3)))]))))) ++ ([ci (wr ((cI (lookM 2 [ci (gi v3 0), ci 1] (.int .i64 0) (List.set (entM 2 [ci (gi v3 0), ci 0] (.int .i64 0) []) 0 [ci (gi v3 0), ci 0, ci (wr (0 + (gi v3 3)))]))) + (gi v3 1)))])))) <|
                              chk (okEs [(.int .i64), (.int .i64)] (.int .i64) (List.set (entM 2 [ci (gi v3 0), ci 1] (.int .i64 0) (List.set (entM 2 [ci (gi v3 0), ci 0] (.int .i64 0) []) 0 [ci (gi v3 0), ci 0, ci (wr (0 + (gi v3 3)))])) (Int.toNat (Int.ofNat (posM 2 [ci (gi v3 0), ci 1] (List.set (entM 2 [ci (gi v3 0), ci 0] (.int .i64 0) []) 0 [ci (gi v3 0), ci 0, ci (wr (0 + (gi v3 3)))])))) ((List.take 2 (el (entM 2 [ci (gi v3 0), ci 1] (.int .i64 0) (List.set (entM 2 [ci (gi v3 0), ci 0] (.int .i64 0) []) 0 [ci (gi v3 0), ci 0, ci (wr (0 + (gi v3 3)))])) (Int.ofNat (posM 2 [ci (gi v3 0), ci 1] (List.set (entM 2 [ci (gi v3 0), ci 0] (.int .i64 0) []) 0 [ci (gi v3 0), ci 0, ci (wr (0 + (gi v3 3)))]))))) ++ ([ci (wr ((cI (lookM 2 [ci (gi v3 0), ci 1] (.int .i64 0) (List.set (entM 2 [ci (gi v3 0), ci 0] (.int .i64 0) []) 0 [ci (gi v3 0), ci 0, ci (wr (0 + (gi v3 3)))]))) + (gi v3 1)))])))) <|
                              chk (okEs [(.int .i64), (.int .i64)] (.int .i64) (entM 2 [ci (gi v3 0), ci (wr (2 + (gi sc 5)))] (.int .i64 0) (List.set (entM 2 [ci (gi v3 0), ci 1] (.int .i64 0) (List.set (entM 2 [ci (gi v3 0), ci 0] (.int .i64 0) []) 0 [ci (gi v3 0), ci 0, ci (wr (0 + (gi v3 3)))])) (Int.toNat (Int.ofNat (posM 2 [ci (gi v3 0), ci 1] (List.set (entM 2 [ci (gi v3 0), ci 0] (.int .i64 0) []) 0 [ci (gi v3 0), ci 0, ci (wr (0 + (gi v3 3)))])))) ((List.take 2 (el (entM 2 [ci (gi v3 0), ci 1] (.int .i64 0) (List.set (entM 2 [ci (gi v3 0), ci 0] (.int .i64 0) []) 0 [ci (gi v3 0), ci 0, ci (wr (0 + (gi v3 3)))])) (Int.ofNat (posM 2 [ci (gi v3 0), ci 1] (List.set (entM 2 [ci (gi v3 0), ci 0] (.int .i64 0) []) 0 [ci (gi v3 0), ci 0, ci (wr (0 + (gi v3 3)))]))))) ++ ([ci (wr ((cI (lookM 2 [ci (gi v3 0), ci 1] (.int .i64 0) (List.set (entM 2 [ci (gi v3 0), ci 0] (.int .i64 0) []) 0 [ci (gi v3 0), ci 0, ci (wr (0 + (gi v3 3)))]))) + (gi v3 1)))]))))) <|
                              chk ((decide (0 ≤ (Int.ofNat (posM 2 [ci (gi v3 0), ci (wr (2 + (gi sc 5)))] (List.set (entM 2 [ci (gi v3 0), ci 1] (.int .i64 0) (List.set (entM 2 [ci (gi v3 0), ci 0] (.int .i64 0) []) 0 [ci (gi v3 0), ci 0, ci (wr (0 + (gi v3 3)))])) (Int.toNat (Int.ofNat (posM 2 [ci (gi v3 0), ci 1] (List.set (entM 2 [ci (gi v3 0), ci 0] (.int .i64 0) []) 0 [ci (gi v3 0), ci 0, ci (wr (0 + (gi v3 3)))])))) ((List.take 2 (el (entM 2 [ci (gi v3 0), ci 1] (.int .i64 0) (List.set (entM 2 [ci (gi v3 0), ci 0] (.int .i64 0) []) 0 [ci (gi v3 0), ci 0, ci (wr (0 + (gi v3 3)))])) (Int.ofNat (posM 2 [ci (gi v3 0), ci 1] (List.set (entM 2 [ci (gi v3 0), ci 0] (.int .i64 0) []) 0 [ci (gi v3 0), ci 0, ci (wr (0 + (gi v3 3)))]))))) ++ ([ci (wr ((cI (lookM 2 [ci (gi v3 0), ci 1] (.int .i64 0) (List.set (entM 2 [ci (gi v3 0), ci 0] (.int .i64 0) []) 0 [ci (gi v3 0), ci 0, ci (wr (0 + (gi v3 3)))]))) + (gi v3 1)))]))))))) && (decide ((Int.toNat (Int.ofNat (posM 2 [ci (gi v3 0), ci (wr (2 + (gi sc 5)))] (List.set (entM 2 [ci (gi v3 0), ci 1] (.int .i64 0) (List.set (entM 2 [ci (gi v3 0), ci 0] (.int .i64 0) []) 0 [ci (gi v3 0), ci 0, ci (wr (0 + (gi v3 3)))])) (Int.toNat (Int.ofNat (posM 2 [ci (gi v3 0), ci 1] (List.set (entM 2 [ci (gi v3 0), ci 0] (.int .i64 0) []) 0 [ci (gi v3 0), ci 0, ci (wr (0 + (gi v3 3)))])))) ((List.take 2 (el (entM 2 [ci (gi v3 0), ci 1] (.int .i64 0) (List.set (entM 2 [ci (gi v3 0), ci 0] (.int .i64 0) []) 0 [ci (gi v3 0), ci 0, ci (wr (0 + (gi v3 3)))])) (Int.ofNat (posM 2 [ci (gi v3 0), ci 1] (List.set (entM 2 [ci (gi v3 0), ci 0] (.int .i64 0) []) 0 [ci (gi v3 0), ci 0, ci (wr (0 + (gi v3 3)))]))))) ++ ([ci (wr ((cI (lookM 2 [ci (gi v3 0), ci 1] (.int .i64 0) (List.set (entM 2 [ci (gi v3 0), ci 0] (.int .i64 0) []) 0 [ci (gi v3 0), ci 0, ci (wr (0 + (gi v3 3)))]))) + (gi v3 1)))])))))) < (List.length (entM 2 [ci (gi v3 0), ci (wr (2 + (gi sc 5)))] (.int .i64 0) (List.set (entM 2 [ci (gi v3 0), ci 1] (.int .i64 0) (List.set (entM 2 [ci (gi v3 0), ci 0] (.int .i64 0) []) 0 [ci (gi v3 0), ci 0, ci (wr (0 + (gi v3 3)))])) (Int.toNat (Int.ofNat (posM 2 [ci (gi v3 0), ci 1] (List.set (entM 2 [ci (gi v3 0), ci 0] (.int .i64 0) []) 0 [ci (gi v3 0), ci 0, ci (wr (0 + (gi v3 3)))])))) ((List.take 2 (el (entM 2 [ci (gi v3 0), ci 1] (.int .i64 0) (List.set (entM 2 [ci (gi v3 0), ci 0] (.int .i64 0) []) 0 [ci (gi v3 0), ci 0, ci (wr (0 + (gi v3 3)))])) (Int.ofNat (posM 2 [ci (gi v3 0), ci 1] (List.set (entM 2 [ci (gi v3 0), ci 0] (.int .i64 0) []) 0 [ci (gi v3 0), ci 0, ci (wr (0 + (gi v3 3)))]))))) ++ ([ci (wr ((cI (lookM 2 [ci (gi v3 0), ci 1] (.int .i64 0) (List.set (entM 2 [ci (gi v3 0), ci 0] (.int .i64 0) []) 0 [ci (gi v3 0), ci 0, ci (wr (0 + (gi v3 3)))]))) + (gi v3 1)))])))))))) <|
                              some (.nx ([CV.row 3 (List.set (entM 2 [ci (gi v3 0), ci (wr (2 + (gi sc 5)))] (.int .i64 0) (List.set (entM 2 [ci (gi v3 0), ci 1] (.int .i64 0) (List.set (entM 2 [ci (gi v3 0), ci 0] (.int .i64 0) []) 0 [ci (gi v3 0), ci 0, ci (wr (0 + (gi v3 3)))])) (Int.toNat (Int.ofNat (posM 2 [ci (gi v3 0), ci 1] (List.set (entM 2 [ci (gi v3 0), ci 0] (.int .i64 0) []) 0 [ci (gi v3 0), ci 0, ci (wr (0 + (gi v3 3)))])))) ((List.take 2 (el (entM 2 [ci (gi v3 0), ci 1] (.int .i64 0) (List.set (entM 2 [ci (gi v3 0), ci 0] (.int .i64 0) []) 0 [ci (gi v3 0), ci 0, ci (wr (0 + (gi v3 3)))])) (Int.ofNat (posM 2 [ci (gi v3 0), ci 1] (List.set (entM 2 [ci (gi v3 0), ci 0] (.int .i64 0) []) 0 [ci (gi v3 0), ci 0, ci (wr (0 + (gi v3 3)))]))))) ++ ([ci (wr ((cI (lookM 2 [ci (gi v3 0), ci 1] (.int .i64 0) (List.set (entM 2 [ci (gi v3 0), ci 0] (.int .i64 0) []) 0 [ci (gi v3 0), ci 0, ci (wr (0 + (gi v3 3)))]))) + (gi v3 1)))])))) (Int.toNat (Int.ofNat (posM 2 [ci (gi v3 0), ci (wr (2 + (gi sc 5)))] (List.set (entM 2 [ci (gi v3 0), ci 1] (.int .i64 0) (List.set (entM 2 [ci (gi v3 0), ci 0] (.int .i64 0) []) 0 [ci (gi v3 0), ci 0, ci (wr (0 + (gi v3 3)))])) (Int.toNat (Int.ofNat (posM 2 [ci (gi v3 0), ci 1] (List.set (entM 2 [ci (gi v3 0), ci 0] (.int .i64 0) []) 0 [ci (gi v3 0), ci 0, ci (wr (0 + (gi v3 3)))])))) ((List.take 2 (el (entM 2 [ci (gi v3 0), ci 1] (.int .i64 0) (List.set (entM 2 [ci (gi v3 0), ci 0] (.int .i64 0) []) 0 [ci (gi v3 0), ci 0, ci (wr (0 + (gi v3 3)))])) (Int.ofNat (posM 2 [ci (gi v3 0), ci 1] (List.set (entM 2 [ci (gi v3 0), ci 0] (.int .i64 0) []) 0 [ci (gi v3 0), ci 0, ci (wr (0 + (gi v3 3)))]))))) ++ ([ci (wr ((cI (lookM 2 [ci (gi v3 0), ci 1] (.int .i64 0) (List.set (entM 2 [ci (gi v3 0), ci 0] (.int .i64 0) []) 0 [ci (gi v3 0), ci 0, ci (wr (0 + (gi v3 3)))]))) + (gi v3 1)))])))))) ((List.take 2 (el (entM 2 [ci (gi v3 0), ci (wr (2 + (gi sc 5)))] (.int .i64 0) (List.set (entM 2 [ci (gi v3 0), ci 1] (.int .i64 0) (List.set (entM 2 [ci (gi v3 0), ci 0] (.int .i64 0) []) 0 [ci (gi v3 0), ci 0, ci (wr (0 + (gi v3 3)))])) (Int.toNat (Int.ofNat (posM 2 [ci (gi v3 0), ci 1] (List.set (entM 2 [ci (gi v3 0), ci 0] (.int .i64 0) []) 0 [ci (gi v3 0), ci 0, ci (wr (0 + (gi v3 3)))])))) ((List.take 2 (el (entM 2 [ci (gi v3 0), ci 1] (.int .i64 0) (List.set (entM 2 [ci (gi v3 0), ci 0] (.int .i64 0) []) 0 [ci (gi v3 0), ci 0, ci (wr (0 + (gi v3 3)))])) (Int.ofNat (posM 2 [ci (gi v3 0), ci 1] (List.set (entM 2 [ci (gi v3 0), ci 0] (.int .i64 0) []) 0 [ci (gi v3 0), ci 0, ci (wr (0 + (gi v3 3)))]))))) ++ ([ci (wr ((cI (lookM 2 [ci (gi v3 0), ci 1] (.int .i64 0) (List.set (entM 2 [ci (gi v3 0), ci 0] (.int .i64 0) []) 0 [ci (gi v3 0), ci 0, ci (wr (0 + (gi v3 3)))]))) + (gi v3 1)))])))) (Int.ofNat (posM 2 [ci (gi v3 0), ci (wr (2 + (gi sc 5)))] (List.set (entM 2 [ci (gi v3 0), ci 1] (.int .i64 0) (List.set (entM 2 [ci (gi v3 0), ci 0] (.int .i64 0) []) 0 [ci (gi v3 0), ci 0, ci (wr (0 + (gi v3 3)))])) (Int.toNat (Int.ofNat (posM 2 [ci (gi v3 0), ci 1] (List.set (entM 2 [ci (gi v3 0), ci 0] (.int .i64 0) []) 0 [ci (gi v3 0), ci 0, ci (wr (0 + (gi v3 3)))])))) ((List.take 2 (el (entM 2 [ci (gi v3 0), ci 1] (.int .i64 0) (List.set (entM 2 [ci (gi v3 0), ci 0] (.int .i64 0) []) 0 [ci (gi v3 0), ci 0, ci (wr (0 + (gi v3 3)))])) (Int.ofNat (posM 2 [ci (gi v3 0), ci 1] (List.set (entM 2 [ci (gi v3 0), ci 0] (.int .i64 0) []) 0 [ci (gi v3 0), ci 0, ci (wr (0 + (gi v3 3)))]))))) ++ ([ci (wr ((cI (lookM 2 [ci (gi v3 0), ci 1] (.int .i64 0) (List.set (entM 2 [ci (gi v3 0), ci 0] (.int .i64 0) []) 0 [ci (gi v3 0), ci 0, ci (wr (0 + (gi v3 3)))]))) + (gi v3 1)))]))))))) ++ ([ci (wr ((cI (lookM 2 [ci (gi v3 0), ci (wr (2 + (gi sc 5)))] (.int .i64 0) (List.set (entM 2 [ci (gi v3 0), ci 1] (.int .i64 0) (List.set (entM 2 [ci (gi v3 0), ci 0] (.int .i64 0) []) 0 [ci (gi v3 0), ci 0, ci (wr (0 + (gi v3 3)))])) (Int.toNat (Int.ofNat (posM 2 [ci (gi v3 0), ci 1] (List.set (entM 2 [ci (gi v3 0), ci 0] (.int .i64 0) []) 0 [ci (gi v3 0), ci 0, ci (wr (0 + (gi v3 3)))])))) ((List.take 2 (el (entM 2 [ci (gi v3 0), ci 1] (.int .i64 0) (List.set (entM 2 [ci (gi v3 0), ci 0] (.int .i64 0) []) 0 [ci (gi v3 0), ci 0, ci (wr (0 + (gi v3 3)))])) (Int.ofNat (posM 2 [ci (gi v3 0), ci 1] (List.set (entM 2 [ci (gi v3 0), ci 0] (.int .i64 0) []) 0 [ci (gi v3 0), ci 0, ci (wr (0 + (gi v3 3)))]))))) ++ ([ci (wr ((cI (lookM 2 [ci (gi v3 0), ci 1] (.int .i64 0) (List.set (entM 2 [ci (gi v3 0), ci 0] (.int .i64 0) []) 0 [ci (gi v3 0), ci 0, ci (wr (0 + (gi v3 3)))]))) + (gi v3 1)))]))))) + (gi v3 2)))])))])))
                              (some (.nx ([CV.row 3 (List.set (entM 2 [ci (gi v3 0), ci 1] (.int .i64 0) (List.set (entM 2 [ci (gi v3 0), ci 0] (.int .i64 0) []) 0 [ci (gi v3 0), ci 0, ci (wr (0 + (gi v3 3)))])) (Int.toNat (Int.ofNat (posM 2 [ci (gi v3 0), ci 1] (List.set (entM 2 [ci (gi v3 0), ci 0] (.int .i64 0) []) 0 [ci (gi v3 0), ci 0, ci (wr (0 + (gi v3 3)))])))) ((List.take 2 (el (entM 2 [ci (gi v3 0), ci 1] (.int .i64 0) (List.set (entM 2 [ci (gi v3 0), ci 0] (.int .i64 0) []) 0 [ci (gi v3 0), ci 0, ci (wr (0 + (gi v3 3)))])) (Int.ofNat (posM 2 [ci (gi v3 0), ci 1] (List.set (entM 2 [ci (gi v3 0), ci 0] (.int .i64 0) []) 0 [ci (gi v3 0), ci 0, ci (wr (0 + (gi v3 3)))]))))) ++ ([ci (wr ((cI (lookM 2 [ci (gi v3 0), ci 1] (.int .i64 0) (List.set (entM 2 [ci (gi v3 0), ci 0] (.int .i64 0) []) 0 [ci (gi v3 0), ci 0, ci (wr (0 + (gi v3 3)))]))) + (gi v3 1)))])))])))) fun v4 =>
                          some (.ret [CV.row 3 (gr v4 0)]))))
def recX1 (rc m1 : List (List CV)) (day src : Int) (out : List (List CV)) : Option Ou := (loopD (fun v4 =>
                          iteB (decide ((gi v4 0) < (il rc)))
                            (chk (inb (gi v4 0) rc) <|
                            chk (decide ((Int.toNat (gi v4 0)) < (List.length rc))) <|
                            chk (oks [li] (el rc (gi v4 0)) 0) <|
                            blkO 6 (loopD (fun v5 =>
                                iteB (decide ((gi v5 0) ≤ 101))
                                  (chk (okEs [(.int .i64), (.int .i64)] (.int .i64) m1) <|
                                  seqO (iteB ((wr ((cI (lookM 2 [ci (gi v5 0), ci (gi (el rc (gi v4 0)) 0)] (.int .i64 0) m1)) - 0)) != 0)
                                      (some (.nx [cb ((gi v5 0) != (gi (el rc (gi v4 0)) 0))]))
                                      (some (.nx [cb false]))) fun v6 =>
                                  seqO (iteB (gb v6 0)
                                      (chk (fitA (List.length (gr v5 1)) 1 40) <|
                                      some (.nx ([CV.row 5 ((gr v5 1) ++ (chunk 5 1 ([ci day, ci src, ci (gi v5 0), ci (gi (el rc (gi v4 0)) 0), ci (wr ((cI (lookM 2 [ci (gi v5 0), ci (gi (el rc (gi v4 0)) 0)] (.int .i64 0) m1)) - 0))])))])))
                                      (some (.nx [CV.row 5 (gr v5 1)]))) fun v7 =>
                                  some (.nx [ci (wr ((gi v5 0) + 1)), CV.row 5 (gr v7 0)]))
                                  (some (.br 6 [CV.row 5 (gr v5 1)]))) [ci 2, CV.row 5 (gr v4 1)]) fun v5 =>
                            some (.nx [ci (wr ((gi v4 0) + 1)), CV.row 5 (gr v5 0)]))
                            (some (.br 4 [CV.row 5 (gr v4 1)]))) [ci 0, CV.row 5 out])
def recX2 (rc m1 m2 : List (List CV)) (day src : Int) (out : List (List CV)) : Option Ou := (loopD (fun v5 =>
                          iteB (decide ((gi v5 0) < (il rc)))
                            (chk (inb (gi v5 0) rc) <|
                            chk (decide ((Int.toNat (gi v5 0)) < (List.length rc))) <|
                            chk (oks [li] (el rc (gi v5 0)) 0) <|
                            blkO 6 (loopD (fun v6 =>
                                iteB (decide ((gi v6 0) ≤ 101))
                                  (chk (okEs [(.int .i64), (.int .i64)] (.int .i64) m1) <|
                                  chk (okEs [(.int .i64), (.int .i64)] (.int .i64) m2) <|
                                  seqO (iteB ((wr ((cI (lookM 2 [ci (gi v6 0), ci (gi (el rc (gi v5 0)) 0)] (.int .i64 0) m1)) - (cI (lookM 2 [ci (gi v6 0), ci (gi (el rc (gi v5 0)) 0)] (.int .i64 0) m2)))) != 0)
                                      (some (.nx [cb ((gi v6 0) != (gi (el rc (gi v5 0)) 0))]))
                                      (some (.nx [cb false]))) fun v7 =>
                                  seqO (iteB (gb v7 0)
                                      (chk (fitA (List.length (gr v6 1)) 1 40) <|
                                      some (.nx ([CV.row 5 ((gr v6 1) ++ (chunk 5 1 ([ci day, ci src, ci (gi v6 0), ci (gi (el rc (gi v5 0)) 0), ci (wr ((cI (lookM 2 [ci (gi v6 0), ci (gi (el rc (gi v5 0)) 0)] (.int .i64 0) m1)) - (cI (lookM 2 [ci (gi v6 0), ci (gi (el rc (gi v5 0)) 0)] (.int .i64 0) m2))))])))])))
                                      (some (.nx [CV.row 5 (gr v6 1)]))) fun v8 =>
                                  some (.nx [ci (wr ((gi v6 0) + 1)), CV.row 5 (gr v8 0)]))
                                  (some (.br 6 [CV.row 5 (gr v6 1)]))) [ci 2, CV.row 5 (gr v5 1)]) fun v6 =>
                            some (.nx [ci (wr ((gi v5 0) + 1)), CV.row 5 (gr v6 0)]))
                            (some (.br 4 [CV.row 5 (gr v5 1)]))) [ci 0, CV.row 5 out])
def postX (M : Den) (a0_0 a0_1 a0_2 a1 : List (List CV)) : Option Ou :=
    blkO 0 (loopD (fun v0 =>
            iteB (decide ((gi v0 0) < (il a1)))
              (chk (inb (gi v0 0) a1) <|
              chk (oks [li] (el a1 (gi v0 0)) 0) <|
              blkO 2 (loopD (fun v1 =>
                  iteB (decide ((gi v1 0) < (il a0_1)))
                    (chk (inb (gi v1 0) a0_1) <|
                    chk (oks (List.replicate 9 li) (el a0_1 (gi v1 0)) 0) <|
                    inlO (paidX M a0_0 a0_1 a0_2 (el a0_1 (gi v1 0)) (gi (el a1 (gi v0 0)) 0)) fun v2 =>
                    iteB (decide ((gi v0 0) > 0))
                      (chk (inb (wr ((gi v0 0) - 1)) a1) <|
                      chk (oks [li] (el a1 (wr ((gi v0 0) - 1))) 0) <|
                      inlO (paidX M a0_0 a0_1 a0_2 (el a0_1 (gi v1 0)) (gi (el a1 (wr ((gi v0 0) - 1))) 0)) fun v3 =>
                      seqO (iteB ((gi (el a0_1 (gi v1 0)) 5) != 0)
                          (some (.nx ([CV.row 1 ([[ci 0], [ci 1], [ci (wr (2 + (gi (el a0_1 (gi v1 0)) 5)))]])])))
                          (some (.nx ([CV.row 1 (chunk 1 2 [ci 0, ci 1])])))) fun v4 =>
                      blkO 4 (recX2 (gr v4 0) (gr v2 0) (gr v3 0) (gi (el a1 (gi v0 0)) 0) (gi (el a0_1 (gi v1 0)) 0) (gr v1 1)) fun v5 =>
                      some (.nx [ci (wr ((gi v1 0) + 1)), CV.row 5 (gr v5 0)]))
                      (seqO (iteB ((gi (el a0_1 (gi v1 0)) 5) != 0)
                          (some (.nx ([CV.row 1 ([[ci 0], [ci 1], [ci (wr (2 + (gi (el a0_1 (gi v1 0)) 5)))]])])))
                          (some (.nx ([CV.row 1 (chunk 1 2 [ci 0, ci 1])])))) fun v3 =>
                      blkO 4 (recX1 (gr v3 0) (gr v2 0) (gi (el a1 (gi v0 0)) 0) (gi (el a0_1 (gi v1 0)) 0) (gr v1 1)) fun v4 =>
                      some (.nx [ci (wr ((gi v1 0) + 1)), CV.row 5 (gr v4 0)])))
                    (some (.br 2 [CV.row 5 (gr v1 1)]))) [ci 0, CV.row 5 (gr v0 1)]) fun v1 =>
              some (.nx [ci (wr ((gi v0 0) + 1)), CV.row 5 (gr v1 0)]))
              (some (.br 0 [CV.row 5 (gr v0 1)]))) ([ci 0, CV.row 5 []])) fun v0 =>
        some (.ret [CV.row 5 (gr v0 0)])
theorem postX_eq (M : Den) (a0_0 a0_1 a0_2 a1 : List (List CV)) : R_fine_postings M a0_0 a0_1 a0_2 a1 = postX M a0_0 a0_1 a0_2 a1 := rfl
end
theorem posM_z (a b : Int) : posM 2 [ci a, ci b] [] = 0 := rfl
theorem posM_s (a b c d : Int) (r : List CV) (es : List (List CV)) : posM 2 [ci a, ci b] ((ci c :: ci d :: r) :: es) = if a = c ∧ b = d then 0 else posM 2 [ci a, ci b] es + 1 := by
  simp only [posM, ci, List.map_cons, List.map_nil, List.take_succ_cons, List.take_zero, cvV, eqB, vEq, Bool.and_true, beq_dec, Bool.and_eq_true, decide_eq_true_eq]
def paidRow (p : Acc) (s : Held) (k : Int) : List (List CV) :=
  if counts s.known s.til k = false ∨ (dueOf p s k).payer = -1 then [] else
    [ci (dueOf p s k).payer, ci 0, ci (dueOf p s k).lord] :: [ci (dueOf p s k).payer, ci 1, ci (dueOf p s k).hay] :: (if s.drv = 0 then [] else [[ci (dueOf p s k).payer, ci (2 + s.drv), ci (dueOf p s k).drv]])
theorem due_bounds {p : Acc} (hp : p.ok = true) {s : Held} (hs : s.ok = true) {k : Int} (hk : isDay k = true) : -100000000000 ≤ (dueOf p s k).lord ∧ (dueOf p s k).lord ≤ 100000000000 ∧ 0 ≤ (dueOf p s k).hay ∧ (dueOf p s k).hay ≤ 50000000000 ∧ 0 ≤ (dueOf p s k).drv ∧ (dueOf p s k).drv ≤ 50000000000 := by
  obtain ⟨y1, y2⟩ := payer_bounds hp hs k hk
  obtain ⟨t1, t2, t3⟩ := hay_bounds hp s.day
  obtain ⟨a1, a2, a3, a4⟩ := shares_wr _ (inForce p s.day).hay y1 y2 (by omega) (by omega)
  obtain ⟨b1, b2, b3, b4⟩ := shares_wr _ (inForce p s.day).drv y1 y2 (by omega) (by omega)
  unfold dueOf shares
  by_cases hd : s.drv = 0
  · simp only [hd, if_true]; omega
  · simp only [hd, if_false]; omega
theorem okE_cons (a b c : Int) (es : List (List CV)) : okEs [.int .i64, .int .i64] (.int .i64) ([ci a, ci b, ci c] :: es) = okEs [.int .i64, .int .i64] (.int .i64) es := rfl
theorem okE_nil : okEs [.int .i64, .int .i64] (.int .i64) [] = true := rfl
theorem w_paidX (n : Nat) (p : Acc) (s : Held) (k : Int) (hp : p.ok = true) (hs : s.ok = true) (hk : isDay k = true) : paidX (D (n + 6)) (p.ts.map Tariff.cv) (p.ss.map Held.cv) (p.ns.map Note.cv) s.cv k = some (.ret [.row 3 (paidRow p s k)]) := by
  have hb := due_bounds hp hs hk
  have hbs := Held.ok_b hs
  have e0 : wr (0 + (dueOf p s k).lord) = (dueOf p s k).lord := by rw [wr_of] <;> omega
  have e1 : wr ((dueOf p s k).hay) = (dueOf p s k).hay := by rw [wr_of] <;> omega
  have e2 : wr ((dueOf p s k).drv) = (dueOf p s k).drv := by rw [wr_of] <;> omega
  have e3 : wr (2 + s.drv) = 2 + s.drv := by rw [wr_of] <;> omega
  have hcv : s.cv = [ci s.src, ci s.beast, ci s.sort, ci s.eats, ci s.worth, ci s.drv, ci s.day, ci s.known, ci s.til] := rfl
  have zz : CV.val (.int .i64 0) = ci 0 := rfl
  unfold paidX
  simp only [hcv, gi_z, gi_s, w_counts, callO_val, gb_z, cat_s, cat_1, cis_s, cis_z, List.cons_append, List.nil_append, w_due _ _ _ _ hp hs hk, e0, e3]
  cases hc : counts s.known s.til k with
  | false => simp [paidRow, hc]
  | true =>
    by_cases hy : (dueOf p s k).payer = -1
    · simp [paidRow, hc, hy]
    · by_cases hd : s.drv = 0
      · simp [paidRow, hc, hy, hd, entM, lookM, posM_z, posM_s, zz, okE_cons, okE_nil, el, e1]
      · have n0 : ¬ (2 + s.drv = 0) := by omega
        have n1 : ¬ (2 + s.drv = 1) := by omega
        simp [paidRow, hc, hy, hd, entM, lookM, posM_z, posM_s, zz, okE_cons, okE_nil, el, e1, e2, n0, n1]
theorem look_nil (a b : Int) : cI (lookM 2 [ci a, ci b] (.int .i64 0) []) = 0 := rfl
theorem look_cons (a b c d v : Int) (es : List (List CV)) : lookM 2 [ci a, ci b] (.int .i64 0) ([ci c, ci d, ci v] :: es) = if a = c ∧ b = d then ci v else lookM 2 [ci a, ci b] (.int .i64 0) es := by
  unfold lookM
  rw [posM_s]
  by_cases h : a = c ∧ b = d
  · rw [if_pos h, if_pos h]; rfl
  · rw [if_neg h, if_neg h]; rfl
theorem recv_cases {s : Held} {r : Nat × Int} (h : r ∈ receivers s) : r = (0, 0) ∨ r = (1, 1) ∨ (r = (2, 2 + s.drv) ∧ s.drv ≠ 0) := by
  unfold receivers at h
  by_cases hd : s.drv = 0
  · simp [hd] at h; rcases h with h | h <;> simp [h]
  · simp [hd] at h; rcases h with h | h | h <;> simp [h, hd]
theorem look_paid (p : Acc) {s : Held} (hs : s.ok = true) (k : Int) {f : Int} (hf : 2 ≤ f) {r : Nat × Int} (hr : r ∈ receivers s) : cI (lookM 2 [ci f, ci r.2] (.int .i64 0) (paidRow p s k)) = paid p s (some k) f r.1 := by
  have hbs := Held.ok_b hs
  have hz : cI (lookM 2 [ci f, ci r.2] (.int .i64 0) []) = 0 := rfl
  unfold paidRow paid
  change _ = (if counts s.known s.til k = true ∧ (dueOf p s k).payer = f then share (dueOf p s k) r.1 else 0)
  by_cases hc : counts s.known s.til k = true
  · by_cases hy : (dueOf p s k).payer = -1
    · rw [if_pos (.inr hy), hz, if_neg (by rw [hy]; omega)]
    · rw [if_neg (by simp [hc, hy])]
      rcases recv_cases hr with rfl | rfl | ⟨rfl, hd⟩
      · simp only [look_cons]
        by_cases hfp : f = (dueOf p s k).payer
        · simp [hfp, hc, share]
        · have : ¬ (dueOf p s k).payer = f := fun h => hfp h.symm
          by_cases hd : s.drv = 0
          · simp [hfp, this, hd, look_nil]
          · simp [hfp, this, hd, look_nil, look_cons]
      · simp only [look_cons]
        by_cases hfp : f = (dueOf p s k).payer
        · simp [hfp, hc, share]
        · have : ¬ (dueOf p s k).payer = f := fun h => hfp h.symm
          by_cases hd : s.drv = 0
          · simp [hfp, this, hd, look_nil]
          · simp [hfp, this, hd, look_nil, look_cons]
      · have n0 : ¬ (2 + s.drv = 0) := by omega
        have n1 : ¬ (2 + s.drv = 1) := by omega
        simp only [look_cons, if_neg hd]
        by_cases hfp : f = (dueOf p s k).payer
        · simp [hfp, hc, share, n0, n1]
        · have : ¬ (dueOf p s k).payer = f := fun h => hfp h.symm
          simp [hfp, this, look_nil]
  · have hc' : counts s.known s.til k = false := by simpa using hc
    rw [if_pos (.inl hc'), hz, if_neg (by simp [hc'])]
theorem okE_paid (p : Acc) (s : Held) (k : Int) : okEs [.int .i64, .int .i64] (.int .i64) (paidRow p s k) = true := by
  unfold paidRow; split
  · rfl
  · split <;> rfl
theorem paid_bounds {p : Acc} (hp : p.ok = true) {s : Held} (hs : s.ok = true) (k : Option Int) (hk : ∀ d, k = some d → isDay d = true) (f : Int) (r : Nat) : -100000000000 ≤ paid p s k f r ∧ paid p s k f r ≤ 100000000000 := by
  cases k with
  | none => simp [paid]
  | some k =>
    have hb := due_bounds hp hs (hk k rfl)
    simp only [paid]
    split
    · unfold share; split <;> omega
    · omega
theorem loop_acc {A : Type} {step : List CV → Option Ou} (l : List A) (g : A → List (List CV)) (c L : Nat) (hg : ∀ x ∈ l, (g x).length ≤ c) (E : Nat → Int) (k b : Nat) (es0 : List (List CV)) (h0 : es0.length ≤ L) {vs : List CV} (hv : vs = [ci (E 0), .row k es0])
    (hs : ∀ i (h : i < l.length) (es : List (List CV)), es.length ≤ L + i * c → step [ci (E i), .row k es] = some (.nx [ci (E (i + 1)), .row k (es ++ g l[i])]))
    (he : ∀ es, step [ci (E l.length), .row k es] = some (.br b [.row k es])) : loopD step vs = some (.br b [.row k (es0 ++ l.flatMap g)]) := by
  have key : ∀ n, n ≤ l.length → ((l.take n).flatMap g).length ≤ n * c := by
    intro n
    induction n with
    | zero => intro _; simp
    | succ n ih =>
      intro h
      have := hg l[n] (List.getElem_mem (by omega))
      rw [take_succ (by omega), List.flatMap_append, List.length_append]
      simp only [List.flatMap_cons, List.flatMap_nil, List.append_nil]
      have := ih (by omega)
      rw [Nat.add_mul]; omega
  refine loop_ix l.length (fun i => [ci (E i), .row k (es0 ++ (l.take i).flatMap g)]) _ (by simp [hv]) (fun i hi => ?_) ?_ (by simp)
  · rw [hs i hi _ (by rw [List.length_append]; have := key i (by omega); omega), take_succ hi, List.flatMap_append]
    simp
  · simp only [List.take_length, he]
theorem filterMap_cv {A B : Type} (h : A → Option B) (cv : B → List CV) : ∀ (l : List A), (l.filterMap h).map cv = l.flatMap fun x => ((h x).map cv).toList
  | [] => rfl
  | x :: l => by
    rw [List.filterMap_cons, List.flatMap_cons, ← filterMap_cv h cv l]
    cases h x <;> rfl
theorem flatMap_cv {A B : Type} (h : A → List B) (cv : B → List CV) (l : List A) : (l.flatMap h).map cv = l.flatMap fun x => (h x).map cv := by
  induction l with
  | nil => rfl
  | cons x l ih => simp [List.flatMap_cons, ih]
def recRow (s : Held) : List (List CV) := (receivers s).map fun r => [ci r.2]
def toOne (p : Acc) (s : Held) (was : Option Int) (day : Int) (r : Nat × Int) (f : Int) : Option Post :=
  if paid p s (some day) f r.1 - paid p s was f r.1 ≠ 0 ∧ f ≠ r.2 then some ⟨day, s.src, f, r.2, paid p s (some day) f r.1 - paid p s was f r.1⟩ else none
theorem posted_eq (p : Acc) (s : Held) (was : Option Int) (day : Int) : posted p s was day = (receivers s).flatMap fun r => (upto 2 101).filterMap (toOne p s was day r) := rfl
theorem toOne_len (p : Acc) (s : Held) (was : Option Int) (day : Int) (r : Nat × Int) (f : Int) : (((toOne p s was day r f).map Post.cv).toList).length ≤ 1 := by
  cases toOne p s was day r f <;> simp
theorem one_len (p : Acc) (s : Held) (was : Option Int) (day : Int) (r : Nat × Int) : (((upto 2 101).filterMap (toOne p s was day r)).map Post.cv).length ≤ 100 := by
  rw [List.length_map]
  exact Nat.le_trans (List.length_filterMap_le _ _) (by rw [upto_length]; decide)
theorem recv_len (s : Held) : (receivers s).length ≤ 3 := by unfold receivers; split <;> simp
theorem posted_len (p : Acc) (s : Held) (was : Option Int) (day : Int) : (posted p s was day).length ≤ 300 := by
  rw [posted_eq, List.length_flatMap]
  have h : ∀ (l : List (Nat × Int)), (l.map fun r => ((upto 2 101).filterMap (toOne p s was day r)).length).sum ≤ l.length * 100 := by
    intro l
    induction l with
    | nil => simp
    | cons r l ih =>
      have := one_len p s was day r
      rw [List.length_map] at this
      simp only [List.map_cons, List.sum_cons, List.length_cons, Nat.add_mul]; omega
  have := h (receivers s)
  have := recv_len s
  omega
theorem recX2_eq (p : Acc) (s : Held) (w : Int) (k : Int) (hp : p.ok = true) (hs : s.ok = true) (hk : isDay k = true) (hw0 : isDay w = true) (out : List (List CV)) (ho : out.length ≤ 300000) :
    recX2 (recRow s) (paidRow p s k) (paidRow p s w) k s.src out = some (.br 4 [.row 5 (out ++ (posted p s (some w) k).map Post.cv)]) := by
  unfold recX2
  rw [posted_eq, flatMap_cv]
  refine loop_acc (receivers s) (fun r => ((upto 2 101).filterMap (toOne p s (some w) k r)).map Post.cv) 100 300000 (fun r _ => one_len p s (some w) k r) (fun i => (i : Int)) 5 4 out ho rfl (fun i hi es hes => ?_) (fun es => ?_)
  · have hl3 := recv_len s
    have hr : (receivers s)[i] ∈ receivers s := List.getElem_mem hi
    generalize hrr : (receivers s)[i] = r at hr
    have hw := wr_nat (show i < 9223372036854775807 by omega)
    have hel : el (recRow s) (i : Int) = [ci r.2] := by rw [recRow, el_map hi, hrr]
    have hin : inb (i : Int) (recRow s) = true := by rw [recRow]; exact inb_map hi
    have hil : il (recRow s) = (receivers s).length := by rw [recRow]; exact il_map _ _
    have hln : (recRow s).length = (receivers s).length := by rw [recRow, List.length_map]
    have hii : (i : Int) < (receivers s).length := by omega
    simp only [gi_z, gr_s, gr_z, hil, hii, decide_true, iteB_eq, if_true, hin, hln, Int.toNat_natCast, hi, hel, chk_true, oks_cons0, ok_ci, oks_z, Bool.and_self]
    rw [filterMap_cv]
    rw [loop_acc (upto 2 101) (fun f => ((toOne p s (some w) k r f).map Post.cv).toList) 1 310000 (fun f _ => toOne_len p s (some w) k r f) (fun j => 2 + (j : Int)) 5 6 es (by omega) ?hv (fun j hj es' hes' => ?hs') (fun es' => ?he')]
    case hv => rfl
    case he' => simp [upto_length]
    case hs' =>
      have hjl : j < 100 := by rw [upto_length] at hj; simpa using hj
      have hjf : (upto 2 101)[j]'hj = 2 + j := upto_get hj
      have hw2 : wr (2 + (j : Int) + 1) = 2 + ((j + 1 : Nat) : Int) := by rw [wr_of] <;> omega
      have hf2 : (2 : Int) ≤ 2 + j := by omega
      have b1 := paid_bounds hp hs (some k) (fun d h => by cases h; exact hk) (2 + j) r.1
      have b2 := paid_bounds hp hs (some w) (fun d h => by cases h; exact hw0) (2 + j) r.1
      have hl2 := look_paid p hs w hf2 hr
      have hwn : wr (paid p s (some k) (2 + j) r.1 - paid p s (some w) (2 + j) r.1) = paid p s (some k) (2 + j) r.1 - paid p s (some w) (2 + j) r.1 := by rw [wr_of] <;> omega
      have hl1 := look_paid p hs k hf2 hr
      have hfit : fitA es'.length 1 40 = true := fitA_of (by omega) (by omega)
      rw [hjf]
      have hle : (2 : Int) + j ≤ 101 := by omega
      simp only [gi_z, gi_s, gr_z, gr_s, hle, decide_true, iteB_eq, if_true, okE_paid, okE_nil, chk_true, hl1, hl2, hwn, hw2, hfit]
      unfold toOne
      by_cases c1 : paid p s (some k) (2 + j) r.1 - paid p s (some w) (2 + j) r.1 = 0
      · simp [c1]
      · by_cases c2 : (2 : Int) + j = r.2 <;> simp [c1, c2, Post.cv]
    · simp [hw]
  · have hil : il (recRow s) = (receivers s).length := by rw [recRow]; exact il_map _ _
    simp [hil]
theorem recX1_eq (p : Acc) (s : Held)  (k : Int) (hp : p.ok = true) (hs : s.ok = true) (hk : isDay k = true)  (out : List (List CV)) (ho : out.length ≤ 300000) :
    recX1 (recRow s) (paidRow p s k)  k s.src out = some (.br 4 [.row 5 (out ++ (posted p s none k).map Post.cv)]) := by
  unfold recX1
  rw [posted_eq, flatMap_cv]
  refine loop_acc (receivers s) (fun r => ((upto 2 101).filterMap (toOne p s none k r)).map Post.cv) 100 300000 (fun r _ => one_len p s none k r) (fun i => (i : Int)) 5 4 out ho rfl (fun i hi es hes => ?_) (fun es => ?_)
  · have hl3 := recv_len s
    have hr : (receivers s)[i] ∈ receivers s := List.getElem_mem hi
    generalize hrr : (receivers s)[i] = r at hr
    have hw := wr_nat (show i < 9223372036854775807 by omega)
    have hel : el (recRow s) (i : Int) = [ci r.2] := by rw [recRow, el_map hi, hrr]
    have hin : inb (i : Int) (recRow s) = true := by rw [recRow]; exact inb_map hi
    have hil : il (recRow s) = (receivers s).length := by rw [recRow]; exact il_map _ _
    have hln : (recRow s).length = (receivers s).length := by rw [recRow, List.length_map]
    have hii : (i : Int) < (receivers s).length := by omega
    simp only [gi_z, gr_s, gr_z, hil, hii, decide_true, iteB_eq, if_true, hin, hln, Int.toNat_natCast, hi, hel, chk_true, oks_cons0, ok_ci, oks_z, Bool.and_self]
    rw [filterMap_cv]
    rw [loop_acc (upto 2 101) (fun f => ((toOne p s none k r f).map Post.cv).toList) 1 310000 (fun f _ => toOne_len p s none k r f) (fun j => 2 + (j : Int)) 5 6 es (by omega) ?hv (fun j hj es' hes' => ?hs') (fun es' => ?he')]
    case hv => rfl
    case he' => simp [upto_length]
    case hs' =>
      have hjl : j < 100 := by rw [upto_length] at hj; simpa using hj
      have hjf : (upto 2 101)[j]'hj = 2 + j := upto_get hj
      have hw2 : wr (2 + (j : Int) + 1) = 2 + ((j + 1 : Nat) : Int) := by rw [wr_of] <;> omega
      have hf2 : (2 : Int) ≤ 2 + j := by omega
      have b1 := paid_bounds hp hs (some k) (fun d h => by cases h; exact hk) (2 + j) r.1
      have hl2 : True := trivial
      have hwn : wr (paid p s (some k) (2 + j) r.1 - 0) = paid p s (some k) (2 + j) r.1 - paid p s none (2 + j) r.1 := by rw [wr_of] <;> simp only [paid] at * <;> omega
      have hl1 := look_paid p hs k hf2 hr
      have hfit : fitA es'.length 1 40 = true := fitA_of (by omega) (by omega)
      rw [hjf]
      have hle : (2 : Int) + j ≤ 101 := by omega
      simp only [gi_z, gi_s, gr_z, gr_s, hle, decide_true, iteB_eq, if_true, okE_paid, okE_nil, chk_true, hl1, hl2, hwn, hw2, hfit]
      unfold toOne
      by_cases c1 : paid p s (some k) (2 + j) r.1 - paid p s none (2 + j) r.1 = 0
      · simp [c1]
      · by_cases c2 : (2 : Int) + j = r.2 <;> simp [c1, c2, Post.cv]
    · simp [hw]
  · have hil : il (recRow s) = (receivers s).length := by rw [recRow]; exact il_map _ _
    simp [hil]
def prs (w : Option Int) (l : List Int) : List (Option Int × Int) := (w :: l.map some).zip l
theorem postsGo_eq (p : Acc) : ∀ (l : List Int) (w : Option Int), postsGo p w l = (prs w l).flatMap fun x => p.ss.flatMap fun s => posted p s x.1 x.2
  | [], w => rfl
  | d :: l, w => by
    rw [postsGo, postsGo_eq p l (some d)]
    simp only [prs, List.map_cons, List.zip_cons_cons, List.flatMap_cons]
theorem prs_len (l : List Int) : (prs none l).length = l.length := by simp [prs]
theorem prs_get (l : List Int) (i : Nat) (h : i < (prs none l).length) : (prs none l)[i].2 = l[i]'(by rw [prs_len] at h; exact h) ∧ (prs none l)[i].1 = if h0 : i = 0 then none else some (l[i - 1]'(by rw [prs_len] at h; omega)) := by
  have hl := h
  rw [prs_len] at hl
  simp only [prs, List.getElem_zip, true_and]
  cases i with
  | zero => simp
  | succ i => simp
theorem recv_seq (s : Held) (hs : s.ok = true) (K : List CV → Option Ou) : seqO (iteB (s.drv != 0) (some (.nx ([CV.row 1 ([[ci 0], [ci 1], [ci (wr (2 + s.drv))]])]))) (some (.nx ([CV.row 1 (chunk 1 2 [ci 0, ci 1])])))) K = K [.row 1 (recRow s)] := by
  have hbs := Held.ok_b hs
  have e3 : wr (2 + s.drv) = 2 + s.drv := by rw [wr_of] <;> omega
  by_cases hd : s.drv = 0
  · simp [hd, recRow, receivers]
  · simp [hd, recRow, receivers, e3]
theorem cv_days {l : List Int} (h : daysOk l = true) : (∀ d ∈ l, isDay d = true) ∧ l.length ≤ 12 := by
  simp only [daysOk, Bool.and_eq_true, List.all_eq_true, decide_eq_true_eq] at h
  exact ⟨h.1.1, h.2⟩
theorem day_len (p : Acc) (hp : p.ok = true) (x : Option Int × Int) : ((p.ss.flatMap fun s => posted p s x.1 x.2).map Post.cv).length ≤ 18000 := by
  obtain ⟨_, h60, _⟩ := p.ok_len hp
  rw [List.length_map, List.length_flatMap]
  have h : ∀ (l : List Held), (l.map fun s => (posted p s x.1 x.2).length).sum ≤ l.length * 300 := by
    intro l
    induction l with
    | nil => simp
    | cons s l ih =>
      have := posted_len p s x.1 x.2
      simp only [List.map_cons, List.sum_cons, List.length_cons, Nat.add_mul]; omega
  have := h p.ss
  omega
@[simp] theorem w_postings (n : Nat) (p : Acc) (l : List Int) (hp : p.ok = true) (hl : daysOk l = true) : D (n + 7) n_fine_postings [.row 24 (p.ts.map Tariff.cv), .row 9 (p.ss.map Held.cv), .row 7 (p.ns.map Note.cv), .row 1 (ints l)] = some [.row 5 ((postsGo p none l).map Post.cv)] := by
  rw [q_fine_postings, postX_eq]
  obtain ⟨hdays, h12⟩ := cv_days hl
  obtain ⟨_, h60, _⟩ := p.ok_len hp
  unfold postX
  rw [postsGo_eq, flatMap_cv]
  rw [loop_acc (prs none l) (fun x => (p.ss.flatMap fun s => posted p s x.1 x.2).map Post.cv) 18000 0 (fun x _ => day_len p hp x) (fun i => (i : Int)) 5 0 [] (by simp) ?hv (fun i hi es hes => ?hs) (fun es => ?he)]
  case hv => rfl
  case he => simp [prs_len, ints]
  case hs =>
    obtain ⟨g2, g1⟩ := prs_get l i hi
    have hil : i < l.length := by rw [prs_len] at hi; exact hi
    generalize hx : (prs none l)[i] = x at g1 g2
    have hd1 : isDay l[i] = true := hdays _ (List.getElem_mem hil)
    have hw := wr_nat (show i < 9223372036854775807 by omega)
    have hel : el (ints l) (i : Int) = [ci l[i]] := el_map hil
    have hin : inb (i : Int) (ints l) = true := inb_map hil
    have hill : il (ints l) = l.length := il_map _ _
    have hii : (i : Int) < l.length := by omega
    simp only [gi_z, gr_s, gr_z, hill, hii, decide_true, iteB_eq, if_true, hin, hel, chk_true, oks_cons0, ok_ci, oks_z, Bool.and_self]
    rw [flatMap_cv]
    rw [loop_acc p.ss (fun s => (posted p s x.1 x.2).map Post.cv) 300 220000 (fun s _ => by rw [List.length_map]; exact posted_len p s x.1 x.2) (fun j => (j : Int)) 5 2 es (by omega) ?hv2 (fun j hj es' hes' => ?hs2) (fun es' => ?he2)]
    case hv2 => rfl
    case he2 => simp
    case hs2 =>
      have hjs : p.ss[j].ok = true := p.ok_s hp (List.getElem_mem hj)
      generalize hsj : p.ss[j] = s at hjs
      have hw2 := wr_nat (show j < 9223372036854775807 by omega)
      have hel2 : el (p.ss.map Held.cv) (j : Int) = s.cv := by rw [el_map hj, hsj]
      have hin2 : inb (j : Int) (p.ss.map Held.cv) = true := inb_map hj
      have hjj : (j : Int) < p.ss.length := by omega
      have hok9 : oks (List.replicate 9 li) s.cv 0 = true := rfl
      have hsd : gi s.cv 5 = s.drv := rfl
      have hss : gi s.cv 0 = s.src := rfl
      simp only [gi_z, gr_s, gr_z, il_map, hjj, decide_true, if_true, hin2, hel2, hok9, chk_true, w_paidX _ _ _ _ hp hjs hd1, inlO_ret, hsd, hss]
      by_cases h0 : i = 0
      · have hx1 : x.1 = none := by rw [g1, dif_pos h0]
        have hi0 : ¬ ((i : Int) > 0) := by omega
        rw [if_neg (by simpa using hi0)]
        have hrs := recv_seq s hjs
        simp only [iteB_eq] at hrs
        rw [hrs]
        simp only [gr_z]
        rw [recX1_eq p s l[i] hp hjs hd1 es' (by omega)]
        simp only [blkO_br, gr_z, hw2, hx1, g2]
      · have hx1 : x.1 = some (l[i - 1]'(by omega)) := by rw [g1, dif_neg h0]
        have hi0 : (i : Int) > 0 := by omega
        have hm : i - 1 < l.length := by omega
        have hwp := wr_pred (show 0 < i by omega) (show i < 9223372036854775807 by omega)
        have hel3 : el (ints l) ((i - 1 : Nat) : Int) = [ci (l[i - 1]'hm)] := el_map hm
        have hin3 : inb ((i - 1 : Nat) : Int) (ints l) = true := inb_map hm
        have hd0 : isDay (l[i - 1]'hm) = true := hdays _ (List.getElem_mem hm)
        rw [if_pos (by simpa using hi0)]
        simp only [hwp, hin3, hel3, chk_true, oks_cons0, ok_ci, oks_z, Bool.and_self, gi_z, w_paidX _ _ _ _ hp hjs hd0, inlO_ret, gr_z]
        have hrs := recv_seq s hjs
        simp only [iteB_eq] at hrs
        rw [hrs]
        simp only [gr_z]
        rw [recX2_eq p s (l[i - 1]'hm) l[i] hp hjs hd1 hd0 es' (by omega)]
        simp only [blkO_br, gr_z, hw2, hx1, g2]
    · simp [hw]
  · simp
end Go.Proofs.Ytabhbdehbpmpkaa
namespace Go.Proofs.Ytabhbdehbpmpkaa
open Go Go.Sx Go.Fine
set_option maxRecDepth 10000
attribute [local simp] Bool.and_assoc Bool.or_assoc
@[simp] theorem w_areDays (n : Nat) (l : List Int) (hl : l.length < 100000000000000000) : D (n + 3) n_fine_areDays [.row 1 (ints l)] = some [cb (daysOk l)] := by
  rw [q_fine_areDays]
  unfold R_fine_areDays
  have e1 : ((l.length : Int) ≤ 12) = (l.length ≤ 12) := by apply propext; omega
  rw [loop_find l.length (fun i => [ci (i : Int)]) (bad isDay id l) (fun i => some (.ret [cb false])) (some (.br 0 [])) ?hv ?hR ?hX
    (fun i hi hp => ?h1) (fun i hi hp => ?h2) ?h3]
  case hv => rfl
  case hR => simp
  case hX => simp
  case h3 => simp [ints]
  case h1 =>
    have hw := wr_nat (show i < 9223372036854775807 by omega)
    by_cases h0 : i = 0
    · subst h0
      simp [bad, hi] at hp
      have hw1 : wr 1 = 1 := by decide
      simp [ints, hi, inb_map0, el_map0, hp, hw1]
    · have h0' : 0 < i := by omega
      have hj : i - 1 < l.length := by omega
      have hwj := wr_pred h0' (show i < 9223372036854775807 by omega)
      simp only [bad, List.getElem?_eq_getElem hi, List.getElem?_eq_getElem hj, h0', decide_true, Bool.true_and, Bool.or_eq_false_iff, Bool.not_eq_false', decide_eq_false_iff_not, id] at hp
      simp [ints, hi, hj, inb_map, el_map, hp, hw, hwj, h0']
  case h2 =>
    by_cases h0 : i = 0
    · subst h0
      simp [bad, hi] at hp
      simp [ints, hi, inb_map0, el_map0, hp]
    · have h0' : 0 < i := by omega
      have hj : i - 1 < l.length := by omega
      have hwj := wr_pred h0' (show i < 9223372036854775807 by omega)
      simp only [bad, List.getElem?_eq_getElem hi, List.getElem?_eq_getElem hj, h0', decide_true, Bool.true_and, Bool.or_eq_true, Bool.not_eq_true', decide_eq_true_eq, id] at hp
      cases hk : isDay l[i] with
      | false => simp only [isDay] at hk; simp [ints, hi, hj, inb_map, el_map, hk, isDay, hwj, h0']
      | true =>
        have hp' : l[i] ≤ l[i - 1] := by simpa [hk] using hp
        simp only [isDay] at hk
        simp [ints, hi, hj, inb_map, el_map, hk, isDay, hp', hwj, h0']
  · have hb := bad_none isDay id l
    rw [List.map_id] at hb
    have e2 : il (ints l) = l.length := il_map _ _
    rw [daysOk, ← hb, e2]
    simp only [e1]
    cases (List.range l.length).find? (bad isDay id l) <;> simp
@[simp] theorem w_areDays' (n : Nat) (l : List Int) (hl : l.length < 100000000000000000) : D (n + 2) n_r06_areDays [.row 1 (ints l)] = some [cb (daysOk l)] := by
  rw [q_r06_areDays]
  unfold R_r06_areDays
  have e1 : ((l.length : Int) ≤ 12) = (l.length ≤ 12) := by apply propext; omega
  rw [loop_find l.length (fun i => [ci (i : Int)]) (bad isDay id l) (fun i => some (.ret [cb false])) (some (.br 0 [])) ?hv ?hR ?hX
    (fun i hi hp => ?h1) (fun i hi hp => ?h2) ?h3]
  case hv => rfl
  case hR => simp
  case hX => simp
  case h3 => simp [ints]
  case h1 =>
    have hw := wr_nat (show i < 9223372036854775807 by omega)
    by_cases h0 : i = 0
    · subst h0
      simp [bad, hi, isDay] at hp
      have hw1 : wr 1 = 1 := by decide
      simp [ints, hi, inb_map0, el_map0, hp, hw1]
    · have h0' : 0 < i := by omega
      have hj : i - 1 < l.length := by omega
      have hwj := wr_pred h0' (show i < 9223372036854775807 by omega)
      simp only [bad, List.getElem?_eq_getElem hi, List.getElem?_eq_getElem hj, h0', decide_true, Bool.true_and, Bool.or_eq_false_iff, Bool.not_eq_false', decide_eq_false_iff_not, id, isDay] at hp
      simp [ints, hi, hj, inb_map, el_map, hp, hw, hwj, h0']
  case h2 =>
    by_cases h0 : i = 0
    · subst h0
      simp [bad, hi, isDay] at hp
      simp [ints, hi, inb_map0, el_map0, hp]
    · have h0' : 0 < i := by omega
      have hj : i - 1 < l.length := by omega
      have hwj := wr_pred h0' (show i < 9223372036854775807 by omega)
      simp only [bad, List.getElem?_eq_getElem hi, List.getElem?_eq_getElem hj, h0', decide_true, Bool.true_and, Bool.or_eq_true, Bool.not_eq_true', decide_eq_true_eq, id] at hp
      cases hk : isDay l[i] with
      | false => simp only [isDay] at hk; simp [ints, hi, hj, inb_map, el_map, hk, isDay, hwj, h0']
      | true =>
        have hp' : l[i] ≤ l[i - 1] := by simpa [hk] using hp
        simp only [isDay] at hk
        simp [ints, hi, hj, inb_map, el_map, hk, isDay, hp', hwj, h0']
  · have hb := bad_none isDay id l
    rw [List.map_id] at hb
    have e2 : il (ints l) = l.length := il_map _ _
    rw [daysOk, ← hb, e2]
    simp only [e1]
    cases (List.range l.length).find? (bad isDay id l) <;> simp
@[simp] theorem w_Posts (n : Nat) (p : Acc) (l : List Int) (hp : p.fits) (hl : l.length < 100000000000000000) : D (n + 9) n_fine_Posts [.row 24 (p.ts.map Tariff.cv), .row 9 (p.ss.map Held.cv), .row 7 (p.ns.map Note.cv), .row 1 (ints l)] = some [.row 5 ((posts p l).1.map Post.cv), ci (posts p l).2] := by
  rw [q_fine_Posts]
  simp only [R_fine_Posts, w_Check _ _ hp, callO_val, gi_z, bne_dec, iteB_eq, check]
  cases hok : p.ok with
  | false => simp [posts, hok]
  | true =>
    cases hd : daysOk l <;> simp [posts, hok, hd, hl]
def owedOf (p : Acc) (o k : Int) : Int × Int :=
  if p.ok = false then (0, 63) else if within o 1 99 = false then (0, 1) else if isDay k = false then (0, 6)
  else ((stays p k).foldl (fun a s => if (dueOf p s k).payer = 2 + o then a + ((dueOf p s k).hay + (dueOf p s k).drv + (dueOf p s k).lord) else a) 0, 0)
@[simp] theorem w_Owed (n : Nat) (p : Acc) (o k : Int) (hp : p.fits) : D (n + 9) n_fine_Owed [.row 24 (p.ts.map Tariff.cv), .row 9 (p.ss.map Held.cv), .row 7 (p.ns.map Note.cv), ci o, ci k] = some [ci (owedOf p o k).1, ci (owedOf p o k).2] := by
  rw [q_fine_Owed]
  unfold R_fine_Owed
  rw [w_Check _ _ hp]
  simp only [callO_val, gi_z, bne_dec, iteB_eq, check]
  cases hok : p.ok with
  | false => simp [owedOf, hok]
  | true =>
    cases ho : within o 1 99 with
    | false => simp [owedOf, hok, ho]
    | true =>
      cases hk : isDay k with
      | false => simp [owedOf, hok, ho, hk]
      | true =>
        obtain ⟨_, h60, _⟩ := p.ok_len hok
        have ho' := ho
        simp only [within, Bool.and_eq_true, decide_eq_true_eq] at ho'
        have e3 : wr (2 + o) = 2 + o := by rw [wr_of] <;> omega
        have hl : (stays p k).length ≤ 60 := Nat.le_trans (filter_len _ _) h60
        have hso : ∀ s ∈ stays p k, s.ok = true := fun s hs => p.ok_s hok (stays_mem hs)
        simp only [if_true, decide_true, Bool.not_true, Bool.false_eq_true, if_false, w_within, callO_val, gb_z, ho, w_isDay, hk, w_stays _ _ _ hok, gr_z]
        obtain ⟨T, hT⟩ : ∃ T : Nat → Int, T = fun i => ((stays p k).take i).foldl (fun a s => if (dueOf p s k).payer = 2 + o then a + ((dueOf p s k).hay + (dueOf p s k).drv + (dueOf p s k).lord) else a) 0 := ⟨_, rfl⟩
        have hTs : ∀ i (h : i < (stays p k).length), T (i + 1) = if (dueOf p (stays p k)[i] k).payer = 2 + o then T i + ((dueOf p (stays p k)[i] k).hay + (dueOf p (stays p k)[i] k).drv + (dueOf p (stays p k)[i] k).lord) else T i := by
          intro i h; simp only [hT]; rw [take_succ h, List.foldl_append]; rfl
        have hTb : ∀ i, i ≤ (stays p k).length → -(i : Int) * 200000000000 ≤ T i ∧ T i ≤ (i : Int) * 200000000000 := by
          intro i
          induction i with
          | zero => intro _; simp [hT]
          | succ i ih =>
            intro h
            have h1 := ih (by omega)
            have h2 := due_bounds hok (hso _ (List.getElem_mem (by omega : i < (stays p k).length))) hk
            rw [hTs i (by omega)]
            split <;> omega
        rw [loop_ix (stays p k).length (fun i => [ci (T i), ci (i : Int)]) (some (.br 0 [ci (T (stays p k).length)])) ?hv (fun i hi => ?hs) ?he ?hr]
        case hv => simp [hT]
        case hr => simp
        case he => simp
        case hs =>
          have hw := wr_nat (show i < 9223372036854775807 by omega)
          have hsi := hso _ (List.getElem_mem hi)
          have hb := due_bounds hok hsi hk
          have hti := hTb i (by omega)
          have hts := hTs i hi
          generalize hss : (stays p k)[i] = s at *
          have e1 : wr ((dueOf p s k).hay + (dueOf p s k).drv) = (dueOf p s k).hay + (dueOf p s k).drv := by rw [wr_of] <;> omega
          have e2 : wr ((dueOf p s k).hay + (dueOf p s k).drv + (dueOf p s k).lord) = (dueOf p s k).hay + (dueOf p s k).drv + (dueOf p s k).lord := by rw [wr_of] <;> omega
          have e4 : wr (T i + ((dueOf p s k).hay + (dueOf p s k).drv + (dueOf p s k).lord)) = T i + ((dueOf p s k).hay + (dueOf p s k).drv + (dueOf p s k).lord) := by rw [wr_of] <;> omega
          rw [hts]
          by_cases hpy : (dueOf p s k).payer = 2 + o <;> simp [hi, inb_map, el_map, hss, Held.cv, hok, hsi, hk, e1, e2, e3, e4, hw, hpy]
        · simp [owedOf, hok, ho, hk, hT]
end Go.Proofs.Ytabhbdehbpmpkaa
namespace Go.Proofs.Ytabhbdehbpmpkaa
open Go Go.Sx Go.Fine
set_option maxRecDepth 100000
attribute [local simp] Bool.and_assoc Bool.or_assoc
def exT : Tariff := ⟨0, 0, 12, 0, 0, 0, 0, 0, 0, 0, 0, 0, 4, 0, 0, 0, 0, 0, 0, 0, 0, 5, 20, 10⟩
def exH : Held := ⟨1, 7, 1, 20, 500, 9, 10, 10, 0⟩
def exA : Acc := ⟨[exT], [exH], [⟨2, 1, 1, 3, 13, 14, 0⟩, ⟨3, 1, 2, 0, 15, 15, 0⟩]⟩
def exZ : Acc := ⟨[exT], [exH], []⟩
def exN : Note := ⟨4, 1, 3, 6, 18, 18, 0⟩
def exM : Acc := ⟨[exT], [exH], [⟨2, 1, 1, 3, 13, 14, 0⟩, ⟨3, 1, 2, 0, 15, 15, 0⟩, exN]⟩
theorem ex_fits : exA.fits := ⟨by decide, by decide, by decide⟩
theorem exZ_fits : exZ.fits := ⟨by decide, by decide, by decide⟩
theorem exM_fits : exM.fits := ⟨by decide, by decide, by decide⟩
theorem ex1 : lotOf exA 1 14 = (⟨3, 13, 0, -1⟩, 0) := by kernel_rfl
theorem ex2 : chargedOf exA 1 13 = (⟨12, 40, 16⟩, 0) := by kernel_rfl
theorem ex3 : lotOf exA 1 20 = (⟨3, 13, 1, 15⟩, 0) := by kernel_rfl
theorem ex4 : duesOf exA 1 20 = (⟨5, 24, 12, 38⟩, 0) := by kernel_rfl
theorem ex9 : lotOf exZ 1 100 = (⟨0, -1, 2, 59⟩, 0) := by kernel_rfl
theorem ex8 : owedOf exA 3 20 = (74, 0) := by kernel_rfl
theorem ex6 : noted exA exN = (exM, 0) := by kernel_rfl
theorem ex5 : posts exA [13, 14, 20] = ([⟨14, 1, 5, 0, 38⟩, ⟨14, 1, 5, 1, 24⟩, ⟨14, 1, 5, 11, 12⟩], 0) := by kernel_rfl
theorem ex7 : (posts exM [15, 18]).2 = 0 ∧ (posts exM [15, 18]).1.length = 9 ∧ (posts exM [15, 18]).1[3]? = some ⟨18, 1, 5, 0, -38⟩ := ⟨by kernel_rfl, by kernel_rfl, by kernel_rfl⟩
theorem evF_args {P : Program} {sg : FuncId → Option Sig} {M : Den} {fe : FE} {c : Code} {vs vs' : List CV} (h : Sc.avs fe.g.ps vs 0 = Sc.avs fe.g.ps vs' 0) : evF P sg M fe c vs = evF P sg M fe c vs' := by unfold evF; rw [h]
theorem lot_nil (n : Nat) (a b : List (List CV)) (y k : Int) : D (n + 1) n_fine_Lot [.row 24 a, .row 9 b, .val (.slice none 0 0), ci y, ci k] = D (n + 1) n_fine_Lot [.row 24 a, .row 9 b, .row 7 [], ci y, ci k] :=
  evF_args (P := Try.prog) (sg := sg) (M := D n) (fe := fe26) (c := bodyOf Try.f26) rfl
theorem w_example (n : Nat) : D (n + 1) n_law06_example [] = some [.row 24 (exA.ts.map Tariff.cv), .row 9 (exA.ss.map Held.cv), .row 7 (exA.ns.map Note.cv)] := by rw [q_law06_example]; rfl
theorem w_sane (n : Nat) : D (n + 12) n_law06_sane [] = some [cb true] := by
  rw [q_law06_sane]
  have h0 : D (n + 11) n_law06_example [] = some [.row 24 (exA.ts.map Tariff.cv), .row 9 (exA.ss.map Held.cv), .row 7 (exA.ns.map Note.cv)] := w_example _
  have h1 := w_Lot n exA 1 14 ex_fits
  have h2 := w_Charged n exA 1 13 ex_fits
  have h3 := w_Lot n exA 1 20 ex_fits
  have h4 := w_Dues n exA 1 20 ex_fits
  have h5 := w_Posts (n + 2) exA [13, 14, 20] ex_fits (by decide)
  have h6 := w_Noted (n + 2) exA exN ex_fits
  have h7 := w_Posts (n + 2) exM [15, 18] exM_fits (by decide)
  have h8 := w_Owed (n + 2) exA 3 20 ex_fits
  have h9 := w_Lot n exZ 1 100 exZ_fits
  have h10 := w_Same (n + 10) (posts exA [13, 14, 20]).1 (posts exA [13, 14, 20]).1 (by rw [ex5]; decide)
  rw [ex1] at h1
  rw [ex2] at h2
  rw [ex3] at h3
  rw [ex4] at h4
  rw [ex5] at h5 h10
  rw [ex6] at h6
  rw [ex8] at h8
  rw [ex9] at h9
  rw [sameL_refl _ eqP_refl] at h10
  obtain ⟨g1, g2, g3⟩ := ex7
  rw [g1] at h7
  have h9' : D (n + 11) n_fine_Lot [.row 24 (exA.ts.map Tariff.cv), .row 9 (exA.ss.map Held.cv), .val (.slice none 0 0), ci 1, ci 100] = _ := (lot_nil (n + 10) _ _ _ _).trans h9
  have e3 : 3 < (posts exM [15, 18]).1.length := by rw [g2]; decide
  have e4 : (posts exM [15, 18]).1[3] = ⟨18, 1, 5, 0, -38⟩ := by
    have := List.getElem?_eq_getElem e3
    rw [g3] at this
    exact (Option.some.inj this).symm
  generalize hm : (posts exM [15, 18]).1 = m at *
  simp only [ints, List.map_cons, List.map_nil] at h5 h7
  simp only [exN] at h6
  have c5 : chunk 5 3 [ci 14, ci 1, ci 5, ci 0, ci 38, ci 14, ci 1, ci 5, ci 1, ci 24, ci 14, ci 1, ci 5, ci 11, ci 12] = List.map Post.cv [⟨14, 1, 5, 0, 38⟩, ⟨14, 1, 5, 1, 24⟩, ⟨14, 1, 5, 11, 12⟩] := rfl
  have c3 : chunk 1 3 [ci 13, ci 14, ci 20] = [[ci 13], [ci 14], [ci 20]] := rfl
  have c2 : chunk 1 2 [ci 15, ci 18] = [[ci 15], [ci 18]] := rfl
  have hm3 : el (m.map Post.cv) 3 = Post.cv ⟨18, 1, 5, 0, -38⟩ := by
    rw [show (3 : Int) = ((3 : Nat) : Int) from rfl, el_map e3, e4]
  have hg3 : List.getD (m.map Post.cv) 3 [] = Post.cv ⟨18, 1, 5, 0, -38⟩ := by simp [e3, e4]
  have hi3 : inb 3 (m.map Post.cv) = true := by
    rw [show (3 : Int) = ((3 : Nat) : Int) from rfl]; exact inb_map e3
  unfold R_law06_sane
  simp only [h0, callO_val, gr_z, gr_s, h1, h2, h3, h4, c3, h5, h6, c2, h7, h8, h9', c5, h10]
  have h11 : D (n + 11) n_r06_Same [CV.row 5 [[ci 14, ci 1, ci 5, ci 0, ci 38], [ci 14, ci 1, ci 5, ci 1, ci 24], [ci 14, ci 1, ci 5, ci 11, ci 12]], CV.row 5 [[ci 14, ci 1, ci 5, ci 0, ci 38], [ci 14, ci 1, ci 5, ci 1, ci 24], [ci 14, ci 1, ci 5, ci 11, ci 12]]] = some [cb true] := h10
  simp [g2, hi3, hm3, hg3, Post.cv, h11, e4]
end Go.Proofs.Ytabhbdehbpmpkaa
namespace Go.Proofs.Ytabhbdehbpmpkaa
open Go Go.Sx Go.Fine
set_option maxRecDepth 10000
attribute [local simp] Bool.and_assoc Bool.or_assoc
def kO (k : Int) : Option Int := if k < 0 then none else some k
theorem w_paid' (n : Nat) (p : Acc) (s : Held) (k f : Int) (r : Nat) (hp : p.ok = true) (hs : s.ok = true) (hk : 0 ≤ k → isDay k = true) (hr : r ≤ 2) : D (n + 7) n_r06_paid [.row 24 (p.ts.map Tariff.cv), .row 9 (p.ss.map Held.cv), .row 7 (p.ns.map Note.cv), ci s.src, ci s.beast, ci s.sort, ci s.eats, ci s.worth, ci s.drv, ci s.day, ci s.known, ci s.til, ci k, ci f, ci (r : Int)] = some [ci (paid p s (kO k) f r)] := by
  rw [q_r06_paid]
  unfold R_r06_paid kO
  by_cases h0 : k < 0
  · simp [h0, paid]
  · have hk' := hk (by omega)
    have hr3 : (r : Int) < 3 := by omega
    cases hc : counts s.known s.til k with
    | false => simp [h0, hc, paid]
    | true =>
      by_cases hf : (dueOf p s k).payer = f
      · have : r = 0 ∨ r = 1 ∨ r = 2 := by omega
        rcases this with rfl | rfl | rfl <;> simp [h0, hc, hp, hs, hk', hf, paid, share]
      · simp [h0, hc, hp, hs, hk', hf, paid]
theorem w_payers (p : Acc) (s : Held) (a b : Int) (K : List CV → Option Ou) :
    seqO (iteB ((if (gi (List.getD [[ci a], [ci b]] 1 []) 0) < (gi (List.getD [[ci a], [ci b]] 0 []) 0) then gi (List.getD [[ci a], [ci b]] 1 []) 0 else gi (List.getD [[ci a], [ci b]] 0 []) 0) == (if (gi (List.getD [[ci a], [ci b]] 1 []) 0) > (gi (List.getD [[ci a], [ci b]] 0 []) 0) then gi (List.getD [[ci a], [ci b]] 1 []) 0 else gi (List.getD [[ci a], [ci b]] 0 []) 0))
        (some (.nx [CV.row 1 [[ci (if (gi (List.getD [[ci a], [ci b]] 1 []) 0) > (gi (List.getD [[ci a], [ci b]] 0 []) 0) then gi (List.getD [[ci a], [ci b]] 1 []) 0 else gi (List.getD [[ci a], [ci b]] 0 []) 0)]]]))
        (some (.nx [CV.row 1 (chunk 1 2 [ci (if (gi (List.getD [[ci a], [ci b]] 1 []) 0) < (gi (List.getD [[ci a], [ci b]] 0 []) 0) then gi (List.getD [[ci a], [ci b]] 1 []) 0 else gi (List.getD [[ci a], [ci b]] 0 []) 0), ci (if (gi (List.getD [[ci a], [ci b]] 1 []) 0) > (gi (List.getD [[ci a], [ci b]] 0 []) 0) then gi (List.getD [[ci a], [ci b]] 1 []) 0 else gi (List.getD [[ci a], [ci b]] 0 []) 0)])]))) K = K [.row 1 (ints (payers a b))] := by
  have h1 : (if b < a then b else a) = min a b := by omega
  have h2 : (if b > a then b else a) = max a b := by omega
  have g1 : gi (List.getD [[ci a], [ci b]] 1 []) 0 = b := rfl
  have g0 : gi (List.getD [[ci a], [ci b]] 0 []) 0 = a := rfl
  rw [g1, g0, h1, h2]
  by_cases h : a = b
  · have h3 : min a b = max a b := by omega
    have h4 : max a b = a := by omega
    simp [payers, h, ints]
  · have h3 : ¬ (min a b = max a b) := by omega
    simp [payers, h, h3, ints]
def fromTwo (p : Acc) (s : Held) (was : Option Int) (day : Int) (r : Nat × Int) (f : Int) : List (List CV) :=
  if f < 0 ∨ f = r.2 ∨ r.1 = 2 ∧ s.drv = 0 then [] else ((toOne p s was day r f).map Post.cv).toList
def recv3 (s : Held) : List (Nat × Int) := [(0, 0), (1, 1), (2, 2 + s.drv)]
theorem posted_two {p : Acc} (hp : p.ok = true) {s : Held} (hs : s.ok = true) (was : Option Int) (day : Int) (hw : ∀ d, was = some d → isDay d = true) (hd : isDay day = true) :
    (posted p s was day).map Post.cv = (recv3 s).flatMap fun r => (payers (payerAt p s was) (payerAt p s (some day))).flatMap (fromTwo p s was day r) := by
  have hpay : ∀ (k : Option Int), (∀ d, k = some d → isDay d = true) → payerAt p s k = -1 ∨ 2 ≤ payerAt p s k ∧ payerAt p s k ≤ 101 := by
    intro k hk
    cases k with
    | none => exact .inl rfl
    | some k =>
      have ho := owner_bounds (notes p s k) fun x hx => p.ok_n hp (notes_mem hx)
      have hoo : (lot p s k).owner = ownerOf (notes p s k) := rfl
      simp only [payerAt]
      split
      · unfold dueOf shares payer; simp only
        split
        · right; simp
        · split
          · left; rfl
          · right; simp only; omega
      · exact .inl rfl
  have ha := hpay was hw
  have hb := hpay (some day) (fun d h => by cases h; exact hd)
  generalize hA : payerAt p s was = a at *
  generalize hB : payerAt p s (some day) = b at *
  have one : ∀ r : Nat × Int, ((upto 2 101).filterMap (toOne p s was day r)) = ((payers a b).filter fun f => decide (0 ≤ f)).filterMap (toOne p s was day r) := by
    intro r
    have hmem : ∀ f, f ∈ (payers a b).filter (fun f => decide (0 ≤ f)) ↔ (f = a ∨ f = b) ∧ 0 ≤ f := by
      intro f
      rw [List.mem_filter]
      unfold payers
      split
      · rename_i h; subst h; simp
      · simp; omega
    refine filt_upto _ _ 2 101 _ rfl ?_ ?_ ?_
    · unfold payers
      split
      · by_cases h : 0 ≤ a <;> simp [h, rising]
      · by_cases h1 : 0 ≤ min a b <;> by_cases h2 : 0 ≤ max a b <;> simp [h1, h2, rising] <;> omega
    · intro f hf
      obtain ⟨h1, h2⟩ := (hmem f).1 hf
      rcases h1 with rfl | rfl <;> omega
    · intro f h1 h2 h3
      have hna : a ≠ f := fun h => h3 ((hmem f).2 ⟨.inl h.symm, by omega⟩)
      have hnb : b ≠ f := fun h => h3 ((hmem f).2 ⟨.inr h.symm, by omega⟩)
      unfold toOne
      rw [paid_payer (by omega) (by rw [hB]; exact hnb), paid_payer (by omega) (by rw [hA]; exact hna)]
      simp
  rw [posted_eq, flatMap_cv]
  have step : ∀ r : Nat × Int, ¬ (r.1 = 2 ∧ s.drv = 0) → ((upto 2 101).filterMap (toOne p s was day r)).map Post.cv = (payers a b).flatMap (fromTwo p s was day r) := by
    intro r hr
    rw [one r, filterMap_cv]
    induction payers a b with
    | nil => rfl
    | cons f l ih =>
      rw [List.flatMap_cons, ← ih]
      by_cases hf : 0 ≤ f
      · rw [List.filter_cons_of_pos (by simpa using hf), List.flatMap_cons]
        congr 1
        unfold fromTwo
        by_cases hfr : f = r.2
        · rw [if_pos (.inr (.inl hfr))]; simp [toOne, hfr]
        · rw [if_neg (by omega)]
      · rw [List.filter_cons_of_neg (by simpa using hf)]
        have : fromTwo p s was day r f = [] := by unfold fromTwo; rw [if_pos (.inl (by omega))]
        rw [this]; rfl
  by_cases hdv : s.drv = 0
  · have h2 : ∀ l : List Int, l.flatMap (fromTwo p s was day (2, 2 + s.drv)) = [] := by
      intro l
      induction l with
      | nil => rfl
      | cons f l ih => rw [List.flatMap_cons, ih]; simp [fromTwo, hdv]
    simp only [receivers, hdv, if_true, recv3, List.flatMap_cons, List.flatMap_nil, List.append_nil]
    rw [step (0, 0) (by simp), step (1, 1) (by simp)]
    have := h2 (payers a b)
    rw [hdv] at this
    rw [this, List.append_nil]
  · simp only [receivers, hdv, if_false, recv3, List.flatMap_cons, List.flatMap_nil, List.append_nil]
    rw [step (0, 0) (by simp), step (1, 1) (by simp), step (2, 2 + s.drv) (by simp [hdv])]
end Go.Proofs.Ytabhbdehbpmpkaa
namespace Go.Proofs.Ytabhbdehbpmpkaa
open Go Go.Sx Go.Fine
set_option maxRecDepth 10000
attribute [local simp] Bool.and_assoc Bool.or_assoc
theorem payers_len (a b : Int) : (payers a b).length ≤ 2 := by unfold payers; split <;> simp
theorem fromTwo_len (p : Acc) (s : Held) (was : Option Int) (day : Int) (r : Nat × Int) (f : Int) : (fromTwo p s was day r f).length ≤ 1 := by
  unfold fromTwo; split
  · simp
  · exact toOne_len p s was day r f
theorem two_len (p : Acc) (s : Held) (was : Option Int) (day : Int) (a b : Int) (r : Nat × Int) : ((payers a b).flatMap (fromTwo p s was day r)).length ≤ 2 := by
  rw [List.length_flatMap]
  have h : ∀ (l : List Int), (l.map fun f => (fromTwo p s was day r f).length).sum ≤ l.length := by
    intro l
    induction l with
    | nil => simp
    | cons f l ih =>
      have := fromTwo_len p s was day r f
      simp only [List.map_cons, List.sum_cons, List.length_cons]; omega
  have := h (payers a b)
  have := payers_len a b
  omega
theorem kO_day {k : Int} (h : 0 ≤ k → isDay k = true) : ∀ d, kO k = some d → isDay d = true := by
  intro d hd
  unfold kO at hd
  split at hd
  · cases hd
  · cases hd; exact h (by omega)
theorem isDay_nn {d : Int} (h : isDay d = true) : 0 ≤ d ∧ d ≤ 100000 := by simpa [isDay, within] using h
theorem w_posted' (n : Nat) (p : Acc) (s : Held) (was day : Int) (hp : p.ok = true) (hs : s.ok = true) (hw : 0 ≤ was → isDay was = true) (hd : isDay day = true) :
    D (n + 8) n_r06_posted [.row 24 (p.ts.map Tariff.cv), .row 9 (p.ss.map Held.cv), .row 7 (p.ns.map Note.cv), ci s.src, ci s.beast, ci s.sort, ci s.eats, ci s.worth, ci s.drv, ci s.day, ci s.known, ci s.til, ci was, ci day] = some [.row 5 ((posted p s (kO was) day).map Post.cv)] := by
  rw [q_r06_posted]
  unfold R_r06_posted
  have hbs := Held.ok_b hs
  have hdn := isDay_nn hd
  have hkd : kO day = some day := by unfold kO; rw [if_neg (by omega)]
  have hkw := kO_day hw
  rw [posted_two hp hs (kO was) day hkw hd]
  generalize hA : payerAt p s (kO was) = a
  generalize hB : payerAt p s (some day) = b
  rw [loop_ix 2 (fun i => [ci (i : Int), .row 1 [[ci (if i = 0 then -1 else a)], [ci (if i = 2 then b else -1)]]]) (some (.br 0 [.row 1 [[ci a], [ci b]]])) ?hv (fun i hi => ?hs) ?he (by simp)]
  case hv => rfl
  case he => simp
  case hs =>
    rcases (by omega : i = 0 ∨ i = 1) with rfl | rfl
    · by_cases h0 : was < 0
      · have h0' : ¬ (0 ≤ was) := by omega
        have hk0 : kO was = none := by unfold kO; rw [if_pos h0]
        simp [h0', ← hA, hk0, payerAt, wr_of]
      · have h0' : 0 ≤ was := by omega
        have hk0 : kO was = some was := by unfold kO; rw [if_neg h0]
        have hwd := hw h0'
        cases hc : counts s.known s.til was <;> simp [h0', ← hA, hk0, payerAt, wr_of, hc, hp, hs, hwd, inb, el, spl, il_def]
    · cases hc : counts s.known s.til day <;> simp [hdn, ← hB, payerAt, wr_of, hc, hp, hs, hd, inb, el, spl, il_def]
  rw [blkO_br]
  refine Eq.trans (congrArg retO (w_payers p s a b _)) ?_
  have hto : wr (2 + s.drv) = 2 + s.drv := by rw [wr_of] <;> omega
  simp only [gr_z, hto]
  rw [loop_acc (recv3 s) (fun r => (payers a b).flatMap (fromTwo p s (kO was) day r)) 2 0 (fun r _ => two_len p s (kO was) day a b r) (fun i => (i : Int)) 5 2 [] (by simp) ?hv (fun i hi es hes => ?hs) (fun es => ?he)]
  case hv => rfl
  case he => simp [recv3]
  case hs =>
    have hi3 : i < 3 := hi
    have hr1 : (recv3 s)[i].1 = i := by
      rcases (by omega : i = 0 ∨ i = 1 ∨ i = 2) with rfl | rfl | rfl <;> rfl
    have hr2 : gi [ci 0, ci 1, ci (2 + s.drv)] (0 + Int.toNat (i : Int) * 1) = (recv3 s)[i].2 := by
      rcases (by omega : i = 0 ∨ i = 1 ∨ i = 2) with rfl | rfl | rfl <;> rfl
    have hr3 : oks [li] [ci 0, ci 1, ci (2 + s.drv)] (0 + Int.toNat (i : Int) * 1) = true := by
      rcases (by omega : i = 0 ∨ i = 1 ∨ i = 2) with rfl | rfl | rfl <;> rfl
    generalize hrr : (recv3 s)[i] = r at hr1 hr2
    have hwi := wr_nat (show i < 9223372036854775807 by omega)
    have hii : (i : Int) < 3 := by omega
    have hii0 : (0 : Int) ≤ i := by omega
    have hof : (i : Int) < Int.ofNat 3 := hii
    simp only [gi_z, gr_s, gr_z, hii, hii0, hof, decide_true, iteB_eq, if_true, Bool.and_self, chk_true, hr2, hr3]
    rw [loop_acc (payers a b) (fromTwo p s (kO was) day r) 1 6 (fun f _ => fromTwo_len p s (kO was) day r f) (fun j => (j : Int)) 5 4 es (by omega) ?hv (fun j hj es' hes' => ?hs') (fun es' => ?he')]
    case hv => rfl
    case he' => simp [ints]
    case hs' =>
      have hl2 := payers_len a b
      have hw2 := wr_nat (show j < 9223372036854775807 by omega)
      have hel : el (ints (payers a b)) (j : Int) = [ci (payers a b)[j]] := el_map hj
      have hin : inb (j : Int) (ints (payers a b)) = true := inb_map hj
      have hill : il (ints (payers a b)) = (payers a b).length := il_map _ _
      have hjj : (j : Int) < (payers a b).length := by omega
      generalize (payers a b)[j] = f at hel
      have hfit : fitA es'.length 1 40 = true := fitA_of (by omega) (by omega)
      have p1 := w_paid' n p s day f i hp hs (fun _ => hd) (by omega)
      have p2 := w_paid' n p s was f i hp hs hw (by omega)
      rw [hkd] at p1
      have b1 := paid_bounds hp hs (some day) (fun d h => by cases h; exact hd) f i
      have b2 := paid_bounds hp hs (kO was) hkw f i
      have hwn : wr (paid p s (some day) f i - paid p s (kO was) f i) = paid p s (some day) f i - paid p s (kO was) f i := by rw [wr_of] <;> omega
      simp only [gi_z, gr_s, gr_z, hill, hjj, hel, hin, oks_cons0, ok_ci, oks_z, decide_true, iteB_eq, if_true, Bool.and_self, chk_true, p1, p2, callO_val, hwn, hfit, hw2]
      unfold fromTwo toOne
      rw [hr1]
      by_cases f0 : f < 0
      · simp [f0]
      · by_cases f1 : f = r.2
        · simp [f0, f1]
        · by_cases f2 : (i : Int) = 2
          · have f2' : i = 2 := by omega
            subst f2'
            by_cases f3 : s.drv = 0
            · simp [f0, f1, f3]
            · by_cases f4 : paid p s (some day) f 2 - paid p s (kO was) f 2 = 0
              · simp [f0, f1, f3, f4]
              · simp [f0, f1, f3, f4, Post.cv]
          · have f2' : ¬ i = 2 := by omega
            by_cases f4 : paid p s (some day) f i - paid p s (kO was) f i = 0
            · simp [f0, f1, f2, f2', f4]
            · simp [f0, f1, f2, f2', f4, Post.cv]
    · simp [hwi]
  · simp
def wasI (l : List Int) (i : Nat) : Int := if h : 0 < i ∧ i - 1 < l.length then l[i - 1]'h.2 else -1
@[simp] theorem w_posts' (n : Nat) (p : Acc) (l : List Int) (hp : p.ok = true) (hl : daysOk l = true) : D (n + 9) n_r06_posts [.row 24 (p.ts.map Tariff.cv), .row 9 (p.ss.map Held.cv), .row 7 (p.ns.map Note.cv), .row 1 (ints l)] = some [.row 5 ((postsGo p none l).map Post.cv)] := by
  rw [q_r06_posts]
  unfold R_r06_posts
  obtain ⟨hdays, h12⟩ := cv_days hl
  obtain ⟨_, h60, _⟩ := p.ok_len hp
  rw [postsGo_eq, flatMap_cv]
  have hpl := prs_len l
  have key : ∀ k, k ≤ l.length → (((prs none l).take k).flatMap fun x => (p.ss.flatMap fun s => posted p s x.1 x.2).map Post.cv).length ≤ k * 18000 := by
    intro k
    induction k with
    | zero => intro _; simp
    | succ k ih =>
      intro h
      have := day_len p hp ((prs none l)[k]'(by omega))
      have := ih (by omega)
      rw [take_succ (by omega), List.flatMap_append, List.length_append]
      simp only [List.flatMap_cons, List.flatMap_nil, List.append_nil]
      omega
  rw [loop_ix l.length (fun i => [ci (wasI l i), ci (i : Int), .row 5 (((prs none l).take i).flatMap fun x => (p.ss.flatMap fun s => posted p s x.1 x.2).map Post.cv)]) (some (.br 0 [.row 5 ((prs none l).flatMap fun x => (p.ss.flatMap fun s => posted p s x.1 x.2).map Post.cv)])) ?hv (fun i hi => ?hs) ?he (by simp)]
  case hv => rfl
  case he =>
    have e : (prs none l).take l.length = prs none l := by rw [← hpl, List.take_length]
    simp [ints, e]
  case hs =>
    have hi' : i < (prs none l).length := by omega
    obtain ⟨g2, g1⟩ := prs_get l i hi'
    have hki := key i (by omega)
    rw [take_succ hi', List.flatMap_append]
    simp only [List.flatMap_cons, List.flatMap_nil, List.append_nil]
    generalize hes : (((prs none l).take i).flatMap fun x => (p.ss.flatMap fun s => posted p s x.1 x.2).map Post.cv) = es at hki
    generalize hx : (prs none l)[i] = x at g1 g2
    have hd1 : isDay l[i] = true := hdays _ (List.getElem_mem hi)
    have hw := wr_nat (show i < 9223372036854775807 by omega)
    have hel : el (ints l) (i : Int) = [ci l[i]] := el_map hi
    have hin : inb (i : Int) (ints l) = true := inb_map hi
    have hill : il (ints l) = l.length := il_map _ _
    have hii : (i : Int) < l.length := by omega
    have hwas1 : wasI l (i + 1) = l[i] := by unfold wasI; rw [dif_pos ⟨by omega, by simpa using hi⟩]; rfl
    have hwas : kO (wasI l i) = x.1 ∧ (0 ≤ wasI l i → isDay (wasI l i) = true) := by
      unfold wasI
      by_cases h0 : i = 0
      · subst h0
        rw [dif_neg (by simp)]
        rw [dif_pos rfl] at g1
        rw [g1]
        exact ⟨rfl, fun h => absurd h (by decide)⟩
      · have hm : i - 1 < l.length := by omega
        rw [dif_pos ⟨by omega, hm⟩]
        rw [dif_neg h0] at g1
        have hdd : isDay (l[i - 1]'hm) = true := hdays _ (List.getElem_mem hm)
        have hnn := isDay_nn hdd
        rw [g1]
        refine ⟨?_, fun _ => hdd⟩
        unfold kO; rw [if_neg (by omega)]
    simp only [gi_z, gi_s, gr_s, gr_z, hill, hii, decide_true, iteB_eq, if_true, hin, hel, chk_true, oks_cons0, ok_ci, oks_z, Bool.and_self]
    rw [loop_acc p.ss (fun s => (posted p s x.1 x.2).map Post.cv) 300 220000 (fun s _ => by rw [List.length_map]; exact posted_len p s x.1 x.2) (fun j => (j : Int)) 5 2 es (by omega) ?hv2 (fun j hj es' hes' => ?hs2) (fun es' => ?he2)]
    case hv2 => rfl
    case he2 => simp
    case hs2 =>
      have hjs : p.ss[j].ok = true := p.ok_s hp (List.getElem_mem hj)
      generalize hsj : p.ss[j] = s at hjs
      have hw2 := wr_nat (show j < 9223372036854775807 by omega)
      have hel2 : el (p.ss.map Held.cv) (j : Int) = s.cv := by rw [el_map hj, hsj]
      have hin2 : inb (j : Int) (p.ss.map Held.cv) = true := inb_map hj
      have hjj : (j : Int) < p.ss.length := by omega
      have hok9 : oks (List.replicate 9 li) s.cv 0 = true := rfl
      have hwp := w_posted' n p s (wasI l i) l[i] hp hjs hwas.2 hd1
      rw [hwas.1, ← g2] at hwp
      have hlen := posted_len p s x.1 x.2
      have hfit : fitA es'.length ((posted p s x.1 x.2).map Post.cv).length 40 = true := by
        rw [List.length_map]; exact fitA_of (by omega) (by omega)
      have hcis : cat [[.row 24 (p.ts.map Tariff.cv), .row 9 (p.ss.map Held.cv), .row 7 (p.ns.map Note.cv)], cis s.cv 0 9, [ci (wasI l i), ci x.2]] = [.row 24 (p.ts.map Tariff.cv), .row 9 (p.ss.map Held.cv), .row 7 (p.ns.map Note.cv), ci s.src, ci s.beast, ci s.sort, ci s.eats, ci s.worth, ci s.drv, ci s.day, ci s.known, ci s.til, ci (wasI l i), ci x.2] := rfl
      have hx2 : l[i] = x.2 := g2.symm
      simp only [gi_z, gr_s, gr_z, il_map, hjj, decide_true, iteB_eq, if_true, hin2, hel2, hok9, chk_true, hx2, hcis, hwp, callO_val, hfit, hw2]
    · simp only [blkO_br, gr_z, hin, hel, chk_true, oks_cons0, ok_ci, oks_z, Bool.and_self, gi_z, hw, hwas1, flatMap_cv]
  · simp
@[simp] theorem w_Posts' (n : Nat) (p : Acc) (l : List Int) (hp : p.fits) (hl : l.length < 100000000000000000) : D (n + 10) n_r06_Posts [.row 24 (p.ts.map Tariff.cv), .row 9 (p.ss.map Held.cv), .row 7 (p.ns.map Note.cv), .row 1 (ints l)] = some [.row 5 ((posts p l).1.map Post.cv), ci (posts p l).2] := by
  rw [q_r06_Posts]
  simp only [R_r06_Posts, w_Check' _ _ hp, callO_val, gi_z, bne_dec, iteB_eq, check]
  cases hok : p.ok with
  | false => simp [posts, hok]
  | true =>
    cases hd : daysOk l <;> simp [posts, hok, hd, hl]
end Go.Proofs.Ytabhbdehbpmpkaa
namespace Go.Proofs.Ytabhbdehbpmpkaa
open Go Go.Sx Go.Fine
set_option maxRecDepth 10000
attribute [local simp] Bool.and_assoc Bool.or_assoc
theorem posts_len (p : Acc) (l : List Int) : (posts p l).1.length ≤ 216000 := by
  unfold posts
  split
  · rename_i hp
    split
    · rename_i hl
      obtain ⟨_, h12⟩ := cv_days hl
      have hpl := prs_len l
      have key : ∀ (m : List (Option Int × Int)), (m.flatMap fun x => (p.ss.flatMap fun s => posted p s x.1 x.2)).length ≤ m.length * 18000 := by
        intro m
        induction m with
        | nil => simp
        | cons x m ih =>
          have := day_len p hp x
          rw [List.length_map] at this
          rw [List.flatMap_cons, List.length_append, List.length_cons]; omega
      have := key (prs none l)
      simp only
      rw [postsGo_eq]; omega
    · simp
  · simp
def balS (party a : Int) (x : Post) : Int := if x.frm = party then wr ((if x.to = party then wr (a + x.amt) else a) - x.amt) else (if x.to = party then wr (a + x.amt) else a)
def balW (party : Int) (l : List Post) : Int := l.foldl (balS party) 0
def balOf (p : Acc) (l : List Int) (party : Int) : Int × Int :=
  if (posts p l).2 ≠ 0 then (0, (posts p l).2) else if within party 0 101 = false then (0, 68) else (balW party (posts p l).1, 0)
@[simp] theorem w_Balance (n : Nat) (p : Acc) (l : List Int) (x : Int) (hp : p.fits) (hl : l.length < 100000000000000000) : D (n + 10) n_fine_Balance [.row 24 (p.ts.map Tariff.cv), .row 9 (p.ss.map Held.cv), .row 7 (p.ns.map Note.cv), .row 1 (ints l), ci x] = some [ci (balOf p l x).1, ci (balOf p l x).2] := by
  rw [q_fine_Balance]
  unfold R_fine_Balance
  rw [w_Posts _ _ _ hp hl]
  have hlen := posts_len p l
  simp only [callO_val, gr_z, gi_s, gi_z, bne_dec, iteB_eq, w_within, gb_z]
  generalize hm : (posts p l).1 = m at hlen
  by_cases h0 : (posts p l).2 = 0
  · cases hx : within x 0 101 with
    | false => simp [balOf, h0, hx]
    | true =>
      simp only [h0, decide_true, Bool.not_true, Bool.false_eq_true, if_false]
      rw [loop_foldl m (fun i s => [ci s, ci (i : Int)]) (balS x) 0 (fun s => [ci s]) 0 ?hv (fun i hi s => ?hs) (fun s => ?he)]
      case hv => rfl
      case he => simp
      case hs =>
        have hw := wr_nat (show i < 9223372036854775807 by omega)
        by_cases c1 : m[i].to = x <;> by_cases c2 : m[i].frm = x <;> simp [hi, inb_map, el_map, Post.cv, hw, balS, c1, c2]
      · simp [balOf, h0, hx, balW, hm]
  · simp [balOf, h0]
@[simp] theorem w_Balance' (n : Nat) (p : Acc) (l : List Int) (x : Int) (hp : p.fits) (hl : l.length < 100000000000000000) : D (n + 11) n_r06_Balance [.row 24 (p.ts.map Tariff.cv), .row 9 (p.ss.map Held.cv), .row 7 (p.ns.map Note.cv), .row 1 (ints l), ci x] = some [ci (balOf p l x).1, ci (balOf p l x).2] := by
  rw [q_r06_Balance]
  unfold R_r06_Balance
  rw [w_Posts' _ _ _ hp hl]
  have hlen := posts_len p l
  simp only [callO_val, gr_z, gi_s, gi_z, bne_dec, iteB_eq, w_In, gb_z]
  generalize hm : (posts p l).1 = m at hlen
  by_cases h0 : (posts p l).2 = 0
  · cases hx : within x 0 101 with
    | false => simp [balOf, h0, hx]
    | true =>
      simp only [h0, decide_true, Bool.not_true, Bool.false_eq_true, if_false]
      rw [loop_foldl m (fun i s => [ci s, ci (i : Int)]) (balS x) 0 (fun s => [ci s]) 0 ?hv (fun i hi s => ?hs) (fun s => ?he)]
      case hv => rfl
      case he => simp
      case hs =>
        have hw := wr_nat (show i < 9223372036854775807 by omega)
        by_cases c1 : m[i].to = x <;> by_cases c2 : m[i].frm = x <;> simp [hi, inb_map, el_map, Post.cv, hw, balS, c1, c2]
      · simp [balOf, h0, hx, balW, hm]
  · simp [balOf, h0]
def checkPosts (p : Acc) (l : List Int) (m : List Post) : Int := if (posts p l).2 ≠ 0 then (posts p l).2 else if sameL eqP (posts p l).1 m = false then 67 else 0
@[simp] theorem w_CheckPosts (n : Nat) (p : Acc) (l : List Int) (m : List Post) (hp : p.fits) (hl : l.length < 100000000000000000) : D (n + 10) n_fine_CheckPosts [.row 24 (p.ts.map Tariff.cv), .row 9 (p.ss.map Held.cv), .row 7 (p.ns.map Note.cv), .row 1 (ints l), .row 5 (m.map Post.cv)] = some [ci (checkPosts p l m)] := by
  rw [q_fine_CheckPosts]
  have hlen := posts_len p l
  have hq := w_Equal (n + 8) (posts p l).1 m (by omega)
  simp only [R_fine_CheckPosts, w_Posts _ _ _ hp hl, callO_val, gr_z, gi_s, gi_z, hq]
  by_cases h0 : (posts p l).2 = 0
  · cases hx : sameL eqP (posts p l).1 m <;> simp [checkPosts, h0, hx]
  · simp [checkPosts, h0]
@[simp] theorem w_CheckPosts' (n : Nat) (p : Acc) (l : List Int) (m : List Post) (hp : p.fits) (hl : l.length < 100000000000000000) : D (n + 11) n_r06_CheckPosts [.row 24 (p.ts.map Tariff.cv), .row 9 (p.ss.map Held.cv), .row 7 (p.ns.map Note.cv), .row 1 (ints l), .row 5 (m.map Post.cv)] = some [ci (checkPosts p l m)] := by
  rw [q_r06_CheckPosts]
  have hlen := posts_len p l
  have hq := w_Same (n + 9) (posts p l).1 m (by omega)
  simp only [R_r06_CheckPosts, w_Posts' _ _ _ hp hl, callO_val, gr_z, gi_s, gi_z, hq]
  by_cases h0 : (posts p l).2 = 0
  · cases hx : sameL eqP (posts p l).1 m <;> simp [checkPosts, h0, hx]
  · simp [checkPosts, h0]
theorem w_FinePosts (n : Nat) (p : Acc) (l : List Int) (m : List Post) (hp : p.fits) (hl : l.length < 100000000000000000) : D (n + 13) n_law06_FinePosts [.row 24 (p.ts.map Tariff.cv), .row 9 (p.ss.map Held.cv), .row 7 (p.ns.map Note.cv), .row 1 (ints l), .row 5 (m.map Post.cv)] = some [cb true] := by
  rw [q_law06_FinePosts]
  have h0 := w_sane n
  have a1 := w_Posts (n + 3) p l hp hl
  have a2 := w_Posts' (n + 2) p l hp hl
  have hlen := posts_len p l
  have b1 := w_Same (n + 11) (posts p l).1 (posts p l).1 (by omega)
  rw [sameL_refl _ eqP_refl] at b1
  have c1 := w_CheckPosts (n + 2) p l m hp hl
  have c2 := w_CheckPosts' (n + 1) p l m hp hl
  have d1 := fun x => w_Balance (n + 2) p l x hp hl
  have d2 := fun x => w_Balance' (n + 1) p l x hp hl
  cases m with
  | nil =>
    simp only [List.map_nil] at c1 c2
    have hi0 : il ([] : List (List CV)) = 0 := rfl
    simp [R_law06_FinePosts, h0, a1, a2, b1, c1, c2, d1, d2, hi0]
  | cons y m =>
    simp only [List.map_cons, Post.cv] at c1 c2
    have hi : ∀ (c : List CV) (cs : List (List CV)), inb 0 (c :: cs) = true := fun c cs => by simp [inb, il_def]
    have hlt : (0 : Int) < (m.length : Int) + 1 := by omega
    simp [R_law06_FinePosts, h0, a1, a2, b1, c1, c2, d1, d2, Post.cv, hi, il_def, hlt]
end Go.Proofs.Ytabhbdehbpmpkaa
namespace Go.Proofs.Ytabhbdehbpmpkaa
open Go Go.Sx Go.Fine
set_option maxRecDepth 100000
theorem shp_slice_int {n : Nat} {c : List CV} (h : Shp Try.prog (n + 2) 73 c) : ∃ l : List Int, l.length < 100000000000000 ∧ c = [.row 1 (ints l)] := by
  have c3 : Try.prog.cellsOf 3 = 1 := by kernel_rfl
  have b3 : Try.prog.bytesOf 3 = 8 := by kernel_rfl
  rw [Shp] at h
  simp only [Try.underlying73, c3, b3] at h
  obtain ⟨e1, rfl, r1, s1⟩ := h
  obtain ⟨l1, rfl⟩ := rows_cv (cv := fun x : Int => [ci x]) fun x hx => by
    obtain ⟨m, rfl, _⟩ := shp_int (r1 x hx)
    exact ⟨m, rfl⟩
  simp only [List.length_map] at s1
  exact ⟨l1, reach_len s1 (by decide), rfl⟩
theorem shp_post {n : Nat} {c : List CV} (h : Shp Try.prog (n + 2) 86 c) : ∃ t : Post, c = t.cv := by
  rw [Shp] at h
  simp only [Try.underlying86, List.map_cons, List.map_nil, ShpL] at h
  obtain ⟨_, _, rfl, h1, _, _, rfl, h2, _, _, rfl, h3, _, _, rfl, h4, _, _, rfl, h5, rfl⟩ := h
  obtain ⟨m1, rfl, _⟩ := shp_int h1
  obtain ⟨m2, rfl, _⟩ := shp_int h2
  obtain ⟨m3, rfl, _⟩ := shp_int h3
  obtain ⟨m4, rfl, _⟩ := shp_int h4
  obtain ⟨m5, rfl, _⟩ := shp_int h5
  exact ⟨⟨m1, m2, m3, m4, m5⟩, rfl⟩
theorem shp_posts {n : Nat} {c : List CV} (h : Shp Try.prog (n + 3) 82 c) : ∃ l : List Post, l.length < 100000000000000 ∧ c = [.row 5 (l.map Post.cv)] := by
  have c3 : Try.prog.cellsOf 86 = 5 := by kernel_rfl
  have b3 : Try.prog.bytesOf 86 = 40 := by kernel_rfl
  rw [Shp] at h
  simp only [Try.underlying82, c3, b3] at h
  obtain ⟨e1, rfl, r1, s1⟩ := h
  obtain ⟨l1, rfl⟩ := rows_cv fun x hx => shp_post (r1 x hx)
  simp only [List.length_map] at s1
  exact ⟨l1, reach_len s1 (by decide), rfl⟩
end Go.Proofs.Ytabhbdehbpmpkaa
namespace Go.Proofs.Ytabhbdehbpmpkaa
open Go Go.Sx Go.Fine Go.ChangeShapes Go.WideShapes Go.ChangeAt Go.RowKit
set_option maxRecDepth 100000
theorem Try.own : ownKnob Try.prog.godebug = none := by kernel_rfl
theorem Try.kids : Kids Try.prog (· < Try.prog.types.size) := kids_rows (by kernel_rfl) (by kernel_rfl)
theorem Try.full : ∀ t e, t < Try.prog.types.size → Try.prog.underlying t = some (.slice e) → 0 < Try.prog.cellsOf e := slices_full_of Try.prog (by kernel_rfl)
theorem spec_of {f : FuncId} {g : Sig} {vs out : List CV} {n : Nat} (hg : sg f = some g) (h : D n f vs = some out) : SpecR Try.prog f (Sc.avs g.ps vs 0) (Sc.res g.rs out) := (den_fns its_ok tb_ok n).spec f g vs out hg h
end Go.Proofs.Ytabhbdehbpmpkaa
namespace Go.Proofs.Ytabhbdehbpmpkaa
open Go Go.Sx Go.Fine Go.ChangeShapes Go.WideShapes Go.ChangeAt Go.RowKit
set_option maxRecDepth 100000
theorem finePosts_spec (css : List (List CV)) (h : ShpAll Try.prog 6 Try.f9.params.toList css) : SpecR Try.prog 9 (avsOf Try.prog Try.f9.params.toList css) (.cv (cb true)) := by
  rw [Try.params9] at h ⊢
  match css, h with
  | [c1, c2, c3], h =>
    simp only [ShpAll, and_true] at h
    obtain ⟨h1, h2, h3⟩ := h
    obtain ⟨p0, hp0, rfl⟩ := shp_acc h1
    obtain ⟨l1, hp1, rfl⟩ := shp_slice_int h2
    obtain ⟨l2, _, rfl⟩ := shp_posts h3
    exact spec_of (g := fe9.g) rfl (w_FinePosts 0 p0 l1 l2 hp0 (by omega))
  | [], h => simp [ShpAll] at h
  | [_], h => simp [ShpAll] at h
  | [_, _], h => simp [ShpAll] at h
  | _ :: _ :: _ :: _ :: _, h => simp [ShpAll] at h
theorem finePosts_lifted (os : Os) (started : os.Started) (H : Type) (enc : TypeId × Value → H) :
    ReturnsInHanded {} Try.checked os 9 .any (Rows.finePostsSpec.pre6 enc Try.prog Try.f9 Rows.finePostsRow.domain false) (Rows.finePostsSpec.post enc Try.prog Try.f9 false true false false) :=
  law_lift (C := Try.checked) (tb := 4) 6 Try.own started (by kernel_rfl) Try.func9 Try.kids Try.full
    (by rw [Try.params9]; intro t ht; simp only [List.mem_cons, List.not_mem_nil, or_false] at ht; rcases ht with rfl | rfl | rfl <;> exact of_decide_eq_true (by kernel_rfl))
    (by kernel_rfl) (by rfl) Try.underlying4 rfl
    (fun ds h => by
      rw [Try.params9] at h
      match ds, h with
      | [_, _, _], _ => rfl)
    (ChangeSpec.witness6 (enc := enc) (C := Try.checked) false ⟨#[], #[.agg #[.slice none 0 0, .slice none 0 0, .slice none 0 0], .slice none 0 0, .slice none 0 0], []⟩ 8 (by kernel_rfl) (by kernel_rfl) (by kernel_rfl) (by kernel_rfl))
    finePosts_spec
theorem finePosts_holds : Rows.FinePostsSaid :=
  OpenClaim.holds_of_wide 9 Try.f9 rfl rfl rfl rfl rfl rfl rfl ⟨rfl, rfl, rfl, rfl, rfl⟩ rfl rfl rfl rfl rfl (by kernel_rfl) Try.func9 (by kernel_rfl)
    (of_decide_eq_true (by kernel_rfl)) (by unfold Func.isWrapper; first | (rw [if_pos (by decide +kernel)]; kernel_rfl) | (rw [if_neg (by decide +kernel)]; exact ⟨rfl, rfl⟩))
    (fun os started H enc _ => finePosts_lifted os started H enc)
end Go.Proofs.Ytabhbdehbpmpkaa
