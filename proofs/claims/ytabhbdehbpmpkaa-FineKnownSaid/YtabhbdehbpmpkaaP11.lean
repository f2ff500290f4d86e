/-
  Proved: what is as known on a day does not depend on what becomes known later; where a source moves nothing, no due is another one without it, and where it does, just the stays of Moved have other ones; conditions: none.
-/
import Derived.Test.YtabhbdehbpmpkaaRows
import Derived.Test.YtabhbdehbpmpkaaP10
namespace Go.Proofs.Ytabhbdehbpmpkaa
open Go Go.Sx Go.Fine
set_option maxRecDepth 10000
attribute [local simp] Bool.and_assoc Bool.or_assoc
theorem duesOf_none {p : Acc} (hp : p.ok = true) {y k : Int} (hk : isDay k = true) (h : ∀ t ∈ p.ss, t.src ≠ y) : duesOf p y k = (⟨0, 0, 0, 0⟩, 65) := by
  unfold duesOf; rw [stayOf_none hp hk h]; rfl
theorem dues_now {p : Acc} (hp : p.ok = true) {s : Held} (hs : s ∈ p.ss) {k : Int} (hk : isDay k = true) : duesOf (nowOf p k) s.src k = duesOf p s.src k := by
  rw [duesOf_src hp hs hk]
  by_cases h : s.known ≤ k
  · have hm : cutH k s ∈ (nowOf p k).ss := List.mem_map.2 ⟨s, List.mem_filter.2 ⟨hs, by simpa using h⟩, rfl⟩
    have := duesOf_src (now_ok hp k) hm hk
    have e1 : (cutH k s).src = s.src := rfl
    have e2 : counts (cutH k s).known (cutH k s).til k = counts s.known s.til k := cut_counts _ _ _
    rw [e1, e2, due_now] at this
    exact this
  · have hc : counts s.known s.til k = false := by simp [counts, h]
    rw [hc, duesOf_none (now_ok hp k) hk]
    · rfl
    · intro t ht e
      obtain ⟨u, hu, rfl⟩ := List.mem_map.1 ht
      obtain ⟨h1, h2⟩ := List.mem_filter.1 hu
      have : u = s := Acc.ss_inj hp h1 hs e
      subst this
      exact h (by simpa using h2)
theorem dues_less {p : Acc} (hp : p.ok = true) {s : Held} (hs : s ∈ p.ss) {k : Int} (hk : isDay k = true) (y : Int) : duesOf (without p y) s.src k = if s.src = y then (⟨0, 0, 0, 0⟩, 65) else if counts s.known s.til k = true then (dueOf (without p y) s k, 0) else (⟨0, 0, 0, 0⟩, 65) := by
  by_cases h : s.src = y
  · rw [if_pos h, duesOf_none (without_ok hp y) hk]
    intro t ht e
    obtain ⟨h1, h2⟩ := List.mem_filter.1 ht
    simp [e, h] at h2
  · rw [if_neg h]
    exact duesOf_src (without_ok hp y) (List.mem_filter.2 ⟨hs, by simp [h]⟩) hk
theorem w_FineKnown (n : Nat) (r : Raw) (a b : Int) (hr : r.fits) : D (n + 13) n_law06_FineKnown [.row 6 (r.ts.map R6.cv), .row 7 (r.ss.map R7.cv), .row 6 (r.ns.map R6.cv), ci a, ci b] = some [cb true] := by
  rw [q_law06_FineKnown]
  unfold R_law06_FineKnown
  have h0 := w_sane n
  have hm := w_Made (n + 10) r hr
  have hp := made_ok r
  have hf := Acc.ok_fits hp
  rw [h0, callO_val, hm, callO_val]
  simp only [gr_z, gr_s, gb_z, il_map]
  generalize made r = p at *
  obtain ⟨l0, l1, l2⟩ := Acc.ok_len hp
  have hm700 := w_Mod (n + 11) a 700 (by omega) (by omega)
  have hm18 := w_Mod (n + 11) b 18 (by omega) (by omega)
  have hk0 : 0 ≤ a % 700 := by omega
  have hk1 : a % 700 < 700 := by omega
  have w10 : wr (10 + b % 18) = 10 + b % 18 := by rw [wr_of] <;> omega
  generalize a % 700 = k at *
  have hk := isDay_of hk0 (by omega)
  have ha := ask0 hp hk
  have hfit0 : fitA 0 (p.ts.map Tariff.cv).length 192 = true := fitA_of (by simp; omega) (by simp; omega)
  rw [hm700, callO_val, hfit0, chk_true]
  simp only [gi_z]
  rw [loop_ix p.ss.length (fun i => [ci (i : Int), .row 24 (p.ts.map Tariff.cv), .row 7 [], .row 9 ((((p.ss.take i).filter fun s => decide (s.known ≤ k)).map (cutH k)).map Held.cv)]) (some (.br 0 [.row 24 (p.ts.map Tariff.cv), .row 7 [], .row 9 ((nowOf p k).ss.map Held.cv)])) ?hv (fun i hi => ?hs) ?he (by simp)]
  case hv => rfl
  case he => simp [nowOf]
  case hs =>
    have hw := wr_nat (show i < 9223372036854775807 by omega)
    have hii : (i : Int) < p.ss.length := by omega
    have hel : el (p.ss.map Held.cv) (i : Int) = Held.cv p.ss[i] := el_map hi
    have hin : inb (i : Int) (p.ss.map Held.cv) = true := inb_map hi
    have hfl := filter_len (fun s : Held => decide (s.known ≤ k)) (p.ss.take i)
    have htl : (p.ss.take i).length ≤ 60 := by simp; omega
    have hfit : fitA ((p.ss.take i).filter fun s => decide (s.known ≤ k)).length 1 72 = true := fitA_of (by omega) (by omega)
    rw [take_succ hi, List.filter_append]
    generalize p.ss[i] = s at *
    have hok9 : oks (List.replicate 9 li) (Held.cv s) 0 = true := rfl
    have g8 : gi (Held.cv s) 8 = s.til := rfl
    have c0 : cat [cis (Held.cv s) 0 8, [ci 0]] = [ci s.src, ci s.beast, ci s.sort, ci s.eats, ci s.worth, ci s.drv, ci s.day, ci s.known, ci 0] := rfl
    have c1 : cis (Held.cv s) 0 9 = Held.cv s := rfl
    have g7 : gi (Held.cv s) 7 = s.known := rfl
    have c2 : chunk 9 1 (Held.cv s) = [Held.cv s] := rfl
    simp only [gi_z, gi_s, gr_z, gr_s, hii, decide_true, iteB_t, hin, hel, hok9, chk_true, g8, c0, c1]
    by_cases h1 : s.til > k <;> by_cases h2 : s.known ≤ k
    · simp [h1, h2, hfit, hw, cutH, Held.cv]
    · simp [h1, h2, hfit, hw]
    · simp [h1, h2, hfit, hw, cutH, Held.cv]
    · simp [h1, h2, hfit, hw, g7]
  rw [blkO_br]
  simp only [gr_z, gr_s]
  rw [loop_ix p.ns.length (fun i => [ci (i : Int), .row 24 (p.ts.map Tariff.cv), .row 7 ((((p.ns.take i).filter fun s => decide (s.known ≤ k)).map (cutN k)).map Note.cv), .row 9 ((nowOf p k).ss.map Held.cv)]) (some (.br 2 [.row 24 (p.ts.map Tariff.cv), .row 7 ((nowOf p k).ns.map Note.cv), .row 9 ((nowOf p k).ss.map Held.cv)])) ?hv (fun i hi => ?hs) ?he (by simp)]
  case hv => rfl
  case he => simp [nowOf]
  case hs =>
    have hw := wr_nat (show i < 9223372036854775807 by omega)
    have hii : (i : Int) < p.ns.length := by omega
    have hel : el (p.ns.map Note.cv) (i : Int) = Note.cv p.ns[i] := el_map hi
    have hin : inb (i : Int) (p.ns.map Note.cv) = true := inb_map hi
    have hfl := filter_len (fun s : Note => decide (s.known ≤ k)) (p.ns.take i)
    have htl : (p.ns.take i).length ≤ 60 := by simp; omega
    have hfit : fitA ((p.ns.take i).filter fun s => decide (s.known ≤ k)).length 1 56 = true := fitA_of (by omega) (by omega)
    rw [take_succ hi, List.filter_append]
    generalize p.ns[i] = s at *
    have hok9 : oks (List.replicate 7 li) (Note.cv s) 0 = true := rfl
    have g8 : gi (Note.cv s) 6 = s.til := rfl
    have c0 : cat [cis (Note.cv s) 0 6, [ci 0]] = [ci s.src, ci s.stay, ci s.kind, ci s.owner, ci s.day, ci s.known, ci 0] := rfl
    have c1 : cis (Note.cv s) 0 7 = Note.cv s := rfl
    have g7 : gi (Note.cv s) 5 = s.known := rfl
    simp only [gi_z, gi_s, gr_z, gr_s, hii, decide_true, iteB_t, hin, hel, hok9, chk_true, g8, c0, c1]
    by_cases h1 : s.til > k <;> by_cases h2 : s.known ≤ k
    · simp [h1, h2, hfit, hw, cutN, Note.cv]
    · simp [h1, h2, hfit, hw]
    · simp [h1, h2, hfit, hw, cutN, Note.cv]
    · simp [h1, h2, hfit, hw, g7]
  rw [blkO_br, hm18, callO_val]
  simp only [gi_z, gr_z, gr_s, w10]
  generalize 10 + b % 18 = y at *
  have hwo := w_Without (n + 11) p y hp
  have hmv := w_Moved (n + 2) p y k hf
  have hmv2 : movedOf p y k = if hasSrc p y = false then ([], 3) else (((stays p k).filter fun s => !movedOut p (without p y) y k s).map Held.src, 0) := by
    unfold movedOf; rw [if_neg (by rw [ha]; decide)]
  rw [hmv2] at hmv
  rw [hwo, callO_val, hmv, callO_val]
  have hnow := now_ok hp k
  have hless := without_ok hp y
  have fin : ∀ (mv : List Int) (fd : Bool), (∀ s ∈ p.ss, fd = true → (mv.any fun z => decide (z = s.src)) = (counts s.known s.til k && !movedOut p (without p y) y k s)) → mv.length ≤ 60 →
    loopD (fun v9 =>
          iteB (decide ((gi v9 0) < (il (p.ss.map Held.cv))))
            (chk (inb (gi v9 0) (p.ss.map Held.cv)) <|
            chk (oks [li] (List.drop 0 (el (p.ss.map Held.cv) (gi v9 0))) 0) <|
            callO (D (n + 12) n_fine_Dues [.row 24 (p.ts.map Tariff.cv), .row 9 (p.ss.map Held.cv), .row 7 (p.ns.map Note.cv), ci (gi (List.drop 0 (el (p.ss.map Held.cv) (gi v9 0))) 0), ci k]) fun v10 =>
            chk (inb (gi v9 0) (p.ss.map Held.cv)) <|
            chk (oks [li] (List.drop 0 (el (p.ss.map Held.cv) (gi v9 0))) 0) <|
            callO (D (n + 12) n_fine_Dues [.row 24 (p.ts.map Tariff.cv), .row 9 ((nowOf p k).ss.map Held.cv), .row 7 ((nowOf p k).ns.map Note.cv), ci (gi (List.drop 0 (el (p.ss.map Held.cv) (gi v9 0))) 0), ci k]) fun v11 =>
            chk (inb (gi v9 0) (p.ss.map Held.cv)) <|
            chk (oks [li] (List.drop 0 (el (p.ss.map Held.cv) (gi v9 0))) 0) <|
            callO (D (n + 12) n_fine_Dues [.row 24 ((without p y).ts.map Tariff.cv), .row 9 ((without p y).ss.map Held.cv), .row 7 ((without p y).ns.map Note.cv), ci (gi (List.drop 0 (el (p.ss.map Held.cv) (gi v9 0))) 0), ci k]) fun v12 =>
            seqO (iteB (!(((gi v10 0) == (gi v11 0)) && (((gi v10 1) == (gi v11 1)) && (((gi v10 2) == (gi v11 2)) && (((gi v10 3) == (gi v11 3)) && true)))))
                (some (.nx [cb true]))
                (iteB ((gi v10 4) != (gi v11 4))
                  (some (.nx [cb true]))
                  (iteB fd
                    (chk (inb (gi v9 0) (p.ss.map Held.cv)) <|
                    chk (oks [li] (List.drop 0 (el (p.ss.map Held.cv) (gi v9 0))) 0) <|
                    callO (D (n + 12) n_r06_Has [CV.row 1 (ints mv), ci (gi (List.drop 0 (el (p.ss.map Held.cv) (gi v9 0))) 0)]) fun v13 =>
                    iteB (((gi v10 0) == (gi v12 0)) && (((gi v10 1) == (gi v12 1)) && (((gi v10 2) == (gi v12 2)) && (((gi v10 3) == (gi v12 3)) && true))))
                      (some (.nx [cb ((gb v13 0) == ((gi v10 4) == (gi v12 4)))]))
                      (some (.nx [cb ((gb v13 0) == false)])))
                    (some (.nx [cb false]))))) fun v13 =>
            iteB (gb v13 0)
              (some (.ret [cb false]))
              (some (.nx [ci (wr ((gi v9 0) + 1))])))
            (some (.br 4 []))) [ci 0] = some (.br 4 []) := by
    intro mv fd hmvd hmvl
    rw [loop_ix p.ss.length (fun i => [ci (i : Int)]) (some (.br 4 [])) ?hv (fun i hi => ?hs) ?he (by simp)]
    case hv => rfl
    case he => simp
    case hs =>
      have hw := wr_nat (show i < 9223372036854775807 by omega)
      have hii : (i : Int) < p.ss.length := by omega
      have hel : el (p.ss.map Held.cv) (i : Int) = Held.cv p.ss[i] := el_map hi
      have hin : inb (i : Int) (p.ss.map Held.cv) = true := inb_map hi
      have hs : p.ss[i] ∈ p.ss := List.getElem_mem hi
      generalize p.ss[i] = s at *
      have g0 : gi (List.drop 0 (Held.cv s)) 0 = s.src := rfl
      have o0 : oks [li] (List.drop 0 (Held.cv s)) 0 = true := rfl
      have c1 := w_Dues (n + 1) p s.src k hf
      have c2 := w_Dues (n + 1) (nowOf p k) s.src k (Acc.ok_fits hnow)
      have c3 := w_Dues (n + 1) (without p y) s.src k (Acc.ok_fits hless)
      have c4 := w_Has (n + 11) mv s.src (by omega)
      rw [dues_now hp hs hk] at c2
      have ets : (nowOf p k).ts = p.ts := rfl
      rw [ets] at c2
      rw [dues_less hp hs hk] at c3
      rw [duesOf_src hp hs hk] at c1 c2
      have hq := hmvd s hs
      simp only [gi_z, il_map, hii, decide_true, iteB_t, hin, hel, o0, chk_true, g0, c1, c2, c3, c4, callO_val, beq_self_eq_true, Bool.and_self, Bool.not_true, iteB_f, bne_self_eq_false, gi_s, gb_z, hw]
      cases fd with
      | false => simp only [iteB_f, seqO_nx, gb_z]
      | true =>
        rw [hq rfl]
        simp only [iteB_t]
        cases hc : counts s.known s.til k with
        | false =>
          by_cases e : s.src = y <;> simp [e]
        | true =>
          by_cases e : s.src = y
          · simp [e, movedOut]
          · simp only [if_true, e, if_false, movedOut, decide_false, Bool.not_false, Bool.true_and, eqD, beq_dec, Bool.and_true, decide_true]
            by_cases z1 : (dueOf p s k).payer = (dueOf (without p y) s k).payer <;> by_cases z2 : (dueOf p s k).hay = (dueOf (without p y) s k).hay <;> by_cases z3 : (dueOf p s k).drv = (dueOf (without p y) s k).drv <;> by_cases z4 : (dueOf p s k).lord = (dueOf (without p y) s k).lord <;> simp [z1, z2, z3, z4]
  cases hy : hasSrc p y with
  | false =>
    rw [if_pos rfl]
    have := fin [] false (fun s _ h => by cases h) (by simp)
    simp only [gb_s, gb_z, gi_s, gi_z, gr_z, gr_s, Bool.not_true, iteB_f, Bool.not_false, iteB_t, bne_dec, beq_dec, (by decide : ¬ (3 : Int) = 0), decide_false, decide_true, seqO_nx, Bool.bne_false]
    simp only [il_map] at this
    exact congrArg (fun z => retO (blkO 4 z fun _ => some (.ret [cb true]))) this
  | true =>
    rw [if_neg (by simp)]
    have := fin (((stays p k).filter fun s => !movedOut p (without p y) y k s).map Held.src) true (fun s hs _ => by
      rw [stays_filter, has_src hp hs, Bool.and_comm]) (by have := filter_len (fun s => !movedOut p (without p y) y k s) (stays p k); have := filter_len (fun s => counts s.known s.til k) p.ss; rw [List.length_map]; unfold stays at *; omega)
    simp only [gb_s, gb_z, gi_s, gi_z, gr_z, gr_s, Bool.not_true, iteB_f, Bool.not_false, iteB_t, bne_dec, beq_dec, decide_false, decide_true, seqO_nx, Bool.bne_true]
    simp only [il_map] at this
    exact congrArg (fun z => retO (blkO 4 z fun _ => some (.ret [cb true]))) this
end Go.Proofs.Ytabhbdehbpmpkaa
namespace Go.Proofs.Ytabhbdehbpmpkaa
open Go Go.Sx Go.Fine Go.ChangeShapes Go.WideShapes Go.ChangeAt Go.RowKit
set_option maxRecDepth 100000
theorem Try.own : ownKnob Try.prog.godebug = none := by kernel_rfl
theorem Try.kids : Kids Try.prog (· < Try.prog.types.size) := kids_rows (by kernel_rfl) (by kernel_rfl)
theorem Try.full : ∀ t e, t < Try.prog.types.size → Try.prog.underlying t = some (.slice e) → 0 < Try.prog.cellsOf e := slices_full_of Try.prog (by kernel_rfl)
theorem spec_of {f : FuncId} {g : Sig} {vs out : List CV} {n : Nat} (hg : sg f = some g) (h : D n f vs = some out) : SpecR Try.prog f (Sc.avs g.ps vs 0) (Sc.res g.rs out) := (den_fns its_ok tb_ok n).spec f g vs out hg h
end Go.Proofs.Ytabhbdehbpmpkaa
namespace Go.Proofs.Ytabhbdehbpmpkaa
open Go Go.Sx Go.Fine Go.ChangeShapes Go.WideShapes Go.ChangeAt Go.RowKit
set_option maxRecDepth 100000
theorem fineKnown_spec (css : List (List CV)) (h : ShpAll Try.prog 6 Try.f7.params.toList css) : SpecR Try.prog 7 (avsOf Try.prog Try.f7.params.toList css) (.cv (cb true)) := by
  rw [Try.params7] at h ⊢
  match css, h with
  | [c1, c2, c3], h =>
    simp only [ShpAll, and_true] at h
    obtain ⟨h1, h2, h3⟩ := h
    obtain ⟨p0, hp0, rfl⟩ := shp_raw h1
    obtain ⟨y1, rfl, _⟩ := shp_int h2
    obtain ⟨y2, rfl, _⟩ := shp_int h3
    exact spec_of (g := fe7.g) rfl (w_FineKnown 0 p0 y1 y2 hp0)
  | [], h => simp [ShpAll] at h
  | [_], h => simp [ShpAll] at h
  | [_, _], h => simp [ShpAll] at h
  | _ :: _ :: _ :: _ :: _, h => simp [ShpAll] at h
theorem fineKnown_lifted (os : Os) (started : os.Started) (H : Type) (enc : TypeId × Value → H) :
    ReturnsInHanded {} Try.checked os 7 .any (Rows.fineKnownSpec.pre6 enc Try.prog Try.f7 Rows.fineKnownRow.domain false) (Rows.fineKnownSpec.post enc Try.prog Try.f7 false true false false) :=
  law_lift (C := Try.checked) (tb := 4) 6 Try.own started (by kernel_rfl) Try.func7 Try.kids Try.full
    (by rw [Try.params7]; intro t ht; simp only [List.mem_cons, List.not_mem_nil, or_false] at ht; rcases ht with rfl | rfl | rfl <;> exact of_decide_eq_true (by kernel_rfl))
    (by kernel_rfl) (by rfl) Try.underlying4 rfl
    (fun ds h => by
      rw [Try.params7] at h
      match ds, h with
      | [_, _, _], _ => rfl)
    (ChangeSpec.witness6 (enc := enc) (C := Try.checked) false ⟨#[], #[.agg #[.slice none 0 0, .slice none 0 0, .slice none 0 0], .int .i64 0, .int .i64 0], []⟩ 8 (by kernel_rfl) (by kernel_rfl) (by kernel_rfl) (by kernel_rfl))
    fineKnown_spec
theorem fineKnown_holds : Rows.FineKnownSaid :=
  OpenClaim.holds_of_wide 7 Try.f7 rfl rfl rfl rfl rfl rfl rfl ⟨rfl, rfl, rfl, rfl, rfl⟩ rfl rfl rfl rfl rfl (by kernel_rfl) Try.func7 (by kernel_rfl)
    (of_decide_eq_true (by kernel_rfl)) (by unfold Func.isWrapper; first | (rw [if_pos (by decide +kernel)]; kernel_rfl) | (rw [if_neg (by decide +kernel)]; exact ⟨rfl, rfl⟩))
    (fun os started H enc _ => fineKnown_lifted os started H enc)
end Go.Proofs.Ytabhbdehbpmpkaa
