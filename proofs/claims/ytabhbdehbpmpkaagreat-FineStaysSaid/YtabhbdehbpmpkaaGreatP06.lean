/-
  Proved: what an owner owes, which stays are inside, ended in a way, and moved by a source, are as the chapter says; conditions: none.
-/
import Derived.RangeFuncLeaves
import Derived.RangeFuncNested
import Derived.Test.YtabhbdehbpmpkaaGreatP05
namespace Go.Sx
open Go Go.RowKit
section
variable {F : Fence} {n : Nat} {P : Program} {lo : List Oper} {sg : FuncId → Option Sig} {M : Den} {v0 : Nat}
theorem vns_spec {m : Emb} {i : Nat} : ∀ (x : AV), vName (x.cz m) = some i → i ∈ (vns x).map m.fv
  | .own j g, hn => by simp only [AV.cz, vName, Option.some.injEq] at hn; simp [vns, hn]
  | .opt j g el o, hn => by simp only [AV.cz, vName, Option.some.injEq] at hn; simp [vns, hn]
  | .gd [] x, hn => by rw [AV.cz] at hn; exact vns_spec x hn
  | .gd (_ :: _) x, hn => by simp [AV.cz, vName] at hn
  | .any, hn => by simp [AV.cz, vName] at hn
  | .cv _, hn => by simp [AV.cz, vName] at hn
  | .ptr _ _, hn => by simp [AV.cz, vName] at hn
  | .agg _, hn => by simp [AV.cz, vName] at hn
  | .tup _, hn => by simp [AV.cz, vName] at hn
  | .fn _ _, hn => by simp [AV.cz, vName] at hn
theorem vns_inn {nb nv : Nat} : ∀ (x : AV), AV.inn nb nv x = true → ∀ i ∈ vns x, i < nv
  | .own j g, h, i, hi => by simp only [vns, List.mem_singleton] at hi; subst hi; simpa [AV.inn] using h
  | .opt j g el o, h, i, hi => by simp only [vns, List.mem_singleton] at hi; subst hi; simpa [AV.inn] using h
  | .gd [] x, h, i, hi => by simp only [vns] at hi; exact vns_inn x (by simpa [AV.inn] using h) i hi
  | .gd (_ :: _) x, h, i, hi => by simp [vns] at hi
  | .any, h, i, hi => by simp [vns] at hi
  | .cv _, h, i, hi => by simp [vns] at hi
  | .ptr _ _, h, i, hi => by simp [vns] at hi
  | .agg _, h, i, hi => by simp [vns] at hi
  | .tup _, h, i, hi => by simp [vns] at hi
  | .fn _ _, h, i, hi => by simp [vns] at hi
theorem Ph.set {m m' : Emb} {s : SS} {st : St} (hE : Em m s st) (h : Ph v0 m s st) (hu : m.Up m') (ho : ∀ i, i < m.vm.length → m'.fo i = m.fo i) {j : Nat} {v : Vec} {vst : Vec} (hjl : j < s.V.length) (hl : v.live = true) {s' : SS} {st' : St}
    (hs : s'.V = s.V.set j v) (hst : st'.V = st.V.set (m.fv j) vst) : Ph v0 m' s' st' := by
  intro k w hk hw hd
  rw [hs, List.getElem?_set] at hw
  by_cases hjk : j = k
  · subst hjk
    simp only [if_true, hjl, Option.some.injEq] at hw
    subst hw
    rw [hl] at hd; cases hd
  · rw [if_neg hjk] at hw
    have hkl : k < s.V.length := (List.getElem?_eq_some_iff.1 hw).1
    have hkm : k < m.vm.length := by rw [hE.m.vl]; exact hkl
    rw [hst, hu.v k hkm, List.getElem?_set_ne (fun he => hjk (hE.m.vi j k hjl hkl he)), h k w hk hw hd]
    simp only [Vec.cz, ho k hkm]
theorem isChain_spec {ops : List Oper} {o : Oper} {v : Vec} (h : isChain P ops o = some v) : ∃ T parts, o.op = .buildSlice T 0 parts ∧ parts.toList = [] ∧ v = ⟨true, v.T, v.k, 0, []⟩ ∧ evBuildSlice P ⟨[], [], []⟩ T 0 [] = some (.own 0 0, [], [⟨true, v.T, v.k, 0, []⟩]) := by
  unfold isChain at h
  split at h
  · rename_i T parts hop
    split at h
    · rename_i hc
      simp only [Bool.and_eq_true, List.isEmpty_iff] at hc
      split at h
      · rename_i et k he
        injection h with h
        subst h
        exact ⟨T, parts, hop, hc.2, rfl, he⟩
      · cases h
    · cases h
  · cases h
theorem phAt_spec {V : List Vec} {k j : Nat} (h : phAt v0 V k = some j) : v0 ≤ j ∧ ∃ x, V[j]? = some x ∧ x.live = false ∧ x.k = k := by
  unfold phAt at h
  have h1 := List.find?_some h
  simp only [Bool.and_eq_true, decide_eq_true_eq] at h1
  refine ⟨h1.1, ?_⟩
  have h2 := h1.2
  split at h2
  · rename_i x hx
    simp only [Bool.and_eq_true, Bool.not_eq_true', beq_iff_eq] at h2
    exact ⟨x, hx, h2.1, h2.2⟩
  · cases h2
theorem fill_spec (hF : Free F) {lk : Lk} {m : Emb} {s : SS} {st : St} {o : Oper} {v x : Vec} {j : Nat} {K : FP → AV → List Box → List Vec → Option Ou} {r : Ou} (hE : Em m s st) (hw : Wants lo o st true) (hd : dstOk lk o.dst = true) (hph : Ph v0 m s st)
    (hc : isChain P lo o = some v) (hp : phAt v0 s.V v.k = some j) (hx : s.V[j]? = some x) (hlk : ¬ lk.v.contains j = true) (h : K ⟨[], none, none, some j, [], [], false⟩ (.own j (x.ver + 1)) s.B (s.V.set j ⟨true, v.T, x.k, x.ver + 1, []⟩) = some r) :
    DSpec F n P lo v0 lk m s st o K r := by
  obtain ⟨T, parts, hop, hpp, hv, he⟩ := isChain_spec hc
  obtain ⟨hj, x', hx', hdead, hk⟩ := phAt_spec hp
  rw [hx] at hx'; cases hx'
  have hjl := (List.getElem?_eq_some_iff.1 hx).1
  have hst0 := hph j x hj hx hdead
  have hR := RF_fill (F := F) (n := n) (P := P) (lo := lo) (vb := vbOf m v0) (j := m.fv j) hF hw hop hpp he hst0 hdead hk (fun h => h)
  have hA : (AV.own j (x.ver + 1)).cz m = .own (m.fv j) ((x.cz m j).ver + 1) := by simp [AV.cz, Vec.cz, Nat.add_assoc]
  have hV : (⟨true, v.T, (x.cz m j).k, (x.cz m j).ver + 1, []⟩ : Vec) = (⟨true, v.T, x.k, x.ver + 1, []⟩ : Vec).cz m j := by simp [Vec.cz, Nat.add_assoc]
  have hst : stF o st ((AV.own j (x.ver + 1)).cz m) ⟨none, none, some (m.fv j, ⟨true, v.T, (x.cz m j).k, (x.cz m j).ver + 1, []⟩)⟩ = st.put o.dst ((AV.own j (x.ver + 1)).cz m) st.B (st.V.set (m.fv j) ((⟨true, v.T, x.k, x.ver + 1, []⟩ : Vec).cz m j)) := by
    simp only [stF, Eff.B, Eff.V, Option.toList_none, List.append_nil, hV]
  refine ⟨⟨[], none, none, some j, [], [], false⟩, (AV.own j (x.ver + 1)).cz m, ⟨none, none, some (m.fv j, ⟨true, v.T, (x.cz m j).k, (x.cz m j).ver + 1, []⟩)⟩, _, s.B, _, m, ?_, h, rfl, ?_, ?_, ⟨by simp, by simp, by simp, by simpa using hjl, by simp, by simp⟩, by simp, ?_⟩
  · rw [hA]; exact hR
  · rw [hst]; exact hE.put (hE.m.setV hjl) (Emb.Up.refl _) (fun _ _ => rfl) (Nat.le_refl _) (by simp) (by simpa [AV.inn] using hjl) o.dst
  · rw [hst]; exact Adv.put hd (Stp.setV hE.m hjl _) (Nat.le_refl _) (by simp) (fun _ _ _ => rfl) (setLk hlk) (fun _ _ => rfl)
  · rw [hst]; exact hph.set hE (Emb.Up.refl _) (fun _ _ => rfl) hjl rfl (SS.put_V _ _ _ _ _) (St.put_V _ _ _ _ _)
theorem ownT_spec {o : Oper} {f : FuncId} {args : List Operand} {et : TypeId} {k : Nat} (h : ownT P sg o = some (f, args, et, k)) : ∃ as ts, o.op = .call { callee := .value (.func f), args := as, argTypes := ts } ∧ args = as.toList ∧ sg f = none := by
  unfold ownT at h
  split at h
  · rename_i g as ts hop
    split at h
    · cases h
    · rename_i hs
      split at h
      · cases h
        exact ⟨as, ts, hop, rfl, hs⟩
      · cases h
  · cases h
theorem ownR_spec {k : Nat} {et : TypeId} {out : List CV} (h : ownR k et out = true) : out = [.row k (cR (out.getD 0 dC)), .fn et []] := by
  unfold ownR at h
  split at h
  · simp only [Bool.and_eq_true, beq_iff_eq] at h
    obtain ⟨rfl, rfl⟩ := h
    rfl
  · cases h
theorem callO_fill (hM : Fns P sg M) (hF : Free F) {lk : Lk} {m : Emb} {s : SS} {st : St} {o : Oper} {x : Vec} {j : Nat} {f : FuncId} {args : List Operand} {et : TypeId} {k : Nat} {cs : List CV} {K : FP → AV → List Box → List Vec → Option Ou} {r : Ou} (hE : Em m s st) (hw : Wants lo o st true) (hd : dstOk lk o.dst = true) (hph : Ph v0 m s st)
    (hc : ownT P sg o = some (f, args, et, k)) (hcs : asCVs (args.map s.ev) = some cs) (hp : phAt v0 s.V k = some j) (hx : s.V[j]? = some x) (hlk : ¬ lk.v.contains j = true)
    (h : (callO (M f cs) fun out => chk (ownR k et out) (K ⟨[], none, none, some j, [], [], false⟩ (.own j (x.ver + 1)) s.B (s.V.set j ⟨true, et, x.k, x.ver + 1, cR (out.getD 0 dC)⟩))) = some r) :
    DSpec F n P lo v0 lk m s st o K r := by
  obtain ⟨as, ts, hop, rfl, hsg⟩ := ownT_spec hc
  obtain ⟨out, h1, h2⟩ := callO_some h
  obtain ⟨h3, h4⟩ := chk_some h2
  have ho := ownR_spec h3
  generalize hes : cR (out.getD 0 dC) = es at ho h4
  subst ho
  obtain ⟨hen, hspec⟩ := hM.own f cs k es et hsg h1
  obtain ⟨hj, x', hx', hdead, hk⟩ := phAt_spec hp
  rw [hx] at hx'; cases hx'
  have hjl := (List.getElem?_eq_some_iff.1 hx).1
  have hst0 := hph j x hj hx hdead
  have has : as.toList.map st.ev = cs.map .cv := by
    rw [← asCVs_eq hcs]
    refine List.map_congr_left fun y hy => ?_
    rw [hE.ev]
    have : s.ev y ∈ cs.map AV.cv := by rw [← asCVs_eq hcs]; exact List.mem_map.2 ⟨y, hy, rfl⟩
    obtain ⟨c, _, hc'⟩ := List.mem_map.1 this
    rw [← hc']; simp [AV.cz]
  have hR := RF_callO (F := F) (n := n) (P := P) (lo := lo) (vb := vbOf m v0) (j := m.fv j) hF hop hw (by simp [St.ev, calleeOf]) hen has hspec hst0 hdead hk (fun h => h)
  have hA : (AV.own j (x.ver + 1)).cz m = .own (m.fv j) ((x.cz m j).ver + 1) := by simp [AV.cz, Vec.cz, Nat.add_assoc]
  have hV : (⟨true, et, (x.cz m j).k, (x.cz m j).ver + 1, es⟩ : Vec) = (⟨true, et, x.k, x.ver + 1, es⟩ : Vec).cz m j := by simp [Vec.cz, Nat.add_assoc]
  have hst : stF o st ((AV.own j (x.ver + 1)).cz m) ⟨none, none, some (m.fv j, ⟨true, et, (x.cz m j).k, (x.cz m j).ver + 1, es⟩)⟩ = st.put o.dst ((AV.own j (x.ver + 1)).cz m) st.B (st.V.set (m.fv j) ((⟨true, et, x.k, x.ver + 1, es⟩ : Vec).cz m j)) := by
    simp only [stF, Eff.B, Eff.V, Option.toList_none, List.append_nil, hV]
  refine ⟨⟨[], none, none, some j, [], [], false⟩, (AV.own j (x.ver + 1)).cz m, ⟨none, none, some (m.fv j, ⟨true, et, (x.cz m j).k, (x.cz m j).ver + 1, es⟩)⟩, _, s.B, _, m, ?_, h4, rfl, ?_, ?_, ⟨by simp, by simp, by simp, by simpa using hjl, by simp, by simp⟩, by simp, ?_⟩
  · rw [hA]; exact hR
  · rw [hst]; exact hE.put (hE.m.setV hjl) (Emb.Up.refl _) (fun _ _ => rfl) (Nat.le_refl _) (by simp) (by simpa [AV.inn] using hjl) o.dst
  · rw [hst]; exact Adv.put hd (Stp.setV hE.m hjl _) (Nat.le_refl _) (by simp) (fun _ _ _ => rfl) (setLk hlk) (fun _ _ => rfl)
  · rw [hst]; exact hph.set hE (Emb.Up.refl _) (fun _ _ => rfl) hjl rfl (SS.put_V _ _ _ _ _) (St.put_V _ _ _ _ _)
end
end Go.Sx
namespace Go.Sx
open Go Go.RowKit
section
variable {F : Fence} {n : Nat} {P : Program} {lo : List Oper} {sg : FuncId → Option Sig} {M : Den} {v0 : Nat}
theorem app_spec (hF : Free F) {lk : Lk} {m : Emb} {s : SS} {st : St} {o : Oper} {T : TypeId} {x y : Operand} {args : Array Operand} {ats : Array TypeId} {j u : Nat} {K : FP → AV → List Box → List Vec → Option Ou} {r : Ou} (hE : Em m s st) (hw : Wants lo o st true) (hd : dstOk lk o.dst = true) (hph : Ph v0 m s st)
    (hop : o.op = .call { callee := .builtin .append, args := args, argTypes := ats }) (hargs : args.toList = [x, y]) (hats : ats.toList = [T, T]) (hx : s.ev x = .own j u) 
    (h : sAppend P lk s.B s.V T (.own j u) (s.ev y) (K ⟨[], none, none, some j, vns (s.ev y), [], false⟩) = some r) : DSpec F n P lo v0 lk m s st o K r := by
  classical
  let Kq : AV → List Box → List Vec → Option Ou := fun x B V => if B = s.B ∧ ∃ v', V = s.V.set j v' ∧ v'.live = true then K ⟨[], none, none, some j, vns (s.ev y), [], false⟩ x B V else none
  have h' : sOp P lk s o.op Kq = some r ∧ j < s.V.length := by
    rw [hop]
    simp only [sOp, hargs, hats, if_true, hx]
    unfold sAppend at h ⊢
    split at h
    · rename_i a1 a2 et k by_ i' u' hti hxx
      simp only [AV.own.injEq] at hxx
      obtain ⟨rfl, rfl⟩ := hxx
      split at h
      · cases h
      · rename_i hlk
        simp only [if_neg hlk]
        split at h
        · rename_i te v new hte hv hnew
          split at h
          · rename_i hc
            refine ⟨?_, (List.getElem?_eq_some_iff.1 hv).1⟩
            simp only [hte, hv, hnew, if_pos hc]
            have hl : v.live = true := by have := hc.1; simp only [Bool.and_eq_true] at this; exact Vec.sl_live this.1.1.1
            have : Kq (.own j (v.ver + 1)) s.B (s.V.set j ⟨v.live, v.T, v.k, v.ver + 1, v.es ++ new⟩) = K ⟨[], none, none, some j, vns (s.ev y), [], false⟩ (.own j (v.ver + 1)) s.B (s.V.set j ⟨v.live, v.T, v.k, v.ver + 1, v.es ++ new⟩) := by
              simp only [Kq]
              exact if_pos ⟨trivial, _, rfl, hl⟩
            rw [this]
            exact h
          · cases h
        · cases h
    · cases h
  obtain ⟨h', hjl⟩ := h'
  obtain ⟨a', x', B, V, B', V', m', h1, h2, h3, h4, h5, h6, h7, h8, h9, h10, h11, h12⟩ := sOp_spec hE h'
  simp only [Kq] at h4
  split at h4
  case isFalse => cases h4
  rename_i hv
  obtain ⟨rfl, v', rfl, hl⟩ := hv
  obtain ⟨v2, q1, q2, q3⟩ := RF_app (F := F) (n := n) (vb := vbOf m v0) hF hw hop hargs hats (by rw [hE.ev, hx]; rfl) (fun h => h) ((vns (s.ev y)).map m.fv) (fun i hi => vns_spec _ (by rw [← hE.ev]; exact hi)) h1
  subst q2; subst q3
  have hst : stF o st (x'.cz m') ⟨none, none, some (m.fv j, v2)⟩ = st.put o.dst (x'.cz m') st.B (st.V.set (m.fv j) v2) := by simp [stF, Eff.B, Eff.V]
  have hmp : FP.mp m' ⟨[], none, none, some j, vns (s.ev y), [], false⟩ = ⟨[], none, none, some (m.fv j), (vns (s.ev y)).map m.fv, [], false⟩ := FP.mp_up h6.up ⟨by simp, by simp, by simp, by simpa [hE.m.vl] using hjl, fun i hi => by rw [hE.m.vl]; exact vns_inn _ (hE.innEv y) i hi, by simp⟩
  refine ⟨⟨[], none, none, some j, vns (s.ev y), [], false⟩, x'.cz m', ⟨none, none, some (m.fv j, v2)⟩, x', s.B, _, m', ?_, h4, rfl, ?_, ?_, ⟨by simp, by simp, by simp, by simpa using hjl, fun i hi => by simpa using vns_inn _ (hE.innEv y) i hi, by simp⟩, by simp, ?_⟩
  · rw [hmp]; exact q1.le h2 (OpOK.sc h3)
  · rw [hst]; exact hE.put h5 h6.up h7 h9 h10 h8 o.dst
  · rw [hst]; exact Adv.put hd h6 h9 h10 h11 h12 fun i hi => h7 i (by rw [hE.m.vl]; exact hi)
  · rw [hst]; exact hph.set hE h6.up h7 hjl hl (SS.put_V _ _ _ _ _) (St.put_V _ _ _ _ _)
theorem storeV_spec (hF : Free F) {lk : Lk} {m : Emb} {s : SS} {st : St} {o : Oper} {T : TypeId} {a x : Operand} {i g el off : Nat} {K : FP → AV → List Box → List Vec → Option Ou} {r : Ou} (hE : Em m s st) (hw : Wants lo o st true) (hd : dstOk lk o.dst = true) (hph : Ph v0 m s st)
    (hop : o.op = .store T a x) (ha : s.ev a = .opt i g el off) (h : sOpX P lk s (.store T a x) (K ⟨[], none, none, some i, [], [], false⟩) = some (some r)) : DSpec F n P lo v0 lk m s st o K r := by
  have hev := hE.ev
  simp only [sOpX, ha] at h
  injection h with h
  split at h
  · cases h
  · rename_i hlk
    split at h
    · rename_i v ti new hv hti hnew
      split at h
      · rename_i cs hcs
        split at h
        · rename_i hc
          simp only [Bool.and_eq_true, beq_iff_eq] at hc
          obtain ⟨⟨c1, rfl⟩, c3⟩ := hc
          obtain ⟨h1, h2⟩ := chk_some h
          simp only [Bool.and_eq_true, decide_eq_true_eq] at h1
          have hil := (List.getElem?_eq_some_iff.1 hv).1
          have hv1 := hE.m.v i v hv (Vec.sl_live c1)
          have hR := RF_storeV (F := F) (n := n) (P := P) (lo := lo) (vb := vbOf m v0) (u := m.fo i + v.ver) (el := el) (off := off) hF hw hop (by rw [hev, ha]; simp [AV.cz]) hv1 c1 rfl h1.1 hti (by rw [hev]; exact AV.cells_cz hnew) (by rw [asCVs_map hcs]; exact asCVs_cvs cs) c3 h1.2 (fun h => h)
          have hVe : ({ v.cz m i with es := (v.cz m i).es.set el (spl ((v.cz m i).es.getD el []) off cs) } : Vec) = (⟨v.live, v.T, v.k, v.ver, v.es.set el (spl (v.es.getD el []) off cs)⟩ : Vec).cz m i := rfl
          have hst : stF o st .any ⟨none, none, some (m.fv i, { v.cz m i with es := (v.cz m i).es.set el (spl ((v.cz m i).es.getD el []) off cs) })⟩ = st.put o.dst (AV.any.cz m) st.B (st.V.set (m.fv i) ((⟨v.live, v.T, v.k, v.ver, v.es.set el (spl (v.es.getD el []) off cs)⟩ : Vec).cz m i)) := by
            simp only [stF, Eff.B, Eff.V, Option.toList_none, List.append_nil, hVe, AV.cz]
          refine ⟨⟨[], none, none, some i, [], [], false⟩, .any, _, .any, s.B, s.V.set i ⟨v.live, v.T, v.k, v.ver, v.es.set el (spl (v.es.getD el []) off cs)⟩, m, hR, h2, by simp [AV.cz], ?_, ?_, ⟨by simp, by simp, by simp, by simpa using hil, by simp, by simp⟩, by simp, ?_⟩
          · rw [hst]; exact hE.put (hE.m.setV hil) (Emb.Up.refl _) (fun _ _ => rfl) (Nat.le_refl _) (by simp) rfl o.dst
          · rw [hst]; exact Adv.put hd (Stp.setV hE.m hil _) (Nat.le_refl _) (by simp) (fun _ _ _ => rfl) (setLk hlk) (fun _ _ => rfl)
          · rw [hst]; exact hph.set hE (Emb.Up.refl _) (fun _ _ => rfl) hil (v := ⟨v.live, v.T, v.k, v.ver, v.es.set el (spl (v.es.getD el []) off cs)⟩) (Vec.sl_live c1) (SS.put_V _ _ _ _ _) (St.put_V _ _ _ _ _)
        · cases h
      · cases h
    · cases h
theorem lookupM_spec (hF : Free F) {lk : Lk} {m : Emb} {s : SS} {st : St} {o : Oper} {T : TypeId} {x k : Operand} {c : Bool} {i g : Nat} {K : FP → AV → List Box → List Vec → Option Ou} {r : Ou} (hE : Em m s st) (hw : Wants lo o st true) (hd : dstOk lk o.dst = true) (hph : Ph v0 m s st)
    (hop : o.op = .lookup T x k c) (hx : s.ev x = .own i g) (h : sOpX P lk s (.lookup T x k c) (K ⟨[], none, none, none, [], [i], false⟩) = some (some r)) : DSpec F n P lo v0 lk m s st o K r := by
  have hev := hE.ev
  cases c with
  | true => simp [sOpX] at h
  | false =>
  simp only [sOpX, hx] at h
  injection h with h
  split at h
  · rename_i v mi hv hm
    split at h
    · rename_i cs hkc
      split at h
      · rename_i hc
        obtain ⟨h1, h2⟩ := chk_some h
        obtain ⟨hI, rfl, hok⟩ := isM_spec hc h1
        have hil := (List.getElem?_eq_some_iff.1 hv).1
        have hv1 := hE.m.v i v hv hI.live
        have hR := RF_lookupM (F := F) (n := n) (P := P) (lo := lo) (vb := vbOf m v0) (u := m.fo i + v.ver) hF hw hm hop (by rw [hev, hx]; simp [AV.cz]) hv1 (hI.cz m i) rfl (by rw [hev]; exact keyCs_cz m hkc) hok
        rw [leafM_eq (lookM_kC hm hI.ok)] at h2
        have hst : stF o st (.cv (lookM mi.kl.length cs mi.z v.es)) Eff.none' = st.put o.dst ((AV.cv (lookM mi.kl.length cs mi.z v.es)).cz m) st.B st.V := by rw [stF, Eff.none_B, Eff.none_V]; simp [AV.cz]
        refine ⟨⟨[], none, none, none, [], [i], false⟩, .cv (lookM mi.kl.length cs mi.z v.es), Eff.none', .cv (lookM mi.kl.length cs mi.z v.es), s.B, s.V, m, hR, h2, by simp [AV.cz], ?_, ?_, ⟨by simp, by simp, by simp, by simp, by simp, by simpa using hil⟩, rfl, ?_⟩
        · rw [hst]; exact hE.put hE.m (Emb.Up.refl _) (fun _ _ => rfl) (Nat.le_refl _) (Nat.le_refl _) rfl o.dst
        · rw [hst]; exact Adv.put hd (Stp.refl _ _ _) (Nat.le_refl _) (Nat.le_refl _) (fun _ _ _ => rfl) (fun _ _ _ => rfl) (fun _ _ => rfl)
        · rw [hst]; exact hph.same hE (Emb.Up.refl _) (fun _ _ => rfl) (SS.put_V _ _ _ _ _) (St.put_V _ _ _ _ _)
      · cases h
    · cases h
  · cases h
theorem entryM_spec (hF : Free F) {lk : Lk} {m : Emb} {s : SS} {st : St} {o : Oper} {T : TypeId} {x k : Operand} {i g : Nat} {K : FP → AV → List Box → List Vec → Option Ou} {r : Ou} (hE : Em m s st) (hw : Wants lo o st true) (hd : dstOk lk o.dst = true) (hph : Ph v0 m s st)
    (hop : o.op = .mapEntry T x k) (hx : s.ev x = .own i g) (h : sOpX P lk s (.mapEntry T x k) (K ⟨[], none, none, some i, [], [], true⟩) = some (some r)) : DSpec F n P lo v0 lk m s st o K r := by
  have hev := hE.ev
  simp only [sOpX, hx] at h
  injection h with h
  split at h
  · cases h
  · rename_i hlk
    split at h
    · rename_i v mi hv hm
      split at h
      · rename_i cs hkc
        split at h
        · rename_i hc
          obtain ⟨h1, h2⟩ := chk_some h
          obtain ⟨hI, rfl, hok⟩ := isM_spec hc h1
          have hil := (List.getElem?_eq_some_iff.1 hv).1
          have hv1 := hE.m.v i v hv hI.live
          have hR := RF_entryM (F := F) (n := n) (P := P) (lo := lo) (vb := vbOf m v0) (u := m.fo i + v.ver) hF hw hm hop (by rw [hev, hx]; simp [AV.cz]) hv1 (hI.cz m i) rfl (by rw [hev]; exact keyCs_cz m hkc) hok (fun h => h)
          rw [leafM_eq (lookM_kC hm hI.ok)] at h2
          have hVe : ({ v.cz m i with es := entM mi.kl.length cs mi.z (v.cz m i).es } : Vec) = (⟨v.live, v.T, v.k, v.ver, entM mi.kl.length cs mi.z v.es⟩ : Vec).cz m i := rfl
          let A : AV := .tup [.cv (lookM mi.kl.length cs mi.z v.es), .cv (.val (.int .i64 (posM mi.kl.length cs v.es)))]
          have hAc : A.cz m = A := by simp [A, AV.cz, AV.czs]
          have hst : stF o st A ⟨none, none, some (m.fv i, { v.cz m i with es := entM mi.kl.length cs mi.z (v.cz m i).es })⟩ = st.put o.dst (A.cz m) st.B (st.V.set (m.fv i) ((⟨v.live, v.T, v.k, v.ver, entM mi.kl.length cs mi.z v.es⟩ : Vec).cz m i)) := by
            rw [hAc]
            simp only [stF, Eff.B, Eff.V, Option.toList_none, List.append_nil, hVe]
          refine ⟨⟨[], none, none, some i, [], [], true⟩, A, _, A, s.B, s.V.set i ⟨v.live, v.T, v.k, v.ver, entM mi.kl.length cs mi.z v.es⟩, m, hR, h2, hAc.symm, ?_, ?_, ⟨by simp, by simp, by simp, by simpa using hil, by simp, by simp⟩, by simp, ?_⟩
          · rw [hst]; exact hE.put (hE.m.setV hil) (Emb.Up.refl _) (fun _ _ => rfl) (Nat.le_refl _) (by simp) (by simp [A, AV.inn, AV.inns]) o.dst
          · rw [hst]; exact Adv.put hd (Stp.setV hE.m hil _) (Nat.le_refl _) (by simp) (fun _ _ _ => rfl) (setLk hlk) (fun _ _ => rfl)
          · rw [hst]; exact hph.set hE (Emb.Up.refl _) (fun _ _ => rfl) hil (v := ⟨v.live, v.T, v.k, v.ver, entM mi.kl.length cs mi.z v.es⟩) hI.live (SS.put_V _ _ _ _ _) (St.put_V _ _ _ _ _)
        · cases h
      · cases h
    · cases h
theorem estoreM_spec (hF : Free F) {lk : Lk} {m : Emb} {s : SS} {st : St} {o : Oper} {T : TypeId} {x sx y : Operand} {i g : Nat} {K : FP → AV → List Box → List Vec → Option Ou} {r : Ou} (hE : Em m s st) (hw : Wants lo o st true) (hd : dstOk lk o.dst = true) (hph : Ph v0 m s st)
    (hop : o.op = .entryStore T x sx y) (hx : s.ev x = .own i g) (h : sOpX P lk s (.entryStore T x sx y) (K ⟨[], none, none, some i, [], [], false⟩) = some (some r)) : DSpec F n P lo v0 lk m s st o K r := by
  have hev := hE.ev
  simp only [sOpX, hx] at h
  injection h with h
  split at h
  · cases h
  · rename_i hlk
    split at h
    · rename_i v mi q c d hv hm hs hy
      split at h
      · rename_i hc
        simp only [Bool.and_eq_true, beq_iff_eq] at hc
        obtain ⟨h1, h2⟩ := chk_some h
        obtain ⟨h3, h4⟩ := chk_some h2
        simp only [Bool.and_eq_true, decide_eq_true_eq] at h3
        obtain ⟨hI, rfl, _⟩ := isM_spec hc.1 h1
        have hil := (List.getElem?_eq_some_iff.1 hv).1
        have hv1 := hE.m.v i v hv hI.live
        have hR := RF_estoreM (q := q) (c := c) (d := d) (F := F) (n := n) (P := P) (lo := lo) (vb := vbOf m v0) (u := m.fo i + v.ver) hF hw hm hop (by rw [hev, hx]; simp [AV.cz]) hv1 (hI.cz m i) rfl (by rw [hev, hs]; simp [AV.cz]) (by rw [hev, hy]; simp [AV.cz]) hc.2 h3.1 h3.2 (fun h => h)
        have hVe : ({ v.cz m i with es := (v.cz m i).es.set c.toNat (((v.cz m i).es.getD c.toNat []).take mi.kl.length ++ [d]) } : Vec) = (⟨v.live, v.T, v.k, v.ver, v.es.set c.toNat ((v.es.getD c.toNat []).take mi.kl.length ++ [d])⟩ : Vec).cz m i := rfl
        have hst : stF o st .any ⟨none, none, some (m.fv i, { v.cz m i with es := (v.cz m i).es.set c.toNat (((v.cz m i).es.getD c.toNat []).take mi.kl.length ++ [d]) })⟩ = st.put o.dst (AV.any.cz m) st.B (st.V.set (m.fv i) ((⟨v.live, v.T, v.k, v.ver, v.es.set c.toNat ((v.es.getD c.toNat []).take mi.kl.length ++ [d])⟩ : Vec).cz m i)) := by
          simp only [stF, Eff.B, Eff.V, Option.toList_none, List.append_nil, hVe, AV.cz]
        refine ⟨⟨[], none, none, some i, [], [], false⟩, .any, _, .any, s.B, s.V.set i ⟨v.live, v.T, v.k, v.ver, v.es.set c.toNat ((v.es.getD c.toNat []).take mi.kl.length ++ [d])⟩, m, hR, h4, by simp [AV.cz], ?_, ?_, ⟨by simp, by simp, by simp, by simpa using hil, by simp, by simp⟩, by simp, ?_⟩
        · rw [hst]; exact hE.put (hE.m.setV hil) (Emb.Up.refl _) (fun _ _ => rfl) (Nat.le_refl _) (by simp) rfl o.dst
        · rw [hst]; exact Adv.put hd (Stp.setV hE.m hil _) (Nat.le_refl _) (by simp) (fun _ _ _ => rfl) (setLk hlk) (fun _ _ => rfl)
        · rw [hst]; exact hph.set hE (Emb.Up.refl _) (fun _ _ => rfl) hil (v := ⟨v.live, v.T, v.k, v.ver, v.es.set c.toNat ((v.es.getD c.toNat []).take mi.kl.length ++ [d])⟩) hI.live (SS.put_V _ _ _ _ _) (St.put_V _ _ _ _ _)
      · cases h
    · cases h
theorem skip_spec (hF : Free F) {lk : Lk} {m : Emb} {s : SS} {st : St} {o : Oper} {K : FP → AV → List Box → List Vec → Option Ou} {r : Ou} (hE : Em m s st) (hw : Wants lo o st false) (hd : dstOk lk o.dst = true) (hph : Ph v0 m s st)
    (h : K fp0 unA s.B s.V = some r) : DSpec F n P lo v0 lk m s st o K r :=
  still_spec hE hd hph rfl (by simpa [unA, AV.cz, fp0] using RF_skip (F := F) (n := n) (P := P) (vb := vbOf m v0) hF hw) h
end
end Go.Sx
namespace Go.Sx
open Go Go.RowKit
section
variable {F : Fence} {n : Nat} {P : Program} {lo : List Oper} {sg : FuncId → Option Sig} {M : Den} {v0 : Nat}
theorem AV.closed_clo {x : AV} (h : x.clo = true) : AV.closed x = true := by
  unfold AV.clo at h
  split at h
  · rfl
  · rename_i xs
    simp only [AV.closed]
    induction xs with
    | nil => rfl
    | cons y ys ih =>
      simp only [List.all_cons, Bool.and_eq_true] at h
      simp only [AV.closeds, Bool.and_eq_true]
      refine ⟨?_, ih h.2⟩
      have h1 := h.1
      split at h1
      · rfl
      · cases h1
  · cases h
theorem AV.closeds_clo : ∀ (xs : List AV), (∀ x ∈ xs, x.clo = true) → AV.closeds xs = true
  | [], _ => rfl
  | x :: xs, h => by
    simp only [AV.closeds, AV.closed_clo (h x (by simp)), AV.closeds_clo xs fun y hy => h y (by simp [hy]), Bool.and_self]
theorem sFroz_spec {m : Emb} {s : SS} {st : St} {o : Oper} (hE : Em m s st) {T : TypeId} {len : Nat} {parts : Array (Nat × Operand)} {A : AV} (hop : o.op = .buildSlice T len parts) (hA : sFroz P s T len parts = some A) :
    evFroz P st o.op = some A ∧ A.cz m = A ∧ AV.inn s.B.length s.V.length A = true := by
  unfold sFroz at hA
  split at hA
  · rename_i hcl
    split at hA
    · rename_i A0 B0 V0 he
      cases hA
      rw [List.all_eq_true] at hcl
      have hev : ∀ p ∈ parts.toList, st.ev p.2 = s.ev p.2 := fun p hp => by rw [hE.ev, (AV.clo_spec (hcl p hp)).1]
      have hps : (parts.toList.map fun p => st.ev p.2) = parts.toList.map fun p => s.ev p.2 := List.map_congr_left hev
      have hps2 : (parts.toList.map fun p => (p.1, st.ev p.2)) = parts.toList.map fun p => (p.1, s.ev p.2) := List.map_congr_left fun p hp => by rw [hev p hp]
      have hcc : AV.closeds (parts.toList.map fun p => s.ev p.2) = true := AV.closeds_clo _ (by intro x hx; obtain ⟨p, hp, rfl⟩ := List.mem_map.1 hx; exact hcl p hp)
      have hA0 : ∃ i u, A0 = .own i u := by
        unfold evBuildSlice at he
        split at he
        · split at he
          · split at he
            · split at he
              · simp only [Option.map_eq_some_iff, Prod.mk.injEq] at he
                obtain ⟨_, _, rfl, _⟩ := he
                exact ⟨_, _, rfl⟩
              · cases he
            · cases he
          · cases he
        · cases he
      obtain ⟨i, u, rfl⟩ := hA0
      refine ⟨?_, ?_⟩
      · rw [hop]
        simp only [evFroz, hps, hps2, he, hcc, if_true]
      · simp only [AV.lend]
        split
        · split
          · exact ⟨by simp [AV.cz], rfl⟩
          · exact ⟨by simp [AV.cz], rfl⟩
        · exact ⟨by simp [AV.cz], rfl⟩
    · cases hA
  · cases hA
theorem evOd_spec (hM : Fns P sg M) (hF : Free F) {lk : Lk} {m : Emb} {s : SS} {st : St} {o : Oper} {K : FP → AV → List Box → List Vec → Option Ou} {r : Ou} (hE : Em m s st) (hw : Wants lo o st true) (hd : dstOk lk o.dst = true) (hph : Ph v0 m s st) (hv0 : v0 ≤ s.V.length)
    (h : evOd P sg M lo v0 lk s o K = some r) : DSpec F n P lo v0 lk m s st o K r := by
  have fp0e : FP.mp m fp0 = fp0 := rfl
  unfold evOd at h
  split at h
  · rename_i v hc
    split at h
    · rename_i j hp
      split at h
      · rename_i x hx
        split at h
        · cases h
        · rename_i hlk
          exact fill_spec hF hE hw hd hph hc hp hx hlk h
      · cases h
    · cases h
  · split at h
    · rename_i f args et k hc
      split at h
      · rename_i cs j hcs hp
        split at h
        · rename_i x hx
          split at h
          · cases h
          · rename_i hlk
            exact callO_fill hM hF hE hw hd hph hc hcs hp hx hlk h
        · cases h
      · cases h
    split at h
    · rename_i x args ats hop
      obtain ⟨x, args, ts, f, caps, rs, out, h1, h2, h3, h4, h5, h6⟩ := evCall_spec hM hE hop h
      obtain ⟨as', p1, p2, p3, p4⟩ := h6 rfl
      obtain ⟨c1, c2⟩ := Sc.res_pl rs out m s.B.length s.V.length
      refine still_spec hE hd hph c2 ?_ h4
      rw [c1]
      exact RF_call hF h1 hw h2 h3 p1 p3 p4 (Sc.res_closed _ _)
    · rename_i args ats hop
      split at h
      · rename_i x y T T' hargs hats
        split at h
        · rename_i j u hx
          split at h
          · rename_i hc
            subst hc
            exact app_spec hF hE hw hd hph hop hargs hats hx h
          · cases h
        · cases h
      · cases h
    · rename_i T len parts hop
      split at h
      · rename_i A hA
        obtain ⟨q1, q2, q3⟩ := sFroz_spec hE hop hA
        refine still_spec hE hd hph q3 ?_ h
        rw [q2]
        exact RF_froz hF hw q1
      · cases h
    · rename_i T a x hop
      split at h
      · rename_i i off ha
        have hi : i < s.B.length := by have := hE.innEv a; rw [ha] at this; simpa [AV.inn] using this
        exact store_spec (off := off) hF hE hw hd hph hop (by rw [hE.ev, ha]; simp [AV.cz]) hi (by rw [hop]; exact h)
      · rename_i i g el off ha
        split at h
        · rename_i r' hx
          subst h
          exact storeV_spec hF hE hw hd hph hop ha hx
        · cases h
      · cases h
    · rename_i T x k c hop
      split at h
      · rename_i i g hx
        split at h
        · rename_i r' hh
          subst h
          exact lookupM_spec hF hE hw hd hph hop hx hh
        · cases h
      · cases h
    · rename_i T x k hop
      split at h
      · rename_i i g hx
        split at h
        · rename_i r' hh
          subst h
          exact entryM_spec hF hE hw hd hph hop hx hh
        · cases h
      · cases h
    · rename_i T x sx y hop
      split at h
      · rename_i i g hx
        split at h
        · rename_i r' hh
          subst h
          exact estoreM_spec hF hE hw hd hph hop hx hh
        · cases h
      · cases h
    · rename_i T hop
      exact alloc_spec hF hE hw hd hph hop (by rw [hop]; exact h)
    · rename_i T a hop
      have opn : ∀ x ∈ o.op.operands, x = a := by rw [hop]; simp [Op.operands]
      split at h
      · rename_i i off ha
        have hi : i < s.B.length := by have := hE.innEv a; rw [ha] at this; simpa [AV.inn] using this
        refine quiet_spec hF [i] [] hE hw hd hph (by rw [hop]; simp [mkind]) (by rw [hop]; rfl) (by simpa using hi) (by simp) ?_ ?_ (by rw [hop]; exact h)
        · intro T' x' i' off' h1 h2
          rw [hop] at h1; cases h1
          rw [hE.ev, ha] at h2
          simp only [AV.cz, AV.ptr.injEq] at h2
          simp [h2.1]
        · intro _ x hx i' hi'
          rw [opn x hx, hE.ev, ha] at hi'
          simp [AV.cz, vName] at hi'
      · rename_i i off ha
        have hi : i < s.B.length := by have := hE.innEv a; rw [ha] at this; simpa [AV.inn] using this
        refine quiet_spec hF [i] [] hE hw hd hph (by rw [hop]; simp [mkind]) (by rw [hop]; rfl) (by simpa using hi) (by simp) ?_ ?_ (by rw [hop]; exact h)
        · intro T' x' i' off' h1 h2
          rw [hop] at h1; cases h1
          rw [hE.ev, ha] at h2
          simp only [AV.cz, AV.ptr.injEq] at h2
          simp [h2.1]
        · intro _ x hx i' hi'
          rw [opn x hx, hE.ev, ha] at hi'
          simp [AV.cz, vName] at hi'
      · rename_i c ha
        refine quiet_spec hF [] [] hE hw hd hph (by rw [hop]; simp [mkind]) (by rw [hop]; rfl) (by simp) (by simp) ?_ ?_ (by rw [hop]; exact h)
        · intro T' x' i' off' h1 h2
          rw [hop] at h1; cases h1
          rw [hE.ev, ha] at h2
          simp [AV.cz] at h2
        · intro _ x hx i' hi'
          rw [opn x hx, hE.ev, ha] at hi'
          simp [AV.cz, vName] at hi'
      · rename_i i g el off ha
        have hi : i < s.V.length := by have := hE.innEv a; rw [ha] at this; simpa [AV.inn] using this
        refine quiet_spec hF [] [i] hE hw hd hph (by rw [hop]; simp [mkind]) (by rw [hop]; rfl) (by simp) (by simpa using hi) ?_ ?_ (by rw [hop]; exact h)
        · intro T' x' i' off' h1 h2
          rw [hop] at h1; cases h1
          rw [hE.ev, ha] at h2
          simp [AV.cz] at h2
        · intro _ x hx i' hi'
          rw [opn x hx, hE.ev, ha] at hi'
          simp only [AV.cz, vName, Option.some.injEq] at hi'
          simp [hi']
      · cases h
    · rename_i n1 n2 n3 n4 n4a n4b n4c n5 n6
      split at h
      · rename_i hk
        refine quiet_spec hF [] (if rdV o.op = true then o.op.operands.toList.flatMap fun x => vns (s.ev x) else []) hE hw hd hph hk ?_ (by simp) ?_ ?_ ?_ h
        · unfold isBS
          split
          · rename_i T len parts hop; exact absurd hop (n3 _ _ _)
          · rfl
        · intro i hi
          split at hi
          · obtain ⟨x, hx, hi⟩ := List.mem_flatMap.1 hi
            exact vns_inn _ (hE.innEv x) i hi
          · cases hi
        · intro T' x' i' off' h1 h2
          exact absurd h1 (n6 _ _)
        · intro hrd x hx i' hi'
          rw [hE.ev] at hi'
          rw [if_pos hrd]
          obtain ⟨k, hk1, hk2⟩ := List.mem_map.1 (vns_spec _ hi')
          exact List.mem_map.2 ⟨k, List.mem_flatMap.2 ⟨x, by simpa using hx, hk1⟩, hk2⟩
      · cases h
end
end Go.Sx
namespace Go.Sx
open Go Go.RowKit
section
variable {F : Fence} {n : Nat} {P : Program} {sg : FuncId → Option Sig} {M : Den} {v0 : Nat}
theorem vbOf_up {m m' : Emb} : vbOf m' v0 = vbOf m v0 := rfl
theorem evStepD_draw (hM : Fns P sg M) (hF : Free F) {lk : Lk} {ops : List Oper} {r : Ou} {o : Oper} {m : Emb} {s : SS} {st : St} {nxt : FP → SS → Option Ou} {G : Prop} (hE : Em m s st) (hph : Ph v0 m s st) (hv0 : v0 ≤ s.V.length) (h : evStepD P sg M lk v0 ops o s nxt = some r)
    (next : ∀ fp A f m1 s1, nxt fp s1 = some r → RF F n P ops (vbOf m v0) (fp.mp m1) o st A f → Em m1 s1 (stF o st A f) → Adv lk m s st m1 s1 (stF o st A f) → fp.ok s1.B.length s1.V.length → s1.V.length = s.V.length → Ph v0 m1 s1 (stF o st A f) → G) : G := by
  unfold evStepD at h
  split at h
  · rename_i hd
    have fin : ∀ (s1 : SS), s1.V = s.V → Adv lk m s st m s1 st → DSpec F n P ops v0 lk m s1 st o (fun fp x B V => nxt fp (s1.put o.dst x B V)) r → G := by
      intro s1 hs1 ha1 ⟨fp, A, f, x, B, V, m', q1, q2, q3, q4, q5, q6, q7, q8⟩
      refine next fp A f m' _ q2 q1 q4 (ha1.trans q5) ?_ ?_ q8
      · have hb : (s1.put o.dst x B V).B = B := by cases o.dst <;> rfl
        rw [hb, SS.put_V]; exact q6
      · rw [SS.put_V, q7, hs1]
    have run : ∀ (s1 : SS), s1.V = s.V → Em m s1 st → Adv lk m s st m s1 st → Wants ops o st true → evOd P sg M ops v0 lk s1 o (fun fp x B V => nxt fp (s1.put o.dst x B V)) = some r → G := by
      intro s1 hs1 hE1 ha1 hw h1
      exact fin s1 hs1 ha1 (evOd_spec hM hF hE1 hw hd (by intro j v a b c; rw [hs1] at b; exact hph j v a b c) (by rw [hs1]; exact hv0) h1)
    have skip : ∀ (s1 : SS), s1.V = s.V → Em m s1 st → Adv lk m s st m s1 st → Wants ops o st false → nxt fp0 (s1.put o.dst unA s1.B s1.V) = some r → G := by
      intro s1 hs1 hE1 ha1 hw h1
      exact fin s1 hs1 ha1 (skip_spec hF hE1 hw hd (by intro j v a b c; rw [hs1] at b; exact hph j v a b c) h1)
    split at h
    · rename_i hg
      exact run s rfl hE (Adv.refl _ _ _ _) (Wants.none hg) h
    · rename_i j want hg
      split at h
      · cases h
      · rename_i d hd'
        split at h
        · rename_i hdn
          have hslot := hE.slot hdn
          split at h
          · rename_i c hc
            split at h
            · cases h
            · rw [hc] at hslot
              simp only [AV.cz] at hslot
              have hw := Wants.known hg hd' hslot
              have hE1 := hE.set hc hdn
              have ha1 := Adv.set (lk := lk) (m := m) (st := st) hc
              cases c <;> cases want
              · exact run (s.set d _) rfl hE1 ha1 hw h
              · exact skip (s.set d _) rfl hE1 ha1 hw h
              · exact skip (s.set d _) rfl hE1 ha1 hw h
              · exact run (s.set d _) rfl hE1 ha1 hw h
          · rename_i x hc
            rw [hc] at hslot
            simp only [AV.cz] at hslot
            exact skip s rfl hE (Adv.refl _ _ _ _) (Wants.undef hg hd' hslot) h
          · cases h
        · cases h
  · cases h
theorem evRD_draw (hM : Fns P sg M) (hF : Free F) {inl : IN} (hI : InOK F n P inl) {lk : Lk} {ops : List Oper} {r : Ou} {vb : Nat → Prop} : ∀ (l : List Oper) (acc : List FP) {m : Emb} {s : SS} {st : St} {K : SS → Option Ou} {Q : St → Prop}, Em m s st → Ph v0 m s st → v0 ≤ s.V.length → vb = vbOf m v0 →
    (∀ f ∈ acc, f.ok s.B.length s.V.length) → evRD P sg M inl lk v0 ops l acc s K = some r →
    (∀ m' s' st', K s' = some r → Em m' s' st' → Adv lk m s st m' s' st' → Q st') → DLexF F n P ops vb l (acc.map (FP.mp m)) st Q := by
  have base : ∀ (acc : List FP) {m : Emb} {s : SS} {st : St} {K : SS → Option Ou} {Q : St → Prop}, Em m s st → (∀ f ∈ acc, f.ok s.B.length s.V.length) → (if memF ops acc = true then K s else none) = some r →
      (∀ m' s' st', K s' = some r → Em m' s' st' → Adv lk m s st m' s' st' → Q st') → memF ops (acc.map (FP.mp m)) = true ∧ Q st := by
    intro acc m s st K Q hE hacc h hk
    split at h
    · rename_i hm
      exact ⟨memF_mp hE.m.bi hE.m.vi hacc hm, hk m s st h hE (Adv.refl _ _ _ _)⟩
    · cases h
  have step : ∀ (o : Oper) (rest : List Oper) (acc : List FP) {m : Emb} {s : SS} {st : St} {K : SS → Option Ou} {Q : St → Prop} {nxt : FP → SS → Option Ou}, Em m s st → Ph v0 m s st → v0 ≤ s.V.length → vb = vbOf m v0 → (∀ f ∈ acc, f.ok s.B.length s.V.length) →
      evStepD P sg M lk v0 ops o s nxt = some r → (∀ m' s' st', K s' = some r → Em m' s' st' → Adv lk m s st m' s' st' → Q st') →
      (∀ fp {m1 : Emb} {s1 : SS} {st1 : St}, nxt fp s1 = some r → Em m1 s1 st1 → Ph v0 m1 s1 st1 → v0 ≤ s1.V.length → vb = vbOf m1 v0 → (∀ f ∈ acc ++ [fp], f.ok s1.B.length s1.V.length) → (∀ m' s' st', K s' = some r → Em m' s' st' → Adv lk m1 s1 st1 m' s' st' → Q st') → DLexF F n P ops vb rest ((acc ++ [fp]).map (FP.mp m1)) st1 Q) →
      DLexF F n P ops vb (o :: rest) (acc.map (FP.mp m)) st Q := by
    intro o rest acc m s st K Q nxt hE hph hv0 hvb hacc h hk hn
    subst hvb
    refine evStepD_draw (F := F) (n := n) hM hF hE hph hv0 h fun fp A f m1 s1 h1 hR hE1 ha1 hok hvl hph1 => ?_
    have hu := ha1.stp.up
    refine .inl ⟨fp.mp m1, A, f, hR, ?_⟩
    have hacc1 : ∀ g ∈ acc ++ [fp], g.ok s1.B.length s1.V.length := by
      intro g hg
      rw [List.mem_append] at hg
      rcases hg with hg | hg
      · exact (hacc g hg).mono ha1.bl ha1.vl
      · rw [List.mem_singleton] at hg; subst hg; exact hok
    have := hn fp h1 hE1 hph1 (by omega) vbOf_up.symm hacc1 fun m' s' st' g1 g2 g3 => hk m' s' st' g1 g2 (ha1.trans g3)
    rw [List.map_append] at this
    have he : acc.map (FP.mp m1) = acc.map (FP.mp m) := List.map_congr_left fun g hg => FP.mp_up hu (by rw [hE.m.bl, hE.m.vl]; exact hacc g hg)
    rw [he] at this
    exact this
  intro l
  induction l with
  | nil =>
    intro acc m s st K Q hE hph hv0 hvb hacc h hk
    simp only [evRD] at h
    exact base acc hE hacc h hk
  | cons o rest ih =>
    intro acc m s st K Q hE hph hv0 hvb hacc h hk
    simp only [evRD] at h
    split at h
    · split at h
      · rename_i hm
        exact .inr ⟨memF_mp hE.m.bi hE.m.vi hacc hm, evR_plain hM hF hI (o :: rest) hE h hk⟩
      · cases h
    · exact step o rest acc hE hph hv0 hvb hacc h hk fun fp {m1 s1 st1} h1 hE1 hph1 hv1 hvb1 hacc1 hk1 => ih (acc ++ [fp]) hE1 hph1 hv1 hvb1 hacc1 h1 hk1
theorem W_dead {code : Code} {st : St} {ds : List Vec} {Q : Exit → St → Prop} (hd : ∀ v ∈ ds, v.live = false) (h : W F n P code ⟨st.t, st.B, st.V ++ ds⟩ Q) : W F n P code st Q := by
  intro n0 w0 e a w Qr hr hk
  have hx : Ext e w st.B.length (vers st.V) (kss st.V) e w st.B.length (vers (st.V ++ ds)) (kss (st.V ++ ds)) := by
    refine ⟨RO.refl _ _, fun _ _ => rfl, fun _ _ _ _ => rfl, Nat.le_refl _, by simp [vers], fun i hi => ?_, fun i hi => ?_, Nat.le_refl _, fun _ h => .inl h, rfl⟩
    · have hi' : i < st.V.length := by simpa [vers] using hi
      simp [vers, List.getD, List.getElem?_append_left, hi']
    · have hi' : i < st.V.length := by simpa [vers] using hi
      simp [kss, List.getD, List.getElem?_append_left, hi']
  have hget : ∀ (i : Nat) (x : Vec), (st.V ++ ds)[i]? = some x → x.live = true → st.V[i]? = some x := by
    intro i x hi hl
    by_cases hil : i < st.V.length
    · rwa [List.getElem?_append_left hil] at hi
    · rw [List.getElem?_append_right (by omega)] at hi
      have := hd x (List.mem_of_getElem? hi)
      rw [hl] at this; cases this
  have hm := hr.mem
  have hr' : Rel n0 w0 e ⟨st.t, st.B, st.V ++ ds⟩ a w := by
    refine ⟨AV.all.mono hx _ _ hr.sc hr.tm, hx.scos hr.sc, ?_⟩
    refine ⟨fun i b hb hl => ?_, fun i b hb => hx.scos (hm.boxsc i b hb), hm.boxlo, hm.boxinj, fun i x hx hl => hm.vec i x (hget i x hx hl) hl, fun i x g hx hl => hm.vecS i x g (hget i x hx hl) hl, fun i x j b g hx hl => hm.vecbox i x j b g (hget i x hx hl) hl, fun i x j y g hx hl hy hyl => hm.vecinj i x j y g (hget i x hx hl) hl (hget j y hy hyl) hyl, hm.ro, hm.below, hm.base, hm.bl⟩
    obtain ⟨vs, h1, h2⟩ := hm.box i b hb hl
    exact ⟨vs, h1, AV.all.mono hx _ _ (hm.boxsc i b hb) h2⟩
  refine h n0 w0 e a w Qr hr' ?_
  intro ex e' s' a' w' hq hrel hdf hx'
  exact hk ex e' s' a' w' hq hrel hdf (hx.trans hx')
theorem Em.pushDead {lk : Lk} : ∀ (ds : List Vec) {m : Emb} {s : SS} {st : St}, Em m s st → (∀ v ∈ ds, v.live = false) → Ph v0 m s st → v0 ≤ s.V.length →
    ∃ m', Em m' ⟨s.n, s.t, s.B, s.V ++ ds⟩ ⟨st.t, st.B, st.V ++ ds⟩ ∧ Adv lk m s st m' ⟨s.n, s.t, s.B, s.V ++ ds⟩ ⟨st.t, st.B, st.V ++ ds⟩ ∧ Ph v0 m' ⟨s.n, s.t, s.B, s.V ++ ds⟩ ⟨st.t, st.B, st.V ++ ds⟩
  | [], m, s, st, hE, hd, hph, hv0 => by
    refine ⟨m, ?_, ?_, ?_⟩
    · simpa using hE
    · simpa using Adv.refl lk m s st
    · simpa using hph
  | v :: ds, m, s, st, hE, hd, hph, hv0 => by
    have hl : m.vb.length = m.vm.length := by rw [hE.m.ol, hE.m.vl]
    have ho := Emb.pushV_fo (m := m) st.V.length hl
    have hu := Emb.pushV_up m st.V.length
    have hE1 : Em (m.pushV st.V.length) ⟨s.n, s.t, s.B, s.V ++ [v]⟩ ⟨st.t, st.B, st.V ++ [v]⟩ := by
      have := hE.put (hE.m.pushV (v := v)) hu ho (Nat.le_refl _) (by simp) (x := .any) rfl none
      simpa [SS.put, St.put] using this
    have ha1 : Adv lk m s st (m.pushV st.V.length) ⟨s.n, s.t, s.B, s.V ++ [v]⟩ ⟨st.t, st.B, st.V ++ [v]⟩ :=
      ⟨Stp.pushV v, rfl, Nat.le_refl _, by simp, fun _ _ => rfl, fun _ _ _ => rfl, fun i _ hi => List.getElem?_append_left hi, fun i _ hi => ho i (by rw [hE.m.vl]; exact hi)⟩
    have hph1 : Ph v0 (m.pushV st.V.length) ⟨s.n, s.t, s.B, s.V ++ [v]⟩ ⟨st.t, st.B, st.V ++ [v]⟩ := by
      intro j x hj hx hdx
      simp only at hx ⊢
      by_cases hjl : j < s.V.length
      · rw [List.getElem?_append_left hjl] at hx
        have hjm : j < m.vm.length := by rw [hE.m.vl]; exact hjl
        rw [hu.v j hjm, List.getElem?_append_left (hE.m.vlt j hjl), hph j x hj hx hdx]
        simp only [Vec.cz, ho j hjm]
      · rw [List.getElem?_append_right (by omega)] at hx
        have hj0 : j - s.V.length = 0 := by
          have := (List.getElem?_eq_some_iff.1 hx).1
          simp at this
          omega
        obtain rfl : j = s.V.length := by omega
        simp only [Nat.sub_self, List.getElem?_cons_zero, Option.some.injEq] at hx
        subst hx
        rw [← hE.m.vl, Emb.pushV_new]
        simp [Vec.cz, Emb.pushV_new0 _ hl]
    obtain ⟨m', g1, g2, g3⟩ := Em.pushDead ds hE1 (fun x hx => hd x (by simp [hx])) hph1 (by simp; omega)
    simp only [List.append_assoc, List.cons_append, List.nil_append] at g1 g2 g3
    exact ⟨m', g1, ha1.trans g2, g3⟩
theorem phs_dead (ops : List Oper) : ∀ v ∈ phs P sg ops, v.live = false := by
  intro v hv
  simp only [phs, List.mem_filterMap] at hv
  obtain ⟨o, _, hw⟩ := hv
  split at hw
  · cases hw; rfl
  · split at hw
    · cases hw; rfl
    · cases hw
theorem evRegD_W (hM : Fns P sg M) (hF : Free F) {inl : IN} (hI : InOK F n P inl) {lk : Lk} {id : Nat} {ops : Array Oper} {m : Emb} {s : SS} {st : St} {K : SS → Option Ou} {r : Ou} {Q : Exit → St → Prop} (hE : Em m s st) (h : evRegD P sg M inl lk ops s K = some r)
    (hk : ∀ m' s' st', K s' = some r → Em m' s' st' → Adv lk m s st m' s' st' → Q .normal st') : W F n P (.region id ops true) st Q := by
  unfold evRegD at h
  split at h
  · rename_i hok
    simp only [drawOkF, Bool.and_eq_true] at hok
    have hph0 : Ph s.V.length m s st := by
      intro j v hj hv _
      have := (List.getElem?_eq_some_iff.1 hv).1
      omega
    obtain ⟨m', h1, h2, h3⟩ := Em.pushDead (lk := lk) (phs P sg ops.toList) hE (phs_dead _) hph0 (Nat.le_refl _)
    refine W_dead (phs_dead (P := P) (sg := sg) ops.toList) ?_
    have := W_drawF (F := F) (n := n) (P := P) (vb := vbOf m' s.V.length) (id := id) (l := ops.toList) (Q := Q) hok.1 (by simpa using hok.2)
      (evRD_draw hM hF hI ops.toList [] h1 h3 (by simp) rfl (by simp) h fun m'' s'' st'' g1 g2 g3 => hk m'' s'' st'' g1 g2 (h2.trans g3))
    simpa using this
  · cases h
end
end Go.Sx
namespace Go.Sx
open Go Go.RowKit
inductive HT where
  | nil
  | reg (as : List Pa) (ks : List Nat) (j : Option Hint) (il : List (Option Nat × Hint × HT))
  | rt (as : List Pa)
  | ins
  | two (a b : HT)
  | sel (a : HT) (n : Nat) (b c : HT)
  | cond (j : Option Hint) (a b : HT)
  | blk (h : Hint) (a : HT)
  | thru (a : HT)
  | lp (as : List Pa) (h : Hint) (a : HT)
def seqO (x : Option Ou) (k : List CV → Option Ou) : Option Ou := match x with
  | some (.nx vs) => k vs
  | o => o
def blkO (id : Nat) (x : Option Ou) (k : List CV → Option Ou) : Option Ou := match x with
  | some (.br i vs) => if i = id then k vs else some (.br i vs)
  | o => o
def iterN (step : List CV → Option Ou) : Nat → List CV → Option Ou
  | 0, _ => none
  | n + 1, vs => match step vs with
    | some (.nx vs') => iterN step n vs'
    | o => o
open Classical in
noncomputable def loopD (step : List CV → Option Ou) (vs : List CV) : Option Ou :=
  if h : ∃ n r, iterN step n vs = some r then some (Classical.choose (Classical.choose_spec h)) else none
theorem iterN_mono {step : List CV → Option Ou} : ∀ {n : Nat} {vs : List CV} {r : Ou}, iterN step n vs = some r → ∀ k, iterN step (n + k) vs = some r
  | 0, vs, r, h, k => by simp [iterN] at h
  | n + 1, vs, r, h, k => by
    rw [show n + 1 + k = (n + k) + 1 by omega]
    simp only [iterN] at h ⊢
    cases hs : step vs with
    | none => rw [hs] at h; exact h
    | some o =>
      rw [hs] at h
      cases o with
      | nx vs' => exact iterN_mono h k
      | br i vs' => exact h
      | ret vs' => exact h
theorem iterN_inj {step : List CV → Option Ou} {n k : Nat} {vs : List CV} {r r' : Ou} (h : iterN step n vs = some r) (h' : iterN step k vs = some r') : r = r' := by
  have h1 := iterN_mono h k
  have h2 := iterN_mono h' n
  rw [Nat.add_comm] at h2
  rw [h1] at h2
  injection h2
theorem loopD_some {step : List CV → Option Ou} {vs : List CV} {r : Ou} : loopD step vs = some r ↔ ∃ n, iterN step n vs = some r := by
  unfold loopD
  constructor
  · intro h
    split at h
    · rename_i hh
      injection h with h
      subst h
      exact ⟨_, Classical.choose_spec (Classical.choose_spec hh)⟩
    · cases h
  · rintro ⟨n, h⟩
    have hh : ∃ n r, iterN step n vs = some r := ⟨n, r, h⟩
    rw [dif_pos hh]
    congr 1
    exact iterN_inj (Classical.choose_spec (Classical.choose_spec hh)) h
theorem loopD_eq (step : List CV → Option Ou) (vs : List CV) : loopD step vs = match step vs with
    | some (.nx vs') => loopD step vs'
    | o => o := by
  refine Option.ext fun r => ?_
  rw [loopD_some]
  constructor
  · rintro ⟨n, h⟩
    cases n with
    | zero => simp [iterN] at h
    | succ n =>
      simp only [iterN] at h
      cases hs : step vs with
      | none => rw [hs] at h; cases h
      | some o =>
        rw [hs] at h
        cases o with
        | nx vs' => exact loopD_some.2 ⟨n, h⟩
        | br i vs' => exact h
        | ret vs' => exact h
  · intro h
    cases hs : step vs with
    | none => rw [hs] at h; cases h
    | some o =>
      rw [hs] at h
      cases o with
      | nx vs' =>
        obtain ⟨n, h'⟩ := loopD_some.1 h
        exact ⟨n + 1, by simp only [iterN, hs]; exact h'⟩
      | br i vs' => exact ⟨1, by simp only [iterN, hs]; exact h⟩
      | ret vs' => exact ⟨1, by simp only [iterN, hs]; exact h⟩
def SS.kept (ks : List Nat) (s : SS) : SS := ⟨s.n, ks.map fun k => (k, s.get k), s.B, s.V⟩
section
variable (P : Program) (sg : FuncId → Option Sig) (M : Den)
noncomputable def evReg (inl : IN) (lk : Lk) (ops : Array Oper) (dr : Bool) (s : SS) (K : SS → Option Ou) : Option Ou :=
  match dr with
  | true => evRegD P sg M inl lk ops s K
  | false => evR P sg M inl lk false 0 ops.toList ops.toList s K
def lookH (id : Nat) : List (Nat × Hint) → Option Hint
  | [] => none
  | (i, h) :: r => if i = id then some h else lookH id r
noncomputable def evC (inl : List (Option Nat × Hint × HT) → IN) (rt : SS → Option Ou) : Code → HT → Lk → List (Nat × Hint) → SS → (SS → Option Ou) → Option Ou
  | .skip, _, _, _, s, K => K s
  | .region _ ops dr, .reg as ks none il, lk, _, s, K => match actsS as lk s with
    | some s => evReg P sg M (inl il) lk ops dr s fun s' => K (s'.kept (ks ++ lk.t))
    | none => none
  | .region _ ops dr, .reg as _ (some h) il, lk, _, s, K => match actsS as lk s with
    | some s => if hintOk h lk s = true then seqO (evReg P sg M (inl il) (lkIn h lk s) ops dr s fun s' => (extH h s').map .nx) fun vs => K (tmpl h lk s vs) else none
    | none => none
  | .seq a b, .two x y, lk, env, s, K => evC inl rt a x lk env s fun s' => evC inl rt b y lk env s' K
  | .seq a b, .sel x n y z, lk, env, s, K => evC inl rt a x lk env s fun s' => evC inl rt b (if s'.V.length ≤ n then y else z) lk env s' K
  | .cond c a b, .cond none x y, lk, env, s, K => match s.ev c with
    | .cv (.val (.bool t)) => iteB t (evC inl rt a x lk env s K) (evC inl rt b y lk env s K)
    | _ => none
  | .cond c a b, .cond (some h) x y, lk, env, s, K => match s.ev c with
    | .cv (.val (.bool t)) => if hintOk h lk s = true then
        seqO (iteB t (evC inl rt a x (lkIn h lk s) env s fun s' => (extH h s').map .nx) (evC inl rt b y (lkIn h lk s) env s fun s' => (extH h s').map .nx)) fun vs => K (tmpl h lk s vs)
      else none
    | _ => none
  | .block id c, .blk h x, lk, env, s, K => if hintOk h lk s = true then
      blkO id (evC inl rt c x (lkIn h lk s) ((id, h) :: env) s fun s' => (extH h s').map (.br id)) fun vs => K (tmpl h lk s vs)
    else none
  | .block id c, .thru x, lk, env, s, K => match lookH id env with
    | none => evC inl rt c x lk env s K
    | some _ => none
  | .loop c, .lp as h x, lk, env, s, _ => match actsS as lk s with
    | some s => if hintOk h lk s = true then
        match extH h s with
        | some v0 => loopD (fun vs => evC inl rt c x (lkIn h lk s) env (tmpl h lk s vs) fun s' => (extH h s').map .nx) v0
        | none => none
      else none
    | none => none
  | .exit id, _, _, env, s, _ => match lookH id env with
    | some h => (extH h s).map (.br id)
    | none => none
  | .label _, _, _, _, s, K => K s
  | .scope c, x, lk, env, s, K => evC inl rt c x lk env s K
  | .ret, .rt as, lk, _, s, _ => match actsS as lk s with
    | some s => rt s
    | none => none
  | .ret, _, _, _, s, _ => rt s
  | _, _, _, _, _, _ => none
end
end Go.Sx
namespace Go.Sx
open Go Go.RowKit
section
variable {F : Fence} {n : Nat} {P : Program} {sg : FuncId → Option Sig} {M : Den}
theorem Em.kept {m : Emb} {s : SS} {st : St} (hE : Em m s st) (ks : List Nat) : ∃ st1, Wk st st1 ∧ Em m (s.kept ks) st1 ∧ st1.B = st.B := by
  let st1 : St := ⟨mkT s.n ((s.kept ks).t.map fun p => (p.1, p.2.cz m)), st.B, st.V⟩
  have hlk : ∀ d, Go.Sx.lk ((s.kept ks).t.map fun p => (p.1, p.2.cz m)) d = (if ks.contains d then s.get d else .any).cz m := by
    intro d
    rw [lk_map (AV.cz m) (by simp [AV.cz])]
    simp only [SS.kept]
    rw [lk_kept s.get]
  have hlk' : ∀ d, Go.Sx.lk (s.t.map fun p => (p.1, p.2.cz m)) d = (Go.Sx.lk s.t d).cz m := fun d => lk_map (AV.cz m) (by simp [AV.cz]) s.t d
  have hle : ∀ d, d < s.n → LeS (Go.Sx.lk (s.t.map fun p => (p.1, p.2.cz m)) d) (Go.Sx.lk ((s.kept ks).t.map fun p => (p.1, p.2.cz m)) d) := by
    intro d hd
    rw [hlk, hlk']
    split
    · simp only [SS.get, hd, if_true]; exact LeS.refl _
    · simp only [AV.cz]; exact LeS.any _
  refine ⟨st1, ⟨?_, rfl, fun i b1 hb => ⟨b1, hb, fun hl => ⟨hl, rfl, AV.les_refl _⟩⟩, rfl, ?_, fun _ _ i b b1 h1 h2 h3 => by rw [show st1.B[i]? = st.B[i]? from rfl, h1] at h2; cases h2; exact h3⟩, ⟨rfl, ?_, hE.m⟩, rfl⟩
  · rw [hE.t]
    show AV.les (mkT s.n _) (mkT s.n _)
    have : ∀ (l : List Nat), (∀ d ∈ l, d < s.n) → AV.les (l.map (Go.Sx.lk (s.t.map fun p => (p.1, p.2.cz m)))) (l.map (Go.Sx.lk ((s.kept ks).t.map fun p => (p.1, p.2.cz m)))) := by
      intro l
      induction l with
      | nil => intro _; exact .nil
      | cons d l ih =>
        intro hl
        exact .cons (hle d (hl d (by simp))).1 (ih fun d hd => hl d (by simp [hd]))
    exact this _ fun d hd => by simpa using hd
  · intro nB ws hs
    rw [hE.t] at hs
    rw [AV.scos_iff] at hs ⊢
    intro y hy
    simp only [st1, mkT, List.mem_map, List.mem_range] at hy
    obtain ⟨d, hd, rfl⟩ := hy
    refine (hle d hd).2 nB ws (hs _ ?_)
    simp only [mkT, List.mem_map, List.mem_range]
    exact ⟨d, hd, rfl⟩
  · intro p hp
    simp only [SS.kept, List.mem_map] at hp
    obtain ⟨d, _, rfl⟩ := hp
    exact hE.inn d
theorem SS.kept_get {s : SS} {ks : List Nat} {d : Nat} (h : d ∈ ks) : (s.kept ks).get d = s.get d := by
  show (if d < s.n then Go.Sx.lk (ks.map fun k => (k, s.get k)) d else .any) = s.get d
  by_cases hd : d < s.n
  · rw [if_pos hd, lk_kept s.get, if_pos (by simpa using h)]
  · rw [if_neg hd]; simp [SS.get, hd]
theorem evReg_W (hM : Fns P sg M) (hF : Free F) {inl : IN} (hI : InOK F n P inl) {lk : Lk} {id : Nat} {ops : Array Oper} {dr : Bool} {m : Emb} {s : SS} {st : St} {K : SS → Option Ou} {r : Ou} {Q : Exit → St → Prop} (hE : Em m s st) (h : evReg P sg M inl lk ops dr s K = some r)
    (hk : ∀ m' s' st', K s' = some r → Em m' s' st' → Adv lk m s st m' s' st' → Q .normal st') : W F n P (.region id ops dr) st Q := by
  unfold evReg at h
  split at h
  · exact evRegD_W hM hF hI hE h hk
  · refine W_region ?_
    have := evR_plain (F := F) (n := n) hM hF hI ops.toList hE h hk
    simpa using this
open Classical in
theorem W_loopK {body : Code} {st : St} {Q : Exit → St → Prop} (I : Nat → St → Prop) {k0 : Nat} (h0 : I k0 st)
    (hbody : ∀ k s, I k s → W F n P body s fun ex s' => match ex with
      | .normal => ∃ s1, Wk s' s1 ∧ ∃ k', k' < k ∧ I k' s1
      | ex => Q ex s') : W F n P (.loop body) st Q := by
  intro n0 w0 e a w Qr hr hk
  let J : Nat → Act → World → Prop := fun k a' w' => ∃ e' s, I k s ∧ Rel n0 w0 e' s a' w' ∧ a'.defers = a.defers ∧ ExtS e st w e' s.B s.V w'
  have hleast : ∀ a' w', (∃ k, J k a' w') → ∃ k, J k a' w' ∧ ∀ j, J j a' w' → k ≤ j := fun a' w' h => exists_least h
  let μr : Act → World → Nat := fun a' w' => if h : ∃ k, J k a' w' then Classical.choose (hleast a' w' h) else 0
  have hμ : ∀ a' w' (h : ∃ k, J k a' w'), J (μr a' w') a' w' ∧ ∀ j, J j a' w' → μr a' w' ≤ j := by
    intro a' w' h
    have : μr a' w' = Classical.choose (hleast a' w' h) := by simp only [μr]; rw [dif_pos h]
    rw [this]
    exact Classical.choose_spec (hleast a' w' h)
  refine wpIn_loop (fun a' w' => ∃ k, J k a' w') μr ⟨k0, e, st, h0, hr, rfl, Ext.refl _ _ _ _ _⟩ ?_
  intro a1 w1 hJ
  obtain ⟨⟨e1, s, hI, hr1, hd1, hx1⟩, hmin⟩ := hμ a1 w1 hJ
  refine hbody _ s hI n0 w0 e1 a1 w1 _ hr1 ?_
  intro ex e2 s2 a2 w2 hq hr2 hd2 hx2
  cases ex with
  | normal =>
    obtain ⟨s3, hw3, k', hlt, hI3⟩ := hq
    have hww := hw3.weak hr2
    have hJ3 : J k' a2 w2 := ⟨e2, s3, hI3, hr2.weak hww, hd2.trans hd1, hx1.trans (hx2.weak hww (by rw [hw3.Bl]; exact hx2.nB) (by rw [hw3.V]; simpa using hx2.nV))⟩
    refine ⟨⟨_, hJ3⟩, ?_⟩
    have := (hμ a2 w2 ⟨_, hJ3⟩).2 _ hJ3
    omega
  | _ => exact hk _ e2 s2 a2 w2 hq hr2 (hd2.trans hd1) (hx1.trans hx2)
end
end Go.Sx
namespace Go.Sx
open Go Go.RowKit
section
variable {F : Fence} {n : Nat} {P : Program} {sg : FuncId → Option Sig} {M : Den} {rt : SS → Option Ou}
theorem seqO_some {x : Option Ou} {k : List CV → Option Ou} {r : Ou} (h : seqO x k = some r) : (∃ vs, x = some (.nx vs) ∧ k vs = some r) ∨ (x = some r ∧ ∀ vs, r ≠ .nx vs) := by
  unfold seqO at h
  split at h
  · exact .inl ⟨_, rfl, h⟩
  · rename_i hn
    refine .inr ⟨h, fun vs hr => ?_⟩
    subst hr
    exact hn _ h
theorem blkO_some {id : Nat} {x : Option Ou} {k : List CV → Option Ou} {r : Ou} (h : blkO id x k = some r) : (∃ vs, x = some (.br id vs) ∧ k vs = some r) ∨ (x = some r ∧ ∀ vs, r ≠ .br id vs) := by
  unfold blkO at h
  split at h
  · rename_i i vs
    split at h
    · rename_i hi; subst hi; exact .inl ⟨_, rfl, h⟩
    · rename_i hi
      injection h with h
      subst h
      exact .inr ⟨rfl, fun vs' he => by cases he; exact hi rfl⟩
  · rename_i hn
    refine .inr ⟨h, fun vs hr => ?_⟩
    subst hr
    exact hn _ _ h
theorem lookH_cons {id i : Nat} {h : Hint} {env : List (Nat × Hint)} : lookH i ((id, h) :: env) = if id = i then some h else lookH i env := rfl
theorem evC_sound (hM : Fns P sg M) (hF : Free F) {inl : List (Option Nat × Hint × HT) → IN} (hI : ∀ il, InOK F n P (inl il)) (hrt : ∀ s o, rt s = some o → ∃ l, o = .ret l) : ∀ (c : Code) (ht : HT) (lk : Lk) (env : List (Nat × Hint)) (s : SS) (K : SS → Option Ou) (r : Ou) (m : Emb) (st : St) (Q : Exit → St → Prop),
    Em m s st → evC P sg M inl rt c ht lk env s K = some r →
    (∀ m' s' st', K s' = some r → Em m' s' st' → Adv lk m s st m' s' st' → Q .normal st') →
    (∀ id h vs m' s' st', lookH id env = some h → extH h s' = some vs → r = .br id vs → Em m' s' st' → Adv lk m s st m' s' st' → Q (.exit id) st') →
    (∀ m' s' st', rt s' = some r → Em m' s' st' → Adv lk m s st m' s' st' → Q .ret st') →
    W F n P c st Q := by
  intro c
  induction c with
  | skip =>
    intro ht lk env s K r m st Q hE h hK hX hR
    simp only [evC] at h
    exact W_skip (hK m s st h hE (Adv.refl _ _ _ _))
  | label l =>
    intro ht lk env s K r m st Q hE h hK hX hR
    simp only [evC] at h
    exact W_label (hK m s st h hE (Adv.refl _ _ _ _))
  | ret =>
    intro ht lk env s K r m st Q hE h hK hX hR
    cases ht with
    | rt as =>
      simp only [evC] at h
      split at h
      · rename_i s1 hs1
        exact acts_W hE hs1 fun m1 st1 hE1 ha1 => W_ret (hR m1 s1 st1 h hE1 ha1)
      · cases h
    | _ => simp only [evC] at h; exact W_ret (hR m s st h hE (Adv.refl _ _ _ _))
  | exit id =>
    intro ht lk env s K r m st Q hE h hK hX hR
    simp only [evC] at h
    split at h
    · rename_i hh hl
      simp only [Option.map_eq_some_iff] at h
      obtain ⟨vs, h1, rfl⟩ := h
      exact W_exit (hX id hh vs m s st hl h1 rfl hE (Adv.refl _ _ _ _))
    · cases h
  | region id ops dr =>
    intro ht lk env s K r m st Q hE h hK hX hR
    cases ht with
    | reg as ks j il =>
      cases j with
      | none =>
        simp only [evC] at h
        split at h
        · rename_i s0 hs0
          refine acts_W hE hs0 fun m0 st0 hE0 ha0 => W_post (evReg_W hM hF (hI _) hE0 h fun m' s' st' h1 h2 h3 => ?_)
          obtain ⟨st1, q1, q2, q0⟩ := h2.kept (ks ++ lk.t)
          refine ⟨st1, q1, hK m' _ st1 h1 q2 (ha0.trans ?_)⟩
          have hB : st1.B.length = st'.B.length := q1.Bl
          refine ⟨⟨h3.stp.up, by rw [hB]; exact h3.stp.bl, by rw [q1.V]; exact h3.stp.vl, h3.stp.bn, h3.stp.vn, fun j hj hn => ?_, by rw [q1.V]; exact h3.stp.vf⟩, h3.n, h3.bl, h3.vl, fun d hd => ?_, h3.b, h3.v, h3.o⟩
          · rw [q0]; exact h3.stp.bf j hj hn
          · rw [SS.kept_get (by simp [hd])]; exact h3.t d hd
        · cases h
      | some h0 =>
        simp only [evC] at h
        split at h
        · rename_i s0 hs0
          split at h
          · rename_i hok
            rcases seqO_some h with ⟨vs, h1, h2⟩ | ⟨h1, h2⟩
            · refine acts_W hE hs0 fun m0 st0 hE0 ha0 => W_post (evReg_W hM hF (hI _) hE0 h1 fun m' s' st' g1 g2 g3 => ?_)
              simp only [Option.map_eq_some_iff] at g1
              obtain ⟨vs', g1, g4⟩ := g1
              cases g4
              obtain ⟨m1, st1, q1, q2, q3⟩ := tmpl_ok hE0 g2 g3 g1 hok
              exact ⟨st1, q1, hK m1 _ st1 h2 q2 (ha0.trans (q3.sub hok))⟩
            · refine acts_W hE hs0 fun m0 st0 hE0 ha0 => evReg_W hM hF (hI _) hE0 h1 fun m' s' st' g1 g2 g3 => ?_
              simp only [Option.map_eq_some_iff] at g1
              obtain ⟨vs', g1, g4⟩ := g1
              exact absurd g4.symm (h2 vs')
          · cases h
        · cases h
    | _ => simp [evC] at h
  | seq a b iha ihb =>
    intro ht lk env s K r m st Q hE h hK hX hR
    cases ht with
    | two x y =>
      simp only [evC] at h
      refine W_seq (iha x lk env s _ r m st _ hE h ?_ ?_ ?_)
      · intro m' s' st' h1 h2 h3
        exact ihb y lk env s' K r m' st' Q h2 h1 (fun m'' s'' st'' g1 g2 g3 => hK m'' s'' st'' g1 g2 (h3.trans g3))
          (fun id h vs m'' s'' st'' g0 g1 g2 g3 g4 => hX id h vs m'' s'' st'' g0 g1 g2 g3 (h3.trans g4)) (fun m'' s'' st'' g1 g2 g3 => hR m'' s'' st'' g1 g2 (h3.trans g3))
      · exact hX
      · exact hR
    | sel x n y z =>
      simp only [evC] at h
      refine W_seq (iha x lk env s _ r m st _ hE h ?_ ?_ ?_)
      · intro m' s' st' h1 h2 h3
        exact ihb _ lk env s' K r m' st' Q h2 h1 (fun m'' s'' st'' g1 g2 g3 => hK m'' s'' st'' g1 g2 (h3.trans g3))
          (fun id h vs m'' s'' st'' g0 g1 g2 g3 g4 => hX id h vs m'' s'' st'' g0 g1 g2 g3 (h3.trans g4)) (fun m'' s'' st'' g1 g2 g3 => hR m'' s'' st'' g1 g2 (h3.trans g3))
      · exact hX
      · exact hR
    | _ => simp [evC] at h
  | cond c a b iha ihb =>
    intro ht lk env s K r m st Q hE h hK hX hR
    cases ht with
    | cond j x y =>
      cases j with
      | none =>
        simp only [evC] at h
        split at h
        · rename_i t hc
          refine W_cond (b := t) (by rw [hE.ev, hc]; simp [AV.cz]) (fun ht => ?_) (fun ht => ?_)
          · subst ht
            exact iha x lk env s K r m st Q hE h hK hX hR
          · subst ht
            exact ihb y lk env s K r m st Q hE h hK hX hR
        · cases h
      | some h0 =>
        simp only [evC] at h
        split at h
        · rename_i t hc
          split at h
          · rename_i hok
            rcases seqO_some h with ⟨vs, h1, h2⟩ | ⟨h1, h2⟩
            · refine W_post (W_cond (b := t) (by rw [hE.ev, hc]; simp [AV.cz]) (fun ht => ?_) (fun ht => ?_))
              all_goals
                subst ht
                first
                | refine iha x (lkIn h0 lk s) env s _ _ m st _ hE h1 ?_ ?_ ?_
                | refine ihb y (lkIn h0 lk s) env s _ _ m st _ hE h1 ?_ ?_ ?_
                · intro m' s' st' g1 g2 g3
                  simp only [Option.map_eq_some_iff] at g1
                  obtain ⟨vs', g1, g4⟩ := g1
                  cases g4
                  obtain ⟨m1, st1, q1, q2, q3⟩ := tmpl_ok hE g2 g3 g1 hok
                  exact ⟨st1, q1, hK m1 _ st1 h2 q2 (q3.sub hok)⟩
                · intro id h vs' m' s' st' g0 g1 g2 g3 g4; cases g2
                · intro m' s' st' g1 g2 g3
                  obtain ⟨l, hl⟩ := hrt _ _ g1
                  cases hl
            · refine W_cond (b := t) (by rw [hE.ev, hc]; simp [AV.cz]) (fun ht => ?_) (fun ht => ?_)
              all_goals
                subst ht
                first
                | refine iha x (lkIn h0 lk s) env s _ _ m st _ hE h1 ?_ ?_ ?_
                | refine ihb y (lkIn h0 lk s) env s _ _ m st _ hE h1 ?_ ?_ ?_
                · intro m' s' st' g1 g2 g3
                  simp only [Option.map_eq_some_iff] at g1
                  obtain ⟨vs', g1, g4⟩ := g1
                  exact absurd g4.symm (h2 vs')
                · intro id h vs' m' s' st' g0 g1 g2 g3 g4; exact hX id h vs' m' s' st' g0 g1 g2 g3 (g4.sub hok)
                · intro m' s' st' g1 g2 g3; exact hR m' s' st' g1 g2 (g3.sub hok)
          · cases h
        · cases h
    | _ => simp [evC] at h
  | block id c ih =>
    intro ht lk env s K r m st Q hE h hK hX hR
    cases ht with
    | thru x =>
      simp only [evC] at h
      split at h
      · rename_i hl
        refine W_block (ih x lk env s K r m st _ hE h ?_ ?_ ?_)
        · exact hK
        · intro i h vs' m' s' st' g0 g1 g2 g3 g4
          by_cases hi : i = id
          · subst hi; rw [hl] at g0; cases g0
          · simp only [hi, if_false]
            exact hX i h vs' m' s' st' g0 g1 g2 g3 g4
        · exact hR
      · cases h
    | blk h0 x =>
      simp only [evC] at h
      split at h
      · rename_i hok
        rcases blkO_some h with ⟨vs, h1, h2⟩ | ⟨h1, h2⟩
        · refine W_post (W_block (ih x (lkIn h0 lk s) _ s _ _ m st _ hE h1 ?_ ?_ ?_))
          · intro m' s' st' g1 g2 g3
            simp only [Option.map_eq_some_iff] at g1
            obtain ⟨vs', g1, g4⟩ := g1
            cases g4
            obtain ⟨m1, st1, q1, q2, q3⟩ := tmpl_ok hE g2 g3 g1 hok
            exact ⟨st1, q1, hK m1 _ st1 h2 q2 (q3.sub hok)⟩
          · intro i h vs' m' s' st' g0 g1 g2 g3 g4
            cases g2
            rw [lookH_cons, if_pos rfl] at g0
            cases g0
            obtain ⟨m1, st1, q1, q2, q3⟩ := tmpl_ok hE g3 g4 g1 hok
            simp only [if_true]
            exact ⟨st1, q1, hK m1 _ st1 h2 q2 (q3.sub hok)⟩
          · intro m' s' st' g1 g2 g3
            obtain ⟨l, hl⟩ := hrt _ _ g1
            cases hl
        · refine W_block (ih x (lkIn h0 lk s) _ s _ _ m st _ hE h1 ?_ ?_ ?_)
          · intro m' s' st' g1 g2 g3
            simp only [Option.map_eq_some_iff] at g1
            obtain ⟨vs', g1, g4⟩ := g1
            exact absurd g4.symm (h2 vs')
          · intro i h vs' m' s' st' g0 g1 g2 g3 g4
            by_cases hi : i = id
            · subst hi; exact absurd g2 (h2 vs')
            · simp only [hi, if_false]
              rw [lookH_cons, if_neg (fun h => hi h.symm)] at g0
              exact hX i h vs' m' s' st' g0 g1 g2 g3 (g4.sub hok)
          · intro m' s' st' g1 g2 g3; exact hR m' s' st' g1 g2 (g3.sub hok)
      · cases h
    | _ => simp [evC] at h
  | loop c ih =>
    intro ht lk env s K r m st Q hE h hK hX hR
    cases ht with
    | lp as h0 x =>
      simp only [evC] at h
      split at h
      case h_2 => cases h
      rename_i sA hsA
      refine acts_W hE hsA fun mA stA hEA haA => ?_
      split at h
      · rename_i hok
        split at h
        · rename_i v0 hv0
          obtain ⟨k0, hk0⟩ := loopD_some.1 h
          obtain ⟨m1, st1, q1, q2, q3⟩ := tmpl_ok (st0 := stA) hEA hEA (Adv.refl _ _ _ _) hv0 hok
          refine W_pre q1 ?_
          refine W_loopK (fun k st' => ∃ vs m', iterN (fun vs => evC P sg M inl rt c x (lkIn h0 lk sA) env (tmpl h0 lk sA vs) fun s' => (extH h0 s').map .nx) k vs = some r ∧
            Em m' (tmpl h0 lk sA vs) st' ∧ Adv (lkIn h0 lk sA) mA sA stA m' (tmpl h0 lk sA vs) st') ⟨v0, m1, hk0, q2, q3⟩ ?_
          rintro k s1 ⟨vs, m', g1, g2, g3⟩
          cases k with
          | zero => simp [iterN] at g1
          | succ k =>
            simp only [iterN] at g1
            split at g1
            · rename_i vs' hstep
              refine ih x (lkIn h0 lk sA) env _ _ _ m' s1 _ g2 hstep ?_ ?_ ?_
              · intro m2 s2 st2 e1 e2 e3
                simp only [Option.map_eq_some_iff] at e1
                obtain ⟨vs2, e1, e4⟩ := e1
                cases e4
                obtain ⟨m3, st3, w1, w2, w3⟩ := tmpl_ok hEA e2 (g3.trans e3) e1 hok
                exact ⟨st3, w1, k, Nat.lt_succ_self _, vs', m3, g1, w2, w3⟩
              · intro id h vs2 m2 s2 st2 e0 e1 e2 e3 e4; cases e2
              · intro m2 s2 st2 e1 e2 e3
                obtain ⟨l, hl⟩ := hrt _ _ e1
                cases hl
            · rename_i hn
              refine ih x (lkIn h0 lk sA) env _ _ r m' s1 _ g2 g1 ?_ ?_ ?_
              · intro m2 s2 st2 e1 e2 e3
                simp only [Option.map_eq_some_iff] at e1
                obtain ⟨vs2, e1, e4⟩ := e1
                subst e4
                exact absurd g1 (hn vs2)
              · intro id h vs2 m2 s2 st2 e0 e1 e2 e3 e4
                exact hX id h vs2 m2 s2 st2 e0 e1 e2 e3 (haA.trans ((g3.trans e4).sub hok))
              · intro m2 s2 st2 e1 e2 e3
                exact hR m2 s2 st2 e1 e2 (haA.trans ((g3.trans e3).sub hok))
        · cases h
      · cases h
    | _ => simp [evC] at h
  | scope c ih =>
    intro ht lk env s K r m st Q hE h hK hX hR
    simp only [evC] at h
    refine W_scope (ih ht lk env s K r m st (noGo Q) hE h ?_ ?_ ?_)
    · exact hK
    · exact hX
    · exact hR
  | _ => intro ht lk env s K r m st Q hE h hK hX hR; cases ht <;> simp [evC] at h
end
end Go.Sx
namespace Go.Sx
open Go Go.RowKit
section
variable {F : Fence} {n : Nat} {P : Program}
theorem WOps_wk {ops : Array Oper} {l : List Oper} {st s1 : St} {Q : St → Prop} (hw : Wk st s1) (h : WOps F n P ops l s1 Q) : WOps F n P ops l st Q := by
  intro n0 w0 e a w Qr hr hk
  have hww := hw.weak hr
  have hx : ExtS e st w e s1.B s1.V w := (Ext.refl e w st.B.length (vers st.V) (kss st.V)).weak hww (by rw [hw.Bl]; exact Nat.le_refl _) (by rw [hw.V]; simp)
  exact h n0 w0 e a w Qr (hr.weak hww) fun e' st' a' w' hq hrel hdf hx' => hk e' st' a' w' hq hrel hdf (hx.trans hx')
theorem Wk_slots {N : Nat} {l l1 : List (Nat × AV)} {B : List Box} {V : List Vec} (hle : ∀ d, d < N → LeS (lk l d) (lk l1 d)) : Wk ⟨mkT N l, B, V⟩ ⟨mkT N l1, B, V⟩ := by
  refine ⟨?_, rfl, fun i b1 hb => ⟨b1, hb, fun hl => ⟨hl, rfl, AV.les_refl _⟩⟩, rfl, ?_, fun _ _ i b b1 h1 h2 h3 => by rw [show (⟨mkT N l1, B, V⟩ : St).B[i]? = (⟨mkT N l, B, V⟩ : St).B[i]? from rfl, h1] at h2; cases h2; exact h3⟩
  · show AV.les (mkT N _) (mkT N _)
    have : ∀ (ls : List Nat), (∀ d ∈ ls, d < N) → AV.les (ls.map (lk l)) (ls.map (lk l1)) := by
      intro ls
      induction ls with
      | nil => intro _; exact .nil
      | cons d ls ih =>
        intro hl
        exact .cons (hle d (hl d (by simp))).1 (ih fun d hd => hl d (by simp [hd]))
    exact this _ fun d hd => by simpa using hd
  · intro nB ws hs
    rw [AV.scos_iff] at hs ⊢
    intro y hy
    simp only [mkT, List.mem_map, List.mem_range] at hy
    obtain ⟨d, hd, rfl⟩ := hy
    refine (hle d hd).2 nB ws (hs _ ?_)
    simp only [mkT, List.mem_map, List.mem_range]
    exact ⟨d, hd, rfl⟩
end
def lookI (d : Option Nat) : List (Option Nat × Hint × HT) → Option (Hint × HT)
  | [] => none
  | (i, x) :: r => if i = d then some x else lookI d r
def resS (P : Program) (s : SS) : ResultVar → Option AV
  | .tmp t => some (s.get t)
  | .cell t T => match s.get t with
    | .ptr i off => evLoad P ⟨[], s.B, s.V⟩ T (.ptr i off)
    | _ => none
def resSs (P : Program) (s : SS) : List ResultVar → Option (List AV)
  | [] => some []
  | r :: rs => match resS P s r, resSs P s rs with
    | some x, some xs => some (x :: xs)
    | _, _ => none
def tupOf : List AV → AV
  | [x] => x
  | ys => .tup ys
def inlO (x : Option Ou) (k : List CV → Option Ou) : Option Ou := match x with
  | some (.ret vs) => k vs
  | _ => none
theorem inlO_some {x : Option Ou} {k : List CV → Option Ou} {r : Ou} (h : inlO x k = some r) : ∃ vs, x = some (.ret vs) ∧ k vs = some r := by
  unfold inlO at h
  split at h
  · exact ⟨_, rfl, h⟩
  · cases h
def inRt (P : Program) (h : Hint) (ks : List Nat) (s : SS) (d : Option Nat) (rs : List ResultVar) (s' : SS) : Option Ou :=
  match resSs P s' rs with
  | some ys => (extH h ((s.kept ks).put d (tupOf ys) s'.B s'.V)).map .ret
  | none => none
abbrev EV := (SS → Option Ou) → Code → HT → Lk → SS → (SS → Option Ou) → Option Ou
def lkCall (h : Hint) (lk : Lk) (s : SS) : Lk := ⟨[], (lkIn h lk s).b, (lkIn h lk s).v, (List.range s.V.length).filter fun i => !h.vxu.contains i⟩
def insR (k : Nat) (et : TypeId) (by_ : Nat) : List CV → Bool
  | [.row k' [], .fn T [], .fn b []] => k' == k && (T == et && b == by_)
  | _ => false
def insO (P : Program) (sg : FuncId → Option Sig) (M : Den) (lk : Lk) (s : SS) (f : FuncId) (xs : List AV) (ty : TypeId) (K : Nat → Vec → Option Ou) : Option Ou := match sg f, tiOf P ty with
  | none, some ⟨_, _, .slc et k by_⟩ => match xs with
    | [.own i u, .cv (.val (.int .i64 n)), .cv (.row k' [x])] => match s.V[i]? with
      | some v => if (v.sl && (v.ver == u && (v.k == k && (v.T == et && (k' == k && (x.length == k && !lk.v.contains i)))))) = true then
          callO (M f []) fun out => chk (insR k et by_ out) (chk (decide (0 ≤ n) && (decide (n ≤ v.es.length) && fitA v.es.length 1 by_)) (K i ⟨v.live, v.T, v.k, v.ver + 1, v.es.take n.toNat ++ x :: v.es.drop n.toNat⟩))
        else none
      | none => none
    | _ => none
  | _, _ => none
noncomputable def evInl (P : Program) (sg : FuncId → Option Sig) (M : Den) (ev : EV) (il : List (Option Nat × Hint × HT)) : IN := fun lk s o next =>
  match lookI o.dst il with
  | none => none
  | some (_, .rt as) => some (match o.guard, actsS as lk s with
    | none, some s1 => evO P sg M lk false 0 s1 o fun x B V => next (s1.put o.dst x B V)
    | _, _ => none)
  | some (_, .ins) => some (match o.guard, o.op with
    | none, .call { callee := .value (.func f), args, .. } => insO P sg M lk s f (args.toList.map s.ev) o.type fun i v => next (s.put o.dst (.own i v.ver) s.B (s.V.set i v))
    | _, _ => none)
  | some (h, ht) => some (
    match o.op with
    | .call { callee := .value x, args, argTypes } =>
      match calleeOf (s.ev x) with
      | some (f, caps) =>
        match P.funcs[f]? with
        | some fn => match fn.body with
          | some c =>
            if (entB P f && (hintOk h lk s && (dstOk (lkIn h lk s) o.dst && decide ((args.toList.map s.ev ++ caps).length ≤ fn.ntmps)))) = true then
              inlO (ev (inRt P h (h.keep ++ lk.t) s o.dst fn.results.toList) c ht (lkCall h lk s) ⟨fn.ntmps, numb 0 (args.toList.map s.ev ++ caps), s.B, s.V⟩ (inRt P h (h.keep ++ lk.t) s o.dst fn.results.toList)) fun vs => next (tmpl h lk s vs)
            else none
          | none => none
        | none => none
      | none => none
    | _ => none)
end Go.Sx
namespace Go.Sx
open Go Go.RowKit
structure FE where
  n : Nat
  rs : List ResultVar
  ht : HT
  g : Sig
section
variable (P : Program) (sg : FuncId → Option Sig) (M : Den)
def Sc.lvs : List Sc → List Lf
  | [] => []
  | .one l :: cs => l :: Sc.lvs cs
  | .agg ls :: cs => ls ++ Sc.lvs cs
def nrmL : List Lf → List CV → List CV
  | .row k :: ls, .val (.slice none 0 0) :: cs => .row k [] :: nrmL ls cs
  | _ :: ls, c :: cs => c :: nrmL ls cs
  | _, cs => cs
def rtF (rs : List ResultVar) (gr : List Sc) (s : SS) : Option Ou :=
  match resSs P s rs with
  | some xs => match lndAs s.B s.V gr xs with
    | some (l, _) => some (.ret (nrmL (Sc.lvs gr) l))
    | none => none
  | none => none
def retO : Option Ou → Option (List CV)
  | some (.ret l) => some l
  | _ => none
noncomputable def inN : Nat → List (Option Nat × Hint × HT) → IN
  | 0 => fun _ => noIn
  | k + 1 => evInl P sg M fun rt c ht lk s K => evC P sg M (inN k) rt c ht lk [] s K
end
section
variable {P : Program} {sg : FuncId → Option Sig} {M : Den}
theorem nrmL_av : ∀ (ls : List Lf) (cs : List CV) (k : Nat) (l : Lf), ls[k]? = some l → l.av ((nrmL ls cs).getD k dC) = l.av (cs.getD k dC)
  | [], cs, k, l, h => by simp at h
  | a :: ls, [], k, l, h => by cases a <;> simp [nrmL]
  | a :: ls, c :: cs, 0, l, h => by
    simp only [List.getElem?_cons_zero, Option.some.injEq] at h
    subst h
    unfold nrmL
    split
    · rename_i h1 h2
      cases h1; cases h2
      simp [Lf.av, cR]
    · rename_i h1 h2
      cases h1; cases h2
      rfl
    · rename_i h0 h1
      exact (h1 _ _ _ _ rfl rfl).elim
  | a :: ls, c :: cs, k + 1, l, h => by
    simp only [List.getElem?_cons_succ] at h
    have ih := nrmL_av ls cs k l h
    unfold nrmL
    split
    · rename_i h1 h2
      cases h1; cases h2
      simpa using ih
    · rename_i h1 h2
      cases h1; cases h2
      simpa using ih
    · rename_i h0 h1
      exact (h1 _ _ _ _ rfl rfl).elim
theorem nrmL_avs {ls : List Lf} {cs : List CV} : ∀ (sub : List Lf) (o : Nat), (∀ i l, sub[i]? = some l → ls[o + i]? = some l) → avs sub (nrmL ls cs) o = avs sub cs o
  | [], o, _ => rfl
  | l :: sub, o, h => by
    simp only [avs]
    rw [nrmL_av ls cs o l (by simpa using h 0 l rfl), nrmL_avs sub (o + 1) fun i x hx => by rw [show o + 1 + i = o + (i + 1) by omega]; exact h (i + 1) x (by simpa using hx)]
theorem nrmL_scs {ls : List Lf} {cs : List CV} : ∀ (gs : List Sc) (o : Nat), (∀ i l, (Sc.lvs gs)[i]? = some l → ls[o + i]? = some l) → Sc.avs gs (nrmL ls cs) o = Sc.avs gs cs o
  | [], o, _ => rfl
  | .one l :: gs, o, h => by
    simp only [Sc.avs, Sc.av, Sc.n]
    rw [nrmL_av ls cs o l (by simpa using h 0 l rfl), nrmL_scs gs (o + 1) fun i x hx => by rw [show o + 1 + i = o + (i + 1) by omega]; exact h (i + 1) x (by simpa [Sc.lvs] using hx)]
  | .agg sub :: gs, o, h => by
    simp only [Sc.avs, Sc.av, Sc.n]
    rw [nrmL_avs sub o fun i l hl => h i l (by simp only [Sc.lvs]; rw [List.getElem?_append_left (List.getElem?_eq_some_iff.1 hl).1]; exact hl),
      nrmL_scs gs (o + sub.length) fun i x hx => by
        rw [show o + sub.length + i = o + (sub.length + i) by omega]
        exact h _ x (by simp only [Sc.lvs]; rw [List.getElem?_append_right (by omega), Nat.add_sub_cancel_left]; exact hx)]
theorem nrmL_res (gs : List Sc) (cs : List CV) : Sc.res gs (nrmL (Sc.lvs gs) cs) = Sc.res gs cs := by
  have key := nrmL_scs (ls := Sc.lvs gs) (cs := cs) gs 0 fun i l h => by rw [Nat.zero_add]; exact h
  unfold Sc.res
  split
  · simp only [Sc.avs, List.cons.injEq, and_true] at key
    exact key
  · rw [key]
theorem CallP.res {f : FuncId} {args : List AV} {B : List Box} {V : List Vec} {K K' : AV → List Box → List Vec → Prop} (h : CallP P f args B V K) (hk : ∀ r B V, K r B V → ∃ r', LeS r r' ∧ K' r' B V) : CallP P f args B V K' :=
  fun F n h1 h2 n0 w0 e w vs h3 h4 h5 => CallsIn.mono (h F n h1 h2 n0 w0 e w vs h3 h4 h5) fun en w' ⟨e', B', V', r, v, a1, a2, a3, a4, a5, a6⟩ => by
    obtain ⟨r', q1, q2⟩ := hk _ _ _ a2
    exact ⟨e', B', V', r', v, a1, q2, a3, a4, q1.1 _ _ _ _ a5, q1.2 _ _ a6⟩
theorem resS_spec {m : Emb} {s : SS} {st : St} (hE : Em m s st) {r : ResultVar} {x : AV} (h : resS P s r = some x) : resOne P st r = some (x.cz m) := by
  unfold resS at h
  split at h
  · cases h
    simp only [resOne, hE.get]
  · rename_i t T
    split at h
    · rename_i i off hx
      have hs : sLoad P s.B s.V T (.ptr i off) (fun _ => some (.ret [])) = some (.ret []) := by
        unfold sLoad
        cases hti : tiOf P T with
        | none => simp [evLoad, hti] at h
        | some ti => simp only [h]
      have hin := hE.inn t
      rw [hx] at hin
      unfold evLoad at h
      simp only [resOne, hE.get, hx, AV.cz]
      cases hti : tiOf P T with
      | none => simp [hti] at h
      | some ti =>
        simp only [hti] at h
        split at h
        · rename_i b hb
          obtain ⟨hb1, hb2⟩ := hE.m.b i b hb
          split at h
          · rename_i hl
            simp only [evLoad, hti, hb1, Box.cz, hl, if_true, AV.czs_eq, List.length_map]
            split at h
            · rename_i hagg
              split at h
              · rename_i hsz
                injection h with h; subst h
                rw [if_pos hagg, if_pos hsz]
                simp [AV.cz, AV.czs_eq, List.map_take, List.map_drop]
              · cases h
            · rename_i hagg
              rw [if_neg hagg]
              simp [h]
          · cases h
        · cases h
    · cases h
theorem resSs_spec {m : Emb} {s : SS} {st : St} (hE : Em m s st) : ∀ {rs : List ResultVar} {xs : List AV}, resSs P s rs = some xs → resAll P st rs = some (AV.czs m xs)
  | [], xs, h => by simp only [resSs, Option.some.injEq] at h; subst h; simp [resAll, AV.czs]
  | r :: rs, xs, h => by
    simp only [resSs] at h
    split at h
    · rename_i x xs' h1 h2
      cases h
      simp only [resAll, resS_spec hE h1, resSs_spec hE h2, AV.czs]
    · cases h
theorem numb_map (f : AV → AV) : ∀ (xs : List AV) (k : Nat), (numb k xs).map (fun p => (p.1, f p.2)) = numb k (xs.map f)
  | [], k => by simp [numb]
  | x :: xs, k => by simp [numb, numb_map f xs (k + 1)]
theorem numb_inn {nb nv : Nat} : ∀ (xs : List AV) (k : Nat), AV.inns nb nv xs = true → ∀ p ∈ numb k xs, AV.inn nb nv p.2 = true
  | [], k, _, p, h => by simp [numb] at h
  | x :: xs, k, hx, p, h => by
    simp only [AV.inns, Bool.and_eq_true] at hx
    simp only [numb, List.mem_cons] at h
    rcases h with rfl | h
    · exact hx.1
    · exact numb_inn xs (k + 1) hx.2 p h
theorem rtF_ret {rs : List ResultVar} {gr : List Sc} (s : SS) (o : Ou) (h : rtF P rs gr s = some o) : ∃ l, o = .ret l := by
  unfold rtF at h
  split at h
  · split at h
    · cases h; exact ⟨_, rfl⟩
    · cases h
  · cases h
theorem tupOf_le {B : List Box} {V : List Vec} : ∀ {ys : List AV} {cs : List Sc} {out : List CV}, AV.les (AV.lends B V ys) (Sc.avs cs out 0) → AV.le (AV.lend B V (tupOf ys)) (Sc.res cs out)
  | [], cs, out, h => by
    simp only [AV.lends] at h
    cases cs with
    | nil => simp only [tupOf, Sc.res, Sc.avs, AV.lend, AV.lends]; exact AV.le_refl _
    | cons c cs => simp only [Sc.avs] at h; cases h
  | [y], cs, out, h => by
    simp only [AV.lends] at h
    cases cs with
    | nil => simp only [Sc.avs] at h; cases h
    | cons c cs =>
      cases cs with
      | nil =>
        simp only [Sc.avs] at h
        cases h with
        | cons h1 _ => exact h1
      | cons d cs =>
        simp only [Sc.avs] at h
        cases h with
        | cons _ h2 => cases h2
  | y :: z :: ys, cs, out, h => by
    cases cs with
    | nil => simp only [Sc.avs, AV.lends] at h; cases h
    | cons c cs =>
      cases cs with
      | nil =>
        simp only [Sc.avs, AV.lends] at h
        cases h with
        | cons _ h2 => cases h2
      | cons d cs =>
        simp only [tupOf, Sc.res, AV.lend]
        intro e w ks v hv
        simp only [AV.holds] at hv ⊢
        obtain ⟨vs', h1, h2⟩ := hv
        exact ⟨vs', h1, h.all h2⟩
theorem resOf_tup {st : St} {rs : List ResultVar} {xs : List AV} (h : resAll P st rs = some xs) : resOf P st rs = some (tupOf xs) := by
  unfold resOf
  rw [h]
  cases xs with
  | nil => rfl
  | cons x xs => cases xs <;> rfl
theorem resS_inn {m : Emb} {s : SS} {st : St} (hE : Em m s st) {r : ResultVar} {x : AV} (h : resS P s r = some x) : AV.inn s.B.length s.V.length x = true := by
  unfold resS at h
  split at h
  · cases h; exact hE.inn _
  · split at h
    · rename_i t T _ i off hx
      unfold evLoad at h
      cases hti : tiOf P T with
      | none => simp [hti] at h
      | some ti =>
        simp only [hti] at h
        split at h
        · rename_i b hb
          obtain ⟨_, hb2⟩ := hE.m.b i b hb
          rw [AV.inns_eq, List.all_eq_true] at hb2
          split at h
          · split at h
            · split at h
              · injection h with h; subst h
                simp only [AV.inn, AV.inns_eq, List.all_eq_true]
                intro y hy
                exact hb2 y (List.mem_of_mem_drop (List.mem_of_mem_take hy))
              · cases h
            · exact hb2 x (List.mem_of_getElem? h)
          · cases h
        · cases h
    · cases h
theorem resSs_inn {m : Emb} {s : SS} {st : St} (hE : Em m s st) : ∀ {rs : List ResultVar} {xs : List AV}, resSs P s rs = some xs → AV.inns s.B.length s.V.length xs = true
  | [], xs, h => by simp only [resSs, Option.some.injEq] at h; subst h; rfl
  | r :: rs, xs, h => by
    simp only [resSs] at h
    split at h
    · rename_i x xs' h1 h2
      cases h
      simp only [AV.inns, resS_inn hE h1, resSs_inn hE h2, Bool.and_self]
    · cases h
theorem tupOf_cz (m : Emb) (ys : List AV) : (tupOf ys).cz m = tupOf (AV.czs m ys) := by
  cases ys with
  | nil => simp [tupOf, AV.cz, AV.czs]
  | cons y ys => cases ys <;> simp [tupOf, AV.cz, AV.czs]
theorem tupOf_inn {nb nv : Nat} {ys : List AV} (h : AV.inns nb nv ys = true) : AV.inn nb nv (tupOf ys) = true := by
  cases ys with
  | nil => rfl
  | cons y ys =>
    cases ys with
    | nil => simpa [tupOf, AV.inns] using h
    | cons z ys => simpa [tupOf, AV.inn] using h
theorem calleeOf_cz (m : Emb) {x : AV} {f : FuncId} {caps : List AV} (h : calleeOf x = some (f, caps)) : calleeOf (x.cz m) = some (f, AV.czs m caps) := by
  unfold calleeOf at h
  split at h
  · rename_i g cs
    cases h
    have : AV.czs m (cs.map .cv) = cs.map .cv := by simp [AV.czs_eq, AV.cz]
    simp [AV.cz, calleeOf, this]
  · cases h; simp [AV.cz, calleeOf]
  · cases h
theorem insR_spec {k : Nat} {et : TypeId} {b : Nat} {out : List CV} (h : insR k et b out = true) : out = [.row k [], .fn et [], .fn b []] := by
  unfold insR at h
  split at h
  · simp only [Bool.and_eq_true, beq_iff_eq] at h
    obtain ⟨rfl, rfl, rfl⟩ := h
    rfl
  · cases h
theorem insO_ok (hM : Fns P sg M) {F : Fence} {n : Nat} (hF : Free F) {lk : Lk} {m : Emb} {s : SS} {st : St} {ops : List Oper} {o : Oper} {rest : List Oper} {r : Ou} {Q : St → Prop} {next : SS → Option Ou} {f : FuncId} {args : Array Operand} {ts : Array TypeId} (hE : Em m s st) (hw : Wants ops o st true) (hd : dstOk lk o.dst = true)
    (hop : o.op = .call { callee := .value (.func f), args := args, argTypes := ts }) (h : (insO P sg M lk s f (args.toList.map s.ev) o.type fun i v => next (s.put o.dst (.own i v.ver) s.B (s.V.set i v))) = some r)
    (hk : ∀ m' s' st', next s' = some r → Em m' s' st' → Adv lk m s st m' s' st' → WOps F n P ops.toArray rest st' Q) : WOps F n P ops.toArray (o :: rest) st Q := by
  unfold insO at h
  split at h
  case h_2 => cases h
  rename_i et k by_ hsg _
  split at h
  case h_2 => cases h
  rename_i i u c k' x hxs
  split at h
  case h_2 => cases h
  rename_i v hv
  split at h
  case isFalse => cases h
  rename_i hc
  simp only [Bool.and_eq_true, beq_iff_eq, Bool.not_eq_true'] at hc
  obtain ⟨hsl, rfl, rfl, rfl, rfl, hxl, hlk⟩ := hc
  obtain ⟨out, h1, h2⟩ := callO_some h
  obtain ⟨h3, h4⟩ := chk_some h2
  obtain ⟨h5, h6⟩ := chk_some h4
  rw [insR_spec h3] at h1
  simp only [Bool.and_eq_true, decide_eq_true_eq] at h5
  obtain ⟨hen, hI⟩ := hM.ins f v.k v.T by_ hsg h1
  have hil := (List.getElem?_eq_some_iff.1 hv).1
  have hv1 := hE.m.v i v hv (Vec.sl_live hsl)
  have hargs : args.toList.map st.ev = [.own (m.fv i) ((v.cz m i).ver), .cv (.val (.int .i64 c)), .cv (.row v.k [x])] := by
    have := lends_cz_map hE args.toList
    rw [this, hxs]
    simp [AV.czs, AV.cz, Vec.cz]
  have hcall := hI st.B st.V (m.fv i) (v.cz m i) c x hv1 hsl rfl rfl h5.1 h5.2.1 h5.2.2 hxl
  refine WOps_go' hw (WOne_call hF hop (f := f) (caps := []) (by simp [St.ev, calleeOf]) (enters hen) ?_)
  rw [List.append_nil, hargs]
  refine CallP.mono hcall ?_
  rintro r' B' V' ⟨rfl, rfl, rfl⟩
  have hA : (AV.own i (v.ver + 1)).cz m = .own (m.fv i) ((v.cz m i).ver + 1) := by simp [AV.cz, Vec.cz, Nat.add_assoc]
  have hV : (⟨(v.cz m i).live, (v.cz m i).T, (v.cz m i).k, (v.cz m i).ver + 1, (v.cz m i).es.take c.toNat ++ x :: (v.cz m i).es.drop c.toNat⟩ : Vec) = (⟨v.live, v.T, v.k, v.ver + 1, v.es.take c.toNat ++ x :: v.es.drop c.toNat⟩ : Vec).cz m i := by simp [Vec.cz, Nat.add_assoc]
  rw [hV, ← hA]
  have hlk' : ¬ lk.v.contains i = true := by rw [hlk]; simp
  refine hk m _ _ h6 (hE.put (hE.m.setV hil) (Emb.Up.refl _) (fun _ _ => rfl) (Nat.le_refl _) (by simp) (by simpa [AV.inn] using hil) o.dst)
    (Adv.put hd (Stp.setV hE.m hil _) (Nat.le_refl _) (by simp) (fun _ _ _ => rfl) (setLk hlk') (fun _ _ => rfl))
def EvOK (P : Program) (ev : EV) : Prop :=
  ∀ (F : Fence) (n : Nat), Free F → ∀ (rt : SS → Option Ou), (∀ s o, rt s = some o → ∃ l, o = .ret l) → ∀ (c : Code) (ht : HT) (lk : Lk) (s : SS) (K : SS → Option Ou) (r : Ou) (m : Emb) (st : St) (Q : Exit → St → Prop),
    Em m s st → ev rt c ht lk s K = some r → (∀ m' s' st', K s' = some r → Em m' s' st' → Adv lk m s st m' s' st' → Q .normal st') → (∀ m' s' st', rt s' = some r → Em m' s' st' → Adv lk m s st m' s' st' → Q .ret st') → W F n P c st Q
theorem inRt_ret {h : Hint} {ks : List Nat} {s0 : SS} {d : Option Nat} {rs : List ResultVar} (s : SS) (o : Ou) (hh : inRt P h ks s0 d rs s = some o) : ∃ l, o = .ret l := by
  unfold inRt at hh
  split at hh
  · simp only [Option.map_eq_some_iff] at hh
    obtain ⟨l, _, rfl⟩ := hh
    exact ⟨l, rfl⟩
  · cases hh
theorem evInl_ok (hM : Fns P sg M) {F : Fence} {n : Nat} (hF : Free F) {ev : EV} (hev : EvOK P ev) (il : List (Option Nat × Hint × HT)) : InOK F n P (evInl P sg M ev il) := by
  intro lk m s st ops o rest r Q next hE hw hd hh hk
  unfold evInl at hh
  split at hh
  · cases hh
  · rename_i as hlook
    injection hh with hh
    split at hh
    · rename_i s1 hg hs1
      exact acts_WO hE hs1 fun m1 st1 hE1 ha1 => evO_plain hM hF hE1 (Wants.none hg) hd hh fun x B V m' B' V' hx he ha => hk _ _ _ hx he (ha1.trans ha)
    · cases hh
  · rename_i hlook
    injection hh with hh
    split at hh
    · rename_i f args ts hg hop
      exact insO_ok hM hF hE hw hd hop hh hk
    · cases hh
  rename_i h ht _ _ hlook
  injection hh with hh
  split at hh
  case h_2 => cases hh
  rename_i x args ats hop
  split at hh
  case h_2 => cases hh
  rename_i f caps hcal
  split at hh
  case h_2 => cases hh
  rename_i fn hfn
  split at hh
  case h_2 => cases hh
  rename_i c hbody
  split at hh
  case isFalse => cases hh
  rename_i hc
  simp only [Bool.and_eq_true, decide_eq_true_eq] at hc
  obtain ⟨hen, hok, hdk, hlen⟩ := hc
  obtain ⟨vs, h1, h2⟩ := inlO_some hh
  generalize hxs : args.toList.map s.ev ++ caps = xs at *
  have hargs : args.toList.map st.ev ++ AV.czs m caps = AV.czs m xs := by rw [← hxs, czs_app, ← lends_cz_map hE]
  refine WOps_go' hw (WOne_call hF hop (by rw [hE.ev]; exact calleeOf_cz m hcal) (enters hen) ?_)
  rw [hargs]
  refine CallP_body0 hfn hbody fun F' n' hF' => ?_
  have hlen' : (AV.czs m xs).length ≤ fn.ntmps := by rw [AV.czs_eq, List.length_map]; exact hlen
  rw [start_eq _ _ hlen']
  have hinx : AV.inns s.B.length s.V.length xs = true := by
    rw [AV.inns_eq, List.all_eq_true, ← hxs]
    intro y hy
    rcases List.mem_append.1 hy with hy | hy
    · obtain ⟨a, _, rfl⟩ := List.mem_map.1 hy
      exact hE.innEv a
    · have := hE.innEv x
      unfold calleeOf at hcal
      split at hcal
      · cases hcal
        obtain ⟨cc, _, rfl⟩ := List.mem_map.1 hy
        rfl
      · rename_i q; rw [q] at this; cases hcal
        simp only [AV.inn, AV.inns_eq, List.all_eq_true] at this
        exact this y hy
      · cases hcal
  have hE1 : Em m ⟨fn.ntmps, numb 0 xs, s.B, s.V⟩ ⟨mkT fn.ntmps (numb 0 (AV.czs m xs)), st.B, st.V⟩ := by
    refine ⟨?_, numb_inn _ _ hinx, hE.m⟩
    rw [numb_map, ← AV.czs_eq]
  obtain ⟨o1, o2, o3, o4, o5, o6, o7, o8, o9, o10⟩ := hintOk_spec hok
  have fin : ∀ (m' : Emb) (s' : SS) (st' : St), inRt P h (h.keep ++ lk.t) s o.dst fn.results.toList s' = some (.ret vs) → Em m' s' st' → Adv (lkCall h lk s) m ⟨fn.ntmps, numb 0 xs, s.B, s.V⟩ ⟨mkT fn.ntmps (numb 0 (AV.czs m xs)), st.B, st.V⟩ m' s' st' →
      ∃ r', resOf P st' fn.results.toList = some r' ∧ WOps F n P ops.toArray rest (st.put o.dst r' st'.B st'.V) Q := by
    intro m' s' st' g1 hE' ha
    unfold inRt at g1
    split at g1
    case h_2 => cases g1
    rename_i ys hys
    simp only [Option.map_eq_some_iff, Ou.ret.injEq, exists_eq_right] at g1
    refine ⟨_, resOf_tup (resSs_spec hE' hys), ?_⟩
    rw [← tupOf_cz]
    have hsl : ∀ d, d < s.n → LeS (Go.Sx.lk (s.t.map fun p => (p.1, p.2.cz m)) d) (Go.Sx.lk ((s.kept (h.keep ++ lk.t)).t.map fun p => (p.1, p.2.cz m')) d) := by
      intro d hdn
      rw [lk_map (AV.cz m) (by simp [AV.cz]), lk_map (AV.cz m') (by simp [AV.cz])]
      simp only [SS.kept]
      rw [lk_kept s.get]
      split
      · rename_i hm
        have hmem : d ∈ h.keep ++ lk.t := by simpa using hm
        have : (s.get d).cz m' = (s.get d).cz m := AV.cz_noV (nb := s.B.length) (nv := s.V.length) (fun j hj => ha.stp.up.b j (by rw [hE.m.bl]; exact hj)) (fun j hj => ha.stp.up.v j (by rw [hE.m.vl]; exact hj))
          (fun j hj hcj => ha.o j (by simp only [lkCall, List.mem_filter, List.mem_range, hcj]; exact ⟨hj, rfl⟩) hj) _ (hE.inn d) (o1 d hmem)
        rw [this]
        simp only [SS.get, hdn, if_true]
        exact LeS.refl _
      · simp only [AV.cz]; exact LeS.any _
    let s2 : SS := ⟨s.n, (s.kept (h.keep ++ lk.t)).t, s'.B, s'.V⟩
    let st2 : St := ⟨mkT s.n ((s.kept (h.keep ++ lk.t)).t.map fun p => (p.1, p.2.cz m')), st'.B, st'.V⟩
    have hE2 : Em m' s2 st2 := by
      refine ⟨rfl, fun p hp => ?_, hE'.m⟩
      simp only [s2, SS.kept, List.mem_map] at hp
      obtain ⟨d, _, rfl⟩ := hp
      exact AV.inn_mono ha.bl ha.vl _ (hE.inn d)
    have hE3 := hE2.put hE'.m (Emb.Up.refl _) (fun _ _ => rfl) (Nat.le_refl _) (Nat.le_refl _) (tupOf_inn (resSs_inn hE' hys)) o.dst
    have hwk : Wk (st.put o.dst ((tupOf ys).cz m') st'.B st'.V) (st2.put o.dst ((tupOf ys).cz m') st'.B st'.V) := by
      cases hdd : o.dst with
      | none =>
        simp only [St.put, st2, hE.t]
        exact Wk_slots hsl
      | some d =>
        simp only [St.put, st2, hE.t, mkT_set]
        refine Wk_slots fun k hk => ?_
        simp only [lk_cons]
        split
        · exact LeS.refl _
        · exact hsl k hk
    refine WOps_wk hwk ?_
    have ha3 : Adv (lkIn h lk s) m s st m' (s2.put o.dst (tupOf ys) s'.B s'.V) (st2.put o.dst ((tupOf ys).cz m') st'.B st'.V) := by
      refine ⟨ha.stp, rfl, ha.bl, ha.vl, fun d hd' => ?_, ha.b, ha.v, fun i hi hil => ha.o i ?_ hil⟩
      · rw [SS.put_get hdk d hd']
        exact SS.kept_get hd'
      · simp only [lkCall, List.mem_filter, List.mem_range, Bool.not_eq_true']
        exact ⟨hil, o10 i hi⟩
    obtain ⟨m1, st1, q1, q2, q3⟩ := tmpl_ok hE hE3 ha3 g1 hok
    exact WOps_wk q1 (hk m1 _ st1 h2 q2 (q3.sub hok))
  refine hev F' n' hF' _ (inRt_ret) c ht _ _ _ _ _ _ _ hE1 h1 (fun m' s' st' g1 g2 g3 => ⟨.inl rfl, fin m' s' st' g1 g2 g3⟩) (fun m' s' st' g1 g2 g3 => ⟨.inr rfl, fin m' s' st' g1 g2 g3⟩)
theorem inN_ok (hM : Fns P sg M) : ∀ (k : Nat) {F : Fence} {n : Nat}, Free F → ∀ il, InOK F n P (inN P sg M k il)
  | 0, F, n, hF, il => noIn_ok
  | k + 1, F, n, hF, il => by
    refine evInl_ok hM hF ?_ il
    intro F n hF rt hrt c ht lk s K r m st Q hE h hK hR
    exact evC_sound hM hF (inN_ok hM k hF) hrt c ht lk [] s K r m st Q hE h hK (fun id h vs m' s' st' h0 => by simp [lookH] at h0) hR
end
end Go.Sx
namespace Go.Sx
open Go Go.RowKit
structure ROw (w : World) (S : Nat → Prop) (w' : World) (S' : Nat → Prop) : Prop where
  sub : ∀ b, S b → S' b
  cell : ∀ b o x, S b → w.cell? ⟨b, o, none⟩ = some x → w'.cell? ⟨b, o, none⟩ = some x
mutual
theorem CV.holds.monoW {w w' : World} {S S' : Nat → Prop} (h : ROw w S w' S') : ∀ (c : CV) (v : Value), CV.holds w S c v → CV.holds w' S' c v
  | .val _, _, hv => by simpa [CV.holds] using hv
  | .row k es, v, hv => by
    simp only [CV.holds] at hv ⊢
    obtain ⟨a, cap, h1, h2, h3, h4⟩ := hv
    refine ⟨a, cap, h1, h2, h3, ?_⟩
    rcases h4 with h4 | ⟨b, o, h4, h5, h6⟩
    · exact .inl h4
    · exact .inr ⟨b, o, h4, h.sub b h5, CV.rows.monoW h k es b o h5 h6⟩
  | .ref cs, v, hv => by
    simp only [CV.holds] at hv ⊢
    obtain ⟨b, o, h1, h2, h3⟩ := hv
    exact ⟨b, o, h1, h.sub b h2, CV.cells.monoW h cs b o h2 h3⟩
  | .fn f caps, v, hv => by
    simp only [CV.holds] at hv ⊢
    obtain ⟨vs, h1, h2⟩ := hv
    exact ⟨vs, h1, CV.vals.monoW h caps _ h2⟩
theorem CV.cells.monoW {w w' : World} {S S' : Nat → Prop} (h : ROw w S w' S') : ∀ (cs : List CV) (b o : Nat), S b → CV.cells w S cs b o → CV.cells w' S' cs b o
  | [], _, _, _, _ => by simp [CV.cells]
  | c :: cs, b, o, hb, hv => by
    simp only [CV.cells] at hv ⊢
    obtain ⟨⟨x, h1, h2⟩, h3⟩ := hv
    exact ⟨⟨x, h.cell b o x hb h1, CV.holds.monoW h c x h2⟩, CV.cells.monoW h cs b (o + 1) hb h3⟩
theorem CV.rows.monoW {w w' : World} {S S' : Nat → Prop} (h : ROw w S w' S') (k : Nat) : ∀ (es : List (List CV)) (b o : Nat), S b → CV.rows w S k es b o → CV.rows w' S' k es b o
  | [], _, _, _, _ => by simp [CV.rows]
  | e :: es, b, o, hb, hv => by
    simp only [CV.rows] at hv ⊢
    obtain ⟨h1, h2, h3⟩ := hv
    exact ⟨h1, CV.cells.monoW h e b o hb h2, CV.rows.monoW h k es b (o + k) hb h3⟩
theorem CV.vals.monoW {w w' : World} {S S' : Nat → Prop} (h : ROw w S w' S') : ∀ (cs : List CV) (vs : List Value), CV.vals w S cs vs → CV.vals w' S' cs vs
  | [], [], _ => by simp [CV.vals]
  | c :: cs, v :: vs, hv => by
    simp only [CV.vals] at hv ⊢
    exact ⟨CV.holds.monoW h c v hv.1, CV.vals.monoW h cs vs hv.2⟩
  | [], _ :: _, hv => by simp [CV.vals] at hv
  | _ :: _, [], hv => by simp [CV.vals] at hv
end
def Env.withS (e : Env) (S' : Nat → Prop) : Env := { e with S := S' }
@[simp] theorem Env.withS_ρ (e : Env) (S' : Nat → Prop) : (e.withS S').ρ = e.ρ := rfl
@[simp] theorem Env.withS_hdr (e : Env) (S' : Nat → Prop) : (e.withS S').hdr = e.hdr := rfl
@[simp] theorem Env.withS_S (e : Env) (S' : Nat → Prop) : (e.withS S').S = S' := rfl
@[simp] theorem Env.withS_base (e : Env) (S' : Nat → Prop) : (e.withS S').base = e.base := rfl
mutual
theorem AV.holds.monoW {e : Env} {w w' : World} {S' : Nat → Prop} {ks : List Nat} (h : ROw w e.S w' S') : ∀ (x : AV) (v : Value), AV.holds e w ks x v → AV.holds (e.withS S') w' ks x v
  | .any, _, hv => by simp [AV.holds]
  | .cv c, v, hv => by simp only [AV.holds] at hv ⊢; exact CV.holds.monoW h c v hv
  | .ptr i off, v, hv => by simpa only [AV.holds, Env.withS_ρ, Env.withS_hdr] using hv
  | .own i u, v, hv => by simpa only [AV.holds, Env.withS_ρ, Env.withS_hdr] using hv
  | .opt i u el o, v, hv => by simpa only [AV.holds, Env.withS_ρ, Env.withS_hdr] using hv
  | .agg cs, v, hv => by
    simp only [AV.holds] at hv ⊢
    obtain ⟨vs, h1, h2⟩ := hv
    exact ⟨vs, h1, AV.all.monoW h cs _ h2⟩
  | .tup cs, v, hv => by
    simp only [AV.holds] at hv ⊢
    obtain ⟨vs, h1, h2⟩ := hv
    exact ⟨vs, h1, AV.all.monoW h cs _ h2⟩
  | .fn f cs, v, hv => by
    simp only [AV.holds] at hv ⊢
    obtain ⟨vs, h1, h2⟩ := hv
    exact ⟨vs, h1, AV.all.monoW h cs _ h2⟩
  | .gd L x, v, hv => by
    simp only [AV.holds] at hv ⊢
    exact ⟨fun hb => AV.holds.monoW h x v (hv.1 hb), hv.2⟩
theorem AV.all.monoW {e : Env} {w w' : World} {S' : Nat → Prop} {ks : List Nat} (h : ROw w e.S w' S') : ∀ (xs : List AV) (vs : List Value), AV.all e w ks xs vs → AV.all (e.withS S') w' ks xs vs
  | [], [], _ => by simp [AV.all]
  | x :: xs, v :: vs, hv => by
    simp only [AV.all] at hv ⊢
    exact ⟨AV.holds.monoW h x v hv.1, AV.all.monoW h xs vs hv.2⟩
  | [], _ :: _, hv => by simp [AV.all] at hv
  | _ :: _, [], hv => by simp [AV.all] at hv
end
theorem OwnsS.isCells {w : World} {n0 : Nat} {T : TypeId} {k : Nat} {v : Value} {n : Nat} {xs : List Value} (h : OwnsS w n0 T k v n xs) {g : Nat} (hg : oblk v = some g) : ∃ o, w.heap[g]? = some o ∧ o.isCells = true := by
  rcases h with ⟨a, rfl, _⟩ | ⟨⟨_, h1⟩, g', h3, h4⟩
  · cases a <;> simp [oblk] at hg
  · rw [hg] at h3; cases h3
    rcases h1 with ⟨rfl, _⟩ | ⟨g2, cap, cur, a1, a2, a3, a4⟩
    · simp [oblk] at hg
    · rw [a1] at h4
      simp only [Value.ownBlock, Option.some.injEq] at h4
      subst h4
      exact ⟨_, a3, rfl⟩
def noMap (V : List Vec) : Prop := ∀ (i : Nat) (x : Vec), V[i]? = some x → x.live = true → x.T < mapTag
theorem Rel.turn {n0 : Nat} {w0 : World} {e : Env} {st : St} {a a' : Act} {w w' : World} {row : Option Nat} {S' : Nat → Prop} (h : Rel n0 w0 e st a w) (hg : w.grownBy w' row) (hr : ∀ r, row = some r → n0 ≤ r ∧ ∃ o : Obj, w.heap[r]? = some o ∧ o.isCells = false)
    (hsub : ∀ b, e.S b → S' b) (hnew : ∀ b, S' b → e.S b ∨ (b < w.heap.size ∧ ∃ o : Obj, w.heap[b]? = some o ∧ o.isCells = false)) (ha : a'.tmps = a.tmps)
    (hnm : ∀ (i : Nat) (x : Vec), st.V[i]? = some x → x.live = true → x.T < mapTag ∨ ∀ g, oblk (e.hdr i x.ver) = some g → row ≠ some g ∧ (S' g → e.S g)) : Rel n0 w0 (e.withS S') st a' w' := by
  have hm := h.mem
  have same : ∀ (b : Nat) (o : Obj), w.heap[b]? = some o → o.isCells = true → w'.heap[b]? = some o := by
    intro b o hb hc
    refine (hg.block b (Array.getElem?_eq_some_iff.1 hb).1 fun he => ?_).trans hb
    obtain ⟨_, o', h1, h2⟩ := hr b he.symm
    rw [hb] at h1; cases h1; rw [hc] at h2; cases h2
  have hro : ROw w e.S w' S' := by
    refine ⟨hsub, fun b o x _ hc => ?_⟩
    unfold World.cell? at hc
    cases hb : w.heap[b]? with
    | none => simp [hb] at hc
    | some ob =>
      have hcell : ob.isCells = true := by cases ob <;> simp_all [Obj.isCells]
      have := same b ob hb hcell
      unfold World.cell?
      simp only [hb] at hc
      simp only [this]
      exact hc
  have nS : ∀ (b : Nat) (o : Obj), w.heap[b]? = some o → o.isCells = true → ¬ e.S b → ¬ S' b := by
    intro b o hb hc hn hs
    rcases hnew b hs with h' | ⟨_, o', h1, h2⟩
    · exact hn h'
    · rw [hb] at h1; cases h1; rw [hc] at h2; cases h2
  have hcap : ∀ b, w.heap[b]? = none → w.heap.size ≤ b := fun b hb => by simpa using hb
  refine ⟨?_, h.sc, ?_⟩
  · rw [ha]; exact AV.all.monoW hro _ _ h.tm
  · refine ⟨fun i b hi hl => ?_, hm.boxsc, fun i b hi hl => ?_, hm.boxinj, fun i x hi hl => ?_, fun i x g hi hl hgx => ?_, hm.vecbox, hm.vecinj, fun b hb => ?_, ?_, ?_, hm.bl⟩
    · obtain ⟨vs, h1, h2⟩ := hm.box i b hi hl
      exact ⟨vs, same _ _ h1 rfl, AV.all.monoW hro _ _ h2⟩
    · obtain ⟨vs, h1, _⟩ := hm.box i b hi hl
      obtain ⟨h2, h3⟩ := hm.boxlo i b hi hl
      exact ⟨h2, nS _ _ h1 rfl h3⟩
    · obtain ⟨xs, h1, h2, h3⟩ := hm.vec i x hi hl
      refine ⟨xs, h1.keep fun g hgx => ?_, CV.vals.monoW hro _ _ h2, h3⟩
      show w'.heap[g]? = w.heap[g]?
      rcases hnm i x hi hl with hT | hT
      · obtain ⟨o, q1, q2⟩ := (h1.s hT).isCells hgx
        rw [same g o q1 q2, q1]
      · exact hg.block g (h1.lt g hgx).2 fun he => (hT g hgx).1 he.symm
    · obtain ⟨xs, h1, h2, h3⟩ := hm.vec i x hi hl
      rcases hnm i x hi hl with hT | hT
      · obtain ⟨o, q1, q2⟩ := (h1.s hT).isCells hgx
        exact nS _ _ q1 q2 (hm.vecS i x g hi hl hgx)
      · exact fun hs => hm.vecS i x g hi hl hgx ((hT g hgx).2 hs)
    · rcases hnew b hb with h' | ⟨h1, _⟩
      · exact Nat.lt_of_lt_of_le (hm.ro b h') hg.size
      · exact Nat.lt_of_lt_of_le h1 hg.size
    · exact hm.below.grown hg hm.base fun k hk => (hr k hk).1
    · exact Nat.le_trans hm.base hg.size
theorem Rel.act {n0 : Nat} {w0 : World} {e : Env} {st : St} {a a' : Act} {w : World} (h : Rel n0 w0 e st a w) (ha : a'.tmps = a.tmps) : Rel n0 w0 e st a' w := ⟨by rw [ha]; exact h.tm, h.sc, h.mem⟩
theorem Ext.turn {e : Env} {w : World} {nB : Nat} {vs ks : List Nat} {e' : Env} {w' : World} {nB' : Nat} {vs' ks' : List Nat} {w'' : World} {row : Option Nat} {S' : Nat → Prop} (h : Ext e w nB vs ks e' w' nB' vs' ks') (hg : w'.grownBy w'' row) (hr : ∀ r, row = some r → ¬ e.S r) (hlt : ∀ b, e.S b → b < w'.heap.size)
    (hsub : ∀ b, e.S b → S' b) (hnew : ∀ b, S' b → e'.S b ∨ e.base ≤ b) : Ext e w nB vs ks (e'.withS S') w'' nB' vs' ks' :=
  ⟨⟨hsub, fun b hb => (hg.block b (hlt b hb) fun he => hr b he.symm hb).trans (h.ro.same b hb)⟩, h.ρ, h.hdr, h.nB, h.nV, h.verle, h.kseq, Nat.le_trans h.sz hg.size,
   fun b hb => (hnew b hb).elim (fun h' => h.snew b h') .inr, h.be⟩
def dmV (V : List Vec) : List Vec := V.map fun v => ⟨v.live && decide (v.T < mapTag), v.T, v.k, v.ver, v.es⟩
def dmS (st : St) : St := ⟨st.t, st.B, dmV st.V⟩
theorem dmV_vers (V : List Vec) : vers (dmV V) = vers V := by simp [dmV, vers, Function.comp]
theorem dmV_kss (V : List Vec) : kss (dmV V) = kss V := by simp [dmV, kss, Function.comp]
theorem dmV_noMap (V : List Vec) : noMap (dmV V) := by
  intro i x hi hl
  simp only [dmV, List.getElem?_map, Option.map_eq_some_iff] at hi
  obtain ⟨v, _, rfl⟩ := hi
  simp only [Bool.and_eq_true, decide_eq_true_eq] at hl
  exact hl.2
theorem Rel.dm {n0 : Nat} {w0 : World} {e : Env} {st : St} {a : Act} {w : World} (h : Rel n0 w0 e st a w) : Rel n0 w0 e (dmS st) a w := by
  have hm := h.mem
  have hget : ∀ (i : Nat) (x : Vec), (dmV st.V)[i]? = some x → x.live = true → st.V[i]? = some x := by
    intro i x hi hl
    simp only [dmV, List.getElem?_map, Option.map_eq_some_iff] at hi
    obtain ⟨v, h1, rfl⟩ := hi
    simp only [Bool.and_eq_true, decide_eq_true_eq] at hl
    rw [h1]
    cases v
    simp_all
  refine ⟨?_, ?_, ?_⟩
  · show AV.all e w (kss (dmV st.V)) st.t _
    rw [dmV_kss]; exact h.tm
  · show AV.scos st.B.length (vers (dmV st.V)) st.t
    rw [dmV_vers]; exact h.sc
  · refine ⟨fun i b hi hl => ?_, fun i b hi => ?_, hm.boxlo, hm.boxinj, fun i x hi hl => hm.vec i x (hget i x hi hl) hl, fun i x g hi hl => hm.vecS i x g (hget i x hi hl) hl, fun i x j b g hi hl => hm.vecbox i x j b g (hget i x hi hl) hl, fun i x j y g hi hl hj hjl => hm.vecinj i x j y g (hget i x hi hl) hl (hget j y hj hjl) hjl, hm.ro, hm.below, hm.base, hm.bl⟩
    · show ∃ vs : Array Value, w.heap[e.ρ i]? = some (.cells vs b.T (0, 0)) ∧ AV.all e w (kss (dmV st.V)) b.cs vs.toList
      rw [dmV_kss]; exact hm.box i b hi hl
    · show AV.scos st.B.length (vers (dmV st.V)) b.cs
      rw [dmV_vers]; exact hm.boxsc i b hi
theorem ExtS.dm {e : Env} {st : St} {w : World} {e' : Env} {st' : St} {w' : World} (h : ExtS e st w e' st'.B st'.V w') : ExtS e st w e' (dmS st').B (dmS st').V w' := by
  show Ext e w _ _ _ e' w' st'.B.length (vers (dmV st'.V)) (kss (dmV st'.V))
  rw [dmV_vers, dmV_kss]; exact h
def markOf (D : Nat) : Deferred := { target := .collected D, args := #[] }
def Mk (m0 : Nat) (e : Env) (w : World) (ds : List Deferred) : Prop := ∃ Ds : List Nat, ds = Ds.map markOf ∧ Ds.Nodup ∧ ∀ D ∈ Ds, m0 ≤ D ∧ e.S D ∧ w.heap[D]? = some (.deferred (some []))
theorem Mk.mono {m0 : Nat} {e e' : Env} {w w' : World} {ds : List Deferred} (h : Mk m0 e w ds) (hx : RO w e.S w' e'.S) : Mk m0 e' w' ds := by
  obtain ⟨Ds, h1, h2, h3⟩ := h
  exact ⟨Ds, h1, h2, fun D hD => by obtain ⟨q1, q2, q3⟩ := h3 D hD; exact ⟨q1, hx.sub D q2, (hx.same D q2).trans q3⟩⟩
theorem wpIn_any {F : Fence} {n n' : Nat} {P : Program} {c : Code} {Q : Exit → Act → World → Prop} {a : Act} {w : World} (hF : F.depth = none) (h : c.wpIn F n' P Q a w) : c.wpIn F n P Q a w :=
  fun b k cs h1 h2 _ => h b k cs h1 h2 fun d hd => by rw [hF] at hd; cases hd
def W2 (F : Fence) (n : Nat) (P : Program) (c : Code) (st : St) (Q : Exit → St → Prop) : Prop :=
  ∀ n0 w0 m0 e a w (Qr : Exit → Act → World → Prop), Rel n0 w0 e st a w → Mk m0 e w a.defers → m0 ≤ w.heap.size →
    (∀ x e' st' a' w', Q x st' → Rel n0 w0 e' st' a' w' → Mk m0 e' w' a'.defers → ExtS e st w e' st'.B st'.V w' → Qr x a' w') → c.wpIn F n P Qr a w
section
variable {F : Fence} {n : Nat} {P : Program}
theorem W.w2 {c : Code} {st : St} {Q : Exit → St → Prop} (h : W F n P c st Q) : W2 F n P c st Q :=
  fun n0 w0 m0 e a w Qr hr hm hm0 hk => h n0 w0 e a w Qr hr fun x e' st' a' w' hq hrel hdf hx => hk x e' st' a' w' hq hrel (by rw [hdf]; exact hm.mono hx.ro) hx
theorem W2_seq {x y : Code} {st : St} {Q : Exit → St → Prop} (h : W2 F n P x st fun ex st' => match ex with | .normal => W2 F n P y st' Q | ex => Q ex st') : W2 F n P (.seq x y) st Q := by
  intro n0 w0 m0 e a w Qr hr hm hm0 hk
  refine wpIn_seq (h n0 w0 m0 e a w _ hr hm hm0 ?_)
  intro ex e' st' a' w' hq hrel hm' hx
  cases ex with
  | normal => exact hq n0 w0 m0 e' a' w' Qr hrel hm' (Nat.le_trans hm0 hx.sz) fun x e'' st'' a'' w'' hq' hrel' hm'' hx' => hk x e'' st'' a'' w'' hq' hrel' hm'' (hx.trans hx')
  | _ => exact hk _ e' st' a' w' hq hrel hm' hx
theorem W2_cond {c : Operand} {x y : Code} {st : St} {Q : Exit → St → Prop} {b : Bool} (hc : st.ev c = .cv (.val (.bool b))) (ht : b = true → W2 F n P x st Q) (hf : b = false → W2 F n P y st Q) : W2 F n P (.cond c x y) st Q := by
  intro n0 w0 m0 e a w Qr hr hm hm0 hk
  have h1 := (hr.ev c).1
  rw [hc] at h1
  simp only [AV.holds, CV.holds] at h1
  exact wpIn_cond_split h1.1 (fun hb => ht hb n0 w0 m0 e a w Qr hr hm hm0 hk) (fun hb => hf hb n0 w0 m0 e a w Qr hr hm hm0 hk)
theorem W2_block {id : Nat} {c : Code} {st : St} {Q : Exit → St → Prop} (h : W2 F n P c st fun ex st' => match ex with | .exit i => if i = id then Q .normal st' else Q (.exit i) st' | ex => Q ex st') : W2 F n P (.block id c) st Q := by
  intro n0 w0 m0 e a w Qr hr hm hm0 hk
  refine wpIn_block (h n0 w0 m0 e a w _ hr hm hm0 ?_)
  intro ex e' st' a' w' hq hrel hdf hx
  cases ex with
  | exit i =>
    simp only [Exit.inBlock]
    split
    · rename_i hi
      simp only [hi, if_true] at hq
      exact hk _ e' st' a' w' hq hrel hdf hx
    · rename_i hi
      simp only [hi, if_false] at hq
      exact hk _ e' st' a' w' hq hrel hdf hx
  | _ => exact hk _ e' st' a' w' hq hrel hdf hx
theorem W2_pre {c : Code} {st s1 : St} {Q : Exit → St → Prop} (hw : Wk st s1) (h : W2 F n P c s1 Q) : W2 F n P c st Q := by
  intro n0 w0 m0 e a w Qr hr hm hm0 hk
  have hww := hw.weak hr
  have hx : ExtS e st w e s1.B s1.V w := (Ext.refl e w st.B.length (vers st.V) (kss st.V)).weak hww (by rw [hw.Bl]; exact Nat.le_refl _) (by rw [hw.V]; simp)
  exact h n0 w0 m0 e a w Qr (hr.weak hww) hm hm0 fun ex e' st' a' w' hq hrel hdf hx' => hk ex e' st' a' w' hq hrel hdf (hx.trans hx')
theorem W2_dm {c : Code} {st : St} {Q : Exit → St → Prop} (h : W2 F n P c (dmS st) Q) : W2 F n P c st Q := by
  intro n0 w0 m0 e a w Qr hr hm hm0 hk
  exact h n0 w0 m0 e a w Qr hr.dm hm hm0 fun ex e' st' a' w' hq hrel hdf hx' => hk ex e' st' a' w' hq hrel hdf ((ExtS.dm (Ext.refl e w st.B.length (vers st.V) (kss st.V) : ExtS e st w e st.B st.V w)).trans hx')
end
end Go.Sx
namespace Go.Sx
open Go Go.RowKit
section
variable {F : Fence} {n : Nat} {P : Program}
theorem grownBy_put (W : World) (l : Nat) (o : Obj) : W.grownBy (W.putObj l o) (some l) := grownBy_putObj' W l o
theorem leaves_marks {fn : Func} {tmps : Array Value} {R : Ending → World → Prop} {m0 n0 : Nat} {w0 : World} {e0 e : Env} {st0 st : St} {a : Act} {wA : World} (hn0 : n0 ≤ m0) (hS : ∀ b, e0.S b → b < m0) :
    ∀ (Ds : List Nat) (w : World), Ds.Nodup → (∀ D ∈ Ds, m0 ≤ D ∧ e.S D ∧ w.heap[D]? = some (.deferred (some []))) → Rel n0 w0 e st a w → ExtS e0 st0 wA e st.B st.V w → m0 ≤ w.heap.size →
      (∀ w', Rel n0 w0 e st a w' → ExtS e0 st0 wA e st.B st.V w' → LeavesIn F n P fn tmps R [] .returning w') → LeavesInM F n P fn tmps R (Ds.map markOf) .returning w
  | [], w, _, _, hr, hx, _, hk => by simpa [LeavesInM] using hk w hr hx
  | D :: Ds, w, hnd, hD, hr, hx, hsz, hk => by
    obtain ⟨h1, hDS, h2⟩ := hD D (by simp)
    simp only [List.map_cons, LeavesInM]
    refine ⟨by simp, .inl ⟨D, _, rfl, run_takeDeferred h2, ?_⟩⟩
    have hg := grownBy_put w D (.deferred none)
    have hrow : ∀ r, (some D : Option Nat) = some r → n0 ≤ r ∧ ∃ o : Obj, w.heap[r]? = some o ∧ o.isCells = false := by
      intro r he; cases he; exact ⟨Nat.le_trans hn0 h1, _, h2, rfl⟩
    have hr' : Rel n0 w0 (e.withS e.S) st a (w.putObj D (.deferred none)) := hr.turn hg hrow (fun _ h => h) (fun _ h => .inl h) rfl (fun i x hi hl => .inr fun g hgx => ⟨fun he => by cases he; exact hr.mem.vecS i x D hi hl hgx hDS, fun h => h⟩)
    have hx' : Ext e0 wA st0.B.length (vers st0.V) (kss st0.V) (e.withS e.S) (w.putObj D (.deferred none)) st.B.length (vers st.V) (kss st.V) :=
      hx.turn hg (by intro r he hb; cases he; have := hS _ hb; omega) (fun b hb => by have := hS b hb; omega) (fun b hb => hx.ro.sub b hb) (fun b hb => .inl hb)
    rw [List.nodup_cons] at hnd
    refine leaves_marks hn0 hS Ds _ hnd.2 (fun D' hD' => ?_) hr' hx' (Nat.le_trans hsz hg.size) hk
    obtain ⟨q1, q0, q2⟩ := hD D' (by simp [hD'])
    refine ⟨q1, q0, ?_⟩
    have hne : D' ≠ D := by rintro rfl; exact hnd.1 hD'
    exact (World.putObj_heap_other hne).trans q2
theorem CallP_body2 {f : FuncId} {fn : Func} {c : Code} {args : List AV} {B : List Box} {V : List Vec} {K : AV → List Box → List Vec → Prop} (hf : P.funcs[f]? = some fn) (hb : fn.body = some c)
    (h : ∀ (F : Fence) (n : Nat), Free F → F.round = none → W2 F n P c ⟨args ++ List.replicate (fn.ntmps - args.length) .any, B, V⟩ fun ex st' => (ex = .normal ∨ ex = .ret) ∧ ∃ r, resOf P st' fn.results.toList = some r ∧ K r st'.B st'.V) :
    CallP P f args B V K := by
  intro F n hF hro n0 w0 e w vs hm hv hs
  refine callsIn_of_wp_marks hf hb (hF.fn f) ?_ hro
  have hrel : Rel n0 w0 e ⟨args ++ List.replicate (fn.ntmps - args.length) .any, B, V⟩ { tmps := vs ++ Array.replicate (fn.ntmps - vs.size) undef, defers := [] } w := by
    have hl : vs.size = args.length := by have := hv.length; simpa using this
    refine ⟨?_, ?_, hm⟩
    · simp only [Array.toList_append, Array.toList_replicate, hl]
      refine hv.append ?_
      generalize fn.ntmps - args.length = k
      induction k with
      | zero => simp [AV.all]
      | succ k ih => simpa [List.replicate_succ, AV.all, AV.holds] using ih
    · rw [AV.scos_iff] at hs ⊢
      intro y hy
      rcases List.mem_append.1 hy with hy | hy
      · exact hs y hy
      · obtain rfl := List.eq_of_mem_replicate hy
        simp [AV.sco]
  refine h F n hF hro n0 w0 w.heap.size e _ w _ hrel ⟨[], rfl, List.nodup_nil, by simp⟩ (Nat.le_refl _) ?_
  rintro ex e' st' a' w' ⟨hex, r, hr, hK⟩ hrel' ⟨Ds, hds, hnd, hD⟩ hx
  rcases hex with rfl | rfl
  all_goals
    show LeavesInM F n P fn a'.tmps _ a'.defers .returning w'
    rw [hds]
    refine leaves_marks (n0 := n0) (w0 := w0) (e0 := e) (e := e') (st0 := ⟨args ++ List.replicate (fn.ntmps - args.length) .any, B, V⟩) (st := st') (a := a') (wA := w) hm.base (fun b hb => hm.ro b hb) Ds w' hnd (fun D hd => hD D hd) hrel' hx hx.sz ?_
    intro w'' hr2 hx2
    obtain ⟨v, a1, a2, a3⟩ := resOf_sound (fn := fn) hr2 hr
    exact ⟨v, a1, e', st'.B, st'.V, r, v, rfl, hK, hr2.mem, hx2, a2, a3⟩
def IterP (P : Program) (f : FuncId) (caps : List CV) (xs : List Int) : Prop :=
  ∀ (F : Fence) (n : Nat) (S : Nat → Prop) (w : World) (lb : Array Value), Free F → F.round = none → 1 ≤ n → (∀ b, S b → b < w.heap.size) → CV.vals w S caps lb.toList →
    SeqStopsK F n P f lb (fun x : Int => #[Value.int .i64 x]) (fun A B => ∀ b, S b → B.heap[b]? = A.heap[b]?) (fun ys => ys = xs) (fun pre => pre <+: xs) xs.length w
def assignOf (p : Nat) : Code → Option (Option Nat)
  | .skip => some none
  | .region _ ops false => match ops.toList with
    | [o] => match o.op, o.guard, o.dst with
      | .assign (.tmp q), none, some d => if q = p then some (some d) else none
      | _, _, _ => none
    | _ => none
  | _ => none
def stIn (p : Nat) (dd : Option Nat) (x : Int) (st : St) : St := (st.put (some p) (.cv (.val (.int .i64 x))) st.B st.V).put dd (.cv (.val (.int .i64 x))) st.B st.V
def actIn (p : Nat) (dd : Option Nat) (x : Int) (a : Act) : Act := (Act.mk (a.tmps.setIfInBounds p (.int .i64 x)) []).put dd (.int .i64 x)
theorem assign_wp {p : Nat} {dd : Option Nat} {c : Code} (hF : Free F) (h : assignOf p c = some dd) (x : Int) (a : Act) (hp : p < a.tmps.size) (w : World) (K : Act → World → Prop) (hK : K (actIn p dd x a) w) :
    c.wpIn F n P (Exit.then K (fun _ _ _ => False)) { tmps := a.tmps.setIfInBounds p (.int .i64 x), defers := [] } w := by
  unfold assignOf at h
  split at h
  · cases h
    exact wpIn_skip hK
  · rename_i id ops
    split at h
    · rename_i o hops
      split at h
      · rename_i q d hop hg hd
        split at h
        · rename_i hq
          cases h
          subst hq
          refine wpIn_region_list ?_
          rw [hops]
          simp only [wpListIn, Region.wanted, hg, if_true]
          refine ⟨fun f _ => hF.fn f, ?_⟩
          rw [Oper.semAt_plain F _ _ (by intro c hc; rw [hc] at hop; cases hop)]
          have hx : ({ tmps := a.tmps.setIfInBounds q (.int .i64 x), defers := [] } : Act).eval (.tmp q) = .int .i64 x := by
            simp [Act.eval, hp]
          have : (execOp ({ tmps := a.tmps.setIfInBounds q (.int .i64 x), defers := [] } : Act).eval o).run P w = .ok (.value (.int .i64 x)) w := by
            simp [execOp, hop, hx]
          rw [this]
          have hgo : K (({ tmps := a.tmps.setIfInBounds q (.int .i64 x), defers := [] } : Act).put o.dst (.int .i64 x)) w := by rw [hd]; exact hK
          exact hgo
        · cases h
      · cases h
    · cases h
  · cases h
theorem Rel.more {n0 : Nat} {w0 : World} {e : Env} {st : St} {a : Act} {w : World} (h : Rel n0 w0 e st a w) {S' : Nat → Prop} (hsub : ∀ b, e.S b → S' b) (hnew : ∀ b, S' b → e.S b ∨ (b < w.heap.size ∧ ∃ o : Obj, w.heap[b]? = some o ∧ o.isCells = false)) {a' : Act} (ha : a'.tmps = a.tmps)
    (hnm : ∀ (i : Nat) (x : Vec), st.V[i]? = some x → x.live = true → x.T < mapTag ∨ ∀ g, oblk (e.hdr i x.ver) = some g → S' g → e.S g) :
    Rel n0 w0 (e.withS S') st a' w := h.turn (row := none) (World.grownBy.refl w none) (fun _ h => by cases h) hsub hnew ha fun i x hi hl => (hnm i x hi hl).imp id fun h g hg => ⟨by simp, h g hg⟩
theorem Ext.more {e : Env} {w : World} {nB : Nat} {vs ks : List Nat} {e' : Env} {w' : World} {nB' : Nat} {vs' ks' : List Nat} {S' : Nat → Prop} (h : Ext e w nB vs ks e' w' nB' vs' ks') (hsub : ∀ b, e.S b → S' b) (hnew : ∀ b, S' b → e'.S b ∨ e.base ≤ b) : Ext e w nB vs ks (e'.withS S') w' nB' vs' ks' :=
  ⟨⟨hsub, fun b hb => h.ro.same b hb⟩, h.ρ, h.hdr, h.nB, h.nV, h.verle, h.kseq, h.sz, fun b hb => (hnew b hb).elim (fun h' => h.snew b h') .inr, h.be⟩
theorem Rel.putV {n0 : Nat} {w0 : World} {e : Env} {st : St} {a : Act} {w : World} (h : Rel n0 w0 e st a w) (x : Int) (d : Option Nat) : Rel n0 w0 e (st.put d (.cv (.val (.int .i64 x))) st.B st.V) (a.put d (.int .i64 x)) w :=
  h.put h.mem (Ext.refl _ _ _ _ _) (by simp [AV.holds, CV.holds, Value.oneCell']) (by simp [AV.sco]) d
theorem W2_range (hF : Free F) (hro : F.round = none) {g : Operand} {ps : Array Tmp} {p : Nat} {dd : Option Nat} {assign body : Code} {st : St} {f : FuncId} {caps : List CV} {xs : List Int} (I : List Int → St → Prop) {Q : Exit → St → Prop}
    (hps : ps = #[p]) (hnm : ∀ pre st', I pre st' → noMap st'.V) (hp : p < st.t.length) (hg : st.ev g = .cv (.fn f caps)) (hen : entB P f = true) (hit : IterP P f caps xs) (has : assignOf p assign = some dd) (h0 : I [] st)
    (hbody : ∀ (F : Fence) (n : Nat), Free F → ∀ pre x st', I pre st' → W F n P body (stIn p dd x st') fun ex s2 => match ex with
      | .normal => ∃ s3, Wk ⟨st'.t, s2.B, s2.V⟩ s3 ∧ I (pre ++ [x]) (dmS s3)
      | .ret => pre ++ [x] <+: xs → Q .ret (dmS ⟨st'.t, s2.B, s2.V⟩)
      | _ => False)
    (hdone : ∀ st', I xs st' → Q .normal st') : W2 F n P (.rangeFunc g ps assign body) st Q := by
  intro n0 w0 m0 e a w Qr hr hm hm0 hk
  refine wpIn_any hF.depth (n' := n + 3) ?_
  have hgv := (hr.ev g).1
  rw [hg] at hgv
  simp only [AV.holds, CV.holds] at hgv
  obtain ⟨lb, hga, hlb⟩ := hgv
  have hpa : p < a.tmps.size := by have := hr.tm.length; simp at this; omega
  let IW : List Int → World → Prop := fun pre W => ∃ e' st', I pre st' ∧ Rel n0 w0 e' st' a W ∧ ExtS e st w e' st'.B st'.V W
  let IX : Code → List Int → World → Prop := fun c pre W => c = .ret ∧ ∃ e' st', noMap st'.V ∧ (pre <+: xs → Q .ret st') ∧ Rel n0 w0 e' st' a W ∧ ExtS e st w e' st'.B st'.V W
  have turn : ∀ {e' : Env} {st' : St} {W W' : World} {row : Option Nat}, noMap st'.V → Rel n0 w0 e' st' a W → ExtS e st w e' st'.B st'.V W → W.grownBy W' row → (∀ r, row = some r → w.heap.size ≤ r ∧ ∃ o : Obj, W.heap[r]? = some o ∧ o.isCells = false) →
      Rel n0 w0 (e'.withS e'.S) st' a W' ∧ ExtS e st w (e'.withS e'.S) st'.B st'.V W' := by
    intro e' st' W W' row hno h1 h2 hgr hrow
    refine ⟨h1.turn hgr (fun r hr' => ⟨Nat.le_trans hr.mem.base (hrow r hr').1, (hrow r hr').2⟩) (fun _ h => h) (fun _ h => .inl h) rfl (fun i x hi hl => .inl (hno i x hi hl)), h2.turn hgr (fun r hr' hb => ?_) (fun b hb => Nat.lt_of_lt_of_le (hr.mem.ro b hb) h2.sz) (fun b hb => h2.ro.sub b hb) (fun b hb => .inl hb)⟩
    have := hr.mem.ro r hb; have := (hrow r hr').1; omega
  refine wpIn_rangeFunc_ownG (F := F) (n := n + 3) hro (by omega) hga (hF.fn f) (enters hen) (w0 := w) (hit F (n + 2) e.S w lb hF hro (by omega) hr.mem.ro hlb)
    (fun h1 h2 b hb => (h2 b hb).trans (h1 b hb)) (fun W l o o' hl ho _ _ b hb => World.putObj_heap_other (by have := hr.mem.ro b hb; omega)) (Below.refl _ _) (fun _ => by simp [hps])
    IW IX ?_ ?_ ⟨e, st, h0, hr, Ext.refl _ _ _ _ _⟩ (fun x => actIn p dd x a) ?_ ?_ ?_ ?_
  · rintro pre W W' row ⟨e', st', h1, h2, h3⟩ hgr hrow
    obtain ⟨q1, q2⟩ := turn (hnm _ _ h1) h2 h3 hgr hrow
    exact ⟨_, st', h1, q1, q2⟩
  · rintro c pre W W' row ⟨hc, e', st', hno, h1, h2, h3⟩ hgr hrow
    obtain ⟨q1, q2⟩ := turn hno h2 h3 hgr hrow
    exact ⟨hc, _, st', hno, h1, q1, q2⟩
  · intro l x W K hK
    have := assign_wp (F := F.inRound l) (n := n + 3 - 1 - 1) (P := P) (hF.inRound l) has x a hpa W K hK
    simpa [hps] using this
  · rintro l pre x W ⟨e', st', h1, h2, h3⟩ hlen
    let S2 : Nat → Prop := fun b => e'.S b ∨ (w.heap.size ≤ b ∧ b < W.heap.size ∧ ∃ o : Obj, W.heap[b]? = some o ∧ o.isCells = false)
    have hS2 : ∀ b, S2 b → e'.S b ∨ (b < W.heap.size ∧ ∃ o : Obj, W.heap[b]? = some o ∧ o.isCells = false) := fun b hb => hb.imp id fun h => h.2
    have hbase : e'.base ≤ w.heap.size := Nat.le_trans h2.mem.bl hr.mem.base
    have hr1 : Rel n0 w0 e' (st'.put (some p) (.cv (.val (.int .i64 x))) st'.B st'.V) ⟨a.tmps.setIfInBounds p (.int .i64 x), []⟩ W := (h2.putV x (some p)).act rfl
    have hr2 : Rel n0 w0 e' (stIn p dd x st') (actIn p dd x a) W := hr1.putV x dd
    have hsB : (stIn p dd x st').B = st'.B := by unfold stIn; cases dd <;> rfl
    have hsV : (stIn p dd x st').V = st'.V := by unfold stIn; cases dd <;> rfl
    have hr3 : Rel n0 w0 (e'.withS S2) (stIn p dd x st') (actIn p dd x a) W := hr2.more (fun _ h => .inl h) hS2 rfl (fun i x hi hl => .inl (hnm _ _ h1 i x (by rwa [hsV] at hi) hl))
    have hxB : ExtS e' st' W (e'.withS S2) st'.B st'.V W := (Ext.refl _ _ _ _ _).more (fun _ h => .inl h) (fun b hb => hb.imp id fun h => Nat.le_trans hbase h.1)
    refine hbody (F.inRound l) (n + 3 - 1 - 1) (hF.inRound l) pre x st' h1 n0 w0 _ _ W _ hr3 ?_
    intro ex e3 s2 a2 W' hq hrel _ hx
    rw [ExtS, hsB, hsV] at hx
    have hx' : ExtS e' st' W e3 s2.B s2.V W' := hxB.trans hx
    have hkeep : KeepsFrom w.heap.size W W' := ⟨hx.sz, fun k o hk ho hc => (hx.ro.same k (.inr ⟨hk, (Array.getElem?_eq_some_iff.1 ho).1, o, ho, hc⟩)).trans ho⟩
    have hback : Rel n0 w0 e3 ⟨st'.t, s2.B, s2.V⟩ a W' := ⟨AV.all.mono hx' _ _ h2.sc h2.tm, hx'.scos h2.sc, hrel.mem⟩
    have hxx : ExtS e st w e3 s2.B s2.V W' := h3.trans hx'
    cases ex with
    | normal =>
      obtain ⟨s3, hw, hI⟩ := hq
      have hww := hw.weak hback
      exact ⟨hkeep, fun b hb => hx'.ro.same b (h3.ro.sub b hb), e3, dmS s3, hI, (hback.weak hww).dm, ExtS.dm (Ext.weak (show ExtS e st w e3 (St.mk st'.t s2.B s2.V).B (St.mk st'.t s2.B s2.V).V W' from hxx) hww (by rw [hw.Bl]; exact hxx.nB) (by rw [hw.V]; simpa using hxx.nV))⟩
    | ret => exact ⟨hkeep, rfl, e3, dmS ⟨st'.t, s2.B, s2.V⟩, dmV_noMap _, hq, hback.dm, ExtS.dm (st' := ⟨st'.t, s2.B, s2.V⟩) hxx⟩
    | exit i => exact hq.elim
    | goto t => exact hq.elim
    | panic c => exact hq.elim
    | outgrown => exact hq.elim
  · rintro D ys W hD rfl ⟨e', st', h1, h2, h3⟩ hDW
    have hS' : ∀ b, (e'.S b ∨ b = D) → e'.S b ∨ (b < W.heap.size ∧ ∃ o : Obj, W.heap[b]? = some o ∧ o.isCells = false) := fun b hb => hb.imp id fun h => by subst h; exact ⟨(Array.getElem?_eq_some_iff.1 hDW).1, _, hDW, rfl⟩
    have hx4 : ExtS e st w (e'.withS fun b => e'.S b ∨ b = D) st'.B st'.V W := h3.more (fun b hb => .inl (h3.ro.sub b hb)) (fun b hb => hb.imp id fun h => by subst h; have := hr.mem.bl; have := hr.mem.base; omega)
    refine hk .normal (e'.withS fun b => e'.S b ∨ b = D) st' _ W (hdone st' h1) (h2.more (fun _ h => .inl h) hS' rfl fun i x hi hl => .inl (hnm _ _ h1 i x hi hl)) ?_ hx4
    obtain ⟨Ds, hds, hnd, hDs⟩ := hm
    refine ⟨D :: Ds, by simp [hds, markOf], ?_, ?_⟩
    · rw [List.nodup_cons]
      refine ⟨fun hmem => ?_, hnd⟩
      have := (Array.getElem?_eq_some_iff.1 (hDs D hmem).2.2).1
      omega
    · intro D' hD'
      rcases List.mem_cons.1 hD' with rfl | hD'
      · exact ⟨Nat.le_trans hm0 hD, .inr rfl, hDW⟩
      · obtain ⟨q1, q2, q3⟩ := hDs D' hD'
        exact ⟨q1, hx4.ro.sub D' q2, (hx4.ro.same D' q2).trans q3⟩
  · rintro D c pre W hD hpre ⟨rfl, e', st', hno, h1, h2, h3⟩ hDW
    have hS' : ∀ b, (e'.S b ∨ b = D) → e'.S b ∨ (b < W.heap.size ∧ ∃ o : Obj, W.heap[b]? = some o ∧ o.isCells = false) := fun b hb => hb.imp id fun h => by subst h; exact ⟨(Array.getElem?_eq_some_iff.1 hDW).1, _, hDW, rfl⟩
    have hx4 : ExtS e st w (e'.withS fun b => e'.S b ∨ b = D) st'.B st'.V W := h3.more (fun b hb => .inl (h3.ro.sub b hb)) (fun b hb => hb.imp id fun h => by subst h; have := hr.mem.bl; have := hr.mem.base; omega)
    refine wpIn_ret (hk .ret (e'.withS fun b => e'.S b ∨ b = D) st' _ W (h1 hpre) (h2.more (fun _ h => .inl h) hS' rfl fun i x hi hl => .inl (hno i x hi hl)) ?_ hx4)
    obtain ⟨Ds, hds, hnd, hDs⟩ := hm
    refine ⟨D :: Ds, by simp [hds, markOf], ?_, ?_⟩
    · rw [List.nodup_cons]
      refine ⟨fun hmem => ?_, hnd⟩
      have := (Array.getElem?_eq_some_iff.1 (hDs D hmem).2.2).1
      omega
    · intro D' hD'
      rcases List.mem_cons.1 hD' with rfl | hD'
      · exact ⟨Nat.le_trans hm0 hD, .inr rfl, hDW⟩
      · obtain ⟨q1, q2, q3⟩ := hDs D' hD'
        exact ⟨q1, hx4.ro.sub D' q2, (hx4.ro.same D' q2).trans q3⟩
end
end Go.Sx
namespace Go.Sx
open Go Go.RowKit
def intsOf : List CV → Option (List Int)
  | [] => some []
  | .val (.int .i64 x) :: r => match intsOf r with
    | some l => some (x :: l)
    | none => none
  | _ => none
structure Its (P : Program) (sg : FuncId → Option Sig) (M : Den) : Prop where
  it : ∀ f caps out xs, sg f = none → M f caps = some out → intsOf out = some xs → entB P f = true ∧ IterP P f caps xs
def hasRF : Code → Bool
  | .rangeFunc .. => true
  | .seq a b => hasRF a || hasRF b
  | .block _ c => hasRF c
  | .cond _ a b => hasRF a || hasRF b
  | .loop c => hasRF c
  | .scope c => hasRF c
  | _ => false
def rangeL (step : Int → List CV → Option Ou) : List Int → List CV → Option Ou
  | [], vs => some (.nx vs)
  | x :: xs, vs => match step x vs with
    | some (.nx vs') => rangeL step xs vs'
    | o => o
open Classical in
noncomputable def rangeO (it : Option (List Int)) (step : Int → List CV → Option Ou) (vs : List CV) : Option Ou := match it with
  | some xs => if ∀ l, rangeL step l vs ≠ none then rangeL step xs vs else none
  | none => none
theorem rangeO_some {it : Option (List Int)} {step : Int → List CV → Option Ou} {vs : List CV} {r : Ou} (h : rangeO it step vs = some r) : ∃ xs, it = some xs ∧ (∀ l, rangeL step l vs ≠ none) ∧ rangeL step xs vs = some r := by
  unfold rangeO at h
  split at h
  · split at h
    · rename_i xs hl; exact ⟨xs, rfl, hl, h⟩
    · cases h
  · cases h
theorem rangeL_app {step : Int → List CV → Option Ou} : ∀ (l l' : List Int) (vs : List CV), rangeL step (l ++ l') vs = match rangeL step l vs with
    | some (.nx vs') => rangeL step l' vs'
    | o => o
  | [], l', vs => rfl
  | x :: l, l', vs => by
    simp only [List.cons_append, rangeL]
    cases step x vs with
    | none => rfl
    | some o => cases o with
      | nx vs' => exact rangeL_app l l' vs'
      | _ => rfl
def itV (sg : FuncId → Option Sig) (M : Den) (c : CV) : Option (List Int) := match c with
  | .fn f caps => match sg f with
    | none => match M f caps with
      | some out => intsOf out
      | none => none
    | some _ => none
  | _ => none
theorem itV_some {sg : FuncId → Option Sig} {M : Den} {c : CV} {xs : List Int} (h : itV sg M c = some xs) : ∃ f caps out, c = .fn f caps ∧ sg f = none ∧ M f caps = some out ∧ intsOf out = some xs := by
  unfold itV at h
  split at h
  · rename_i f caps
    split at h
    · rename_i hs
      split at h
      · rename_i out ho; exact ⟨f, caps, out, rfl, hs, ho, h⟩
      · cases h
    · cases h
  · cases h
def lkX (h : Hint) (lk : Lk) (s : SS) : Lk := ⟨lk.t, lk.b, lk.v, (List.range s.V.length).filter fun i => !h.vxu.contains i⟩
def SS.back (s : SS) (ks : List Nat) (s' : SS) : SS := ⟨s.n, (s.kept ks).t, s'.B, s'.V⟩
def noM (V : List Vec) : Bool := V.all fun v => decide (v.T < mapTag)
def sIn (p : Nat) (dd : Option Nat) (x : Int) (s : SS) : SS := (s.put (some p) (.cv (.val (.int .i64 x))) s.B s.V).put dd (.cv (.val (.int .i64 x))) s.B s.V
section
variable (P : Program) (sg : FuncId → Option Sig) (M : Den)
noncomputable def evT (inl : List (Option Nat × Hint × HT) → IN) (rt : SS → Option Ou) : Code → HT → Lk → SS → (SS → Option Ou) → Option Ou
  | .seq a b, .two x y, lk, s, K => match hasRF (.seq a b) with
    | true => evT inl rt a x lk s fun s' => evT inl rt b y lk s' K
    | false => evC P sg M inl rt (.seq a b) (.two x y) lk [] s K
  | .cond c a b, .cond none x y, lk, s, K => match hasRF (.cond c a b) with
    | true => match s.ev c with
      | .cv (.val (.bool t)) => iteB t (evT inl rt a x lk s K) (evT inl rt b y lk s K)
      | _ => none
    | false => evC P sg M inl rt (.cond c a b) (.cond none x y) lk [] s K
  | .block id c, .thru x, lk, s, K => match hasRF (.block id c) with
    | true => evT inl rt c x lk s K
    | false => evC P sg M inl rt (.block id c) (.thru x) lk [] s K
  | .rangeFunc g ps assign body, .lp [] h y, lk, s, K => match ps.toList with
      | [p] => match assignOf p assign with
        | some dd => if (hintOk h lk s && hintOk h (lkX h lk s) s && h.vars.isEmpty && decide (p < s.n) && noM s.V && h.vx.all fun p => decide (p.2.1 < mapTag)) = true then
            match extH h s with
            | some v0 => match (tmpl h lk s v0).ev g with
              | .cv c => seqO (rangeO (itV sg M c) (fun x vs => evC P sg M inl (fun s' => if noM s'.V = true then rt (s.back (h.keep ++ lk.t) s') else none) body y (lkCall h lk s) [] (sIn p dd x (tmpl h lk s vs)) fun s' => (extH h (s.back (h.keep ++ lk.t) s')).map .nx) v0) fun vs => K (tmpl h lk s vs)
              | _ => none
            | none => none
          else none
        | none => none
      | _ => none
  | c, ht, lk, s, K => evC P sg M inl rt c ht lk [] s K
end
section
variable {P : Program} {sg : FuncId → Option Sig} {M : Den} {F : Fence} {n : Nat}
theorem Em.dm {m : Emb} {s : SS} {st : St} (h : Em m s st) (hn : noM s.V = true) : Em m s (dmS st) := by
  refine ⟨h.t, h.ti, ⟨h.m.bl, h.m.vl, h.m.ol, h.m.b, fun i v hi hl => ?_, fun i hi => ?_, h.m.bi, h.m.vi⟩⟩
  · have h1 := h.m.v i v hi hl
    have hT : v.T < mapTag := of_decide_eq_true (List.all_eq_true.1 hn v (List.mem_of_getElem? hi))
    show (dmV st.V)[m.fv i]? = _
    simp only [dmV, List.getElem?_map, h1, Option.map_some, Vec.cz, hT, decide_true, Bool.and_true]
  · show m.fv i < (dmV st.V).length
    simpa [dmV] using h.m.vlt i hi
theorem dmV_dmV (V : List Vec) : dmV (dmV V) = dmV V := by
  simp only [dmV, List.map_map]
  refine List.map_congr_left fun v _ => ?_
  simp only [Function.comp, Bool.and_assoc, Bool.and_self]
theorem Adv.dm {lk : Lk} {m m' : Emb} {s s' : SS} {st st' : St} (h : Adv lk m s (dmS st) m' s' st') : Adv lk m s (dmS st) m' s' (dmS st') := by
  refine ⟨⟨h.stp.up, h.stp.bl, ?_, h.stp.bn, h.stp.vn, h.stp.bf, fun j hj hn => ?_⟩, h.n, h.bl, h.vl, h.t, h.b, h.v, h.o⟩
  · show (dmS st).V.length ≤ (dmV st'.V).length
    rw [show (dmV st'.V).length = st'.V.length by simp [dmV]]; exact h.stp.vl
  · have h1 := h.stp.vf j hj hn
    show (dmV st'.V)[j]? = (dmV st.V)[j]?
    have h2 : st'.V[j]? = (dmV st.V)[j]? := h1
    rw [← dmV_dmV st.V, dmV, List.getElem?_map, h2, ← List.getElem?_map]
    rfl
theorem tmplV_noM {h : Hint} {lk : Lk} {s : SS} (h1 : noM s.V = true) (h2 : (h.vx.all fun p => decide (p.2.1 < mapTag)) = true) (vs : List CV) : noM (tmpl h lk s vs).V = true := by
  have bld : ∀ (l : List (Nat × TypeId × Nat × Option Nat)) (i p : Nat) (v : Vec), (l.all fun p => decide (p.2.1 < mapTag)) = true → bldV l i vs p = some v → v.T < mapTag := by
    intro l
    induction l with
    | nil => intro i p v _ h; simp [bldV] at h
    | cons q r ih =>
      obtain ⟨j, T, k, g⟩ := q
      intro i p v hall h
      simp only [List.all_cons, Bool.and_eq_true, decide_eq_true_eq] at hall
      simp only [bldV] at h
      split at h
      · cases h; exact hall.1
      · exact ih i (p + 1) v hall.2 h
  unfold noM
  rw [List.all_eq_true]
  intro v hv
  simp only [tmpl, tmplV, List.mem_map, List.mem_range] at hv
  obtain ⟨i, _, rfl⟩ := hv
  rw [decide_eq_true_eq]
  split
  · rename_i v hv; exact bld _ _ _ v h2 hv
  · by_cases hi : i < s.V.length
    · rw [List.getD, List.getElem?_eq_getElem hi]
      exact of_decide_eq_true (List.all_eq_true.1 h1 _ (List.getElem_mem hi))
    · rw [List.getD, List.getElem?_eq_none (by omega)]
      show 0 < mapTag
      decide
theorem evT_sound (hM : Fns P sg M) (hT : Its P sg M) (hF : Free F) (hro : F.round = none) {inl : List (Option Nat × Hint × HT) → IN} (hI : ∀ (F : Fence) (n : Nat), Free F → ∀ il, InOK F n P (inl il)) {rt : SS → Option Ou} (hrt : ∀ s o, rt s = some o → ∃ l, o = .ret l) : ∀ (c : Code) (ht : HT) (lk : Lk) (s : SS) (K : SS → Option Ou) (r : Ou) (m : Emb) (st : St) (Q : Exit → St → Prop),
    Em m s st → evT P sg M inl rt c ht lk s K = some r →
    (∀ m' s' st', K s' = some r → Em m' s' st' → Q .normal st') →
    (∀ m' s' st', rt s' = some r → Em m' s' st' → Q .ret st') →
    W2 F n P c st Q := by
  intro c
  have plain : ∀ (c : Code) (ht : HT) (lk : Lk) (s : SS) (K : SS → Option Ou) (r : Ou) (m : Emb) (st : St) (Q : Exit → St → Prop),
    Em m s st → evC P sg M inl rt c ht lk [] s K = some r →
    (∀ m' s' st', K s' = some r → Em m' s' st' → Q .normal st') →
    (∀ m' s' st', rt s' = some r → Em m' s' st' → Q .ret st') → W2 F n P c st Q :=
    fun c ht lk s K r m st Q hE h hK hR => (evC_sound hM hF (hI F n hF) hrt c ht lk [] s K r m st Q hE h (fun m' s' st' g1 g2 _ => hK m' s' st' g1 g2) (fun id h vs m' s' st' h0 => by simp [lookH] at h0) fun m' s' st' g1 g2 _ => hR m' s' st' g1 g2).w2
  induction c with
  | seq a b iha ihb =>
    intro ht lk s K r m st Q hE h hK hR
    cases ht with
    | two x y =>
      simp only [evT] at h
      split at h
      · refine W2_seq (iha x lk s _ r m st _ hE h ?_ ?_)
        · intro m' s' st' h1 h2
          exact ihb y lk s' K r m' st' Q h2 h1 hK hR
        · exact hR
      · exact plain _ _ _ _ _ _ _ _ _ hE h hK hR
    | _ => simp only [evT] at h; exact plain _ _ _ _ _ _ _ _ _ hE h hK hR
  | cond c a b iha ihb =>
    intro ht lk s K r m st Q hE h hK hR
    cases ht with
    | cond j x y =>
      cases j with
      | none =>
        simp only [evT] at h
        split at h
        · split at h
          · rename_i t hc
            refine W2_cond (b := t) (by rw [hE.ev, hc]; simp [AV.cz]) (fun ht => ?_) (fun ht => ?_)
            · subst ht; exact iha x lk s K r m st Q hE h hK hR
            · subst ht; exact ihb y lk s K r m st Q hE h hK hR
          · cases h
        · exact plain _ _ _ _ _ _ _ _ _ hE h hK hR
      | some h0 => simp only [evT] at h; exact plain _ _ _ _ _ _ _ _ _ hE h hK hR
    | _ => simp only [evT] at h; exact plain _ _ _ _ _ _ _ _ _ hE h hK hR
  | block id c ih =>
    intro ht lk s K r m st Q hE h hK hR
    cases ht with
    | thru x =>
      simp only [evT] at h
      split at h
      · refine W2_block (ih x lk s K r m st _ hE h ?_ ?_)
        · exact hK
        · exact hR
      · exact plain _ _ _ _ _ _ _ _ _ hE h hK hR
    | _ => simp only [evT] at h; exact plain _ _ _ _ _ _ _ _ _ hE h hK hR
  | rangeFunc g ps assign body iha ihb =>
    intro ht lk s K r m st Q hE h hK hR
    cases ht with
    | lp as h0 y =>
      cases as with
      | cons q as => simp only [evT] at h; exact plain _ _ _ _ _ _ _ _ _ hE h hK hR
      | nil =>
      simp only [evT] at h
      obtain ⟨sA, rfl⟩ : ∃ sA, sA = s := ⟨_, rfl⟩
      obtain ⟨stA0, rfl⟩ : ∃ stA0, stA0 = st := ⟨_, rfl⟩
      obtain ⟨mA, rfl⟩ : ∃ mA, mA = m := ⟨_, rfl⟩
      have hK' := hK
      have hR' := hR
      split at h
      case h_2 => cases h
      rename_i p hps
      split at h
      case h_2 => cases h
      rename_i dd has
      split at h
      case isFalse => cases h
      rename_i hc
      simp only [Bool.and_eq_true, decide_eq_true_eq, List.isEmpty_iff] at hc
      obtain ⟨⟨⟨⟨⟨hok, hokX⟩, hvars⟩, hp⟩, hnm⟩, hnx⟩ := hc
      refine W2_dm ?_
      have hEA := hE.dm hnm
      generalize hdm : dmS stA0 = stA at hEA
      have hnT := fun vs => tmplV_noM (lk := lk) hnm hnx vs
      split at h
      case h_2 => cases h
      rename_i v0 hv0
      split at h
      case h_2 => cases h
      rename_i c hg
      generalize hstep : (fun (x : Int) (vs : List CV) => evC P sg M inl (fun s' => if noM s'.V = true then rt (sA.back (h0.keep ++ lk.t) s') else none) body y (lkCall h0 lk sA) [] (sIn p dd x (tmpl h0 lk sA vs)) fun s' => (extH h0 (sA.back (h0.keep ++ lk.t) s')).map .nx) = step at h
      have hr0 : ∃ r0, rangeO (itV sg M c) step v0 = some r0 := by
        rcases seqO_some h with ⟨vs, h1, _⟩ | ⟨h1, _⟩
        · exact ⟨_, h1⟩
        · exact ⟨_, h1⟩
      obtain ⟨r0, hr0⟩ := hr0
      obtain ⟨xs, hit, htot, hrun⟩ := rangeO_some hr0
      obtain ⟨f, caps, out, rfl, hsf, hMf, hints⟩ := itV_some hit
      obtain ⟨hen, hIter⟩ := hT.it f caps out xs hsf hMf hints
      rw [hr0] at h
      obtain ⟨m1, st1, q1, q2, q3⟩ := tmpl_ok (st0 := stA) (lk := lkX h0 lk sA) hEA hEA (Adv.refl _ _ _ _) hv0 hokX
      have hrt' : ∀ (s : SS) (o : Ou), (fun s' => if noM s'.V = true then rt (sA.back (h0.keep ++ lk.t) s') else none) s = some o → ∃ l, o = .ret l := by
        intro s o hs
        simp only at hs
        split at hs
        · exact hrt _ o hs
        · cases hs
      refine W2_pre q1 (W2_dm ?_)
      have q2d := q2.dm (hnT v0)
      have q3d : Adv (lkIn h0 (lkX h0 lk sA) sA) mA sA stA m1 (tmpl h0 lk sA v0) (dmS st1) := by subst hdm; exact q3.dm
      have hps' : ps = #[p] := by rw [← Array.toArray_toList (xs := ps), hps]
      obtain ⟨o1, o2, o3, o4, o5, o6, o7, o8, o9, o10⟩ := hintOk_spec hok
      have hslots : ∀ vs, (tmpl h0 lk sA vs).t = (sA.kept (h0.keep ++ lk.t)).t := by
        intro vs
        simp only [tmpl, hvars, bldT, List.append_nil, SS.kept]
      refine W2_range hF hro (p := p) (dd := dd) (xs := xs) (fun pre st' => ∃ vs m', rangeL step pre v0 = some (.nx vs) ∧ Em m' (tmpl h0 lk sA vs) st' ∧ Adv (lkIn h0 (lkX h0 lk sA) sA) mA sA stA m' (tmpl h0 lk sA vs) st' ∧ noMap st'.V) hps' (fun pre st' h => by obtain ⟨_, _, _, _, _, h⟩ := h; exact h) ?_ ?_ hen hIter has ⟨v0, m1, rfl, q2d, q3d, dmV_noMap _⟩ ?_ ?_
      · rw [q2d.t]; simpa [tmpl] using hp
      · rw [q2d.ev]; show AV.cz m1 ((tmpl h0 lk sA v0).ev g) = _; rw [hg]; simp [AV.cz]
      · rintro F' n' hF' pre x st' ⟨vs, m', g1, g2, g3, _⟩
        have htot' := htot (pre ++ [x])
        rw [rangeL_app, g1] at htot'
        simp only [rangeL] at htot'
        obtain ⟨r', hr'⟩ : ∃ r', step x vs = some r' := by
          cases hs : step x vs with
          | none => rw [hs] at htot'; exact absurd rfl htot'
          | some r' => exact ⟨r', rfl⟩
        have hst := hr'
        rw [← hstep] at hst
        simp only at hst
        have hE1 : Em m' (sIn p dd x (tmpl h0 lk sA vs)) (stIn p dd x st') := by
          have e1 := g2.put g2.m (Emb.Up.refl _) (fun _ _ => rfl) (Nat.le_refl _) (Nat.le_refl _) (x := .cv (.val (.int .i64 x))) rfl (some p)
          have e2 := e1.put g2.m (Emb.Up.refl _) (fun _ _ => rfl) (Nat.le_refl _) (Nat.le_refl _) (x := .cv (.val (.int .i64 x))) rfl dd
          simp only [AV.cz] at e2
          exact e2
        have hsB : (sIn p dd x (tmpl h0 lk sA vs)).B = (tmpl h0 lk sA vs).B := by unfold sIn; cases dd <;> rfl
        have hsV : (sIn p dd x (tmpl h0 lk sA vs)).V = (tmpl h0 lk sA vs).V := by unfold sIn; cases dd <;> rfl
        have htB : (stIn p dd x st').B = st'.B := by unfold stIn; cases dd <;> rfl
        have htV : (stIn p dd x st').V = st'.V := by unfold stIn; cases dd <;> rfl
        have back : ∀ {m2 : Emb} {s2 : SS} {st2 : St}, Em m2 s2 st2 → Adv (lkCall h0 lk sA) m' (sIn p dd x (tmpl h0 lk sA vs)) (stIn p dd x st') m2 s2 st2 →
            Em m2 (sA.back (h0.keep ++ lk.t) s2) ⟨st'.t, st2.B, st2.V⟩ ∧ Adv (lkIn h0 (lkX h0 lk sA) sA) mA sA stA m2 (sA.back (h0.keep ++ lk.t) s2) ⟨st'.t, st2.B, st2.V⟩ := by
          intro m2 s2 st2 hE2 ha
          have hbl : sA.B.length ≤ (tmpl h0 lk sA vs).B.length := g3.bl
          have hvl : sA.V.length ≤ (tmpl h0 lk sA vs).V.length := g3.vl
          have hcz : ∀ d ∈ h0.keep ++ lk.t, (sA.get d).cz m' = (sA.get d).cz m2 := fun d hd =>
            AV.cz_noV (nb := sA.B.length) (nv := sA.V.length) (fun j hj => (ha.stp.up.b j (by rw [g2.m.bl]; omega)).symm) (fun j hj => (ha.stp.up.v j (by rw [g2.m.vl]; omega)).symm)
              (fun j hj hcj => (ha.o j (by simp only [lkCall, List.mem_filter, List.mem_range, hcj]; exact ⟨hj, rfl⟩) (by rw [hsV]; omega)).symm) _ (hEA.inn d) (o1 d hd)
          refine ⟨⟨?_, fun q hq => ?_, hE2.m⟩, ?_⟩
          · show st'.t = mkT sA.n ((sA.kept (h0.keep ++ lk.t)).t.map fun p => (p.1, p.2.cz m2))
            rw [g2.t, hslots]
            show mkT sA.n _ = _
            congr 1
            simp only [SS.kept, List.map_map]
            exact List.map_congr_left fun d hd => by simp only [Function.comp]; rw [hcz d hd]
          · simp only [SS.back, SS.kept, List.mem_map] at hq
            obtain ⟨d, _, rfl⟩ := hq
            have h1 := ha.bl; rw [hsB] at h1
            have h2 := ha.vl; rw [hsV] at h2
            exact AV.inn_mono (Nat.le_trans hbl h1) (Nat.le_trans hvl h2) _ (hEA.inn d)
          · have hstp := ha.stp
            rw [htB, htV] at hstp
            have h1 := ha.bl; rw [hsB] at h1
            have h2 := ha.vl; rw [hsV] at h2
            refine ⟨g3.stp.trans hstp, rfl, Nat.le_trans hbl h1, Nat.le_trans hvl h2, fun d hd => ?_, fun i hi hil => ?_, fun i hi hil => ?_, fun i hi hil => ?_⟩
            · exact SS.kept_get hd
            · have := ha.b i hi (by rw [hsB]; omega)
              rw [hsB] at this
              exact this.trans (g3.b i hi hil)
            · have := ha.v i hi (by rw [hsV]; omega)
              rw [hsV] at this
              exact this.trans (g3.v i hi hil)
            · exact (ha.o i hi (by rw [hsV]; omega)).trans (g3.o i hi hil)
        refine evC_sound hM hF' (hI F' n' hF') hrt' body y (lkCall h0 lk sA) [] _ _ r' m' _ _ hE1 hst ?_ ?_ ?_
        · intro m2 s2 st2 e1 e2 e3
          simp only [Option.map_eq_some_iff] at e1
          obtain ⟨vs2, e1, e4⟩ := e1
          subst e4
          obtain ⟨b1, b2⟩ := back e2 e3
          obtain ⟨m3, st3, w1, w2, w3⟩ := tmpl_ok (lk := lkX h0 lk sA) hEA b1 b2 e1 hokX
          refine ⟨st3, w1, vs2, m3, ?_, w2.dm (hnT vs2), ?_, dmV_noMap _⟩
          rotate_left
          · subst hdm; exact w3.dm
          rw [rangeL_app, g1]
          simp only [rangeL, hr']
        · intro id h vs2 m2 s2 st2 e0 e1 e2 e3 e4; simp [lookH] at e0
        · intro m2 s2 st2 e1 e2 e3
          obtain ⟨b1, b2⟩ := back e2 e3
          split at e1
          case isFalse => cases e1
          rename_i hn2
          obtain ⟨l, rfl⟩ := hrt _ _ e1
          intro hpre
          obtain ⟨suf, hsuf⟩ := hpre
          have : rangeL step xs v0 = some (.ret l) := by
            rw [← hsuf, rangeL_app, rangeL_app, g1]
            simp only [rangeL, hr']
          rw [this] at hrun
          cases hrun
          have hrr : r = .ret l := by simp only [seqO, Option.some.injEq] at h; exact h.symm
          subst hrr
          exact hR' m2 _ _ e1 (b1.dm hn2)
      · rintro st' ⟨vs, m', g1, g2, g3, _⟩
        rw [hrun] at g1
        cases g1
        simp only [seqO] at h
        exact hK' m' _ st' h g2
    | _ => simp only [evT] at h; exact plain _ _ _ _ _ _ _ _ _ hE h hK hR
  | _ => intro ht lk s K r m st Q hE h hK hR; simp only [evT] at h; exact plain _ _ _ _ _ _ _ _ _ hE h hK hR
end
end Go.Sx
