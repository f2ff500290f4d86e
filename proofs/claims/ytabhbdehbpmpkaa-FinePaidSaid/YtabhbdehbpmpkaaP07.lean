/-
  Proved: up to the last one of its days the postings for a stay add up to its due, as known then; what other payers paid they got back; no Amount is 0, no two postings have one day, stay, From and To; all Balances add up to 0, and what the lord, the hayward and the driver get is what is paid; conditions: none.
-/
import Derived.KernelRfl
import Derived.Lib.AppendZerosOnto
import Derived.OpenShut
import Derived.ProofKit
import Derived.SizedLaws
import Derived.Test.YtabhbdehbpmpkaaP06
namespace Go.Sx
open Go Go.RowKit
section
variable (P : Program) (sg : FuncId → Option Sig) (M : Den)
noncomputable def evF (fe : FE) (c : Code) (vs : List CV) : Option (List CV) :=
  if (Sc.avs fe.g.ps vs 0).length ≤ fe.n then
    retO (evT P sg M (inN P sg M 8) (rtF P fe.rs fe.g.rs) c fe.ht ⟨[], [], [], []⟩ ⟨fe.n, numb 0 (Sc.avs fe.g.ps vs 0), [], []⟩ (rtF P fe.rs fe.g.rs))
  else none
end
section
variable {P : Program} {sg : FuncId → Option Sig} {M : Den}
theorem evF_sound (hM : Fns P sg M) (hT : Its P sg M) {f : FuncId} {fn : Func} {fe : FE} {c : Code} {vs out : List CV} (hf : P.funcs[f]? = some fn) (hb : fn.body = some c) (hn : fn.ntmps = fe.n) (hr : fn.results.toList = fe.rs) (h : evF P sg M fe c vs = some out) :
    SpecR P f (Sc.avs fe.g.ps vs 0) (Sc.res fe.g.rs out) := by
  unfold evF at h
  split at h
  · rename_i hlen
    have h' : evT P sg M (inN P sg M 8) (rtF P fe.rs fe.g.rs) c fe.ht ⟨[], [], [], []⟩ ⟨fe.n, numb 0 (Sc.avs fe.g.ps vs 0), [], []⟩ (rtF P fe.rs fe.g.rs) = some (.ret out) := by
      unfold retO at h
      split at h
      · rename_i l hl; cases h; exact hl
      · cases h
    have hcl := Sc.avs_closed fe.g.ps vs 0
    have key : CallP P f (Sc.avs fe.g.ps vs 0) [] [] fun r B V => ∃ (m : Emb) (s : SS) (st : St) (xs : List AV) (l : List CV) (b : Bool), st.B = B ∧ st.V = V ∧ Em m s st ∧ resSs P s fe.rs = some xs ∧ lndAs s.B s.V fe.g.rs xs = some (l, b) ∧ nrmL (Sc.lvs fe.g.rs) l = out ∧
        r = tupOf (AV.czs m xs) := by
      refine CallP_body2 hf hb fun F n hF hro => ?_
      rw [hn, start_eq _ _ hlen]
      have hE : Em ⟨[], [], []⟩ ⟨fe.n, numb 0 (Sc.avs fe.g.ps vs 0), [], []⟩ ⟨mkT fe.n (numb 0 (Sc.avs fe.g.ps vs 0)), [], []⟩ := by
        obtain ⟨p1, p2⟩ := Sc.avs_pl fe.g.ps vs 0 ⟨[], [], []⟩ 0 0
        refine ⟨?_, numb_inn _ _ p2, ⟨rfl, rfl, rfl, by simp, by simp, by simp, by simp, by simp⟩⟩
        rw [numb_map, ← AV.czs_eq, p1]
      have fin : ∀ (m' : Emb) (s' : SS) (st' : St), rtF P fe.rs fe.g.rs s' = some (.ret out) → Em m' s' st' → ∃ r, resOf P st' fn.results.toList = some r ∧
          ∃ (m : Emb) (s : SS) (st : St) (xs : List AV) (l : List CV) (b : Bool), st.B = st'.B ∧ st.V = st'.V ∧ Em m s st ∧ resSs P s fe.rs = some xs ∧ lndAs s.B s.V fe.g.rs xs = some (l, b) ∧ nrmL (Sc.lvs fe.g.rs) l = out ∧ r = tupOf (AV.czs m xs) := by
        intro m' s' st' h1 hE'
        unfold rtF at h1
        split at h1
        · rename_i xs hxs
          split at h1
          · rename_i l b hl
            cases h1
            refine ⟨_, ?_, m', s', st', xs, l, b, rfl, rfl, hE', hxs, hl, rfl, rfl⟩
            rw [hr]
            exact resOf_tup (resSs_spec hE' hxs)
          · cases h1
        · cases h1
      refine evT_sound hM hT hF hro (fun F n hF => inN_ok hM 8 hF) (rtF_ret) c fe.ht _ _ _ _ _ _ _ hE h' ?_ ?_
      · intro m' s' st' h1 h2; exact ⟨.inl rfl, fin m' s' st' h1 h2⟩
      · intro m' s' st' h1 h2; exact ⟨.inr rfl, fin m' s' st' h1 h2⟩
    refine CallP.res (CallP.freeze key (AV.scos_closed _ _ _ hcl)) ?_
    rintro r B V ⟨rfl, rfl, r0, B0, V0, ⟨m, s, st, xs, l, b, rfl, rfl, hE, hxs, hl, rfl, rfl⟩, rfl⟩
    refine ⟨Sc.res fe.g.rs l, ?_, (nrmL_res _ _).symm, rfl, rfl⟩
    obtain ⟨q1, _⟩ := lndAs_spec hE.m hl
    have hcr := Sc.res_closed fe.g.rs l
    exact ⟨tupOf_le q1, fun _ _ _ => AV.sco_closed _ _ _ hcr⟩
  · cases h
def rtO (P : Program) (rs : List ResultVar) (s : SS) : Option Ou := match resSs P s rs with
  | some [.own i u] => match s.V[i]? with
    | some v => if (v.live && v.ver == u) = true then some (.ret [.row v.k v.es, .fn v.T []]) else none
    | none => none
  | _ => none
theorem rtO_ret {rs : List ResultVar} (s : SS) (o : Ou) (h : rtO P rs s = some o) : ∃ l, o = .ret l := by
  unfold rtO at h
  split at h
  · split at h
    · split at h
      · cases h; exact ⟨_, rfl⟩
      · cases h
    · cases h
  · cases h
noncomputable def evFO (P : Program) (sg : FuncId → Option Sig) (M : Den) (fe : FE) (c : Code) (vs : List CV) : Option (List CV) :=
  if vs.length ≤ fe.n then
    retO (evT P sg M (inN P sg M 8) (rtO P fe.rs) c fe.ht ⟨[], [], [], []⟩ ⟨fe.n, numb 0 (vs.map .cv), [], []⟩ (rtO P fe.rs))
  else none
theorem evFO_sound (hM : Fns P sg M) (hT : Its P sg M) {f : FuncId} {fn : Func} {fe : FE} {c : Code} {vs : List CV} {k : Nat} {es : List (List CV)} {T : TypeId} (hf : P.funcs[f]? = some fn) (hb : fn.body = some c) (hn : fn.ntmps = fe.n) (hr : fn.results.toList = fe.rs)
    (h : evFO P sg M fe c vs = some [.row k es, .fn T []]) : SpecO P f (vs.map .cv) T k es := by
  unfold evFO at h
  split at h
  · rename_i hlen
    have h' : evT P sg M (inN P sg M 8) (rtO P fe.rs) c fe.ht ⟨[], [], [], []⟩ ⟨fe.n, numb 0 (vs.map .cv), [], []⟩ (rtO P fe.rs) = some (.ret [.row k es, .fn T []]) := by
      unfold retO at h
      split at h
      · rename_i l hl; cases h; exact hl
      · cases h
    refine CallP_body2 hf hb fun F n hF hro => ?_
    rw [hn, start_eq _ _ (by simpa using hlen)]
    have hE : Em ⟨[], [], []⟩ ⟨fe.n, numb 0 (vs.map .cv), [], []⟩ ⟨mkT fe.n (numb 0 (vs.map .cv)), [], []⟩ := by
      refine ⟨?_, numb_inn _ _ (by rw [AV.inns_eq, List.all_eq_true]; intro y hy; obtain ⟨c, _, rfl⟩ := List.mem_map.1 hy; rfl), ⟨rfl, rfl, rfl, by simp, by simp, by simp, by simp, by simp⟩⟩
      rw [numb_map, List.map_map]
      have : (vs.map ((fun x => x.cz ⟨[], [], []⟩) ∘ AV.cv)) = vs.map .cv := List.map_congr_left fun y _ => by simp [AV.cz]
      rw [this]
    have fin : ∀ (m' : Emb) (s' : SS) (st' : St), rtO P fe.rs s' = some (.ret [.row k es, .fn T []]) → Em m' s' st' → ∃ r, resOf P st' fn.results.toList = some r ∧
        ∃ i v, r = .own i v.ver ∧ st'.V[i]? = some v ∧ v.live = true ∧ v.T = T ∧ v.k = k ∧ v.es = es := by
      intro m' s' st' h1 hE'
      unfold rtO at h1
      split at h1
      · rename_i i u hxs
        split at h1
        · rename_i v hv
          split at h1
          · rename_i hc
            simp only [Bool.and_eq_true, beq_iff_eq] at hc
            obtain ⟨hl, rfl⟩ := hc
            simp only [Option.some.injEq, Ou.ret.injEq, List.cons.injEq, CV.row.injEq, CV.fn.injEq, and_true] at h1
            obtain ⟨⟨rfl, rfl⟩, rfl⟩ := h1
            refine ⟨tupOf (AV.czs m' [.own i v.ver]), ?_, m'.fv i, v.cz m' i, ?_, hE'.m.v i v hv hl, hl, rfl, rfl, rfl⟩
            · rw [hr]
              exact resOf_tup (resSs_spec hE' hxs)
            · simp [tupOf, AV.czs, AV.cz, Vec.cz]
          · cases h1
        · cases h1
      · cases h1
    refine evT_sound hM hT hF hro (fun F n hF => inN_ok hM 8 hF) (rtO_ret) c fe.ht _ _ _ _ _ _ _ hE h' ?_ ?_
    · intro m' s' st' h1 h2; exact ⟨.inl rfl, fin m' s' st' h1 h2⟩
    · intro m' s' st' h1 h2; exact ⟨.inr rfl, fin m' s' st' h1 h2⟩
  · cases h
theorem Fns.none' (P : Program) : Fns P (fun _ => none) (fun _ _ => none) where
  own := fun _ _ _ _ _ _ h => by cases h
  ins := fun _ _ _ _ _ h => by cases h
  ent := fun _ _ h => by cases h
  spec := fun _ _ _ _ h => by cases h
theorem Its.none' (P : Program) : Its P (fun _ => none) (fun _ _ => none) := ⟨fun _ _ _ _ _ h => by cases h⟩
end
end Go.Sx
namespace Go.Sx
open Go Go.RowKit
def bodyOf (f : Func) : Code := f.body.getD .skip
def ci (n : Int) : CV := .val (.int .i64 n)
def cb (b : Bool) : CV := .val (.bool b)
def gi (v : List CV) (i : Nat) : Int := cI (List.getD v i dC)
def gb (v : List CV) (i : Nat) : Bool := cB (List.getD v i dC)
def gr (v : List CV) (i : Nat) : List (List CV) := cR (List.getD v i dC)
def el (es : List (List CV)) (i : Int) : List CV := List.getD es (Int.toNat i) []
def il {A : Type} (es : List A) : Int := Int.ofNat (List.length es)
def wr (x : Int) : Int := IntKind.wrap .i64 x
def inb {A : Type} (i : Int) (es : List A) : Bool := decide (0 ≤ i) && decide (i < il es)
def cis (v : List CV) : Nat → Nat → List CV
  | _, 0 => []
  | i, n + 1 => ci (gi v i) :: cis v (i + 1) n
def cat : List (List CV) → List CV
  | [] => []
  | [x] => x
  | x :: xs => x ++ cat xs
abbrev li : Lf := .int .i64
abbrev lb : Lf := .bool
def lookN {A : Type} (k : Nat) : List (Nat × A) → Option A
  | [] => none
  | (j, x) :: r => if j = k then some x else lookN k r
def sgOf (tb : List (Nat × FE × Code)) : FuncId → Option Sig := fun f => (lookN f tb).map (·.1.g)
noncomputable def den (P : Program) (tb : List (Nat × FE × Code)) (its : List (Nat × (List CV → Option (List CV)))) : Nat → Den
  | 0 => fun _ _ => none
  | n + 1 => fun f vs => match lookN f tb with
    | some (fe, c) => evF P (sgOf tb) (den P tb its n) fe c vs
    | none => match lookN f its with
      | some it => it vs
      | none => none
structure EntOk (P : Program) (f : Nat) (fe : FE) (fn : Func) : Prop where
  ent : entB P f = true
  isf : P.funcs[f]? = some fn
  body : fn.body.isSome = true
  n : fn.ntmps = fe.n
  rs : fn.results.toList = fe.rs
theorem lookN_mem {A : Type} {k : Nat} {x : A} : ∀ {l : List (Nat × A)}, lookN k l = some x → (k, x) ∈ l
  | [], h => by simp [lookN] at h
  | (j, y) :: r, h => by
    simp only [lookN] at h
    split at h
    · rename_i hj; cases h; subst hj; simp
    · simp [lookN_mem h]
def ItsOk (P : Program) (its : List (Nat × (List CV → Option (List CV)))) : Prop := ∀ e ∈ its, ∀ caps out, e.2 caps = some out →
  (∀ xs, intsOf out = some xs → entB P e.1 = true ∧ IterP P e.1 caps xs) ∧
  (∀ k es T, out = [.row k es, .fn T []] → entB P e.1 = true ∧ SpecO P e.1 (caps.map .cv) T k es) ∧
  (∀ k T by_, caps = [] → out = [.row k [], .fn T [], .fn by_ []] → entB P e.1 = true ∧ InsP P e.1 T k by_)
theorem den_it {P : Program} {tb : List (Nat × FE × Code)} {its : List (Nat × (List CV → Option (List CV)))} {n f : Nat} {caps out : List CV} (hs : sgOf tb f = none) (h : den P tb its n f caps = some out) : ∃ it, (f, it) ∈ its ∧ it caps = some out := by
  cases n with
  | zero => simp [den] at h
  | succ n =>
    simp only [sgOf, Option.map_eq_none_iff] at hs
    simp only [den, hs] at h
    split at h
    · rename_i it hl; exact ⟨it, lookN_mem hl, h⟩
    · cases h
theorem den_its {P : Program} {tb : List (Nat × FE × Code)} {its : List (Nat × (List CV → Option (List CV)))} (hi : ItsOk P its) : ∀ n, Its P (sgOf tb) (den P tb its n) :=
  fun n => ⟨fun f caps out xs hs h hx => by
    obtain ⟨it, h1, h2⟩ := den_it hs h
    exact (hi _ h1 caps out h2).1 xs hx⟩
theorem den_fns {P : Program} {tb : List (Nat × FE × Code)} {its : List (Nat × (List CV → Option (List CV)))} (hi : ItsOk P its) (ht : ∀ e ∈ tb, ∃ fn, EntOk P e.1 e.2.1 fn ∧ e.2.2 = bodyOf fn) : ∀ n, Fns P (sgOf tb) (den P tb its n) := by
  have hown : ∀ n f vs k es T, sgOf tb f = none → den P tb its n f vs = some [.row k es, .fn T []] → entB P f = true ∧ SpecO P f (vs.map .cv) T k es := fun n f vs k es T hs h => by
    obtain ⟨it, h1, h2⟩ := den_it hs h
    exact (hi _ h1 vs _ h2).2.1 k es T rfl
  have hins : ∀ n f k T by_, sgOf tb f = none → den P tb its n f [] = some [.row k [], .fn T [], .fn by_ []] → entB P f = true ∧ InsP P f T k by_ := fun n f k T by_ hs h => by
    obtain ⟨it, h1, h2⟩ := den_it hs h
    exact (hi _ h1 [] _ h2).2.2 k T by_ rfl rfl
  have hent : ∀ f g, sgOf tb f = some g → entB P f = true := fun f g hg => by
    simp only [sgOf, Option.map_eq_some_iff] at hg
    obtain ⟨⟨fe, c⟩, h1, _⟩ := hg
    obtain ⟨fn, h2, _⟩ := ht _ (lookN_mem h1)
    exact h2.ent
  intro n
  induction n with
  | zero => exact ⟨hown 0, hins 0, hent, fun f g vs out hg h => by simp [den] at h⟩
  | succ n ih =>
    refine ⟨hown _, hins _, hent, fun f g vs out hg h => ?_⟩
    simp only [sgOf, Option.map_eq_some_iff] at hg
    obtain ⟨⟨fe, c⟩, h1, h2⟩ := hg
    simp only [den, h1] at h
    obtain ⟨fn, h3, h4⟩ := ht _ (lookN_mem h1)
    simp only at h2 h4
    subst h2
    have hb : fn.body = some c := by
      rw [h4, bodyOf]
      cases hh : fn.body with
      | none => have := h3.body; rw [hh] at this; cases this
      | some c' => rfl
    exact evF_sound ih (den_its hi n) h3.isf hb h3.n h3.rs h
end Go.Sx
namespace Go.Sx
open Go Go.RowKit
section
variable {P : Program}
theorem run_copyK (w : World) (dT sT ty elem : TypeId) (g o dLen dCap : Nat) (a : Addr) (sLen sCap m k : Nat) (cur : Array Value) (t : TypeId) (cs : List Value)
    (hu : P.underlying dT = some (.slice elem)) (hs : ∀ w, (Go.sizeOf elem).run P w = .ok k w)
    (hg : w.heap[g]? = some (.cells cur t (0, 0))) (hm : m = Nat.min sLen dLen) (hn : cs.length = m * k)
    (hsrc : ∀ j v, cs[j]? = some v → w.cell? (a.add j) = some v) (hfit : o + cs.length ≤ cur.size) (h1 : ∀ v ∈ cs, v.oneCell' = true) :
    (Builtin.copy_ #[dT, sT] ty #[.slice (some ⟨g, o, none⟩) dLen dCap, .slice (some a) sLen sCap]).run P w =
      .ok (goInt m) (w.setRow g (cur.toList.take o ++ cs ++ cur.toList.drop (o + cs.length)).toArray) := by
  have hl := run_loadCells_list (P := P) w a cs hsrc
  have hst := run_storeCells_at P g o t cs 0 cur w hg (by simpa using hfit) h1
  simp only [Nat.add_zero] at hst
  subst hm
  simp [Builtin.copy_, run_underlying hu, Builtin.lenOf, Builtin.firstCells, hs, ← hn, hl, hst]
theorem run_overlaps_own (w : World) (tS tR e : TypeId) (ht : P.underlying tS = some (.slice e)) (size : Nat) (hz : ∀ w, (Go.sizeOf e).run P w = .ok size w)
    (a b : Addr) (la ca lb cb : Nat) (hne : a.block ≠ b.block) (va vb : Array Value) (tA tB : TypeId) (fz : Nat × Nat) (ha : w.heap[a.block]? = some (.cells va tA fz)) (hva : va.size ≠ 0) (hb : w.heap[b.block]? = some (.cells vb tB (0, 0))) :
    (Extern.SlicesOverlaps.overlaps #[tS, tS] #[tR] #[.slice (some a) la ca, .slice (some b) lb cb]).run P w = .ok (.bool false) w := by
  have hnb : (a.block != b.block) = true := by simpa using hne
  have hnb' : (a.block == b.block) = false := by simpa using hne
  have hfb : ∀ o s, w.frozen? { block := b.block, off := o, spot := s } = false := fun o s => by simp [World.frozen?, hb]
  have hsa : w.shape? a.block = some (tA, va.size) := by simp [World.shape?, ha]
  have hsb : w.shape? b.block = some (tB, vb.size) := by simp [World.shape?, hb]
  have hfb' : w.frozen? b = false := hfb b.off b.spot
  obtain ⟨kA, hkA⟩ : ∃ kA, va.size = kA + 1 := ⟨va.size - 1, by omega⟩
  rw [hkA] at hsa
  change Sem.run P (α := Value) (do
    let some t := (#[tS, tS] : Array TypeId)[0]? | stuck "slices.overlaps: no parameter types"
    let .slice elem ← underlying t | stuck "slices.overlaps: slice type expected"
    let size ← sizeOf elem
    match (some a : Option Addr), (some b : Option Addr) with
    | some a, some b =>
      if la = 0 ∨ lb = 0 ∨ size = 0 then pure (Value.bool false)
      else if a.block != b.block && (← frozen a) && (← frozen b) then unsupported .addressObserved
      else do
        if a.block != b.block then do
          noView a; noView b
          if ← mayBeOne a b then return Value.bool ((← choose (.extern "sameAddr.stringBytes" 2)) == 1)
        pure (Value.bool (a.block == b.block && a.off < b.off + lb * size && b.off < a.off + la * size))
    | _, _ => pure (Value.bool false)) w = _
  by_cases h0 : la = 0 ∨ lb = 0 ∨ size = 0
  · simp [run_underlying ht, hz, h0]
  · cases hfa : w.frozen? a <;> cases hfe : w.frozen? { block := a.block, off := kA + 1 } <;>
      simp [run_underlying ht, hz, h0, hnb, hnb', frozen, noView, viewAt, mayBeOne, stringish, shape, Sem.run, hsa, hsb, hfa, hfe, hfb', hfb]
variable {F : Fence} {n : Nat} {ops : Array Oper} {Qr : Exit → Act → World → Prop}
theorem raw_op (hF : Free F) {o : Oper} {rest : List Oper} {a : Act} {w w' : World} {v : Value} (hg : o.guard = none) (hd : ∀ c, o.op ≠ .defer c) (hrun : (execOp a.eval o).run P w = .ok (.value v) w') (h : wpListIn F n P ops Qr rest (a.put o.dst v) w') :
    wpListIn F n P ops Qr (o :: rest) a w := by
  simp only [wpListIn, Region.wanted, hg, if_true]
  refine ⟨fun f _ => hF.fn f, ?_⟩
  rw [Oper.semAt_plain F _ _ hd, hrun]
  exact h
theorem eval_put (a : Act) (d k : Nat) (v : Value) (hd : d < a.tmps.size) : (a.put (some d) v).eval (.tmp k) = if d = k then v else a.eval (.tmp k) := by
  simp only [Act.eval, Act.put]
  by_cases h : d = k
  · subst h; simp [hd]
  · simp [h, Array.getElem?_setIfInBounds]
theorem size_put (a : Act) (d : Nat) (v : Value) : (a.put (some d) v).tmps.size = a.tmps.size := by simp [Act.put]
end
end Go.Sx
namespace Go.Sx
open Go Go.RowKit
def lkv : List (Nat × Value) → Nat → Option Value
  | [], _ => none
  | (d, v) :: l, k => if d = k then some v else lkv l k
def evL (l : List (Nat × Value)) : Operand → Option Value
  | .tmp d => lkv l d
  | .const v => some v
  | .func f => some (.func (.func f) #[] #[])
  | _ => none
def Sl (N : Nat) (a : Act) (l : List (Nat × Value)) : Prop := a.tmps.size = N ∧ ∀ d v, lkv l d = some v → a.eval (.tmp d) = v
def Env1 (l : List (Nat × Value)) (ρ : Operand → Value) : Prop := ∀ x v, evL l x = some v → ρ x = v
theorem Sl.env {N : Nat} {a : Act} {l : List (Nat × Value)} (h : Sl N a l) : Env1 l a.eval := by
  intro x v hx
  cases x with
  | tmp d => exact h.2 d v hx
  | const c => simp only [evL, Option.some.injEq] at hx; subst hx; rfl
  | func f => simp only [evL, Option.some.injEq] at hx; subst hx; rfl
  | _ => cases hx
theorem Sl.put {N : Nat} {a : Act} {l : List (Nat × Value)} (h : Sl N a l) {d : Nat} (hd : d < N) (v : Value) : Sl N (a.put (some d) v) ((d, v) :: l) := by
  refine ⟨by rw [size_put]; exact h.1, fun k u hk => ?_⟩
  rw [eval_put a d k v (by rw [h.1]; exact hd)]
  simp only [lkv] at hk
  split at hk
  · cases hk; rename_i e; rw [if_pos e]
  · rename_i e; rw [if_neg e]; exact h.2 k u hk
section
variable {P : Program} {F : Fence} {n : Nat} {ops : Array Oper} {Qr : Exit → Act → World → Prop}
def RunL (P : Program) (l : List (Nat × Value)) (o : Oper) (v : Value) (w w' : World) : Prop := ∀ ρ : Operand → Value, Env1 l ρ → (execOp ρ o).run P w = .ok (.value v) w'
theorem raw_gen (hF : Free F) {N : Nat} {a : Act} {l : List (Nat × Value)} (hs : Sl N a l) {o : Oper} {rest : List Oper} {d : Nat} {v : Value} {w w' : World} (hg : o.guard = none) (hdst : o.dst = some d) (hd : d < N) (hnd : ∀ c, o.op ≠ .defer c) (hrun : RunL P l o v w w')
    (h : ∀ a', a'.defers = a.defers → Sl N a' ((d, v) :: l) → wpListIn F n P ops Qr rest a' w') : wpListIn F n P ops Qr (o :: rest) a w := by
  refine raw_op hF hg hnd (hrun _ hs.env) ?_
  rw [hdst]
  exact h _ rfl (hs.put hd v)
theorem raw_reg {id : Nat} {rest : Code} {a : Act} {w : World} (h : wpListIn F n P ops (fun ex a' w' => ex = .normal ∧ rest.wpIn F n P Qr a' w') ops.toList a w) : (Code.seq (.region id ops false) rest).wpIn F n P Qr a w :=
  wpIn_seq (wpIn_mono (wpIn_region_list h) fun ex a' w' hq => by obtain ⟨rfl, hq⟩ := hq; exact hq)
theorem raw_if {id : Nat} {rest x y : Code} {c : Operand} {a : Act} {w : World} (h : wpListIn F n P ops (fun ex a' w' => ex = .normal ∧ (Code.cond c x y).wpIn F n P (Exit.then (rest.wpIn F n P Qr) Qr) a' w') ops.toList a w) :
    (Code.seq (.seq (.region id ops false) (.cond c x y)) rest).wpIn F n P Qr a w := wpIn_seq (raw_reg h)
theorem raw_draw {id : Nat} {rest : Code} {a : Act} {w : World} (hro : F.round = none) (hm : P.follows .mixedOrders = true)
    (h : wpAnyIn F n P .any ops (fun ex a' w' => ex = .normal ∧ rest.wpIn F n P Qr a' w') ops.size (Array.replicate ops.size false) a { w with drawn := w.drawn + 1 }) : (Code.seq (.region id ops true) rest).wpIn F n P Qr a w :=
  wpIn_seq (wpIn_mono (wpIn_region_any hm h) fun ex a' w' hq => by obtain ⟨rfl, hq⟩ := hq; exact hq)
theorem raw_take (hro : F.round = none) {Q : Exit → Act → World → Prop} {N : Nat} {a : Act} {l : List (Nat × Value)} (hs : Sl N a l) {i fuel : Nat} {listed : Array Bool} {o : Oper} {d : Nat} {v : Value} {w : World} (hi : ops[i]? = some o)
    (hse : Region.noSelect ops = true) (hf : Region.free .any ops listed i = true) (hr : (Region.ready .any ops listed).contains i = true) (hQ : ∀ c a w, ¬ Q (.panic c) a w) (hg : o.guard = none) (hdst : o.dst = some d) (hd : d < N)
    (hab : ∀ w ρ, o.about P w ρ = none) (hrun : ∀ w, RunL P l o v w w) (h : ∀ a', a'.defers = a.defers → Sl N a' ((d, v) :: l) → wpAnyIn F n P .any ops Q fuel (listed.setIfInBounds i true) a' w) : wpAnyIn F n P .any ops Q (fuel + 1) listed a w := by
  refine wpAnyIn_take hro hi hse hf hr (fun c a w hq => absurd hq (hQ c _ w)) (v := v) ⟨.inl ⟨by simp [Region.wanted, hg], fun w => hrun w _ hs.env⟩, fun w => hab w _⟩ ?_
  rw [hdst]
  exact h _ rfl (hs.put hd v)
theorem raw_last (hF : Free F) {Q : Exit → Act → World → Prop} {N : Nat} {a : Act} {l : List (Nat × Value)} (hs : Sl N a l) {i fuel : Nat} {listed : Array Bool} {o : Oper} {d : Nat} {v : Value} {w w' : World} (hi : ops[i]? = some o)
    (hr : Region.ready .any ops listed = [i]) (hr' : Region.ready .any ops (listed.setIfInBounds i true) = []) (hg : o.guard = none) (hdst : o.dst = some d) (hd : d < N) (hnd : ∀ c, o.op ≠ .defer c)
    (hrun : RunL P l o v w w') (h : ∀ a', a'.defers = a.defers → Sl N a' ((d, v) :: l) → Q .normal a' w') : wpAnyIn F n P .any ops Q (fuel + 1) listed a w := by
  refine wpAnyIn_all hr (by simp) ?_
  intro j hj
  rw [List.mem_singleton] at hj; subst hj
  unfold wpOpIn
  rw [hi]
  simp only [Region.wanted, hg, if_true]
  refine ⟨fun f _ => hF.fn f, ?_⟩
  rw [Oper.semAt_plain F _ _ hnd, hrun _ hs.env]
  have : wpAnyIn F n P .any ops Q fuel (listed.setIfInBounds j true) (a.put o.dst v) w' := by
    rw [hdst]
    exact wpAnyIn_done hr' (h (a.put (some d) v) rfl (hs.put hd v)) _
  exact this
theorem RunL_move {l : List (Nat × Value)} {o : Oper} {x : Operand} {v : Value} (hop : o.op = .move x) (hx : evL l x = some v) (w : World) : RunL P l o v w w := fun ρ hρ => by simp [execOp, hop, hρ _ _ hx]
theorem RunL_assign {l : List (Nat × Value)} {o : Oper} {x : Operand} {v : Value} (hop : o.op = .assign x) (hx : evL l x = some v) (w : World) : RunL P l o v w w := fun ρ hρ => by simp [execOp, hop, hρ _ _ hx]
theorem RunL_len {l : List (Nat × Value)} {o : Oper} {x : Operand} {T e : TypeId} {ao : Option Addr} {m c : Nat} (hT : P.underlying T = some (.slice e)) (hop : o.op = .call { callee := .builtin .len, args := #[x], argTypes := #[T] }) (hx : evL l x = some (.slice ao m c)) (w : World) : RunL P l o (.int .i64 m) w w := fun ρ hρ => by
  simp [execOp, hop, resolve, invoke, builtin, hρ _ _ hx, run_underlying hT, Builtin.len_, Builtin.lenOf, goInt]
theorem RunL_cap {l : List (Nat × Value)} {o : Oper} {x : Operand} {T e : TypeId} {ao : Option Addr} {m c : Nat} (hT : P.underlying T = some (.slice e)) (hop : o.op = .call { callee := .builtin .cap, args := #[x], argTypes := #[T] }) (hx : evL l x = some (.slice ao m c)) (w : World) : RunL P l o (.int .i64 c) w w := fun ρ hρ => by
  simp [execOp, hop, resolve, invoke, builtin, hρ _ _ hx, run_underlying hT, Builtin.cap_, goInt]
theorem RunL_copy {l : List (Nat × Value)} {o : Oper} {x y : Operand} {T T' : TypeId} {v u r : Value} {w w' : World} (hop : o.op = .call { callee := .builtin .copy, args := #[x, y], argTypes := #[T, T'] }) (hx : evL l x = some v) (hy : evL l y = some u)
    (hr : (Builtin.copy_ #[T, T'] o.type #[v, u]).run P w = .ok r w') : RunL P l o r w w' := fun ρ hρ => by
  simp [execOp, hop, resolve, invoke, builtin, hρ _ _ hx, hρ _ _ hy, hr]
theorem RunL_append {l : List (Nat × Value)} {o : Oper} {x y : Operand} {T T' : TypeId} {v u r : Value} {w w' : World} (hop : o.op = .call { callee := .builtin .append, args := #[x, y], argTypes := #[T, T'] }) (hx : evL l x = some v) (hy : evL l y = some u)
    (hr : (Builtin.append_ #[T, T'] o.type #[v, u]).run P w = .ok r w') : RunL P l o r w w' := fun ρ hρ => by
  simp [execOp, hop, resolve, invoke, builtin, hρ _ _ hx, hρ _ _ hy, hr]
theorem RunL_ext {l : List (Nat × Value)} {o : Oper} {x y : Operand} {f : FuncId} {ts : Array TypeId} {v u r : Value} {w w' : World} (hop : o.op = .call { callee := .value (.func f), args := #[x, y], argTypes := ts }) (hx : evL l x = some v) (hy : evL l y = some u)
    (hr : (callFunc f #[v, u]).run P w = .ok (.value r) w') : RunL P l o r w w' := fun ρ hρ => by
  have hf : ρ (.func f) = .func (.func f) #[] #[] := hρ _ _ rfl
  simp [execOp, hop, resolve, Deferred.ofValue, invoke, hρ _ _ hx, hρ _ _ hy, hf, hr]
theorem run_bounds2 (w : World) (n cap : Nat) (vlo vhi : Option Value) (l h : Int) (hlo : (vlo = none ∧ l = 0) ∨ ∃ k, vlo = some (.int k l)) (hhi : (vhi = none ∧ h = n) ∨ ∃ k, vhi = some (.int k h))
    (h0 : 0 ≤ l) (h1 : l ≤ h) (h2 : h ≤ cap) (hn : n ≤ cap) : (Instr.sliceBounds true n cap vlo vhi none).run P w = .ok (l.toNat, h.toNat, cap) w := by
  have hb1 : ∀ k code, (Instr.sliceBound (.int k h) cap code).run P w = .ok h.toNat w := fun k code => run_sliceBound w rfl cap (by omega) (by omega) code
  have hb2 : ∀ k code, (Instr.sliceBound (.int k l) h.toNat code).run P w = .ok l.toNat w := fun k code => run_sliceBound w rfl _ (by omega) (by omega) code
  rcases hlo with ⟨rfl, rfl⟩ | ⟨k, rfl⟩ <;> rcases hhi with ⟨rfl, rfl⟩ | ⟨k', rfl⟩
  · simp [Instr.sliceBounds]
  · simp [Instr.sliceBounds, hb1]
  · simp only [Int.toNat_natCast] at hb2
    simp [Instr.sliceBounds, hb2]
  · simp [Instr.sliceBounds, hb1, hb2]
theorem RunL_lo {l : List (Nat × Value)} {o : Oper} {x y : Operand} {T e k : Nat} {ad : Option Addr} {m c lo : Nat} (hT : P.underlying T = some (.slice e)) (hk : ∀ w, (Go.sizeOf e).run P w = .ok k w) (hop : o.op = .slice T x (some y) none none) (hx : evL l x = some (.slice ad m c)) (hy : evL l y = some (.int .i64 lo)) (hlo : lo ≤ m) (hmc : m ≤ c) (w : World) :
    RunL P l o (.slice (if c = lo then ad else ad.map fun q => q.add (lo * k)) (m - lo) (c - lo)) w w := fun ρ hρ => by
  have hB := run_bounds (P := P) w m c (some (.int .i64 lo)) none lo m (.inr ⟨_, rfl⟩) (.inl ⟨rfl, rfl⟩) (by omega) (by omega) (by omega) hmc
  simp only [execOp, hop, Option.map_none, Option.map_some, hρ _ _ hx, hρ _ _ hy, Instr.sliceAt, Instr.slice, Sem.run_bind, run_underlying hT, Result.andThen_ok, hB, hk, Sem.run_pure]
  simp
theorem RunL_lo' {l : List (Nat × Value)} {o : Oper} {x y : Operand} {T e k : Nat} {g off : Nat} {m c lo : Nat} (hT : P.underlying T = some (.slice e)) (hk : ∀ w, (Go.sizeOf e).run P w = .ok k w) (hop : o.op = .slice T x (some y) none none) (hx : evL l x = some (.slice (some ⟨g, off, none⟩) m c)) (hy : evL l y = some (.int .i64 lo)) (hlo : lo ≤ m) (hmc : m ≤ c) (hne : lo < c) (w : World) :
    RunL P l o (.slice (some ⟨g, off + lo * k, none⟩) (m - lo) (c - lo)) w w := by
  have h := RunL_lo hT hk hop hx hy hlo hmc w
  rw [if_neg (by omega)] at h
  have hadd : (⟨g, off, none⟩ : Addr).add (lo * k) = ⟨g, off + lo * k, none⟩ := by unfold Addr.add; split <;> simp_all
  simpa only [Option.map_some, hadd] using h
theorem RunL_hi {l : List (Nat × Value)} {o : Oper} {x y : Operand} {T e k : Nat} {ad : Addr} {m c hi : Nat} (hT : P.underlying T = some (.slice e)) (hk : ∀ w, (Go.sizeOf e).run P w = .ok k w) (hop : o.op = .slice T x none (some y) none) (hx : evL l x = some (.slice (some ad) m c)) (hy : evL l y = some (.int .i64 hi)) (hlo : hi ≤ c) (hmc : m ≤ c) (h0 : ad.add 0 = ad) (w : World) :
    RunL P l o (.slice (some ad) hi c) w w := fun ρ hρ => by
  have hB := run_bounds2 (P := P) w m c none (some (.int .i64 hi)) 0 hi (.inl ⟨rfl, rfl⟩) (.inr ⟨_, rfl⟩) (by omega) (by omega) (by omega) hmc
  simp only [execOp, hop, Option.map_none, Option.map_some, hρ _ _ hx, hρ _ _ hy, Instr.sliceAt, Instr.slice, Sem.run_bind, run_underlying hT, Result.andThen_ok, hB, hk, Sem.run_pure]
  simp [h0]
theorem wrap_nat {n : Nat} (h : n < 9223372036854775808) : IntKind.i64.wrap (n : Int) = n := by rw [IntKind.wrap_i64]; omega
theorem RunL_int {l : List (Nat × Value)} {o : Oper} {x y : Operand} {op : BinOp} {T T' : TypeId} {a b : Int} {v : Value} (hop : o.op = .binOp op T x y T') (hsh : ¬ (op = .shl ∨ op = .shr)) (hx : evL l x = some (.int .i64 a)) (hy : evL l y = some (.int .i64 b)) (hr : evInt op .i64 a b = some (.cv (.val v))) (w : World) : RunL P l o v w w := fun ρ hρ => by
  obtain ⟨v', h1, _, h3⟩ := evInt_sound (P := P) hr hsh T x y w
  simp only [AV.cv.injEq, CV.val.injEq] at h1
  subst h1
  simp only [execOp, hop, hρ _ _ hx, hρ _ _ hy]
  simp only [Sem.run_bind, Sem.run_map] at h3 ⊢
  simp [h3]
theorem RunL_add {l : List (Nat × Value)} {o : Oper} {x y : Operand} {T T' : TypeId} {a b : Nat} (hop : o.op = .binOp .add T x y T') (hx : evL l x = some (.int .i64 a)) (hy : evL l y = some (.int .i64 b)) (h : a + b < 9223372036854775808) (w : World) : RunL P l o (.int .i64 ((a + b : Nat) : Int)) w w :=
  RunL_int hop (by simp) hx hy (by simp only [evInt]; rw [← Int.natCast_add, wrap_nat h]) w
theorem RunL_sub {l : List (Nat × Value)} {o : Oper} {x y : Operand} {T T' : TypeId} {a b : Nat} (hop : o.op = .binOp .sub T x y T') (hx : evL l x = some (.int .i64 a)) (hy : evL l y = some (.int .i64 b)) (h : a < 9223372036854775808) (hb : b ≤ a) (w : World) : RunL P l o (.int .i64 ((a - b : Nat) : Int)) w w :=
  RunL_int hop (by simp) hx hy (by simp only [evInt]; rw [← Int.natCast_sub hb, wrap_nat (by omega)]) w
theorem RunL_eq {l : List (Nat × Value)} {o : Oper} {x y : Operand} {T T' : TypeId} {a b : Int} (hop : o.op = .binOp .eql T x y T') (hx : evL l x = some (.int .i64 a)) (hy : evL l y = some (.int .i64 b)) (w : World) : RunL P l o (.bool (a == b)) w w :=
  RunL_int hop (by simp) hx hy (by simp only [evInt]) w
theorem RunL_gt {l : List (Nat × Value)} {o : Oper} {x y : Operand} {T T' : TypeId} {a b : Int} (hop : o.op = .binOp .gtr T x y T') (hx : evL l x = some (.int .i64 a)) (hy : evL l y = some (.int .i64 b)) (w : World) : RunL P l o (.bool (decide (a > b))) w w :=
  RunL_int hop (by simp) hx hy (by simp only [evInt]) w
theorem RunL_not {l : List (Nat × Value)} {o : Oper} {x : Operand} {T : TypeId} {b : Bool} (hop : o.op = .unOp .not T x) (hx : evL l x = some (.bool b)) (w : World) : RunL P l o (.bool !b) w w := fun ρ hρ => by
  simp [execOp, hop, hρ _ _ hx, Op.unary]
theorem all_one {e : Env} {w : World} {ks : List Nat} {N : Nat} {a : Act} {l : List (Nat × Value)} (hs : Sl N a l) {d : Nat} {x : AV} {v : Value} (hd : lkv l d = some v) (hx : AV.holds e w ks x v) : AV.all e w ks (mkT N [(d, x)]) a.tmps.toList := by
  have key : ∀ (xs : List AV) (vs : List Value), xs.length = vs.length → (∀ (i : Nat) (h : i < xs.length) (h' : i < vs.length), AV.holds e w ks xs[i] vs[i]) → AV.all e w ks xs vs := by
    intro xs
    induction xs with
    | nil => intro vs hl _; cases vs <;> simp_all [AV.all]
    | cons x xs ih =>
      intro vs hl h
      cases vs with
      | nil => simp at hl
      | cons v vs =>
        simp only [AV.all]
        exact ⟨h 0 (by simp) (by simp), ih vs (by simpa using hl) fun i h1 h2 => h (i + 1) (by simpa using h1) (by simpa using h2)⟩
  refine key _ _ (by simp [mkT, hs.1]) fun i h1 h2 => ?_
  simp only [mkT, List.getElem_map, List.getElem_range, lk]
  split
  · rename_i he
    subst he
    have := hs.2 d v hd
    have h2' : d < a.tmps.size := by simpa using h2
    simp only [Act.eval, Array.getD, h2', dif_pos] at this
    simp only [Array.getElem_toList]
    rw [show a.tmps[d] = v from this]
    exact hx
  · simp [AV.holds]
theorem CallP_body1 {f : FuncId} {fn : Func} {c : Code} {args : List AV} {B : List Box} {V : List Vec} {K : AV → List Box → List Vec → Prop} (hf : P.funcs[f]? = some fn) (hb : fn.body = some c)
    (h : ∀ (F : Fence) (n : Nat), Free F → F.round = none → W F n P c ⟨args ++ List.replicate (fn.ntmps - args.length) .any, B, V⟩ fun ex st' => (ex = .normal ∨ ex = .ret) ∧ ∃ r, resOf P st' fn.results.toList = some r ∧ K r st'.B st'.V) :
    CallP P f args B V K := by
  intro F n hF hro n0 w0 e w vs hm hv hs
  refine callsIn_of_wp hf hb (hF.fn f) ?_ hro
  have hrel : Rel n0 w0 e ⟨args ++ List.replicate (fn.ntmps - args.length) .any, B, V⟩ { tmps := vs ++ Array.replicate (fn.ntmps - vs.size) undef, defers := [] } w := by
    have hl : vs.size = args.length := by have := hv.length; simpa using this
    refine ⟨?_, ?_, hm⟩
    · simp only [Array.toList_append, Array.toList_replicate, hl]
      refine hv.append ?_
      generalize fn.ntmps - args.length = k
      induction k with
      | zero => simp [AV.all]
      | succ k ih => simpa [List.replicate_succ, AV.all, AV.holds] using ih
    · rw [AV.scos_iff] at hs ⊢
      intro y hy
      rcases List.mem_append.1 hy with hy | hy
      · exact hs y hy
      · obtain rfl := List.eq_of_mem_replicate hy
        simp [AV.sco]
  refine h F n hF hro n0 w0 e _ w _ hrel ?_
  rintro ex e' st' a' w' ⟨hex, r, hr, hK⟩ hrel' hdf hx
  obtain ⟨v, a1, a2, a3⟩ := resOf_sound (fn := fn) hrel' hr
  rcases hex with rfl | rfl
  · exact ⟨hdf, v, a1, e', st'.B, st'.V, r, v, rfl, hK, hrel'.mem, hx, a2, a3⟩
  · exact ⟨hdf, v, a1, e', st'.B, st'.V, r, v, rfl, hK, hrel'.mem, hx, a2, a3⟩
theorem ins_lists {α : Type} (C X V : List α) (p k m : Nat) (hV : V.length = k) (hX : X.length = p + m) (hC : C.take (p + m) = X) (hlen : p + k + m ≤ C.length) :
    let C1 := C.take (p + k) ++ X.drop p ++ C.drop (p + k + m)
    let C2 := C1.take p ++ V ++ C1.drop (p + k)
    C2.take (p + k + m) = X.take p ++ V ++ X.drop p ∧ C2.length = C.length := by
  intro C1 C2
  have h1 : C1.take p = X.take p := by
    have : C.take p = X.take p := by rw [← hC, List.take_take]; congr 1; omega
    rw [← this]
    simp only [C1, List.append_assoc]
    rw [List.take_append_of_le_length (by simp; omega), List.take_take]
    congr 1; omega
  have h2 : C1.drop (p + k) = X.drop p ++ C.drop (p + k + m) := by
    simp only [C1, List.append_assoc]
    rw [List.drop_append_of_le_length (by simp; omega)]
    simp
  have h3 : C2 = (X.take p ++ V ++ X.drop p) ++ C.drop (p + k + m) := by simp only [C2, h1, h2, List.append_assoc]
  have hl : (X.take p ++ V ++ X.drop p).length = p + k + m := by simp [hV, hX]; omega
  refine ⟨by rw [h3, ← hl, List.take_left], ?_⟩
  rw [h3, List.length_append, hl, List.length_drop]; omega
theorem ins_lists2 {α : Type} (R X V : List α) (p k m : Nat) (hV : V.length = k) (hX : X.length = p + m) (hR : R.take p = X.take p) (hlen : p + k + m ≤ R.length) :
    let R1 := R.take p ++ V ++ R.drop (p + k)
    let R2 := R1.take (p + k) ++ X.drop p ++ R1.drop (p + k + m)
    R2.take (p + k + m) = X.take p ++ V ++ X.drop p ∧ R2.length = R.length := by
  intro R1 R2
  have hl0 : (R.take p ++ V).length = p + k := by simp [hV]; omega
  have h1 : R1.take (p + k) = X.take p ++ V := by rw [← hR, ← hl0, List.take_left]
  have hl1 : R1.length = R.length := by simp only [R1, List.length_append, hV, List.length_take, List.length_drop]; omega
  have hl : (X.take p ++ V ++ X.drop p).length = p + k + m := by simp [hV, hX]; omega
  have h3 : R2 = (X.take p ++ V ++ X.drop p) ++ R1.drop (p + k + m) := by simp only [R2, h1]
  refine ⟨by rw [h3, ← hl, List.take_left], ?_⟩
  rw [h3, List.length_append, hl, List.length_drop, hl1]; omega
theorem setRowS {w : World} {g : Nat} {cur vs : Array Value} {t : TypeId} {fz : Nat × Nat} (h : w.heap[g]? = some (.cells cur t fz)) : (w.setRow g vs).heap[g]? = some (.cells vs t fz) := by
  simp [World.setRow, Array.getElem?_modify, h]
theorem setRowO {w : World} {g k : Nat} {vs : Array Value} (h : k ≠ g) : (w.setRow g vs).heap[k]? = w.heap[k]? := by
  simp only [World.setRow, Array.getElem?_modify]
  rw [if_neg (by omega)]
theorem setRowZ {w : World} {g : Nat} {vs : Array Value} : (w.setRow g vs).heap.size = w.heap.size := by simp [World.setRow]
theorem cell_at {w : World} {g off j : Nat} {cur : Array Value} {t : TypeId} {fz : Nat × Nat} (h : w.heap[g]? = some (.cells cur t fz)) : w.cell? ((⟨g, off, none⟩ : Addr).add j) = cur[off + j]? := by
  have hadd : (⟨g, off, none⟩ : Addr).add j = ⟨g, off + j, none⟩ := by unfold Addr.add; split <;> simp_all
  rw [hadd]
  simp [World.cell?, h]
end
end Go.Sx
namespace Go.Sx
def upto (a b : Int) : List Int := (List.range (b + 1 - a).toNat).map fun i => a + (i : Nat)
theorem upto_nil {a b : Int} (h : b < a) : upto a b = [] := by
  have : (b + 1 - a).toNat = 0 := by omega
  simp [upto, this]
theorem upto_cons {a b : Int} (h : a ≤ b) : upto a b = a :: upto (a + 1) b := by
  have : (b + 1 - a).toNat = (b + 1 - (a + 1)).toNat + 1 := by omega
  simp only [upto, this, List.range_succ_eq_map, List.map_cons, List.map_map]
  congr 1
  · simp
  · refine List.map_congr_left fun i _ => ?_
    simp only [Function.comp_apply]
    omega
theorem upto_length (a b : Int) : (upto a b).length = (b + 1 - a).toNat := by simp [upto]
theorem mem_upto {a b x : Int} : x ∈ upto a b ↔ a ≤ x ∧ x ≤ b := by
  simp only [upto, List.mem_map, List.mem_range]
  constructor
  · rintro ⟨i, hi, rfl⟩; omega
  · rintro ⟨h1, h2⟩; exact ⟨(x - a).toNat, by omega, by omega⟩
end Go.Sx
namespace Go.Sx
open Go
@[simp] theorem cI_ci (n : Int) : cI (ci n) = n := rfl
@[simp] theorem cB_cb (b : Bool) : cB (cb b) = b := rfl
@[simp] theorem cR_row (k : Nat) (es : List (List CV)) : cR (.row k es) = es := rfl
@[simp] theorem gi_z (n : Int) (l : List CV) : gi (ci n :: l) 0 = n := rfl
@[simp] theorem gi_s (c : CV) (l : List CV) (n : Nat) : gi (c :: l) (n + 1) = gi l n := rfl
@[simp] theorem gb_z (b : Bool) (l : List CV) : gb (cb b :: l) 0 = b := rfl
@[simp] theorem gb_s (c : CV) (l : List CV) (n : Nat) : gb (c :: l) (n + 1) = gb l n := rfl
@[simp] theorem gr_z (k : Nat) (es : List (List CV)) (l : List CV) : gr (.row k es :: l) 0 = es := rfl
@[simp] theorem gr_s (c : CV) (l : List CV) (n : Nat) : gr (c :: l) (n + 1) = gr l n := rfl
@[simp] theorem cis_z (v : List CV) (i : Nat) : cis v i 0 = [] := rfl
@[simp] theorem cis_s (v : List CV) (i n : Nat) : cis v i (n + 1) = ci (gi v i) :: cis v (i + 1) n := rfl
@[simp] theorem cat_z : cat [] = [] := rfl
@[simp] theorem cat_1 (x : List CV) : cat [x] = x := rfl
@[simp] theorem cat_s (x y : List CV) (l : List (List CV)) : cat (x :: y :: l) = x ++ cat (y :: l) := rfl
@[simp] theorem iteB_eq (b : Bool) (x y : Option Ou) : iteB b x y = if b = true then x else y := by cases b <;> rfl
@[simp] theorem chk_true (x : Option Ou) : chk true x = x := rfl
@[simp] theorem callO_val (vs : List CV) (K : List CV → Option Ou) : callO (some vs) K = K vs := rfl
@[simp] theorem inlO_ret (vs : List CV) (K : List CV → Option Ou) : inlO (some (.ret vs)) K = K vs := rfl
@[simp] theorem seqO_nx (vs : List CV) (K : List CV → Option Ou) : seqO (some (.nx vs)) K = K vs := rfl
@[simp] theorem seqO_ret (vs : List CV) (K : List CV → Option Ou) : seqO (some (.ret vs)) K = some (.ret vs) := rfl
@[simp] theorem seqO_br (i : Nat) (vs : List CV) (K : List CV → Option Ou) : seqO (some (.br i vs)) K = some (.br i vs) := rfl
@[simp] theorem blkO_nx (i : Nat) (vs : List CV) (K : List CV → Option Ou) : blkO i (some (.nx vs)) K = some (.nx vs) := rfl
@[simp] theorem blkO_ret (i : Nat) (vs : List CV) (K : List CV → Option Ou) : blkO i (some (.ret vs)) K = some (.ret vs) := rfl
@[simp] theorem blkO_br (i : Nat) (vs : List CV) (K : List CV → Option Ou) : blkO i (some (.br i vs)) K = K vs := by simp [blkO]
@[simp] theorem retO_ret (vs : List CV) : retO (some (.ret vs)) = some vs := rfl
@[simp] theorem eqO_same (a : Option Ou) : eqO a a = a := eqO_self a
theorem nilD_eq {es : List (List CV)} {kt kf : Option Ou} (h : es = [] → kt = kf) : nilD es kt kf = kf := by
  cases es with
  | nil => simp [nilD, h rfl]
  | cons => rfl
@[simp] theorem beq_dec (a b : Int) : (a == b) = decide (a = b) := rfl
@[simp] theorem bne_dec (a b : Int) : (a != b) = !decide (a = b) := rfl
section
variable (c : Prop) [Decidable c]
@[simp] theorem ite_nx (xs ys : List CV) : (if c then some (Ou.nx xs) else some (Ou.nx ys)) = some (Ou.nx (if c then xs else ys)) := by split <;> rfl
@[simp] theorem ite_ret (xs ys : List CV) : (if c then some (Ou.ret xs) else some (Ou.ret ys)) = some (Ou.ret (if c then xs else ys)) := by split <;> rfl
@[simp] theorem ite_br (i : Nat) (xs ys : List CV) : (if c then some (Ou.br i xs) else some (Ou.br i ys)) = some (Ou.br i (if c then xs else ys)) := by split <;> rfl
@[simp] theorem ite_cells (a b : CV) (as bs : List CV) : (if c then a :: as else b :: bs) = (if c then a else b) :: (if c then as else bs) := by split <;> rfl
@[simp] theorem ite_ci (a b : Int) : (if c then ci a else ci b) = ci (if c then a else b) := by split <;> rfl
@[simp] theorem ite_cb (a b : Bool) : (if c then cb a else cb b) = cb (if c then a else b) := by split <;> rfl
@[simp] theorem ite_row (k : Nat) (a b : List (List CV)) : (if c then CV.row k a else CV.row k b) = CV.row k (if c then a else b) := by split <;> rfl
theorem seqO_ite (x y : Option Ou) (K : List CV → Option Ou) : seqO (if c then x else y) K = if c then seqO x K else seqO y K := by split <;> rfl
theorem blkO_ite (i : Nat) (x y : Option Ou) (K : List CV → Option Ou) : blkO i (if c then x else y) K = if c then blkO i x K else blkO i y K := by split <;> rfl
theorem retO_ite (x y : Option Ou) : retO (if c then x else y) = if c then retO x else retO y := by split <;> rfl
end
@[simp] theorem il_map {A B : Type} (f : A → B) (l : List A) : il (l.map f) = l.length := by simp [il]
@[simp] theorem il_ints (l : List Int) : il (l.map fun x => [ci x]) = l.length := il_map _ l
theorem inb_map {A : Type} {f : A → List CV} {l : List A} {i : Nat} (h : i < l.length) : inb (i : Int) (l.map f) = true := by simp [inb, h]
theorem el_map {A : Type} {f : A → List CV} {l : List A} {i : Nat} (h : i < l.length) : el (l.map f) (i : Int) = f l[i] := by simp [el, h]
theorem inb_map0 {A : Type} {f : A → List CV} {l : List A} (h : 0 < l.length) : inb 0 (l.map f) = true := inb_map (i := 0) h
theorem el_map0 {A : Type} {f : A → List CV} {l : List A} (h : 0 < l.length) : el (l.map f) 0 = f l[0] := el_map (i := 0) h
theorem wr_of {x : Int} (h : -9223372036854775808 ≤ x) (h' : x < 9223372036854775808) : wr x = x := by
  simp only [wr, IntKind.wrap_i64]; omega
theorem wr_nat {x : Nat} (h : x < 9223372036854775807) : wr ((x : Int) + 1) = ((x + 1 : Nat) : Int) := by rw [wr_of] <;> omega
theorem wr_pred {x : Nat} (h0 : 0 < x) (h : x < 9223372036854775807) : wr ((x : Int) - 1) = ((x - 1 : Nat) : Int) := by rw [wr_of] <;> omega
theorem fitA_of {n k by_ : Nat} (h : (n + k) * by_ ≤ 140737488355328) (h' : n + k ≤ 9223372036854775807) : fitA n k by_ = true := by
  have e : maxLen = 9223372036854775807 := by decide
  simp [fitA, h, e, h']
@[simp] theorem chunk_z (k : Nat) (l : List CV) : chunk k 0 l = [] := rfl
@[simp] theorem chunk_s (k n : Nat) (l : List CV) : chunk k (n + 1) l = l.take k :: chunk k n (l.drop k) := rfl
@[simp] theorem oks_z (cs : List CV) (o : Nat) : oks [] cs o = true := rfl
@[simp] theorem ok_ci (n : Int) : Lf.ok li (ci n) = true := rfl
@[simp] theorem ok_cb (b : Bool) : Lf.ok lb (cb b) = true := rfl
@[simp] theorem oks_succ (ls : List Lf) (c : CV) (cs : List CV) (o : Nat) : oks ls (c :: cs) (o + 1) = oks ls cs o := by
  induction ls generalizing o with
  | nil => rfl
  | cons l ls ih => simp only [oks, List.getElem?_cons_succ, ih]
@[simp] theorem oks_cons0 (l : Lf) (ls : List Lf) (c : CV) (cs : List CV) : oks (l :: ls) (c :: cs) 0 = (l.ok c && oks ls cs 0) := by
  simp only [oks, List.getElem?_cons_zero, oks_succ ls c cs 0]
def intsFrom (cs : List CV) : Bool := cs.all fun c => Lf.ok (.int .i64) c
theorem oks_ints {cs : List CV} : ∀ {n o : Nat}, intsFrom cs = true → o + n ≤ cs.length → oks (List.replicate n li) cs o = true
  | 0, o, _, _ => by simp
  | n + 1, o, h, hn => by
    have ho : o < cs.length := by omega
    have h1 : Lf.ok (.int .i64) cs[o] = true := List.all_eq_true.1 h _ (List.getElem_mem ho)
    simp only [List.replicate_succ, oks, List.getElem?_eq_getElem ho, h1, Bool.true_and]
    exact oks_ints h (by omega)
theorem oks_int1 {cs : List CV} {o : Nat} (h : intsFrom cs = true) (hn : o < cs.length) : oks [li] cs o = true := oks_ints (n := 1) h hn
theorem loop_eq {step : List CV → Option Ou} {vs vs' : List CV} (h : step vs = some (.nx vs')) : loopD step vs = loopD step vs' := by rw [loopD_eq, h]
theorem loop_end {step : List CV → Option Ou} {vs : List CV} {r : Option Ou} (h : step vs = r) (hr : ∀ l, r ≠ some (.nx l)) : loopD step vs = r := by
  rw [loopD_eq, h]
  match r, hr with
  | none, _ => rfl
  | some (.nx l), hr => exact absurd rfl (hr l)
  | some (.br _ _), _ => rfl
  | some (.ret _), _ => rfl
theorem loop_to {step : List CV → Option Ou} (T : Nat → List CV) : ∀ (n : Nat), (∀ i, i < n → step (T i) = some (.nx (T (i + 1)))) → loopD step (T 0) = loopD step (T n)
  | 0, _ => rfl
  | n + 1, h => by rw [loop_to T n fun i hi => h i (by omega)]; exact loop_eq (h n (by omega))
theorem loop_foldP {A S : Type} {step : List CV → Option Ou} (l : List A) (E : Nat → S → List CV) (f : S → A → S) (P : S → Prop) (b : Nat) (G : S → List CV) (s : S) {vs : List CV} (hv : vs = E 0 s) (h0 : P s)
    (hs : ∀ i (h : i < l.length) s, P s → step (E i s) = some (.nx (E (i + 1) (f s l[i]))) ∧ P (f s l[i])) (he : ∀ s, step (E l.length s) = some (.br b (G s))) :
    loopD step vs = some (.br b (G (l.foldl f s))) ∧ P (l.foldl f s) := by
  subst hv
  have key : ∀ n, n ≤ l.length → loopD step (E 0 s) = loopD step (E n ((l.take n).foldl f s)) ∧ P ((l.take n).foldl f s) := by
    intro n
    induction n with
    | zero => intro _; exact ⟨by simp, by simpa using h0⟩
    | succ n ih =>
      intro hn
      obtain ⟨h1, h2⟩ := ih (by omega)
      obtain ⟨h3, h4⟩ := hs n (by omega) _ h2
      have e : (l.take (n + 1)).foldl f s = f ((l.take n).foldl f s) l[n] := by
        rw [← List.take_append_getElem (show n < l.length by omega), List.foldl_append]; rfl
      rw [e]
      exact ⟨h1.trans (loop_eq h3), h4⟩
  obtain ⟨h1, h2⟩ := key l.length (Nat.le_refl _)
  rw [List.take_length] at h1 h2
  exact ⟨h1.trans (loop_end (he _) (by simp)), h2⟩
theorem loop_foldl {A S : Type} {step : List CV → Option Ou} (l : List A) (E : Nat → S → List CV) (f : S → A → S) (b : Nat) (G : S → List CV) (s : S) {vs : List CV} (hv : vs = E 0 s)
    (hs : ∀ i (h : i < l.length) s, step (E i s) = some (.nx (E (i + 1) (f s l[i])))) (he : ∀ s, step (E l.length s) = some (.br b (G s))) :
    loopD step vs = some (.br b (G (l.foldl f s))) :=
  (loop_foldP l E f (fun _ => True) b G s hv trivial (fun i h s _ => ⟨hs i h s, trivial⟩) he).1
theorem loop_find {step : List CV → Option Ou} (n : Nat) (T : Nat → List CV) (p : Nat → Bool) (R : Nat → Option Ou) (X : Option Ou) {vs : List CV} (hv : vs = T 0) (hR : ∀ i, i < n → p i = true → ∀ l, R i ≠ some (.nx l)) (hX : ∀ l, X ≠ some (.nx l))
    (h1 : ∀ i, i < n → p i = false → step (T i) = some (.nx (T (i + 1)))) (h2 : ∀ i, i < n → p i = true → step (T i) = R i) (h3 : step (T n) = X) :
    loopD step vs = match (List.range n).find? p with
      | some i => R i
      | none => X := by
  subst hv
  cases hf : (List.range n).find? p with
  | none =>
    rw [List.find?_eq_none] at hf
    rw [loop_to T n fun i hi => h1 i hi (by simpa using hf i (by simpa using hi))]
    exact loop_end h3 hX
  | some i =>
    rw [List.find?_range_eq_some] at hf
    obtain ⟨hp, hi, hq⟩ := hf
    have hi' : i < n := by simpa using hi
    rw [loop_to T i fun j hj => h1 j (by omega) (by simpa using hq j hj)]
    exact loop_end (h2 i hi' hp) (hR i hi' hp)
theorem loop_findL {A : Type} {step : List CV → Option Ou} (p : A → Bool) (R : A → Option Ou) (X : Option Ou) : ∀ (m : List A) (T : Nat → List CV) {vs : List CV}, vs = T 0 → (∀ x l, p x = true → R x ≠ some (.nx l)) → (∀ l, X ≠ some (.nx l)) →
    (∀ i (h : i < m.length), p m[i] = false → step (T i) = some (.nx (T (i + 1)))) → (∀ i (h : i < m.length), p m[i] = true → step (T i) = R m[i]) → step (T m.length) = X →
    loopD step vs = match m.find? p with
      | some x => R x
      | none => X
  | [], T, vs, hv, hR, hX, h1, h2, h3 => by subst hv; exact loop_end h3 hX
  | a :: m, T, vs, hv, hR, hX, h1, h2, h3 => by
    subst hv
    cases hp : p a with
    | true => rw [List.find?_cons_of_pos hp]; exact loop_end (h2 0 (by simp) hp) fun l => hR a l hp
    | false =>
      rw [List.find?_cons_of_neg (by simp [hp]), loop_eq (h1 0 (by simp) hp)]
      exact loop_findL p R X m (fun i => T (i + 1)) rfl hR hX (fun i h hq => h1 (i + 1) (by simpa using h) hq) (fun i h hq => h2 (i + 1) (by simpa using h) hq) h3
theorem del_loop {A : Type} (k : Nat) (cv : A → List CV) (keep : A → Bool) (l : List A) {step : List CV → Option Ou} (b : Nat)
    (h1 : ∀ (i j : Nat) (as : List A) (hj : j < as.length), i < j → as.length = l.length → as[j] ∈ l → step [ci i, ci j, .row k (as.map cv)] = some (.nx (if keep as[j] = true then [ci (i + 1 : Nat), ci (j + 1 : Nat), .row k ((as.set i as[j]).map cv)] else [ci i, ci (j + 1 : Nat), .row k (as.map cv)])))
    (h2 : ∀ (i : Nat) (as : List A), as.length = l.length → step [ci i, ci as.length, .row k (as.map cv)] = some (.br b [ci i, .row k (as.map cv)])) :
    ∀ (m i j : Nat) (as : List A), j + m = l.length → i < j → as.length = l.length → as.take i = (l.take j).filter keep → as.drop j = l.drop j →
    ∃ (as' : List A) (i' : Nat), loopD step [ci i, ci j, .row k (as.map cv)] = some (.br b [ci i', .row k (as'.map cv)]) ∧ as'.length = l.length ∧ as'.take i' = l.filter keep ∧ i' ≤ l.length
  | 0, i, j, as, hm, hij, hl, ht, hd => by
    have hj : j = as.length := by omega
    refine ⟨as, i, ?_, hl, ?_, by omega⟩
    · rw [hj]; exact loop_end (h2 i as hl) (by simp)
    · rw [ht, hj, hl, List.take_length]
  | m + 1, i, j, as, hm, hij, hl, ht, hd => by
    have hj : j < as.length := by omega
    have hjl : j < l.length := by omega
    have he : as[j] = l[j] := by
      have h3 := congrArg (fun x => x[0]?) hd
      simpa [List.getElem?_drop, hj, hjl] using h3
    have hdj : as.drop (j + 1) = l.drop (j + 1) := by
      have h3 := congrArg (List.drop 1) hd
      simpa [List.drop_drop, Nat.add_comm] using h3
    have htj : l.take (j + 1) = l.take j ++ [l[j]] := (List.take_append_getElem hjl).symm
    rw [loop_eq (h1 i j as hj hij hl (he ▸ List.getElem_mem hjl))]
    cases hk : keep as[j] with
    | true =>
      simp only [if_true]
      refine del_loop k cv keep l b h1 h2 m (i + 1) (j + 1) _ (by omega) (by omega) (by simpa using hl) ?_ ?_
      · have hi : i < (as.set i as[j]).length := by simp; omega
        rw [htj, List.filter_append, ← ht, ← he, ← List.take_append_getElem hi, List.take_set_of_le (Nat.le_refl _)]
        simp [hk]
      · rw [List.drop_set_of_lt (by omega)]; exact hdj
    | false =>
      simp only [Bool.false_eq_true, if_false]
      refine del_loop k cv keep l b h1 h2 m i (j + 1) _ (by omega) (by omega) hl ?_ hdj
      rw [htj, List.filter_append, ← ht, ← he]
      simp [hk]
theorem clone_row {A : Type} (k by_ : Nat) (cv : A → List CV) (l : List A) (h : l.length * by_ ≤ 140737488355328) (h' : l.length ≤ 9223372036854775807) :
    nilD (l.map cv) (some (.ret [.row k []])) (chk (fitA 0 (l.map cv).length by_) (some (.ret [.row k (l.map cv)]))) = some (.ret [.row k (l.map cv)]) := by
  have hf : fitA 0 (l.map cv).length by_ = true := fitA_of (by simpa using h) (by simpa using h')
  rw [nilD_eq, hf, chk_true]
  intro he; rw [hf, chk_true, he]
theorem loop_idx {A : Type} {step : List CV → Option Ou} (p : A → Bool) : ∀ (m : List A) (R : Nat → Option Ou) (X : Option Ou) (T : Nat → List CV) {vs : List CV}, vs = T 0 → (∀ i l, R i ≠ some (.nx l)) → (∀ l, X ≠ some (.nx l)) →
    (∀ i (h : i < m.length), p m[i] = false → step (T i) = some (.nx (T (i + 1)))) → (∀ i (h : i < m.length), p m[i] = true → step (T i) = R i) → step (T m.length) = X →
    loopD step vs = match m.findIdx? p with
      | some i => R i
      | none => X
  | [], R, X, T, vs, hv, hR, hX, h1, h2, h3 => by subst hv; exact loop_end h3 hX
  | a :: m, R, X, T, vs, hv, hR, hX, h1, h2, h3 => by
    subst hv
    rw [List.findIdx?_cons]
    cases hp : p a with
    | true => simp only [if_true]; exact loop_end (h2 0 (by simp) hp) fun l => hR 0 l
    | false =>
      rw [loop_eq (h1 0 (by simp) hp), loop_idx p m (fun i => R (i + 1)) X (fun i => T (i + 1)) rfl (fun i l => hR (i + 1) l) hX (fun i h hq => h1 (i + 1) (by simpa using h) hq) (fun i h hq => h2 (i + 1) (by simpa using h) hq) h3]
      simp only [Bool.false_eq_true, if_false]
      cases m.findIdx? p <;> rfl
noncomputable def delStep (call : List CV → Option (List CV)) (k : Nat) : List CV → Option Ou := fun v2 =>
            iteB (decide ((gi v2 1) < (il (gr v2 2))))
              (chk (inb (gi v2 1) (gr v2 2)) <|
              chk (decide ((Int.toNat (gi v2 1)) < (List.length (gr v2 2)))) <|
              chk (oks (List.replicate k li) (el (gr v2 2) (gi v2 1)) 0) <|
              callO (call (cis (el (gr v2 2) (gi v2 1)) 0 k)) fun v3 =>
              seqO (iteB (!(gb v3 0))
                  (chk (inb (gi v2 0) (gr v2 2)) <|
                  chk ((decide ((Int.toNat (gi v2 0)) < (List.length (gr v2 2)))) && (decide (k ≤ k))) <|
                  some (.nx [ci (wr ((gi v2 0) + 1)), CV.row k (List.set (gr v2 2) (Int.toNat (gi v2 0)) (spl (el (gr v2 2) (gi v2 0)) 0 (cis (el (gr v2 2) (gi v2 1)) 0 k)))]))
                  (some (.nx [ci (gi v2 0), CV.row k (gr v2 2)]))) fun v4 =>
              some (.nx [ci (gi v4 0), ci (wr ((gi v2 1) + 1)), CV.row k (gr v4 1)]))
              (some (.br 0 [ci (gi v2 0), CV.row k (gr v2 2)]))
noncomputable def delX (ix : Option (List CV)) (call : List CV → Option (List CV)) (k : Nat) (z : List CV) (es : List (List CV)) : Option Ou :=
  callO ix fun v1 =>
      iteB ((gi v1 0) == (-1))
        (some (.ret [CV.row k es]))
        (blkO 0 (loopD (delStep call k) [ci (gi v1 0), ci (wr ((gi v1 0) + 1)), CV.row k es]) fun v2 =>
        chk ((decide (0 ≤ (gi v2 0))) && (decide ((gi v2 0) ≤ (il (gr v2 1))))) <|
        chk ((decide (0 ≤ (gi v2 0))) && (decide ((gi v2 0) ≤ (il ((List.take (Int.toNat (gi v2 0)) (gr v2 1)) ++ (List.replicate ((List.length (gr v2 1)) - (Int.toNat (gi v2 0))) z)))))) <|
        some (.ret ([CV.row k (List.take (Int.toNat (gi v2 0)) ((List.take (Int.toNat (gi v2 0)) (gr v2 1)) ++ (List.replicate ((List.length (gr v2 1)) - (Int.toNat (gi v2 0))) z)))])))
def idxI (o : Option Nat) : Int := match o with
  | some i => i
  | none => -1
theorem del_row {A : Type} (k : Nat) (cv : A → List CV) (z : List CV) (hk : ∀ a, (cv a).length = k) (hoks : ∀ a, oks (List.replicate k li) (cv a) 0 = true) (hcis : ∀ a, cis (cv a) 0 k = cv a) (del : A → Bool) (l : List A) (hl : l.length < 9223372036854775807)
    {ix : Option (List CV)} {call : List CV → Option (List CV)} (hix : ix = some [ci (idxI (l.findIdx? del))]) (hc : ∀ a ∈ l, call (cv a) = some [cb (del a)]) :
    delX ix call k z (l.map cv) = some (.ret [.row k ((l.filter fun a => !del a).map cv)]) := by
  subst hix
  simp only [delX, callO_val, gi_z]
  cases hf : l.findIdx? del with
  | none =>
    rw [List.findIdx?_eq_none_iff] at hf
    have : l.filter (fun a => !del a) = l := List.filter_eq_self.2 fun a ha => by simp [hf a ha]
    simp [idxI, this]
  | some i0 =>
    obtain ⟨hi, hd, hb⟩ := List.findIdx?_eq_some_iff_getElem.1 hf
    have hw := wr_nat (show i0 < 9223372036854775807 by omega)
    simp only [idxI, beq_dec, show ¬ ((i0 : Int) = -1) by omega, decide_false, iteB_eq, Bool.false_eq_true, if_false, hw]
    have hpre : l.take i0 = (l.take (i0 + 1)).filter fun a => !del a := by
      rw [← List.take_append_getElem hi, List.filter_append]
      have h1 : (l.take i0).filter (fun a => !del a) = l.take i0 := List.filter_eq_self.2 fun a ha => by
        obtain ⟨j, hj, rfl⟩ := List.mem_iff_getElem.1 ha
        rw [List.length_take] at hj
        have := hb j (by omega)
        simpa using this
      rw [h1]; simp [hd]
    obtain ⟨as, i', h1, h2, h3, h4⟩ := del_loop (step := delStep call k) k cv (fun a => !del a) l 0 (fun i j as hj hij hl' hm => by
        have hi : i < as.length := by omega
        have hwi := wr_nat (show i < 9223372036854775807 by omega)
        have hwj := wr_nat (show j < 9223372036854775807 by omega)
        have hsp : spl (cv as[i]) 0 (cv as[j]) = cv as[j] := by simp [spl, hk]
        have hjj : (j : Int) < as.length := by omega
        have hin := inb_map (f := cv) hj
        have hin' := inb_map (f := cv) hi
        have hel := el_map (f := cv) hj
        have hel' := el_map (f := cv) hi
        simp only [delStep, gi_z, gi_s, gr_z, gr_s, il_map, hjj, decide_true, iteB_eq, if_true, hin, hin', hel, hel', hoks, hcis, hc _ hm, chk_true, callO_val, gb_z, Int.toNat_natCast, List.length_map, hj, hi, Nat.le_refl, Bool.and_self, hwi, hwj, hsp]
        cases del as[j] <;> simp [List.map_set]) (fun i as hl' => by
        simp only [delStep, gi_z, gi_s, gr_z, gr_s, il_map, Int.lt_irrefl, decide_false, iteB_eq, Bool.false_eq_true, if_false]) (l.length - (i0 + 1)) i0 (i0 + 1) l (by omega) (by omega) rfl hpre rfl
    simp only [h1, blkO_br, gi_z, gr_z, gr_s, il_map, Int.toNat_natCast]
    have e1 : (i' : Int) ≤ as.length := by omega
    have e2 : ((List.take i' (as.map cv)) ++ List.replicate ((as.map cv).length - i') z).length = as.length := by simp; omega
    simp only [il, e2, Int.natCast_nonneg, e1, decide_true, Bool.and_self, chk_true, Int.ofNat_eq_natCast]
    have e3 : List.take i' ((List.take i' (as.map cv)) ++ List.replicate ((as.map cv).length - i') z) = ((l.filter fun a => !del a).map cv) := by
      rw [List.take_append_of_le_length (by simp; omega), List.take_take, Nat.min_self, ← List.map_take, h3]
    rw [e3]
theorem loop_ix {step : List CV → Option Ou} (n : Nat) (T : Nat → List CV) (r : Option Ou) {vs : List CV} (hv : vs = T 0) (hs : ∀ i, i < n → step (T i) = some (.nx (T (i + 1)))) (he : step (T n) = r) (hr : ∀ l, r ≠ some (.nx l)) : loopD step vs = r := by
  subst hv
  rw [loop_to T n hs]
  exact loop_end he hr
theorem take_succ {A : Type} {l : List A} {i : Nat} (h : i < l.length) : l.take (i + 1) = l.take i ++ [l[i]] := (List.take_append_getElem h).symm
theorem snoc_ind {A : Type} {P : List A → Prop} (h0 : P []) (h1 : ∀ l a, P l → P (l ++ [a])) : ∀ l, P l := by
  intro l
  have key : ∀ (m : List A), P m.reverse := by
    intro m
    induction m with
    | nil => exact h0
    | cons a m ih => rw [List.reverse_cons]; exact h1 _ _ ih
  have := key l.reverse
  rwa [List.reverse_reverse] at this
theorem range_total {S : Type} {step : Int → List CV → Option Ou} (E : S → List CV) (hs : ∀ x s, (∃ s', step x (E s) = some (.nx (E s'))) ∨ ∃ r, step x (E s) = some r ∧ ∀ l, r ≠ .nx l) : ∀ (l : List Int) (s : S), rangeL step l (E s) ≠ none
  | [], s => by simp [rangeL]
  | x :: l, s => by
    rcases hs x s with ⟨s', h⟩ | ⟨r, h, hr⟩
    · simp only [rangeL, h]; exact range_total E hs l s'
    · simp only [rangeL, h]
      cases r with
      | nx l => exact absurd rfl (hr l)
      | _ => simp
theorem rangeO_of {xs : List Int} {step : Int → List CV → Option Ou} {vs : List CV} (h : ∀ l, rangeL step l vs ≠ none) : rangeO (some xs) step vs = rangeL step xs vs := by
  simp only [rangeO]; rw [if_pos h]
theorem rangeL_fold {S : Type} {step : Int → List CV → Option Ou} (E : S → List CV) (f : S → Int → S) (hs : ∀ x s, step x (E s) = some (.nx (E (f s x)))) : ∀ (xs : List Int) (s : S), rangeL step xs (E s) = some (.nx (E (xs.foldl f s)))
  | [], s => rfl
  | x :: xs, s => by simp only [rangeL, hs, List.foldl_cons]; exact rangeL_fold E f hs xs _
theorem range_fold {S : Type} {step : Int → List CV → Option Ou} (E : S → List CV) (f : S → Int → S) (s : S) {xs : List Int} {vs : List CV} (hv : vs = E s) (hs : ∀ x s, step x (E s) = some (.nx (E (f s x)))) : rangeO (some xs) step vs = some (.nx (E (xs.foldl f s))) := by
  subst hv
  rw [rangeO_of (range_total E (fun x s => .inl ⟨_, hs x s⟩) · s), rangeL_fold E f hs]
theorem seq_or (c d : Bool) (K : List CV → Option Ou) : seqO (iteB c (some (.nx [cb true])) (some (.nx [cb d]))) K = K [cb (c || d)] := by cases c <;> rfl
theorem seq_and (c d : Bool) (K : List CV → Option Ou) : seqO (iteB c (some (.nx [cb d])) (some (.nx [cb false]))) K = K [cb (c && d)] := by cases c <;> rfl
theorem seq_if (c : Bool) (x y : List CV) (K : List CV → Option Ou) : seqO (iteB c (some (.nx x)) (some (.nx y))) K = K (if c = true then x else y) := by cases c <;> rfl
theorem loop_all {step : List CV → Option Ou} (n : Nat) (s0 : Bool) (p : Nat → Bool) (b : Nat) {vs : List CV} (hv : vs = [cb s0, ci 0]) (hs : s0 = true → ∀ i, i < n → step [cb true, ci (i : Int)] = some (.nx [cb (p i), ci ((i + 1 : Nat) : Int)]))
    (hf : ∀ i : Nat, step [cb false, ci (i : Int)] = some (.br b [cb false])) (he : s0 = true → step [cb true, ci (n : Int)] = some (.br b [cb true])) : loopD step vs = some (.br b [cb (s0 && (List.range n).all p)]) := by
  subst hv
  cases s0 with
  | false => exact loop_end (hf 0) (by simp)
  | true =>
    have key : ∀ m i, i + m = n → loopD step [cb true, ci (i : Int)] = some (.br b [cb ((List.range' i m).all p)]) := by
      intro m
      induction m with
      | zero => intro i h; have : i = n := by omega
                subst this; exact loop_end (he rfl) (by simp)
      | succ m ih =>
        intro i h
        rw [loop_eq (hs rfl i (by omega)), List.range'_succ]
        cases hp : p i with
        | true => rw [ih (i + 1) (by omega)]; simp [hp]
        | false => rw [loop_end (hf (i + 1)) (by simp)]; simp [hp]
    have h := key n 0 (by omega)
    rw [List.range_eq_range']
    exact h
def sameL {A : Type} (eq : A → A → Bool) : List A → List A → Bool
  | [], [] => true
  | x :: a, y :: b => eq x y && sameL eq a b
  | _, _ => false
def atB {A : Type} (eq : A → A → Bool) (a b : List A) (i : Nat) : Bool := match a[i]?, b[i]? with
  | some x, some y => eq x y
  | _, _ => false
theorem sameL_all {A : Type} (eq : A → A → Bool) : ∀ (a b : List A), sameL eq a b = (decide (a.length = b.length) && (List.range a.length).all (atB eq a b))
  | [], [] => by simp [sameL]
  | [], _ :: _ => by simp [sameL]
  | _ :: _, [] => by simp [sameL]
  | x :: a, y :: b => by
    have e : ((List.range (a.length + 1)).all (atB eq (x :: a) (y :: b))) = (eq x y && (List.range a.length).all (atB eq a b)) := by
      rw [List.range_succ_eq_map, List.all_cons, List.all_map]; rfl
    simp only [sameL, sameL_all eq a b, List.length_cons, Nat.add_right_cancel_iff, e]
    cases eq x y <;> simp
theorem sameL_refl {A : Type} (eq : A → A → Bool) (h : ∀ x, eq x x = true) : ∀ (a : List A), sameL eq a a = true
  | [] => rfl
  | x :: a => by simp [sameL, h, sameL_refl eq h a]
end Go.Sx
namespace Go.Fine
open Go.Sx
structure Tariff where
  frm : Int
  (h0 h1 h2 h3 h4 h5 h6 h7 h8 h9 : Int)
  (d0 d1 d2 d3 d4 d5 d6 d7 d8 d9 : Int)
  (feed hay drv : Int)
structure Held where
  (src beast sort eats worth drv day known til : Int)
structure Note where
  (src stay kind owner day known til : Int)
structure Acc where
  ts : List Tariff
  ss : List Held
  ns : List Note
structure Lot where
  (owner stop fin day : Int)
structure Charge where
  (head feed fine : Int)
structure Due where
  (payer hay drv lord : Int)
structure Post where
  (day stay frm to amt : Int)
def Tariff.cv (t : Tariff) : List CV := [ci t.frm, ci t.h0, ci t.h1, ci t.h2, ci t.h3, ci t.h4, ci t.h5, ci t.h6, ci t.h7, ci t.h8, ci t.h9, ci t.d0, ci t.d1, ci t.d2, ci t.d3, ci t.d4, ci t.d5, ci t.d6, ci t.d7, ci t.d8, ci t.d9, ci t.feed, ci t.hay, ci t.drv]
def Held.cv (s : Held) : List CV := [ci s.src, ci s.beast, ci s.sort, ci s.eats, ci s.worth, ci s.drv, ci s.day, ci s.known, ci s.til]
def Note.cv (n : Note) : List CV := [ci n.src, ci n.stay, ci n.kind, ci n.owner, ci n.day, ci n.known, ci n.til]
def Post.cv (x : Post) : List CV := [ci x.day, ci x.stay, ci x.frm, ci x.to, ci x.amt]
def tz : Tariff := ⟨0, 0, 0, 0, 0, 0, 0, 0, 0, 0, 0, 0, 0, 0, 0, 0, 0, 0, 0, 0, 0, 0, 0, 0⟩
def hz : Held := ⟨0, 0, 0, 0, 0, 0, 0, 0, 0⟩
def ints (l : List Int) : List (List CV) := l.map fun x => [ci x]
def within (n lo hi : Int) : Bool := decide (lo ≤ n) && decide (n ≤ hi)
def isDay (n : Int) : Bool := within n 0 100000
def rowOk (l : List Int) : Bool := (l.headD 1 == 0) && l.all fun n => within n 0 10000
def Tariff.hs (t : Tariff) : List Int := [t.h0, t.h1, t.h2, t.h3, t.h4, t.h5, t.h6, t.h7, t.h8, t.h9]
def Tariff.ds (t : Tariff) : List Int := [t.d0, t.d1, t.d2, t.d3, t.d4, t.d5, t.d6, t.d7, t.d8, t.d9]
def Tariff.ok (t : Tariff) : Bool := isDay t.frm && rowOk t.hs && rowOk t.ds && within t.feed 0 10000 && within t.hay 0 60 && within t.drv 0 60 && decide (t.hay + t.drv ≤ 60)
def areTimes (day known til : Int) : Bool := isDay day && isDay known && (til == 0 || decide (known < til) && decide (til ≤ 100000))
def Held.ok (s : Held) : Bool := within s.src 1 99999 && within s.beast 1 9999 && within s.sort 1 9 && within s.eats 0 100 && within s.worth 0 100000 && within s.drv 0 99 && areTimes s.day s.known s.til
def Note.ok (n : Note) : Bool := (n.kind == 2 && n.owner == 0 || (n.kind == 1 || n.kind == 3) && within n.owner 1 99) && within n.src 1 99999 && within n.stay 1 99999 && areTimes n.day n.known n.til
def rising : List Int → Bool
  | [] => true
  | x :: l => (match l with | [] => true | y :: _ => decide (x < y)) && rising l
def listOk {A : Type} (ok : A → Bool) (num : A → Int) (most : Nat) (l : List A) : Bool := l.all ok && rising (l.map num) && decide (l.length ≤ most)
def Acc.ok (p : Acc) : Bool := listOk Tariff.ok Tariff.frm 8 p.ts && listOk Held.ok Held.src 60 p.ss && listOk Note.ok Note.src 60 p.ns
def Acc.fits (p : Acc) : Prop := p.ts.length < 100000000000000 ∧ p.ss.length < 100000000000000 ∧ p.ns.length < 100000000000000
def check (p : Acc) : Int := if p.ok then 0 else 63
def asked (p : Acc) (known : Int) : Int := if p.ok then (if isDay known then 0 else 6) else 63
def inF (p : Acc) (d : Int) : Option Tariff := (p.ts.filter fun t => decide (t.frm ≤ d)).getLast?
def inForce (p : Acc) (d : Int) : Tariff := (inF p d).getD tz
def counts (since til known : Int) : Bool := decide (since ≤ known) && (til == 0 || decide (til > known))
def stays (p : Acc) (known : Int) : List Held := p.ss.filter fun s => counts s.known s.til known
def notes (p : Acc) (s : Held) (known : Int) : List Note := p.ns.filter fun n => counts n.known n.til known && n.stay == s.src && within n.day s.day known
def stayOf (p : Acc) (stay known : Int) : Held × Int :=
  if asked p known = 0 then (match (stays p known).find? fun s => s.src == stay with | some s => (s, 0) | none => (hz, 65)) else (hz, asked p known)
def daily (p : Acc) (s : Held) (d : Int) : Int := (s.eats * (inForce p d).feed).tdiv 10
def soldL (p : Acc) (s : Held) : Int → List Int → Int
  | _, [] => -1
  | sum, d :: r => if sum + daily p s d ≥ s.worth then d else soldL p s (sum + daily p s d) r
def sold (p : Acc) (s : Held) (known : Int) : Int := if s.worth = 0 then -1 else soldL p s 0 (upto s.day (min known (s.day + 720)))
def least (k : Int) (l : List Note) : Int := l.foldl (fun d n => if n.kind = k ∧ (d < 0 ∨ n.day < d) then n.day else d) (-1)
def stopOf (l : List Note) : Int := if least 1 l < 0 ∨ 0 ≤ least 3 l ∧ least 3 l < least 1 l then least 3 l else least 1 l
def judged (l : List Note) : Int × Int := l.foldl (fun b n => if n.kind = 3 ∧ b.1 ≤ n.known then (n.known, n.owner) else b) (-1, 0)
def claimer (l : List Note) : Int := ((l.find? fun n => n.kind == 1 && n.day == least 1 l).map Note.owner).getD 0
def ownerOf (l : List Note) : Int := if 0 < (judged l).2 then (judged l).2 else claimer l
def lotStep (known : Int) (x : Int × Int) (e : Int × Int) : Int × Int := if 0 ≤ e.2 ∧ e.2 ≤ known ∧ (x.2 < 0 ∨ e.2 < x.2) then e else x
def forfeit (s : Held) (l : List Note) : Int := if stopOf l < 0 ∨ stopOf l > s.day + 360 then s.day + 361 else -1
def ends (p : Acc) (s : Held) (known : Int) : List (Int × Int) := [(1, least 2 (notes p s known)), (2, sold p s known), (3, forfeit s (notes p s known)), (4, s.day + 720)]
def lot (p : Acc) (s : Held) (known : Int) : Lot :=
  let e := (ends p s known).foldl (lotStep known) (0, -1)
  ⟨ownerOf (notes p s known), stopOf (notes p s known), e.1, e.2⟩
def lastDay (x : Lot) (known : Int) : Int := if x.fin = 2 then x.day else if x.fin = 0 then known else x.day - 1
def fedDays (s : Held) (x : Lot) (known : Int) : List Int := upto s.day (lastDay x known)
def headOf (t : Tariff) (sort : Int) : Int := gi t.cv (1 + sort.toNat * 1)
def dailyOf (t : Tariff) (sort : Int) : Int := gi t.cv (11 + sort.toNat * 1)
def sumOf (f : Int → Int) (l : List Int) : Int := l.foldl (fun a d => a + f d) 0
def fineOf (p : Acc) (s : Held) (x : Lot) (d : Int) : Int := if x.stop < 0 ∨ d < x.stop then dailyOf (inForce p d) s.sort else 0
def charge (p : Acc) (s : Held) (x : Lot) (known : Int) : Charge :=
  ⟨if s.day ≤ known then headOf (inForce p s.day) s.sort else 0, sumOf (daily p s) (fedDays s x known), sumOf (fineOf p s x) (fedDays s x known)⟩
def Charge.sum (c : Charge) : Int := c.head + c.feed + c.fine
def payer (s : Held) (x : Lot) (c : Charge) : Int × Int := if x.fin = 2 then (2, s.worth) else if x.fin = 3 ∨ x.owner = 0 then (-1, 0) else (2 + x.owner, c.sum)
def shares (t : Tariff) (s : Held) (y : Int × Int) : Due :=
  let h := (y.2 * t.hay).tdiv 60
  let d := if s.drv = 0 then 0 else (y.2 * t.drv).tdiv 60
  ⟨y.1, h, d, y.2 - h - d⟩
def dueOf (p : Acc) (s : Held) (known : Int) : Due := shares (inForce p s.day) s (payer s (lot p s known) (charge p s (lot p s known) known))
def daysOk (l : List Int) : Bool := l.all isDay && rising l && decide (l.length ≤ 12)
def share (d : Due) (r : Nat) : Int := match r with | 0 => d.lord | 1 => d.hay | _ => d.drv
def paid (p : Acc) (s : Held) (known : Option Int) (frm : Int) (r : Nat) : Int := match known with
  | none => 0
  | some k => if counts s.known s.til k = true ∧ (dueOf p s k).payer = frm then share (dueOf p s k) r else 0
def receivers (s : Held) : List (Nat × Int) := if s.drv = 0 then [(0, 0), (1, 1)] else [(0, 0), (1, 1), (2, 2 + s.drv)]
def posted (p : Acc) (s : Held) (was : Option Int) (day : Int) : List Post :=
  (receivers s).flatMap fun r => (upto 2 101).filterMap fun f =>
    let n := paid p s (some day) f r.1 - paid p s was f r.1
    if n ≠ 0 ∧ f ≠ r.2 then some ⟨day, s.src, f, r.2, n⟩ else none
def postsGo (p : Acc) : Option Int → List Int → List Post
  | _, [] => []
  | was, d :: r => (p.ss.flatMap fun s => posted p s was d) ++ postsGo p (some d) r
def posts (p : Acc) (l : List Int) : List Post × Int := if p.ok then (if daysOk l then (postsGo p none l, 0) else ([], 66)) else ([], 63)
end Go.Fine
namespace Go.Fine
open Go.Sx
theorem Acc.ok_t {p : Acc} (h : p.ok = true) {t : Tariff} (ht : t ∈ p.ts) : t.ok = true := by
  simp only [Acc.ok, listOk, Bool.and_eq_true] at h
  exact List.all_eq_true.1 h.1.1.1.1 t ht
theorem Acc.ok_s {p : Acc} (h : p.ok = true) {s : Held} (ht : s ∈ p.ss) : s.ok = true := by
  simp only [Acc.ok, listOk, Bool.and_eq_true] at h
  exact List.all_eq_true.1 h.1.2.1.1 s ht
theorem Acc.ok_n {p : Acc} (h : p.ok = true) {n : Note} (ht : n ∈ p.ns) : n.ok = true := by
  simp only [Acc.ok, listOk, Bool.and_eq_true] at h
  exact List.all_eq_true.1 h.2.1.1 n ht
theorem Acc.ok_len {p : Acc} (h : p.ok = true) : p.ts.length ≤ 8 ∧ p.ss.length ≤ 60 ∧ p.ns.length ≤ 60 := by
  simp only [Acc.ok, listOk, Bool.and_eq_true, decide_eq_true_eq] at h
  exact ⟨h.1.1.2, h.1.2.2, h.2.2⟩
theorem Acc.ok_fits {p : Acc} (h : p.ok = true) : p.fits := by
  have := Acc.ok_len h
  unfold Acc.fits; omega
theorem inForce_mem (p : Acc) (d : Int) : inForce p d = tz ∨ inForce p d ∈ p.ts := by
  unfold inForce inF
  cases h : (p.ts.filter fun t => decide (t.frm ≤ d)).getLast? with
  | none => exact .inl rfl
  | some t =>
    refine .inr ?_
    have := List.mem_of_getLast? h
    exact (List.mem_filter.1 this).1
theorem inForce_ok {p : Acc} (h : p.ok = true) (d : Int) : inForce p d = tz ∨ (inForce p d).ok = true := (inForce_mem p d).imp id fun ht => p.ok_t h ht
theorem feed_bounds {p : Acc} (h : p.ok = true) (d : Int) : 0 ≤ (inForce p d).feed ∧ (inForce p d).feed ≤ 10000 := by
  rcases inForce_ok h d with e | e
  · rw [e]; decide
  · simp only [Tariff.ok, within, Bool.and_eq_true, decide_eq_true_eq] at e; omega
theorem hay_bounds {p : Acc} (h : p.ok = true) (d : Int) : 0 ≤ (inForce p d).hay ∧ 0 ≤ (inForce p d).drv ∧ (inForce p d).hay + (inForce p d).drv ≤ 60 := by
  rcases inForce_ok h d with e | e
  · rw [e]; decide
  · simp only [Tariff.ok, within, Bool.and_eq_true, decide_eq_true_eq] at e; omega
theorem Held.ok_b {s : Held} (h : s.ok = true) : (1 ≤ s.src ∧ s.src ≤ 99999) ∧ (1 ≤ s.sort ∧ s.sort ≤ 9) ∧ (0 ≤ s.eats ∧ s.eats ≤ 100) ∧ (0 ≤ s.worth ∧ s.worth ≤ 100000) ∧ (0 ≤ s.drv ∧ s.drv ≤ 99) ∧ (0 ≤ s.day ∧ s.day ≤ 100000) ∧ (0 ≤ s.known ∧ s.known ≤ 100000) ∧ (s.til = 0 ∨ s.known < s.til ∧ s.til ≤ 100000) := by
  simp only [Held.ok, areTimes, isDay, within, Bool.and_eq_true, Bool.or_eq_true, decide_eq_true_eq, beq_iff_eq] at h; omega
theorem Note.ok_b {s : Note} (h : s.ok = true) : (1 ≤ s.src ∧ s.src ≤ 99999) ∧ (1 ≤ s.stay ∧ s.stay ≤ 99999) ∧ (s.kind = 2 ∧ s.owner = 0 ∨ (s.kind = 1 ∨ s.kind = 3) ∧ 1 ≤ s.owner ∧ s.owner ≤ 99) ∧ (0 ≤ s.day ∧ s.day ≤ 100000) ∧ (0 ≤ s.known ∧ s.known ≤ 100000) ∧ (s.til = 0 ∨ s.known < s.til ∧ s.til ≤ 100000) := by
  simp only [Note.ok, areTimes, isDay, within, Bool.and_eq_true, Bool.or_eq_true, decide_eq_true_eq, beq_iff_eq] at h; omega
theorem daily_bounds {p : Acc} (h : p.ok = true) {s : Held} (hs : s.ok = true) (d : Int) : 0 ≤ daily p s d ∧ daily p s d ≤ 100000 ∧ 0 ≤ s.eats * (inForce p d).feed ∧ s.eats * (inForce p d).feed ≤ 1000000 := by
  obtain ⟨h1, h2⟩ := feed_bounds h d
  have h3 := (Held.ok_b hs).2.2.1
  have h4 : 0 ≤ s.eats * (inForce p d).feed := Int.mul_nonneg h3.1 h1
  have h5 : s.eats * (inForce p d).feed ≤ 100 * 10000 := Int.mul_le_mul h3.2 h2 h1 (by omega)
  refine ⟨?_, ?_, h4, by omega⟩ <;> unfold daily <;> rw [Int.tdiv_eq_ediv_of_nonneg h4] <;> omega
theorem filter_len {A : Type} (q : A → Bool) (l : List A) : (l.filter q).length ≤ l.length := List.length_filter_le _ _
theorem stays_mem {p : Acc} {k : Int} {s : Held} (h : s ∈ stays p k) : s ∈ p.ss := (List.mem_filter.1 h).1
theorem notes_mem {p : Acc} {s : Held} {k : Int} {x : Note} (h : x ∈ notes p s k) : x ∈ p.ns := (List.mem_filter.1 h).1
end Go.Fine
namespace Go.Fine
open Go.Sx
def leastS (k : Int) (d : Int) (n : Note) : Int := if n.kind = k ∧ (d < 0 ∨ n.day < d) then n.day else d
theorem least_def (k : Int) (l : List Note) : least k l = l.foldl (leastS k) (-1) := rfl
theorem least_app (k : Int) (l : List Note) (n : Note) : least k (l ++ [n]) = leastS k (least k l) n := by simp [least_def]
theorem least_spec (k : Int) : ∀ (l : List Note), (∀ n ∈ l, 0 ≤ n.day) → -1 ≤ least k l ∧ (least k l < 0 → ∀ n ∈ l, n.kind ≠ k) ∧ (0 ≤ least k l → ∃ n ∈ l, n.kind = k ∧ n.day = least k l) ∧ ∀ n ∈ l, n.kind = k → 0 ≤ least k l ∧ least k l ≤ n.day := by
  refine snoc_ind ?_ ?_
  · intro _; simp [least]
  · intro l a ih h
    obtain ⟨h0, h1, h2, h3⟩ := ih fun n hn => h n (by simp [hn])
    have ha := h a (by simp)
    rw [least_app]
    unfold leastS
    split
    · rename_i hc
      refine ⟨by omega, fun hlt => by omega, fun _ => ⟨a, by simp, hc.1, rfl⟩, fun n hn hk => ?_⟩
      rcases List.mem_append.1 hn with hn | hn
      · have := h3 n hn hk; omega
      · simp at hn; subst hn; omega
    · rename_i hc
      refine ⟨h0, fun hlt n hn => ?_, fun hge => ?_, fun n hn hk => ?_⟩
      · rcases List.mem_append.1 hn with hn | hn
        · exact h1 hlt n hn
        · simp at hn; subst hn; intro hk; exact hc ⟨hk, .inl hlt⟩
      · obtain ⟨n, hn, e⟩ := h2 hge; exact ⟨n, by simp [hn], e⟩
      · rcases List.mem_append.1 hn with hn | hn
        · exact h3 n hn hk
        · simp at hn; subst hn
          have : ¬ (least k l < 0 ∨ n.day < least k l) := fun e => hc ⟨hk, e⟩
          omega
def stopS (d : Int) (n : Note) : Int := if n.kind = 2 then d else if d < 0 ∨ n.day < d then n.day else d
theorem stop_fold : ∀ (l : List Note), (∀ n ∈ l, n.ok = true) → l.foldl stopS (-1) = stopOf l := by
  refine snoc_ind ?_ ?_
  · intro _; simp [stopOf, least]
  · intro l a ih h
    have ih := ih fun n hn => h n (by simp [hn])
    have hd : ∀ n ∈ l, 0 ≤ n.day := fun n hn => (Note.ok_b (h n (by simp [hn]))).2.2.2.1.1
    have h1 := (least_spec 1 l hd).1
    have h3 := (least_spec 3 l hd).1
    obtain ⟨_, _, hk, ha, _⟩ := Note.ok_b (h a (by simp))
    rw [List.foldl_append, ih]
    simp only [List.foldl_cons, List.foldl_nil, stopOf, least_app, stopS, leastS]
    rcases hk with ⟨hk, _⟩ | ⟨hk | hk, _⟩ <;> simp only [hk] <;> grind
def claimS (c n : Note) : Note := if n.kind = 1 ∧ n.day < c.day then n else c
def c0 : Note := ⟨0, 0, 0, 0, 100001, 0, 0⟩
theorem claim_fold : ∀ (l : List Note), (∀ n ∈ l, n.ok = true) → (l.foldl claimS c0).owner = claimer l ∧ (l.foldl claimS c0).day = (if least 1 l < 0 then 100001 else least 1 l) := by
  refine snoc_ind ?_ ?_
  · intro _; simp [claimer, least, c0]
  · intro l a ih h
    obtain ⟨i1, i2⟩ := ih fun n hn => h n (by simp [hn])
    have hd : ∀ n ∈ l, 0 ≤ n.day := fun n hn => (Note.ok_b (h n (by simp [hn]))).2.2.2.1.1
    obtain ⟨l0, l1, l2, l3⟩ := least_spec 1 l hd
    obtain ⟨_, _, hk, ha, _⟩ := Note.ok_b (h a (by simp))
    rw [List.foldl_append]
    simp only [List.foldl_cons, List.foldl_nil]
    by_cases hc : a.kind = 1 ∧ a.day < (l.foldl claimS c0).day
    · have hlt : a.kind = 1 ∧ (least 1 l < 0 ∨ a.day < least 1 l) := by
        refine ⟨hc.1, ?_⟩
        rw [i2] at hc
        have := hc.2
        split at this <;> omega
      have e : least 1 (l ++ [a]) = a.day := by rw [least_app, leastS, if_pos hlt]
      rw [claimS, if_pos hc, e]
      refine ⟨?_, by rw [if_neg (by omega)]⟩
      simp only [claimer, e]
      rw [List.find?_append]
      have : l.find? (fun n => n.kind == 1 && n.day == a.day) = none := by
        rw [List.find?_eq_none]
        intro n hn hq
        simp only [beq_dec, Bool.and_eq_true, decide_eq_true_eq] at hq
        have := l3 n hn hq.1
        omega
      rw [this]
      simp [hc.1]
    · have hge : ¬ (a.kind = 1 ∧ (least 1 l < 0 ∨ a.day < least 1 l)) := by
        intro hq
        refine hc ⟨hq.1, ?_⟩
        rw [i2]
        split <;> omega
      have e : least 1 (l ++ [a]) = least 1 l := by rw [least_app, leastS, if_neg hge]
      rw [claimS, if_neg hc, e, i1, i2]
      refine ⟨?_, rfl⟩
      simp only [claimer, e, List.find?_append]
      cases hf : l.find? (fun n => n.kind == 1 && n.day == least 1 l) with
      | some n => simp
      | none =>
        have hq : (a.kind == 1 && a.day == least 1 l) = false := by
          rw [Bool.eq_false_iff]; intro hq
          simp only [beq_dec, Bool.and_eq_true, decide_eq_true_eq] at hq
          have : 0 ≤ least 1 l := by omega
          obtain ⟨n, hn, e1, e2⟩ := l2 this
          rw [List.find?_eq_none] at hf
          exact hf n hn (by simp [e1, e2])
        simp only [List.find?_cons, hq, List.find?_nil, Option.or_none]
def judgeS (c n : Note) : Note := if n.kind = 3 ∧ c.known ≤ n.known then n else c
def j0 : Note := ⟨0, 0, 0, 0, 0, -1, 0⟩
theorem judge_fold (l : List Note) : judged l = ((l.foldl judgeS j0).known, (l.foldl judgeS j0).owner) := by
  have key : ∀ (l : List Note) (c : Note), l.foldl (fun (b : Int × Int) n => if n.kind = 3 ∧ b.1 ≤ n.known then (n.known, n.owner) else b) (c.known, c.owner) = ((l.foldl judgeS c).known, (l.foldl judgeS c).owner) := by
    intro l
    induction l with
    | nil => intro c; rfl
    | cons a l ih =>
      intro c
      simp only [List.foldl_cons]
      by_cases h : a.kind = 3 ∧ c.known ≤ a.known
      · rw [if_pos h, judgeS, if_pos h]; exact ih a
      · rw [if_neg h, judgeS, if_neg h]; exact ih c
  exact key l j0
theorem judge_owner : ∀ (l : List Note), (∀ n ∈ l, n.ok = true) → 0 ≤ (judged l).2 := by
  refine snoc_ind ?_ ?_
  · intro _; simp [judged]
  · intro l a ih h
    have ih := ih fun n hn => h n (by simp [hn])
    obtain ⟨_, _, hk, _⟩ := Note.ok_b (h a (by simp))
    simp only [judged, List.foldl_append, List.foldl_cons, List.foldl_nil] at ih ⊢
    split <;> omega
theorem sumOf_cons (f : Int → Int) (d : Int) (l : List Int) : sumOf f (d :: l) = f d + sumOf f l := by
  have key : ∀ (l : List Int) (a : Int), l.foldl (fun a d => a + f d) a = a + l.foldl (fun a d => a + f d) 0 := by
    intro l
    induction l with
    | nil => intro a; simp
    | cons x l ih => intro a; simp only [List.foldl_cons]; rw [ih (a + f x), ih (0 + f x)]; omega
  unfold sumOf
  rw [List.foldl_cons, key]; omega
end Go.Fine
namespace Go.Fine
open Go.Sx
theorem lotFold (k : Int) : ∀ (l : List (Int × Int)) (s : Int × Int), (s = (0, -1) ∨ 0 ≤ s.2 ∧ s.2 ≤ k) → (l.foldl (lotStep k) s = s ∨ ∃ e ∈ l, l.foldl (lotStep k) s = e ∧ 0 ≤ e.2 ∧ e.2 ≤ k) ∧ (0 ≤ s.2 → (l.foldl (lotStep k) s).2 ≤ s.2) ∧ ∀ e ∈ l, 0 ≤ e.2 → e.2 ≤ k → 0 ≤ (l.foldl (lotStep k) s).2 ∧ (l.foldl (lotStep k) s).2 ≤ e.2
  | [], s, _ => by simp
  | a :: l, s, hs => by
    simp only [List.foldl_cons]
    by_cases hc : 0 ≤ a.2 ∧ a.2 ≤ k ∧ (s.2 < 0 ∨ a.2 < s.2)
    · rw [lotStep, if_pos hc]
      obtain ⟨h1, h2, h3⟩ := lotFold k l a (.inr ⟨hc.1, hc.2.1⟩)
      have h2 := h2 hc.1
      refine ⟨.inr ?_, fun h => by omega, fun e he h4 h5 => ?_⟩
      · rcases h1 with h1 | ⟨e, he, h1, h4, h5⟩
        · exact ⟨a, by simp, h1, hc.1, hc.2.1⟩
        · exact ⟨e, by simp [he], h1, h4, h5⟩
      · rcases List.mem_cons.1 he with rfl | he
        · refine ⟨?_, h2⟩
          rcases h1 with h1 | ⟨e', _, h1, h6, _⟩
          · rw [h1]; exact h4
          · rw [h1]; exact h6
        · exact h3 e he h4 h5
    · rw [lotStep, if_neg hc]
      obtain ⟨h1, h2, h3⟩ := lotFold k l s hs
      refine ⟨?_, h2, fun e he h4 h5 => ?_⟩
      · rcases h1 with h1 | ⟨e, he, h1⟩
        · exact .inl h1
        · exact .inr ⟨e, by simp [he], h1⟩
      · rcases List.mem_cons.1 he with rfl | he
        · have h6 : ¬ (s.2 < 0 ∨ e.2 < s.2) := fun h => hc ⟨h4, h5, h⟩
          have h7 := h2 (by omega)
          refine ⟨?_, by omega⟩
          rcases h1 with h1 | ⟨e', _, h1, h8, _⟩
          · rw [h1]; omega
          · rw [h1]; exact h8
        · exact h3 e he h4 h5
theorem lot_spec (p : Acc) (s : Held) (k : Int) : ((lot p s k).fin = 0 ∧ (lot p s k).day = -1 ∨ ∃ e ∈ ends p s k, (lot p s k).fin = e.1 ∧ (lot p s k).day = e.2 ∧ 0 ≤ e.2 ∧ e.2 ≤ k) ∧ ∀ e ∈ ends p s k, 0 ≤ e.2 → e.2 ≤ k → 0 ≤ (lot p s k).day ∧ (lot p s k).day ≤ e.2 := by
  obtain ⟨h1, _, h3⟩ := lotFold k (ends p s k) (0, -1) (.inl rfl)
  refine ⟨?_, h3⟩
  rcases h1 with h1 | ⟨e, he, h1, h2⟩
  · exact .inl ⟨congrArg Prod.fst h1, congrArg Prod.snd h1⟩
  · exact .inr ⟨e, he, congrArg Prod.fst h1, congrArg Prod.snd h1, h2⟩
theorem ends_fst {p : Acc} {s : Held} {k : Int} {e : Int × Int} (h : e ∈ ends p s k) : 1 ≤ e.1 ∧ e.1 ≤ 4 := by
  simp only [ends, List.mem_cons, List.not_mem_nil, or_false] at h
  rcases h with rfl | rfl | rfl | rfl <;> simp
theorem lot_day (p : Acc) (s : Held) (k : Int) (hk : -1 ≤ k) : -1 ≤ (lot p s k).day ∧ (lot p s k).day ≤ k ∧ 0 ≤ (lot p s k).fin ∧ (lot p s k).fin ≤ 4 ∧ ((lot p s k).fin = 0 ↔ (lot p s k).day = -1) := by
  rcases (lot_spec p s k).1 with ⟨h1, h2⟩ | ⟨e, he, h1, h2, h3, h4⟩
  · omega
  · have := ends_fst he; omega
theorem gi_cv_head (t : Tariff) (i : Nat) (h : i < 10) : gi t.cv (1 + i * 1) = t.hs.getD i 0 := by
  have : i = 0 ∨ i = 1 ∨ i = 2 ∨ i = 3 ∨ i = 4 ∨ i = 5 ∨ i = 6 ∨ i = 7 ∨ i = 8 ∨ i = 9 := by omega
  rcases this with rfl | rfl | rfl | rfl | rfl | rfl | rfl | rfl | rfl | rfl <;> rfl
theorem gi_cv_daily (t : Tariff) (i : Nat) (h : i < 10) : gi t.cv (11 + i * 1) = t.ds.getD i 0 := by
  have : i = 0 ∨ i = 1 ∨ i = 2 ∨ i = 3 ∨ i = 4 ∨ i = 5 ∨ i = 6 ∨ i = 7 ∨ i = 8 ∨ i = 9 := by omega
  rcases this with rfl | rfl | rfl | rfl | rfl | rfl | rfl | rfl | rfl | rfl <;> rfl
theorem rowOk_b {l : List Int} (h : rowOk l = true) (i : Nat) : 0 ≤ l.getD i 0 ∧ l.getD i 0 ≤ 10000 := by
  simp only [rowOk, Bool.and_eq_true, List.all_eq_true] at h
  by_cases hi : i < l.length
  · have := h.2 l[i] (List.getElem_mem hi)
    simp only [within, Bool.and_eq_true, decide_eq_true_eq] at this
    simpa [hi] using this
  · simp [List.getD, List.getElem?_eq_none (Nat.le_of_not_lt hi)]
theorem head_bounds {p : Acc} (hp : p.ok = true) {s : Held} (hs : s.ok = true) (d : Int) : (0 ≤ headOf (inForce p d) s.sort ∧ headOf (inForce p d) s.sort ≤ 10000) ∧ 0 ≤ dailyOf (inForce p d) s.sort ∧ dailyOf (inForce p d) s.sort ≤ 10000 := by
  have hb := (Held.ok_b hs).2.1
  have hi : s.sort.toNat < 10 := by omega
  unfold headOf dailyOf
  rw [gi_cv_head _ _ hi, gi_cv_daily _ _ hi]
  have : rowOk (inForce p d).hs = true ∧ rowOk (inForce p d).ds = true := by
    rcases inForce_ok hp d with e | e
    · rw [e]; decide
    · simp only [Tariff.ok, Bool.and_eq_true] at e; exact ⟨e.1.1.1.1.1.2, e.1.1.1.1.2⟩
  exact ⟨rowOk_b this.1 _, rowOk_b this.2 _⟩
theorem fineOf_bounds {p : Acc} (hp : p.ok = true) {s : Held} (hs : s.ok = true) (x : Lot) (d : Int) : 0 ≤ fineOf p s x d ∧ fineOf p s x d ≤ 10000 := by
  have := (head_bounds hp hs d).2
  unfold fineOf; split <;> omega
theorem sumOf_bounds (f : Int → Int) (B : Int) : ∀ (l : List Int), (∀ d, 0 ≤ f d ∧ f d ≤ B) → 0 ≤ sumOf f l ∧ sumOf f l ≤ l.length * B
  | [], _ => by simp [sumOf]
  | d :: l, hf => by
    have := sumOf_bounds f B l hf
    have h1 := hf d
    have hl : (((d :: l).length : Nat) : Int) * B = l.length * B + B := by simp [Int.add_mul]
    rw [sumOf_cons, hl]; omega
theorem fed_len (s : Held) (x : Lot) (k : Int) (hs : 0 ≤ s.day) (hk : k ≤ 100000) (hx : x.day ≤ 100000) : (fedDays s x k).length ≤ 100001 := by
  unfold fedDays lastDay
  rw [upto_length]
  split
  · omega
  · split <;> omega
theorem charge_bounds {p : Acc} (hp : p.ok = true) {s : Held} (hs : s.ok = true) (x : Lot) (k : Int) (hk : k ≤ 100000) (hx : x.day ≤ 100000) :
    (0 ≤ (charge p s x k).head ∧ (charge p s x k).head ≤ 10000) ∧ (0 ≤ (charge p s x k).feed ∧ (charge p s x k).feed ≤ 20000000000) ∧ (0 ≤ (charge p s x k).fine ∧ (charge p s x k).fine ≤ 20000000000) := by
  have hb := Held.ok_b hs
  have hl := fed_len s x k hb.2.2.2.2.2.1.1 hk hx
  have h1 := sumOf_bounds (daily p s) 100000 (fedDays s x k) fun d => ⟨(daily_bounds hp hs d).1, (daily_bounds hp hs d).2.1⟩
  have h2 := sumOf_bounds (fineOf p s x) 10000 (fedDays s x k) fun d => fineOf_bounds hp hs x d
  have h3 := (head_bounds hp hs s.day).1
  refine ⟨?_, ?_, ?_⟩
  · unfold charge; simp only; split <;> omega
  · unfold charge; simp only; omega
  · unfold charge; simp only; omega
end Go.Fine
namespace Go.Fine
open Go.Sx
def posN (l : List Note) (t : Int) : Nat := (l.takeWhile fun n => decide (n.src < t)).length
def Acc.none : Acc := ⟨[], [], []⟩
def noted (p : Acc) (x : Note) : Acc × Int :=
  if p.ok = false then (Acc.none, 63) else if x.ok = false ∨ p.ns.any (fun n => decide (n.src = x.src)) = true then (Acc.none, 62) else if p.ns.length = 60 then (Acc.none, 2)
  else (⟨p.ts, p.ss, p.ns.take (posN p.ns x.src) ++ x :: p.ns.drop (posN p.ns x.src)⟩, 0)
theorem rising_lt {l : List Int} (h : ∀ i (h : i + 1 < l.length), l[i] < l[i + 1]) : ∀ (j i : Nat) (hj : j < l.length) (hi : i < j), l[i] < l[j]
  | 0, i, hj, hi => by omega
  | j + 1, i, hj, hi => by
    have h1 := h j hj
    by_cases e : i = j
    · subst e; exact h1
    · have := rising_lt h j i (by omega) (by omega); omega
theorem posN_spec {l : List Note} (h : ∀ (j i : Nat) (hj : j < l.length) (hi : i < j), l[i].src < l[j].src) (t : Int) : posN l t ≤ l.length ∧ ∀ j (hj : j < l.length), l[j].src < t ↔ j < posN l t := by
  induction l with
  | nil => simp [posN]
  | cons a l ih =>
    have ih := ih fun j i hj hi => by
      have := h (j + 1) (i + 1) (by simpa using hj) (by omega)
      simpa using this
    by_cases ha : a.src < t
    · have e : posN (a :: l) t = posN l t + 1 := by simp [posN, ha]
      rw [e]
      refine ⟨by simp; exact ih.1, fun j hj => ?_⟩
      cases j with
      | zero => simp [ha]
      | succ j => simpa using ih.2 j (by simpa using hj)
    · have e : posN (a :: l) t = 0 := by simp [posN, ha]
      rw [e]
      refine ⟨by simp, fun j hj => ?_⟩
      cases j with
      | zero => simp [ha]
      | succ j =>
        have := h (j + 1) 0 hj (by omega)
        simp only [List.getElem_cons_zero] at this
        simp only [Nat.not_lt_zero, iff_false]
        omega
end Go.Fine
namespace Go.Fine
open Go.Sx
theorem rising_cons {x : Int} {l : List Int} (h : rising (x :: l) = true) : rising l = true ∧ ∀ y ∈ l, x < y := by
  induction l generalizing x with
  | nil => simp [rising]
  | cons y l ih =>
    rw [rising, Bool.and_eq_true] at h
    simp only [decide_eq_true_eq] at h
    obtain ⟨h1, h2⟩ := h
    obtain ⟨_, h3⟩ := ih h2
    refine ⟨h2, fun z hz => ?_⟩
    rcases List.mem_cons.1 hz with rfl | hz
    · exact h1
    · have := h3 z hz; omega
def payerAt (p : Acc) (s : Held) (k : Option Int) : Int := match k with
  | none => -1
  | some k => if counts s.known s.til k = true then (dueOf p s k).payer else -1
theorem paid_payer {p : Acc} {s : Held} {k : Option Int} {f : Int} (hf : 0 ≤ f) (h : payerAt p s k ≠ f) (r : Nat) : paid p s k f r = 0 := by
  cases k with
  | none => rfl
  | some k =>
    simp only [payerAt] at h
    simp only [paid]
    split
    · rename_i hc; rw [if_pos hc.1] at h; exact absurd hc.2 h
    · rfl
end Go.Fine
namespace Go.Fine
open Go.Sx
structure R6 where
  (a0 a1 a2 a3 a4 a5 : Int)
structure R7 where
  (a0 a1 a2 a3 a4 a5 a6 : Int)
def R6.cv (n : R6) : List CV := [ci n.a0, ci n.a1, ci n.a2, ci n.a3, ci n.a4, ci n.a5]
def R7.cv (n : R7) : List CV := [ci n.a0, ci n.a1, ci n.a2, ci n.a3, ci n.a4, ci n.a5, ci n.a6]
structure Raw where
  ts : List R6
  ss : List R7
  ns : List R6
def Raw.fits (r : Raw) : Prop := r.ts.length < 100000000000000 ∧ r.ss.length < 100000000000000 ∧ r.ns.length < 100000000000000
theorem mod_eq {n m : Int} (h0 : 0 < m) (h1 : m < 4000000000000000000) : Int.tmod (wr (Int.tmod n m + m)) m = n % m := by
  have h2 := Int.tmod_lt_of_pos n h0
  have h3 : -m < Int.tmod n m := by
    have := Int.lt_tmod_of_pos n h0
    exact this
  rw [wr_of (by omega) (by omega), Int.tmod_eq_emod_of_nonneg (by omega), Int.add_emod_right]
  have h4 := Int.mul_tdiv_add_tmod n m
  conv => rhs; rw [← h4]
  rw [Int.mul_add_emod_self_left]
def madeT (f : Int) (n : R6) : Tariff := ⟨f, 0, wr (n.a3 + 1) % 40, wr (n.a3 + 2) % 40, wr (n.a3 + 3) % 40, 0, 0, 0, 0, 0, 0, 0, wr (n.a4 * 1) % 9, wr (n.a4 * 2) % 9, wr (n.a4 * 3) % 9, 0, 0, 0, 0, 0, 0, n.a0 % 12, n.a1 % 31, n.a2 % 30⟩
def madeTs : Int → List R6 → List Tariff
  | _, [] => []
  | f, n :: l => madeT f n :: madeTs (f + 1 + n.a5 % 60) l
def frmAt (l : List R6) : Int := l.foldl (fun f n => f + 1 + n.a5 % 60) 0
def madeH (i : Nat) (n : R7) : Held := ⟨10 + i, 1 + n.a0 % 5, 1 + n.a0 % 3, n.a1 % 40, n.a2 % 900, n.a3 % 6, n.a4 % 40, n.a5 % 60, if n.a6 % 6 = 0 then n.a5 % 60 + 1 + n.a6 % 300 else 0⟩
def madeN (i : Nat) (n : R6) : Note := ⟨20 + i, 10 + n.a0 % 4, 1 + n.a1 % 3, if 1 + n.a1 % 3 ≠ 2 then 1 + n.a4 % 5 else 0, n.a2 % 450, n.a3 % 500, if n.a5 % 5 = 0 then n.a3 % 500 + 1 + n.a5 % 200 else 0⟩
def made (r : Raw) : Acc := ⟨madeTs 0 (r.ts.take 3), (r.ss.take 4).mapIdx madeH, (r.ns.take 8).mapIdx madeN⟩
theorem madeTs_app (l : List R6) (n : R6) : ∀ (f : Int), madeTs f (l ++ [n]) = madeTs f l ++ [madeT (l.foldl (fun f n => f + 1 + n.a5 % 60) f) n] := by
  induction l with
  | nil => intro f; rfl
  | cons a l ih => intro f; simp only [List.cons_append, madeTs, ih, List.foldl_cons]
theorem madeTs_len (l : List R6) : ∀ (f : Int), (madeTs f l).length = l.length := by
  induction l with
  | nil => intro f; rfl
  | cons a l ih => intro f; simp [madeTs, ih]
theorem madeT_ok (f : Int) (n : R6) (h : 0 ≤ f) (h' : f ≤ 100000) : (madeT f n).ok = true := by
  simp [madeT, Tariff.ok, Tariff.hs, Tariff.ds, rowOk, isDay, within]
  omega
theorem within_of {n lo hi : Int} (h1 : lo ≤ n) (h2 : n ≤ hi) : within n lo hi = true := by unfold within; rw [decide_eq_true h1, decide_eq_true h2]; rfl
theorem times_of {a b c : Int} (h1 : 0 ≤ a) (h2 : a ≤ 100000) (h3 : 0 ≤ b) (h4 : b ≤ 100000) (h5 : c = 0 ∨ b < c ∧ c ≤ 100000) : areTimes a b c = true := by
  unfold areTimes isDay
  rw [within_of h1 h2, within_of h3 h4]
  rcases h5 with h | h
  · simp [h]
  · simp [h.1, h.2]
theorem madeH_ok (i : Nat) (n : R7) (h : i < 100) : (madeH i n).ok = true := by
  unfold Held.ok madeH
  simp only
  rw [within_of (by omega) (by omega), within_of (by omega) (by omega), within_of (by omega) (by omega), within_of (by omega) (by omega), within_of (by omega) (by omega), within_of (by omega) (by omega), times_of (by omega) (by omega) (by omega) (by omega) (by split <;> omega)]
  rfl
theorem madeN_ok (i : Nat) (n : R6) (h : i < 100) : (madeN i n).ok = true := by
  unfold Note.ok madeN
  simp only
  rw [within_of (n := 20 + (i : Int)) (by omega) (by omega), within_of (n := 10 + n.a0 % 4) (by omega) (by omega), times_of (by omega) (by omega) (by omega) (by omega) (by split <;> omega)]
  by_cases h2 : 1 + n.a1 % 3 = 2
  · simp [h2]
  · have h3 : 1 + n.a1 % 3 = 1 ∨ 1 + n.a1 % 3 = 3 := by omega
    have h4 : within (1 + n.a4 % 5) 1 99 = true := within_of (by omega) (by omega)
    rcases h3 with h3 | h3 <;> simp [h3, h4]
theorem madeTs_all : ∀ (l : List R6) (f : Int), 0 ≤ f → f + 60 * l.length ≤ 100000 → (madeTs f l).all Tariff.ok = true ∧ rising ((madeTs f l).map Tariff.frm) = true
  | [], f, _, _ => by simp [madeTs, rising]
  | n :: l, f, h0, h1 => by
    simp only [List.length_cons] at h1
    obtain ⟨i1, i2⟩ := madeTs_all l (f + 1 + n.a5 % 60) (by omega) (by omega)
    refine ⟨by simp only [madeTs, List.all_cons, i1, madeT_ok f n h0 (by omega), Bool.and_self], ?_⟩
    simp only [madeTs, List.map_cons, rising, i2, Bool.and_true]
    cases l with
    | nil => rfl
    | cons m l => simp [madeTs, madeT]; omega
theorem rising_idx {A B : Type} (f : Nat → A → B) (num : B → Int) (c : Int) (hf : ∀ i a, num (f i a) = c + (i : Nat)) : ∀ (l : List A) (k : Nat), rising ((l.mapIdx fun i a => f (i + k) a).map num) = true
  | [], _ => rfl
  | a :: l, k => by
    have ih := rising_idx f num c hf l (k + 1)
    have e : (fun (i : Nat) (a : A) => f (i + 1 + k) a) = fun i a => f (i + (k + 1)) a := by funext i a; rw [Nat.add_assoc, Nat.add_comm 1 k]
    rw [List.mapIdx_cons]
    simp only [List.map_cons, rising, e, ih, Bool.and_true]
    cases l with
    | nil => rfl
    | cons b l => simp [List.mapIdx_cons, hf]; omega
theorem all_idx {A B : Type} (f : Nat → A → B) (q : B → Bool) (m : Nat) (hf : ∀ i a, i < m → q (f i a) = true) (l : List A) (h : l.length ≤ m) : (l.mapIdx f).all q = true := by
  rw [List.all_eq_true]
  intro x hx
  obtain ⟨i, hi, rfl⟩ := List.mem_mapIdx.1 hx
  exact hf _ _ (by omega)
theorem made_ok (r : Raw) : (made r).ok = true := by
  have h0 : (r.ts.take 3).length ≤ 3 := by simp; omega
  have h1 := madeTs_all (r.ts.take 3) 0 (by omega) (by omega)
  have h2 := rising_idx madeH Held.src 10 (fun i a => rfl) (r.ss.take 4) 0
  have h3 := rising_idx madeN Note.src 20 (fun i a => rfl) (r.ns.take 8) 0
  have h4 := all_idx madeH Held.ok 100 (fun i a h => madeH_ok i a h) (r.ss.take 4) (by simp; omega)
  have h5 := all_idx madeN Note.ok 100 (fun i a h => madeN_ok i a h) (r.ns.take 8) (by simp; omega)
  simp only [Nat.add_zero] at h2 h3
  have l1 : (madeTs 0 (r.ts.take 3)).length ≤ 8 := by rw [madeTs_len]; simp; omega
  simp only [Acc.ok, listOk, made, h1.1, h1.2, h2, h3, h4, h5, l1, List.length_mapIdx, List.length_take, decide_true, Bool.true_and, Bool.and_true, Bool.and_eq_true, decide_eq_true_eq]
  omega
end Go.Fine
namespace Go.Fine
open Go.Sx
theorem rising_inj {A : Type} {num : A → Int} : ∀ {l : List A}, rising (l.map num) = true → ∀ {x y : A}, x ∈ l → y ∈ l → num x = num y → x = y
  | [], _, x, y, hx, _, _ => by cases hx
  | a :: l, h, x, y, hx, hy, e => by
    obtain ⟨h1, h2⟩ := rising_cons (x := num a) (l := l.map num) h
    rcases List.mem_cons.1 hx with rfl | hx' <;> rcases List.mem_cons.1 hy with rfl | hy'
    · rfl
    · have := h2 (num y) (List.mem_map.2 ⟨y, hy', rfl⟩); omega
    · have := h2 (num x) (List.mem_map.2 ⟨x, hx', rfl⟩); omega
    · exact rising_inj h1 hx' hy' e
theorem Acc.ss_inj {p : Acc} (h : p.ok = true) {x y : Held} (hx : x ∈ p.ss) (hy : y ∈ p.ss) (e : x.src = y.src) : x = y := by
  simp only [Acc.ok, listOk, Bool.and_eq_true] at h
  exact rising_inj h.1.2.1.2 hx hy e
theorem stays_iff {p : Acc} {s : Held} {k : Int} : s ∈ stays p k ↔ s ∈ p.ss ∧ counts s.known s.til k = true := List.mem_filter
theorem stayOf_src {p : Acc} (hp : p.ok = true) {s : Held} (hs : s ∈ p.ss) {k : Int} (hk : isDay k = true) : stayOf p s.src k = if counts s.known s.til k = true then (s, 0) else (hz, 65) := by
  have ha : asked p k = 0 := by unfold asked; rw [if_pos hp, if_pos hk]
  unfold stayOf
  rw [if_pos ha]
  cases hf : (stays p k).find? fun t => t.src == s.src with
  | some t =>
    have h1 := List.find?_some hf
    simp only [beq_dec, decide_eq_true_eq] at h1
    have h2 := stays_iff.1 (List.mem_of_find?_eq_some hf)
    have h3 := Acc.ss_inj hp h2.1 hs h1
    subst h3
    rw [if_pos h2.2]
  | none =>
    rw [List.find?_eq_none] at hf
    rw [if_neg]
    intro hc
    exact hf s (stays_iff.2 ⟨hs, hc⟩) (by simp)
def plus (p : Acc) (x : Note) : Acc := ⟨p.ts, p.ss, p.ns ++ [x]⟩
theorem made_held {r : Raw} {s : Held} (h : s ∈ (made r).ss) : (0 ≤ s.known ∧ s.known < 60) ∧ (0 ≤ s.day ∧ s.day < 40) ∧ (10 ≤ s.src ∧ s.src < 14) ∧ (0 ≤ s.drv ∧ s.drv < 6) ∧ (0 ≤ s.eats ∧ s.eats < 40) ∧ (0 ≤ s.worth ∧ s.worth < 900) := by
  obtain ⟨i, hi, rfl⟩ := List.mem_mapIdx.1 h
  simp only [List.length_take] at hi
  simp only [madeH]; omega
theorem notes_plus (p : Acc) (x : Note) (s : Held) (k : Int) : notes (plus p x) s k = notes p s k ++ (if (counts x.known x.til k && x.stay == s.src && within x.day s.day k) = true then [x] else []) := by
  unfold notes plus
  rw [List.filter_append, List.filter_cons, List.filter_nil]
theorem soldL_plus (p : Acc) (x : Note) (s : Held) : ∀ (l : List Int) (a : Int), soldL (plus p x) s a l = soldL p s a l
  | [], _ => rfl
  | d :: l, a => by rw [soldL, soldL, soldL_plus p x s l]; rfl
theorem sold_plus (p : Acc) (x : Note) (s : Held) (k : Int) : sold (plus p x) s k = sold p s k := by unfold sold; rw [soldL_plus]
def fold4 (k a b c d : Int) : Int × Int := [(1, a), (2, b), (3, c), (4, d)].foldl (lotStep k) (0, -1)
theorem lot_fold4 (p : Acc) (s : Held) (k : Int) : lot p s k = ⟨ownerOf (notes p s k), stopOf (notes p s k), (fold4 k (least 2 (notes p s k)) (sold p s k) (forfeit s (notes p s k)) (s.day + 720)).1, (fold4 k (least 2 (notes p s k)) (sold p s k) (forfeit s (notes p s k)) (s.day + 720)).2⟩ := rfl
theorem stopOf_snoc {l : List Note} {x : Note} (h : ∀ n ∈ l ++ [x], n.ok = true) : stopOf (l ++ [x]) = stopS (stopOf l) x := by
  rw [← stop_fold _ h, List.foldl_append, stop_fold l fun n hn => h n (by simp [hn])]
  rfl
theorem least_snoc (k : Int) (l : List Note) (x : Note) (h : x.kind ≠ k) : least k (l ++ [x]) = least k l := by
  rw [least_app, leastS, if_neg]; exact fun hc => h hc.1
def quiet (p : Acc) (k : Int) : Bool := p.ns.all fun n => !decide (n.known = k) && (!decide (n.day = k) && !decide (n.til = k))
end Go.Fine
namespace Go.Fine
open Go.Sx
theorem judged_snoc (l : List Note) (x : Note) : judged (l ++ [x]) = if x.kind = 3 ∧ (judged l).1 ≤ x.known then (x.known, x.owner) else judged l := by
  unfold judged; rw [List.foldl_append]; rfl
theorem judged_known (k : Int) (hk : -1 ≤ k) : ∀ (l : List Note), (∀ n ∈ l, n.known ≤ k) → (judged l).1 ≤ k := by
  refine snoc_ind ?_ ?_
  · intro _; exact hk
  · intro l a ih h
    rw [judged_snoc]
    split
    · exact h a (by simp)
    · exact ih fun n hn => h n (by simp [hn])
theorem ownerOf_snoc {l : List Note} {x : Note} {k : Int} (hk : -1 ≤ k) (hl : ∀ n ∈ l, n.known ≤ k) (hx : x.kind = 3) (hxk : x.known = k) (ho : 0 < x.owner) : ownerOf (l ++ [x]) = x.owner := by
  have h1 := judged_known k hk l hl
  have e : judged (l ++ [x]) = (x.known, x.owner) := by rw [judged_snoc]; exact if_pos ⟨hx, by omega⟩
  unfold ownerOf
  rw [e]
  exact if_pos ho
theorem notes_known {p : Acc} {s : Held} {k : Int} {x : Note} (h : x ∈ notes p s k) : x.known ≤ k := by
  have := (List.mem_filter.1 h).2
  simp only [counts, Bool.and_eq_true, decide_eq_true_eq] at this
  exact this.1.1.1
def Told (p : Acc) (s : Held) (k : Int) (x : Note) : Prop := (plus p x).ok = true ∧ x.kind = 3 ∧ x.known = k ∧ x.til = 0 ∧ x.stay = s.src ∧ s.day ≤ x.day ∧ x.day ≤ k ∧ 0 < x.owner
theorem Told.notes {p : Acc} {s : Held} {k : Int} {x : Note} (h : Told p s k x) : notes (plus p x) s k = notes p s k ++ [x] := by
  obtain ⟨h1, h2, h3, h4, h5, h6, h7, h8⟩ := h
  rw [notes_plus, if_pos]
  simp [counts, within, h3, h4, h5, h6, h7]
theorem Told.owner {p : Acc} {s : Held} {k : Int} {x : Note} (hk : 0 ≤ k) (h : Told p s k x) : (lot (plus p x) s k).owner = x.owner := by
  have hn := h.notes
  obtain ⟨h1, h2, h3, h4, h5, h6, h7, h8⟩ := h
  change ownerOf (Fine.notes (plus p x) s k) = _
  rw [hn]
  exact ownerOf_snoc (k := k) (by omega) (fun n hn => notes_known hn) h2 h3 h8
theorem Told.stop {p : Acc} {s : Held} {k : Int} {x : Note} (h : Told p s k x) : stopOf (Fine.notes (plus p x) s k) = if stopOf (Fine.notes p s k) < 0 ∨ x.day < stopOf (Fine.notes p s k) then x.day else stopOf (Fine.notes p s k) := by
  have hn := h.notes
  obtain ⟨h1, h2, h3, h4, h5, h6, h7, h8⟩ := h
  have hok : ∀ n ∈ Fine.notes (plus p x) s k, n.ok = true := fun n hn => (plus p x).ok_n h1 (notes_mem hn)
  rw [hn] at hok ⊢
  rw [stopOf_snoc hok, stopS, if_neg (by omega)]
theorem Told.same {p : Acc} {s : Held} {k : Int} {x : Note} (hk : 0 ≤ k) (h : Told p s k x) (ho : x.owner = ownerOf (Fine.notes p s k)) (h0 : 0 ≤ stopOf (Fine.notes p s k)) (h1 : stopOf (Fine.notes p s k) ≤ x.day) : dueOf (plus p x) s k = dueOf p s k := by
  have hn := h.notes
  have hs := h.stop
  have hw := h.owner hk
  obtain ⟨_, h2, h3, h4, h5, h6, h7, h8⟩ := h
  rw [if_neg (by omega)] at hs
  have hl2 : least 2 (Fine.notes (plus p x) s k) = least 2 (Fine.notes p s k) := by rw [hn]; exact least_snoc 2 _ _ (by omega)
  have hf : forfeit s (Fine.notes (plus p x) s k) = forfeit s (Fine.notes p s k) := by unfold forfeit; rw [hs]
  have hw' : ownerOf (Fine.notes (plus p x) s k) = ownerOf (Fine.notes p s k) := by
    have : (lot (plus p x) s k).owner = ownerOf (Fine.notes (plus p x) s k) := rfl
    rw [← this, hw, ho]
  have e : lot (plus p x) s k = lot p s k := by rw [lot_fold4, lot_fold4, sold_plus, hl2, hf, hs, hw']
  unfold dueOf
  rw [e]
  rfl
theorem Told.payer {p : Acc} {s : Held} {k : Int} {x : Note} (hk : 0 ≤ k) (h : Told p s k x) (h2 : (lot (plus p x) s k).fin ≠ 2) (h3 : (lot (plus p x) s k).fin ≠ 3) : (dueOf (plus p x) s k).payer = 2 + x.owner := by
  have hw := h.owner hk
  have h8 := h.2.2.2.2.2.2.2
  unfold dueOf shares Fine.payer
  simp only
  rw [if_neg h2, if_neg (by rw [hw]; omega), hw]
end Go.Fine
namespace Go.Fine
open Go.Sx
end Go.Fine
namespace Go.Sx
open Go
def plT (P : Program) : Nat → TypeId → Bool
  | 0, _ => false
  | n + 1, t => match P.underlying t with
    | some .bool => true
    | some (.int _) => true
    | some (.slice e) => decide (0 < P.cellsOf e) && plT P n e
    | some (.struct fs) => fs.toList.all fun f => plT P n f.type
    | some (.array _ e) => plT P n e
    | _ => false
def ShpL (R : TypeId → List CV → Prop) : List TypeId → List CV → Prop
  | [], cs => cs = []
  | t :: ts, cs => ∃ a b, cs = a ++ b ∧ R t a ∧ ShpL R ts b
def Shp (P : Program) : Nat → TypeId → List CV → Prop
  | 0, _, _ => False
  | n + 1, t, cs => match P.underlying t with
    | some .bool => ∃ b, cs = [cb b]
    | some (.int k) => ∃ m, cs = [.val (.int k m)] ∧ (Lit.int k m).wf = true
    | some (.slice e) => ∃ es, cs = [.row (P.cellsOf e) es] ∧ (∀ x ∈ es, Shp P n e x) ∧ es.length * P.bytesOf e ≤ reachBytes
    | some (.struct fs) => ShpL (Shp P n) (fs.toList.map (·.type)) cs
    | some (.array m e) => ShpL (Shp P n) (List.replicate m e) cs
    | _ => False
section
variable {P : Program} {w : World} {S : Nat → Prop}
theorem rows_of {k b : Nat} : ∀ (es : List (List CV)) (o : Nat), (∀ i (h : i < es.length), es[i].length = k ∧ CV.cells w S es[i] b (o + i * k)) → CV.rows w S k es b o
  | [], o, _ => by simp [CV.rows]
  | e :: es, o, h => by
    simp only [CV.rows]
    have h0 := h 0 (by simp)
    refine ⟨by simpa using h0.1, by simpa using h0.2, rows_of es (o + k) fun i hi => ?_⟩
    have := h (i + 1) (by simpa using hi)
    rw [show o + (i + 1) * k = o + k + i * k by rw [Nat.add_mul]; omega] at this
    simpa using this
theorem vals_app {cs cs' : List CV} {vs vs' : List Value} (h : CV.vals w S cs vs) (h' : CV.vals w S cs' vs') : CV.vals w S (cs ++ cs') (vs ++ vs') := CV.vals.append h h'
theorem parts_ok (R : TypeId → List CV → Prop) : ∀ (ts : List TypeId) (cs : List Value), cs.length = (ts.map P.cellsOf).sum →
    (∀ j t, ts[j]? = some t → ∃ cvs, R t cvs ∧ CV.vals w S cvs ((cs.drop ((ts.take j).map P.cellsOf).sum).take (P.cellsOf t))) → ∃ cvs, ShpL R ts cvs ∧ CV.vals w S cvs cs
  | [], cs, hl, _ => ⟨[], rfl, by
    have : cs = [] := List.length_eq_zero_iff.1 (by simpa using hl)
    subst this; simp [CV.vals]⟩
  | t :: ts, cs, hl, h => by
    simp only [List.map_cons, List.sum_cons] at hl
    obtain ⟨a, ha, hav⟩ := h 0 t rfl
    obtain ⟨b, hb, hbv⟩ := parts_ok R ts (cs.drop (P.cellsOf t)) (by rw [List.length_drop]; omega) fun j u hj => by
      obtain ⟨c, hc, hcv⟩ := h (j + 1) u (by simpa using hj)
      refine ⟨c, hc, ?_⟩
      rw [List.drop_drop]
      simpa using hcv
    refine ⟨a ++ b, ⟨a, b, rfl, ha, hb⟩, ?_⟩
    have := vals_app hav hbv
    simpa using this
theorem weightsAll_mem {H : Type} {e : TypeId} : ∀ {l : List (DataW H)} {d : DataW H}, d ∈ l → ∀ m ∈ d.weights P e, m ∈ DataW.weightsAll P e l
  | x :: l, d, h, m, hm => by
    simp only [DataW.weightsAll, List.mem_append]
    rcases List.mem_cons.1 h with rfl | h
    · exact .inl hm
    · exact .inr (weightsAll_mem h m hm)
end
section
variable {H : Type} {enc : TypeId × Value → H} {P : Program} {w : World} {T : TypeId → Prop} {spare : Nat → Bool} {held : Bool}
theorem cv_trod (K : Kids P T) : ∀ (n fuel : Nat) (t : TypeId) (cs : List Value) (x : DataW H × List MemPlace), T t → plT P n t = true → DataW.trod enc P w 0 spare held fuel t cs = some x → (∀ m ∈ x.1.weights P t, m ≤ reachBytes) →
    ∃ cvs, Shp P n t cvs ∧ CV.vals w (fun b => b < w.heap.size) cvs cs := by
  intro n
  induction n with
  | zero => intro fuel t cs x _ hp; simp [plT] at hp
  | succ n ih =>
    intro fuel t cs x hT hp h hw
    simp only [plT] at hp
    simp only [Shp]
    cases hu : P.underlying t with
    | none => rw [hu] at hp; cases hp
    | some U =>
      rw [hu] at hp
      cases U with
      | bool =>
        obtain ⟨b, rfl, _⟩ := DataW.trod_bool hu h
        exact ⟨[cb b], ⟨b, rfl⟩, by simp [cb, CV.vals, CV.holds, Value.oneCell']⟩
      | int k =>
        obtain ⟨m, rfl, _, hm⟩ := DataW.trod_int hu h
        exact ⟨[.val (.int k m)], ⟨m, rfl, hm⟩, by simp [CV.vals, CV.holds, Value.oneCell']⟩
      | struct fs =>
        obtain ⟨xs, m, rfl, rfl, hl, hxl, hx⟩ := DataW.trod_struct hu h
        obtain ⟨k1, k2, k3⟩ := K.struct hT hu
        simp only [List.all_eq_true] at hp
        refine parts_ok (P := P) (Shp P n) (fs.toList.map (·.type)) cs (by rw [hl, k2, List.map_map]; rfl) fun j u hj => ?_
        rw [List.getElem?_map, Option.map_eq_some_iff] at hj
        obtain ⟨f, hf, rfl⟩ := hj
        have hfm : f ∈ fs.toList := List.mem_of_getElem? hf
        have hfa : fs[j]? = some f := by rw [← Array.getElem?_toList]; exact hf
        have hxj := hx j f hfa
        have hjl : j < xs.length := by rw [hxl]; exact (Array.getElem?_eq_some_iff.1 hfa).1
        rw [List.getElem?_eq_getElem hjl] at hxj
        rw [k3 j f hf] at hxj
        rw [← List.map_take, List.map_map]
        refine ih m f.type _ _ (k1 f hfm) (hp f hfm) hxj fun v hv => hw v ?_
        simp only [DataW.weights, hu]
        exact DataW.weights_mem_each (j := j) (t := f.type) (d := xs[j].1) (by rw [List.getElem?_map, hf]; rfl) (by rw [List.getElem?_map, List.getElem?_eq_getElem hjl]; rfl) v hv
      | array m e =>
        obtain ⟨xs, q, rfl, rfl, hl, hxl, hx⟩ := DataW.trod_array hu h
        obtain ⟨k1, k2⟩ := K.array hT hu
        refine parts_ok (P := P) (Shp P n) (List.replicate m e) cs (by rw [hl, k2]; simp) fun j u hj => ?_
        obtain ⟨hjm, rfl⟩ := List.getElem?_eq_some_iff.1 hj
        rw [List.length_replicate] at hjm
        rw [List.getElem_replicate]
        have hxj := hx j hjm
        rw [List.getElem?_eq_getElem (by omega)] at hxj
        have e1 : ((List.take j (List.replicate m e)).map P.cellsOf).sum = j * P.cellsOf e := by
          rw [List.take_replicate, Nat.min_eq_left (by omega)]; simp
        rw [e1]
        refine ih q e _ _ k1 hp hxj fun v hv => hw v ?_
        simp only [DataW.weights, hu]
        exact weightsAll_mem (List.mem_map.2 ⟨xs[j], List.getElem_mem _, rfl⟩) v hv
      | slice e =>
        simp only [Bool.and_eq_true, decide_eq_true_eq] at hp
        rcases DataW.trod_slice hu h with ⟨rfl, _⟩ | ⟨a, len, cap, elems, rest, m, rfl, rfl, rfl, hb, hlc, hcm, hel, hx, _⟩
        · refine ⟨[.row (P.cellsOf e) []], ⟨[], rfl, by simp, by simp⟩, ?_⟩
          simp only [CV.vals, CV.holds, and_true]
          exact ⟨none, 0, rfl, Nat.le_refl _, Nat.zero_le _, .inl trivial⟩
        · have hwe : ∀ i (hi : i < elems.length), ∀ v ∈ (elems[i].1).weights P e, v ≤ reachBytes := fun i hi v hv => hw v (by
            simp only [DataW.weights, hu, List.mem_cons, List.mem_append]
            exact .inr (.inl (weightsAll_mem (List.mem_map.2 ⟨elems[i], List.getElem_mem _, rfl⟩) v hv)))
          have hlen : (elems.length + rest.length) * P.bytesOf e ≤ reachBytes := hw _ (by simp [DataW.weights, hu])
          have hone : ∀ i, ∃ cv : List CV, (i < len → ∃ cells : List Value, w.cells? 0 (a.add (i * P.cellsOf e)) (P.cellsOf e) = some cells ∧ Shp P n e cv ∧ CV.vals w (fun b => b < w.heap.size) cv cells) := by
            intro i
            by_cases hi : i < len
            · have hxi := hx i hi
              rw [List.getElem?_eq_getElem (by omega), Option.bind_eq_some_iff] at hxi
              obtain ⟨cells, h1, h2⟩ := hxi
              obtain ⟨cv, h3, h4⟩ := ih m e cells _ (K.slice hT hu) hp.2 h2 (hwe i (by omega))
              exact ⟨cv, fun _ => ⟨cells, h1, h3, h4⟩⟩
            · exact ⟨[], fun h => absurd h hi⟩
          obtain ⟨g, hg⟩ := Classical.axiomOfChoice hone
          have hll : ((List.range len).map g).length = len := by simp
          refine ⟨[.row (P.cellsOf e) ((List.range len).map g)], ⟨_, rfl, ?_, ?_⟩, ?_⟩
          · intro y hy
            obtain ⟨i, hi, rfl⟩ := List.mem_map.1 hy
            rw [List.mem_range] at hi
            obtain ⟨_, _, h3, _⟩ := hg i hi
            exact h3
          · rw [hll]
            refine Nat.le_trans (Nat.mul_le_mul_right _ ?_) hlen
            omega
          · simp only [CV.vals, CV.holds, and_true]
            refine ⟨some a, cap, by rw [hll], by rw [hll]; exact hlc, hcm, ?_⟩
            by_cases h0 : len = 0
            · exact .inl (by simp [h0])
            · right
              have hcell : ∀ i, i < len → ∀ j v (cells : List Value), w.cells? 0 (a.add (i * P.cellsOf e)) (P.cellsOf e) = some cells → cells[j]? = some v → w.cell? ((a.add (i * P.cellsOf e)).add j) = some v := by
                intro i _ j v cells hc hj
                simp only [World.cells?, Nat.zero_le, if_true] at hc
                have hjl := (List.getElem?_eq_some_iff.1 hj).1
                have hll := mapM_some_length hc
                rw [List.length_range] at hll
                have hr : (List.range (P.cellsOf e))[j]? = some j := List.getElem?_range (by omega)
                have := mapM_some_get hc j j hr
                rw [this, hj]
              have hclen : ∀ (b : Addr) (cells : List Value), w.cells? 0 b (P.cellsOf e) = some cells → cells.length = P.cellsOf e := by
                intro b cells hc
                simp only [World.cells?, Nat.zero_le, if_true] at hc
                simpa using mapM_some_length hc
              obtain ⟨cells0, hc0, _, hv0⟩ := hg 0 (by omega)
              have hl0 : cells0.length = P.cellsOf e := hclen _ _ hc0
              have hpos : 0 < cells0.length := by omega
              have hz := hcell 0 (by omega) 0 cells0[0] cells0 hc0 (List.getElem?_eq_getElem hpos)
              have hz0 : (a.add (0 * P.cellsOf e)).add 0 = a := by simp [Addr.add]
              rw [hz0] at hz
              have hspot : a.spot = none ∧ a.block < w.heap.size := by
                unfold World.cell? at hz
                split at hz
                · rename_i c t fz hh
                  split at hz
                  · cases hz
                  · rename_i hs
                    refine ⟨by cases hsp : a.spot <;> simp [hsp] at hs ⊢, ?_⟩
                    by_cases hlt : a.block < w.heap.size
                    · exact hlt
                    · rw [Array.getElem?_eq_none (by omega)] at hh; cases hh
                · cases hz
              obtain ⟨ab, ao, asp⟩ := a
              simp only at hspot
              obtain ⟨rfl, hbl⟩ := hspot
              refine ⟨ab, ao, rfl, hbl, ?_⟩
              refine rows_of _ _ fun i hi => ?_
              rw [hll] at hi
              simp only [List.getElem_map, List.getElem_range]
              obtain ⟨cells, hc, _, hv⟩ := hg i hi
              have hlc' : cells.length = P.cellsOf e := hclen _ _ hc
              refine ⟨by rw [← hlc']; exact (CV.vals.length hv).symm, CV.cells.of_vals hv fun j v hj => ?_⟩
              have := hcell i hi j v cells hc hj
              have e0 : ∀ (b o m : Nat), (Addr.mk b o none).add m = ⟨b, o + m, none⟩ := by
                intro b o m
                unfold Addr.add
                by_cases hm : m = 0
                · subst hm; rfl
                · rw [if_neg hm]
              have e1 : ((Addr.mk ab ao none).add (i * P.cellsOf e)).add j = ⟨ab, ao + i * P.cellsOf e + j, none⟩ := by rw [e0, e0]
              rw [e1] at this
              exact this
      | _ => cases hp
end
end Go.Sx
namespace Go.Sx
open Go Go.ChangeShapes Go.WideShapes Go.ChangeAt Go.RowKit
def isAgg (P : Program) (t : TypeId) : Bool := match P.underlying t with
  | some (.struct _) => true
  | some (.array _ _) => true
  | _ => false
def avsOf (P : Program) : List TypeId → List (List CV) → List AV
  | t :: ts, c :: cs => (if isAgg P t = true then .agg (c.map .cv) else .cv (c.headD dC)) :: avsOf P ts cs
  | _, _ => []
def ShpAll (P : Program) (n : Nat) : List TypeId → List (List CV) → Prop
  | [], [] => True
  | t :: ts, c :: cs => Shp P n t c ∧ ShpAll P n ts cs
  | _, _ => False
theorem avsOf_closed (P : Program) : ∀ (ts : List TypeId) (cs : List (List CV)), AV.closeds (avsOf P ts cs) = true
  | [], [] => rfl
  | [], _ :: _ => rfl
  | _ :: _, [] => rfl
  | t :: ts, c :: cs => by
    have hc : ∀ (l : List CV), AV.closeds (l.map .cv) = true := by
      intro l
      induction l with
      | nil => rfl
      | cons x l ih => simp [AV.closeds, AV.closed, ih]
    simp only [avsOf, AV.closeds, Bool.and_eq_true]
    refine ⟨?_, avsOf_closed P ts cs⟩
    split
    · simp only [AV.closed]; exact hc c
    · rfl
theorem all_of_vals {e : Env} {w : World} {ks : List Nat} : ∀ {cs : List CV} {vs : List Value}, CV.vals w e.S cs vs → AV.all e w ks (cs.map .cv) vs
  | [], [], _ => by simp [AV.all]
  | c :: cs, v :: vs, h => by
    simp only [CV.vals] at h
    simp only [List.map_cons, AV.all, AV.holds]
    exact ⟨h.1, all_of_vals h.2⟩
  | [], _ :: _, h => by simp [CV.vals] at h
  | _ :: _, [], h => by simp [CV.vals] at h
section
variable {P : Program} {w : World}
theorem val_cells {base : Nat} {t : TypeId} {v : Value} {n : Nat} (hp : plT P n t = true) (ha : isAgg P t = false) (h : Value.okWide P w .any base t v) : v.cells = #[v] := by
  cases n with
  | zero => simp [plT] at hp
  | succ n =>
    simp only [plT] at hp
    simp only [isAgg] at ha
    unfold Value.okWide at h
    cases hu : P.underlying t with
    | none => rw [hu] at hp; cases hp
    | some U =>
      rw [hu] at hp ha h
      cases U with
      | bool => simp only [Cell.okWide, hu, Cell.ok] at h; cases v <;> simp_all [Value.cells]
      | int k => simp only [Cell.okWide, hu, Cell.ok] at h; cases v <;> simp_all [Value.cells]
      | slice e => simp only [Cell.okWide, hu, Cell.ok] at h; cases v <;> simp_all [Value.cells]
      | struct fs => cases ha
      | array m e => cases ha
      | _ => cases hp
theorem val_agg {base : Nat} {t : TypeId} {v : Value} (ha : isAgg P t = true) (h : Value.okWide P w .any base t v) : ∃ cs, v = .agg cs := by
  simp only [isAgg] at ha
  unfold Value.okWide at h
  cases hu : P.underlying t with
  | none => rw [hu] at ha; cases ha
  | some U =>
    rw [hu] at ha h
    cases U with
    | struct fs => obtain ⟨cs, h, _⟩ := h; exact ⟨cs, h⟩
    | array m e => obtain ⟨cs, h, _⟩ := h; exact ⟨cs, h⟩
    | _ => cases ha
variable {H : Type} {enc : TypeId × Value → H} {T : TypeId → Prop} {spare : Nat → Bool} {held : Bool}
theorem args_ok (K : Kids P T) {base : Nat} (n : Nat) : ∀ (ts : List TypeId) (vs : List Value) (ds : List (DataW H)) (ps : List MemPlace), (∀ t ∈ ts, T t) → ts.all (plT P n) = true →
    (∀ (j : Nat) t v, ts[j]? = some t → vs[j]? = some v → Value.okWide P w .any base t v) → DataW.TrodAll enc P w 0 spare held ts vs ds ps → (∀ m ∈ DataW.weightsEach P ts ds, m ≤ reachBytes) →
    ∃ css : List (List CV), ShpAll P n ts css ∧ ∀ (e : Env) (ks : List Nat), (e.S = fun b => b < w.heap.size) → AV.all e w ks (avsOf P ts css) vs
  | [], vs, ds, ps, _, _, _, h, _ => by
    obtain ⟨rfl, _, _⟩ := trodAll_nil h
    exact ⟨[], trivial, fun e ks _ => by simp [avsOf, AV.all]⟩
  | t :: ts, vs, ds, ps, hT, hp, hv, h, hw => by
    obtain ⟨v, vs', d, ds', p, q, rfl, rfl, rfl, ⟨fuel, h1⟩, h2⟩ := trodAll_cons h
    simp only [List.all_cons, Bool.and_eq_true] at hp
    simp only [DataW.weightsEach, List.mem_append] at hw
    obtain ⟨css, s1, s2⟩ := args_ok K n ts vs' ds' q (fun u hu => hT u (by simp [hu])) hp.2 (fun j u x hj hx => hv (j + 1) u x (by simpa using hj) (by simpa using hx)) h2 (fun m hm => hw m (.inr hm))
    obtain ⟨cvs, c1, c2⟩ := cv_trod K n fuel t v.cells.toList _ (hT t (by simp)) hp.1 h1 (fun m hm => hw m (.inl hm))
    refine ⟨cvs :: css, ⟨c1, s1⟩, fun e ks he => ?_⟩
    have hv0 := hv 0 t v rfl rfl
    simp only [avsOf, AV.all]
    refine ⟨?_, s2 e ks he⟩
    cases ha : isAgg P t with
    | true =>
      obtain ⟨cs, rfl⟩ := val_agg ha hv0
      simp only [if_true, AV.holds]
      exact ⟨cs, rfl, all_of_vals (by rw [he]; exact c2)⟩
    | false =>
      have hc := val_cells hp.1 ha hv0
      rw [hc] at c2
      simp only [Bool.false_eq_true, if_false, AV.holds]
      match cvs, c2 with
      | [c], c2 =>
        simp only [CV.vals, and_true] at c2
        rw [he]; exact c2
      | [], c2 => simp [CV.vals] at c2
      | _ :: _ :: _, c2 => simp [CV.vals] at c2
end
theorem trodAll_len {H : Type} {enc : TypeId × Value → H} {P : Program} {W : World} {sp : Nat → Bool} {hd : Bool} : ∀ {ts : List TypeId} {vs : List Value} {ds : List (DataW H)} {ps : List MemPlace}, DataW.TrodAll enc P W 0 sp hd ts vs ds ps → ds.length = ts.length
  | [], vs, ds, ps, hA => by obtain ⟨rfl, rfl, rfl⟩ := trodAll_nil hA; rfl
  | t :: ts, vs, ds, ps, hA => by
    obtain ⟨v, vs', d, ds', p1, p2, rfl, rfl, rfl, _, h2⟩ := trodAll_cons hA
    simp [trodAll_len h2]
theorem trodAll_up {H : Type} {enc : TypeId × Value → H} {P : Program} {W W' : World} {sp : Nat → Bool} {hd : Bool} (hB : Below W.heap.size W W') : ∀ {ts : List TypeId} {vs : List Value} {ds : List (DataW H)} {ps : List MemPlace}, DataW.TrodAll enc P W 0 sp hd ts vs ds ps → DataW.TrodAll enc P W' 0 sp hd ts vs ds ps
  | [], vs, ds, ps, hA => by obtain ⟨rfl, rfl, rfl⟩ := trodAll_nil hA; exact rfl
  | t :: ts, vs, ds, ps, hA => by
    obtain ⟨v, vs', d, ds', p1, p2, rfl, rfl, rfl, ⟨fuel, h1⟩, h2⟩ := trodAll_cons hA
    exact ⟨p1, p2, ⟨fuel, DataW.trod_carry fuel _ _ _ h1 fun x hx => hB.same (DataW.trod_lt fuel _ _ _ h1 x hx)⟩, trodAll_up hB h2, rfl⟩
theorem law_lift {C : Checked} {os : Os} {f : FuncId} {fn : Func} {s : ChangeSpec} {conds : List PathCond} {fresh handsOn : Bool} {H : Type} {enc : TypeId × Value → H} {tb : TypeId} (n : Nat)
    (own : ownKnob C.prog.godebug = none) (started : os.Started) (noInit : C.prog.inits.idxOf? f = none) (hfn : C.prog.funcs[f]? = some fn)
    (K : Kids C.prog (· < C.prog.types.size)) (hz : ∀ t e, t < C.prog.types.size → C.prog.underlying t = some (.slice e) → 0 < C.prog.cellsOf e)
    (hts : ∀ t ∈ fn.params.toList, t < C.prog.types.size) (hpl : fn.params.toList.all (plT C.prog n) = true) (hres : fn.resultTypes = #[tb]) (hb : C.prog.underlying tb = some .bool)
    (hvars : s.vars = []) (hspec : ∀ ds : List (DataW H), ds.length = fn.params.toList.length → s.fn H (ds ++ []) = { results := [.lit (.bool true)], args := ds })
    (witness : ∃ (w : World) (tape : Tape) (i : Input), w.os = os ∧ (w.forCall tape i).Shaped C.prog ∧ i.vars = [] ∧ Input.okWide C.prog (w.forCall tape i) .any w.heap.size f i ∧
      s.pre6 enc C.prog fn conds false (w.forCall tape i).memory i.args ∧ ({} : Assume).holds C.prog (lone (Frame.enter C.prog f i.args .normal) [] (w.forCall tape i)))
    (law : ∀ css, ShpAll C.prog n fn.params.toList css → SpecR C.prog f (avsOf C.prog fn.params.toList css) (.cv (cb true))) :
    ReturnsInHanded {} C os f .any (s.pre6 enc C.prog fn conds false) (s.post enc C.prog fn false fresh handsOn false) := by
  refine returnsInHanded_of_change_sized own started noInit hfn witness ?_
  intro W base args ds gs before hval hW hcnd hsz _
  have hW' := hW
  obtain ⟨p, q, hA, hV, rfl, hfz, hnd⟩ := hW
  rw [hvars] at hV
  obtain ⟨rfl, rfl⟩ := trodVars_none hV
  simp only [List.append_nil] at hW'
  have hwt : ∀ m ∈ DataW.weightsEach C.prog fn.params.toList ds, m ≤ reachBytes := by
    intro m hm
    have hh : ∀ (ts us : List TypeId) (ds : List (DataW H)), m ∈ DataW.weightsEach C.prog ts ds → m ∈ DataW.weightsEach C.prog (ts ++ us) ds := by
      intro ts
      induction ts with
      | nil => intro us ds h; simp [DataW.weightsEach] at h
      | cons t ts ih =>
        intro us ds h
        cases ds with
        | nil => simp [DataW.weightsEach] at h
        | cons d ds =>
          simp only [DataW.weightsEach, List.mem_append, List.cons_append] at h ⊢
          exact h.imp id (ih us ds)
    have := List.all_eq_true.1 hsz m (by rw [List.append_nil]; exact hh _ _ _ hm)
    simpa using this
  obtain ⟨css, s1, s2⟩ := args_ok K n fn.params.toList args.toList ds p hts hpl (fun j t v hj hv => hval j t v (by rw [← Array.getElem?_toList]; exact hj) (by rw [← Array.getElem?_toList]; exact hv)) hA hwt
  let e0 : Env := { ρ := fun _ => 0, hdr := fun _ _ => undef, S := fun b => b < W.heap.size, base := W.heap.size }
  have hm : Mem W.heap.size W e0 [] [] W := Mem.nothing e0 W fun b hb => hb
  have hc := law css s1 Fence.wide 0 free_wide rfl W.heap.size W e0 W args hm (s2 e0 _ rfl) (AV.scos_closed _ _ _ (avsOf_closed _ _ _))
  refine (CallsIn.calls hc (fun k => by simp [Fence.room, Fence.wide])).mono ?_
  rintro en W' ⟨e', B', V', r, v, rfl, ⟨rfl, rfl, rfl⟩, hmem, _, hr, _⟩
  simp only [AV.holds, cb, CV.holds] at hr
  obtain ⟨rfl, _⟩ := hr
  have hB := hmem.below
  have hdl := trodAll_len hA
  refine ⟨_, rfl, ds, [], p, [], p, [], hW', ?_, ?_, ?_, hB.frame _, fun h => by cases h⟩
  · rw [hspec ds hdl, hres]
    exact trodAll_mk1 (shut_bool hb true)
  · rw [hspec ds hdl]
    have h1 := trodAll_up hB hA
    exact DataW.TrodAll.respare K hz hts h1 (fun x hx => by simpa using DataW.TrodAll.lt hA x hx)
  · rw [hspec ds hdl, hvars]; rfl
end Go.Sx
