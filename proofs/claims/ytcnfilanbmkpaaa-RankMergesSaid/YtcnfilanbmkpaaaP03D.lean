/- Rank: one key more, one fewer, two rows as one: what the functions come to, by both roads. -/
import Derived.Test.YtcnfilanbmkpaaaS03F7
import Derived.Test.YtcnfilanbmkpaaaP03C
set_option linter.all false
namespace Go.Proofs.YtcnfilanbmkpaaaE
open Go Go.Proofs
set_option maxRecDepth 100000
set_option linter.unusedVariables false

/-! ### rows in order -/
def SP (l : List Key) : Prop := l.Pairwise (fun a b => less a b = true)
theorem chk_zero {l : List Key} : chk l = 0 ↔ uniq l = true ∧ ¬ bad l := by
  unfold chk
  split
  · split
    · rename_i h1 h2; simp [h2]
    · rename_i h1 h2; simp [h1, h2]
  · rename_i h1; simp [h1]
theorem sp_le {l : List Key} (h : SP l) : l.Pairwise (fun a b => le a b = true) := h.imp fun h => by simp [le, less_asymm h]
theorem sp_of {l : List Key} (h : chk l = 0) : SP l := by
  have hb := (chk_zero.1 h).2
  unfold SP
  rw [List.pairwise_iff_getElem]
  have step : ∀ d i, (hi : i + d + 1 < l.length) → less (l.getD i zK) (l.getD (i + d + 1) zK) = true := by
    intro d
    induction d with
    | zero =>
      intro i hi
      cases c : less (l.getD i zK) (l.getD (i + 0 + 1) zK) with
      | true => rfl
      | false => exact absurd ⟨i + 1, by omega, by omega, c⟩ hb
    | succ d ih =>
      intro i hi
      have h1 := ih i (by omega)
      refine less_trans h1 ?_
      cases c : less (l.getD (i + d + 1) zK) (l.getD (i + (d + 1) + 1) zK) with
      | true => rfl
      | false => exact absurd ⟨i + d + 1 + 1, by omega, by omega, c⟩ hb
  intro i j hi hj hij
  have := step (j - i - 1) i (by omega)
  have e : i + (j - i - 1) + 1 = j := by omega
  rw [e, getD_lt hi, getD_lt hj] at this
  exact this
theorem chk_of {l : List Key} (hu : uniq l = true) (h : SP l) : chk l = 0 := by
  refine chk_zero.2 ⟨hu, ?_⟩
  rintro ⟨j, h1, h2, h3⟩
  unfold SP at h
  rw [List.pairwise_iff_getElem] at h
  have := h (j - 1) j (by omega) h2 (by omega)
  rw [getD_lt (by omega), getD_lt h2, this] at h3
  cases h3
theorem sp_isort {l : List Key} (hu : uniq l = true) : SP (isort l) := by
  have h := isort_pair l
  have hn : (ids (isort l)).Nodup := ((isort_perm l).map kid).nodup_iff.2 (of_decide_eq_true hu)
  unfold SP
  rw [List.pairwise_iff_getElem] at h ⊢
  intro i j hi hj hij
  have h1 := h i j hi hj hij
  cases c : less (isort l)[i] (isort l)[j] with
  | true => rfl
  | false =>
    exfalso
    simp only [le, Bool.not_eq_true'] at h1
    have e := less_total c h1
    have hn := List.nodup_iff_pairwise_ne.1 hn
    rw [List.pairwise_iff_getElem] at hn
    exact hn i j (by simpa [ids] using hi) (by simpa [ids] using hj) hij (by simp [ids, e])
theorem uniq_perm {l m : List Key} (h : l.Perm m) : uniq l = uniq m := by
  unfold uniq
  exact decide_eq_decide.2 ((h.map kid).nodup_iff)
theorem isort_fix {l : List Key} (h : SP l) : isort l = l := one_row (isort_pair l) (sp_le h) (isort_perm l)
theorem isort_of_perm {l m : List Key} (h : l.Perm m) : isort l = isort m := one_row (isort_pair l) (isort_pair m) ((isort_perm l).trans (h.trans (isort_perm m).symm))
theorem chk_isort {l : List Key} (hu : uniq l = true) : chk (isort l) = 0 := chk_of ((uniq_perm (isort_perm l)).trans hu) (sp_isort hu)

/-! ### is one there? -/
theorem L1054_eq (K : Nat) (l : List Key) (k : Key) (hl : l.length ≤ 100000) : ∀ (n : Nat) (pre suf : List Key), l = pre ++ suf → suf.length < n → ¬ kid k ∈ ids pre →
    ∃ r : Int, L1054_0 (F43 K) K l k n (pre.length : Int) = some r ∧ (decide (r ≥ 0)) = decide (kid k ∈ ids l)
  | 0, pre, suf, e, h, hn => by omega
  | n + 1, pre, [], e, h, hn => by
    have := fin e
    rw [this.2] at hn
    refine ⟨-1, ?_, ?_⟩
    · simp only [L1054_0, b1054_0, this.1]
      rfl
    · rw [decide_eq_false hn]; rfl
  | n + 1, pre, x :: xs, e, h, hn => by
    obtain ⟨h1, h2, h3, h4, h5, h6⟩ := mid e (zEl T35) (by omega)
    have e43 : F43 K x k = some (x.2.2 == k.2.2) := rfl
    simp only [L1054_0, b1054_0, h1, h2, h3, h4, if_true, e43, Option.bind_some]
    by_cases c : x.2.2 = k.2.2
    · rw [if_pos (beq_iff_eq.2 c)]
      refine ⟨_, rfl, ?_⟩
      have hm : kid k ∈ ids l := by
        rw [e]; simp only [ids, List.map_append, List.map_cons, List.mem_append, List.mem_cons]
        exact .inr (.inl c.symm)
      rw [decide_eq_true hm]
      exact decide_eq_true (by omega)
    · rw [if_neg (fun h => c (beq_iff_eq.1 h))]
      refine L1054_eq K l k hl n (pre ++ [x]) xs h5 (by simpa using h) ?_
      simp only [ids, List.map_append, List.map_cons, List.map_nil, List.mem_append, List.mem_singleton, not_or]
      exact ⟨hn, fun h => c h.symm⟩
theorem F42_eq (K : Nat) (l : List Key) (k : Key) (hl : l.length ≤ 100000) (hK : l.length < K) : F42 K l k = some (decide (kid k ∈ ids l)) := by
  obtain ⟨r, h1, h2⟩ := L1054_eq K l k hl K [] l rfl hK (by simp [ids])
  show Option.bind (F1054 K l k) _ = _
  have h1 : F1054 K l k = some r := h1
  rw [h1, Option.bind_some, h2]

/-! ### where does one lie? -/
def at' (l : List Key) (k : Key) : Nat := (l.takeWhile (fun x => less x k)).length
theorem at_le (l : List Key) (k : Key) : at' l k ≤ l.length := (List.takeWhile_sublist _).length_le
theorem ins_at (k : Key) : ∀ l : List Key, ins k l = l.take (at' l k) ++ [k] ++ l.drop (at' l k)
  | [] => rfl
  | x :: xs => by
    unfold ins at'
    rw [List.takeWhile_cons]
    cases c : less x k with
    | true =>
      have := ins_at k xs
      simp only [if_true, List.length_cons, List.take_succ_cons, List.drop_succ_cons, List.cons_append, this, at']
    | false => rfl
theorem at_get {k : Key} : ∀ {l : List Key}, SP l → ∀ i, i < l.length → less (l.getD i zK) k = decide (i < at' l k)
  | [], h, i, hi => by cases hi
  | x :: xs, h, i, hi => by
    unfold SP at h
    rw [List.pairwise_cons] at h
    unfold at'
    rw [List.takeWhile_cons]
    cases c : less x k with
    | true =>
      cases i with
      | zero => simp [c]
      | succ i =>
        have := at_get (k := k) h.2 i (by simpa using hi)
        simp only [if_true, List.length_cons, List.getD_cons_succ, this, at']
        exact decide_eq_decide.2 (by omega)
    | false =>
      have hz : decide (i < ([] : List Key).length) = false := decide_eq_false (by simp)
      rw [if_neg Bool.false_ne_true, hz]
      cases i with
      | zero => exact c
      | succ i =>
        have hi : i < xs.length := by simpa using hi
        rw [List.getD_cons_succ]
        cases d : less (xs.getD i zK) k with
        | false => rfl
        | true =>
          rw [getD_lt hi] at d
          have := less_trans (h.1 xs[i] (List.getElem_mem hi)) d
          rw [c] at this
          cases this
theorem half {i j : Nat} (h : i + j ≤ 1000000) : IntKind.i64.wrap ((IntKind.u64.wrap (IntKind.i64.wrap ((i : Int) + (j : Int)))).fdiv ((2 : Int) ^ min (Int.toNat (1 : Int)) IntKind.u64.bits)) = (((i + j) / 2 : Nat) : Int) := by
  have e1 : IntKind.i64.wrap ((i : Int) + (j : Int)) = ((i + j : Nat) : Int) := by rw [i64_in (by omega) (by omega)]; omega
  have e2 : IntKind.u64.wrap ((i + j : Nat) : Int) = ((i + j : Nat) : Int) := u64_in (by omega) (by omega)
  have e3 : ((2 : Int) ^ min (Int.toNat (1 : Int)) IntKind.u64.bits) = 2 := by decide
  rw [e1, e2, e3, Int.fdiv_eq_ediv_of_nonneg _ (by omega), i64_in (by omega) (by omega)]
  omega
theorem L44_eq (K : Nat) (hK : 4 ≤ K) (l : List Key) (k : Key) (hl : l.length ≤ 100000) (hs : SP l) : ∀ (n i j : Nat), j - i < n → i ≤ at' l k → at' l k ≤ j → j ≤ l.length →
    ∃ b, L44_0 (F34 K) K l k () n (i : Int) (j : Int) = some ((at' l k : Int), b)
  | 0, i, j, h, _, _, _ => by omega
  | n + 1, i, j, h, h1, h2, h3 => by
    simp only [L44_0, b44_0]
    by_cases c : i < j
    · have d1 : decide ((i : Int) < (j : Int)) = true := decide_eq_true (by omega)
      have hm : (i + j) / 2 < l.length := by omega
      have d2 : decide ((0 : Int) ≤ (((i + j) / 2 : Nat) : Int) ∧ (((i + j) / 2 : Nat) : Int) < (l.length : Int)) = true := decide_eq_true (by omega)
      have e1 : IntKind.i64.wrap ((((i + j) / 2 : Nat) : Int) + 1) = (((i + j) / 2 + 1 : Nat) : Int) := by rw [i64_in (by omega) (by omega)]; omega
      simp only [half (show i + j ≤ 1000000 by omega), d1, d2, e1, if_true, Int.toNat_natCast, F34_eq K hK, Option.bind_some, cmpK_less, at_get hs _ hm]
      by_cases c2 : (i + j) / 2 < at' l k
      · rw [if_pos (decide_eq_true c2)]
        exact L44_eq K hK l k hl hs n ((i + j) / 2 + 1) j (by omega) (by omega) h2 h3
      · rw [if_neg (by simpa using c2)]
        exact L44_eq K hK l k hl hs n i ((i + j) / 2) (by omega) h1 (by omega) (by omega)
    · have d1 : decide ((i : Int) < (j : Int)) = false := decide_eq_false (by omega)
      have ei : i = at' l k := by omega
      rw [d1, if_neg Bool.false_ne_true, ← ei]
      by_cases c2 : i < l.length
      · have d2 : decide ((i : Int) < (l.length : Int)) = true := decide_eq_true (by omega)
        have d3 : decide ((0 : Int) ≤ (i : Int) ∧ (i : Int) < (l.length : Int)) = true := decide_eq_true (by omega)
        rw [d2, if_pos rfl, d3, if_pos rfl, F34_eq K hK, Option.bind_some]
        exact ⟨_, rfl⟩
      · have d2 : decide ((i : Int) < (l.length : Int)) = false := decide_eq_false (by omega)
        rw [d2, if_neg Bool.false_ne_true]
        exact ⟨_, rfl⟩
theorem F44_eq (K : Nat) (hK : 4 ≤ K) (l : List Key) (k : Key) (hl : l.length ≤ 100000) (hs : SP l) (hk : l.length < K) : ∃ b, F44 K l k () = some ((at' l k : Int), b) :=
  L44_eq K hK l k hl hs K 0 l.length (by omega) (Nat.zero_le _) (at_le l k) (Nat.le_refl _)

/-! ### one more -/
noncomputable def put (l : List Key) (k : Key) : List Key × Int := if chk l ≠ 0 then ([], chk l) else if kid k ∈ ids l then ([], 30) else (ins k l, 0)
theorem F28_eq (K : Nat) (hK : 4 ≤ K) (l : List Key) (k : Key) (hl : l.length ≤ 50000) (hk : l.length + 1 < K) : F28 K l k = some (put l k) := by
  unfold put
  show Option.bind (F13 K l) _ = _
  rw [F13_eq K hK l (by omega) hk, Option.bind_some]
  by_cases c : chk l = 0
  · rw [if_neg (by simp [c]), if_neg (by simp [c]), F42_eq K l k (by omega) (by omega), Option.bind_some]
    by_cases c2 : kid k ∈ ids l
    · rw [if_pos (decide_eq_true c2), if_pos c2]
    · obtain ⟨b, hb⟩ := F44_eq K hK l k (by omega) (sp_of c) (by omega)
      rw [if_neg (by simpa using c2), if_neg c2, hb, Option.bind_some, F35_eq K l (by omega), Option.bind_some]
      have := at_le l k
      unfold F45
      simp only []
      rw [if_pos ⟨by omega, by omega, by simp, by simp; omega⟩, Option.bind_some, ins_at, Int.toNat_natCast]
  · rw [if_pos (by simpa using c), if_pos c]
theorem L29_eq (K : Nat) (l : List Key) (k : Key) (hl : l.length ≤ 50000) (hK : l.length < K) : ∀ (n : Nat) (pre suf : List Key), l = pre ++ suf → suf.length < n → ¬ kid k ∈ ids pre →
    L29_0 (F16 K) (F38 K) K l k n (pre.length : Int) = some (if kid k ∈ ids l then ([], 30) else (ins k l, 0))
  | 0, pre, suf, e, h, hn => by omega
  | n + 1, pre, [], e, h, hn => by
    have := fin e
    rw [this.2] at hn
    simp only [L29_0, b29_0, this.1, F38_eq K l k hl hK, Option.bind_some, Bool.false_eq_true, if_false]
    rw [if_neg hn]
  | n + 1, pre, x :: xs, e, h, hn => by
    obtain ⟨h1, h2, h3, h4, h5, h6⟩ := mid e (zEl T35) (by omega)
    simp only [L29_0, b29_0, h1, h2, h3, h4, if_true]
    by_cases c : x.2.2 = k.2.2
    · have hm : kid k ∈ ids l := by
        rw [e]; simp only [ids, List.map_append, List.map_cons, List.mem_append, List.mem_cons]
        exact .inr (.inl c.symm)
      rw [if_pos (beq_iff_eq.2 c), if_pos hm]
    · rw [if_neg (fun h => c (beq_iff_eq.1 h))]
      refine L29_eq K l k hl hK n (pre ++ [x]) xs h5 (by simpa using h) ?_
      simp only [ids, List.map_append, List.map_cons, List.map_nil, List.mem_append, List.mem_singleton, not_or]
      exact ⟨hn, fun h => c h.symm⟩
theorem F29_eq (K : Nat) (l : List Key) (k : Key) (hl : l.length ≤ 50000) (hk : l.length + 1 < K) : F29 K l k = some (put l k) := by
  unfold put
  show Option.bind (F16 K l) _ = _
  rw [F16_eq K l (by omega) hk, Option.bind_some]
  by_cases c : chk l = 0
  · rw [if_neg (by simp [c]), if_neg (by simp [c])]
    exact L29_eq K l k hl (by omega) K [] l rfl (by omega) (by simp [ids])
  · rw [if_pos (by simpa using c), if_pos c]

/-! ### one fewer -/
def less1 (id : Int) (l : List Key) : List Key := l.filter (fun u => !(u.2.2 == id))
noncomputable def drop1 (l : List Key) (id : Int) : List Key × Bool := if chk l ≠ 0 then ([], false) else (less1 id l, decide (((less1 id l).length : Int) < (l.length : Int)))
theorem F30_eq (K : Nat) (hK : 4 ≤ K) (l : List Key) (id : Int) (hl : l.length ≤ 50000) (hk : l.length + 1 < K) : F30 K l id = some (drop1 l id) := by
  unfold drop1
  show Option.bind (F13 K l) _ = _
  rw [F13_eq K hK l (by omega) hk, Option.bind_some]
  by_cases c : chk l = 0
  · rw [if_neg (by simp [c]), if_neg (by simp [c]), F35_eq K l (by omega), Option.bind_some]
    rfl
  · rw [if_pos (by simpa using c), if_pos c]
theorem L31_eq (K : Nat) (l : List Key) (id : Int) (hl : l.length ≤ 50000) : ∀ (n : Nat) (pre suf : List Key), l = pre ++ suf → suf.length < n →
    L31_0 (F16 K) K l id n (pre.length : Int) (less1 id pre) = some (less1 id l, (((less1 id l).length : Int) != (l.length : Int)))
  | 0, pre, suf, e, h => by omega
  | n + 1, pre, [], e, h => by
    have := fin e
    simp only [L31_0, b31_0, this.1]
    rw [this.2]
    rfl
  | n + 1, pre, x :: xs, e, h => by
    obtain ⟨h1, h2, h3, h4, h5, h6⟩ := mid e (zEl T35) (by omega)
    have ih := L31_eq K l id hl n (pre ++ [x]) xs h5 (by simpa using h)
    have hle : pre.length ≤ 50000 := by omega
    have hf : (less1 id pre).length ≤ pre.length := List.length_filter_le _ _
    simp only [L31_0, b31_0, h1, h2, h3, h4, if_true]
    by_cases c : x.2.2 = id
    · rw [if_neg (by simp [c])]
      rw [← ih]
      congr 1
      simp [less1, c]
    · rw [if_pos (by simpa using c), if_pos (fits (by simp; omega)), ← ih]
      congr 1
      simp [less1, c]
theorem F31_eq (K : Nat) (l : List Key) (id : Int) (hl : l.length ≤ 50000) (hk : l.length + 1 < K) : F31 K l id = some (drop1 l id) := by
  unfold drop1
  show Option.bind (F16 K l) _ = _
  rw [F16_eq K l (by omega) hk, Option.bind_some]
  by_cases c : chk l = 0
  · rw [if_neg (by simp [c]), if_neg (by simp [c])]
    refine (L31_eq K l id hl K [] l rfl (by omega)).trans ?_
    have hf : (less1 id l).length ≤ l.length := List.length_filter_le _ _
    congr 2
    by_cases e : (less1 id l).length = l.length
    · rw [e]; simp
    · rw [decide_eq_true (by omega)]
      simp; omega
  · rw [if_pos (by simpa using c), if_pos c]

/-! ### two, as one -/
theorem F40_eq (K : Nat) (hK : 4 ≤ K) (x y : Int) : F40 K [x, y] = some (if x ≠ 0 then x else y) := by
  obtain ⟨m, rfl⟩ : ∃ m, K = m + 4 := ⟨K - 4, by omega⟩
  have e1 : IntKind.i64.wrap ((0 : Int) + 1) = 1 := by rw [i64_in] <;> omega
  have e2 : IntKind.i64.wrap ((1 : Int) + 1) = 2 := by rw [i64_in] <;> omega
  simp only [F40, G40, t40, L40_0, b40_0, e1, e2]
  by_cases c1 : x = 0
  · by_cases c2 : y = 0
    · simp [c1, c2]
    · simp [c1, c2]
  · simp [c1]
theorem F41_eq (K : Nat) (hK : 4 ≤ K) (a b : List Key) (ha : a.length ≤ 50000) (hb : b.length ≤ 50000) : F41 K [a, b] = some (a ++ b) := by
  obtain ⟨m, rfl⟩ : ∃ m, K = m + 4 := ⟨K - 4, by omega⟩
  have e1 : IntKind.i64.wrap ((0 : Int) + 1) = 1 := by rw [i64_in] <;> omega
  have e2 : IntKind.i64.wrap ((1 : Int) + 1) = 2 := by rw [i64_in] <;> omega
  have e3 : IntKind.i64.wrap ((0 : Int) + (a.length : Int)) = (a.length : Int) := by rw [i64_in] <;> omega
  have e4 : IntKind.i64.wrap ((a.length : Int) + (b.length : Int)) = (a.length : Int) + (b.length : Int) := by rw [i64_in] <;> omega
  have d1 : decide ((a.length : Int) < 0) = false := decide_eq_false (by omega)
  have d2 : decide ((a.length : Int) + (b.length : Int) < 0) = false := decide_eq_false (by omega)
  have f53 : F53 (m + 4) () ((a.length : Int) + (b.length : Int)) = some [] := by
    unfold F53
    rw [if_pos ⟨by omega, by omega⟩]
  have g0 : List.getD ([a, b] : List (List Key)) (Int.toNat 0) (zEl T35.sl) = a := rfl
  have g1 : List.getD ([a, b] : List (List Key)) (Int.toNat 1) (zEl T35.sl) = b := rfl
  have t0 : decide ((0 : Int) < (([a, b] : List (List Key)).length : Int)) = true := rfl
  have t1 : decide ((1 : Int) < (([a, b] : List (List Key)).length : Int)) = true := rfl
  have t2 : decide ((2 : Int) < (([a, b] : List (List Key)).length : Int)) = false := rfl
  have t3 : decide ((0 : Int) ≤ 0 ∧ (0 : Int) < (([a, b] : List (List Key)).length : Int)) = true := rfl
  have t4 : decide ((0 : Int) ≤ 1 ∧ (1 : Int) < (([a, b] : List (List Key)).length : Int)) = true := rfl
  have u0 := fits (n := ([] : List Key).length + a.length) (by simp; omega)
  have u1 := fits (n := (([] : List Key) ++ a).length + b.length) (by simp; omega)
  unfold F41 G41 t41
  simp only [L41_0, b41_0, El, g0, g1, t0, t1, t2, t3, t4, e1, e2, e3, e4, d1, d2, if_true, if_false, Bool.false_eq_true, f53, Option.bind_some, L41_1, b41_1]
  rw [if_pos u0, if_pos u1]
  simp
abbrev PW (l : List Key) : Prop := l.Pairwise (fun a b => le a b = true)
theorem L26_eq (K : Nat) (hK : 4 ≤ K) (A B : List Key) (u : List Int) (v : List Key) : ∀ (n : Nat) (a b acc : List Key), a.length + b.length < n → acc.length + a.length + b.length ≤ 90000 → PW a → PW b →
    ∃ r : List Key, L26_0 (F13 K) (F40 K) (F41 K) (F32 K) (F18 K) K A B n a b u v acc = some (acc ++ r, 0) ∧ r.Perm (a ++ b) ∧ PW r
  | 0, a, b, acc, h, _, _, _ => by omega
  | n + 1, [], b, acc, h, h1, ha, hb => by
    refine ⟨b, ?_, .refl _, hb⟩
    simp only [List.length_nil] at h1
    have u0 := fits (n := acc.length + ([] : List Key).length) (by simp; omega)
    have u1 := fits (n := (acc ++ ([] : List Key)).length + b.length) (by simp; omega)
    have t0 : decide (((([] : List Key).length : Nat) : Int) > 0) = false := rfl
    simp only [L26_0, b26_0, t0, Bool.false_eq_true, if_false]
    rw [if_pos u0, if_pos u1, List.append_nil]
  | n + 1, x :: xs, [], acc, h, h1, ha, hb => by
    refine ⟨x :: xs, ?_, by simp, ha⟩
    simp only [List.length_cons, List.length_nil] at h1
    have u0 := fits (n := acc.length + (x :: xs).length) (by simp; omega)
    have u1 := fits (n := (acc ++ (x :: xs)).length + ([] : List Key).length) (by simp; omega)
    have t0 : decide ((((x :: xs).length : Nat) : Int) > 0) = true := decide_eq_true (by simp)
    have t1 : decide (((([] : List Key).length : Nat) : Int) > 0) = false := rfl
    simp only [L26_0, b26_0, t0, t1, Bool.false_eq_true, if_false, if_true]
    rw [if_pos u0, if_pos u1, List.append_nil]
  | n + 1, x :: xs, y :: ys, acc, h, h1, ha, hb => by
    simp only [List.length_cons] at h h1
    have u0 : ∀ z : Key, _ := fun z => fits (n := acc.length + [z].length) (by simp; omega)
    have t0 : decide ((((x :: xs).length : Nat) : Int) > 0) = true := decide_eq_true (by simp)
    have t1 : decide ((((y :: ys).length : Nat) : Int) > 0) = true := decide_eq_true (by simp <;> omega)
    have t2 : decide ((0 : Int) ≤ 0 ∧ (0 : Int) < (((x :: xs).length : Nat) : Int)) = true := decide_eq_true (by simp <;> omega)
    have t3 : decide ((0 : Int) ≤ 0 ∧ (0 : Int) < (((y :: ys).length : Nat) : Int)) = true := decide_eq_true (by simp <;> omega)
    have t4 : decide ((0 : Int) ≤ 1 ∧ (1 : Int) ≤ (((x :: xs).length : Nat) : Int) ∧ (((x :: xs).length : Nat) : Int) ≤ (((x :: xs).length : Nat) : Int)) = true := decide_eq_true (by simp <;> omega)
    have t5 : decide ((0 : Int) ≤ 1 ∧ (1 : Int) ≤ (((y :: ys).length : Nat) : Int) ∧ (((y :: ys).length : Nat) : Int) ≤ (((y :: ys).length : Nat) : Int)) = true := decide_eq_true (by simp <;> omega)
    have g0 : (x :: xs).getD (Int.toNat 0) (zEl T35) = x := rfl
    have g1 : (y :: ys).getD (Int.toNat 0) (zEl T35) = y := rfl
    have k0 : List.drop (Int.toNat 1) (List.take (((x :: xs).length : Nat) : Int).toNat (x :: xs)) = xs := by rw [Int.toNat_natCast, List.take_length]; rfl
    have k1 : List.drop (Int.toNat 1) (List.take (((y :: ys).length : Nat) : Int).toNat (y :: ys)) = ys := by rw [Int.toNat_natCast, List.take_length]; rfl
    simp only [L26_0, b26_0, t0, t1, t2, t3, t4, t5, g0, g1, k0, k1, if_true, F18_eq K hK, Option.bind_some]
    cases c : less x y with
    | true =>
      rw [if_pos rfl, if_pos (u0 x)]
      obtain ⟨r, r1, r2, r3⟩ := L26_eq K hK A B u v n xs (y :: ys) (acc ++ [x]) (by simp; omega) (by simp; omega) (List.pairwise_cons.1 ha).2 hb
      refine ⟨x :: r, by rw [r1]; simp, r2.cons x, List.pairwise_cons.2 ⟨fun z hz => ?_, r3⟩⟩
      have hxy : le x y = true := by simp [le, less_asymm c]
      rcases List.mem_append.1 (r2.mem_iff.1 hz) with hz | hz
      · exact (List.pairwise_cons.1 ha).1 z hz
      · rcases List.mem_cons.1 hz with rfl | hz
        · exact hxy
        · exact le_trans' _ _ _ hxy ((List.pairwise_cons.1 hb).1 z hz)
    | false =>
      rw [if_neg Bool.false_ne_true, if_pos (u0 y)]
      obtain ⟨r, r1, r2, r3⟩ := L26_eq K hK A B u v n (x :: xs) ys (acc ++ [y]) (by simp; omega) (by simp; omega) ha (List.pairwise_cons.1 hb).2
      have hyx : le y x = true := by simp [le, c]
      refine ⟨y :: r, by rw [r1]; simp, (r2.cons y).trans List.perm_middle.symm, List.pairwise_cons.2 ⟨fun z hz => ?_, r3⟩⟩
      rcases List.mem_append.1 (r2.mem_iff.1 hz) with hz | hz
      · rcases List.mem_cons.1 hz with rfl | hz
        · exact hyx
        · exact le_trans' _ _ _ hyx ((List.pairwise_cons.1 ha).1 z hz)
      · exact (List.pairwise_cons.1 hb).1 z hz
noncomputable def mrg (a b : List Key) : List Key × Int := if chk a ≠ 0 then ([], chk a) else if chk b ≠ 0 then ([], chk b) else sorted (a ++ b)
theorem F26_eq (K : Nat) (hK : 4 ≤ K) (a b : List Key) (ha : a.length ≤ 20000) (hb : b.length ≤ 20000) (hk : a.length + b.length + 1 < K) : F26 K a b = some (mrg a b) := by
  unfold mrg
  show Option.bind (F13 K a) _ = _
  rw [F13_eq K hK a (by omega) (by omega), Option.bind_some, F13_eq K hK b (by omega) (by omega), Option.bind_some, F40_eq K hK, Option.bind_some]
  by_cases c1 : chk a = 0
  · by_cases c2 : chk b = 0
    · simp only [c1, c2, ne_eq, not_true, if_false, bne_self_eq_false, Bool.false_eq_true]
      rw [F41_eq K hK a b (by omega) (by omega), Option.bind_some, F32_eq K _ (by simp; omega) (by simp; omega), Option.bind_some]
      unfold sorted
      cases hu : uniq (a ++ b) with
      | false => rfl
      | true =>
        rw [if_neg (by simp), if_pos rfl]
        obtain ⟨r, r1, r2, r3⟩ := L26_eq K hK a b [0, 0] (a ++ b) K a b [] (by omega) (by simp; omega) (sp_le (sp_of c1)) (sp_le (sp_of c2))
        refine r1.trans ?_
        rw [List.nil_append, one_row r3 (isort_pair (a ++ b)) (r2.trans (isort_perm _).symm)]
    · have d : (chk b != 0) = true := by simpa using c2
      simp only [c1, c2, d, ne_eq, not_true, not_false_eq_true, if_false, if_true]
  · have d : (chk a != 0) = true := by simpa using c1
    simp only [c1, d, ne_eq, not_false_eq_true, if_true]
theorem F27_eq (K : Nat) (a b : List Key) (ha : a.length ≤ 20000) (hb : b.length ≤ 20000) (hk : a.length + b.length + 1 < K) : F27 K a b = some (mrg a b) := by
  unfold mrg
  show Option.bind (F16 K a) _ = _
  rw [F16_eq K a (by omega) (by omega), Option.bind_some]
  by_cases c1 : chk a = 0
  · simp only [c1, ne_eq, not_true, if_false, bne_self_eq_false, Bool.false_eq_true]
    rw [F16_eq K b (by omega) (by omega), Option.bind_some]
    by_cases c2 : chk b = 0
    · simp only [c2, not_true, if_false, bne_self_eq_false, Bool.false_eq_true]
      rw [if_pos (fits (by omega)), if_pos (fits (by omega)), F15_eq K _ (by simp; omega) (by simp; omega), Option.bind_some]
    · have d : (chk b != 0) = true := by simpa using c2
      simp only [c2, d, not_false_eq_true, if_true]
  · have d : (chk a != 0) = true := by simpa using c1
    simp only [c1, d, ne_eq, not_false_eq_true, if_true]
end Go.Proofs.YtcnfilanbmkpaaaE
