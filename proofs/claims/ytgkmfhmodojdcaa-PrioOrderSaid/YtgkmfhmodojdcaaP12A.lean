/- Priorities: the keys of jobs, and who comes first; PrioKeys. -/
import Derived.Test.YtgkmfhmodojdcaaP12RC
set_option linter.all false
namespace Go.Proofs.YtgkmfhmodojdcaaE
open Go Go.Proofs
set_option maxRecDepth 100000
set_option linter.unusedVariables false
abbrev Job := El T29
abbrev Wt := El T26
structure OKj (b : Job) : Prop where
  id0 : 0 ≤ b.1
  id1 : b.1 ≤ 4294967295
  s0 : -9223372036854775808 ≤ b.2.1
  s1 : b.2.1 ≤ 9223372036854775807
  q : b.2.2.2.2.1 ≤ 9223372036854775807
  p : b.2.2.2.2.2.1 ≤ 9223372036854775807
theorem okj_of {b : Job} (h : Gd T29 b) : OKj b := by
  obtain ⟨g0, g1, g2, g3, g4, g5, g6⟩ := h
  exact ⟨(wf_u32 g0).1, (wf_u32 g0).2, (wf_i64 g1).1, (wf_i64 g1).2, (wf_i64 g4).2, (wf_i64 g5).2⟩
theorem by29 : Try.prog.types[(29 : Nat)].bytes ≤ 100 := by decide +kernel
theorem fits29 {n : Nat} (h : n ≤ 100000) : decide (n * Try.prog.types[(29 : Nat)].bytes ≤ (140737488355328 : Nat)) = true := by
  have := Nat.mul_le_mul h by29
  exact decide_eq_true (by omega)
theorem F17_eq (K : Nat) (w : Wt) (b : Job) (n m : Int) (h : OKj b) : F17 K w b n m = some (pS w b n m) := if_pos ⟨h.q, h.p⟩
theorem F18_eq (K : Nat) (w : Wt) (b : Job) (n m : Int) (h : OKj b) : F18 K w b n m = some (pS w b n m) := if_pos ⟨h.id0, h.q, h.p⟩
theorem pS_err (w : Wt) (b : Job) (n m : Int) : (pS w b n m).2 = 0 ∨ (pS w b n m).2 = 2 := by
  unfold pS Ytgkmfhmodojdcaa.Num.prioS
  split <;> simp
def keyOf (w : Wt) (n m : Int) (b : Job) : Key := ((pS w b n m).1, b.2.1, b.1)
def good (w : Wt) (n m : Int) (l : List Job) : Bool := l.all fun b => decide ((pS w b n m).2 = 0)
def keysS (w : Wt) (l : List Job) (n m : Int) : List Key × Int := if good w n m l = true then sorted (l.map (keyOf w n m)) else ([], 2)
theorem good_app (w : Wt) (n m : Int) (a b : List Job) : good w n m (a ++ b) = (good w n m a && good w n m b) := by simp [good]
theorem good_cons (w : Wt) (n m : Int) (x : Job) (b : List Job) : good w n m (x :: b) = (decide ((pS w x n m).2 = 0) && good w n m b) := by simp [good]
theorem L19_eq (K : Nat) (w : Wt) (l : List Job) (n m : Int) (hj : ∀ b ∈ l, OKj b) (hl : l.length ≤ 50000) (hK : l.length < K) : ∀ (k : Nat) (pre suf : List Job), l = pre ++ suf → suf.length < k → good w n m pre = true →
    L19_0 (F17 K) (F28 K) K w l n m k (pre.length : Int) (pre.map (keyOf w n m)) = some (keysS w l n m)
  | 0, pre, suf, e, h, hg => by omega
  | k + 1, pre, [], e, h, hg => by
    obtain ⟨f1, f2⟩ := fin e
    subst f2
    simp only [L19_0, b19_0, f1, Bool.false_eq_true, if_false]
    rw [F28_eq K _ (by simp; omega) (by simpa using hK), Option.bind_some]
    unfold keysS
    rw [if_pos hg]
  | k + 1, pre, x :: xs, e, h, hg => by
    obtain ⟨h1, h2, h3, h4, h5, h6⟩ := mid e (zEl T29) (by omega)
    have hle : l.length = pre.length + (xs.length + 1) := by rw [e]; simp
    have hx := F17_eq K w x n m (hj x (by rw [e]; simp))
    simp only [L19_0, b19_0, h1, h2, h3, h4, if_true, hx, Option.bind_some]
    rcases pS_err w x n m with c | c
    · rw [c, if_neg (by decide), if_pos (fits (by simp; omega))]
      have := L19_eq K w l n m hj hl hK k (pre ++ [x]) xs h5 (by simpa using h) (by rw [good_app, hg, good_cons, c]; rfl)
      rw [List.map_append] at this
      exact this
    · rw [c, if_pos (by decide)]
      unfold keysS
      rw [if_neg]
      rw [e, good_app, good_cons, c]
      simp
theorem F19_eq (K : Nat) (w : Wt) (l : List Job) (n m : Int) (hj : ∀ b ∈ l, OKj b) (hl : l.length ≤ 50000) (hK : l.length < K) : F19 K w l n m = some (keysS w l n m) :=
  L19_eq K w l n m hj hl hK K [] l rfl hK rfl
theorem L21_eq (K : Nat) (w : Wt) (l : List Job) (n m : Int) (hj : ∀ b ∈ l, OKj b) (hl : l.length ≤ 50000) (hK : l.length < K) : ∀ (k : Nat) (pre suf : List Job), l = pre ++ suf → suf.length < k → good w n m pre = true →
    L21_0 (F18 K) (F29 K) K w l n m k (pre.length : Int) (pre.map (keyOf w n m)) = some (keysS w l n m)
  | 0, pre, suf, e, h, hg => by omega
  | k + 1, pre, [], e, h, hg => by
    obtain ⟨f1, f2⟩ := fin e
    subst f2
    simp only [L21_0, b21_0, f1, Bool.false_eq_true, if_false]
    rw [F29_eq K _ (by simp; omega) (by simpa using hK), Option.bind_some]
    unfold keysS
    rw [if_pos hg]
  | k + 1, pre, x :: xs, e, h, hg => by
    obtain ⟨h1, h2, h3, h4, h5, h6⟩ := mid e (zEl T29) (by omega)
    have hle : l.length = pre.length + (xs.length + 1) := by rw [e]; simp
    have hx := F18_eq K w x n m (hj x (by rw [e]; simp))
    simp only [L21_0, b21_0, h1, h2, h3, h4, if_true, hx, Option.bind_some]
    rcases pS_err w x n m with c | c
    · rw [c, if_neg (by decide), if_pos (fits (by simp; omega))]
      have := L21_eq K w l n m hj hl hK k (pre ++ [x]) xs h5 (by simpa using h) (by rw [good_app, hg, good_cons, c]; rfl)
      rw [List.map_append] at this
      exact this
    · rw [c, if_pos (by decide)]
      unfold keysS
      rw [if_neg]
      rw [e, good_app, good_cons, c]
      simp
theorem F21_eq (K : Nat) (w : Wt) (l : List Job) (n m : Int) (hj : ∀ b ∈ l, OKj b) (hl : l.length ≤ 50000) (hK : l.length < K) : F21 K w l n m = some (keysS w l n m) :=
  L21_eq K w l n m hj hl hK K [] l rfl hK rfl

/-! ### who comes first -/
def firstK (k : List Key × Int) : Int × Int := if k.2 = 0 then (match k.1 with
  | [] => (0, 4)
  | x :: _ => (kid x, 0)) else (0, k.2)
def firstS (w : Wt) (l : List Job) (n m : Int) : Int × Int := firstK (keysS w l n m)
theorem F22_eq (K : Nat) (w : Wt) (l : List Job) (n m : Int) (hj : ∀ b ∈ l, OKj b) (hl : l.length ≤ 50000) (hK : l.length < K) : F22 K w l n m = some (firstS w l n m) := by
  show Option.bind (F19 K w l n m) _ = _
  rw [F19_eq K w l n m hj hl hK, Option.bind_some]
  unfold firstS
  generalize keysS w l n m = k
  obtain ⟨ks, e⟩ := k
  unfold firstK
  by_cases c : e = 0
  · subst c
    cases ks with
    | nil => rfl
    | cons x ks =>
      have d1 : (((x :: ks).length : Int) == 0) = false := by simp; omega
      have d2 : decide ((0 : Int) ≤ (0 : Int) ∧ (0 : Int) < ((x :: ks).length : Int)) = true := decide_eq_true (by simp)
      simp only [d1, d2]
      rfl
  · simp [c]
theorem sorted_min (l : List Key) (h : (sorted l).2 = 0) : ∃ ks, sorted l = (ks, 0) ∧ ks = isort l := by
  unfold sorted at *
  split at h
  · rename_i c; rw [if_pos c]; exact ⟨_, rfl, rfl⟩
  · cases h
theorem keys_ok {w : Wt} {l : List Job} {n m : Int} (h : (keysS w l n m).2 = 0) : good w n m l = true ∧ uniq (l.map (keyOf w n m)) = true ∧ (keysS w l n m).1 = isort (l.map (keyOf w n m)) := by
  unfold keysS at *
  split at h
  · rename_i c
    rw [if_pos c]
    refine ⟨c, ?_⟩
    unfold sorted at *
    split at h
    · rename_i d; rw [if_pos d]; exact ⟨d, rfl⟩
    · cases h
  · cases h
theorem L23_eq (K : Nat) (w : Wt) (l0 : List Job) (n m : Int) (best : Key) (l : List Key) (hl : l.length ≤ 100000) (hb : ∀ x ∈ l, less x best = false) : ∀ (k : Nat) (pre suf : List Key), l = pre ++ suf → suf.length < k →
    L23_0 (F21 K) (F30 K) K w l0 n m k (pre.length : Int) best l = some (kid best, 0)
  | 0, pre, suf, e, h => by omega
  | k + 1, pre, [], e, h => by
    obtain ⟨f1, f2⟩ := fin e
    simp only [L23_0, b23_0, f1]
    rfl
  | k + 1, pre, x :: xs, e, h => by
    obtain ⟨h1, h2, h3, h4, h5, h6⟩ := mid e (zEl T45) (by omega)
    simp only [L23_0, b23_0, h1, h2, h3, h4, if_true, F30_eq, Option.bind_some, hb x (by rw [e]; simp)]
    exact L23_eq K w l0 n m best l hl hb k (pre ++ [x]) xs h5 (by simpa using h)
theorem keys_len (w : Wt) (l : List Job) (n m : Int) : (keysS w l n m).1.length ≤ l.length := by
  unfold keysS
  split
  · unfold sorted
    split
    · show (isort _).length ≤ _
      rw [isort_len]; simp
    · exact Nat.zero_le _
  · exact Nat.zero_le _
theorem F23_eq (K : Nat) (w : Wt) (l : List Job) (n m : Int) (hj : ∀ b ∈ l, OKj b) (hl : l.length ≤ 50000) (hK : l.length < K) : F23 K w l n m = some (firstS w l n m) := by
  show Option.bind (F21 K w l n m) _ = _
  rw [F21_eq K w l n m hj hl hK, Option.bind_some]
  unfold firstS
  have hlen := keys_len w l n m
  have hok := fun h => keys_ok (w := w) (l := l) (n := n) (m := m) h
  generalize keysS w l n m = k at *
  obtain ⟨ks, e⟩ := k
  unfold firstK
  by_cases c : e = 0
  · subst c
    cases ks with
    | nil => rfl
    | cons x ks =>
      have d1 : (((x :: ks).length : Int) == 0) = false := by simp; omega
      have d2 : decide ((0 : Int) ≤ (0 : Int) ∧ (0 : Int) < ((x :: ks).length : Int)) = true := decide_eq_true (by simp)
      simp only [d1, d2]
      have hp := isort_pair (l.map (keyOf w n m))
      rw [← (hok rfl).2.2] at hp
      refine L23_eq K w l n m x (x :: ks) (Nat.le_trans hlen (by omega)) (fun y hy => ?_) K [] (x :: ks) rfl (Nat.lt_of_le_of_lt hlen hK)
      rcases List.mem_cons.1 hy with rfl | hy
      · exact less_irrefl _
      · have := (List.pairwise_cons.1 hp).1 y hy
        simpa [le] using this
  · simp [c]
theorem F16_eq (K : Nat) : F16 K = some true := rfl
theorem L8_eq (w : Wt) (l : List Job) (n m : Int) (hl : l.length ≤ 200) (e a b : Int) (ks : List Key) (hks : ks.length ≤ 200) : ∀ (k : Nat) (pre suf : List Job), l = pre ++ suf → suf.length < k →
    L8_0 (F16 2000) (F19 2000) (F21 2000) (F22 2000) (F23 2000) (F20 2000) 2000 w l n m k e e a b a b (pre.length : Int) ks ks = some true
  | 0, pre, suf, e', h => by omega
  | k + 1, pre, [], e', h => by
    obtain ⟨f1, f2⟩ := fin e'
    simp only [L8_0, b8_0, f1, Bool.false_eq_true, if_false]
    rw [F20_eq 2000 ks ks (by omega) (by omega), Option.bind_some]
    simp [F16_eq]
  | k + 1, pre, x :: xs, e', h => by
    obtain ⟨h1, h2, h3, h4, h5, h6⟩ := mid e' (zEl T29) (by omega)
    simp only [L8_0, b8_0, h1, h2, h3, h4, if_true, beq_self_eq_true, Bool.and_self, Bool.not_true, Bool.false_eq_true, if_false]
    exact L8_eq w l n m hl e a b ks hks k (pre ++ [x]) xs h5 (by simpa using h)
theorem prioKeys (w : Wt) (l : List Job) (n m : Int) (_ : Gd T26 w) (hl : Gd (.sl T29) l) (_ : (Lit.int .i64 n).wf = true) (_ : (Lit.int .i64 m).wf = true) : F8 2000 w l n m = some true := by
  have hj : ∀ b ∈ l, OKj b := fun b hb => okj_of (hl.2 b hb)
  unfold F8 G8 t8
  by_cases c : l.length > 200
  · rw [if_pos (decide_eq_true (by omega))]; rfl
  · rw [if_neg (by simp; omega), if_pos (fits29 (by omega))]
    rw [F19_eq 2000 w l n m hj (by omega) (by omega), Option.bind_some, F21_eq 2000 w l n m hj (by omega) (by omega), Option.bind_some, F22_eq 2000 w l n m hj (by omega) (by omega), Option.bind_some,
      F23_eq 2000 w l n m hj (by omega) (by omega), Option.bind_some]
    have := keys_len w l n m
    exact L8_eq w l n m (by omega) _ _ _ _ (by omega) 2000 [] l rfl (by omega)
end Go.Proofs.YtgkmfhmodojdcaaE
