/- Backfill: which blocks are free, by both roads. -/
import Derived.Test.YtipfamkhplkpmaaP15A
set_option linter.all false
namespace Go.Proofs.YtipfamkhplkpmaaE
open Go Go.Proofs
set_option maxRecDepth 100000
set_option linter.unusedVariables false
theorem F54_eq (K : Nat) (x : Int) : F54 K x = some false := by
  simp [F54, G54, t54]
theorem F51_eq (K : Nat) (x : Int) : F51 K x = some false := by
  simp [F51, G51, t51]
theorem F50_eq (K : Nat) (x y : Int) : F50 K x y = some (decide (x < y)) := by
  simp only [F50, G50, t50, F54_eq, Option.bind_some, Bool.false_eq_true, if_false]
theorem half {i j : Nat} (h : i + j ≤ 1000000) : IntKind.i64.wrap ((IntKind.u64.wrap (IntKind.i64.wrap ((i : Int) + (j : Int)))).fdiv ((2 : Int) ^ min (Int.toNat (1 : Int)) IntKind.u64.bits)) = (((i + j) / 2 : Nat) : Int) := by
  have e1 : IntKind.i64.wrap ((i : Int) + (j : Int)) = ((i + j : Nat) : Int) := by rw [i64_in (by omega) (by omega)]; omega
  have e2 : IntKind.u64.wrap ((i + j : Nat) : Int) = ((i + j : Nat) : Int) := u64_in (by omega) (by omega)
  have e3 : ((2 : Int) ^ min (Int.toNat (1 : Int)) IntKind.u64.bits) = 2 := by decide
  rw [e1, e2, e3, Int.fdiv_eq_ediv_of_nonneg _ (by omega), i64_in (by omega) (by omega)]
  omega
/-- where x would lie -/
structure Pos (l : List Int) (x : Int) (p : Nat) : Prop where
  le : p ≤ l.length
  lo : ∀ k, k < p → l.getD k 0 < x
  hi : ∀ k, p ≤ k → k < l.length → x ≤ l.getD k 0
def incr (l : List Int) : Prop := ∀ i j, i < j → j < l.length → l.getD i 0 < l.getD j 0
theorem L43_eq (K : Nat) (l : List Int) (x : Int) (hl : l.length ≤ 100000) (hs : incr l) : ∀ (n i j : Nat), j - i < n → i ≤ j → j ≤ l.length → (∀ k, k < i → l.getD k 0 < x) → (∀ k, j ≤ k → k < l.length → x ≤ l.getD k 0) →
    ∃ p b, L43_0 (F50 K) (F51 K) K l x n (i : Int) (j : Int) = some (((p : Nat) : Int), b) ∧ Pos l x p
  | 0, i, j, h, h1, h2, h3, h4 => by omega
  | n + 1, i, j, h, h1, h2, h3, h4 => by
    simp only [L43_0, b43_0]
    by_cases c : i < j
    · rw [if_pos (decide_eq_true (show (i : Int) < (j : Int) by omega)), half (by omega)]
      have hm : (i + j) / 2 < j ∧ i ≤ (i + j) / 2 := by omega
      generalize (i + j) / 2 = m at hm
      have em : IntKind.i64.wrap ((m : Int) + 1) = ((m + 1 : Nat) : Int) := by rw [i64_in (by omega) (by omega)]; omega
      have ez : l.getD m (zEl (Ty.int IntKind.i64)) = l.getD m 0 := rfl
      rw [if_pos (decide_eq_true (by omega)), F50_eq, Option.bind_some, em, Int.toNat_natCast, ez]
      by_cases c2 : l.getD m 0 < x
      · rw [if_pos (decide_eq_true c2)]
        refine L43_eq K l x hl hs n (m + 1) j (by omega) (by omega) h2 (fun k hk => ?_) h4
        by_cases e : k = m
        · rw [e]; exact c2
        · exact Int.lt_trans (hs k m (by omega) (by omega)) c2
      · rw [if_neg (by simpa using c2)]
        refine L43_eq K l x hl hs n i m (by omega) (by omega) (by omega) h3 (fun k hk hk' => ?_)
        by_cases e : k = m
        · rw [e]; omega
        · have := hs m k (by omega) hk'
          omega
    · have hij : i = j := by omega
      subst hij
      rw [if_neg (by simp)]
      have P : Pos l x i := ⟨h2, h3, h4⟩
      by_cases c2 : i < l.length
      · rw [if_pos (decide_eq_true (by omega)), if_pos (decide_eq_true (by omega))]
        by_cases c3 : (l.getD (i : Int).toNat (zEl (Ty.int IntKind.i64)) == x) = true
        · rw [if_pos c3]; exact ⟨i, true, rfl, P⟩
        · rw [if_neg c3, if_pos (decide_eq_true (by omega)), F51_eq, Option.bind_some, if_neg Bool.false_ne_true]
          exact ⟨i, false, rfl, P⟩
      · rw [if_neg (by simp; omega)]
        exact ⟨i, false, rfl, P⟩
theorem F43_eq (K : Nat) (l : List Int) (x : Int) (hl : l.length ≤ 100000) (hK : l.length < K) (hs : incr l) : ∃ p b, F43 K l x = some (((p : Nat) : Int), b) ∧ Pos l x p :=
  L43_eq K l x hl hs K 0 l.length (by omega) (Nat.zero_le _) (Nat.le_refl _) (fun k hk => by omega) (fun k hk hk' => by omega)
theorem okF_incr {n : Int} : ∀ {l : List Int} {last : Int}, okF n last l = true → (∀ k, k < l.length → last < l.getD k 0 ∧ l.getD k 0 < n) ∧ incr l
  | [], last, h => ⟨fun k hk => by simp at hk, fun i j h1 h2 => by simp at h2⟩
  | w :: l, last, h => by
    unfold okF at h
    simp only [Bool.and_eq_true, decide_eq_true_eq] at h
    obtain ⟨i1, i2⟩ := okF_incr h.2
    constructor
    · intro k hk
      cases k with
      | zero => exact ⟨h.1.1, h.1.2⟩
      | succ k =>
        have := i1 k (by simpa using hk)
        simp only [List.getD_cons_succ]
        omega
    · intro i j hij hj
      cases j with
      | zero => omega
      | succ j =>
        have hj' : j < l.length := by simpa using hj
        cases i with
        | zero =>
          have := i1 j hj'
          simp only [List.getD_cons_succ, List.getD_cons_zero]
          omega
        | succ i =>
          simp only [List.getD_cons_succ]
          exact i2 i j (by omega) hj'

/-! ### free -/
def hasS (b : Bk) (w : Int) : Bool := decide (b.1 ≤ w ∧ w < b.1 + pw b.2)
def meetS (a b : Bk) : Bool := decide (a.1 < b.1 + pw b.2 ∧ b.1 < a.1 + pw a.2)
def clash (b : Bk) (f t : Int) (h : Hd) : Bool := decide (h.2.1 < t ∧ f < h.2.2) && meetS h.1 b
def freeS (s : Sc) (b : Bk) (f t : Int) : Bool := !(List.any s.2.1 (hasS b)) && !(List.any s.2.2 (clash b f t))
/-- a block within bounds -/
structure In (b : Bk) : Prop where
  o0 : (0 : Int) ≤ b.2
  o1 : b.2 ≤ (10 : Int)
  s0 : (0 : Int) ≤ b.1
  s1 : b.1 ≤ (2000 : Int)
theorem in_of {s : Sc} {b : Bk} (h : fitsS s b = true) (h1 : s.1 ≤ (10 : Int)) (h0 : (0 : Int) ≤ s.1) : In b := by
  obtain ⟨a1, a2, a3, a4, a5⟩ := of_decide_eq_true h
  have := pw_max h0 h1
  exact ⟨a1, Int.le_trans a2 h1, a3, Int.le_trans (Int.le_of_lt a4) (by omega)⟩
theorem wrap_end {b : Bk} (h : In b) : IntKind.i64.wrap (b.1 + pw b.2) = b.1 + pw b.2 := by
  have := pw_pos b.2
  have := pw_max h.o0 h.o1
  have := h.s0
  have := h.s1
  simp only [El] at *
  exact i64_in (by omega) (by omega)
theorem F44_eq (K : Nat) (a b : Bk) (ha : In a) (hb : In b) : F44 K a b = some (meetS a b) := by
  unfold F44 G44 t44 meetS
  rw [F32_eq K b.2 hb.o0 hb.o1, Option.bind_some, wrap_end hb]
  by_cases c : a.1 < b.1 + pw b.2
  · rw [if_pos (decide_eq_true c), F32_eq K a.2 ha.o0 ha.o1, Option.bind_some, wrap_end ha]
    congr 1
    exact decide_eq_decide.2 ⟨fun h => ⟨c, h⟩, fun h => h.2⟩
  · rw [if_neg (by simpa using c), decide_eq_false (fun h => c h.1)]
theorem F48_eq (K : Nat) (hK : 12 ≤ K) (b : Bk) (w : Int) (hb : In b) : F48 K b w = some (hasS b w) := by
  unfold F48 G48 t48 hasS
  by_cases c : w ≥ b.1
  · rw [if_pos (decide_eq_true c), F34_eq K hK b.2 hb.o0 hb.o1, Option.bind_some, wrap_end hb]
    congr 1
    exact decide_eq_decide.2 ⟨fun h => ⟨c, h⟩, fun h => h.2⟩
  · rw [if_neg (by simpa using c), decide_eq_false (fun h => c h.1)]
theorem L29_eq (K : Nat) (s : Sc) (b : Bk) (f t : Int) (hl : List.length s.2.2 ≤ 300) (hb : In b) (hin : ∀ h ∈ s.2.2, In h.1) : ∀ (n : Nat) (pre suf : List Hd), s.2.2 = pre ++ suf → suf.length < n →
    L29_0 (F43 K) (F32 K) (F44 K) K s b f t n (pre.length : Int) = some (!(suf.any (clash b f t)))
  | 0, pre, suf, e, h => by omega
  | n + 1, pre, [], e, h => by
    have := fin (l := s.2.2) e
    simp only [L29_0, b29_0, this.1]
    rfl
  | n + 1, pre, x :: xs, e, h => by
    obtain ⟨g1, g2, g3, g4, g5, g6⟩ := mid (l := s.2.2) e (zEl T47) (by omega)
    have ih := L29_eq K s b f t hl hb hin n (pre ++ [x]) xs g5 (by simpa using h)
    have hx := hin x (by rw [e]; simp)
    simp only [L29_0, b29_0, g1, g2, g3, g4, if_true, ih, F44_eq K x.1 b hx hb, Option.bind_some, List.any_cons]
    have hc : clash b f t x = (decide (x.2.1 < t ∧ f < x.2.2) && meetS x.1 b) := rfl
    rw [hc]
    by_cases c1 : x.2.1 < t
    · rw [if_pos (decide_eq_true c1)]
      by_cases c2 : f < x.2.2
      · rw [if_pos (decide_eq_true c2), decide_eq_true ⟨c1, c2⟩, Bool.true_and]
        cases meetS x.1 b <;> rfl
      · rw [if_neg (by simpa using c2), decide_eq_false (fun h => c2 h.2)]; rfl
    · rw [if_neg (by simpa using c1), decide_eq_false (fun h => c1 h.1)]; rfl
theorem F29_eq (K : Nat) (s : Sc) (b : Bk) (f t : Int) (hl : List.length s.2.2 ≤ 300) (hb : In b) (hin : ∀ h ∈ s.2.2, In h.1) (hf : List.length s.2.1 ≤ 100000) (hfK : List.length s.2.1 < K) (hs : incr s.2.1) (hK : 300 < K) : F29 K s b f t = some (freeS s b f t) := by
  obtain ⟨p, q, e, P⟩ := F43_eq K s.2.1 b.1 hf hfK hs
  have hloop := L29_eq K s b f t hl hb hin K [] s.2.2 rfl (by omega)
  have hloop : L29_0 (F43 K) (F32 K) (F44 K) K s b f t K 0 = some (!(List.any s.2.2 (clash b f t))) := hloop
  unfold F29 G29 t29 freeS
  rw [e, Option.bind_some]
  have none_of : (∀ k, p ≤ k → k < List.length s.2.1 → b.1 + pw b.2 ≤ List.getD s.2.1 k 0) → List.any s.2.1 (hasS b) = false := by
    intro h
    rw [List.any_eq_false]
    intro w hw
    obtain ⟨k, hk, rfl⟩ := List.getElem_of_mem hw
    have ek : List.getD s.2.1 k 0 = s.2.1[k] := getD_lt hk
    unfold hasS
    rw [decide_eq_true_eq]
    rintro ⟨h1, h2⟩
    rw [← ek] at h1 h2
    rcases Nat.lt_or_ge k p with h' | h'
    · have := P.lo k h'
      simp only [El] at *
      omega
    · have := h k h' hk
      simp only [El] at *
      omega
  by_cases c : p < List.length s.2.1
  · rw [if_pos (decide_eq_true (show (p : Int) < (List.length s.2.1 : Int) by omega)), if_pos (decide_eq_true (by omega)), F32_eq K b.2 hb.o0 hb.o1, Option.bind_some, wrap_end hb]
    have ez : List.getD s.2.1 ((p : Int)).toNat (zEl (Ty.int IntKind.i64)) = List.getD s.2.1 p 0 := rfl
    rw [ez]
    by_cases c2 : List.getD s.2.1 p 0 < b.1 + pw b.2
    · rw [if_pos (decide_eq_true c2)]
      have hany : List.any s.2.1 (hasS b) = true := by
        rw [List.any_eq_true]
        refine ⟨List.getD s.2.1 p 0, ?_, decide_eq_true ⟨P.hi p (Nat.le_refl _) c, c2⟩⟩
        rw [getD_lt c]
        exact List.getElem_mem _
      rw [hany]
      rfl
    · rw [if_neg (by simpa using c2), hloop, none_of, Bool.not_false, Bool.true_and]
      intro k hk hk'
      by_cases e : k = p
      · rw [e]; simp only [El] at *; omega
      · have := hs p k (by omega) hk'
        simp only [El] at *
        omega
  · rw [if_neg (by simp; omega), hloop, none_of, Bool.not_false, Bool.true_and]
    intro k hk hk'
    omega
theorem meet_has (a b : Bk) (ha : In a) (hb : In b) : meetS a b = (hasS b a.1 || hasS a b.1) := by
  have h1 := pw_pos a.2
  have h2 := pw_pos b.2
  unfold meetS hasS
  rw [Bool.eq_iff_iff, Bool.or_eq_true, decide_eq_true_eq, decide_eq_true_eq, decide_eq_true_eq]
  simp only [El] at *
  omega
theorem L36_1_eq (K : Nat) (hK : 12 ≤ K) (s : Sc) (b : Bk) (f t : Int) (hl : List.length s.2.2 ≤ 300) (hb : In b) (hin : ∀ h ∈ s.2.2, In h.1) : ∀ (n : Nat) (pre suf : List Hd), s.2.2 = pre ++ suf → suf.length < n →
    L36_1 (F48 K) K s b f t n (pre.length : Int) = some (!(suf.any (clash b f t)))
  | 0, pre, suf, e, h => by omega
  | n + 1, pre, [], e, h => by
    have := fin (l := s.2.2) e
    simp only [L36_1, b36_1, this.1]
    rfl
  | n + 1, pre, x :: xs, e, h => by
    obtain ⟨g1, g2, g3, g4, g5, g6⟩ := mid (l := s.2.2) e (zEl T47) (by omega)
    have ih := L36_1_eq K hK s b f t hl hb hin n (pre ++ [x]) xs g5 (by simpa using h)
    have hx := hin x (by rw [e]; simp)
    simp only [L36_1, b36_1, g1, g2, g3, g4, if_true, ih, F48_eq K hK _ _ hb, F48_eq K hK _ _ hx, Option.bind_some, List.any_cons]
    have hc : clash b f t x = (decide (x.2.1 < t ∧ f < x.2.2) && (hasS b x.1.1 || hasS x.1 b.1)) := by rw [← meet_has x.1 b hx hb]; rfl
    rw [hc]
    by_cases c1 : t ≤ x.2.1
    · rw [if_pos (decide_eq_true c1), decide_eq_false (fun h => by simp only [El] at *; omega)]; rfl
    · rw [if_neg (by simpa using c1)]
      by_cases c2 : x.2.2 ≤ f
      · rw [if_pos (decide_eq_true c2), decide_eq_false (fun h => by simp only [El] at *; omega)]; rfl
      · rw [if_neg (by simpa using c2), decide_eq_true (by simp only [El] at *; omega), Bool.true_and]
        cases hasS b x.1.1 <;> cases hasS x.1 b.1 <;> rfl
theorem L36_0_eq (K : Nat) (hK : 300 < K) (s : Sc) (b : Bk) (f t : Int) (hl : List.length s.2.2 ≤ 300) (hb : In b) (hin : ∀ h ∈ s.2.2, In h.1) (hf : List.length s.2.1 ≤ 100000) : ∀ (n : Nat) (pre suf : List Int), s.2.1 = pre ++ suf → suf.length < n →
    L36_0 (F48 K) K s b f t n (pre.length : Int) = some (!(suf.any (hasS b)) && !(List.any s.2.2 (clash b f t)))
  | 0, pre, suf, e, h => by omega
  | n + 1, pre, [], e, h => by
    have := fin (l := s.2.1) e
    simp only [L36_0, b36_0, this.1, Bool.false_eq_true, if_false, List.any_nil, Bool.not_false, Bool.true_and]
    exact L36_1_eq K (by omega) s b f t hl hb hin K [] s.2.2 rfl (by omega)
  | n + 1, pre, x :: xs, e, h => by
    obtain ⟨g1, g2, g3, g4, g5, g6⟩ := mid (l := s.2.1) e (zEl (Ty.int IntKind.i64)) (by omega)
    have ih := L36_0_eq K hK s b f t hl hb hin hf n (pre ++ [x]) xs g5 (by simpa using h)
    simp only [L36_0, b36_0, g1, g2, g3, g4, if_true, ih, F48_eq K (by omega) _ _ hb, Option.bind_some, List.any_cons]
    cases hasS b x <;> rfl
theorem F36_eq (K : Nat) (hK : 300 < K) (s : Sc) (b : Bk) (f t : Int) (hl : List.length s.2.2 ≤ 300) (hb : In b) (hin : ∀ h ∈ s.2.2, In h.1) (hf : List.length s.2.1 ≤ 100000) (hfK : List.length s.2.1 < K) : F36 K s b f t = some (freeS s b f t) :=
  L36_0_eq K hK s b f t hl hb hin hf K [] s.2.1 rfl hfK
end Go.Proofs.YtipfamkhplkpmaaE
