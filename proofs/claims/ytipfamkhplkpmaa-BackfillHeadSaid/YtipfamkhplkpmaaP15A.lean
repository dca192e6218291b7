/- Backfill: sizes, blocks, scenes: what they come to. -/
import Derived.Test.YtipfamkhplkpmaaS15F7
import Derived.Test.YtipfamkhplkpmaaPu0
set_option linter.all false
namespace Go.Proofs.YtipfamkhplkpmaaE
open Go Go.Proofs
set_option maxRecDepth 100000
set_option linter.unusedVariables false
abbrev Sc := El T25
abbrev Bk := El T42
abbrev Hd := El T47
def pw (a : Int) : Int := 2 ^ a.toNat
theorem pw_pos (a : Int) : 1 ≤ pw a := by
  unfold pw
  have : (0 : Int) < 2 ^ a.toNat := Int.pow_pos (by omega)
  omega
theorem pw_add (a b : Int) (ha : 0 ≤ a) (hb : 0 ≤ b) : pw (a + b) = pw a * pw b := by
  unfold pw
  rw [← Int.pow_add]
  congr 1
  omega
theorem pw_le {a b : Int} (ha : 0 ≤ a) (hb : a ≤ b) : pw a ≤ pw b := by
  have h := pw_add a (b - a) ha (by omega)
  rw [show a + (b - a) = b by omega] at h
  have h1 := pw_pos a
  have h2 := pw_pos (b - a)
  have h3 := Int.mul_le_mul_of_nonneg_left h2 (show 0 ≤ pw a by omega)
  omega
theorem pw_max {a : Int} (ha : 0 ≤ a) (hb : a ≤ 10) : pw a ≤ 1024 := pw_le ha hb
theorem pw_mul {a b : Int} (ha : 0 ≤ a) (hb : a ≤ b) : ∃ r : Int, 1 ≤ r ∧ pw b = r * pw a := by
  refine ⟨pw (b - a), pw_pos _, ?_⟩
  have h := pw_add (b - a) a (by omega) ha
  rwa [show b - a + a = b by omega] at h
theorem pw_succ (a : Int) (ha : 0 ≤ a) : pw (a + 1) = pw a * 2 := by
  rw [pw_add a 1 ha (by omega)]; rfl
theorem F32_eq (K : Nat) (a : Int) (h0 : 0 ≤ a) (h1 : a ≤ 10) : F32 K a = some (pw a) := by
  simp only [F32, G32, t32, decide_eq_true h0, if_true]
  have hm : min a.toNat IntKind.i64.bits = a.toNat := Nat.min_eq_left (by simp [IntKind.bits]; omega)
  have hb := pw_max h0 h1
  have hp := pw_pos a
  rw [hm, Int.one_mul]
  congr 1
  exact i64_in (by unfold pw at *; omega) (by unfold pw at *; omega)
theorem L34_eq (K : Nat) (a : Int) (h0 : 0 ≤ a) (h1 : a ≤ 10) : ∀ (n : Nat) (i : Int), 0 ≤ i → i ≤ a → a - i < n → L34_0 K a n (pw i) i = some (pw a)
  | 0, i, h2, h3, h4 => by omega
  | n + 1, i, h2, h3, h4 => by
    simp only [L34_0, b34_0]
    by_cases c : i < a
    · have e1 : IntKind.i64.wrap (pw i * 2) = pw (i + 1) := by
        rw [pw_succ i h2]
        have := pw_max h2 (show i ≤ 10 by omega)
        have := pw_pos i
        exact i64_in (by omega) (by omega)
      have e2 : IntKind.i64.wrap (i + 1) = i + 1 := i64_in (by omega) (by omega)
      rw [if_pos (decide_eq_true c), e1, e2]
      exact L34_eq K a h0 h1 n (i + 1) (by omega) (by omega) (by omega)
    · rw [if_neg (by simpa using c)]
      congr 2
      omega
theorem F34_eq (K : Nat) (hK : 12 ≤ K) (a : Int) (h0 : 0 ≤ a) (h1 : a ≤ 10) : F34 K a = some (pw a) :=
  L34_eq K a h0 h1 K 0 (Int.le_refl _) h0 (by omega)

/-! ### blocks of a scene -/
def fitsS (s : Sc) (b : Bk) : Bool := decide (0 ≤ b.2 ∧ b.2 ≤ s.1 ∧ 0 ≤ b.1 ∧ b.1 < pw s.1 ∧ b.1 % pw b.2 = 0)
theorem F28_eq (K : Nat) (s : Sc) (b : Bk) (h0 : 0 ≤ s.1) (h1 : s.1 ≤ 10) : F28 K s b = some (fitsS s b) := by
  unfold F28 G28 t28 fitsS
  by_cases c1 : 0 ≤ b.2
  · by_cases c2 : b.2 ≤ s.1
    · by_cases c3 : 0 ≤ b.1
      · have e1 := F32_eq K s.1 h0 h1
        have e2 := F32_eq K b.2 c1 (Int.le_trans c2 h1)
        have hp := pw_pos b.2
        have hne : (!(pw b.2 == (0 : Int))) = true := by
          have : ¬ pw b.2 = 0 := by omega
          simp [this]
        have et : Int.tmod b.1 (pw b.2) = b.1 % pw b.2 := Int.tmod_eq_emod_of_nonneg c3
        rw [if_pos (decide_eq_true c1), if_pos (decide_eq_true c2), if_pos (decide_eq_true c3), e1, Option.bind_some]
        by_cases c4 : b.1 < pw s.1
        · rw [if_pos (decide_eq_true c4), e2, Option.bind_some, if_pos hne, et]
          congr 1
          by_cases c5 : b.1 % pw b.2 = 0
          · rw [decide_eq_true ⟨c1, c2, c3, c4, c5⟩]; simp [c5]
          · rw [decide_eq_false (fun h => c5 h.2.2.2.2)]; simp [c5]
        · rw [if_neg (by simpa using c4), decide_eq_false (fun h => c4 h.2.2.2.1)]
      · rw [if_pos (decide_eq_true c1), if_pos (decide_eq_true c2), if_neg (by simpa using c3), decide_eq_false (fun h => c3 h.2.2.1)]
    · rw [if_pos (decide_eq_true c1), if_neg (by simpa using c2), decide_eq_false (fun h => c2 h.2.1)]
  · rw [if_neg (by simpa using c1), decide_eq_false (fun h => c1 h.1)]
theorem fits_iff {o so st : Int} (h0 : 0 ≤ o) (h1 : o ≤ so) (hd : st % pw o = 0) : st < pw so ↔ st ≤ pw so - pw o := by
  obtain ⟨r, hr, e⟩ := pw_mul h0 h1
  have hp := pw_pos o
  have hq := Int.mul_ediv_add_emod st (pw o)
  rw [hd, Int.add_zero] at hq
  rw [e]
  generalize st / pw o = q at hq
  generalize pw o = n at *
  constructor
  · intro h
    have hlt : q < r := by
      rcases Int.lt_or_le q r with h' | h'
      · exact h'
      · have := Int.mul_le_mul_of_nonneg_left h' (show 0 ≤ n by omega)
        rw [Int.mul_comm n r] at this
        omega
    have := Int.mul_le_mul_of_nonneg_left (show q + 1 ≤ r by omega) (show 0 ≤ n by omega)
    rw [Int.mul_add, Int.mul_one, Int.mul_comm n r] at this
    omega
  · intro h; omega
theorem F35_eq (K : Nat) (hK : 12 ≤ K) (s : Sc) (b : Bk) (h0 : 0 ≤ s.1) (h1 : s.1 ≤ 10) : F35 K s b = some (fitsS s b) := by
  unfold F35 G35 t35 fitsS
  by_cases c1 : 0 ≤ b.2
  · by_cases c2 : b.2 ≤ s.1
    · by_cases c3 : 0 ≤ b.1
      · have e1 := F34_eq K hK s.1 h0 h1
        have e2 := F34_eq K hK b.2 c1 (Int.le_trans c2 h1)
        have hp := pw_pos b.2
        have hs := pw_max h0 h1
        have hps := pw_pos s.1
        have hpb := pw_max c1 (Int.le_trans c2 h1)
        have hne : (!(pw b.2 == (0 : Int))) = true := by
          have : ¬ pw b.2 = 0 := by omega
          simp [this]
        have et : Int.tmod b.1 (pw b.2) = b.1 % pw b.2 := Int.tmod_eq_emod_of_nonneg c3
        have ew : IntKind.i64.wrap (pw s.1 - pw b.2) = pw s.1 - pw b.2 := i64_in (by omega) (by omega)
        rw [if_neg (by simp only [El, decide_eq_true_eq] at *; omega), if_neg (by simp only [El, decide_eq_true_eq] at *; omega), if_neg (by simp only [El, decide_eq_true_eq] at *; omega), e2, Option.bind_some, if_pos hne, et]
        by_cases c5 : b.1 % pw b.2 = 0
        · rw [if_pos (by simp [c5]), e1, Option.bind_some, ew]
          congr 1
          refine decide_eq_decide.2 ?_
          rw [← fits_iff c1 c2 c5]
          exact ⟨fun h => ⟨c1, c2, c3, h, c5⟩, fun h => h.2.2.2.1⟩
        · rw [if_neg (by simp [c5]), decide_eq_false (fun h => c5 h.2.2.2.2)]
      · rw [if_neg (by simp only [El, decide_eq_true_eq] at *; omega), if_neg (by simp only [El, decide_eq_true_eq] at *; omega), if_pos (decide_eq_true (by simp only [El] at *; omega)), decide_eq_false (fun h => c3 h.2.2.1)]
    · rw [if_neg (by simp only [El, decide_eq_true_eq] at *; omega), if_pos (decide_eq_true (by simp only [El] at *; omega)), decide_eq_false (fun h => c2 h.2.1)]
  · rw [if_pos (decide_eq_true (by simp only [El] at *; omega)), decide_eq_false (fun h => c1 h.1)]

/-! ### may a scene be? -/
def e2 (b : Bool) : Int := cond b 0 2
theorem e2_t : e2 true = 0 := rfl
theorem e2_f : e2 false = 2 := rfl
def okF (n : Int) : Int → List Int → Bool
  | _, [] => true
  | last, w :: l => decide (last < w) && decide (w < n) && okF n w l
def okH (s : Sc) (h : Hd) : Bool := fitsS s h.1 && decide (0 ≤ h.2.1 ∧ h.2.1 < h.2.2 ∧ h.2.2 ≤ 4398046511104)
def okS (s : Sc) : Bool := decide (0 ≤ s.1 ∧ s.1 ≤ 10 ∧ List.length s.2.2 ≤ 300) && okF (pw s.1) (-1) s.2.1 && List.all s.2.2 (okH s)
def chk (s : Sc) : Int := e2 (okS s)
theorem L18_1_eq (K : Nat) (s : Sc) (h0 : 0 ≤ s.1) (h1 : s.1 ≤ 10) (hl : List.length s.2.2 ≤ 300) : ∀ (n : Nat) (pre suf : List Hd), s.2.2 = pre ++ suf → suf.length < n →
    L18_1 (F32 K) (F28 K) K s n (pre.length : Int) = some (e2 (suf.all (okH s)))
  | 0, pre, suf, e, h => by omega
  | n + 1, pre, [], e, h => by
    have := fin (l := s.2.2) e
    simp only [L18_1, b18_1, this.1]
    rfl
  | n + 1, pre, x :: xs, e, h => by
    obtain ⟨g1, g2, g3, g4, g5, g6⟩ := mid (l := s.2.2) e (zEl T47) (by omega)
    have ih := L18_1_eq K s h0 h1 hl n (pre ++ [x]) xs g5 (by simpa using h)
    simp only [L18_1, b18_1, g1, g2, g3, g4, if_true, F28_eq K s _ h0 h1, Option.bind_some, List.all_cons, ih]
    have ho : okH s x = (fitsS s x.1 && decide (0 ≤ x.2.1 ∧ x.2.1 < x.2.2 ∧ x.2.2 ≤ 4398046511104)) := rfl
    rw [ho]
    generalize fitsS s x.1 = c1
    cases c1 with
    | false => rfl
    | true =>
      rw [if_neg (by simp)]
      by_cases c2 : x.2.1 < 0
      · rw [if_pos (decide_eq_true c2), decide_eq_false (fun h => by simp only [El] at *; omega)]; rfl
      · rw [if_neg (by simpa using c2)]
        by_cases c3 : x.2.2 ≤ x.2.1
        · rw [if_pos (decide_eq_true c3), decide_eq_false (fun h => by simp only [El] at *; omega)]; rfl
        · rw [if_neg (by simpa using c3)]
          by_cases c4 : x.2.2 > 4398046511104
          · rw [if_pos (decide_eq_true c4), decide_eq_false (fun h => by simp only [El] at *; omega)]; rfl
          · rw [if_neg (by simpa using c4), decide_eq_true (by simp only [El] at *; omega)]
            simp
theorem L18_0_eq (K : Nat) (s : Sc) (h0 : 0 ≤ s.1) (h1 : s.1 ≤ 10) (hl : List.length s.2.2 ≤ 300) (hK : 300 < K) (hf : List.length s.2.1 ≤ 100000) : ∀ (n : Nat) (pre suf : List Int) (last : Int), s.2.1 = pre ++ suf → suf.length < n →
    L18_0 (F32 K) (F28 K) K s n last (pre.length : Int) = some (e2 (okF (pw s.1) last suf && List.all s.2.2 (okH s)))
  | 0, pre, suf, last, e, h => by omega
  | n + 1, pre, [], last, e, h => by
    have := fin (l := s.2.1) e
    simp only [L18_0, b18_0, this.1, Bool.false_eq_true, if_false, okF, Bool.true_and]
    exact L18_1_eq K s h0 h1 hl K [] s.2.2 rfl (by omega)
  | n + 1, pre, x :: xs, last, e, h => by
    obtain ⟨g1, g2, g3, g4, g5, g6⟩ := mid (l := s.2.1) e (zEl (Ty.int IntKind.i64)) (by omega)
    have ih := L18_0_eq K s h0 h1 hl hK hf n (pre ++ [x]) xs x g5 (by simpa using h)
    simp only [L18_0, b18_0, g1, g2, g3, g4, if_true, F32_eq K s.1 h0 h1, Option.bind_some, ih, okF]
    by_cases c1 : x ≤ last
    · rw [if_pos (decide_eq_true c1), decide_eq_false (show ¬ last < x by omega)]; rfl
    · rw [if_neg (by simpa using c1), decide_eq_true (show last < x by omega)]
      by_cases c2 : x ≥ pw s.1
      · rw [if_pos (decide_eq_true c2), decide_eq_false (show ¬ x < pw s.1 by omega)]; rfl
      · rw [if_neg (by simpa using c2), decide_eq_true (show x < pw s.1 by omega)]
        rfl
theorem F18_eq (K : Nat) (hK : 300 < K) (s : Sc) (hf : List.length s.2.1 < K) (hf' : List.length s.2.1 ≤ 100000) : F18 K s = some (chk s) := by
  unfold F18 G18 t18 chk okS
  by_cases c1 : s.1 < 0
  · rw [if_pos (decide_eq_true c1), decide_eq_false (fun h => by simp only [El] at *; omega)]; rfl
  · rw [if_neg (by simpa using c1)]
    by_cases c2 : s.1 > 10
    · rw [if_pos (decide_eq_true c2), decide_eq_false (fun h => by simp only [El] at *; omega)]; rfl
    · rw [if_neg (by simpa using c2)]
      by_cases c3 : List.length s.2.2 ≤ 300
      · rw [if_neg (by simp; omega), decide_eq_true (by simp only [El] at *; omega), Bool.true_and]
        exact L18_0_eq K s (by simp only [El] at *; omega) (by simp only [El] at *; omega) c3 hK hf' K [] s.2.1 (-1) rfl hf
      · rw [if_pos (by simp; omega), decide_eq_false (fun h => c3 h.2.2)]; rfl
theorem L21_1_eq (K : Nat) (hK : 12 ≤ K) (s : Sc) (h0 : 0 ≤ s.1) (h1 : s.1 ≤ 10) (hl : List.length s.2.2 ≤ 300) : ∀ (n : Nat) (pre suf : List Hd), s.2.2 = pre ++ suf → suf.length < n →
    L21_1 (F34 K) (F35 K) K s n (pre.length : Int) = some (e2 (suf.all (okH s)))
  | 0, pre, suf, e, h => by omega
  | n + 1, pre, [], e, h => by
    have := fin (l := s.2.2) e
    simp only [L21_1, b21_1, this.1]
    rfl
  | n + 1, pre, x :: xs, e, h => by
    obtain ⟨g1, g2, g3, g4, g5, g6⟩ := mid (l := s.2.2) e (zEl T47) (by omega)
    have ih := L21_1_eq K hK s h0 h1 hl n (pre ++ [x]) xs g5 (by simpa using h)
    simp only [L21_1, b21_1, g1, g2, g3, g4, if_true, F35_eq K hK s _ h0 h1, Option.bind_some, List.all_cons, ih]
    have ho : okH s x = (fitsS s x.1 && decide (0 ≤ x.2.1 ∧ x.2.1 < x.2.2 ∧ x.2.2 ≤ 4398046511104)) := rfl
    rw [ho]
    generalize fitsS s x.1 = c1
    cases c1 with
    | false => rfl
    | true =>
      rw [if_neg (by simp)]
      by_cases c2 : x.2.1 < 0
      · rw [if_pos (decide_eq_true c2), decide_eq_false (fun h => by simp only [El] at *; omega)]; rfl
      · rw [if_neg (by simpa using c2)]
        by_cases c3 : x.2.1 ≥ x.2.2
        · rw [if_pos (decide_eq_true c3), decide_eq_false (fun h => by simp only [El] at *; omega)]; rfl
        · rw [if_neg (by simpa using c3)]
          by_cases c4 : x.2.2 > 4398046511104
          · rw [if_pos (decide_eq_true c4), decide_eq_false (fun h => by simp only [El] at *; omega)]; rfl
          · rw [if_neg (by simpa using c4), decide_eq_true (by simp only [El] at *; omega)]
            simp
def lastOf (l : List Int) : Int := l.getLast?.getD (-1)
theorem L21_0_eq (K : Nat) (s : Sc) (h0 : 0 ≤ s.1) (h1 : s.1 ≤ 10) (hl : List.length s.2.2 ≤ 300) (hK : 300 < K) (hf : List.length s.2.1 ≤ 100000) : ∀ (n : Nat) (pre suf : List Int), s.2.1 = pre ++ suf → suf.length < n → -1 ≤ lastOf pre →
    L21_0 (F34 K) (F35 K) K s n (pre.length : Int) = some (e2 (okF (pw s.1) (lastOf pre) suf && List.all s.2.2 (okH s)))
  | 0, pre, suf, e, h, hp => by omega
  | n + 1, pre, [], e, h, hp => by
    have := fin (l := s.2.1) e
    simp only [L21_0, b21_0, this.1, Bool.false_eq_true, if_false, okF, Bool.true_and]
    exact L21_1_eq K (by omega) s h0 h1 hl K [] s.2.2 rfl (by omega)
  | n + 1, pre, x :: xs, e, h, hp => by
    obtain ⟨g1, g2, g3, g4, g5, g6⟩ := mid (l := s.2.1) e (zEl (Ty.int IntKind.i64)) (by omega)
    have elast : lastOf (pre ++ [x]) = x := by simp [lastOf]
    have ih := fun hx => L21_0_eq K s h0 h1 hl hK hf n (pre ++ [x]) xs g5 (by simpa using h) hx
    rw [elast] at ih
    simp only [L21_0, b21_0, g1, g2, g3, g4, if_true, F34_eq K (by omega) s.1 h0 h1, Option.bind_some, okF]
    by_cases c1 : x < 0
    · rw [if_pos (decide_eq_true c1), decide_eq_false (show ¬ lastOf pre < x by omega)]; rfl
    · rw [if_neg (by simpa using c1), ih (by omega)]
      by_cases c2 : x ≥ pw s.1
      · rw [if_pos (decide_eq_true c2), decide_eq_false (show ¬ x < pw s.1 by omega)]; simp [e2]
      · rw [if_neg (by simpa using c2), decide_eq_true (show x < pw s.1 by omega), Bool.and_true]
        rcases List.eq_nil_or_concat pre with rfl | ⟨pre, y, rfl⟩
        · rw [if_neg (by simp), decide_eq_true (show lastOf [] < x by simp [lastOf]; omega)]
          rfl
        · simp only [List.concat_eq_append] at *
          have hlen : List.length s.2.1 = pre.length + 1 + (xs.length + 1) := by rw [e]; simp; omega
          have ey : lastOf (pre ++ [y]) = y := by simp [lastOf]
          have hn : ((pre ++ [y]).length : Int) = (pre.length : Int) + 1 := by simp
          have ei : IntKind.i64.wrap (((pre ++ [y]).length : Int) - 1) = (pre.length : Int) := by rw [hn, i64_in (by omega) (by omega)]; omega
          have eg : List.getD s.2.1 ((pre.length : Int)).toNat (zEl (Ty.int IntKind.i64)) = y := by rw [e]; simp
          rw [if_pos (decide_eq_true (by rw [hn]; omega)), ei, if_pos (decide_eq_true (by omega)), eg, ey]
          by_cases c3 : x ≤ y
          · rw [if_pos (decide_eq_true c3), decide_eq_false (show ¬ y < x by omega)]; rfl
          · rw [if_neg (by simpa using c3), decide_eq_true (show y < x by omega)]
            rfl
theorem F21_eq (K : Nat) (hK : 300 < K) (s : Sc) (hf : List.length s.2.1 < K) (hf' : List.length s.2.1 ≤ 100000) : F21 K s = some (chk s) := by
  unfold F21 G21 t21 chk okS
  by_cases c1 : s.1 < 0
  · rw [if_pos (decide_eq_true c1), decide_eq_false (fun h => by simp only [El] at *; omega)]; rfl
  · rw [if_neg (by simpa using c1)]
    by_cases c2 : s.1 > 10
    · rw [if_pos (decide_eq_true c2), decide_eq_false (fun h => by simp only [El] at *; omega)]; rfl
    · rw [if_neg (by simpa using c2)]
      by_cases c3 : List.length s.2.2 ≤ 300
      · rw [if_neg (by simp; omega), decide_eq_true (by simp only [El] at *; omega), Bool.true_and]
        exact L21_0_eq K s (by simp only [El] at *; omega) (by simp only [El] at *; omega) c3 hK hf' K [] s.2.1 rfl hf (by simp [lastOf])
      · rw [if_pos (by simp; omega), decide_eq_false (fun h => c3 h.2.2)]; rfl
end Go.Proofs.YtipfamkhplkpmaaE
