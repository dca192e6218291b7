/- Rank: the document's answers for Sort and Check are the library's; RankSorts and RankLess. -/
import Derived.Test.YtcnfilanbmkpaaaS03F4
import Derived.Test.YtcnfilanbmkpaaaP03B
set_option linter.all false
namespace Go.Proofs.YtcnfilanbmkpaaaE
open Go Go.Proofs Go.Sort
set_option maxRecDepth 100000
set_option linter.unusedVariables false
theorem srt_eq (l : List Key) : srt l = isort l := by
  rw [← merge_eq]
  unfold srt
  congr 1
  funext x y
  rw [ltK, le]
theorem F36_eq (K : Nat) (l : List Key) (hl : l.length ≤ 100000) : F36 K () l = some (isort l) := by
  unfold F36
  rw [if_pos (by omega), srt_eq]
theorem F14_eq (K : Nat) (l : List Key) (hl : l.length ≤ 100000) (hK : l.length < K) : F14 K l = some (sorted l) := by
  show Option.bind (F32 K l) _ = _
  rw [F32_eq K l hK hl, Option.bind_some]
  unfold sorted
  cases hu : uniq l with
  | false => rfl
  | true =>
    simp only [Bool.not_true, Bool.false_eq_true, if_false, if_true]
    rw [F35_eq K l hl, Option.bind_some, F36_eq K l hl, Option.bind_some]
open Classical in
theorem F13_eq (K : Nat) (hK : 4 ≤ K) (l : List Key) (hl : l.length ≤ 100000) (hl' : l.length + 1 < K) : F13 K l = some (chk l) := by
  show Option.bind (F32 K l) _ = _
  rw [F32_eq K l (by omega) hl, Option.bind_some]
  unfold chk
  cases hu : uniq l with
  | false => rfl
  | true =>
    simp only [Bool.not_true, Bool.false_eq_true, if_false, if_true]
    rw [F33_eq K hK l hl (by omega), Option.bind_some]
    by_cases c : bad l
    · have : decide (¬ badB l) = false := decide_eq_false fun h => h ((bad_iff hu).1 c)
      rw [this, if_pos c]; rfl
    · have : decide (¬ badB l) = true := decide_eq_true fun h => c ((bad_iff hu).2 h)
      rw [this, if_neg c]; rfl
abbrev kn0 : List Key := [((5 : Int), (3 : Int), (1 : Int)), ((9 : Int), (8 : Int), (2 : Int)), ((5 : Int), (2 : Int), (7 : Int))]
theorem kn1 : sorted kn0 = ([((9 : Int), (8 : Int), (2 : Int)), ((5 : Int), (2 : Int), (7 : Int)), ((5 : Int), (3 : Int), (1 : Int))], 0) := by kernel_rfl
theorem kn2 : F13 2000 [((9 : Int), (8 : Int), (2 : Int)), ((5 : Int), (2 : Int), (7 : Int)), ((5 : Int), (3 : Int), (1 : Int))] = some 0 := by kernel_rfl
theorem known_eq : F11 2000 = some true := by
  unfold F11 G11 t11
  rw [F14_eq 2000 _ (by decide) (by decide), kn1, Option.bind_some]
  simp only [List.length_cons, List.length_nil]
  have h := kn2
  generalize F13 2000 = f at h
  change (if _ then _ else _) = _
  rw [if_pos (by decide), if_pos (by decide), if_pos (by decide), if_pos (by decide), if_pos (by decide), if_pos (by decide), if_pos (by decide), if_pos (by decide)]
  rw [h]
  rfl
theorem L3_eq (a : List Key) (ha : a.length ≤ 300) : ∀ (n i : Nat) (y z : List Key), y.length < n + i → i ≤ y.length → y.length ≤ 300 →
    L3_0 (F10 2000) (F11 2000) (F12 2000) (F13 2000) (F14 2000) (F15 2000) (F16 2000) (F17 2000) 2000 a n (i : Int) a y z = some true
  | 0, i, y, z, h, h1, h2 => by omega
  | n + 1, i, y, z, h, h1, h2 => by
    simp only [L3_0, b3_0]
    by_cases c : i < y.length
    · have d1 : decide ((i : Int) < (y.length : Int)) = true := decide_eq_true (by omega)
      have d2 : decide ((0 : Int) ≤ (i : Int) ∧ (i : Int) < (y.length : Int)) = true := decide_eq_true (by omega)
      have e1 : IntKind.i64.wrap ((i : Int) + 1) = ((i + 1 : Nat) : Int) := by rw [i64_in (by omega) (by omega)]; omega
      rw [if_pos d1, if_pos d2, e1]
      have hs : ∀ k, (y.set i k).length = y.length := fun k => List.length_set
      refine L3_eq a ha n (i + 1) _ z ?_ ?_ ?_ <;> rw [Int.toNat_natCast, hs] <;> omega
    · have d1 : decide ((i : Int) < (y.length : Int)) = false := decide_eq_false (by omega)
      rw [d1, if_neg Bool.false_ne_true, F17_eq 2000 a a (by omega) (by omega), Option.bind_some, if_pos (decide_eq_true rfl), known_eq]
      rfl
theorem rankSorts (a : List Key) (_ : Gd (.sl T35) a) : F3 2000 a = some true := by
  unfold F3 G3 t3
  rw [F10_eq, Option.bind_some]
  by_cases c : a.length > 300
  · rw [if_pos (by rw [decide_eq_true c]; rfl), known_eq]; rfl
  · rw [if_neg (by rw [decide_eq_false c]; decide)]
    rw [F12_eq 2000 a (by omega), Option.bind_some, F13_eq 2000 (by omega) a (by omega) (by omega), Option.bind_some, F14_eq 2000 a (by omega) (by omega), Option.bind_some,
      F15_eq 2000 a (by omega) (by omega), Option.bind_some, F16_eq 2000 a (by omega) (by omega), Option.bind_some]
    have hlen : (sorted a).1.length ≤ 300 := by
      unfold sorted
      split
      · show (isort a).length ≤ 300
        rw [isort_len]; omega
      · exact Nat.zero_le _
    rw [if_neg (by simp), F17_eq 2000 _ _ (by omega) (by omega), Option.bind_some, if_neg (by simp), if_neg (by simp)]
    exact L3_eq a (by omega) 2000 0 _ _ (by omega) (Nat.zero_le _) hlen
theorem rankLess (a b c : Key) (_ : Gd T35 a) (_ : Gd T35 b) (_ : Gd T35 c) : F4 2000 a b c = some true := by
  have hk := known_eq
  unfold F4 G4 t4
  simp only [F18_eq 2000 (by omega), F19_eq, Option.bind_some, hk, key_beq, less_irrefl, beq_self_eq_true, if_true]
  cases h1 : less a b with
  | true =>
    have h2 := less_asymm h1
    have h3 : decide (a = b) = false := decide_eq_false fun e => by rw [e, less_irrefl] at h1; cases h1
    cases h4 : less b c with
    | true => simp [h2, less_trans h1 h4]; exact fun e1 e2 e3 => of_decide_eq_false h3 (key_ext e1 e2 e3)
    | false => simp [h2]; exact fun e1 e2 e3 => of_decide_eq_false h3 (key_ext e1 e2 e3)
  | false =>
    cases h2 : less b a with
    | true =>
      have h3 : decide (a = b) = false := decide_eq_false fun e => by rw [e, less_irrefl] at h2; cases h2
      simp; exact fun e1 e2 e3 => of_decide_eq_false h3 (key_ext e1 e2 e3)
    | false =>
      obtain rfl := less_total h1 h2
      simp
end Go.Proofs.YtcnfilanbmkpaaaE
