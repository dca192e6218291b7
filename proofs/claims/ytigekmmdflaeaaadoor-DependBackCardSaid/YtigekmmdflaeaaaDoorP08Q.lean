/- Several texts, as one. -/
import Derived.Test.YtigekmmdflaeaaaDoorS08F9
import Derived.Test.YtigekmmdflaeaaaDoorPu0
import Derived.Test.YtigekmmdflaeaaaDoorS08W53
import Derived.Test.YtigekmmdflaeaaaDoorS08W45
import Derived.Lib.Join
import Derived.Lib.Bytealg
set_option linter.all false
/- Depend: what the chapter's examples fix. -/
namespace Go.Proofs.YtigekmmdflaeaaaDoorE
open Go Go.Proofs
set_option maxRecDepth 100000
set_option linter.unusedVariables false
theorem F11_eq (K : Nat) (hK : 200 ≤ K) : F11 K = some true := by
  obtain ⟨k, rfl⟩ : ∃ k, K = k + 60 := ⟨K - 60, by omega⟩
  kernel_rfl
end Go.Proofs.YtigekmmdflaeaaaDoorE
/- Depend: what a dependency says, as plain functions. -/
namespace Go.Proofs.YtigekmmdflaeaaaDoorE
open Go Go.Proofs
set_option maxRecDepth 100000
set_option linter.unusedVariables false
abbrev Nd := El T46
abbrev Wh := El T54
theorem L44_eq (K : Nat) (l : List Int) (x : Int) (hl : l.length ≤ 100000) : ∀ (n : Nat) (pre suf : List Int), l = pre ++ suf → suf.length < n → ∃ v : Int, L44_0 K l x n (pre.length : Int) = some v ∧ (0 ≤ v ↔ x ∈ suf)
  | 0, pre, suf, e, h => by omega
  | n + 1, pre, [], e, h => by
    have hf := fin e
    refine ⟨-1, ?_, by simp⟩
    simp only [L44_0, b44_0, hf.1, Bool.false_eq_true, if_false]
  | n + 1, pre, y :: suf, e, h => by
    obtain ⟨h1, h2, h3, h4, h5, h6⟩ := mid e (zEl (Ty.int IntKind.u32)) (by omega)
    have h3' : l.getD ((pre.length : Int)).toNat (zEl (Ty.int IntKind.u32)) = y := h3
    simp only [L44_0, b44_0, h1, h2, if_true, h3', h4]
    by_cases c : x = y
    · subst c
      rw [if_pos (beq_self_eq_true x)]
      exact ⟨_, rfl, by simp⟩
    · rw [if_neg (fun h => c (beq_iff_eq.1 h))]
      obtain ⟨v, hv, hi⟩ := L44_eq K l x hl n (pre ++ [y]) suf h5 (by simpa using h)
      exact ⟨v, hv, hi.trans ⟨fun h => List.mem_cons_of_mem _ h, fun h => (List.mem_cons.1 h).resolve_left c⟩⟩
theorem F25_eq (K : Nat) (l : List Int) (x : Int) (hK : l.length < K) (hl : l.length ≤ 100000) : F25 K l x = some (decide (x ∈ l)) := by
  obtain ⟨v, hv, hi⟩ := L44_eq K l x hl K [] l rfl hK
  have : F44 K l x = some v := hv
  simp only [F25, G25, t25, this, Option.bind_some]
  exact congrArg some (decide_eq_decide.2 hi)
theorem L56_eq (K : Nat) (l : List Int) (x : Int) (hl : l.length ≤ 100000) : ∀ (n : Nat) (pre suf : List Int), l = pre ++ suf → suf.length < n → ∃ v : Int, L56_0 K l x n (pre.length : Int) = some v ∧ (0 ≤ v ↔ x ∈ suf)
  | 0, pre, suf, e, h => by omega
  | n + 1, pre, [], e, h => by
    have hf := fin e
    refine ⟨-1, ?_, by simp⟩
    simp only [L56_0, b56_0, hf.1, Bool.false_eq_true, if_false]
  | n + 1, pre, y :: suf, e, h => by
    obtain ⟨h1, h2, h3, h4, h5, h6⟩ := mid e (zEl (Ty.int IntKind.i64)) (by omega)
    have h3' : l.getD ((pre.length : Int)).toNat (zEl (Ty.int IntKind.i64)) = y := h3
    simp only [L56_0, b56_0, h1, h2, if_true, h3', h4]
    by_cases c : x = y
    · subst c
      rw [if_pos (beq_self_eq_true x)]
      exact ⟨_, rfl, by simp⟩
    · rw [if_neg (fun h => c (beq_iff_eq.1 h))]
      obtain ⟨v, hv, hi⟩ := L56_eq K l x hl n (pre ++ [y]) suf h5 (by simpa using h)
      exact ⟨v, hv, hi.trans ⟨fun h => List.mem_cons_of_mem _ h, fun h => (List.mem_cons.1 h).resolve_left c⟩⟩
theorem F41_eq (K : Nat) (l : List Int) (x : Int) (hK : l.length < K) (hl : l.length ≤ 100000) : F41 K l x = some (decide (x ∈ l)) := by
  obtain ⟨v, hv, hi⟩ := L56_eq K l x hl K [] l rfl hK
  have : F56 K l x = some v := hv
  simp only [F41, G41, t41, this, Option.bind_some]
  exact congrArg some (decide_eq_decide.2 hi)
def all3 (l : List Int) : Int := if (3 : Int) ∈ l then 3 else if (1 : Int) ∈ l then 1 else 2
def any3 (l : List Int) : Int := if (2 : Int) ∈ l then 2 else if (1 : Int) ∈ l then 1 else 3
theorem F40_eq (K : Nat) (l : List Int) (hK : l.length < K) (hl : l.length ≤ 100000) : F40 K l = some (all3 l) := by
  simp only [F40, G40, t40, F41_eq K l _ hK hl, Option.bind_some, decide_eq_true_eq]
  unfold all3
  split
  · rfl
  · split <;> rfl
def howP : List Wh → Int → Int
  | [], _ => 0
  | w :: l, j => if (w.1 : Int) = j then (if (w.2 : Int) < 1 ∨ (4 : Int) < w.2 then 0 else w.2) else howP l j
theorem L54_eq (K : Nat) (l : List Wh) (j : Int) (hl : l.length ≤ 100000) : ∀ (n : Nat) (pre suf : List Wh), l = pre ++ suf → suf.length < n →
    (L54_0 (F55 K) K l j n (pre.length : Int) = some (-1) ∧ howP suf j = 0) ∨
    ∃ (p : List Wh) (w : Wh) (s : List Wh), l = p ++ w :: s ∧ L54_0 (F55 K) K l j n (pre.length : Int) = some (p.length : Int) ∧ howP suf j = (if (w.2 : Int) < 1 ∨ (4 : Int) < w.2 then 0 else w.2)
  | 0, pre, suf, e, h => by omega
  | n + 1, pre, [], e, h => by
    have hf := fin e
    refine .inl ⟨?_, rfl⟩
    simp only [L54_0, b54_0, hf.1, Bool.false_eq_true, if_false]
  | n + 1, pre, w :: suf, e, h => by
    obtain ⟨h1, h2, h3, h4, h5, h6⟩ := mid e (zEl T54) (by omega)
    have f55 : F55 K w j = some (w.1 == j) := rfl
    simp only [L54_0, b54_0, h1, h2, if_true, h3, h4, f55, Option.bind_some]
    by_cases c : (w.1 : Int) = j
    · rw [if_pos (beq_iff_eq.2 c)]
      refine .inr ⟨pre, w, suf, e, rfl, ?_⟩
      rw [howP, if_pos c]
    · rw [if_neg (fun h => c (beq_iff_eq.1 h))]
      have e2 : howP (w :: suf) j = howP suf j := by rw [howP, if_neg c]
      rw [e2]
      exact L54_eq K l j hl n (pre ++ [w]) suf h5 (by simpa using h)
theorem F39_eq (K : Nat) (l : List Wh) (j : Int) (hK : l.length < K) (hl : l.length ≤ 100000) : F39 K l j = some (howP l j) := by
  rcases L54_eq K l j hl K [] l rfl hK with ⟨h1, h2⟩ | ⟨p, w, s, e, h1, h2⟩
  · have : F54 K l j = some (-1) := h1
    have c : decide ((-1 : Int) < 0) = true := rfl
    simp only [F39, G39, t39, this, Option.bind_some, c, if_true, h2]
  · have : F54 K l j = some (p.length : Int) := h1
    obtain ⟨g1, g2, g3, g4, g5, g6⟩ := mid e (zEl T54) (by omega)
    have c : decide ((p.length : Int) < 0) = false := decide_eq_false (by omega)
    simp only [F39, G39, t39, this, Option.bind_some, c, Bool.false_eq_true, if_false, g2, if_true, g3, h2]
    by_cases c1 : (w.2 : Int) < 1
    · rw [if_pos (decide_eq_true c1)]
      exact (congrArg some (if_pos (show (w.2 : Int) < 1 ∨ (4 : Int) < w.2 from Or.inl c1))).symm
    · rw [if_neg (by rw [decide_eq_false c1]; decide)]
      by_cases c2 : (4 : Int) < w.2
      · rw [if_pos (decide_eq_true (show (w.2 : Int) > 4 from c2))]
        exact (congrArg some (if_pos (show (w.2 : Int) < 1 ∨ (4 : Int) < w.2 from Or.inr c2))).symm
      · rw [if_neg (by rw [decide_eq_false (show ¬ (w.2 : Int) > 4 from c2)]; decide)]
        exact (congrArg some (if_neg (show ¬ ((w.2 : Int) < 1 ∨ (4 : Int) < w.2) from fun h => Or.elim h c1 c2))).symm
def oneP (k h : Int) : Int := if h = 0 then 3 else if h = 1 then 1 else if h = 2 ∧ k ≠ 1 then 1 else if k = 2 ∧ h = 4 then 3 else if k = 3 ∧ h = 3 then 3 else 2
theorem F38_eq (K : Nat) (k h : Int) : F38 K k h = some (oneP k h) := by
  simp only [F38, G38, t38, beq_iff_eq, bne_iff_ne, oneP]
  by_cases c0 : h = 0
  · simp [c0]
  by_cases c1 : h = 1
  · simp [c1]
  by_cases c2 : h = 2 <;> by_cases k1 : k = 1 <;> by_cases k2 : k = 2 <;> by_cases k3 : k = 3 <;> by_cases c3 : h = 3 <;> by_cases c4 : h = 4 <;> simp_all <;> omega
def okN (n : Nd) : Bool := decide ((1 : Int) ≤ n.1 ∧ (n.1 : Int) ≤ 5) && (((n.1 : Int) == 5) == ((n.2.length : Int) == 0)) && decide (n.2.length ≤ 20) && !decide ((0 : Int) ∈ (show List Int from n.2))
def okD (d : El T24) : Bool := decide (d.2.length ≤ 20) && (!d.1 || decide (2 ≤ d.2.length)) && d.2.all okN
def ckv : Bool → Int
  | true => 0
  | false => 2
theorem L13_eq (K : Nat) (hK : 200 ≤ K) (d : El T24) (hl : d.2.length ≤ 20) : ∀ (n : Nat) (pre suf : List Nd), d.2 = pre ++ suf → suf.length < n → L13_0 (F25 K) K d n (pre.length : Int) = some (ckv (suf.all okN))
  | 0, pre, suf, e, h => by omega
  | n + 1, pre, [], e, h => by
    have hf := fin e
    simp only [L13_0, b13_0, hf.1, Bool.false_eq_true, if_false, List.all_nil, ckv]
  | n + 1, pre, x :: suf, e, h => by
    obtain ⟨h1, h2, h3, h4, h5, h6⟩ := mid e (zEl T46) (by omega)
    have ih := L13_eq K hK d hl n (pre ++ [x]) suf h5 (by simpa using h)
    simp only [L13_0, b13_0, h1, h2, if_true, h3, h4, List.all_cons]
    by_cases c1 : (x.1 : Int) < 1
    · have : okN x = false := by
        have : decide ((1 : Int) ≤ x.1 ∧ (x.1 : Int) ≤ 5) = false := decide_eq_false (fun h => absurd h.1 (Int.not_le.2 c1))
        simp only [okN, this, Bool.false_and]
      rw [if_pos (decide_eq_true c1), this, Bool.false_and]
      rfl
    rw [if_neg (by rw [decide_eq_false c1]; decide)]
    by_cases c2 : (x.1 : Int) > 5
    · have : okN x = false := by
        have : decide ((1 : Int) ≤ x.1 ∧ (x.1 : Int) ≤ 5) = false := decide_eq_false (fun h => absurd h.2 (Int.not_le.2 c2))
        simp only [okN, this, Bool.false_and]
      rw [if_pos (decide_eq_true c2), this, Bool.false_and]
      rfl
    rw [if_neg (by rw [decide_eq_false c2]; decide)]
    have g1 : decide ((1 : Int) ≤ x.1 ∧ (x.1 : Int) ≤ 5) = true := decide_eq_true ⟨Int.not_lt.1 c1, Int.not_lt.1 c2⟩
    by_cases c3 : (((x.1 : Int) == 5) == ((x.2.length : Int) == 0)) = true
    · rw [if_neg (by rw [c3]; decide)]
      by_cases c4 : (x.2.length : Int) > 20
      · have : okN x = false := by
          have : decide (x.2.length ≤ 20) = false := decide_eq_false (by omega)
          simp only [okN, this, Bool.and_false, Bool.false_and]
        rw [if_pos (decide_eq_true c4), this, Bool.false_and]
        rfl
      rw [if_neg (by rw [decide_eq_false c4]; decide)]
      have g4 : decide (x.2.length ≤ 20) = true := decide_eq_true (by omega)
      rw [F25_eq K x.2 0 (by omega) (by omega), Option.bind_some]
      by_cases c5 : (0 : Int) ∈ (show List Int from x.2)
      · have : okN x = false := by simp only [okN, decide_eq_true c5, Bool.not_true, Bool.and_false]
        rw [if_pos (decide_eq_true c5), this, Bool.false_and]
        rfl
      · have : okN x = true := by simp only [okN, g1, c3, g4, decide_eq_false c5, Bool.not_false, Bool.and_self]
        rw [if_neg (by rw [decide_eq_false c5]; decide), this, Bool.true_and]
        exact ih
    · have c3' : (((x.1 : Int) == 5) == ((x.2.length : Int) == 0)) = false := by simpa using c3
      have : okN x = false := by simp only [okN, c3', Bool.and_false, Bool.false_and]
      rw [if_pos (by rw [c3']; rfl), this, Bool.false_and]
      rfl
theorem F13_eq (K : Nat) (hK : 200 ≤ K) (d : El T24) : F13 K d = some (ckv (okD d)) := by
  unfold F13 G13 t13
  by_cases c1 : ((List.length d.2 : Nat) : Int) > 20
  · have : okD d = false := by
      have : decide (d.2.length ≤ 20) = false := decide_eq_false (by omega)
      simp only [okD, this, Bool.false_and]
    rw [if_pos (decide_eq_true c1), this]
    rfl
  rw [if_neg (by rw [decide_eq_false c1]; decide)]
  have g1 : decide (d.2.length ≤ 20) = true := decide_eq_true (by omega)
  have hL := L13_eq K hK d (by omega) K [] d.2 rfl (by omega)
  cases ha : d.1 with
  | false =>
    rw [if_neg (by decide)]
    refine hL.trans ?_
    simp only [okD, g1, ha, Bool.not_false, Bool.true_or, Bool.true_and]
  | true =>
    rw [if_pos rfl]
    by_cases c2 : ((List.length d.2 : Nat) : Int) < 2
    · have : okD d = false := by
        have : decide (2 ≤ d.2.length) = false := decide_eq_false (by omega)
        simp only [okD, this, ha, Bool.not_true, Bool.or_false, Bool.and_false, Bool.false_and]
      rw [if_pos (decide_eq_true c2), this]
      rfl
    · have g2 : decide (2 ≤ d.2.length) = true := decide_eq_true (by omega)
      rw [if_neg (by rw [decide_eq_false c2]; decide)]
      refine hL.trans ?_
      simp only [okD, g1, g2, ha, Bool.or_true, Bool.true_and]
end Go.Proofs.YtigekmmdflaeaaaDoorE
/- Depend: texts cut at a sign and glued, and numbers as digits, as plain functions on bytes. -/
namespace Go.Proofs.YtigekmmdflaeaaaDoorE
open Go Go.Proofs
set_option maxRecDepth 100000
set_option linter.unusedVariables false
def cut (c : UInt8) : List UInt8 → List (List UInt8)
  | [] => [[]]
  | x :: l => if x = c then [] :: cut c l else match cut c l with | [] => [[x]] | h :: t => (x :: h) :: t
def glue (c : UInt8) : List (List UInt8) → List UInt8
  | [] => []
  | x :: l => x ++ (l.map (c :: ·)).flatten
theorem cut_ne (c : UInt8) : ∀ l, cut c l ≠ []
  | [] => by simp [cut]
  | x :: l => by
    rw [cut]
    split
    · simp
    · split <;> simp
theorem glue_cons (c : UInt8) (x y : List UInt8) (l : List (List UInt8)) : glue c (x :: y :: l) = x ++ c :: glue c (y :: l) := by
  simp [glue]
theorem glue_cut (c : UInt8) : ∀ l, glue c (cut c l) = l
  | [] => by simp [cut, glue]
  | x :: l => by
    have ih := glue_cut c l
    rw [cut]
    split
    · rename_i h
      subst h
      cases hc : cut x l with
      | nil => exact absurd hc (cut_ne x l)
      | cons a t => rw [glue_cons, ← hc, ih, List.nil_append]
    · split
      · rename_i h1 h2
        exact absurd h2 (cut_ne c l)
      · rename_i h1 a t h2
        rw [h2] at ih
        rw [glue] at ih ⊢
        rw [← ih]
        simp
theorem cut_mem (c : UInt8) : ∀ l x, x ∈ cut c l → c ∉ x
  | [], x, h => by
    simp [cut] at h
    subst h
    simp
  | y :: l, x, h => by
    have ih := cut_mem c l
    rw [cut] at h
    split at h
    · rcases List.mem_cons.1 h with h | h
      · subst h; simp
      · exact ih x h
    · rename_i hy
      split at h
      · rename_i h2
        exact absurd h2 (cut_ne c l)
      · rename_i a t h2
        rcases List.mem_cons.1 h with h | h
        · subst h
          intro hm
          rcases List.mem_cons.1 hm with e | e
          · exact hy e.symm
          · exact ih a (by rw [h2]; exact List.mem_cons_self) e
        · exact ih x (by rw [h2]; exact List.mem_cons_of_mem _ h)
theorem cut_app (c : UInt8) : ∀ (x : List UInt8), c ∉ x → ∀ l, cut c (x ++ c :: l) = x :: cut c l
  | [], h, l => by simp [cut]
  | y :: x, h, l => by
    have ih := cut_app c x (fun m => h (List.mem_cons_of_mem _ m)) l
    have hy : y ≠ c := fun e => h (by rw [e]; exact List.mem_cons_self)
    rw [List.cons_append, cut, if_neg hy, ih]
theorem cut_one (c : UInt8) : ∀ (x : List UInt8), c ∉ x → cut c x = [x]
  | [], h => rfl
  | y :: x, h => by
    have ih := cut_one c x (fun m => h (List.mem_cons_of_mem _ m))
    have hy : y ≠ c := fun e => h (by rw [e]; exact List.mem_cons_self)
    rw [cut, if_neg hy, ih]
theorem cut_glue (c : UInt8) : ∀ (ls : List (List UInt8)), ls ≠ [] → (∀ x ∈ ls, c ∉ x) → cut c (glue c ls) = ls
  | [], h, _ => absurd rfl h
  | [x], _, h => by
    simp only [glue, List.map_nil, List.flatten_nil, List.append_nil]
    exact cut_one c x (h x (by simp))
  | x :: y :: l, _, h => by
    rw [glue_cons, cut_app c x (h x (by simp)), cut_glue c (y :: l) (by simp) (fun z hz => h z (List.mem_cons_of_mem _ hz))]
theorem join_glue (c : UInt8) : ∀ ls, Lib.join ls [c] = glue c ls
  | [] => rfl
  | x :: l => by
    unfold Lib.join glue
    induction l generalizing x with
    | nil => simp [List.intercalate]
    | cons y l ih =>
      have := ih y
      simp only [List.intercalate, List.intersperse_cons_cons, List.flatten_cons, List.map_cons] at this ⊢
      rw [this]
      simp
theorem mem_glue {c x : UInt8} (hx : x ≠ c) : ∀ {ls : List (List UInt8)}, x ∈ glue c ls ↔ ∃ l ∈ ls, x ∈ l
  | [] => by simp [glue]
  | a :: l => by
    simp only [glue, List.mem_append, List.mem_flatten, List.mem_map, List.mem_cons]
    constructor
    · rintro (h | ⟨b, ⟨d, hd, rfl⟩, hb⟩)
      · exact ⟨a, .inl rfl, h⟩
      · rcases List.mem_cons.1 hb with e | e
        · exact absurd e hx
        · exact ⟨d, .inr hd, e⟩
    · rintro ⟨b, rfl | hb, h⟩
      · exact .inl h
      · exact .inr ⟨_, ⟨b, hb, rfl⟩, List.mem_cons_of_mem _ h⟩
theorem cut_index (c : UInt8) : ∀ l, (Lib.indexByte l c = -1 ∧ cut c l = [l] ∧ l.count c = 0) ∨ ∃ m : Nat, Lib.indexByte l c = (m : Int) ∧ m < l.length ∧ cut c l = l.take m :: cut c (l.drop (m + 1)) ∧ l.count c = (l.drop (m + 1)).count c + 1
  | [] => .inl ⟨rfl, rfl, rfl⟩
  | x :: l => by
    rw [Lib.indexByte, cut, List.count_cons]
    by_cases h : x = c
    · subst h
      refine .inr ⟨0, ?_⟩
      simp
    · have hb : (x == c) = false := by simpa using h
      rw [hb, if_neg h]
      rcases cut_index c l with ⟨h1, h2, h3⟩ | ⟨m, h1, h2, h3, h4⟩
      · left
        rw [h1, h2, h3]
        simp
      · right
        refine ⟨m + 1, ?_⟩
        have hm : ¬ ((m : Int) == -1) = true := by simp
        rw [h1, h3, h4]
        simp only [Bool.false_eq_true, if_false, if_neg hm]
        refine ⟨by omega, by simp; omega, by simp, by simp⟩
def jl : List UInt8 → Nat → Nat → Nat × Bool
  | [], pos, n => (n % 4294967296, decide (0 < pos) && decide (n < 4294967296))
  | x :: l, pos, n => if x.toNat < 48 ∨ 57 < x.toNat ∨ 9 < pos ∨ (0 < pos ∧ n = 0) then (0, false) else jl l (pos + 1) (10 * n + (x.toNat - 48))
theorem drop_at {l : List UInt8} {pos : Nat} (h : pos < l.length) : l.drop pos = l[pos] :: l.drop (pos + 1) := (List.drop_eq_getElem_cons h)
theorem jb_jl (s : ByteArray) : ∀ (b pos n : Nat), pos ≤ s.size → s.size - pos ≤ b → n < 10 ^ pos → pos ≤ 10 → jb s b pos n = (((jl (s.data.toList.drop pos) pos n).1 : Int), (jl (s.data.toList.drop pos) pos n).2) := by
  have hsz : s.data.toList.length = s.size := rfl
  have hend : ∀ pos n : Nat, pos = s.size → jend s n = (((jl (s.data.toList.drop pos) pos n).1 : Int), (jl (s.data.toList.drop pos) pos n).2) := fun pos n h => by
    rw [List.drop_eq_nil_of_le (by omega), jl, jend, ByteArray.toList_eq]
    have h1 : (!(s.data.toList == [])) = decide (0 < pos) := by
      cases hl : s.data.toList with
      | nil =>
        rw [hl, List.length_nil] at hsz
        exact (decide_eq_false (by omega)).symm
      | cons a t =>
        rw [hl, List.length_cons] at hsz
        exact (decide_eq_true (by omega)).symm
    rw [h1]
    have h2 : ((n : Nat) : Int) % 4294967296 = ((n % 4294967296 : Nat) : Int) := by omega
    have h3 : decide (((n : Nat) : Int) < 4294967296) = decide (n < 4294967296) := decide_eq_decide.2 (by omega)
    exact Prod.ext h2 (congrArg (fun b => decide (0 < pos) && b) h3)
  intro b
  induction b with
  | zero =>
    intro pos n h1 h2 h3 h4
    rw [jb]
    exact hend pos n (by omega)
  | succ b ih =>
    intro pos n h1 h2 h3 h4
    rw [jb]
    by_cases hp : pos < s.size
    · rw [if_pos hp, drop_at (by omega), jl]
      have hx : s.data.toList[pos]'(by omega) = s[pos]'hp := by simp; rfl
      rw [hx]
      by_cases ha : (s[pos]'hp).toNat < 128
      · have hd := decode_ascii s pos hp ha
        by_cases hbad : jbad s pos n
        · have hbad2 := hbad
          rw [jbad, hd] at hbad2
          rw [if_pos hbad, if_pos]
          · rfl
          · simp only [beq_iff_eq] at hbad2
            omega
        · have hbad2 := hbad
          rw [jbad, hd] at hbad2
          simp only [beq_iff_eq] at hbad2
          rw [if_neg hbad, if_neg (by omega)]
          have hn : n < 10 ^ 9 ∨ False := by
            left
            exact Nat.lt_of_lt_of_le h3 (Nat.pow_le_pow_right (by omega) (by omega))
          have hn' : n < 1000000000 := by rcases hn with h | h; exact h; exact h.elim
          have e1 : jnext s pos n = ((10 * n + ((s[pos]'hp).toNat - 48) : Nat) : Int) := by
            rw [jnext, hd, IntKind.wrap_u64, IntKind.wrap_u64]
            simp only
            omega
          rw [hd, e1]
          refine ih (pos + 1) _ (by omega) (by omega) ?_ (by omega)
          rw [Nat.pow_succ]
          omega
      · have hd := decode_high s pos hp (by omega)
        rw [if_pos (by unfold jbad; left; right; omega), if_pos (by omega)]
        rfl
    · rw [if_neg hp]
      exact hend pos n (by omega)
theorem digB {d : Nat} (h : d < 10) : (UInt8.ofNat (48 + d)).toNat = 48 + d := by
  rw [UInt8.toNat_ofNat']
  omega
theorem dec_len : ∀ (k v : Nat), v < 10 ^ (k + 1) → (Lib.decDigits v).length ≤ k + 1
  | 0, v, h => by
    rw [Lib.decDigits, dif_pos (by simpa using h)]
    simp
  | k + 1, v, h => by
    rw [Lib.decDigits]
    split
    · simp
    · have := dec_len k (v / 10) (by rw [Nat.pow_succ] at h; omega)
      simp
      omega
theorem dec_pos (v : Nat) : 0 < (Lib.decDigits v).length := by
  rw [Lib.decDigits]
  split <;> simp
theorem dec_mem : ∀ (k v : Nat), v < k → ∀ x ∈ Lib.decDigits v, 48 ≤ x.toNat ∧ x.toNat ≤ 57
  | 0, v, h, x, hx => by omega
  | k + 1, v, h, x, hx => by
    rw [Lib.decDigits] at hx
    split at hx
    · simp only [List.mem_singleton] at hx
      subst hx
      rw [digB (by omega)]
      omega
    · rcases List.mem_append.1 hx with hx | hx
      · exact dec_mem k (v / 10) (by omega) x hx
      · simp only [List.mem_singleton] at hx
        subst hx
        rw [digB (by omega)]
        omega
theorem jl_dec : ∀ (k v : Nat), v < k → 0 < v → v < 10 ^ 10 → ∀ l, jl (Lib.decDigits v ++ l) 0 0 = jl l (Lib.decDigits v).length v
  | 0, v, h, _, _, l => by omega
  | k + 1, v, h, h0, h1, l => by
    by_cases h9 : v < 10
    · rw [Lib.decDigits, dif_pos h9]
      simp only [List.singleton_append, jl, digB h9, List.length_singleton]
      rw [if_neg (by omega)]
      congr 1
      omega
    · rw [Lib.decDigits, dif_neg h9, List.append_assoc, jl_dec k (v / 10) (by omega) (by omega) (by omega)]
      have hl := dec_len 8 (v / 10) (by omega)
      simp only [List.singleton_append, jl, digB (show v % 10 < 10 by omega), List.length_append, List.length_singleton]
      rw [if_neg (by omega)]
      congr 1
      omega
theorem jl_of_dec (v : Nat) (h : v < 4294967296) : jl (Lib.decDigits v) 0 0 = (v, true) := by
  by_cases h0 : v = 0
  · subst h0
    rw [Lib.decDigits, dif_pos (by omega)]
    rfl
  · have := jl_dec (v + 1) v (by omega) (by omega) (by omega) []
    rw [List.append_nil] at this
    rw [this, jl]
    have := dec_pos v
    rw [Nat.mod_eq_of_lt h, decide_eq_true this, decide_eq_true h]
    rfl
theorem ofNat_sub {x : UInt8} (h : 48 ≤ x.toNat) : UInt8.ofNat (48 + (x.toNat - 48)) = x := by
  apply UInt8.toNat_inj.1
  rw [UInt8.toNat_ofNat']
  have := x.toNat_lt
  omega
theorem dec_of_jl : ∀ (l : List UInt8) (pre : List UInt8) (pos n v : Nat), ((pos = 0 ∧ n = 0 ∧ pre = []) ∨ (0 < pos ∧ pre = Lib.decDigits n)) → jl l pos n = (v, true) → Lib.decDigits v = pre ++ l ∧ v < 4294967296
  | [], pre, pos, n, v, hi, h => by
    simp only [jl, Prod.mk.injEq, Bool.and_eq_true, decide_eq_true_eq] at h
    obtain ⟨h1, h2, h3⟩ := h
    rcases hi with ⟨hi, _⟩ | ⟨_, hi⟩
    · omega
    · rw [Nat.mod_eq_of_lt h3] at h1
      subst h1
      exact ⟨by rw [hi, List.append_nil], h3⟩
  | x :: l, pre, pos, n, v, hi, h => by
    rw [jl] at h
    split at h
    · simp at h
    · rename_i hx
      have := dec_of_jl l (pre ++ [x]) (pos + 1) (10 * n + (x.toNat - 48)) v (.inr ⟨by omega, by
        rcases hi with ⟨_, rfl, rfl⟩ | ⟨hp, rfl⟩
        · rw [Lib.decDigits, dif_pos (by omega), Nat.mul_zero, Nat.zero_add, ofNat_sub (by omega)]
          rfl
        · rw [Lib.decDigits.eq_1 (10 * n + (x.toNat - 48)), dif_neg (by omega)]
          congr 1
          · congr 1
            omega
          · have e : (10 * n + (x.toNat - 48)) % 10 = x.toNat - 48 := by omega
            rw [e, ofNat_sub (by omega)]⟩) h
      rw [List.append_assoc] at this
      exact this
theorem F53_eq (K : Nat) (s : ByteArray) : F53 K s = some (((jl s.data.toList 0 0).1 : Int), (jl s.data.toList 0 0).2) := by
  unfold F53
  have := jb_jl s s.size 0 0 (by omega) (by omega) (by simp) (by omega)
  rw [List.drop_zero] at this
  exact congrArg some this
end Go.Proofs.YtigekmmdflaeaaaDoorE
/- Depend: texts read and printed, as plain functions. -/
namespace Go.Proofs.YtigekmmdflaeaaaDoorE
open Go Go.Proofs
set_option maxRecDepth 100000
set_option linter.unusedVariables false
theorem bytes_ext {a b : ByteArray} (h : a.data.toList = b.data.toList) : a = b := ByteArray.ext (Array.toList_inj.1 h)
def bs (l : List UInt8) : ByteArray := ⟨l.toArray⟩
def ls (s : ByteArray) : List UInt8 := s.data.toList
@[simp] theorem ls_bs (l : List UInt8) : ls (bs l) = l := by simp [ls, bs]
@[simp] theorem bs_ls (s : ByteArray) : bs (ls s) = s := by
  apply bytes_ext
  simp [ls, bs]
theorem ls_size (s : ByteArray) : s.size = (ls s).length := rfl
theorem bs_size (l : List UInt8) : (bs l).size = l.length := by rw [ls_size, ls_bs]
theorem bs_inj {a b : List UInt8} (h : bs a = bs b) : a = b := by rw [← ls_bs a, h, ls_bs]
theorem toList_ls (s : ByteArray) : s.toList = ls s := ByteArray.toList_eq s
theorem ext_ls (s : ByteArray) (a b : Nat) : s.extract a b = bs (((ls s).drop a).take (b - a)) := by
  apply bytes_ext
  simp only [ls, bs, ByteArray.data_extract, Array.toList_extract, List.extract]
theorem app_bs (a b : List UInt8) : bs a ++ bs b = bs (a ++ b) := by
  apply bytes_ext
  simp [bs, ByteArray.data_append]
abbrev sg (c : UInt8) : ByteArray := ByteArray.mk (#[c])
theorem sg_bs (c : UInt8) : sg c = bs [c] := rfl
theorem F74_eq (K : Nat) (s : ByteArray) (c : UInt8) : F74 K s (sg c) = some (Lib.indexByte (ls s) c) := by
  have e0 : (((sg c).size : Nat) : Int) = 1 := rfl
  have e1 : (sg c).toList = [c] := by rw [toList_ls]; rfl
  unfold F74 G74 t74
  rw [e0, if_neg (by decide), e1, toList_ls]
  by_cases h : ([c] == ls s) = true
  · rw [if_pos h]
    have := beq_iff_eq.1 h
    rw [← this]
    simp [Lib.indexByte]
  · rw [if_neg h, if_pos (by decide), if_pos (by decide)]
    have : F89 K s (((sg c).data.getD (Int.toNat (0 : Int)) (0 : UInt8)).toNat : Int) = some (Lib.indexByte (ls s) c) := by
      unfold F89
      have e2 : (((sg c).data.getD (Int.toNat (0 : Int)) (0 : UInt8)).toNat : Int) = (c.toNat : Int) := rfl
      rw [e2, Int.toNat_natCast]
      have : c.toNat.toUInt8 = c := by simp
      rw [this]
      rfl
    rw [this]
    rfl
theorem F51_eq (K : Nat) (s : ByteArray) (c : UInt8) : F51 K s (sg c) = some (Lib.indexByte (ls s) c) := by
  unfold F51 G51 t51
  rw [F74_eq]
  rfl
theorem F33_eq (K : Nat) (s : ByteArray) (c : UInt8) : F33 K s (sg c) = some (decide (c ∈ ls s)) := by
  unfold F33 G33 t33
  rw [F51_eq, Option.bind_some]
  refine congrArg some (decide_eq_decide.2 ?_)
  rcases cut_index c (ls s) with ⟨h1, h2, h3⟩ | ⟨m, h1, h2, h3, h4⟩
  · rw [h1]
    have := List.count_eq_zero.1 h3
    constructor
    · intro h; omega
    · intro h; exact absurd h this
  · rw [h1]
    constructor
    · intro h
      exact List.count_pos_iff.1 (by omega)
    · intro h
      show (0 : Int) ≤ _
      omega
theorem L52_eq (K : Nat) (a0 : ByteArray) (c : UInt8) (u v : Unit) : ∀ (n : Nat) (s : List UInt8) (i : Nat) (row : List ByteArray) (N : Nat), s.length ≤ 100000 → row.length = N + 1 → i + s.count c = N → N ≤ 100000 → s.count c < n →
    L52_0 (F76 K) (F51 K) K a0 (sg c) u v n (bs s) (N : Int) (i : Int) row = some (row.take i ++ (cut c s).map bs)
  | 0, s, i, row, N, hs, hr, hi, hN, h => by omega
  | n + 1, s, i, row, N, hs, hr, hi, hN, h => by
    have w1 : IntKind.i64.wrap ((i : Int) + (1 : Int)) = ((i + 1 : Nat) : Int) := by rw [i64_in] <;> omega
    have g1 : decide ((0 : Int) ≤ (i : Int) ∧ (i : Int) < (row.length : Int)) = true := decide_eq_true (by omega)
    have hrow : ∀ x : ByteArray, (row.set i x).take (i + 1) = row.take i ++ [x] := fun x => by
      rw [List.take_succ]
      rw [List.take_set_of_le (Nat.le_refl _), List.getElem?_set_self (by omega)]
      rfl
    rcases cut_index c s with ⟨h1, h2, h3⟩ | ⟨m, h1, h2, h3, h4⟩
    · have g0 : decide ((i : Int) < (N : Int)) = false := decide_eq_false (by omega)
      have g2 : decide ((0 : Int) ≤ (0 : Int) ∧ (0 : Int) ≤ ((i + 1 : Nat) : Int) ∧ ((i + 1 : Nat) : Int) ≤ ((row.set i (bs s)).length : Int)) = true := decide_eq_true (by rw [List.length_set]; omega)
      simp only [L52_0, b52_0, g0, Bool.false_eq_true, if_false, Int.toNat_natCast, w1, g1, if_true, g2]
      rw [h2]
      show some (List.drop 0 ((row.set i (bs s)).take (i + 1))) = _
      rw [List.drop_zero, hrow]
      rfl
    · have g0 : decide ((i : Int) < (N : Int)) = true := decide_eq_true (by omega)
      have g2 : decide ((m : Int) < (0 : Int)) = false := decide_eq_false (by omega)
      have w2 : IntKind.i64.wrap ((m : Int) + (0 : Int)) = (m : Int) := by rw [i64_in] <;> omega
      have e0 : (((sg c).size : Nat) : Int) = 1 := rfl
      have w3 : IntKind.i64.wrap ((m : Int) + (1 : Int)) = ((m + 1 : Nat) : Int) := by rw [i64_in] <;> omega
      have g3 : decide ((0 : Int) ≤ (0 : Int) ∧ (0 : Int) ≤ (m : Int) ∧ (m : Int) ≤ (((bs s).size : Nat) : Int)) = true := decide_eq_true (by rw [bs_size]; omega)
      have g4 : decide ((0 : Int) ≤ ((m + 1 : Nat) : Int) ∧ ((m + 1 : Nat) : Int) ≤ (((bs s).size : Nat) : Int) ∧ (((bs s).size : Nat) : Int) ≤ (((bs s).size : Nat) : Int)) = true := decide_eq_true (by rw [bs_size]; omega)
      have f51 : F51 K (bs s) (sg c) = some (m : Int) := by rw [F51_eq, ls_bs, h1]
      simp only [L52_0, b52_0, g0, if_true, f51, Option.bind_some, g2, Bool.false_eq_true, if_false, w2, e0, w3, g3, g1, g4, w1, Int.toNat_natCast]
      have x1 : (bs s).extract (m + 1) (bs s).size = bs (s.drop (m + 1)) := by
        rw [ext_ls, ls_bs, bs_size, List.take_of_length_le (by simp)]
      have x2 : (bs s).extract (Int.toNat (0 : Int)) m = bs (s.take m) := by
        rw [ext_ls, ls_bs]
        rfl
      rw [x1, x2]
      have ih := L52_eq K a0 c u v n (s.drop (m + 1)) (i + 1) (row.set i (bs (s.take m))) N (by simp; omega) (by rw [List.length_set]; exact hr) (by omega) hN (by omega)
      refine ih.trans ?_
      rw [hrow, h3]
      simp
theorem F52_eq (K : Nat) (s : ByteArray) (c : UInt8) (hs : s.size ≤ 100000) (hK : s.size < K) : F52 K s (sg c) () () = some ((cut c (ls s)).map bs) := by
  have hc : (ls s).count c ≤ (ls s).length := List.count_le_length
  have hsz : s.size = (ls s).length := rfl
  have by9 : Tryd.prog.types[(9 : Nat)].bytes ≤ 100 := by decide +kernel
  have e1 : ((sg c).toList == (ByteArray.mk (#[])).toList) = false := by
    rw [toList_ls, toList_ls]
    rfl
  have f76 : F76 K s (sg c) = some (((ls s).count c : Nat) : Int) := rfl
  have w1 : IntKind.i64.wrap ((s.size : Int) + (1 : Int)) = ((s.size + 1 : Nat) : Int) := by rw [i64_in] <;> omega
  have w2 : IntKind.i64.wrap ((((ls s).count c : Nat) : Int) + (1 : Int)) = (((ls s).count c + 1 : Nat) : Int) := by rw [i64_in] <;> omega
  have w3 : IntKind.i64.wrap ((((ls s).count c + 1 : Nat) : Int) - (1 : Int)) = (((ls s).count c : Nat) : Int) := by rw [i64_in] <;> omega
  have c1 : ¬ (((s.size + 1 : Nat) : Int) < (((ls s).count c + 1 : Nat) : Int)) := by omega
  unfold F52 G52 t52
  rw [e1, if_neg (by decide), f76, Option.bind_some, w1, w2, if_neg c1, w3]
  rw [if_pos (by
    refine decide_eq_true ⟨by omega, Int.le_refl _, ?_, by omega⟩
    have := Nat.mul_le_mul by9 (show (ls s).count c + 1 ≤ 100001 by omega)
    have e : ((Tryd.prog.types[(9 : Nat)].bytes : Nat) : Int) * (((ls s).count c + 1 : Nat) : Int) = ((Tryd.prog.types[(9 : Nat)].bytes * ((ls s).count c + 1) : Nat) : Int) := by rw [Int.natCast_mul]
    rw [e]
    omega)]
  have := L52_eq K s c () () K (ls s) 0 (List.replicate ((ls s).count c + 1) (ByteArray.mk (#[]))) ((ls s).count c) (by omega) (by simp) (by omega) (by omega) (by omega)
  rw [bs_ls] at this
  exact this
theorem F34_eq (K : Nat) (s : ByteArray) (c : UInt8) (hs : s.size ≤ 100000) (hK : s.size < K) : F34 K s (sg c) = some ((cut c (ls s)).map bs) := by
  unfold F34 G34 t34
  rw [F52_eq K s c hs hK]
  rfl
def nm1 : List UInt8 := [97, 102, 116, 101, 114]
def nm2 : List UInt8 := [97, 102, 116, 101, 114, 111, 107]
def nm3 : List UInt8 := [97, 102, 116, 101, 114, 110, 111, 116, 111, 107]
def nm4 : List UInt8 := [97, 102, 116, 101, 114, 97, 110, 121]
def nm5 : List UInt8 := [115, 105, 110, 103, 108, 101, 116, 111, 110]
def nm (k : Int) : List UInt8 := if k = 1 then nm1 else if k = 2 then nm2 else if k = 3 then nm3 else if k = 4 then nm4 else if k = 5 then nm5 else []
def kindOf (x : List UInt8) : Int := if x = nm5 then 5 else if x = nm4 then 4 else if x = nm3 then 3 else if x = nm2 then 2 else if x = nm1 then 1 else 0
def jobsP' : List (List UInt8) → List Int → List Int × Bool
  | [], acc => (acc, true)
  | x :: l, acc => if (jl x 0 0).2 = true then jobsP' l (acc ++ [((jl x 0 0).1 : Int)]) else (acc, false)
def needT (s : List UInt8) : Nd × Bool := match cut 58 s with
  | [] => ((0, []), false)
  | h :: t => match jobsP' t [] with
    | (js, false) => ((kindOf h, js), false)
    | (js, true) => ((kindOf h, js), decide (0 < kindOf h) && ((kindOf h == (5 : Int)) == ((js.length : Int) == 0)))
theorem F26_eq (K : Nat) : F26 K = some (bs [], bs nm1, bs nm2, bs nm3, bs nm4, bs nm5) := rfl
theorem by38 : Tryd.prog.types[(38 : Nat)].bytes ≤ 100 := by decide +kernel
theorem fits38 {n : Nat} (h : n ≤ 100000) : decide (n * Tryd.prog.types[(38 : Nat)].bytes ≤ (140737488355328 : Nat)) = true := by
  have := Nat.mul_le_mul h by38
  exact decide_eq_true (by omega)
theorem L35_1_eq (K : Nat) (a0 : ByteArray) (xs : List (List UInt8)) (kind : Int) (hl : xs.length ≤ 100000) : ∀ (n : Nat) (pre suf : List (List UInt8)) (acc : List Int), xs = pre ++ suf → suf.length < n → acc.length ≤ pre.length →
    L35_1 (F34 K) (F26 K) (F53 K) K a0 n (xs.map bs) ((xs.map bs).length : Int) (pre.length : Int) kind acc =
      (match jobsP' suf acc with
        | (js, false) => some ((kind, js), false)
        | (js, true) => some ((kind, js), decide (0 < kind) && ((kind == (5 : Int)) == ((js.length : Int) == 0))))
  | 0, pre, suf, acc, e, h, _ => by omega
  | n + 1, pre, [], acc, e, h, ha => by
    have hf := fin (show xs.map bs = pre.map bs ++ [] by rw [e]; simp)
    rw [List.length_map] at hf
    simp only [L35_1, b35_1, hf.1, Bool.false_eq_true, if_false, jobsP']
    by_cases c : (0 : Int) < kind
    · rw [if_pos (decide_eq_true (show kind > 0 from c)), decide_eq_true c, Bool.true_and]
    · rw [if_neg (by rw [decide_eq_false (show ¬ kind > 0 from c)]; decide), decide_eq_false c, Bool.false_and]
  | n + 1, pre, x :: suf, acc, e, h, ha => by
    have hlen : pre.length < xs.length := by rw [e]; simp
    obtain ⟨h1, h2, h3, h4, h5, h6⟩ := mid (show xs.map bs = pre.map bs ++ bs x :: suf.map bs by rw [e]; simp) (zEl Ty.str) (by simp; omega)
    have e9 : (List.map bs pre).length = pre.length := by simp
    rw [e9] at h1 h2 h3 h4
    have f53 := F53_eq K (bs x)
    have e53 : (bs x).data.toList = x := ls_bs x
    rw [e53] at f53
    have g : ∀ y : Int, decide ((acc.length + [y].length) * Tryd.prog.types[(38 : Nat)].bytes ≤ (140737488355328 : Nat)) = true := fun y => fits38 (by simp; omega)
    rw [jobsP']
    simp only [L35_1, b35_1, h1, h2, if_true, h3, h4, f53, Option.bind_some]
    cases hj : (jl x 0 0).2 with
    | false => rfl
    | true =>
      have ih := L35_1_eq K a0 xs kind hl n (pre ++ [x]) suf (acc ++ [((jl x 0 0).1 : Int)]) (by rw [e]; simp) (by simpa using h) (by simp; omega)
      rw [if_neg (by decide), if_pos (g _), if_pos rfl]
      have e1 : ((pre.map bs ++ [bs x]).length : Int) = ((pre ++ [x]).length : Int) := by simp
      rw [e1]
      exact ih
theorem ite_app {α β : Type} (c : Prop) [Decidable c] (f : α → β) (a b : α) : (if c then f a else f b) = f (if c then a else b) := by split <;> rfl
theorem F35_eq (K : Nat) (s : ByteArray) (hs : s.size ≤ 100000) (hK : s.size + 10 < K) : F35 K s = some (needT (ls s)) := by
  obtain ⟨k, rfl⟩ : ∃ k, K = k + 7 := ⟨K - 7, by omega⟩
  have hc0 : (cut 58 (ls s)).length ≤ s.size + 1 := by
    have : ∀ l : List UInt8, (cut 58 l).length ≤ l.length + 1 := by
      intro l
      induction l with
      | nil => simp [cut]
      | cons x l ih =>
        rw [cut]
        split
        · simp; omega
        · split
          · simp
          · rename_i h2
            rw [h2] at ih
            simp at ih ⊢
            omega
    exact this (ls s)
  have f34 := F34_eq (k + 7) s 58 hs (by omega)
  unfold F35 G35 t35
  rw [f34, Option.bind_some, F26_eq, Option.bind_some]
  unfold needT
  cases hcut : cut 58 (ls s) with
  | nil => exact absurd hcut (cut_ne 58 (ls s))
  | cons h t =>
    rw [hcut] at hc0
    have g0 : decide ((0 : Int) ≤ (0 : Int) ∧ (0 : Int) < (((bs h :: t.map bs).length : Nat) : Int)) = true := decide_eq_true (by simp)
    have d0 : (bs h :: t.map bs).getD (Int.toNat (0 : Int)) (zEl Ty.str) = bs h := rfl
    have d1 : ∀ k : Int, 0 < k → decide (k > (0 : Int)) = true := fun k h => decide_eq_true h
    have sl : decide ((0 : Int) ≤ (1 : Int) ∧ (1 : Int) ≤ (((bs h :: t.map bs).length : Nat) : Int) ∧ (((bs h :: t.map bs).length : Nat) : Int) ≤ (((bs h :: t.map bs).length : Nat) : Int)) = true := decide_eq_true (by simp; omega)
    have sl2 : List.drop (Int.toNat (1 : Int)) (List.take ((((bs h :: t.map bs).length : Nat) : Int)).toNat (bs h :: t.map bs)) = t.map bs := by
      rw [Int.toNat_natCast, List.take_length]
      rfl
    have q : ∀ x : List UInt8, ((bs x).toList == (bs h).toList) = decide (h = x) := fun x => by
      rw [toList_ls, toList_ls, ls_bs, ls_bs]
      by_cases c : h = x
      · subst c; simp
      · have c' : ¬ x = h := fun e => c e.symm
        simp [c, c']
    have w : IntKind.i64.wrap ((0 : Int) + (1 : Int)) = 1 ∧ IntKind.i64.wrap ((1 : Int) + (1 : Int)) = 2 ∧ IntKind.i64.wrap ((2 : Int) + (1 : Int)) = 3 ∧ IntKind.i64.wrap ((3 : Int) + (1 : Int)) = 4 ∧ IntKind.i64.wrap ((4 : Int) + (1 : Int)) = 5 ∧ IntKind.i64.wrap ((5 : Int) + (1 : Int)) = 6 := ⟨rfl, rfl, rfl, rfl, rfl, rfl⟩
    obtain ⟨w0, w1, w2, w3, w4, w5⟩ := w
    have hl1 := L35_1_eq (k + 7) s t (kindOf h) (by simp at hc0; omega) (k + 7) [] t [] rfl (by simp at hc0; omega) (by simp)
    have fin6 : ∀ (kd : Int) (n : Nat), L35_0 (F34 (k + 7)) (F26 (k + 7)) (F53 (k + 7)) (k + 7) s (n + 1) (bs h :: t.map bs) (bs []) (bs nm1) (bs nm2) (bs nm3) (bs nm4) (bs nm5) 6 kd = L35_1 (F34 (k + 7)) (F26 (k + 7)) (F53 (k + 7)) (k + 7) s (k + 7) (t.map bs) ((t.map bs).length : Int) 0 kd [] := fun kd n => by
      have c6 : decide ((6 : Int) < 6) = false := rfl
      simp only [L35_0, b35_0, c6, Bool.false_eq_true, if_false, sl, if_true, sl2]
    have st5 : ∀ (kd : Int) (n : Nat), L35_0 (F34 (k + 7)) (F26 (k + 7)) (F53 (k + 7)) (k + 7) s (n + 1) (bs h :: t.map bs) (bs []) (bs nm1) (bs nm2) (bs nm3) (bs nm4) (bs nm5) 5 kd = L35_0 (F34 (k + 7)) (F26 (k + 7)) (F53 (k + 7)) (k + 7) s n (bs h :: t.map bs) (bs []) (bs nm1) (bs nm2) (bs nm3) (bs nm4) (bs nm5) 6 (if h = nm5 then 5 else kd) := fun kd n => by
      rw [L35_0, b35_0, if_pos (by decide), if_neg (by decide), if_neg (by decide), if_neg (by decide), if_neg (by decide), if_neg (by decide), if_pos (by decide), if_pos (by decide), if_pos g0, d0, q]
      by_cases cc : h = nm5
      · rw [if_pos (decide_eq_true cc), if_pos cc]
        rfl
      · rw [if_neg (by rw [decide_eq_false cc]; decide), if_neg cc]
        rfl
    have st4 : ∀ (kd : Int) (n : Nat), L35_0 (F34 (k + 7)) (F26 (k + 7)) (F53 (k + 7)) (k + 7) s (n + 1) (bs h :: t.map bs) (bs []) (bs nm1) (bs nm2) (bs nm3) (bs nm4) (bs nm5) 4 kd = L35_0 (F34 (k + 7)) (F26 (k + 7)) (F53 (k + 7)) (k + 7) s n (bs h :: t.map bs) (bs []) (bs nm1) (bs nm2) (bs nm3) (bs nm4) (bs nm5) 5 (if h = nm4 then 4 else kd) := fun kd n => by
      rw [L35_0, b35_0, if_pos (by decide), if_neg (by decide), if_neg (by decide), if_neg (by decide), if_neg (by decide), if_pos (by decide), if_pos (by decide), if_pos g0, d0, q]
      by_cases cc : h = nm4
      · rw [if_pos (decide_eq_true cc), if_pos cc]
        rfl
      · rw [if_neg (by rw [decide_eq_false cc]; decide), if_neg cc]
        rfl
    have st3 : ∀ (kd : Int) (n : Nat), L35_0 (F34 (k + 7)) (F26 (k + 7)) (F53 (k + 7)) (k + 7) s (n + 1) (bs h :: t.map bs) (bs []) (bs nm1) (bs nm2) (bs nm3) (bs nm4) (bs nm5) 3 kd = L35_0 (F34 (k + 7)) (F26 (k + 7)) (F53 (k + 7)) (k + 7) s n (bs h :: t.map bs) (bs []) (bs nm1) (bs nm2) (bs nm3) (bs nm4) (bs nm5) 4 (if h = nm3 then 3 else kd) := fun kd n => by
      rw [L35_0, b35_0, if_pos (by decide), if_neg (by decide), if_neg (by decide), if_neg (by decide), if_pos (by decide), if_pos (by decide), if_pos g0, d0, q]
      by_cases cc : h = nm3
      · rw [if_pos (decide_eq_true cc), if_pos cc]
        rfl
      · rw [if_neg (by rw [decide_eq_false cc]; decide), if_neg cc]
        rfl
    have st2 : ∀ (kd : Int) (n : Nat), L35_0 (F34 (k + 7)) (F26 (k + 7)) (F53 (k + 7)) (k + 7) s (n + 1) (bs h :: t.map bs) (bs []) (bs nm1) (bs nm2) (bs nm3) (bs nm4) (bs nm5) 2 kd = L35_0 (F34 (k + 7)) (F26 (k + 7)) (F53 (k + 7)) (k + 7) s n (bs h :: t.map bs) (bs []) (bs nm1) (bs nm2) (bs nm3) (bs nm4) (bs nm5) 3 (if h = nm2 then 2 else kd) := fun kd n => by
      rw [L35_0, b35_0, if_pos (by decide), if_neg (by decide), if_neg (by decide), if_pos (by decide), if_pos (by decide), if_pos g0, d0, q]
      by_cases cc : h = nm2
      · rw [if_pos (decide_eq_true cc), if_pos cc]
        rfl
      · rw [if_neg (by rw [decide_eq_false cc]; decide), if_neg cc]
        rfl
    have st1 : ∀ (kd : Int) (n : Nat), L35_0 (F34 (k + 7)) (F26 (k + 7)) (F53 (k + 7)) (k + 7) s (n + 1) (bs h :: t.map bs) (bs []) (bs nm1) (bs nm2) (bs nm3) (bs nm4) (bs nm5) 1 kd = L35_0 (F34 (k + 7)) (F26 (k + 7)) (F53 (k + 7)) (k + 7) s n (bs h :: t.map bs) (bs []) (bs nm1) (bs nm2) (bs nm3) (bs nm4) (bs nm5) 2 (if h = nm1 then 1 else kd) := fun kd n => by
      rw [L35_0, b35_0, if_pos (by decide), if_neg (by decide), if_pos (by decide), if_pos (by decide), if_pos g0, d0, q]
      by_cases cc : h = nm1
      · rw [if_pos (decide_eq_true cc), if_pos cc]
        rfl
      · rw [if_neg (by rw [decide_eq_false cc]; decide), if_neg cc]
        rfl
    have st0 : ∀ (kd : Int) (n : Nat), L35_0 (F34 (k + 7)) (F26 (k + 7)) (F53 (k + 7)) (k + 7) s (n + 1) (bs h :: t.map bs) (bs []) (bs nm1) (bs nm2) (bs nm3) (bs nm4) (bs nm5) 0 kd = L35_0 (F34 (k + 7)) (F26 (k + 7)) (F53 (k + 7)) (k + 7) s n (bs h :: t.map bs) (bs []) (bs nm1) (bs nm2) (bs nm3) (bs nm4) (bs nm5) 1 kd := fun kd n => by
      rw [L35_0, b35_0, if_pos (by decide), if_pos (by decide), if_neg (by decide)]
      rfl
    show L35_0 (F34 (k + 7)) (F26 (k + 7)) (F53 (k + 7)) (k + 7) s (k + 7) (bs h :: t.map bs) (bs []) (bs nm1) (bs nm2) (bs nm3) (bs nm4) (bs nm5) 0 0 = _
    rw [st0, st1, st2, st3, st4, st5, fin6]
    have hk : (if h = nm5 then (5 : Int) else if h = nm4 then 4 else if h = nm3 then 3 else if h = nm2 then 2 else if h = nm1 then 1 else 0) = kindOf h := rfl
    rw [hk]
    refine hl1.trans ?_
    show _ = some (match jobsP' t [] with
      | (js, false) => ((kindOf h, js), false)
      | (js, true) => ((kindOf h, js), decide (0 < kindOf h) && ((kindOf h == (5 : Int)) == ((js.length : Int) == 0))))
    obtain ⟨js, ok⟩ := jobsP' t []
    cases ok <;> rfl
end Go.Proofs.YtigekmmdflaeaaaDoorE
/- Depend: what a dependency says. -/
namespace Go.Proofs.YtigekmmdflaeaaaDoorE
open Go Go.Proofs
set_option maxRecDepth 100000
set_option linter.unusedVariables false
abbrev njobs (n : Nd) : List Int := n.2
abbrev nds (d : El T24) : List Nd := d.2
theorem by3 : Tryd.prog.types[(3 : Nat)].bytes ≤ 100 := by decide +kernel
theorem fits3 {n : Nat} (h : n ≤ 100000) : decide (n * Tryd.prog.types[(3 : Nat)].bytes ≤ (140737488355328 : Nat)) = true := by
  have := Nat.mul_le_mul h by3
  exact decide_eq_true (by omega)
def jobsP (l : List Wh) (alone : Bool) (n : Nd) : List Int :=
  ((njobs n).map fun j => oneP n.1 (howP l j)) ++ (match ((n.1 : Int) == 5) && !alone with | true => [1] | false => [])
def needP (l : List Wh) (alone : Bool) (n : Nd) : Int := all3 (jobsP l alone n)
def says (d : El T24) (l : List Wh) (alone : Bool) : List Int := (nds d).map (needP l alone)
def sayP (d : El T24) (l : List Wh) (alone : Bool) : Int := match okD d with
  | false => 0
  | true => match d.1 with
    | false => all3 (says d l alone)
    | true => any3 (says d l alone)
section
variable (K : Nat) (hK : 2000 ≤ K) (d : El T24) (l : List Wh) (hl : l.length ≤ 1000) (alone : Bool)
include hK hl
theorem L23_1_eq (r0 : Int → List Int → Option Int) (i : Int) (nd : Nd) (hnd : (njobs nd).length ≤ 20) (acc : List Int) (hacc : acc.length ≤ 1000) : ∀ (n : Nat) (pre suf : List Int) (w : List Int), (njobs nd) = pre ++ suf → suf.length < n → w.length ≤ pre.length →
    L23_1 (F13 K) (F39 K) (F38 K) (F40 K) (F41 K) K d l alone r0 n i nd.2 ((njobs nd).length : Int) (pre.length : Int) nd w acc =
      r0 (IntKind.i64.wrap (i + (1 : Int))) (acc ++ [all3 (w ++ (suf.map fun j => oneP nd.1 (howP l j)) ++ (match ((nd.1 : Int) == 5) && !alone with | true => [1] | false => []))])
  | 0, pre, suf, w, e, h, _ => by omega
  | n + 1, pre, [], w, e, h, hw => by
    have hf := fin e
    have hp : pre.length ≤ 20 := by rw [hf.2]; exact hnd
    have g1 : decide ((w.length + [(1 : Int)].length) * Tryd.prog.types[(3 : Nat)].bytes ≤ (140737488355328 : Nat)) = true := fits3 (by simp; omega)
    have g2 : ∀ x : Int, decide ((acc.length + [x].length) * Tryd.prog.types[(3 : Nat)].bytes ≤ (140737488355328 : Nat)) = true := fun x => fits3 (by simp; omega)
    have q1 := F40_eq K (w ++ [1]) (by simp; omega) (by simp; omega)
    have q2 := F40_eq K w (by omega) (by omega)
    simp only [L23_1, b23_1, hf.1, Bool.false_eq_true, if_false, g1, g2, q1, q2, if_true, Option.bind_some, List.map_nil, List.append_nil]
    by_cases c : ((nd.1 : Int) == 5) = true
    · rw [if_pos c, c]
      cases alone with
      | true => simp
      | false => simp
    · have c' : ((nd.1 : Int) == 5) = false := by simpa using c
      rw [if_neg c, c']
      simp
  | n + 1, pre, j :: suf, w, e, h, hw => by
    have hlen : pre.length < 20 := by
      have := congrArg List.length e
      simp at this
      omega
    obtain ⟨h1, h2, h3, h4, h5, h6⟩ := mid e (zEl (Ty.int IntKind.u32)) (by omega)
    have h3' : (njobs nd).getD ((pre.length : Int)).toNat (zEl (Ty.int IntKind.u32)) = j := h3
    have g : ∀ x : Int, decide ((w.length + [x].length) * Tryd.prog.types[(3 : Nat)].bytes ≤ (140737488355328 : Nat)) = true := fun x => fits3 (by simp; omega)
    have q := F39_eq K l j (by omega) (by omega)
    have ih := L23_1_eq r0 i nd hnd acc hacc n (pre ++ [j]) suf (w ++ [oneP nd.1 (howP l j)]) h5 (by simpa using h) (by simp; omega)
    simp only [L23_1, b23_1, h1, h2, if_true, h4]
    rw [show List.getD nd.2 ((pre.length : Int)).toNat (zEl (Ty.int IntKind.u32)) = j from h3', q, Option.bind_some, F38_eq, Option.bind_some, if_pos (g _)]
    refine ih.trans ?_
    simp
theorem L23_2_eq (acc : List Int) (hacc : acc.length ≤ 1000) : L23_2 (F13 K) (F39 K) (F38 K) (F40 K) (F41 K) K d l alone K 0 acc = some (any3 acc) := by
  obtain ⟨k, rfl⟩ : ∃ k, K = k + 3 := ⟨K - 3, by omega⟩
  have q1 := F41_eq (k + 3) acc 2 (by omega) (by omega)
  have q2 := F41_eq (k + 3) acc 1 (by omega) (by omega)
  have e0 : decide ((0 : Int) < (([(2 : Int), (1 : Int)].length : Nat) : Int)) = true := rfl
  have e0' : decide ((0 : Int) ≤ (0 : Int) ∧ (0 : Int) < (([(2 : Int), (1 : Int)].length : Nat) : Int)) = true := rfl
  have e1 : decide ((1 : Int) < (([(2 : Int), (1 : Int)].length : Nat) : Int)) = true := rfl
  have e1' : decide ((0 : Int) ≤ (1 : Int) ∧ (1 : Int) < (([(2 : Int), (1 : Int)].length : Nat) : Int)) = true := rfl
  have e2 : decide ((2 : Int) < (([(2 : Int), (1 : Int)].length : Nat) : Int)) = false := rfl
  have w0 : IntKind.i64.wrap ((0 : Int) + 1) = 1 := rfl
  have w1 : IntKind.i64.wrap ((1 : Int) + 1) = 2 := rfl
  have d0 : [(2 : Int), (1 : Int)].getD ((0 : Int)).toNat (zEl (Ty.int IntKind.i64)) = 2 := rfl
  have d1 : [(2 : Int), (1 : Int)].getD ((1 : Int)).toNat (zEl (Ty.int IntKind.i64)) = 1 := rfl
  simp only [L23_2, b23_2, e0, e0', e1, e1', e2, w0, w1, d0, d1, q1, q2, if_true, Option.bind_some, Bool.false_eq_true, if_false]
  unfold any3
  by_cases c : (2 : Int) ∈ acc
  · rw [if_pos (decide_eq_true c), if_pos c]
  · rw [if_neg (by rw [decide_eq_false c]; decide), if_neg c]
    by_cases c1 : (1 : Int) ∈ acc
    · rw [if_pos (decide_eq_true c1), if_pos c1]
    · rw [if_neg (by rw [decide_eq_false c1]; decide), if_neg c1]
theorem L23_0_eq (hd : okD d = true) : ∀ (n : Nat) (pre suf : List Nd) (acc : List Int), (nds d) = pre ++ suf → suf.length < n → acc.length ≤ pre.length →
    L23_0 (F13 K) (F39 K) (F38 K) (F40 K) (F41 K) K d l alone n (pre.length : Int) acc = some (match d.1 with | false => all3 (acc ++ suf.map (needP l alone)) | true => any3 (acc ++ suf.map (needP l alone)))
  | 0, pre, suf, acc, e, h, _ => by omega
  | n + 1, pre, [], acc, e, h, ha => by
    have hd20 : (nds d).length ≤ 20 := by
      simp only [okD, Bool.and_eq_true, decide_eq_true_eq] at hd
      exact hd.1.1
    have hf := fin e
    have hp : pre.length ≤ 20 := by rw [hf.2]; exact hd20
    have q := F40_eq K acc (by omega) (by omega)
    simp only [L23_0, b23_0, hf.1, Bool.false_eq_true, if_false, List.map_nil, List.append_nil]
    cases hb : d.1 with
    | false =>
      rw [if_pos (show (!false) = true from rfl), q]
      rfl
    | true =>
      rw [if_neg (show ¬ (!true) = true from by decide)]
      exact L23_2_eq K hK d l hl alone acc (by omega)
  | n + 1, pre, x :: suf, acc, e, h, ha => by
    have hd2 := hd
    simp only [okD, Bool.and_eq_true, decide_eq_true_eq] at hd2
    have hd20 : (nds d).length ≤ 20 := hd2.1.1
    have hp : pre.length < 20 := by
      have := congrArg List.length e
      simp at this
      omega
    obtain ⟨h1, h2, h3, h4, h5, h6⟩ := mid e (zEl T46) (by omega)
    have hx : okN x = true := List.all_eq_true.1 hd2.2 x (by
      show x ∈ nds d
      rw [e]; simp)
    have hx20 : (njobs x).length ≤ 20 := by
      simp only [okN, Bool.and_eq_true, decide_eq_true_eq] at hx
      exact hx.1.2
    have h3' : List.getD d.2 ((pre.length : Int)).toNat (zEl T46) = x := h3
    have ih := L23_0_eq hd n (pre ++ [x]) suf (acc ++ [needP l alone x]) h5 (by simpa using h) (by simp; omega)
    have L := L23_1_eq K hK d l hl alone (L23_0 (F13 K) (F39 K) (F38 K) (F40 K) (F41 K) K d l alone n) (pre.length : Int) x hx20 acc (by omega) K [] (njobs x) [] rfl (by omega) (Nat.le_refl _)
    simp only [L23_0, b23_0, h1, h2, if_true, h3']
    refine Eq.trans L ?_
    rw [h4, List.nil_append]
    refine ih.trans ?_
    rw [List.append_assoc]
    rfl
theorem F23_eq : F23 K d l alone = some (sayP d l alone) := by
  unfold F23 G23 t23
  rw [F13_eq K (by omega) d, Option.bind_some]
  unfold sayP
  cases hd : okD d with
  | false => rfl
  | true =>
    have hd2 := hd
    simp only [okD, Bool.and_eq_true, decide_eq_true_eq] at hd2
    have hd20 : (nds d).length ≤ 20 := hd2.1.1
    refine (L23_0_eq K hK d l hl alone hd K [] (nds d) [] rfl (by omega) (Nat.le_refl _)).trans ?_
    cases d.1 <;> rfl
end
end Go.Proofs.YtigekmmdflaeaaaDoorE
/- Depend: a dependency's text, printed and read, as plain functions. -/
namespace Go.Proofs.YtigekmmdflaeaaaDoorE
open Go Go.Proofs
set_option maxRecDepth 100000
set_option linter.unusedVariables false
def ntext (n : Nd) : List UInt8 := nm n.1 ++ ((njobs n).map fun j => 58 :: Lib.decDigits j.toNat).flatten
def signOf (any : Bool) : UInt8 := match any with
  | true => 63
  | false => 44
def dtext (d : El T24) : List UInt8 := glue (signOf d.1) ((nds d).map ntext)
def okJ (j : Int) : Prop := 0 ≤ j ∧ j < 4294967296
theorem F45_eq (K : Nat) (j : Int) (h : okJ j) : F45 K (IntKind.u64.wrap j) 10 = some (bs (Lib.decDigits j.toNat)) := by
  obtain ⟨h0, h1⟩ := h
  have e : dig 20 j.toNat = Lib.decDigits j.toNat := dig_eq 19 j.toNat (by omega)
  unfold F45
  rw [u64_in h0 (by omega), if_pos ⟨rfl, h0, by omega⟩, e]
  rfl
theorem F27_eq (K : Nat) (j : Int) (h : okJ j) : F27 K (IntKind.u64.wrap j) 10 = some (bs (Lib.decDigits j.toNat)) := by
  unfold F27 G27 t27
  rw [F45_eq K j h]
  rfl
theorem dec_le (j : Int) (h : okJ j) : (Lib.decDigits j.toNat).length ≤ 10 := dec_len 9 j.toNat (by have := h.1; have := h.2; omega)
theorem nm_len (k : Int) : (nm k).length ≤ 10 := by
  unfold nm
  repeat' split
  all_goals decide
theorem flat_len : ∀ (l : List Int), (∀ j ∈ l, okJ j) → (l.map fun j => 58 :: Lib.decDigits j.toNat).flatten.length ≤ 11 * l.length
  | [], _ => by simp
  | j :: l, h => by
    have := flat_len l (fun x hx => h x (List.mem_cons_of_mem _ hx))
    have := dec_le j (h j (by simp))
    simp only [List.map_cons, List.flatten_cons, List.length_append, List.length_cons]
    omega
theorem by9 : Tryd.prog.types[(9 : Nat)].bytes ≤ 100 := by decide +kernel
theorem fits9 {n : Nat} (h : n ≤ 100000) : decide (n * Tryd.prog.types[(9 : Nat)].bytes ≤ (140737488355328 : Nat)) = true := by
  have := Nat.mul_le_mul h by9
  exact decide_eq_true (by omega)
section
variable (K : Nat) (d : El T24)
theorem L14_1_eq (r0 : Int → List ByteArray → Option (ByteArray × Int)) (i : Int) (nd : Nd) (acc : List ByteArray) (hacc : acc.length ≤ 1000) (hj : ∀ j ∈ njobs nd, okJ j) (hn : (njobs nd).length ≤ 20) : ∀ (n : Nat) (pre suf : List Int) (t : List UInt8), njobs nd = pre ++ suf → suf.length < n → t.length ≤ 10 + 11 * pre.length →
    L14_1 (F13 K) (F26 K) (F27 K) (F28 K) K d r0 n (bs t) i nd.2 ((List.length nd.2 : Nat) : Int) (pre.length : Int) nd acc =
      r0 (IntKind.i64.wrap (i + (1 : Int))) (acc ++ [bs (t ++ (suf.map fun j => 58 :: Lib.decDigits j.toNat).flatten)])
  | 0, pre, suf, t, e, h, ht => by omega
  | n + 1, pre, [], t, e, h, ht => by
    have hf := fin e
    have hf1 : decide ((pre.length : Int) < ((List.length nd.2 : Nat) : Int)) = false := hf.1
    have g : ∀ y : ByteArray, decide ((acc.length + [y].length) * Tryd.prog.types[(9 : Nat)].bytes ≤ (140737488355328 : Nat)) = true := fun y => fits9 (by simp; omega)
    simp only [L14_1, b14_1, hf1, Bool.false_eq_true, if_false, g, if_true, List.map_nil, List.flatten_nil, List.append_nil]
  | n + 1, pre, j :: suf, t, e, h, ht => by
    obtain ⟨h1, h2, h3, h4, h5, h6⟩ := mid e (zEl (Ty.int IntKind.u32)) (by omega)
    have h1' : decide ((pre.length : Int) < ((List.length nd.2 : Nat) : Int)) = true := h1
    have h2' : decide ((0 : Int) ≤ (pre.length : Int) ∧ (pre.length : Int) < ((List.length nd.2 : Nat) : Int)) = true := h2
    have h3' : List.getD nd.2 ((pre.length : Int)).toNat (zEl (Ty.int IntKind.u32)) = j := h3
    have hjj : okJ j := hj j (by rw [e]; simp)
    have hlen : pre.length < 20 := by
      have := congrArg List.length e
      simp at this
      omega
    have hdl := dec_le j hjj
    have f27 := F27_eq K j hjj
    have s1 : (ByteArray.mk (#[(58 : UInt8)])).size = 1 := rfl
    have a1 : (ByteArray.mk (#[(58 : UInt8)])) ++ bs (Lib.decDigits j.toNat) = bs (58 :: Lib.decDigits j.toNat) := app_bs [58] _
    have g1 : decide ((ByteArray.mk (#[(58 : UInt8)])).size + ByteArray.size (bs (Lib.decDigits j.toNat)) ≤ (9223372036854775807 : Nat)) = true := decide_eq_true (by rw [bs_size, s1]; omega)
    have g2 : decide ((bs t).size + (bs (58 :: Lib.decDigits j.toNat)).size ≤ (9223372036854775807 : Nat)) = true := decide_eq_true (by rw [bs_size, bs_size, List.length_cons]; omega)
    have ih := L14_1_eq r0 i nd acc hacc hj hn n (pre ++ [j]) suf (t ++ 58 :: Lib.decDigits j.toNat) h5 (by simpa using h) (by simp; omega)
    simp only [L14_1, b14_1, h1', h2', if_true, h4]
    rw [h3', f27, Option.bind_some, if_pos g1, a1, if_pos g2, app_bs]
    refine ih.trans ?_
    simp
theorem glue_len (c : UInt8) : ∀ (l : List (List UInt8)), (∀ x ∈ l, x.length ≤ 300) → (glue c l).length ≤ 301 * l.length
  | [], _ => by simp [glue]
  | [x], h => by
    have := h x (by simp)
    simp [glue]
    omega
  | x :: y :: l, h => by
    have h1 := glue_len c (y :: l) (fun z hz => h z (List.mem_cons_of_mem _ hz))
    have h2 := h x (by simp)
    rw [glue_cons, List.length_append, List.length_cons, List.length_cons]
    omega
theorem ntext_len (n : Nd) (hn : okN n = true) (hj : ∀ j ∈ njobs n, okJ j) : (ntext n).length ≤ 300 := by
  have h1 := nm_len n.1
  have h2 := flat_len (njobs n) hj
  have h3 : (njobs n).length ≤ 20 := by
    simp only [okN, Bool.and_eq_true, decide_eq_true_eq] at hn
    exact hn.1.2
  unfold ntext
  rw [List.length_append]
  omega
theorem F28_eq (l : List (List UInt8)) (c : UInt8) (h : (glue c l).length ≤ 100000) (hl : l.length ≤ 1000) : F28 K (l.map bs) (sg c) = some (bs (glue c l)) := by
  have e : (l.map bs).map (fun x : ByteArray => x.data.toList) = l := by
    rw [List.map_map]
    exact (List.map_congr_left (fun x _ => ls_bs x)).trans (List.map_id l)
  have e2 : (sg c).data.toList = [c] := rfl
  unfold F28
  rw [e, e2, join_glue, if_pos ⟨by omega, by rw [List.length_map]; omega⟩]
  rfl
theorem kinds (n : Nd) (hn : okN n = true) : (n.1 : Int) = 1 ∨ (n.1 : Int) = 2 ∨ (n.1 : Int) = 3 ∨ (n.1 : Int) = 4 ∨ (n.1 : Int) = 5 := by
  simp only [okN, Bool.and_eq_true, decide_eq_true_eq] at hn
  have := hn.1.1.1
  have h : ∀ x : Int, 1 ≤ x ∧ x ≤ 5 → x = 1 ∨ x = 2 ∨ x = 3 ∨ x = 4 ∨ x = 5 := fun x h => by omega
  exact h _ this
theorem L14_0_eq (hK : 2000 ≤ K) (hd : okD d = true) (hj : ∀ n ∈ nds d, ∀ j ∈ njobs n, okJ j) : ∀ (n : Nat) (pre suf : List Nd) (acc : List (List UInt8)), nds d = pre ++ suf → suf.length < n → acc = pre.map ntext →
    L14_0 (F13 K) (F26 K) (F27 K) (F28 K) K d n (pre.length : Int) (acc.map bs) = some (bs (dtext d), 0)
  | 0, pre, suf, acc, e, h, _ => by omega
  | n + 1, pre, [], acc, e, h, ha => by
    have hd2 := hd
    simp only [okD, Bool.and_eq_true, decide_eq_true_eq] at hd2
    have hd20 : (nds d).length ≤ 20 := hd2.1.1
    have hall : ∀ x ∈ nds d, okN x = true := fun x hx => List.all_eq_true.1 hd2.2 x hx
    have hf := fin e
    have hf1 : decide ((pre.length : Int) < ((List.length d.2 : Nat) : Int)) = false := hf.1
    have ea : acc = (nds d).map ntext := by rw [ha, hf.2]
    have hgl : ∀ c, (glue c acc).length ≤ 100000 := fun c => by
      have := glue_len c acc (fun x hx => by
        rw [ea] at hx
        obtain ⟨y, hy, rfl⟩ := List.mem_map.1 hx
        exact ntext_len y (hall y hy) (hj y hy))
      have h3 : acc.length ≤ 20 := by rw [ea, List.length_map]; exact hd20
      omega
    have hal : acc.length ≤ 1000 := by rw [ea, List.length_map]; omega
    have q1 := F28_eq K acc 63 (hgl 63) hal
    have q2 := F28_eq K acc 44 (hgl 44) hal
    simp only [L14_0, b14_0, hf1, Bool.false_eq_true, if_false]
    unfold dtext
    cases hb : d.1 with
    | false =>
      rw [if_neg (by decide), q2, Option.bind_some, ea]
      rfl
    | true =>
      rw [if_pos rfl, q1, Option.bind_some, ea]
      rfl
  | n + 1, pre, x :: suf, acc, e, h, ha => by
    have hd2 := hd
    simp only [okD, Bool.and_eq_true, decide_eq_true_eq] at hd2
    have hd20 : (nds d).length ≤ 20 := hd2.1.1
    have hx : x ∈ nds d := by rw [e]; simp
    have hn : okN x = true := List.all_eq_true.1 hd2.2 x hx
    have hj2 := hj x hx
    have hpl : pre.length < 20 := by
      have := congrArg List.length e
      simp at this
      omega
    have hjl : (njobs x).length ≤ 20 := by
      have hn2 := hn
      simp only [okN, Bool.and_eq_true, decide_eq_true_eq] at hn2
      exact hn2.1.2
    obtain ⟨h1, h2, h3, h4, h5, h6⟩ := mid e (zEl T46) (by omega)
    have h1' : decide ((pre.length : Int) < ((List.length d.2 : Nat) : Int)) = true := h1
    have h2' : decide ((0 : Int) ≤ (pre.length : Int) ∧ (pre.length : Int) < ((List.length d.2 : Nat) : Int)) = true := h2
    have h3' : List.getD d.2 ((pre.length : Int)).toNat (zEl T46) = x := h3
    have ih := L14_0_eq hK hd hj n (pre ++ [x]) suf (acc ++ [ntext x]) h5 (by simpa using h) (by rw [ha]; simp)
    have key : ∀ t : List UInt8, t = nm x.1 → L14_1 (F13 K) (F26 K) (F27 K) (F28 K) K d (L14_0 (F13 K) (F26 K) (F27 K) (F28 K) K d n) K (bs t) (pre.length : Int) x.2 ((List.length x.2 : Nat) : Int) 0 x (acc.map bs) = some (bs (dtext d), 0) := fun t ht => by
      have hl := nm_len x.1
      have := L14_1_eq K d (L14_0 (F13 K) (F26 K) (F27 K) (F28 K) K d n) (pre.length : Int) x (acc.map bs) (by rw [List.length_map, ha, List.length_map]; omega) hj2 hjl K [] (njobs x) t rfl (by omega) (by rw [ht]; simpa using hl)
      refine Eq.trans this ?_
      rw [h4]
      have e1 : acc.map bs ++ [bs (t ++ ((njobs x).map fun j => 58 :: Lib.decDigits j.toNat).flatten)] = (acc ++ [ntext x]).map bs := by
        rw [ht]
        simp [ntext]
      rw [e1]
      exact ih
    simp only [L14_0, b14_0, h1', h2', if_true, h3', F26_eq, Option.bind_some]
    rcases kinds x hn with k | k | k | k | k
    · rw [if_neg (by rw [k]; decide), if_pos (by rw [k]; rfl)]
      exact key _ (by rw [k]; rfl)
    · rw [if_neg (by rw [k]; decide), if_neg (by rw [k]; decide), if_pos (by rw [k]; rfl)]
      exact key _ (by rw [k]; rfl)
    · rw [if_neg (by rw [k]; decide), if_neg (by rw [k]; decide), if_neg (by rw [k]; decide), if_pos (by rw [k]; rfl)]
      exact key _ (by rw [k]; rfl)
    · rw [if_neg (by rw [k]; decide), if_neg (by rw [k]; decide), if_neg (by rw [k]; decide), if_neg (by rw [k]; decide), if_pos (by rw [k]; rfl)]
      exact key _ (by rw [k]; rfl)
    · rw [if_neg (by rw [k]; decide), if_neg (by rw [k]; decide), if_neg (by rw [k]; decide), if_neg (by rw [k]; decide), if_neg (by rw [k]; decide), if_pos (by rw [k]; rfl)]
      exact key _ (by rw [k]; rfl)
theorem F14_eq (hK : 2000 ≤ K) (hj : okD d = true → ∀ n ∈ nds d, ∀ j ∈ njobs n, okJ j) : F14 K d = some (match okD d with | true => (bs (dtext d), 0) | false => (bs [], 2)) := by
  unfold F14 G14 t14
  rw [F13_eq K (by omega) d, Option.bind_some]
  cases hd : okD d with
  | false =>
    rw [if_pos (by decide)]
    rfl
  | true =>
    rw [if_neg (by decide)]
    have hd20 : (nds d).length ≤ 20 := by
      simp only [okD, Bool.and_eq_true, decide_eq_true_eq] at hd
      exact hd.1.1
    exact L14_0_eq K d hK hd (hj hd) K [] (nds d) [] rfl (by omega) rfl
end
def needsT : List (List UInt8) → List Nd → Option (List Nd)
  | [], acc => some acc
  | x :: l, acc => if (needT x).2 = true then needsT l (acc ++ [(needT x).1]) else none
def parseT (s : List UInt8) : El T24 × Int := match s with
  | [] => ((false, []), 0)
  | _ => match needsT (cut (signOf (decide (63 ∈ s))) s) [] with
    | none => ((false, []), 60)
    | some l => match okD (decide (63 ∈ s), l) with
      | true => ((decide (63 ∈ s), l), 0)
      | false => ((false, []), 2)
theorem by46 : Tryd.prog.types[(46 : Nat)].bytes ≤ 1000 := by decide +kernel
theorem fits46 {n : Nat} (h : n ≤ 1000000) : decide (n * Tryd.prog.types[(46 : Nat)].bytes ≤ (140737488355328 : Nat)) = true := by
  have := Nat.mul_le_mul h by46
  exact decide_eq_true (by omega)
theorem cut_len (c : UInt8) : ∀ l : List UInt8, (cut c l).length ≤ l.length + 1 := by
  intro l
  induction l with
  | nil => simp [cut]
  | cons x l ih =>
    rw [cut]
    split
    · simp; omega
    · split
      · simp
      · rename_i h2
        rw [h2] at ih
        simp at ih ⊢
        omega
theorem cut_small (c : UInt8) : ∀ l : List UInt8, ∀ x ∈ cut c l, x.length ≤ l.length
  | [], x, h => by
    simp [cut] at h
    subst h
    simp
  | y :: l, x, h => by
    have ih := cut_small c l
    rw [cut] at h
    split at h
    · rcases List.mem_cons.1 h with h | h
      · subst h; simp
      · have := ih x h; simp; omega
    · split at h
      · simp at h; subst h; simp
      · rename_i a t h2
        rcases List.mem_cons.1 h with h | h
        · subst h
          have := ih a (by rw [h2]; exact List.mem_cons_self)
          simp; omega
        · have := ih x (by rw [h2]; exact List.mem_cons_of_mem _ h)
          simp; omega
section
variable (K : Nat) (hK : 200 ≤ K) (a0 : ByteArray)
include hK
theorem L21_0_eq (any : Bool) (xs : List (List UInt8)) (hl : xs.length ≤ 100001) (hx : ∀ x ∈ xs, x.length ≤ 100000 ∧ x.length + 10 < K) : ∀ (n : Nat) (pre suf : List (List UInt8)) (acc : List Nd), xs = pre ++ suf → suf.length < n → acc.length ≤ pre.length →
    L21_0 (F33 K) (F34 K) (F35 K) (F13 K) K a0 n (xs.map bs) ((xs.map bs).length : Int) (pre.length : Int) any acc =
      some (match needsT suf acc with
        | none => ((false, []), 60)
        | some l => match okD (any, l) with
          | true => ((any, l), 0)
          | false => ((false, []), 2))
  | 0, pre, suf, acc, e, h, _ => by omega
  | n + 1, pre, [], acc, e, h, ha => by
    have hf := fin (show xs.map bs = pre.map bs ++ [] by rw [e]; simp)
    rw [List.length_map] at hf
    simp only [L21_0, b21_0, hf.1, Bool.false_eq_true, if_false, needsT, F13_eq K hK (any, acc), Option.bind_some]
    cases okD (any, acc) <;> rfl
  | n + 1, pre, x :: suf, acc, e, h, ha => by
    have hlen : pre.length < xs.length := by rw [e]; simp
    obtain ⟨h1, h2, h3, h4, h5, h6⟩ := mid (show xs.map bs = pre.map bs ++ bs x :: suf.map bs by rw [e]; simp) (zEl Ty.str) (by simp; omega)
    have e9 : (List.map bs pre).length = pre.length := by simp
    rw [e9] at h1 h2 h3 h4
    have hxx := hx x (by rw [e]; simp)
    have f35 := F35_eq K (bs x) (by rw [bs_size]; exact hxx.1) (by rw [bs_size]; exact hxx.2)
    rw [ls_bs] at f35
    have g : ∀ y : Nd, decide ((acc.length + [y].length) * Tryd.prog.types[(46 : Nat)].bytes ≤ (140737488355328 : Nat)) = true := fun y => fits46 (by simp; omega)
    rw [needsT]
    simp only [L21_0, b21_0, h1, h2, if_true, h3, h4, f35, Option.bind_some]
    cases hj : (needT x).2 with
    | false => rfl
    | true =>
      have ih := L21_0_eq any xs hl hx n (pre ++ [x]) suf (acc ++ [(needT x).1]) (by rw [e]; simp) (by simpa using h) (by simp; omega)
      rw [if_neg (by decide), if_pos (g _), if_pos rfl]
      have e1 : ((pre.map bs ++ [bs x]).length : Int) = ((pre ++ [x]).length : Int) := by simp
      rw [e1]
      exact ih
theorem F21_eq (hs : a0.size ≤ 100000) (hs2 : a0.size + 10 < K) : F21 K a0 = some (parseT (ls a0)) := by
  have hsz : a0.size = (ls a0).length := rfl
  have f33 := F33_eq K a0 63
  have f34 := fun c => F34_eq K a0 c hs (by omega)
  unfold F21 G21 t21
  rw [f33, Option.bind_some]
  have e0 : (ByteArray.mk (#[])).toList = [] := by rw [toList_ls]; rfl
  rw [e0, toList_ls]
  have go : ∀ c : UInt8, c = signOf (decide (63 ∈ ls a0)) → L21_0 (F33 K) (F34 K) (F35 K) (F13 K) K a0 K ((cut c (ls a0)).map bs) (((cut c (ls a0)).map bs).length : Int) 0 (decide (63 ∈ ls a0)) [] = some (match needsT (cut (signOf (decide (63 ∈ ls a0))) (ls a0)) [] with
        | none => ((false, []), 60)
        | some l => match okD (decide (63 ∈ ls a0), l) with
          | true => ((decide (63 ∈ ls a0), l), 0)
          | false => ((false, []), 2)) := fun c hc => by
    rw [← hc]
    have hcl := cut_len c (ls a0)
    exact L21_0_eq K hK a0 (decide (63 ∈ ls a0)) (cut c (ls a0)) (by omega) (fun x hx => by
      have := cut_small c (ls a0) x hx
      omega) K [] (cut c (ls a0)) [] rfl (by omega) (by simp)
  cases hl : ls a0 with
  | nil =>
    rw [if_pos (by decide)]
    rfl
  | cons x l =>
    rw [if_neg (by simp)]
    rw [hl] at go f34
    unfold parseT
    cases hany : decide (63 ∈ x :: l) with
    | true =>
      rw [hany] at go
      rw [if_pos rfl, f34, Option.bind_some]
      exact go 63 rfl
    | false =>
      rw [hany] at go
      rw [if_neg (by decide), f34, Option.bind_some]
      exact go 44 rfl
end
end Go.Proofs.YtigekmmdflaeaaaDoorE
/- Depend: the laws on joined needs and on none, in plain words. -/
namespace Go.Proofs.YtigekmmdflaeaaaDoorE
open Go Go.Proofs
set_option maxRecDepth 100000
set_option linter.unusedVariables false
theorem L10_eq (K : Nat) (d : El T24) (l : List Wh) (hd : (nds d).length ≤ 140737488355328) : ∀ (n : Nat) (k : Int) (i : Nat), ((nds d).length - i < n ∨ (1000 : Int) < k ∧ 0 < n) → 0 ≤ k → k ≤ 4000000000000000000 → ∃ b : Bool, L10_0 K d l n k (i : Int) = some b ∧ (b = false → k ≤ 1000)
  | 0, k, i, h, _, _ => by omega
  | n + 1, k, i, h, h0, hk => by
    have enl : (nds d).length = List.length d.2 := rfl
    by_cases c : (i : Int) < ((List.length d.2 : Nat) : Int)
    · by_cases c2 : k ≤ 1000
      · have g : decide ((0 : Int) ≤ (i : Int) ∧ (i : Int) < ((List.length d.2 : Nat) : Int)) = true := decide_eq_true ⟨by omega, c⟩
        simp only [L10_0, b10_0, decide_eq_true c, decide_eq_true c2, g, if_true]
        generalize hm : (if (1000 : Int) < ((List.length (List.getD d.2 ((i : Int)).toNat (zEl T46)).2 : Nat) : Int) then (1000 : Int) else ((List.length (List.getD d.2 ((i : Int)).toNat (zEl T46)).2 : Nat) : Int)) = m
        have hm0 : 0 ≤ m ∧ m ≤ 1000 := by
          rw [← hm]
          split <;> omega
        have w1 : IntKind.i64.wrap (k + m) = k + m := i64_in (by omega) (by omega)
        have w2 : IntKind.i64.wrap ((i : Int) + (1 : Int)) = ((i + 1 : Nat) : Int) := by rw [i64_in] <;> omega
        rw [w1, w2]
        obtain ⟨b, hb, hb2⟩ := L10_eq K d l hd n (k + m) (i + 1) (by
          rcases h with h | h
          · left
            have : i < (nds d).length := by
              have : (nds d).length = List.length d.2 := rfl
              omega
            omega
          · omega) (by omega) (by omega)
        exact ⟨b, hb, fun h => by have := hb2 h; omega⟩
      · simp only [L10_0, b10_0, decide_eq_true c, decide_eq_false c2, if_true, Bool.false_eq_true, if_false]
        exact ⟨_, rfl, fun h => by have := of_decide_eq_false h; omega⟩
    · simp only [L10_0, b10_0, decide_eq_false c, Bool.false_eq_true, if_false]
      exact ⟨_, rfl, fun h => by have := of_decide_eq_false h; omega⟩
theorem F10_eq (K : Nat) (hK : 2000 ≤ K) (d : El T24) (l : List Wh) (hd : (nds d).length ≤ 140737488355328) (hl : l.length ≤ 140737488355328) : ∃ b : Bool, F10 K d l = some b ∧ (b = false → (nds d).length + l.length ≤ 1000) := by
  have w : IntKind.i64.wrap (((List.length d.2 : Nat) : Int) + (l.length : Int)) = (((nds d).length + l.length : Nat) : Int) := by
    have : (nds d).length = List.length d.2 := rfl
    rw [i64_in] <;> omega
  unfold F10 G10 t10
  rw [w]
  obtain ⟨b, hb, hb2⟩ := L10_eq K d l hd K (((nds d).length + l.length : Nat) : Int) 0 (by omega) (by omega) (by omega)
  exact ⟨b, hb, fun h => by have := hb2 h; omega⟩
theorem all3_r (l : List Int) : all3 l = 1 ∨ all3 l = 2 ∨ all3 l = 3 := by
  unfold all3
  split
  · exact .inr (.inr rfl)
  · split
    · exact .inl rfl
    · exact .inr (.inl rfl)
theorem any3_r (l : List Int) : any3 l = 1 ∨ any3 l = 2 ∨ any3 l = 3 := by
  unfold any3
  split
  · exact .inr (.inl rfl)
  · split
    · exact .inl rfl
    · exact .inr (.inr rfl)
theorem dependEmpty (a : El T24) (l : List (El T54)) (alone : Bool) (ha : Gd T24 a) (hl : Gd (.sl T54) l) (_ : Gd .bool alone) : F9 2000 a l alone = some true := by
  obtain ⟨b, hb, hb2⟩ := F10_eq 2000 (by omega) a l (by have := ha.2.1; show List.length a.2 ≤ _; omega) (by have := hl.1; omega)
  unfold F9 G9 t9
  rw [hb, Option.bind_some]
  cases b with
  | true =>
    rw [if_pos rfl, F11_eq 2000 (by omega)]
    rfl
  | false =>
    rw [if_neg (by decide)]
    have hlen := hb2 rfl
    have f14 : F14 2000 (false, []) = some (ByteArray.mk #[], 0) := by kernel_rfl
    have f21 : F21 2000 (ByteArray.mk #[]) = some ((false, []), 0) := by kernel_rfl
    have f23 := fun d => F23_eq 2000 (by omega) d l (by omega) alone
    have s0 : sayP (false, []) l alone = 2 := rfl
    rw [f14, Option.bind_some, f21, Option.bind_some]
    rw [if_neg (by decide +kernel), if_neg (by decide), if_neg (by decide), if_neg (by decide), if_neg (by decide), f23, Option.bind_some, s0, if_neg (by decide), F13_eq 2000 (by omega) a, Option.bind_some]
    cases hd : okD a with
    | false =>
      have s1 : sayP a l alone = 0 := by unfold sayP; rw [hd]
      have f16 : F16 2000 a = some [] := by
        unfold F16 G16 t16
        rw [F13_eq 2000 (by omega) a, Option.bind_some, hd]
        rfl
      rw [if_pos (by decide), f23, Option.bind_some, s1, if_pos (by decide), f16, Option.bind_some, if_pos (by decide), F11_eq 2000 (by omega)]
      rfl
    | true =>
      have s1 : sayP a l alone = 1 ∨ sayP a l alone = 2 ∨ sayP a l alone = 3 := by
        unfold sayP
        rw [hd]
        cases a.1 with
        | false => exact all3_r _
        | true => exact any3_r _
      rw [if_neg (by decide), f23, Option.bind_some]
      rcases s1 with e | e | e <;> rw [e, if_pos (by decide), if_pos (by decide), F11_eq 2000 (by omega)] <;> rfl
end Go.Proofs.YtigekmmdflaeaaaDoorE
/- Depend: what is printed is read as it was, what is read is printed as it was: DependBack, in plain words. -/
namespace Go.Proofs.YtigekmmdflaeaaaDoorE
open Go Go.Proofs
set_option maxRecDepth 100000
set_option linter.unusedVariables false
theorem ntext_glue (n : Nd) : ntext n = glue 58 (nm n.1 :: (njobs n).map fun j => Lib.decDigits j.toNat) := by
  show nm n.1 ++ _ = nm n.1 ++ (((njobs n).map fun j => Lib.decDigits j.toNat).map (58 :: ·)).flatten
  rw [List.map_map]
  rfl
theorem kindOf_nm {k : Int} (h : k = 1 ∨ k = 2 ∨ k = 3 ∨ k = 4 ∨ k = 5) : kindOf (nm k) = k := by
  rcases h with rfl | rfl | rfl | rfl | rfl <;> decide
theorem nm_kindOf {x : List UInt8} (h : 0 < kindOf x) : nm (kindOf x) = x ∧ (kindOf x = 1 ∨ kindOf x = 2 ∨ kindOf x = 3 ∨ kindOf x = 4 ∨ kindOf x = 5) := by
  unfold kindOf at h ⊢
  by_cases c5 : x = nm5
  · rw [if_pos c5]
    exact ⟨c5.symm, by simp⟩
  rw [if_neg c5] at h ⊢
  by_cases c4 : x = nm4
  · rw [if_pos c4]
    exact ⟨c4.symm, by simp⟩
  rw [if_neg c4] at h ⊢
  by_cases c3 : x = nm3
  · rw [if_pos c3]
    exact ⟨c3.symm, by simp⟩
  rw [if_neg c3] at h ⊢
  by_cases c2 : x = nm2
  · rw [if_pos c2]
    exact ⟨c2.symm, by simp⟩
  rw [if_neg c2] at h ⊢
  by_cases c1 : x = nm1
  · rw [if_pos c1]
    exact ⟨c1.symm, by simp⟩
  rw [if_neg c1] at h
  exact absurd h (by decide)
theorem nm_letters {k : Int} (h : k = 1 ∨ k = 2 ∨ k = 3 ∨ k = 4 ∨ k = 5) : (nm k).all (fun x => decide (97 ≤ x.toNat)) = true := by
  rcases h with rfl | rfl | rfl | rfl | rfl <;> decide
theorem nm_not {k : Int} (h : k = 1 ∨ k = 2 ∨ k = 3 ∨ k = 4 ∨ k = 5) (c : UInt8) (hc : c.toNat < 97) : c ∉ nm k := fun hm => by
  have := of_decide_eq_true (List.all_eq_true.1 (nm_letters h) c hm)
  omega
theorem dec_not (v : Nat) (c : UInt8) (hc : c.toNat < 48 ∨ 57 < c.toNat) : c ∉ Lib.decDigits v := fun hm => by
  have := dec_mem (v + 1) v (by omega) c hm
  omega
theorem jobsP_dec : ∀ (l acc : List Int), (∀ j ∈ l, okJ j) → jobsP' (l.map fun j => Lib.decDigits j.toNat) acc = (acc ++ l, true)
  | [], acc, h => by simp [jobsP']
  | j :: l, acc, h => by
    have hj := h j (by simp)
    have e := jl_of_dec j.toNat (by have := hj.1; have := hj.2; omega)
    have ih := jobsP_dec l (acc ++ [j]) (fun x hx => h x (List.mem_cons_of_mem _ hx))
    rw [List.map_cons, jobsP', e, if_pos rfl]
    have e2 : ((j.toNat : Nat) : Int) = j := Int.toNat_of_nonneg hj.1
    show jobsP' _ (acc ++ [((j.toNat : Nat) : Int)]) = _
    rw [e2, ih]
    simp
theorem dec_jobsP : ∀ (t : List (List UInt8)) (acc js : List Int), jobsP' t acc = (js, true) → ∃ l : List Int, js = acc ++ l ∧ (l.map fun j => Lib.decDigits j.toNat) = t ∧ ∀ j ∈ l, okJ j
  | [], acc, js, h => by
    rw [jobsP'] at h
    cases h
    exact ⟨[], by simp, rfl, by simp⟩
  | x :: t, acc, js, h => by
    rw [jobsP'] at h
    by_cases hx : (jl x 0 0).2 = true
    · rw [if_pos hx] at h
      obtain ⟨l, h1, h2, h3⟩ := dec_jobsP t _ _ h
      have he : jl x 0 0 = ((jl x 0 0).1, true) := by rw [← hx]
      obtain ⟨q1, q2⟩ := dec_of_jl x [] 0 0 _ (.inl ⟨rfl, rfl, rfl⟩) he
      refine ⟨((jl x 0 0).1 : Int) :: l, by rw [h1]; simp, ?_, ?_⟩
      · rw [List.map_cons, h2, Int.toNat_natCast, q1]
        rfl
      · intro j hj
        rcases List.mem_cons.1 hj with rfl | hj
        · exact ⟨by omega, by omega⟩
        · exact h3 j hj
    · rw [if_neg hx] at h
      cases h
theorem need_text (n : Nd) (hn : okN n = true) (hj : ∀ j ∈ njobs n, okJ j) : needT (ntext n) = (n, true) := by
  have hk := kinds n hn
  have hc : cut 58 (ntext n) = nm n.1 :: (njobs n).map fun j => Lib.decDigits j.toNat := by
    rw [ntext_glue]
    refine cut_glue 58 _ (by simp) fun x hx => ?_
    rcases List.mem_cons.1 hx with rfl | hx
    · exact nm_not hk 58 (by decide)
    · obtain ⟨j, _, rfl⟩ := List.mem_map.1 hx
      exact dec_not _ 58 (by decide)
  have hjp := jobsP_dec (njobs n) [] hj
  rw [List.nil_append] at hjp
  unfold needT
  rw [hc]
  simp only [hjp, kindOf_nm hk]
  have h1 : decide ((0 : Int) < n.1) = true := by
    refine decide_eq_true ?_
    rcases hk with k | k | k | k | k <;> rw [k] <;> decide
  have h2 : (((n.1 : Int) == 5) == ((((njobs n).length : Nat) : Int) == 0)) = true := by
    simp only [okN, Bool.and_eq_true] at hn
    exact hn.1.1.2
  rw [h1, h2]
  rfl
theorem text_need (s : List UInt8) (n : Nd) (h : needT s = (n, true)) : ntext n = s ∧ ∀ j ∈ njobs n, okJ j := by
  unfold needT at h
  have hg := glue_cut 58 s
  cases hc : cut 58 s with
  | nil => exact absurd hc (cut_ne 58 s)
  | cons x t =>
    rw [hc] at h hg
    simp only at h
    cases hjp : jobsP' t [] with
    | mk js ok =>
      rw [hjp] at h
      cases ok with
      | false => simp at h
      | true =>
        simp only [Prod.mk.injEq, Bool.and_eq_true, decide_eq_true_eq] at h
        obtain ⟨rfl, h1, h2⟩ := h
        obtain ⟨l, e1, e2, e3⟩ := dec_jobsP t [] js hjp
        rw [List.nil_append] at e1
        subst e1
        obtain ⟨q1, q2⟩ := nm_kindOf h1
        refine ⟨?_, e3⟩
        rw [ntext_glue]
        show glue 58 (nm (kindOf x) :: (js.map fun j => Lib.decDigits j.toNat)) = s
        rw [q1, e2, hg]
theorem needs_texts : ∀ (l acc : List Nd), (∀ n ∈ l, okN n = true ∧ ∀ j ∈ njobs n, okJ j) → needsT (l.map ntext) acc = some (acc ++ l)
  | [], acc, h => by simp [needsT]
  | n :: l, acc, h => by
    have hn := h n (by simp)
    rw [List.map_cons, needsT, need_text n hn.1 hn.2, if_pos rfl, needs_texts l (acc ++ [n]) (fun x hx => h x (List.mem_cons_of_mem _ hx))]
    simp
theorem texts_needs : ∀ (t : List (List UInt8)) (acc r : List Nd), needsT t acc = some r → ∃ l : List Nd, r = acc ++ l ∧ l.map ntext = t ∧ ∀ n ∈ l, ∀ j ∈ njobs n, okJ j
  | [], acc, r, h => by
    rw [needsT] at h
    cases h
    exact ⟨[], by simp, rfl, by simp⟩
  | x :: t, acc, r, h => by
    rw [needsT] at h
    by_cases hx : (needT x).2 = true
    · rw [if_pos hx] at h
      obtain ⟨l, h1, h2, h3⟩ := texts_needs t _ _ h
      have he : needT x = ((needT x).1, true) := by rw [← hx]
      obtain ⟨q1, q2⟩ := text_need x _ he
      refine ⟨(needT x).1 :: l, by rw [h1]; simp, by rw [List.map_cons, q1, h2], ?_⟩
      intro n hn
      rcases List.mem_cons.1 hn with rfl | hn
      · exact q2
      · exact h3 n hn
    · rw [if_neg hx] at h
      cases h
theorem ntext_not (n : Nd) (hn : okN n = true) (c : UInt8) (hc : c.toNat < 48 ∨ (58 < c.toNat ∧ c.toNat < 97)) : c ∉ ntext n := by
  intro hm
  rw [ntext_glue, mem_glue (by intro e; subst e; revert hc; decide)] at hm
  obtain ⟨l, hl, hm⟩ := hm
  rcases List.mem_cons.1 hl with rfl | hl
  · exact nm_not (kinds n hn) c (by omega) hm
  · obtain ⟨j, _, rfl⟩ := List.mem_map.1 hl
    exact dec_not _ c (by omega) hm
theorem ntext_ne (n : Nd) (hn : okN n = true) : ntext n ≠ [] := by
  intro e
  have : nm n.1 ≠ [] := by
    rcases kinds n hn with k | k | k | k | k <;> rw [k] <;> decide
  unfold ntext at e
  exact this (List.append_eq_nil_iff.1 e).1
theorem parse_print (d : El T24) (hd : okD d = true) (hj : ∀ n ∈ nds d, ∀ j ∈ njobs n, okJ j) : parseT (dtext d) = (d, 0) := by
  have hd2 := hd
  simp only [okD, Bool.and_eq_true, Bool.or_eq_true, Bool.not_eq_true', decide_eq_true_eq] at hd2
  have hall : ∀ x ∈ nds d, okN x = true := fun x hx => List.all_eq_true.1 hd2.2 x hx
  obtain ⟨any, ns⟩ := d
  have hns : nds (any, ns) = ns := rfl
  rw [hns] at hall hj
  have h2 : any = true → 2 ≤ ns.length := fun e => by
    have := hd2.1.2
    rw [show ((any, ns) : El T24).1 = any from rfl, e] at this
    rcases this with h | h
    · cases h
    · exact h
  have hmap : ∀ c : UInt8, c = signOf any → ∀ x ∈ ns.map ntext, c ∉ x := fun c hc x hx => by
    obtain ⟨n, hn, rfl⟩ := List.mem_map.1 hx
    refine ntext_not n (hall n hn) c ?_
    rw [hc]
    cases any <;> decide
  cases ns with
  | nil =>
    cases any with
    | true => exact absurd (h2 rfl) (by simp)
    | false => rfl
  | cons n0 l =>
    have hdt : dtext (any, n0 :: l) = glue (signOf any) ((n0 :: l).map ntext) := rfl
    have hne : dtext (any, n0 :: l) ≠ [] := by
      rw [hdt]
      intro e
      rw [List.map_cons, glue] at e
      exact ntext_ne n0 (hall n0 (by simp)) (List.append_eq_nil_iff.1 e).1
    have hany : decide (63 ∈ dtext (any, n0 :: l)) = any := by
      rw [hdt]
      cases any with
      | true =>
        refine decide_eq_true ?_
        cases l with
        | nil => exact absurd (h2 rfl) (by simp)
        | cons n1 l =>
          rw [List.map_cons, List.map_cons, glue_cons]
          exact List.mem_append_right _ List.mem_cons_self
      | false =>
        refine decide_eq_false ?_
        rw [show signOf false = 44 from rfl, mem_glue (by decide)]
        rintro ⟨x, hx, hm⟩
        obtain ⟨n, hn, rfl⟩ := List.mem_map.1 hx
        exact ntext_not n (hall n hn) 63 (by decide) hm
    have hcut : cut (signOf any) (dtext (any, n0 :: l)) = (n0 :: l).map ntext := by
      rw [hdt]
      exact cut_glue _ _ (by simp) (hmap _ rfl)
    have hneed := needs_texts (n0 :: l) [] (fun n hn => ⟨hall n hn, hj n hn⟩)
    unfold parseT
    split
    · rename_i e
      exact absurd e hne
    · rw [hany, hcut, hneed]
      simp only [List.nil_append]
      rw [show okD (any, n0 :: l) = true from hd]
theorem print_parse (s : List UInt8) : ((parseT s).2 = 0 ∧ okD (parseT s).1 = true ∧ (∀ n ∈ nds (parseT s).1, ∀ j ∈ njobs n, okJ j) ∧ dtext (parseT s).1 = s) ∨ ((parseT s).2 ≠ 0 ∧ (parseT s).1 = (false, [])) := by
  unfold parseT
  split
  · exact .inl ⟨rfl, rfl, fun n hn => (by cases hn), rfl⟩
  · rename_i hs
    generalize hany : decide (63 ∈ s) = any
    cases hn : needsT (cut (signOf any) s) [] with
    | none => exact .inr ⟨by simp, rfl⟩
    | some r =>
      simp only
      cases hok : okD (any, r) with
      | false => exact .inr ⟨by simp, rfl⟩
      | true =>
        obtain ⟨l, e1, e2, e3⟩ := texts_needs _ _ _ hn
        rw [List.nil_append] at e1
        subst e1
        refine .inl ⟨rfl, hok, e3, ?_⟩
        show glue (signOf any) (r.map ntext) = s
        rw [e2]
        exact glue_cut _ _
theorem L19_refl (K : Nat) (a : List Int) (hl : a.length ≤ 100000) : ∀ (n : Nat) (pre suf : List Int), a = pre ++ suf → suf.length < n → L19_0 K a a n (pre.length : Int) = some true
  | 0, pre, suf, e, h => by omega
  | n + 1, pre, [], e, h => by
    have hf := fin e
    simp only [L19_0, b19_0, hf.1, Bool.false_eq_true, if_false]
  | n + 1, pre, x :: suf, e, h => by
    obtain ⟨h1, h2, h3, h4, h5, h6⟩ := mid e (zEl (Ty.int IntKind.u32)) (by omega)
    have ih := L19_refl K a hl n (pre ++ [x]) suf h5 (by simpa using h)
    simp only [L19_0, b19_0, h1, h2, if_true, h4, bne_self_eq_false, Bool.false_eq_true, if_false]
    exact ih
theorem F19_refl (K : Nat) (a : List Int) (hl : a.length ≤ 100000) (hK : a.length < K) : F19 K a a = some true := by
  unfold F19 G19 t19
  rw [if_neg (by simp)]
  exact L19_refl K a hl K [] a rfl hK
theorem L20_refl (K : Nat) (d : El T24) (hl : (nds d).length ≤ 100000) (hj : ∀ n ∈ nds d, (njobs n).length ≤ 100000 ∧ (njobs n).length < K) : ∀ (n : Nat) (pre suf : List Nd), nds d = pre ++ suf → suf.length < n → L20_0 (F19 K) K d d n (pre.length : Int) = some true
  | 0, pre, suf, e, h => by omega
  | n + 1, pre, [], e, h => by
    have hf := fin e
    have hf1 : decide ((pre.length : Int) < ((List.length d.2 : Nat) : Int)) = false := hf.1
    simp only [L20_0, b20_0, hf1, Bool.false_eq_true, if_false]
  | n + 1, pre, x :: suf, e, h => by
    obtain ⟨h1, h2, h3, h4, h5, h6⟩ := mid e (zEl T46) (by omega)
    have h1' : decide ((pre.length : Int) < ((List.length d.2 : Nat) : Int)) = true := h1
    have h2' : decide ((0 : Int) ≤ (pre.length : Int) ∧ (pre.length : Int) < ((List.length d.2 : Nat) : Int)) = true := h2
    have h3' : List.getD d.2 ((pre.length : Int)).toNat (zEl T46) = x := h3
    have hx := hj x (by rw [e]; simp)
    have f19 : F19 K x.2 x.2 = some true := F19_refl K (njobs x) hx.1 hx.2
    have ih := L20_refl K d hl hj n (pre ++ [x]) suf h5 (by simpa using h)
    have b1 : ((x.1 : Int) != (x.1 : Int)) = false := bne_self_eq_false _
    simp only [L20_0, b20_0, h1', h2', if_true, h3', b1, Bool.false_eq_true, if_false, f19, Option.bind_some, Bool.not_true, h4]
    exact ih
theorem F20_refl (K : Nat) (hK : 200 ≤ K) (d : El T24) (hd : okD d = true) : F20 K d d = some true := by
  have hd2 := hd
  simp only [okD, Bool.and_eq_true, decide_eq_true_eq] at hd2
  have hd20 : (nds d).length ≤ 20 := hd2.1.1
  unfold F20 G20 t20
  have e1 : (!d.1 == d.1) = false := by cases d.1 <;> rfl
  rw [e1, if_neg (by decide), if_neg (by simp)]
  refine L20_refl K d (by omega) (fun n hn => ?_) K [] (nds d) rfl (by omega)
  have hn2 : okN n = true := List.all_eq_true.1 hd2.2 n hn
  simp only [okN, Bool.and_eq_true, decide_eq_true_eq] at hn2
  have : (njobs n).length ≤ 20 := hn2.1.2
  omega
theorem dtext_len (d : El T24) (hd : okD d = true) (hj : ∀ n ∈ nds d, ∀ j ∈ njobs n, okJ j) : (dtext d).length ≤ 7000 := by
  have hd2 := hd
  simp only [okD, Bool.and_eq_true, decide_eq_true_eq] at hd2
  have hd20 : (nds d).length ≤ 20 := hd2.1.1
  have := glue_len (signOf d.1) ((nds d).map ntext) (fun x hx => by
    obtain ⟨y, hy, rfl⟩ := List.mem_map.1 hx
    exact ntext_len y (List.all_eq_true.1 hd2.2 y hy) (hj y hy))
  rw [List.length_map] at this
  unfold dtext
  omega
theorem dependBack (a : El T24) (s : El .str) (ha : Gd T24 a) (hs : Gd .str s) : F6 20000 a s = some true := by
  have hj : ∀ n ∈ nds a, ∀ j ∈ njobs n, okJ j := fun n hn j hj => by
    have h1 := (ha.2.2 n hn).2.2 j hj
    have := wf_u32 h1
    exact ⟨this.1, by omega⟩
  obtain ⟨b, hb, hb2⟩ := F10_eq 20000 (by omega) a [] (by have := ha.2.1; show List.length a.2 ≤ _; omega) (by simp)
  have e0 : (ByteArray.mk (#[])).toList = [] := by rw [toList_ls]; rfl
  unfold F6 G6 t6
  rw [hb, Option.bind_some]
  cases b with
  | true =>
    rw [if_pos rfl, F11_eq 20000 (by omega)]
    rfl
  | false =>
    rw [if_neg (by decide)]
    by_cases hsz : ((s.size : Nat) : Int) > 2000
    · rw [if_pos (decide_eq_true hsz), F11_eq 20000 (by omega)]
      rfl
    rw [if_neg (by rw [decide_eq_false hsz]; decide)]
    have f14 := F14_eq 20000 a (by omega) (fun _ => hj)
    have f13 := F13_eq 20000 (by omega) a
    have f21 := F21_eq 20000 (by omega) s (by omega) (by omega)
    rw [f14, Option.bind_some, f13, Option.bind_some]
    have tail : (Option.bind (F21 20000 s) fun x7 => (if (x7.2 != (0 : Int)) = true then (if ((List.length x7.1.2 : Int) == (0 : Int)) = true then (if (!x7.1.1) = true then (Option.bind (F11 20000) fun x8 => some x8) else some false) else some false)
        else (Option.bind (F14 20000 x7.1) fun x9 => (if (x9.2 == (0 : Int)) = true then (if (x9.1.toList == s.toList) = true then (Option.bind (F11 20000) fun x10 => some x10) else some false) else some false)))) = some true := by
      rw [f21, Option.bind_some]
      rcases print_parse (ls s) with ⟨h1, h2, h3, h4⟩ | ⟨h1, h2⟩
      · have q := F14_eq 20000 (parseT (ls s)).1 (by omega) (fun _ => h3)
        rw [h2] at q
        rw [h1, if_neg (by exact Bool.false_ne_true), q, Option.bind_some, if_pos (by exact rfl), h4, bs_ls, if_pos (by simp), F11_eq 20000 (by omega)]
        rfl
      · rw [if_pos (by simpa using h1), h2, if_pos (by exact rfl), if_pos (by exact rfl), F11_eq 20000 (by omega)]
        rfl
    cases hd : okD a with
    | false =>
      rw [if_neg (by exact Bool.false_ne_true), if_neg (by exact Bool.false_ne_true)]
      exact tail
    | true =>
      have f21' := F21_eq 20000 (by omega) (bs (dtext a)) (by rw [bs_size]; have := dtext_len a hd hj; omega) (by rw [bs_size]; have := dtext_len a hd hj; omega)
      rw [ls_bs, parse_print a hd hj] at f21'
      rw [if_neg (by exact Bool.false_ne_true), if_pos (by exact rfl)]
      rw [f21', Option.bind_some, if_neg (by exact Bool.false_ne_true), F20_refl 20000 (by omega) a hd, Option.bind_some, if_neg (by exact Bool.false_ne_true)]
      exact tail
end Go.Proofs.YtigekmmdflaeaaaDoorE
