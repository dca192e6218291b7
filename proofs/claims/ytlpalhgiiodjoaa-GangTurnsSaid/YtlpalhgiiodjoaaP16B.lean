/- Gang: a matrix's rows as columns; who is at which place; places, taken and given back. -/
import Derived.Test.YtlpalhgiiodjoaaP16A
set_option linter.all false
namespace Go.Proofs.YtlpalhgiiodjoaaE
open Go Go.Proofs
set_option maxRecDepth 100000
set_option linter.unusedVariables false
abbrev Mx := Int × (List Ce × Int)
def cr (c : Ce) : Int := c.2.1
def cid (c : Ce) : Int := c.1
def st (c : Ce) : Nat := (show Int from c.2.2.1).toNat
def od (c : Ce) : Nat := (show Int from c.2.2.2).toNat
/-- a cell of a matrix of order O -/
def WF (O : Nat) (c : Ce) : Prop := cid c ≠ 0 ∧ 0 ≤ cr c ∧ cr c < 16 ∧ c.2.2 = ((st c : Int), (od c : Int)) ∧ od c ≤ O ∧ st c + 2 ^ od c ≤ 2 ^ O ∧ st c % 2 ^ od c = 0
theorem p128 {O : Nat} (h : O ≤ 7) : 2 ^ O ≤ 128 := Nat.le_trans (Nat.pow_le_pow_right (by omega) h) (by decide : 2 ^ 7 ≤ 128)
theorem by34 : Try.prog.types[(34 : Nat)].bytes ≤ 100 := by decide +kernel
theorem fits34 {n : Nat} (h : n ≤ 100000) : decide (n * Try.prog.types[(34 : Nat)].bytes ≤ (140737488355328 : Nat)) = true := by
  have := Nat.mul_le_mul h by34
  exact decide_eq_true (by omega)
/-! ### a row's columns -/
/-- is a block's place in a row held? -/
def hit (l : List Ce) (r : Int) (s o : Nat) : Bool := l.any fun c => decide (cr c = r ∧ st c < s + 2 ^ o ∧ s < st c + 2 ^ od c)
def rmA (r : Int) : Nat → List Ce → Nat
  | x, [] => x
  | x, c :: l => if cr c = r then rmA r (x ||| bm (st c) (od c)) l else rmA r x l
theorem or_and_ne (x y b : Nat) : ((x ||| y) &&& b ≠ 0) ↔ (x &&& b ≠ 0) ∨ (y &&& b ≠ 0) := by
  rw [Nat.and_or_distrib_right]
  generalize x &&& b = p
  generalize y &&& b = q
  constructor
  · intro h
    by_cases c : p = 0
    · subst c; rw [Nat.zero_or] at h; exact .inr h
    · exact .inl c
  · intro h e
    have h1 : p = 0 := by
      apply Nat.eq_of_testBit_eq
      intro i
      have := congrArg (fun x => x.testBit i) e
      simp only [Nat.testBit_or, Nat.zero_testBit, Bool.or_eq_false_iff] at this
      rw [this.1, Nat.zero_testBit]
    have h2 : q = 0 := by
      subst h1
      rwa [Nat.zero_or] at e
    rcases h with h | h
    · exact h h1
    · exact h h2
theorem rmA_hit (r : Int) (s o : Nat) : ∀ (l : List Ce) (x : Nat), (rmA r x l &&& bm s o ≠ 0) ↔ (x &&& bm s o ≠ 0) ∨ hit l r s o = true
  | [], x => by simp [rmA, hit]
  | c :: l, x => by
    unfold rmA
    split
    · rename_i h
      rw [rmA_hit r s o l, or_and_ne, bm_meet]
      simp only [hit, List.any_cons, Bool.or_eq_true, decide_eq_true_eq, h, true_and]
      constructor
      · rintro ((h | h) | h)
        · exact .inl h
        · exact .inr (.inl h)
        · exact .inr (.inr h)
      · rintro (h | h | h)
        · exact .inl (.inl h)
        · exact .inl (.inr h)
        · exact .inr h
    · rename_i h
      rw [rmA_hit r s o l]
      simp [hit, h]
theorem rmA_lt {O : Nat} (hO : O ≤ 7) (r : Int) : ∀ (l : List Ce) (x : Nat), (∀ c ∈ l, WF O c) → x < B128 → rmA r x l < B128
  | [], x, _, hx => hx
  | c :: l, x, h, hx => by
    have hc := h c List.mem_cons_self
    have p := p128 hO
    unfold rmA
    split
    · exact rmA_lt hO r l _ (fun d hd => h d (List.mem_cons_of_mem _ hd)) (Nat.or_lt_two_pow (n := 128) hx (bm_lt (by have := hc.2.2.2.2.2.1; omega)))
    · exact rmA_lt hO r l _ (fun d hd => h d (List.mem_cons_of_mem _ hd)) hx
theorem wf_F32 {O : Nat} (hO : O ≤ 7) (K : Nat) (hK : 200 ≤ K) {c : Ce} (h : WF O c) : F32 K c.2.2 = some (col (bm (st c) (od c))) := by
  have p := p128 hO
  rw [h.2.2.2.1]
  exact F32_eq K (by omega) _ _ (by have := h.2.2.2.2.2.1; omega) (by have := h.2.2.2.2.1; omega)
theorem L37_eq {O : Nat} (hO : O ≤ 7) (K : Nat) (hK : 200 ≤ K) (a : Int) (l : List Ce) (b r : Int) (hl : l.length ≤ 1000) (hw : ∀ c ∈ l, WF O c) : ∀ (n : Nat) (pre suf : List Ce) (x : Nat), l = pre ++ suf → suf.length < n → x < B128 →
    L37_0 (F32 K) (F34 K) K (a, l, b) r n (pre.length : Int) (col x) = some (col (rmA r x suf))
  | 0, pre, suf, x, e, h, hx => by omega
  | n + 1, pre, [], x, e, h, hx => by
    have := fin e
    simp only [L37_0, b37_0, this.1, rmA]
    rfl
  | n + 1, pre, c :: xs, x, e, h, hx => by
    obtain ⟨h1, h2, h3, h4, h5, h6⟩ := mid e (zEl T34) (by omega)
    have hc : WF O c := hw c (by rw [e]; simp)
    have p := p128 hO
    have hb : bm (st c) (od c) < B128 := bm_lt (by have := hc.2.2.2.2.2.1; omega)
    simp only [L37_0, b37_0, h1, h2, h3, h4, if_true, wf_F32 hO K hK hc, Option.bind_some, F34_eq K hx hb, beq_iff_eq]
    by_cases q : c.2.1 = r
    · rw [if_pos q, L37_eq hO K hK a l b r hl hw n (pre ++ [c]) xs _ h5 (by simpa using h) (Nat.or_lt_two_pow (n := 128) hx hb)]
      rw [rmA, if_pos (show cr c = r from q)]
    · rw [if_neg q, L37_eq hO K hK a l b r hl hw n (pre ++ [c]) xs _ h5 (by simpa using h) hx]
      rw [rmA, if_neg (show ¬ cr c = r from q)]
/-- the columns of row r -/
def rm0 (l : List Ce) (r : Int) : Nat := rmA r 0 l
theorem F37_eq {O : Nat} (hO : O ≤ 7) (K : Nat) (hK : 2000 ≤ K) (m : Mx) (r : Int) (hl : m.2.1.length ≤ 1000) (hw : ∀ c ∈ m.2.1, WF O c) : F37 K m r = some (col (rm0 m.2.1 r)) := by
  have := L37_eq hO K (by omega) m.1 m.2.1 m.2.2 r hl hw K [] m.2.1 0 rfl (by omega) (by show 0 < B128; decide)
  have e0 : col 0 = ((0 : Int), (0 : Int), (0 : Int), (0 : Int), (0 : Int), (0 : Int), (0 : Int), (0 : Int), (0 : Int), (0 : Int), (0 : Int), (0 : Int), (0 : Int), (0 : Int), (0 : Int), (0 : Int)) := by simp [col]
  rw [e0] at this
  exact this
theorem meets_eq {O : Nat} (hO : O ≤ 7) (K : Nat) (l : List Ce) (r : Int) (s o : Nat) (hw : ∀ c ∈ l, WF O c) (h : s + 2 ^ o ≤ 128) : F33 K (col (rm0 l r)) (col (bm s o)) = some (hit l r s o) := by
  unfold rm0
  rw [F33_eq K (rmA_lt hO r l 0 hw (by show 0 < B128; decide)) (bm_lt h)]
  have := rmA_hit r s o l 0
  rw [Nat.zero_and] at this
  congr 1
  rw [Bool.eq_iff_iff, decide_eq_true_eq]
  simpa using this
/-! ### whose is which place -/
def atN (id : Int) : List Ce → Option Nat
  | [] => none
  | c :: l => if cid c = id then some 0 else (atN id l).map (· + 1)
theorem L53_eq (K : Nat) (l : List Ce) (id : Int) (hl : l.length ≤ 1000) : ∀ (n : Nat) (pre suf : List Ce), l = pre ++ suf → suf.length < n →
    L53_0 (F54 K) K l id n (pre.length : Int) = some (match atN id suf with | none => -1 | some j => ((pre.length + j : Nat) : Int))
  | 0, pre, suf, e, h => by omega
  | n + 1, pre, [], e, h => by
    have := fin e
    simp only [L53_0, b53_0, this.1, atN]
    rfl
  | n + 1, pre, c :: xs, e, h => by
    obtain ⟨h1, h2, h3, h4, h5, h6⟩ := mid e (zEl T34) (by omega)
    simp only [L53_0, b53_0, h1, h2, h3, h4, if_true, F54, G54, t54, Option.bind_some, beq_iff_eq]
    by_cases q : c.1 = id
    · rw [if_pos q, atN, if_pos (show cid c = id from q)]
      simp
    · rw [if_neg q, L53_eq K l id hl n (pre ++ [c]) xs h5 (by simpa using h), atN, if_neg (show ¬ cid c = id from q)]
      cases atN id xs with
      | none => rfl
      | some j =>
        have e : (pre ++ [c]).length + j = pre.length + (j + 1) := by simp; omega
        simp only [Option.map_some, e]
theorem F39_eq (K : Nat) (hK : 2000 ≤ K) (m : Mx) (id : Int) (hl : m.2.1.length ≤ 1000) : F39 K m id = some (match atN id m.2.1 with | none => -1 | some j => (j : Int)) := by
  have := L53_eq K m.2.1 id hl K [] m.2.1 rfl (by omega)
  have h2 : F53 K m.2.1 id = some (match atN id m.2.1 with | none => -1 | some j => (j : Int)) := by
    simp only [List.length_nil, Nat.zero_add] at this
    exact this
  simp only [F39, G39, t39, h2, Option.bind_some]
theorem atN_none {id : Int} : ∀ {l : List Ce}, atN id l = none ↔ ∀ c ∈ l, cid c ≠ id
  | [] => by simp [atN]
  | c :: l => by
    unfold atN
    split
    · rename_i h; simp [h]
    · rename_i h; simp [h, atN_none (l := l)]
theorem atN_some {id : Int} : ∀ {l : List Ce} {j : Nat}, atN id l = some j → ∃ pre c suf, l = pre ++ c :: suf ∧ pre.length = j ∧ cid c = id
  | [], j, h => by cases h
  | c :: l, j, h => by
    unfold atN at h
    split at h
    · rename_i q
      cases h
      exact ⟨[], c, l, rfl, rfl, q⟩
    · cases hq : atN id l with
      | none => rw [hq] at h; cases h
      | some i =>
        rw [hq] at h
        cases h
        obtain ⟨pre, d, suf, h1, h2, h3⟩ := atN_some hq
        exact ⟨c :: pre, d, suf, by rw [h1]; rfl, by simp [h2], h3⟩
/-! ### what a matrix is -/
def Apart (c d : Ce) : Prop := cr c = cr d → ¬ (st c < st d + 2 ^ od d ∧ st d < st c + 2 ^ od c)
structure MInv (O n : Nat) (m : Mx) : Prop where
  o : m.1 = O
  len : m.2.1.length ≤ n
  wf : ∀ c ∈ m.2.1, WF O c
  ids : (m.2.1.map cid).Nodup
  srt : m.2.1.Pairwise LeC
  ap : m.2.1.Pairwise Apart
  act : 0 ≤ m.2.2 ∧ (m.2.2 = 0 ∨ ∃ d ∈ m.2.1, m.2.2 ≤ cr d)
theorem apart_symm {c d : Ce} (h : Apart c d) : Apart d c := fun e h2 => h e.symm ⟨h2.2, h2.1⟩
theorem keys_nodup {O : Nat} : ∀ {l : List Ce}, (∀ c ∈ l, WF O c) → l.Pairwise Apart → (l.map keyC).Nodup
  | [], _, _ => List.nodup_nil
  | c :: l, hw, h => by
    rw [List.map_cons, List.nodup_cons]
    rw [List.pairwise_cons] at h
    refine ⟨fun hm => ?_, keys_nodup (fun d hd => hw d (List.mem_cons_of_mem _ hd)) h.2⟩
    obtain ⟨d, hd, e⟩ := List.mem_map.1 hm
    have e1 : d.2.1 = c.2.1 := congrArg (fun p : Int × Int => p.1) e
    have e2 : d.2.2.1 = c.2.2.1 := congrArg (fun p : Int × Int => p.2) e
    refine h.1 d hd e1.symm ?_
    have : st d = st c := by unfold st; rw [e2]
    have p1 := Nat.two_pow_pos (od c)
    have p2 := Nat.two_pow_pos (od d)
    omega
theorem F38_eq (K : Nat) (m : Mx) (hl : m.2.1.length ≤ 1000) (hk : (m.2.1.map keyC).Nodup) : F38 K m = some ((), m.1, insC m.2.1, m.2.2) := by
  have : F49 K () m.2.1 = some (insC m.2.1) := if_pos ⟨by omega, hk⟩
  simp only [F38, G38, t38, this, Option.bind_some]
theorem F17_eq {O n : Nat} (K : Nat) (m : Mx) (hl : m.2.1.length ≤ 1000) (hw : ∀ c ∈ m.2.1, WF O c) (hs : m.2.1.Pairwise LeC) : ∃ R : Int, F17 K m = some R ∧ (m.2.1 = [] ∧ R = 0 ∨ ∃ d ∈ m.2.1, R = cr d + 1) ∧ ∀ c ∈ m.2.1, cr c < R := by
  obtain ⟨a, l, b⟩ := m
  rcases List.eq_nil_or_concat l with rfl | ⟨pre, d, rfl⟩
  · exact ⟨0, by simp [F17, G17, t17], .inl ⟨rfl, rfl⟩, by simp⟩
  · simp only at hl hw hs
    have hd := hw d (by simp)
    refine ⟨cr d + 1, ?_, .inr ⟨d, by simp, rfl⟩, ?_⟩
    · have h0 : (((pre.concat d).length : Int) == 0) = false := by
        rw [beq_eq_false_iff_ne]; simp; omega
      have h1 : IntKind.i64.wrap (((pre.concat d).length : Int) - (1 : Int)) = (pre.length : Int) := by
        rw [i64_in] <;> simp at hl ⊢ <;> omega
      have h2 : decide ((0 : Int) ≤ (pre.length : Int) ∧ (pre.length : Int) < ((pre.concat d).length : Int)) = true := decide_eq_true (by simp; omega)
      have h3 : (pre.concat d).getD ((pre.length : Int)).toNat (zEl T34) = d := by simp
      have h4 : IntKind.i64.wrap (d.2.1 + (1 : Int)) = cr d + 1 := by
        have := hd.2.1; have := hd.2.2.1
        unfold cr at *
        rw [i64_in] <;> (simp only [El] at *; omega)
      simp only [F17, G17, t17, h0, h1, h2, h3, h4, if_true, Bool.false_eq_true, if_false]
    · intro c hc
      rw [List.concat_eq_append] at hs hc
      rw [List.pairwise_append] at hs
      rcases List.mem_append.1 hc with h | h
      · have := hs.2.2 c h d (by simp)
        rw [leC_iff] at this
        unfold cr
        simp only [El] at *
        omega
      · rw [List.mem_singleton.1 h]
        omega
end Go.Proofs.YtlpalhgiiodjoaaE
