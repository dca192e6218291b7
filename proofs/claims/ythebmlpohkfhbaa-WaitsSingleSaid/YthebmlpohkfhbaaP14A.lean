/- Waits: what the small functions come to: how a job is, whether a table may be, who is alone, who has room. -/
import Derived.Test.YthebmlpohkfhbaaS14F7
import Derived.Test.YthebmlpohkfhbaaPu0
set_option linter.all false
namespace Go.Proofs.YthebmlpohkfhbaaE
open Go Go.Proofs
set_option maxRecDepth 100000
set_option linter.unusedVariables false
abbrev J := El T45
abbrev jid (j : J) : Int := j.1
abbrev jarr (j : J) : Int := j.2.1
abbrev jhow (j : J) : Int := j.2.2.2.2.2.1
abbrev jname (j : J) : ByteArray := j.2.2.2.1.1
abbrev jacc (j : J) : ByteArray := j.2.2.2.1.2.1
abbrev jmost (j : J) : Int := j.2.2.2.1.2.2.2.2.2.2.1.2
abbrev jdep (j : J) : El T39 := j.2.2.2.1.2.2.2.2.2.2.2.1
abbrev jbegin (j : J) : Int := j.2.2.2.1.2.2.2.2.2.2.2.2.2.1
def Short {α : Type} (l : List α) : Prop := l.length ≤ 1000

def howf (h : Int) : Int := if h = 1 ∨ h = 2 then 1 else if h = 3 ∨ h = 4 then 2 else if h = 5 then 3 else if 6 ≤ h ∧ h ≤ 9 then 4 else 0
theorem F22_eq (K : Nat) (j : J) : F22 K j = some (howf (jhow j)) := by
  simp only [F22, G22, t22, howf, jhow, El, beq_iff_eq, decide_eq_true_eq]
  (repeat' split) <;> first | rfl | omega
theorem F23_eq (K : Nat) (j : J) : F23 K j = some (howf (jhow j)) := by
  simp only [F23, G23, t23, howf, jhow, El, decide_eq_true_eq]
  obtain ⟨h, hh⟩ : ∃ h : Int, j.2.2.2.2.2.1 = h := ⟨_, rfl⟩
  simp only [hh]
  clear hh
  split
  · rw [if_neg (by omega), if_neg (by omega), if_neg (by omega), if_neg (by omega)]
  · split
    · rw [if_neg (by omega), if_neg (by omega), if_neg (by omega), if_neg (by omega)]
    · have : h = 0 ∨ h = 1 ∨ h = 2 ∨ h = 3 ∨ h = 4 ∨ h = 5 ∨ h = 6 ∨ h = 7 ∨ h = 8 ∨ h = 9 := by omega
      rcases this with rfl | rfl | rfl | rfl | rfl | rfl | rfl | rfl | rfl | rfl <;> rfl

/-! ### may they be a table's? -/
def okj (j : J) (k : Nat) : Bool := decide (jid j = (k : Int) + 1) && decide (1 ≤ jhow j) && decide (jhow j ≤ 9)
def okl : List J → Nat → Bool
  | [], _ => true
  | j :: l, k => okj j k && okl l (k + 1)
def ok (l : List J) : Bool := okl l 0
def IdIn (l : List J) : Prop := ∀ j ∈ l, 0 ≤ jid j ∧ jid j ≤ 4294967295
theorem howf_zero {h : Int} : howf h = 0 ↔ ¬ (1 ≤ h ∧ h ≤ 9) := by
  unfold howf
  (repeat' split) <;> omega
theorem L16_eq (K : Nat) (l : List J) (hl : l.length ≤ 1000) (hi : IdIn l) : ∀ (n : Nat) (pre suf : List J), l = pre ++ suf → suf.length < n →
    L16_0 (F22 K) K l n (pre.length : Int) = some (if okl suf pre.length = true then 0 else 2)
  | 0, pre, suf, e, h => by omega
  | n + 1, pre, [], e, h => by
    have := fin e
    simp only [L16_0, b16_0, this.1, okl]
    rfl
  | n + 1, pre, x :: xs, e, h => by
    obtain ⟨h1, h2, h3, h4, h5, h6⟩ := mid e (zEl T45) (by omega)
    have ih := L16_eq K l hl hi n (pre ++ [x]) xs h5 (by simpa using h)
    have hx := hi x (by rw [e]; simp)
    simp only [jid] at hx
    have hlen : (pre ++ [x]).length = pre.length + 1 := by simp
    simp only [L16_0, b16_0, h1, h2, h3, h4, ih, F22_eq, Option.bind_some, if_true, okl, okj]
    rw [i64_in (by omega) (by omega), hlen]
    have hz := @howf_zero (jhow x)
    by_cases c1 : x.1 = (pre.length : Int) + 1
    · by_cases c2 : 1 ≤ jhow x ∧ jhow x ≤ 9
      · have : ¬ howf (jhow x) = 0 := fun h => hz.1 h c2
        have d1 := c2.1
        have d2 := c2.2
        simp [c1, this, jid, jhow] at *
        simp [d1, d2]
      · have h0 := hz.2 c2
        have : (decide (1 ≤ jhow x) && decide (jhow x ≤ 9)) = false := by simpa using c2
        simp only [h0, c1, jid, Bool.and_assoc]
        rw [← Bool.and_assoc (decide (1 ≤ jhow x)), this]
        simp
    · simp [c1, jid]
theorem F16_eq (K : Nat) (l : List J) (hl : l.length ≤ 1000) (hi : IdIn l) (hK : 2000 ≤ K) : F16 K l = some (if ok l = true then 0 else 2) := by
  exact L16_eq K l hl hi K [] l rfl (by omega)

theorem L21_eq (K : Nat) (l : List J) (hl : l.length ≤ 1000) : ∀ (n : Nat) (pre suf : List J), l = pre ++ suf → suf.length < n →
    L21_0 K l n (pre.length : Int) = some (if okl suf pre.length = true then 0 else 2)
  | 0, pre, suf, e, h => by omega
  | n + 1, pre, [], e, h => by
    have := fin e
    simp only [L21_0, b21_0, this.1, okl]
    rfl
  | n + 1, pre, x :: xs, e, h => by
    obtain ⟨h1, h2, h3, h4, h5, h6⟩ := mid e (zEl T45) (by omega)
    have ih := L21_eq K l hl n (pre ++ [x]) xs h5 (by simpa using h)
    have hlen : (pre ++ [x]).length = pre.length + 1 := by simp
    have e1 : IntKind.u32.wrap ((pre.length : Int) + 1) = (pre.length : Int) + 1 := u32_in (by omega) (by omega)
    have e2 : (((pre ++ [x]).length : Nat) : Int) = (pre.length : Int) + 1 := by rw [hlen]; rfl
    rw [e2] at ih h4
    simp only [L21_0, b21_0, h1, h2, h3, h4, e1, ih, if_true, okl, okj, jid, jhow, El, hlen, bne_iff_ne, ne_eq, ite_not, decide_eq_true_eq]
    by_cases c1 : x.1 = (pre.length : Int) + 1
    · by_cases c2 : x.2.2.2.2.2.1 < (1 : Int)
      · have : ¬ (1 : Int) ≤ x.2.2.2.2.2.1 := by simp only [El] at *; omega
        simp [c1, c2, this]
      · by_cases c3 : x.2.2.2.2.2.1 > (9 : Int)
        · have : ¬ x.2.2.2.2.2.1 ≤ (9 : Int) := by simp only [El] at *; omega
          simp [c1, c2, c3, this]
        · have d1 : (1 : Int) ≤ x.2.2.2.2.2.1 := by simp only [El] at *; omega
          have d2 : x.2.2.2.2.2.1 ≤ (9 : Int) := by simp only [El] at *; omega
          simp [c1, c2, c3, d1, d2]
    · simp [c1]
theorem F21_eq (K : Nat) (l : List J) (hl : l.length ≤ 1000) (hK : 2000 ≤ K) : F21 K l = some (if ok l = true then 0 else 2) :=
  L21_eq K l hl K [] l rfl (by omega)

/-! ### one that is there -/
def there (l : List J) (id : Int) : Bool := ok l && decide (1 ≤ id) && decide (id ≤ l.length)
def jat (l : List J) (id : Int) : J := l.getD (id - 1).toNat (zEl T45)
theorem F35_eq (K : Nat) (l : List J) (hl : l.length ≤ 1000) (hK : 2000 ≤ K) (id : Int) (h0 : 0 ≤ id) (h1 : id ≤ 4294967295) : F35 K l id = some (there l id) := by
  simp only [F35, G35, t35, F21_eq K l hl hK, Option.bind_some, there]
  rw [i64_in (by omega) (by omega)]
  cases ok l <;> by_cases c : (1 : Int) ≤ id <;> simp [c]
theorem F31_eq (K : Nat) (l : List J) (hl : l.length ≤ 1000) (hi : IdIn l) (hK : 2000 ≤ K) (id : Int) (h0 : 0 ≤ id) (h1 : id ≤ 4294967295) :
    F31 K l id = some (if there l id = true then (jat l id, true) else (zEl T45, false)) := by
  simp only [F31, G31, t31, F16_eq K l hl hi hK, Option.bind_some, there]
  by_cases c : (1 : Int) ≤ id
  · rw [i64_in (by omega) (by omega), u32_pred c h1]
    have c0 : ¬ id = 0 := by omega
    by_cases ho : ok l = true
    · by_cases d : id ≤ (l.length : Int)
      · have d1 : ¬ id > (l.length : Int) := by omega
        have d2 : (0 : Int) ≤ id - 1 ∧ id - 1 < (l.length : Int) := by omega
        simp [ho, c0, c, d, d1, d2, jat]
      · have d1 : id > (l.length : Int) := by omega
        simp [ho, c0, c, d, d1]; rfl
    · simp [ho]; rfl
  · have c0 : id = 0 := by omega
    by_cases ho : ok l = true <;> simp [ho, c0] <;> rfl
theorem there_spec {l : List J} {id : Int} (h : there l id = true) : ok l = true ∧ 1 ≤ id ∧ id ≤ l.length ∧ ∃ h : (id - 1).toNat < l.length, jat l id = l[(id - 1).toNat] := by
  simp only [there, Bool.and_eq_true, decide_eq_true_eq] at h
  refine ⟨h.1.1, h.1.2, h.2, by omega, ?_⟩
  exact getD_lt (by omega)
theorem okl_get : ∀ {l : List J} {k : Nat}, okl l k = true → ∀ (i : Nat) (h : i < l.length), jid l[i] = (i + k : Nat) + 1 ∧ 1 ≤ jhow l[i] ∧ jhow l[i] ≤ 9
  | [], k, h, i, hi => by simp at hi
  | x :: l, k, h, i, hi => by
    simp only [okl, okj, Bool.and_eq_true, decide_eq_true_eq] at h
    cases i with
    | zero => simp only [List.getElem_cons_zero]; refine ⟨?_, h.1.1.2, h.1.2⟩; rw [h.1.1.1]; omega
    | succ i =>
      have := okl_get h.2 i (by simpa using hi)
      simp only [List.getElem_cons_succ]
      refine ⟨?_, this.2⟩
      rw [this.1]; omega
theorem ok_get {l : List J} (h : ok l = true) (i : Nat) (hi : i < l.length) : jid l[i] = i + 1 ∧ 1 ≤ jhow l[i] ∧ jhow l[i] ≤ 9 := by
  have := okl_get h i hi
  simpa using this
theorem ok_mem {l : List J} (h : ok l = true) {x : J} (hx : x ∈ l) : 1 ≤ jid x ∧ jid x ≤ l.length ∧ 1 ≤ jhow x ∧ jhow x ≤ 9 ∧ jat l (jid x) = x := by
  obtain ⟨i, hi, rfl⟩ := List.getElem_of_mem hx
  have := ok_get h i hi
  refine ⟨by omega, by omega, this.2.1, this.2.2, ?_⟩
  rw [jat, this.1, getD_lt (by omega)]
  congr 1
  omega
theorem jat_id {l : List J} {id : Int} (h : there l id = true) : jid (jat l id) = id ∧ jat l id ∈ l := by
  obtain ⟨h1, h2, h3, h4, h5⟩ := there_spec h
  rw [h5]
  refine ⟨?_, List.getElem_mem _⟩
  rw [(ok_get h1 _ h4).1]
  omega

/-! ### how all are -/
def wheres (l : List J) : List (El T70) := l.map fun j => (jid j, howf (jhow j))
theorem by70 : Try.prog.types[(70 : Nat)].bytes = 16 := by kernel_rfl
theorem L33_eq (K : Nat) (l : List J) (hl : l.length ≤ 1000) : ∀ (n : Nat) (pre suf : List J) (acc : List (El T70)), l = pre ++ suf → suf.length < n → acc.length = pre.length →
    L33_0 (F22 K) K l n (pre.length : Int) acc = some (acc ++ wheres suf)
  | 0, pre, suf, acc, e, h, ha => by omega
  | n + 1, pre, [], acc, e, h, ha => by
    have := fin e
    simp only [L33_0, b33_0, this.1]
    simp [wheres]
  | n + 1, pre, x :: xs, acc, e, h, ha => by
    obtain ⟨h1, h2, h3, h4, h5, h6⟩ := mid e (zEl T45) (by omega)
    have ih := L33_eq K l hl n (pre ++ [x]) xs (acc ++ [(jid x, howf (jhow x))]) h5 (by simpa using h) (by simp [ha])
    have hb : decide ((acc.length + [(x.1, howf (jhow x))].length) * Try.prog.types[(70 : Nat)].bytes ≤ (140737488355328 : Nat)) = true := by
      rw [by70]; simp only [List.length_singleton, decide_eq_true_eq]; omega
    simp only [L33_0, b33_0, h1, h2, h3, h4, ih, F22_eq, Option.bind_some, if_true, hb]
    simp [wheres]
theorem F33_eq (K : Nat) (l : List J) (hl : l.length ≤ 1000) (hK : 2000 ≤ K) : F33 K l = some (wheres l) :=
  L33_eq K l hl K [] l [] rfl (by omega) rfl

/-! ### room -/
def cnt : List J → Int → Int
  | [], _ => 0
  | x :: l, a => (if jarr x = a ∧ howf (jhow x) = 2 then 1 else 0) + cnt l a
def room (l : List J) (j : J) : Bool := decide (jarr j = 0) || decide (jmost j = 0) || decide (cnt l (jarr j) < jmost j)
theorem cnt_bound : ∀ (l : List J) (a : Int), 0 ≤ cnt l a ∧ cnt l a ≤ l.length
  | [], a => by simp [cnt]
  | x :: l, a => by
    have := cnt_bound l a
    simp only [cnt, List.length_cons]
    split <;> omega
theorem L36_eq (K : Nat) (l : List J) (hl : l.length ≤ 1000) (j : J) : ∀ (n : Nat) (pre suf : List J) (s : Int), l = pre ++ suf → suf.length < n → 0 ≤ s → s ≤ pre.length →
    L36_0 (F22 K) K l j n s (pre.length : Int) = some (decide (s + cnt suf (jarr j) < jmost j))
  | 0, pre, suf, s, e, h, s0, s1 => by omega
  | n + 1, pre, [], s, e, h, s0, s1 => by
    have := fin e
    simp only [L36_0, b36_0, this.1, cnt]
    simp
  | n + 1, pre, x :: xs, s, e, h, s0, s1 => by
    obtain ⟨h1, h2, h3, h4, h5, h6⟩ := mid e (zEl T45) (by omega)
    have hlen : (((pre ++ [x]).length : Nat) : Int) = (pre.length : Int) + 1 := by simp
    have ih := L36_eq K l hl j n (pre ++ [x]) xs s h5 (by simpa using h) s0 (by rw [hlen]; omega)
    have ih' := L36_eq K l hl j n (pre ++ [x]) xs (s + 1) h5 (by simpa using h) (by omega) (by rw [hlen]; omega)
    have hw : IntKind.i64.wrap (s + 1) = s + 1 := i64_in (by omega) (by omega)
    simp only [L36_0, b36_0, h1, h2, h3, h4, ih, ih', hw, F22_eq, Option.bind_some, if_true, cnt, jarr, El, beq_iff_eq]
    by_cases c1 : x.2.1 = j.2.1
    · by_cases c2 : howf (jhow x) = 2
      · simp [c1, c2, Int.add_assoc]
      · simp [c1, c2]
    · simp [c1]
theorem F36_eq (K : Nat) (l : List J) (hl : l.length ≤ 1000) (hK : 2000 ≤ K) (j : J) : F36 K l j = some (room l j) := by
  have := L36_eq K l hl j K [] l 0 rfl (by omega) (by omega) (by simp)
  have e : L36_0 (F22 K) K l j K 0 0 = some (decide (cnt l (jarr j) < jmost j)) := by
    rw [Int.zero_add] at this; exact this
  simp only [F36, G36, t36, e, room, El, beq_iff_eq, jarr, jmost]
  by_cases c1 : j.2.1 = (0 : Int)
  · simp [c1]
  · by_cases c2 : j.2.2.2.1.2.2.2.2.2.2.1.2 = (0 : Int)
    · simp [c1, c2]
    · simp [c1, c2]
theorem howf_two {h : Int} (h1 : 1 ≤ h) (h9 : h ≤ 9) : howf h = 2 ↔ h = 3 ∨ h = 4 := by
  unfold howf
  (repeat' split) <;> omega
theorem howf_one {h : Int} (h1 : 1 ≤ h) (h9 : h ≤ 9) : howf h = 1 ↔ h < 3 := by
  unfold howf
  (repeat' split) <;> omega
theorem L27_eq (K : Nat) (l : List J) (hl : l.length ≤ 1000) (id : Int) (hid : there l id = true) (hw : IntKind.u32.wrap (id - 1) = id - 1) : ∀ (n : Nat) (pre suf : List J) (s : Int), l = pre ++ suf → suf.length < n → 0 ≤ s → s ≤ pre.length →
    L27_0 (F35 K) K l id n s (pre.length : Int) = some (decide (jarr (jat l id) = 0) || decide (jmost (jat l id) = 0) || decide (s + cnt suf (jarr (jat l id)) < jmost (jat l id)))
  | 0, pre, suf, s, e, h, s0, s1 => by omega
  | n + 1, pre, [], s, e, h, s0, s1 => by
    have := fin e
    obtain ⟨j, hj⟩ : ∃ j, l.getD (id - 1).toNat (zEl T45) = j := ⟨_, rfl⟩
    simp only [L27_0, b27_0, this.1, cnt, hw, jat, hj, jarr, jmost, El, beq_iff_eq]
    by_cases c1 : j.2.1 = (0 : Int)
    · simp [c1]
    · by_cases c2 : j.2.2.2.1.2.2.2.2.2.2.1.2 = (0 : Int)
      · simp [c1, c2]
      · simp [c1, c2]
  | n + 1, pre, x :: xs, s, e, h, s0, s1 => by
    obtain ⟨h1, h2, h3, h4, h5, h6⟩ := mid e (zEl T45) (by omega)
    have hlen : (((pre ++ [x]).length : Nat) : Int) = (pre.length : Int) + 1 := by simp
    have ih := L27_eq K l hl id hid hw n (pre ++ [x]) xs s h5 (by simpa using h) s0 (by rw [hlen]; omega)
    have ih' := L27_eq K l hl id hid hw n (pre ++ [x]) xs (s + 1) h5 (by simpa using h) (by omega) (by rw [hlen]; omega)
    have hw' : IntKind.i64.wrap (s + 1) = s + 1 := i64_in (by omega) (by omega)
    have hx := (ok_mem (there_spec hid).1 (x := x) (by rw [e]; simp)).2.2
    have h2' := howf_two hx.1 hx.2.1
    simp only [jhow] at h2'
    obtain ⟨j, hj⟩ : ∃ j, l.getD (id - 1).toNat (zEl T45) = j := ⟨_, rfl⟩
    simp only [jat, hj] at ih ih'
    simp only [L27_0, b27_0, h1, h2, h3, h4, ih, ih', hw, hw', hj, if_true, cnt, jarr, El, beq_iff_eq, jhow, h2', jat]
    by_cases c1 : x.2.1 = j.2.1
    · by_cases c2 : x.2.2.2.2.2.1 = (3 : Int)
      · simp [c1, c2, Int.add_assoc]
      · by_cases c3 : x.2.2.2.2.2.1 = (4 : Int)
        · simp [c1, c2, c3, Int.add_assoc]
        · simp [c1, c2, c3]
    · simp [c1]
theorem F27_eq (K : Nat) (l : List J) (hl : l.length ≤ 1000) (hK : 2000 ≤ K) (id : Int) (h0 : 0 ≤ id) (h1 : id ≤ 4294967295) : F27 K l id = some (there l id && room l (jat l id)) := by
  simp only [F27, G27, t27, F35_eq K l hl hK id h0 h1, Option.bind_some]
  cases ht : there l id with
  | false => simp
  | true =>
    obtain ⟨a1, a2, a3, a4, a5⟩ := there_spec ht
    have hw := u32_pred a2 h1
    have := L27_eq K l hl id ht hw K [] l 0 rfl (by omega) (by omega) (by simp)
    have e : L27_0 (F35 K) K l id K 0 0 = some (room l (jat l id)) := by
      rw [Int.zero_add] at this; exact this
    have d : (0 : Int) ≤ id - 1 ∧ id - 1 < (l.length : Int) := by omega
    simp only [hw, e, d]
    simp

/-! ### alone -/
def bad (x j : J) : Bool := decide (¬ jid x = jid j) && ((jname x).toList == (jname j).toList) && ((jacc x).toList == (jacc j).toList) && (decide (howf (jhow x) = 2) || decide (howf (jhow x) = 1) && decide (jid x < jid j))
def alone (l : List J) (j : J) : Bool := !(l.any fun x => bad x j)
def fl (a1 : J) : El TF45 := (a1.1, a1.2.1, a1.2.2.1, a1.2.2.2.1.1, a1.2.2.2.1.2.1, a1.2.2.2.1.2.2.1, a1.2.2.2.1.2.2.2.1, a1.2.2.2.1.2.2.2.2.1, a1.2.2.2.1.2.2.2.2.2.1, a1.2.2.2.1.2.2.2.2.2.2.1.1, a1.2.2.2.1.2.2.2.2.2.2.1.2, a1.2.2.2.1.2.2.2.2.2.2.2.1.1, a1.2.2.2.1.2.2.2.2.2.2.2.1.2, a1.2.2.2.1.2.2.2.2.2.2.2.2.1, a1.2.2.2.1.2.2.2.2.2.2.2.2.2.1, a1.2.2.2.1.2.2.2.2.2.2.2.2.2.2.1, a1.2.2.2.1.2.2.2.2.2.2.2.2.2.2.2.1, a1.2.2.2.1.2.2.2.2.2.2.2.2.2.2.2.2, a1.2.2.2.2)
theorem F40_eq (K : Nat) (x j : J) : F40 K x (fl j) = some (bad x j) := by
  simp only [F40, G40, t40, F22_eq, Option.bind_some, fl, bad, jid, jname, jacc, El, beq_iff_eq]
  by_cases c1 : x.1 = j.1
  · simp [c1]
  · cases c2 : (ByteArray.toList x.2.2.2.1.1 == ByteArray.toList j.2.2.2.1.1) with
    | false => simp [c1]
    | true =>
      cases c3 : (ByteArray.toList x.2.2.2.1.2.1 == ByteArray.toList j.2.2.2.1.2.1) with
      | false => simp [c1]
      | true =>
        by_cases c4 : howf (jhow x) = 2
        · simp [c1, c4]
        · by_cases c5 : howf (jhow x) = 1
          · simp [c1, c5]
            rfl
          · simp [c1, c4, c5]
theorem L48_eq (K : Nat) (l : List J) (hl : l.length ≤ 1000) (j : J) : ∀ (n : Nat) (pre suf : List J), l = pre ++ suf → suf.length < n →
    ∃ r : Int, L48_0 (F40 K) K l (fl j) n (pre.length : Int) = some r ∧ (decide (r ≥ (0 : Int)) = suf.any fun x => bad x j)
  | 0, pre, suf, e, h => by omega
  | n + 1, pre, [], e, h => by
    have := fin e
    refine ⟨-1, ?_, by simp⟩
    simp only [L48_0, b48_0, this.1]
    simp
  | n + 1, pre, x :: xs, e, h => by
    obtain ⟨h1, h2, h3, h4, h5, h6⟩ := mid e (zEl T45) (by omega)
    obtain ⟨r, ih, hr⟩ := L48_eq K l hl j n (pre ++ [x]) xs h5 (by simpa using h)
    simp only [L48_0, b48_0, h1, h2, h3, h4, ih, if_true, F40_eq, Option.bind_some, List.any_cons]
    cases bad x j with
    | true => exact ⟨_, rfl, by simp⟩
    | false => exact ⟨r, by simp, by simpa using hr⟩
theorem F34_eq (K : Nat) (l : List J) (hl : l.length ≤ 1000) (hK : 2000 ≤ K) (j : J) : F34 K l j = some (alone l j) := by
  obtain ⟨r, h1, h2⟩ := L48_eq K l hl j K [] l rfl (by omega)
  have e : F34 K l j = Option.bind (F39 K l (fl j)) fun x0 => some (!x0) := rfl
  have e2 : F39 K l (fl j) = Option.bind (L48_0 (F40 K) K l (fl j) K 0) fun x0 => some (decide (x0 ≥ (0 : Int))) := rfl
  have h1' : L48_0 (F40 K) K l (fl j) K 0 = some r := h1
  rw [e, e2, h1', Option.bind_some, Option.bind_some, h2]
  rfl
theorem L25_eq (K : Nat) (l : List J) (hl : l.length ≤ 1000) (id : Int) (hid : there l id = true) (hw : IntKind.u32.wrap (id - 1) = id - 1) : ∀ (n : Nat) (pre suf : List J), l = pre ++ suf → suf.length < n →
    L25_0 (F35 K) K l id n (pre.length : Int) = some (!(suf.any fun x => bad x (jat l id)))
  | 0, pre, suf, e, h => by omega
  | n + 1, pre, [], e, h => by
    have := fin e
    simp only [L25_0, b25_0, this.1]
    simp
  | n + 1, pre, x :: xs, e, h => by
    obtain ⟨h1, h2, h3, h4, h5, h6⟩ := mid e (zEl T45) (by omega)
    have ih := L25_eq K l hl id hid hw n (pre ++ [x]) xs h5 (by simpa using h)
    have hx := (ok_mem (there_spec hid).1 (x := x) (by rw [e]; simp)).2.2
    have h2' := howf_two hx.1 hx.2.1
    have h1' := howf_one hx.1 hx.2.1
    have hj := (jat_id hid).1
    simp only [jhow] at h2' h1'
    obtain ⟨j, hj'⟩ : ∃ j, l.getD (id - 1).toNat (zEl T45) = j := ⟨_, rfl⟩
    simp only [jat, hj', jid] at ih hj
    simp only [L25_0, b25_0, h1, h2, h3, h4, ih, hw, hj', if_true, El, beq_iff_eq, List.any_cons, bad, jhow, h2', h1', hj, jname, jacc, jid, jat, bne_iff_ne, ne_eq, decide_eq_true_eq]
    cases c2 : (ByteArray.toList x.2.2.2.1.1 == ByteArray.toList j.2.2.2.1.1) with
    | false => simp [beq_eq_false_iff_ne.1 c2]
    | true =>
      cases c3 : (ByteArray.toList x.2.2.2.1.2.1 == ByteArray.toList j.2.2.2.1.2.1) with
      | false => simp [beq_iff_eq.1 c2, beq_eq_false_iff_ne.1 c3]
      | true =>
        simp only [beq_iff_eq.1 c2, beq_iff_eq.1 c3]
        by_cases c1 : x.1 = id
        · simp [c1]
        · by_cases c4 : x.2.2.2.2.2.1 = (3 : Int)
          · simp [c1, c4]
          · by_cases c5 : x.2.2.2.2.2.1 = (4 : Int)
            · simp [c1, c4, c5]
            · by_cases c6 : x.2.2.2.2.2.1 < (3 : Int)
              · by_cases c7 : x.1 < id
                · simp [c1, c4, c5, c6, c7]
                · simp [c1, c4, c5, c6, c7]
              · simp [c1, c4, c5, c6]
theorem F25_eq (K : Nat) (l : List J) (hl : l.length ≤ 1000) (hK : 2000 ≤ K) (id : Int) (h0 : 0 ≤ id) (h1 : id ≤ 4294967295) : F25 K l id = some (there l id && alone l (jat l id)) := by
  simp only [F25, G25, t25, F35_eq K l hl hK id h0 h1, Option.bind_some]
  cases ht : there l id with
  | false => simp
  | true =>
    obtain ⟨a1, a2, a3, a4, a5⟩ := there_spec ht
    have hw := u32_pred a2 h1
    have e : L25_0 (F35 K) K l id K 0 = some (alone l (jat l id)) := L25_eq K l hl id ht hw K [] l rfl (by omega)
    have d : (0 : Int) ≤ id - 1 ∧ id - 1 < (l.length : Int) := by omega
    simp only [hw, e, d]
    simp
end Go.Proofs.YthebmlpohkfhbaaE
