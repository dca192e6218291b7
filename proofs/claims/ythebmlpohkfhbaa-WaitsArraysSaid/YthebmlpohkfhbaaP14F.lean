/- Waits: the law of arrays. -/
import Derived.Test.YthebmlpohkfhbaaP14E
set_option linter.all false
namespace Go.Proofs.YthebmlpohkfhbaaE
open Go Go.Proofs
set_option maxRecDepth 100000
set_option linter.unusedVariables false
structure Good (m : Int) (x : J) : Prop where
  arr : jarr x = 1
  most : jmost x = m
  dep : jdep x = (false, [])
  beg : jbegin x = 0
  how : jhow x = 1 ∨ jhow x = 5 ∨ jhow x = 3
def AllG (m : Int) (l : List J) : Prop := ∀ x ∈ l, Good m x
theorem okl_snoc (x : J) : ∀ (l : List J) (k : Nat), okl (l ++ [x]) k = (okl l k && okj x (k + l.length))
  | [], k => by simp [okl]
  | y :: l, k => by
    have := okl_snoc x l (k + 1)
    simp only [List.cons_append, okl, this, List.length_cons, Bool.and_assoc]
    rw [show k + (l.length + 1) = k + 1 + l.length by omega]
def wcnt : List J → Int
  | [] => 0
  | x :: l => (if jhow x = 1 then 1 else 0) + wcnt l
theorem wcnt_in : ∀ l : List J, 0 ≤ wcnt l ∧ wcnt l ≤ l.length
  | [] => by simp [wcnt]
  | x :: l => by
    have := wcnt_in l
    simp only [wcnt, List.length_cons]
    split <;> omega
theorem wcnt_zero : ∀ l : List J, wcnt l = 0 ↔ ∀ x ∈ l, ¬ jhow x = 1
  | [] => by simp [wcnt]
  | x :: l => by
    have h := wcnt_zero l
    have hi := wcnt_in l
    simp only [wcnt, List.mem_cons, forall_eq_or_imp]
    by_cases c : jhow x = 1
    · rw [if_pos c]
      constructor
      · intro h; omega
      · intro h; exact absurd c h.1
    · rw [if_neg c, Int.zero_add, h]
      exact ⟨fun h => ⟨c, h⟩, fun h => h.2⟩
theorem wcnt_set : ∀ (l : List J) (i : Nat), i < l.length → jhow (l.getD i (zEl T45)) = 1 → wcnt (l.set i (setHow (l.getD i (zEl T45)) 3)) + 1 = wcnt l
  | [], i, h, hh => by simp at h
  | x :: l, 0, h, hh => by
    simp only [List.getD_cons_zero] at hh
    simp only [List.set_cons_zero, List.getD_cons_zero, wcnt]
    have : ¬ jhow (setHow x 3) = 1 := by show ¬ (3 : Int) = 1; omega
    rw [if_neg this, if_pos hh]
    omega
  | x :: l, i + 1, h, hh => by
    simp only [List.getD_cons_succ] at hh
    have := wcnt_set l i (by simpa using h) hh
    simp only [List.set_cons_succ, List.getD_cons_succ, wcnt]
    omega
theorem cnt_set : ∀ (l : List J) (i : Nat), i < l.length → jhow (l.getD i (zEl T45)) = 1 → jarr (l.getD i (zEl T45)) = 1 → cnt (l.set i (setHow (l.getD i (zEl T45)) 3)) 1 = cnt l 1 + 1
  | [], i, h, hh, ha => by simp at h
  | x :: l, 0, h, hh, ha => by
    simp only [List.getD_cons_zero] at hh ha
    simp only [List.set_cons_zero, List.getD_cons_zero, cnt]
    have h1 : jarr (setHow x 3) = 1 ∧ howf (jhow (setHow x 3)) = 2 := ⟨ha, rfl⟩
    have h2 : ¬ (jarr x = 1 ∧ howf (jhow x) = 2) := by rw [hh]; intro h; exact absurd h.2 (by decide)
    rw [if_pos h1, if_neg h2]
    omega
  | x :: l, i + 1, h, hh, ha => by
    simp only [List.getD_cons_succ] at hh ha
    have := cnt_set l i (by simpa using h) hh ha
    simp only [List.set_cons_succ, List.getD_cons_succ, cnt]
    omega
theorem good_set {m : Int} : ∀ (l : List J) (i : Nat), AllG m l → AllG m (l.set i (setHow (l.getD i (zEl T45)) 3))
  | [], i, h => h
  | x :: l, 0, h => by
    intro y hy
    have hx := h x (by simp)
    rcases List.mem_cons.1 (show y ∈ setHow x 3 :: l from hy) with rfl | hy
    · exact ⟨hx.arr, hx.most, hx.dep, hx.beg, .inr (.inr rfl)⟩
    · exact h y (by simp [hy])
  | x :: l, i + 1, h => by
    intro y hy
    rcases List.mem_cons.1 (show y ∈ x :: l.set i (setHow (l.getD i (zEl T45)) 3) from hy) with rfl | hy
    · exact h y (by simp)
    · exact good_set l i (fun z hz => h z (by simp [hz])) y hy
theorem good_say {m : Int} {l : List J} {j : J} (hg : Good m j) : sayJ l j 0 = 2 ↔ jhow j = 1 ∧ (m = 0 ∨ cnt l 1 < m) := by
  have hd : sayD (jdep j) (wheres l) (alone l j) = 2 := by rw [hg.dep]; rfl
  have hr : room l j = true ↔ (m = 0 ∨ cnt l 1 < m) := by
    simp only [room, hg.arr, hg.most, Bool.or_eq_true, decide_eq_true_eq]
    omega
  rw [sayJ_two, hr, hg.beg]
  constructor
  · rintro ⟨h1, h2, h3, h4, h5⟩
    refine ⟨?_, h5⟩
    rcases hg.how with h | h | h
    · exact h
    · rw [h] at h1; exact absurd h1 (by decide)
    · rw [h] at h1; exact absurd h1 (by decide)
  · rintro ⟨h1, h2⟩
    exact ⟨by rw [h1]; rfl, hd, by omega, Int.le_refl _, h2⟩
theorem ready_nil {m : Int} {l : List J} (hg : AllG m l) (ho : ok l = true) : ofL l 0 2 = [] ↔ wcnt l = 0 ∨ ¬ (m = 0 ∨ cnt l 1 < m) := by
  constructor
  · intro h
    by_cases c : m = 0 ∨ cnt l 1 < m
    · left
      rw [wcnt_zero]
      intro x hx h1
      have : jid x ∈ ofL l 0 2 := mem_ofL.2 ⟨ho, x, hx, rfl, (good_say (hg x hx)).2 ⟨h1, c⟩⟩
      rw [h] at this
      cases this
    · exact .inr c
  · intro h
    refine List.eq_nil_iff_forall_not_mem.2 fun y hy => ?_
    obtain ⟨_, j, hj, _, hs⟩ := mem_ofL.1 hy
    have := (good_say (hg j hj)).1 hs
    rcases h with h | h
    · exact (wcnt_zero l).1 h j hj this.1
    · exact h this.2

theorem L5_2_eq (a0 a1 : Int) (on : List Int) (k m left : Int) (hk : IntKind.i64.wrap ((1 : Int) + IntKind.i64.wrap ((IntKind.u64.wrap a0).tmod (8 : Int))) = k) (hm : IntKind.i64.wrap ((IntKind.u64.wrap a1).tmod (6 : Int)) = m) (k0 : 1 ≤ k) (k8 : k ≤ 8) (m0 : 0 ≤ m) (hleft : left ≤ k) :
    ∀ (n : Nat) (i : Nat) (l : List J), l.length = k → ok l = true → AllG m l → (i : Int) + wcnt l = left → cnt l 1 = i → (0 < m → (i : Int) ≤ m) → 10 < n + i →
    L5_2 (F18 2000) (F12 2000) (F11 2000) 2000 a0 a1 on n left (i : Int) (i : Int) l = some true
  | 0, i, l, hl, ho, hg, hi, hc, him, hn => by have := wcnt_in l; omega
  | n + 1, i, l, hl, ho, hg, hi, hc, him, hn => by
    have hw := wcnt_in l
    have hid := ok_idIn ho (by omega)
    have hnil := ready_nil hg ho
    simp only [L5_2, b5_2, hk, hm, F12_eq 2000 (by omega) l (by omega) hid, Option.bind_some, known_eq]
    have fin2 : ∀ P : (wcnt l = 0 ∨ ¬ (m = 0 ∨ cnt l 1 < m)), (if decide (m > (0 : Int)) = true then (if ((i : Int) == if m < left then m else left) = true then (some true : Option Bool) else some false) else (if ((i : Int) == left) = true then some true else some false)) = some true := by
      intro P
      by_cases c : m > 0
      · have hP : (i : Int) = (if m < left then m else left) := by
          have := him c
          split <;> rcases P with P | P <;> omega
        simp only [c, decide_true, if_true]
        rw [← hP]
        simp
      · have hP : (i : Int) = left := by rcases P with P | P <;> omega
        simp [c, hP]
    by_cases ci : (i : Int) < k
    · have d : decide ((i : Int) < k) = true := decide_eq_true ci
      simp only [d, if_true]
      cases hof : ofL l 0 2 with
      | nil =>
        have := fin2 (hnil.1 hof)
        simpa using this
      | cons y ys =>
        obtain ⟨a1', a2, a3, a4, a5, a6, a7, a8⟩ := ready_at (by omega) (show y ∈ ofL l 0 2 by rw [hof]; simp)
        have hgj := hg _ a5
        have hs := (good_say hgj).1 a7
        have n0 : ((((y :: ys).length : Nat) : Int) == 0) = false := beq_eq_false_iff_ne.2 (by simp only [List.length_cons]; omega)
        have n1 : decide ((0 : Int) ≤ (0 : Int) ∧ (0 : Int) < (((y :: ys).length : Nat) : Int)) = true := decide_eq_true ⟨by omega, by simp only [List.length_cons]; omega⟩
        have g0 : (y :: ys).getD (Int.toNat (0 : Int)) (zEl (Ty.int IntKind.u32)) = y := rfl
        have d0 : (y == (0 : Int)) = false := beq_eq_false_iff_ne.2 (by omega)
        have d1 : decide (y > k) = false := decide_eq_false (by omega)
        have d2 : decide ((0 : Int) ≤ y - 1 ∧ y - 1 < (l.length : Int)) = true := decide_eq_true (by omega)
        have e1 : IntKind.i64.wrap ((i : Int) + 1) = ((i + 1 : Nat) : Int) := by rw [i64_in (by omega) (by omega)]; omega
        have hlt : (y - 1).toNat < l.length := by omega
        have hset := wcnt_set l (y - 1).toNat hlt hs.1
        have hset2 := cnt_set l (y - 1).toNat hlt hs.1 hgj.arr
        have ih := L5_2_eq a0 a1 on k m left hk hm k0 k8 m0 hleft n (i + 1) (l.set (y - 1).toNat (setHow (l.getD (y - 1).toNat (zEl T45)) 3)) (by rw [List.length_set]; exact hl) (okl_set l 0 _ 3 ho (by omega) (by omega)) (good_set l _ hg) (by omega) (by omega) (by omega) (by omega)
        rw [known_eq] at ih
        simp only [n0, n1, g0, d0, d1, d2, a3, a4, e1, if_true, Bool.false_eq_true, if_false]
        exact ih
    · have d : decide ((i : Int) < k) = false := decide_eq_false ci
      simp only [d, Bool.false_eq_true, if_false]
      have := fin2 (.inl (by omega))
      simpa using this
theorem L5_1_eq (a0 a1 : Int) (on : List Int) (k m : Int) (hk : IntKind.i64.wrap ((1 : Int) + IntKind.i64.wrap ((IntKind.u64.wrap a0).tmod (8 : Int))) = k) (hm : IntKind.i64.wrap ((IntKind.u64.wrap a1).tmod (6 : Int)) = m) (k0 : 1 ≤ k) (k8 : k ≤ 8) (m0 : 0 ≤ m) (l : List J) (hl : l.length = k) (ho : ok l = true) (hg : AllG m l) (hc : cnt l 1 = 0) :
    ∀ (n : Nat) (pre suf : List J) (s : Int), l = pre ++ suf → suf.length < n → s + wcnt suf = wcnt l → 0 ≤ s →
    L5_1 (F18 2000) (F12 2000) (F11 2000) 2000 a0 a1 on n s (pre.length : Int) l = some true
  | 0, pre, suf, s, e, h, hs, hs0 => by omega
  | n + 1, pre, [], s, e, h, hs, hs0 => by
    have hf := fin e
    have hw := wcnt_in l
    have d : decide ((pre.length : Int) < k) = false := by rw [← hl]; exact hf.1
    have hs' : s = wcnt l := by simpa [wcnt] using hs
    simp only [L5_1, b5_1, hk, d, Bool.false_eq_true, if_false]
    exact L5_2_eq a0 a1 on k m s hk hm k0 k8 m0 (by omega) 2000 0 l hl ho hg (by simp [hs']) (by simpa using hc) (fun _ => m0) (by omega)
  | n + 1, pre, x :: xs, s, e, h, hs, hs0 => by
    have hw := wcnt_in l
    have hw' := wcnt_in xs
    obtain ⟨h1, h2, h3, h4, h5, h6⟩ := mid e (zEl T45) (by omega)
    have d : decide ((pre.length : Int) < k) = true := by rw [← hl]; exact h1
    simp only [wcnt] at hs
    have e1 : IntKind.i64.wrap (s + 1) = s + 1 := i64_in (by omega) (by split at hs <;> omega)
    simp only [L5_1, b5_1, hk, d, h2, h3, h4, e1, if_true, El, beq_iff_eq]
    by_cases c : x.2.2.2.2.2.1 = (1 : Int)
    · rw [if_pos c]
      rw [if_pos c] at hs
      exact L5_1_eq a0 a1 on k m hk hm k0 k8 m0 l hl ho hg hc n (pre ++ [x]) xs (s + 1) h5 (by simpa using h) (by omega) (by omega)
    · rw [if_neg c]
      rw [if_neg c] at hs
      exact L5_1_eq a0 a1 on k m hk hm k0 k8 m0 l hl ho hg hc n (pre ++ [x]) xs s h5 (by simpa using h) (by omega) (by omega)
/-- an array's job -/
def mkj (id i m h : Int) (nm : ByteArray) : J := (id, 1, i, (nm, { data := #[(97 : UInt8)] }, { data := #[] }, { data := #[] }, 0, 0, ([], m), (false, []), 0, 0, false, false, { data := #[] }), 0, h, 0, 0, 0, 0, 0, 0)
theorem F18_eq (K : Nat) (id h : Int) : F18 K id h 0 0 = some (id, 0, -1, ({ data := #[(110 : UInt8)] } ++ ByteArray.empty.push (UInt8.ofNat (IntKind.u8.wrap id).toNat), { data := #[(97 : UInt8)] }, { data := #[] }, { data := #[] }, 0, 0, ([], 0), (false, []), 0, 0, false, false, { data := #[] }), 0, h, 0, 0, 0, 0, 0, 0) := by
  simp [F18, G18, t18]
theorem good_mk (id i m h : Int) (nm : ByteArray) (hh : h = 1 ∨ h = 5) : Good m (mkj id i m h nm) := ⟨rfl, rfl, rfl, rfl, hh.elim .inl (fun h => .inr (.inl h))⟩
theorem cnt_snoc (x : J) : ∀ l : List J, cnt (l ++ [x]) 1 = cnt l 1 + (if jarr x = 1 ∧ howf (jhow x) = 2 then 1 else 0)
  | [] => by simp [cnt]
  | y :: l => by
    have := cnt_snoc x l
    simp only [List.cons_append, cnt, this]
    omega
theorem L5_0_eq (a0 a1 : Int) (on : List Int) (hon : ∀ x ∈ on, 0 ≤ x ∧ x ≤ 255) (k m : Int) (hk : IntKind.i64.wrap ((1 : Int) + IntKind.i64.wrap ((IntKind.u64.wrap a0).tmod (8 : Int))) = k) (hm : IntKind.i64.wrap ((IntKind.u64.wrap a1).tmod (6 : Int)) = m) (k0 : 1 ≤ k) (k8 : k ≤ 8) (m0 : 0 ≤ m) :
    ∀ (n : Nat) (l : List J), (l.length : Int) ≤ k → ok l = true → AllG m l → cnt l 1 = 0 → 10 < n + l.length →
    L5_0 (F18 2000) (F12 2000) (F11 2000) 2000 a0 a1 on n (l.length : Int) l = some true
  | 0, l, hl, ho, hg, hc, hn => by omega
  | n + 1, l, hl, ho, hg, hc, hn => by
    by_cases c : (l.length : Int) < k
    · have d : decide ((l.length : Int) < k) = true := decide_eq_true c
      have e1 : IntKind.i64.wrap ((l.length : Int) + 1) = (l.length : Int) + 1 := i64_in (by omega) (by omega)
      have e2 : IntKind.u32.wrap ((l.length : Int) + 1) = (l.length : Int) + 1 := u32_in (by omega) (by omega)
      have hb : ∀ y : J, decide ((l.length + [y].length) * Try.prog.types[(45 : Nat)].bytes ≤ (140737488355328 : Nat)) = true := by
        intro y
        have : (l.length + [y].length) * Try.prog.types[(45 : Nat)].bytes ≤ 60 * 1000 := Nat.mul_le_mul (by simp only [List.length_singleton]; omega) by45
        exact decide_eq_true (by omega)
      have step : ∀ (h : Int) (nm : ByteArray), h = 1 ∨ h = 5 → L5_0 (F18 2000) (F12 2000) (F11 2000) 2000 a0 a1 on n ((l.length : Int) + 1) (l ++ [mkj ((l.length : Int) + 1) (l.length : Int) m h nm]) = some true := by
        intro h nm hh
        have hlen : (l ++ [mkj ((l.length : Int) + 1) (l.length : Int) m h nm]).length = l.length + 1 := by simp
        have := L5_0_eq a0 a1 on hon k m hk hm k0 k8 m0 n (l ++ [mkj ((l.length : Int) + 1) (l.length : Int) m h nm]) (by rw [hlen]; omega) (by
          have ho' : okl l 0 = true := ho
          have q1 : decide (jid (mkj ((l.length : Int) + 1) (l.length : Int) m h nm) = ((0 + l.length : Nat) : Int) + 1) = true := decide_eq_true (by show (l.length : Int) + 1 = _; omega)
          have q2 : decide (1 ≤ jhow (mkj ((l.length : Int) + 1) (l.length : Int) m h nm)) = true := decide_eq_true (by show 1 ≤ h; omega)
          have q3 : decide (jhow (mkj ((l.length : Int) + 1) (l.length : Int) m h nm) ≤ 9) = true := decide_eq_true (by show h ≤ 9; omega)
          refine (okl_snoc (mkj ((l.length : Int) + 1) (l.length : Int) m h nm) l 0).trans ?_
          rw [ho', Bool.true_and, okj, q1, q2, q3]
          rfl) (by
          intro x hx
          rcases List.mem_append.1 hx with hx | hx
          · exact hg x hx
          · rw [List.mem_singleton.1 hx]; exact good_mk _ _ _ _ _ hh) (by
          rw [cnt_snoc, hc, if_neg]
          · rfl
          · rintro ⟨_, h2⟩
            have : howf h = 2 := h2
            rcases hh with rfl | rfl <;> exact absurd this (by decide)) (by rw [hlen]; omega)
        rw [hlen] at this
        exact this
      simp only [L5_0, b5_0, hk, hm, d, e1, e2, F18_eq, Option.bind_some, hb, if_true]
      by_cases c2 : (l.length : Int) < (on.length : Int)
      · have d2 : decide ((l.length : Int) < (on.length : Int)) = true := decide_eq_true c2
        have d3 : decide ((0 : Int) ≤ (l.length : Int) ∧ (l.length : Int) < (on.length : Int)) = true := decide_eq_true ⟨by omega, c2⟩
        simp only [d2, d3, if_true]
        split
        · exact step 5 _ (.inr rfl)
        · exact step 1 _ (.inl rfl)
      · have d2 : decide ((l.length : Int) < (on.length : Int)) = false := decide_eq_false c2
        simp only [d2, Bool.false_eq_true, if_false]
        exact step 1 _ (.inl rfl)
    · have d : decide ((l.length : Int) < k) = false := decide_eq_false c
      simp only [L5_0, b5_0, hk, d, Bool.false_eq_true, if_false]
      exact L5_1_eq a0 a1 on k m hk hm k0 k8 m0 l (by omega) ho hg hc 2000 [] l 0 rfl (by omega) (by omega) (by omega)
theorem waitsArrays (a0 a1 : Int) (on : List Int) (h : (Lit.int .i64 a0).wf = true) (h' : (Lit.int .i64 a1).wf = true) (h'' : Gd (.sl (.int .u8)) on) : F5 2000 a0 a1 on = some true := by
  have hon : ∀ x ∈ on, 0 ≤ x ∧ x ≤ 255 := fun x hx => wf_u8 (h''.2 x hx)
  have u0 : 0 ≤ IntKind.u64.wrap a0 := by rw [IntKind.wrap_u64]; omega
  have u1 : 0 ≤ IntKind.u64.wrap a1 := by rw [IntKind.wrap_u64]; omega
  have t0 : Int.tmod (IntKind.u64.wrap a0) 8 = IntKind.u64.wrap a0 % 8 := Int.tmod_eq_emod_of_nonneg u0
  have t1 : Int.tmod (IntKind.u64.wrap a1) 6 = IntKind.u64.wrap a1 % 6 := Int.tmod_eq_emod_of_nonneg u1
  have hk : IntKind.i64.wrap ((1 : Int) + IntKind.i64.wrap ((IntKind.u64.wrap a0).tmod (8 : Int))) = 1 + IntKind.u64.wrap a0 % 8 := by
    rw [t0, i64_in (x := IntKind.u64.wrap a0 % 8) (by omega) (by omega), i64_in (by omega) (by omega)]
  have hm : IntKind.i64.wrap ((IntKind.u64.wrap a1).tmod (6 : Int)) = IntKind.u64.wrap a1 % 6 := by
    rw [t1, i64_in (by omega) (by omega)]
  exact L5_0_eq a0 a1 on hon _ _ hk hm (by omega) (by omega) (by omega) 2000 [] (by simp; omega) rfl (fun x hx => by cases hx) rfl (by simp)
end Go.Proofs.YthebmlpohkfhbaaE
