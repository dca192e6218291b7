/- Waits: two more laws: those that want to be alone; what time does. -/
import Derived.Test.YthebmlpohkfhbaaP14C
set_option linter.all false
namespace Go.Proofs.YthebmlpohkfhbaaE
open Go Go.Proofs
set_option maxRecDepth 100000
set_option linter.unusedVariables false
theorem sayJ_two {l : List J} {j : J} {now : Int} : sayJ l j now = 2 ↔ howf (jhow j) = 1 ∧ sayD (jdep j) (wheres l) (alone l j) = 2 ∧ ¬ jhow j = 2 ∧ jbegin j ≤ now ∧ room l j = true := by
  unfold sayJ
  generalize sayD (jdep j) (wheres l) (alone l j) = s
  by_cases c1 : howf (jhow j) = 1
  · rw [if_pos c1]
    by_cases c2 : s = 2 ∧ (jhow j = 2 ∨ jbegin j > now ∨ room l j = false)
    · rw [if_pos c2]
      constructor
      · intro h; omega
      · rintro ⟨_, _, h3, h4, h5⟩
        rcases c2.2 with h | h | h
        · exact absurd h h3
        · omega
        · rw [h5] at h; cases h
    · rw [if_neg c2]
      constructor
      · intro h
        refine ⟨c1, h, fun h3 => c2 ⟨h, .inl h3⟩, ?_, ?_⟩
        · exact Int.not_lt.1 fun h4 => c2 ⟨h, .inr (.inl h4)⟩
        · cases hr : room l j with
          | true => rfl
          | false => exact absurd ⟨h, .inr (.inr hr)⟩ c2
      · intro h; exact h.2.1
  · rw [if_neg c1]
    constructor
    · intro h; omega
    · intro h; exact absurd h.1 c1
theorem sayJ_three {l : List J} {j : J} {now : Int} : sayJ l j now = 3 ↔ howf (jhow j) = 1 ∧ sayD (jdep j) (wheres l) (alone l j) = 3 := by
  unfold sayJ
  generalize sayD (jdep j) (wheres l) (alone l j) = s
  by_cases c1 : howf (jhow j) = 1
  · rw [if_pos c1]
    split
    · rename_i h
      constructor
      · intro h; omega
      · intro h'; omega
    · exact ⟨fun h => ⟨c1, h⟩, fun h => h.2⟩
  · rw [if_neg c1]
    constructor
    · intro h; omega
    · intro h; exact absurd h.1 c1
theorem mem_ofL {l : List J} {now w x : Int} : x ∈ ofL l now w ↔ ok l = true ∧ ∃ j ∈ l, jid j = x ∧ sayJ l j now = w := by
  unfold ofL
  by_cases c : ok l = true
  · simp only [c, if_true, List.mem_map, List.mem_filter, decide_eq_true_eq, true_and]
    constructor
    · rintro ⟨j, ⟨h1, h2⟩, h3⟩; exact ⟨j, h1, h3, h2⟩
    · rintro ⟨j, h1, h3, h2⟩; exact ⟨j, ⟨h1, h2⟩, h3⟩
  · simp [c]

/-! ### like one another -/
def one : Dep := (false, [((5 : Int), [])])
theorem F30_one (K : Nat) (hK : 2000 ≤ K) (d : Dep) : ∃ r, F30 K d (false, [((5 : Int), [])]) = some r ∧ (r = true → d = one) := by
  obtain ⟨m, rfl⟩ : ∃ m, K = m + 2 := ⟨K - 2, by omega⟩
  obtain ⟨any, ns⟩ := d
  simp only [F30, G30, t30]
  cases any with
  | true => exact ⟨false, rfl, by simp⟩
  | false =>
    rcases ns with _ | ⟨x, _ | ⟨y, ys⟩⟩
    · exact ⟨false, by simp, by simp⟩
    · simp only [L30_0, b30_0]
      obtain ⟨k, js⟩ := x
      by_cases c : k = (5 : Int)
      · subst c
        rcases js with _ | ⟨z, zs⟩
        · exact ⟨true, by simp [F14, G14, t14, L14_0, b14_0, i64_in], fun _ => rfl⟩
        · refine ⟨false, ?_, by simp⟩
          have h14 : F14 (m + 2) (z :: zs) [] = some false := by
            have : ((((z :: zs).length : Nat) : Int) != ((([] : List Int).length : Nat) : Int)) = true := bne_iff_ne.2 (by simp only [List.length_cons, List.length_nil]; omega)
            simp only [F14, G14, t14, this, if_true]
          simp [h14]
      · exact ⟨false, by simp [c], by simp⟩
    · refine ⟨false, ?_, by simp⟩
      have : ((((x :: y :: ys).length : Nat) : Int) != ((([((5 : Int), ([] : List Int))] : List (Int × List Int)).length : Nat) : Int)) = true := bne_iff_ne.2 (by simp only [List.length_cons, List.length_nil]; omega)
      simp only [this, if_true]
      rfl
theorem F17_eq (K : Nat) (hK : 2000 ≤ K) (a b : J) : ∃ r, F17 K a b = some r ∧ (r = true → ((jname a).toList == (jname b).toList) = true ∧ ((jacc a).toList == (jacc b).toList) = true ∧ jdep a = one ∧ jdep b = one) := by
  obtain ⟨r1, h1, q1⟩ := F30_one K hK a.2.2.2.1.2.2.2.2.2.2.2.1
  obtain ⟨r2, h2, q2⟩ := F30_one K hK b.2.2.2.1.2.2.2.2.2.2.2.1
  simp only [F17, G17, t17, h1, h2, Option.bind_some]
  cases c2 : (ByteArray.toList a.2.2.2.1.1 == ByteArray.toList b.2.2.2.1.1) with
  | false => exact ⟨false, by simp, by simp⟩
  | true =>
    cases c3 : (ByteArray.toList a.2.2.2.1.2.1 == ByteArray.toList b.2.2.2.1.2.1) with
    | false => exact ⟨false, by simp, by simp⟩
    | true =>
      cases r1 with
      | false => exact ⟨false, by simp, by simp⟩
      | true => exact ⟨r2, by simp, fun h => ⟨rfl, rfl, q1 rfl, q2 h⟩⟩
theorem sayD_one (l : List Wh) : sayD one l false = 1 := by rfl

/-! ### WaitsSingle -/
theorem L4_2_eq (l : List J) (now : Int) (hl : l.length ≤ 60) (r0 : Int → List Int → Option Bool) (r1 : Int → Int → J → List Int → Option Bool) (i k : Int) (a b : J) (r : List Int) (hr : r.length ≤ 60) (hb : ¬ jid b ∈ r) : ∀ (n : Nat) (pre suf : List Int), r = pre ++ suf → suf.length < n →
    L4_2 (F10 2000) (F16 2000) (F11 2000) (F12 2000) (F17 2000) 2000 l now r0 r1 n i k (pre.length : Int) a b r = r1 i (IntKind.i64.wrap (k + 1)) a r
  | 0, pre, suf, e, h => by omega
  | n + 1, pre, [], e, h => by
    have := fin e
    simp only [L4_2, b4_2, this.1]
    simp
  | n + 1, pre, x :: xs, e, h => by
    obtain ⟨h1, h2, h3, h4, h5, h6⟩ := mid e (zEl (Ty.int IntKind.u32)) (by omega)
    have ih := L4_2_eq l now hl r0 r1 i k a b r hr hb n (pre ++ [x]) xs h5 (by simpa using h)
    have hx : (x == b.1) = false := beq_eq_false_iff_ne.2 (fun h => hb (by rw [jid, ← h, e]; simp))
    simp only [L4_2, b4_2, h1, h2, h3, h4, ih, if_true, hx, Bool.false_eq_true, if_false]
theorem lone {l : List J} {a b : J} (h : alone l a = true) (hb : b ∈ l) : bad b a = false := by
  simp only [alone, Bool.not_eq_true', List.any_eq_false] at h
  have := h b hb
  simpa using this
theorem single_pair {l : List J} {now : Int} {a b : J} (ho : ok l = true) (ha : a ∈ l) (hb : b ∈ l) (hs : sayJ l a now = 2) (hne : ¬ jid b = jid a)
    (h1 : ((jname a).toList == (jname b).toList) = true) (h2 : ((jacc a).toList == (jacc b).toList) = true) (hda : jdep a = one) (hdb : jdep b = one) : ¬ howf (jhow b) = 2 ∧ ¬ sayJ l b now = 2 := by
  have e1 : ((jname b).toList == (jname a).toList) = true := by rw [beq_iff_eq.1 h1]; simp
  have e2 : ((jacc b).toList == (jacc a).toList) = true := by rw [beq_iff_eq.1 h2]; simp
  obtain ⟨w1, w2, w3, w4, w5⟩ := sayJ_two.1 hs
  have hal : alone l a = true := by
    cases q : alone l a with
    | true => rfl
    | false => rw [q, hda, sayD_one] at w2; omega
  have hbad := lone hal hb
  simp only [bad, e1, e2, hne, not_false_iff, decide_true, Bool.true_and, Bool.or_eq_false_iff, Bool.and_eq_false_iff, decide_eq_false_iff_not] at hbad
  refine ⟨hbad.1, fun hs' => ?_⟩
  obtain ⟨v1, v2, v3, v4, v5⟩ := sayJ_two.1 hs'
  have hbl : alone l b = true := by
    cases q : alone l b with
    | true => rfl
    | false => rw [q, hdb, sayD_one] at v2; omega
  have hbad' := lone hbl ha
  have hne' : ¬ jid a = jid b := fun h => hne h.symm
  simp only [bad, h1, h2, hne', not_false_iff, decide_true, Bool.true_and, Bool.or_eq_false_iff, Bool.and_eq_false_iff, decide_eq_false_iff_not] at hbad'
  have x1 := hbad.2.resolve_left (fun h => h v1)
  have x2 := hbad'.2.resolve_left (fun h => h w1)
  omega
theorem L4_1_eq (l : List J) (now : Int) (hl : l.length ≤ 60) (ho : ok l = true) (r0 : Int → List Int → Option Bool) (i : Int) (a : J) (ha : a ∈ l) (hs : sayJ l a now = 2) : ∀ (n : Nat) (pre suf : List J), l = pre ++ suf → suf.length < n →
    L4_1 (F10 2000) (F16 2000) (F11 2000) (F12 2000) (F17 2000) 2000 l now r0 n i (pre.length : Int) a (ofL l now 2) = r0 (IntKind.i64.wrap (i + 1)) (ofL l now 2)
  | 0, pre, suf, e, h => by omega
  | n + 1, pre, [], e, h => by
    have := fin e
    simp only [L4_1, b4_1, this.1]
    simp
  | n + 1, pre, b :: xs, e, h => by
    obtain ⟨h1, h2, h3, h4, h5, h6⟩ := mid e (zEl T45) (by omega)
    have ih := L4_1_eq l now hl ho r0 i a ha hs n (pre ++ [b]) xs h5 (by simpa using h)
    have hb : b ∈ l := by rw [e]; simp
    obtain ⟨r, hr, q⟩ := F17_eq 2000 (by omega) a b
    have hq := ofL_len l now 2
    have ih' : L4_1 (F10 2000) (F16 2000) (F11 2000) (F12 2000) (F17 2000) 2000 l now r0 n i (IntKind.i64.wrap ((pre.length : Int) + 1)) a (ofL l now 2) = r0 (IntKind.i64.wrap (i + 1)) (ofL l now 2) := by rw [h4]; exact ih
    simp only [L4_1, b4_1, h1, h2, h3, ih', if_true, hr, Option.bind_some, beq_iff_eq]
    by_cases c : b.1 = a.1
    · rw [if_pos c]
    · rw [if_neg c]
      cases r with
      | false => simp
      | true =>
        obtain ⟨q1, q2, q3, q4⟩ := q rfl
        obtain ⟨p1, p2⟩ := single_pair ho ha hb hs c q1 q2 q3 q4
        have hk := (ok_mem ho hb).2.2
        have p1' := (not_congr (howf_two hk.1 hk.2.1)).1 p1
        have n3 : ¬ b.2.2.2.2.2.1 = (3 : Int) := fun h => p1' (.inl h)
        have n4 : ¬ b.2.2.2.2.2.1 = (4 : Int) := fun h => p1' (.inr h)
        have hnb : ¬ jid b ∈ ofL l now 2 := by
          rw [mem_ofL]
          rintro ⟨_, j, hj, hid, hsj⟩
          have : j = b := by rw [← (ok_mem ho hj).2.2.2.2, ← (ok_mem ho hb).2.2.2.2, hid]
          exact p2 (this ▸ hsj)
        have inner := L4_2_eq l now hl r0 (L4_1 (F10 2000) (F16 2000) (F11 2000) (F12 2000) (F17 2000) 2000 l now r0 n) i (pre.length : Int) a b (ofL l now 2) (by omega) hnb 2000 [] (ofL l now 2) rfl (by omega)
        have inner' : L4_2 (F10 2000) (F16 2000) (F11 2000) (F12 2000) (F17 2000) 2000 l now r0 (L4_1 (F10 2000) (F16 2000) (F11 2000) (F12 2000) (F17 2000) 2000 l now r0 n) 2000 i (pre.length : Int) 0 a b (ofL l now 2) = L4_1 (F10 2000) (F16 2000) (F11 2000) (F12 2000) (F17 2000) 2000 l now r0 n i (IntKind.i64.wrap ((pre.length : Int) + 1)) a (ofL l now 2) := inner
        rw [inner', ih']
        simp [n3, n4]
theorem ready_at {l : List J} {now w x : Int} (hl : l.length ≤ 60) (h : x ∈ ofL l now w) : 1 ≤ x ∧ x ≤ l.length ∧ IntKind.u32.wrap (x - 1) = x - 1 ∧ IntKind.i64.wrap x = x ∧ jat l x ∈ l ∧ jid (jat l x) = x ∧ sayJ l (jat l x) now = w ∧ ok l = true := by
  obtain ⟨ho, j, hj, hid, hs⟩ := mem_ofL.1 h
  have hk := ok_mem ho hj
  rw [hid] at hk
  refine ⟨hk.1, hk.2.1, u32_pred hk.1 (by omega), i64_in (by omega) (by omega), ?_, ?_, ?_, ho⟩
  · rw [hk.2.2.2.2]; exact hj
  · rw [hk.2.2.2.2]; exact hid
  · rw [hk.2.2.2.2]; exact hs
theorem L4_eq (l : List J) (now : Int) (hl : l.length ≤ 60) : ∀ (n : Nat) (pre suf : List Int), ofL l now 2 = pre ++ suf → suf.length < n →
    L4_0 (F10 2000) (F16 2000) (F11 2000) (F12 2000) (F17 2000) 2000 l now n (pre.length : Int) (ofL l now 2) = some true
  | 0, pre, suf, e, h => by omega
  | n + 1, pre, [], e, h => by
    have := fin e
    simp only [L4_0, b4_0, this.1, known_eq]
    simp
  | n + 1, pre, x :: xs, e, h => by
    have hq := ofL_len l now 2
    obtain ⟨h1, h2, h3, h4, h5, h6⟩ := mid e (zEl (Ty.int IntKind.u32)) (by omega)
    have ih := L4_eq l now hl n (pre ++ [x]) xs h5 (by simpa using h)
    obtain ⟨a1, a2, a3, a4, a5, a6, a7, a8⟩ := ready_at hl (show x ∈ ofL l now 2 by rw [e]; simp)
    obtain ⟨w1, w2, w3, w4, w5⟩ := sayJ_two.1 a7
    have hk := ok_mem a8 a5
    have hone : jhow (jat l x) = 1 := by have := (howf_one hk.2.2.1 hk.2.2.2.1).1 w1; omega
    have d0 : (x == (0 : Int)) = false := beq_eq_false_iff_ne.2 (by omega)
    have d1 : decide (x > (l.length : Int)) = false := by simp; omega
    have d2 : decide ((0 : Int) ≤ x - 1 ∧ x - 1 < (l.length : Int)) = true := by simp; omega
    have d3 : ((l.getD (x - 1).toNat (zEl T45)).2.2.2.2.2.1 != (1 : Int)) = false := by
      have : (l.getD (x - 1).toNat (zEl T45)).2.2.2.2.2.1 = (1 : Int) := hone
      rw [this]; rfl
    have d4 : decide ((l.getD (x - 1).toNat (zEl T45)).2.2.2.1.2.2.2.2.2.2.2.2.2.1 > now) = false := by
      have : (l.getD (x - 1).toNat (zEl T45)).2.2.2.1.2.2.2.2.2.2.2.2.2.1 ≤ now := w4
      exact decide_eq_false (Int.not_lt.2 this)
    have inner : L4_1 (F10 2000) (F16 2000) (F11 2000) (F12 2000) (F17 2000) 2000 l now (L4_0 (F10 2000) (F16 2000) (F11 2000) (F12 2000) (F17 2000) 2000 l now n) 2000 (pre.length : Int) 0 (l.getD (x - 1).toNat (zEl T45)) (ofL l now 2) = L4_0 (F10 2000) (F16 2000) (F11 2000) (F12 2000) (F17 2000) 2000 l now n (IntKind.i64.wrap ((pre.length : Int) + 1)) (ofL l now 2) := L4_1_eq l now hl a8 (L4_0 (F10 2000) (F16 2000) (F11 2000) (F12 2000) (F17 2000) 2000 l now n) (pre.length : Int) (jat l x) a5 a7 2000 [] l rfl (by omega)
    simp only [L4_0, b4_0, h1, h2, h3, if_true, a3, a4, d0, d1, d2, d3, d4, inner, h4, ih, Bool.false_eq_true, if_false]
theorem waitsSingle (l : List J) (now : Int) (hl : Gd (.sl T45) l) (h' : (Lit.int .i64 now).wf = true) : F4 2000 l now = some true := by
  obtain ⟨b, hb, hb'⟩ := F10_eq 2000 (by omega) l
  have hi := idIn_of hl
  simp only [F4, G4, t4, hb, Option.bind_some]
  cases b with
  | true => simp [known_eq]
  | false =>
    have hl6 := hb' rfl
    have hq := ofL_len l now 2
    have e : L4_0 (F10 2000) (F16 2000) (F11 2000) (F12 2000) (F17 2000) 2000 l now 2000 0 (ofL l now 2) = some true := L4_eq l now hl6 2000 [] (ofL l now 2) rfl (by omega)
    simp only [F16_eq 2000 l (by omega) hi (by omega), F12_eq 2000 (by omega) l (by omega) hi, Option.bind_some, e]
    by_cases c : ok l = true
    · simp [c]
    · simp [c, known_eq]

/-! ### WaitsTime -/
theorem L8_4_eq (l : List J) (now la : Int) (hl : l.length ≤ 60) (hi : IdIn l) (hw : IntKind.i64.wrap (now + IntKind.i64.wrap la) = now + la) (a b : List Int) : ∀ (n : Nat) (pre suf : List J), l = pre ++ suf → suf.length < n →
    L8_4 (F10 2000) (F16 2000) (F11 2000) (F12 2000) (F20 2000) 2000 l now la n (pre.length : Int) a b = some true
  | 0, pre, suf, e, h => by omega
  | n + 1, pre, [], e, h => by
    have := fin e
    simp only [L8_4, b8_4, this.1, known_eq]
    simp
  | n + 1, pre, x :: xs, e, h => by
    obtain ⟨h1, h2, h3, h4, h5, h6⟩ := mid e (zEl T45) (by omega)
    have ih := L8_4_eq l now la hl hi hw a b n (pre ++ [x]) xs h5 (by simpa using h)
    have hlen : (((pre ++ [x]).length : Nat) : Int) = (pre.length : Int) + 1 := by simp
    have hsay : (sayL l ((pre.length : Int) + 1) now == 3) = (sayL l ((pre.length : Int) + 1) (now + la) == 3) := by
      unfold sayL
      split
      · rw [Bool.eq_iff_iff, beq_iff_eq, beq_iff_eq, sayJ_three, sayJ_three]
      · rfl
    have e1 : IntKind.u32.wrap ((pre.length : Int) + 1) = (pre.length : Int) + 1 := u32_in (by omega) (by omega)
    have e2 := fun now => F20_eq 2000 (by omega) l (by omega) hi ((pre.length : Int) + 1) now (by omega) (by omega)
    rw [hlen] at h4 ih
    simp only [L8_4, b8_4, h1, h4, if_true, e1, e2, hw, Option.bind_some, hsay]
    simp [ih]
theorem anyLoop (P : Int → Bool) : True := trivial
theorem L8_1_eq (l : List J) (now la : Int) (r0 : Int → List Int → List Int → Option Bool) (i : Int) (a b : List Int) (ha : a.length ≤ 60) (hb : b.length ≤ 60) (y : Int) (hy : a.getD i.toNat (zEl (Ty.int IntKind.u32)) = y) (hi' : decide ((0 : Int) ≤ i ∧ i < (a.length : Int)) = true) : ∀ (n : Nat) (has : Bool) (pre suf : List Int), b = pre ++ suf → suf.length < n →
    L8_1 (F10 2000) (F16 2000) (F11 2000) (F12 2000) (F20 2000) 2000 l now la r0 n i has (pre.length : Int) a b = (if has = true ∨ y ∈ suf then r0 (IntKind.i64.wrap (i + 1)) a b else some false)
  | 0, has, pre, suf, e, h => by omega
  | n + 1, has, pre, [], e, h => by
    have := fin e
    simp only [L8_1, b8_1, this.1]
    cases has <;> simp
  | n + 1, has, pre, x :: xs, e, h => by
    obtain ⟨h1, h2, h3, h4, h5, h6⟩ := mid e (zEl (Ty.int IntKind.u32)) (by omega)
    have ih := fun has => L8_1_eq l now la r0 i a b ha hb y hy hi' n has (pre ++ [x]) xs h5 (by simpa using h)
    simp only [L8_1, b8_1, h1, h2, h3, h4, ih, hy, hi', if_true]
    cases has with
    | true => simp
    | false =>
      by_cases c : y = x
      · simp [c]
      · have : (y == x) = false := beq_eq_false_iff_ne.2 c
        simp [c, this]
theorem L8_3_eq (l : List J) (now la : Int) (r2 : Int → List Int → List Int → Option Bool) (i : Int) (a b : List Int) (ha : a.length ≤ 60) (hb : b.length ≤ 60) (y : Int) (hy : b.getD i.toNat (zEl (Ty.int IntKind.u32)) = y) (hi' : decide ((0 : Int) ≤ i ∧ i < (b.length : Int)) = true)
    (hw : IntKind.u32.wrap (y - 1) = y - 1) (hd : decide ((0 : Int) ≤ y - 1 ∧ y - 1 < (l.length : Int)) = true) (hs : F20 2000 l y (jbegin (jat l y)) = some 2) : ∀ (n : Nat) (has : Bool) (pre suf : List Int), a = pre ++ suf → suf.length < n → ((has = true ∨ y ∈ suf) ↔ ¬ jbegin (jat l y) > now) →
    L8_3 (F10 2000) (F16 2000) (F11 2000) (F12 2000) (F20 2000) 2000 l now la r2 n i has (pre.length : Int) a b = r2 (IntKind.i64.wrap (i + 1)) a b
  | 0, has, pre, suf, e, h, hh => by omega
  | n + 1, has, pre, [], e, h, hh => by
    have := fin e
    have hs' : F20 2000 l y (l.getD (y - 1).toNat (zEl T45)).2.2.2.1.2.2.2.2.2.2.2.2.2.1 = some 2 := hs
    have hh' : (has = true ↔ ¬ jbegin (jat l y) > now) := by simpa only [List.not_mem_nil, or_false] using hh
    have hx0 : (has == decide (jbegin (jat l y) > now)) = false := by
      cases has with
      | true => rw [decide_eq_false (hh'.1 rfl)]; rfl
      | false =>
        have : jbegin (jat l y) > now := Decidable.not_not.1 fun h => Bool.noConfusion (hh'.2 h)
        rw [decide_eq_true this]; rfl
    have hx : (has == decide ((l.getD (y - 1).toNat (zEl T45)).2.2.2.1.2.2.2.2.2.2.2.2.2.1 > now)) = false := hx0
    simp only [L8_3, b8_3, this.1, hy, hi', hw, hd, hs', hx, if_true, Option.bind_some]
    simp
  | n + 1, has, pre, x :: xs, e, h, hh => by
    obtain ⟨h1, h2, h3, h4, h5, h6⟩ := mid e (zEl (Ty.int IntKind.u32)) (by omega)
    have ih := fun has => L8_3_eq l now la r2 i a b ha hb y hy hi' hw hd hs n has (pre ++ [x]) xs h5 (by simpa using h)
    simp only [L8_3, b8_3, h1, h2, h3, h4, hy, hi', if_true]
    cases has with
    | true => simp only [if_true]; exact ih true (by simpa using hh)
    | false =>
      by_cases c : y = x
      · have : (y == x) = true := by rw [c]; simp
        simp only [this, Bool.false_eq_true, if_false]
        exact ih true (by simpa [c] using hh)
      · have : (y == x) = false := beq_eq_false_iff_ne.2 c
        simp only [this, Bool.false_eq_true, if_false]
        exact ih false (by simpa [c] using hh)
theorem later_two {l : List J} {j : J} {now la : Int} (h0 : 0 ≤ la) : sayJ l j now = 2 ↔ sayJ l j (now + la) = 2 ∧ ¬ jbegin j > now := by
  rw [sayJ_two, sayJ_two]
  constructor
  · rintro ⟨h1, h2, h3, h4, h5⟩; exact ⟨⟨h1, h2, h3, by omega, h5⟩, by omega⟩
  · rintro ⟨⟨h1, h2, h3, h4, h5⟩, h6⟩; exact ⟨h1, h2, h3, by omega, h5⟩
theorem L8_2_eq (l : List J) (now la : Int) (hl : l.length ≤ 60) (hi : IdIn l) (h0 : 0 ≤ la) (hw : IntKind.i64.wrap (now + IntKind.i64.wrap la) = now + la) : ∀ (n : Nat) (pre suf : List Int), ofL l (now + la) 2 = pre ++ suf → suf.length < n →
    L8_2 (F10 2000) (F16 2000) (F11 2000) (F12 2000) (F20 2000) 2000 l now la n (pre.length : Int) (ofL l now 2) (ofL l (now + la) 2) = some true
  | 0, pre, suf, e, h => by omega
  | n + 1, pre, [], e, h => by
    have := fin e
    have e4 : L8_4 (F10 2000) (F16 2000) (F11 2000) (F12 2000) (F20 2000) 2000 l now la 2000 0 (ofL l now 2) (ofL l (now + la) 2) = some true := L8_4_eq l now la hl hi hw _ _ 2000 [] l rfl (by omega)
    simp only [L8_2, b8_2, this.1, e4]
    simp
  | n + 1, pre, x :: xs, e, h => by
    have hq := ofL_len l now 2
    have hq' := ofL_len l (now + la) 2
    obtain ⟨h1, h2, h3, h4, h5, h6⟩ := mid e (zEl (Ty.int IntKind.u32)) (by omega)
    have ih := L8_2_eq l now la hl hi h0 hw n (pre ++ [x]) xs h5 (by simpa using h)
    obtain ⟨a1, a2, a3, a4, a5, a6, a7, a8⟩ := ready_at hl (show x ∈ ofL l (now + la) 2 by rw [e]; simp)
    have d0 : (x == (0 : Int)) = false := beq_eq_false_iff_ne.2 (by omega)
    have d1 : decide (x > (l.length : Int)) = false := by simp; omega
    have d2 : decide ((0 : Int) ≤ x - 1 ∧ x - 1 < (l.length : Int)) = true := by simp; omega
    have ht : there l x = true := by simp only [there, a8, Bool.true_and, Bool.and_eq_true, decide_eq_true_eq]; omega
    have hs : F20 2000 l x (jbegin (jat l x)) = some 2 := by
      rw [F20_eq 2000 (by omega) l (by omega) hi x _ (by omega) (by omega), sayL, if_pos ht]
      obtain ⟨w1, w2, w3, w4, w5⟩ := sayJ_two.1 a7
      rw [sayJ_two.2 ⟨w1, w2, w3, Int.le_refl _, w5⟩]
    have hm : (false = true ∨ x ∈ ofL l now 2) ↔ ¬ jbegin (jat l x) > now := by
      rw [mem_ofL]
      constructor
      · rintro (h | ⟨_, j, hj, hid, hsj⟩)
        · cases h
        · have : j = jat l x := by rw [← (ok_mem a8 hj).2.2.2.2, hid]
          rw [← this]
          exact ((later_two h0).1 hsj).2
      · intro h
        exact .inr ⟨a8, jat l x, a5, a6, (later_two h0).2 ⟨a7, h⟩⟩
    have inner : L8_3 (F10 2000) (F16 2000) (F11 2000) (F12 2000) (F20 2000) 2000 l now la (L8_2 (F10 2000) (F16 2000) (F11 2000) (F12 2000) (F20 2000) 2000 l now la n) 2000 (pre.length : Int) false 0 (ofL l now 2) (ofL l (now + la) 2) = L8_2 (F10 2000) (F16 2000) (F11 2000) (F12 2000) (F20 2000) 2000 l now la n (IntKind.i64.wrap ((pre.length : Int) + 1)) (ofL l now 2) (ofL l (now + la) 2) :=
      L8_3_eq l now la _ (pre.length : Int) (ofL l now 2) (ofL l (now + la) 2) (by omega) (by omega) x h3 h2 a3 d2 hs 2000 false [] (ofL l now 2) rfl (by omega) hm
    simp only [L8_2, b8_2, h1, h2, h3, if_true, a3, a4, d0, d1, inner, h4, ih, Bool.false_eq_true, if_false]
theorem L8_eq (l : List J) (now la : Int) (hl : l.length ≤ 60) (hi : IdIn l) (h0 : 0 ≤ la) (hw : IntKind.i64.wrap (now + IntKind.i64.wrap la) = now + la) : ∀ (n : Nat) (pre suf : List Int), ofL l now 2 = pre ++ suf → suf.length < n →
    L8_0 (F10 2000) (F16 2000) (F11 2000) (F12 2000) (F20 2000) 2000 l now la n (pre.length : Int) (ofL l now 2) (ofL l (now + la) 2) = some true
  | 0, pre, suf, e, h => by omega
  | n + 1, pre, [], e, h => by
    have := fin e
    have hq' := ofL_len l (now + la) 2
    have e4 : L8_2 (F10 2000) (F16 2000) (F11 2000) (F12 2000) (F20 2000) 2000 l now la 2000 0 (ofL l now 2) (ofL l (now + la) 2) = some true := L8_2_eq l now la hl hi h0 hw 2000 [] (ofL l (now + la) 2) rfl (by omega)
    simp only [L8_0, b8_0, this.1, e4]
    simp
  | n + 1, pre, x :: xs, e, h => by
    have hq := ofL_len l now 2
    have hq' := ofL_len l (now + la) 2
    obtain ⟨h1, h2, h3, h4, h5, h6⟩ := mid e (zEl (Ty.int IntKind.u32)) (by omega)
    have ih := L8_eq l now la hl hi h0 hw n (pre ++ [x]) xs h5 (by simpa using h)
    have hx : x ∈ ofL l now 2 := by rw [e]; simp
    have hx' : x ∈ ofL l (now + la) 2 := by
      obtain ⟨ho, j, hj, hid, hs⟩ := mem_ofL.1 hx
      exact mem_ofL.2 ⟨ho, j, hj, hid, ((later_two h0).1 hs).1⟩
    have inner : L8_1 (F10 2000) (F16 2000) (F11 2000) (F12 2000) (F20 2000) 2000 l now la (L8_0 (F10 2000) (F16 2000) (F11 2000) (F12 2000) (F20 2000) 2000 l now la n) 2000 (pre.length : Int) false 0 (ofL l now 2) (ofL l (now + la) 2) = L8_0 (F10 2000) (F16 2000) (F11 2000) (F12 2000) (F20 2000) 2000 l now la n (IntKind.i64.wrap ((pre.length : Int) + 1)) (ofL l now 2) (ofL l (now + la) 2) := by
      have := L8_1_eq l now la (L8_0 (F10 2000) (F16 2000) (F11 2000) (F12 2000) (F20 2000) 2000 l now la n) (pre.length : Int) (ofL l now 2) (ofL l (now + la) 2) (by omega) (by omega) x h3 h2 2000 false [] (ofL l (now + la) 2) rfl (by omega)
      rw [if_pos (.inr hx')] at this
      exact this
    simp only [L8_0, b8_0, h1, if_true, inner, h4, ih]
theorem waitsTime (l : List J) (now la : Int) (hl : Gd (.sl T45) l) (h' : (Lit.int .i64 now).wf = true) (h'' : (Lit.int .u16 la).wf = true) : F8 2000 l now la = some true := by
  obtain ⟨b, hb, hb'⟩ := F10_eq 2000 (by omega) l
  have hi := idIn_of hl
  have hn := wf_i64 h'
  have hla := wf_u16 h''
  simp only [F8, G8, t8, hb, Option.bind_some]
  cases b with
  | true => simp [known_eq]
  | false =>
    have hl6 := hb' rfl
    have hq := ofL_len l now 2
    simp only [F16_eq 2000 l (by omega) hi (by omega), Option.bind_some, known_eq]
    by_cases c : ok l = true
    · by_cases c2 : now > 1125899906842624
      · simp [c, c2]
      · have hw : IntKind.i64.wrap (now + IntKind.i64.wrap la) = now + la := by rw [i64_in (x := la) (by omega) (by omega), i64_in (by omega) (by omega)]
        have e : L8_0 (F10 2000) (F16 2000) (F11 2000) (F12 2000) (F20 2000) 2000 l now la 2000 0 (ofL l now 2) (ofL l (now + la) 2) = some true := L8_eq l now la hl6 hi hla.1 hw 2000 [] (ofL l now 2) rfl (by omega)
        rw [known_eq] at e
        simp only [hw, F12_eq 2000 (by omega) l (by omega) hi, Option.bind_some, e]
        simp [c, c2]
    · simp [c]
end Go.Proofs.YthebmlpohkfhbaaE
