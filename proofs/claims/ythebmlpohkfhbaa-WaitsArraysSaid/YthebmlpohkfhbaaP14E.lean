/- Waits: two more laws: those that never start; when all others have ended. -/
import Derived.Test.YthebmlpohkfhbaaP14D
set_option linter.all false
namespace Go.Proofs.YthebmlpohkfhbaaE
open Go Go.Proofs
set_option maxRecDepth 100000
set_option linter.unusedVariables false
def setHow (j : J) (h : Int) : J := (j.1, j.2.1, j.2.2.1, j.2.2.2.1, j.2.2.2.2.1, h, j.2.2.2.2.2.2)
theorem set_mid {α : Type} {l pre xs : List α} {x : α} (e : l = pre ++ x :: xs) (v : α) : l.set ((pre.length : Int)).toNat v = (pre ++ [v]) ++ xs := by
  subst e
  simp
theorem okl_set : ∀ (l : List J) (k i : Nat) (h : Int), okl l k = true → 1 ≤ h → h ≤ 9 → okl (l.set i (setHow (l.getD i (zEl T45)) h)) k = true
  | [], k, i, h, ho, _, _ => rfl
  | x :: l, k, 0, h, ho, h1, h9 => by
    simp only [okl, okj, Bool.and_eq_true, decide_eq_true_eq] at ho
    simp only [List.set_cons_zero, List.getD_cons_zero, okl, okj, Bool.and_eq_true, decide_eq_true_eq]
    exact ⟨⟨⟨ho.1.1.1, h1⟩, h9⟩, ho.2⟩
  | x :: l, k, i + 1, h, ho, h1, h9 => by
    simp only [okl, Bool.and_eq_true] at ho
    simp only [List.set_cons_succ, List.getD_cons_succ, okl, Bool.and_eq_true]
    exact ⟨ho.1, okl_set l (k + 1) i h ho.2 h1 h9⟩
theorem ok_idIn {l : List J} (h : ok l = true) (hl : l.length ≤ 1000) : IdIn l := fun j hj => by
  have := ok_mem h hj
  omega
def live : List J → Nat
  | [] => 0
  | j :: l => (if jhow j ≤ 2 then 1 else 0) + live l
theorem live_set : ∀ (l : List J) (i : Nat), i < l.length → live (l.set i (setHow (l.getD i (zEl T45)) 9)) + (if jhow (l.getD i (zEl T45)) ≤ 2 then 1 else 0) = live l
  | [], i, h => by simp at h
  | x :: l, 0, h => by
    simp only [List.set_cons_zero, List.getD_cons_zero, live]
    have : ¬ jhow (setHow x 9) ≤ 2 := by show ¬ (9 : Int) ≤ 2; omega
    rw [if_neg this]
    omega
  | x :: l, i + 1, h => by
    have := live_set l i (by simpa using h)
    simp only [List.set_cons_succ, List.getD_cons_succ, live]
    omega
theorem live_le : ∀ l : List J, live l ≤ l.length
  | [] => by simp [live]
  | x :: l => by
    have := live_le l
    simp only [live, List.length_cons]
    split <;> omega
def mark : List J → List Int → List J
  | x, [] => x
  | x, y :: ys => mark (x.set (y - 1).toNat (setHow (x.getD (y - 1).toNat (zEl T45)) 9)) ys
theorem mark_spec : ∀ (ys : List Int) (x : List J), (∀ y ∈ ys, 1 ≤ y ∧ y ≤ x.length) → (mark x ys).length = x.length ∧ (ok x = true → ok (mark x ys) = true) ∧ live (mark x ys) ≤ live x
  | [], x, h => ⟨rfl, fun h => h, Nat.le_refl _⟩
  | y :: ys, x, h => by
    have hy := h y (by simp)
    have := mark_spec ys (x.set (y - 1).toNat (setHow (x.getD (y - 1).toNat (zEl T45)) 9)) (fun z hz => by rw [List.length_set]; exact h z (by simp [hz]))
    have hl := live_set x (y - 1).toNat (by omega)
    refine ⟨by rw [mark, this.1, List.length_set], fun ho => this.2.1 (okl_set x 0 _ 9 ho (by omega) (by omega)), ?_⟩
    rw [mark]
    have := this.2.2
    omega
theorem mark_live {y : Int} {ys : List Int} {x : List J} (h : ∀ z ∈ y :: ys, 1 ≤ z ∧ z ≤ x.length) (hy : jhow (jat x y) ≤ 2) : live (mark x (y :: ys)) < live x := by
  have h1 := h y (by simp)
  have := (mark_spec ys (x.set (y - 1).toNat (setHow (x.getD (y - 1).toNat (zEl T45)) 9)) (fun z hz => by rw [List.length_set]; exact h z (by simp [hz]))).2.2
  have hl := live_set x (y - 1).toNat (by omega)
  rw [if_pos (show jhow (x.getD (y - 1).toNat (zEl T45)) ≤ 2 from hy)] at hl
  rw [mark]
  omega

/-! ### WaitsNever -/
theorem L6_3_eq (l : List J) (now : Int) (r0 : Int → List J → Option Bool) (i : Int) (a ns : List Int) (hn : ns.length ≤ 60) : ∀ (n : Nat) (pre suf : List Int) (x : List J), ns = pre ++ suf → suf.length < n → x.length ≤ 60 → (∀ y ∈ suf, 1 ≤ y ∧ y ≤ x.length) →
    L6_3 (F10 2000) (F16 2000) (F11 2000) (F12 2000) (F13 2000) 2000 l now r0 n i (pre.length : Int) x a ns = r0 (IntKind.i64.wrap (i + 1)) (mark x suf)
  | 0, pre, suf, x, e, h, hx, hy => by omega
  | n + 1, pre, [], x, e, h, hx, hy => by
    have := fin e
    simp only [L6_3, b6_3, this.1, mark]
    simp
  | n + 1, pre, y :: ys, x, e, h, hx, hy => by
    obtain ⟨h1, h2, h3, h4, h5, h6⟩ := mid e (zEl (Ty.int IntKind.u32)) (by omega)
    have hy' := hy y (by simp)
    have ih := L6_3_eq l now r0 i a ns hn n (pre ++ [y]) ys (x.set (y - 1).toNat (setHow (x.getD (y - 1).toNat (zEl T45)) 9)) h5 (by simpa using h) (by simpa using hx) (fun z hz => by rw [List.length_set]; exact hy z (by simp [hz]))
    have d2 : decide ((0 : Int) ≤ y - 1 ∧ y - 1 < (x.length : Int)) = true := by simp; omega
    simp only [L6_3, b6_3, h1, h2, h3, h4, u32_pred hy'.1 (by omega), d2, if_true, mark]
    exact ih
theorem L6_2_eq (l : List J) (now : Int) (r0 : Int → List J → Option Bool) (r1 : Int → Int → List J → List Int → List Int → Option Bool) (i k : Int) (x : List J) (rs ns : List Int) (hr : rs.length ≤ 60) (y : Int) (hy : ns.getD k.toNat (zEl (Ty.int IntKind.u32)) = y) (hk : decide ((0 : Int) ≤ k ∧ k < (ns.length : Int)) = true) (hnot : ¬ y ∈ rs) : ∀ (n : Nat) (pre suf : List Int), rs = pre ++ suf → suf.length < n →
    L6_2 (F10 2000) (F16 2000) (F11 2000) (F12 2000) (F13 2000) 2000 l now r0 r1 n i k (pre.length : Int) x rs ns = r1 i (IntKind.i64.wrap (k + 1)) x rs ns
  | 0, pre, suf, e, h => by omega
  | n + 1, pre, [], e, h => by
    have := fin e
    simp only [L6_2, b6_2, this.1]
    simp
  | n + 1, pre, z :: zs, e, h => by
    obtain ⟨h1, h2, h3, h4, h5, h6⟩ := mid e (zEl (Ty.int IntKind.u32)) (by omega)
    have ih := L6_2_eq l now r0 r1 i k x rs ns hr y hy hk hnot n (pre ++ [z]) zs h5 (by simpa using h)
    have hz : (z == y) = false := beq_eq_false_iff_ne.2 (fun h => hnot (by rw [← h, e]; simp))
    simp only [L6_2, b6_2, h1, h2, h3, h4, hy, hk, hz, ih, if_true, Bool.false_eq_true, if_false]
theorem L6_1_eq (l : List J) (now : Int) (r0 : Int → List J → Option Bool) (i : Int) (x : List J) (hx : x.length ≤ 60) (ho : ok x = true) : ∀ (n : Nat) (pre suf : List Int), ofL x 0 3 = pre ++ suf → suf.length < n →
    L6_1 (F10 2000) (F16 2000) (F11 2000) (F12 2000) (F13 2000) 2000 l now r0 n i (pre.length : Int) x (ofL x now 2) (ofL x 0 3) = (if ofL x 0 3 = [] then some true else r0 (IntKind.i64.wrap (i + 1)) (mark x (ofL x 0 3)))
  | 0, pre, suf, e, h => by omega
  | n + 1, pre, [], e, h => by
    have := fin e
    have hq := ofL_len x 0 3
    have e3 : L6_3 (F10 2000) (F16 2000) (F11 2000) (F12 2000) (F13 2000) 2000 l now r0 2000 i 0 x (ofL x now 2) (ofL x 0 3) = r0 (IntKind.i64.wrap (i + 1)) (mark x (ofL x 0 3)) :=
      L6_3_eq l now r0 i (ofL x now 2) (ofL x 0 3) (by omega) 2000 [] (ofL x 0 3) x rfl (by omega) hx (fun y hy => by have := ready_at hx hy; exact ⟨this.1, this.2.1⟩)
    simp only [L6_1, b6_1, this.1, e3]
    cases hc : ofL x 0 3 with
    | nil => simp [known_eq]
    | cons y ys =>
      have : ((((y :: ys).length : Nat) : Int) == 0) = false := beq_eq_false_iff_ne.2 (by simp only [List.length_cons]; omega)
      rw [this]
      simp
  | n + 1, pre, y :: ys, e, h => by
    have hq := ofL_len x 0 3
    have hq' := ofL_len x now 2
    obtain ⟨h1, h2, h3, h4, h5, h6⟩ := mid e (zEl (Ty.int IntKind.u32)) (by omega)
    have ih := L6_1_eq l now r0 i x hx ho n (pre ++ [y]) ys h5 (by simpa using h)
    obtain ⟨a1, a2, a3, a4, a5, a6, a7, a8⟩ := ready_at hx (show y ∈ ofL x 0 3 by rw [e]; simp)
    obtain ⟨w1, w2⟩ := sayJ_three.1 a7
    have hk := ok_mem a8 a5
    have hle : jhow (jat x y) ≤ 2 := by have := (howf_one hk.2.2.1 hk.2.2.2.1).1 w1; omega
    have d0 : (y == (0 : Int)) = false := beq_eq_false_iff_ne.2 (by omega)
    have d1 : decide (y > (x.length : Int)) = false := by simp; omega
    have d2 : decide ((0 : Int) ≤ y - 1 ∧ y - 1 < (x.length : Int)) = true := by simp; omega
    have d3 : decide ((x.getD (y - 1).toNat (zEl T45)).2.2.2.2.2.1 > (2 : Int)) = false := decide_eq_false (Int.not_lt.2 hle)
    have hnot : ¬ y ∈ ofL x now 2 := by
      intro hm
      obtain ⟨_, j, hj, hid, hs⟩ := mem_ofL.1 hm
      have hj' : j = jat x y := by rw [← (ok_mem a8 hj).2.2.2.2, hid]
      rw [hj'] at hs
      have := (sayJ_two.1 hs).2.1
      omega
    have inner : L6_2 (F10 2000) (F16 2000) (F11 2000) (F12 2000) (F13 2000) 2000 l now r0 (L6_1 (F10 2000) (F16 2000) (F11 2000) (F12 2000) (F13 2000) 2000 l now r0 n) 2000 i (pre.length : Int) 0 x (ofL x now 2) (ofL x 0 3) = L6_1 (F10 2000) (F16 2000) (F11 2000) (F12 2000) (F13 2000) 2000 l now r0 n i (IntKind.i64.wrap ((pre.length : Int) + 1)) x (ofL x now 2) (ofL x 0 3) :=
      L6_2_eq l now r0 _ i (pre.length : Int) x (ofL x now 2) (ofL x 0 3) (by omega) y h3 h2 hnot 2000 [] (ofL x now 2) rfl (by omega)
    simp only [L6_1, b6_1, h1, h2, h3, if_true, a3, a4, d0, d1, d2, d3, inner, h4, Bool.false_eq_true, if_false]
    exact ih
theorem L6_eq (l : List J) (now : Int) (hl : l.length ≤ 60) : ∀ (n : Nat) (i : Nat) (x : List J), x.length = l.length → ok x = true → i + live x ≤ l.length → l.length + 1 < n + i →
    L6_0 (F10 2000) (F16 2000) (F11 2000) (F12 2000) (F13 2000) 2000 l now n (i : Int) x = some true
  | 0, i, x, hx, ho, hi, hn => by omega
  | n + 1, i, x, hx, ho, hi, hn => by
    have hq := ofL_len x 0 3
    have hid := ok_idIn ho (by omega)
    have d : decide ((i : Int) ≤ (l.length : Int)) = true := by simp; omega
    have inner : L6_1 (F10 2000) (F16 2000) (F11 2000) (F12 2000) (F13 2000) 2000 l now (L6_0 (F10 2000) (F16 2000) (F11 2000) (F12 2000) (F13 2000) 2000 l now n) 2000 (i : Int) 0 x (ofL x now 2) (ofL x 0 3) = (if ofL x 0 3 = [] then some true else L6_0 (F10 2000) (F16 2000) (F11 2000) (F12 2000) (F13 2000) 2000 l now n (IntKind.i64.wrap ((i : Int) + 1)) (mark x (ofL x 0 3))) :=
      L6_1_eq l now _ (i : Int) x (by omega) ho 2000 [] (ofL x 0 3) rfl (by omega)
    simp only [L6_0, b6_0, d, if_true, F12_eq 2000 (by omega) x (by omega) hid, F13_eq 2000 (by omega) x (by omega) hid, Option.bind_some]
    rw [inner]
    have hall : ∀ y ∈ ofL x 0 3, 1 ≤ y ∧ y ≤ x.length := fun y hy => by have := ready_at (by omega) hy; exact ⟨this.1, this.2.1⟩
    have hlow : ∀ y ∈ ofL x 0 3, jhow (jat x y) ≤ 2 := fun y hy => by
      obtain ⟨a1, a2, a3, a4, a5, a6, a7, a8⟩ := ready_at (by omega) hy
      have hk := ok_mem a8 a5
      have := (howf_one hk.2.2.1 hk.2.2.2.1).1 (sayJ_three.1 a7).1
      omega
    cases hc : ofL x 0 3 with
    | nil => simp
    | cons y ys =>
      rw [hc] at hall hlow
      have m1 := mark_spec (y :: ys) x hall
      have m2 := mark_live hall (hlow y (by simp))
      have e1 : IntKind.i64.wrap ((i : Int) + 1) = ((i + 1 : Nat) : Int) := by rw [i64_in (by omega) (by omega)]; omega
      rw [if_neg (by simp), e1]
      exact L6_eq l now hl n (i + 1) (mark x (y :: ys)) (by rw [m1.1, hx]) (m1.2.1 ho) (by omega) (by omega)
theorem by45 : Try.prog.types[(45 : Nat)].bytes ≤ 1000 := by decide +kernel
theorem fits45 {l : List J} (hl : l.length ≤ 60) : decide (l.length * Try.prog.types[(45 : Nat)].bytes ≤ (140737488355328 : Nat)) = true := by
  have := Nat.mul_le_mul hl by45
  exact decide_eq_true (by omega)
theorem waitsNever (l : List J) (now : Int) (hl : Gd (.sl T45) l) (h' : (Lit.int .i64 now).wf = true) : F6 2000 l now = some true := by
  obtain ⟨b, hb, hb'⟩ := F10_eq 2000 (by omega) l
  have hi := idIn_of hl
  simp only [F6, G6, t6, hb, Option.bind_some]
  cases b with
  | true => simp [known_eq]
  | false =>
    have hl6 := hb' rfl
    simp only [F16_eq 2000 l (by omega) hi (by omega), Option.bind_some, fits45 hl6, if_true]
    by_cases c : ok l = true
    · have e : L6_0 (F10 2000) (F16 2000) (F11 2000) (F12 2000) (F13 2000) 2000 l now 2000 0 l = some true := L6_eq l now hl6 2000 0 l rfl c (by have := live_le l; omega) (by omega)
      rw [e]
      simp [c, known_eq]
    · simp [c, known_eq]

/-! ### WaitsEnds -/
def Ended (l : List J) : Prop := ∀ j ∈ l, 5 ≤ jhow j ∧ jhow j ≤ 9
theorem hows_wheres (a : Int) : ∀ l : List J, hows (wheres l) a = 0 ∨ ∃ j ∈ l, jid j = a ∧ hows (wheres l) a = howf (jhow j)
  | [] => .inl rfl
  | x :: l => by
    have e : hows (wheres (x :: l)) a = if jid x = a then (if (1 : Int) ≤ howf (jhow x) ∧ howf (jhow x) ≤ (4 : Int) then howf (jhow x) else 0) else hows (wheres l) a := rfl
    rw [e]
    by_cases c : jid x = a
    · rw [if_pos c]
      by_cases c2 : (1 : Int) ≤ howf (jhow x) ∧ howf (jhow x) ≤ (4 : Int)
      · rw [if_pos c2]
        exact .inr ⟨x, by simp, c, rfl⟩
      · rw [if_neg c2]
        exact .inl rfl
    · rw [if_neg c]
      rcases hows_wheres a l with h | ⟨j, h1, h2, h3⟩
      · exact .inl h
      · exact .inr ⟨j, by simp [h1], h2, h3⟩
theorem howf_ended {h : Int} (h5 : 5 ≤ h) (h9 : h ≤ 9) : howf h = 3 ∨ howf h = 4 := by
  unfold howf
  (repeat' split) <;> omega
theorem cnt_zero (a : Int) : ∀ l : List J, (∀ j ∈ l, ¬ howf (jhow j) = 2) → cnt l a = 0
  | [], h => rfl
  | x :: l, h => by
    rw [cnt, if_neg (fun hc => h x (by simp) hc.2), cnt_zero a l (fun j hj => h j (by simp [hj]))]
    rfl
/-- all others have ended -/
theorem ends_say {y : List J} {j : J} (hj : j ∈ y) (hw : jhow j = 1) (hall : ∀ x ∈ y, ¬ jid x = jid j → 5 ≤ jhow x ∧ jhow x ≤ 9) (hself : ∀ x ∈ y, jid x = jid j → x = j) (hc : chkd (jdep j) = true)
    (hself' : ∀ n ∈ (jdep j).2, ¬ jid j ∈ n.2) (hm : 0 ≤ jmost j) : sayJ y j (jbegin j) = 2 ∨ sayJ y j (jbegin j) = 3 := by
  have ho : ∀ x ∈ y, ¬ howf (jhow x) = 2 := by
    intro x hx
    by_cases c : jid x = jid j
    · rw [hself x hx c, hw]; decide
    · have := hall x hx c
      rcases howf_ended this.1 this.2 with h | h <;> omega
  have hal : alone y j = true := by
    simp only [alone, Bool.not_eq_true', List.any_eq_false]
    intro x hx
    simp only [bad, Bool.and_eq_true, Bool.or_eq_true, decide_eq_true_eq]
    rintro ⟨⟨⟨c, _⟩, _⟩, h | ⟨h, _⟩⟩
    · exact ho x hx h
    · have := hall x hx c
      rcases howf_ended this.1 this.2 with h' | h' <;> omega
  have hr : room y j = true := by
    simp only [room, cnt_zero _ y ho, Bool.or_eq_true, decide_eq_true_eq]
    omega
  have hnone : ∀ n ∈ (jdep j).2, ¬ (1 : Int) ∈ needJobs (wheres y) true n := by
    intro n hn
    simp only [needJobs, Bool.true_eq_false, and_false, if_false, List.append_nil, List.mem_map, not_exists, not_and]
    intro a ha h1
    rcases hows_wheres a y with h | ⟨x, hx, hid, h⟩
    · rw [h] at h1; simp [onef] at h1
    · have hne : ¬ jid x = jid j := fun e => hself' n hn (by rw [← e, hid]; exact ha)
      have := hall x hx hne
      rw [h] at h1
      rcases howf_ended this.1 this.2 with h' | h' <;> rw [h'] at h1 <;> simp only [onef] at h1
      · split at h1
        · omega
        split at h1
        · omega
        split at h1
        · omega
        split at h1
        · omega
        split at h1 <;> omega
      · split at h1
        · omega
        split at h1
        · omega
        split at h1
        · omega
        split at h1
        · omega
        split at h1 <;> omega
  have hs1 : ¬ (1 : Int) ∈ (jdep j).2.map (needSay (wheres y) true) := by
    simp only [List.mem_map, not_exists, not_and]
    intro n hn h1
    have := hnone n hn
    simp only [needSay, allf, this, if_false] at h1
    split at h1 <;> omega
  have hs : sayD (jdep j) (wheres y) (alone y j) = 2 ∨ sayD (jdep j) (wheres y) (alone y j) = 3 := by
    rw [hal, sayD, if_pos hc, sayF]
    split
    · split
      · exact .inl rfl
      · first
          | exact .inr rfl
          | (rw [if_neg hs1]; exact .inr rfl)
    · rw [allf, if_neg hs1]
      split
      · exact .inr rfl
      · exact .inl rfl
  rcases hs with hs | hs
  · exact .inl (sayJ_two.2 ⟨by rw [hw]; rfl, hs, by omega, Int.le_refl _, hr⟩)
  · exact .inr (sayJ_three.2 ⟨by rw [hw]; rfl, hs⟩)
theorem L7_2_eq (l : List J) (id : Int) (on : List Int) (r1 : Int → Bool → Int → List J → Option Bool) (say k : Int) (x : Need) (hx : x.2.length ≤ 20) (y : List J) : ∀ (n : Nat) (self : Bool) (pre suf : List Int), x.2 = pre ++ suf → suf.length < n →
    L7_2 (F10 2000) (F16 2000) (F11 2000) (F19 2000) (F20 2000) 2000 l id on r1 n say self k (pre.length : Int) x y = r1 say (self || decide (id ∈ suf)) (IntKind.i64.wrap (k + 1)) y
  | 0, self, pre, suf, e, h => by omega
  | n + 1, self, pre, [], e, h => by
    have := fin e
    simp only [L7_2, b7_2, this.1]
    simp
  | n + 1, self, pre, z :: zs, e, h => by
    obtain ⟨h1, h2, h3, h4, h5, h6⟩ := mid e (zEl (Ty.int IntKind.u32)) (by omega)
    have ih := fun self => L7_2_eq l id on r1 say k x hx y n self (pre ++ [z]) zs h5 (by simpa using h)
    simp only [L7_2, b7_2, h1, h2, h3, h4, ih, if_true]
    cases self with
    | true => simp
    | false =>
      by_cases c : z = id
      · simp [c]
      · have c' : ¬ id = z := fun h => c h.symm
        have : (z == id) = false := beq_eq_false_iff_ne.2 c
        simp [c', this]
theorem L7_1_eq (l : List J) (id : Int) (on : List Int) (say : Int) (y : List J) (hw : IntKind.u32.wrap (id - 1) = id - 1) (hd : decide ((0 : Int) ≤ id - 1 ∧ id - 1 < (y.length : Int)) = true) (hc : chkd (jdep (jat y id)) = true) : ∀ (n : Nat) (self : Bool) (pre suf : List Need), (jdep (jat y id)).2 = pre ++ suf → suf.length < n →
    (self = false → (∀ x ∈ suf, ¬ id ∈ x.2) → 0 ≤ jmost (jat y id) → say = 2 ∨ say = 3) →
    L7_1 (F10 2000) (F16 2000) (F11 2000) (F19 2000) (F20 2000) 2000 l id on n say self (pre.length : Int) y = some true
  | 0, self, pre, suf, e, h, hs => by omega
  | n + 1, self, pre, [], e, h, hs => by
    have := fin e
    obtain ⟨j, hj⟩ : ∃ j, y.getD (id - 1).toNat (zEl T45) = j := ⟨_, rfl⟩
    have hj' : jat y id = j := hj
    rw [hj'] at hs hc e this
    have this1 : decide ((pre.length : Int) < ((j.2.2.2.1.2.2.2.2.2.2.2.1.2.length : Nat) : Int)) = false := this.1
    simp only [L7_1, b7_1, hw, hd, hj, this1, known_eq, Option.bind_some, if_true, Bool.false_eq_true, if_false]
    cases self with
    | true => simp
    | false =>
      by_cases c : jmost j < 0
      · have : decide (j.2.2.2.1.2.2.2.2.2.2.1.2 < (0 : Int)) = true := decide_eq_true c
        simp [this]
      · have hh := hs rfl (by simp) (by omega)
        have : decide (j.2.2.2.1.2.2.2.2.2.2.1.2 < (0 : Int)) = false := decide_eq_false c
        rcases hh with rfl | rfl <;> simp
  | n + 1, self, pre, x :: xs, e, h, hs => by
    have hcl := chkd_len hc
    obtain ⟨h1, h2, h3, h4, h5, h6⟩ := mid e (zEl T54) (by omega)
    have hx := chkn_len (hcl.2 x (by rw [e]; simp))
    have ih := L7_1_eq l id on say y hw hd hc n (self || decide (id ∈ x.2)) (pre ++ [x]) xs h5 (by simpa using h) (by
      intro q1 q2 q3
      simp only [Bool.or_eq_false_iff, decide_eq_false_iff_not] at q1
      exact hs q1.1 (fun z hz => by
        rcases List.mem_cons.1 hz with rfl | hz
        · exact q1.2
        · exact q2 z hz) q3)
    obtain ⟨j, hj⟩ : ∃ j, y.getD (id - 1).toNat (zEl T45) = j := ⟨_, rfl⟩
    have hj' : jat y id = j := hj
    rw [hj'] at h1 h2 h3
    simp only [jdep] at h1 h2 h3
    have inner : L7_2 (F10 2000) (F16 2000) (F11 2000) (F19 2000) (F20 2000) 2000 l id on (L7_1 (F10 2000) (F16 2000) (F11 2000) (F19 2000) (F20 2000) 2000 l id on n) 2000 say self (pre.length : Int) 0 x y = L7_1 (F10 2000) (F16 2000) (F11 2000) (F19 2000) (F20 2000) 2000 l id on n say (self || decide (id ∈ x.2)) (IntKind.i64.wrap ((pre.length : Int) + 1)) y :=
      L7_2_eq l id on _ say (pre.length : Int) x hx.1 y 2000 self [] x.2 rfl (by omega)
    simp only [L7_1, b7_1, hw, hd, hj, h1, h2, h3, if_true, inner, h4]
    exact ih
theorem wf_how {x : Int} (h0 : 0 ≤ x) (h1 : x ≤ 255) : IntKind.i64.wrap ((5 : Int) + IntKind.i64.wrap (Int.tmod x (5 : Int))) = 5 + x % 5 := by
  have : Int.tmod x 5 = x % 5 := Int.tmod_eq_emod_of_nonneg h0
  rw [this, i64_in (x := x % 5) (by omega) (by omega), i64_in (by omega) (by omega)]
theorem L7_eq (l : List J) (hl : l.length ≤ 60) (id : Int) (on : List Int) (h0 : 1 ≤ id) (h1 : id ≤ l.length) (hon : ∀ x ∈ on, 0 ≤ x ∧ x ≤ 255) : ∀ (n : Nat) (pre suf y : List J), y = pre ++ suf → suf.length < n → y.length = l.length → ok y = true → Ended pre →
    L7_0 (F10 2000) (F16 2000) (F11 2000) (F19 2000) (F20 2000) 2000 l id on n (pre.length : Int) y = some true
  | 0, pre, suf, y, e, h, hy, ho, hE => by omega
  | n + 1, pre, [], y, e, h, hy, ho, hE => by
    have hf := fin e
    rw [hf.2] at hE
    have hw := u32_pred h0 (by omega)
    have d2 : decide ((0 : Int) ≤ id - 1 ∧ id - 1 < (y.length : Int)) = true := by simp; omega
    obtain ⟨z, hz⟩ : ∃ z, y.set (id - 1).toNat (setHow (y.getD (id - 1).toNat (zEl T45)) 1) = z := ⟨_, rfl⟩
    have hzl : z.length = y.length := by rw [← hz, List.length_set]
    have hzo : ok z = true := by rw [← hz]; exact okl_set y 0 _ 1 ho (by omega) (by omega)
    have hidz := ok_idIn hzo (by omega)
    have hjz : jat z id = setHow (y.getD (id - 1).toNat (zEl T45)) 1 := by
      rw [jat, ← hz, getD_lt (by rw [List.length_set]; omega), List.getElem_set_self]
    have ht : there z id = true := by simp only [there, hzo, Bool.true_and, Bool.and_eq_true, decide_eq_true_eq]; omega
    have d2' : decide ((0 : Int) ≤ id - 1 ∧ id - 1 < (z.length : Int)) = true := by rw [hzl]; exact d2
    have hj := jat_id ht
    have hhow : jhow (jat z id) = 1 := by rw [hjz]; rfl
    have e19 := F19_eq 2000 (by omega) (jdep (jat z id))
    have e20 := fun now => F20_eq 2000 (by omega) z (by omega) hidz id now (by omega) (by omega)
    simp only [L7_0, b7_0, hf.1, hw, d2, if_true, Bool.false_eq_true, if_false]
    show (if decide ((0 : Int) ≤ id - 1 ∧ id - 1 < ((y.set (id - 1).toNat (setHow (y.getD (id - 1).toNat (zEl T45)) 1)).length : Int)) = true then
      (Option.bind (F19 2000 (jdep (jat (y.set (id - 1).toNat (setHow (y.getD (id - 1).toNat (zEl T45)) 1)) id))) fun x6 => (if (x6 != (0 : Int)) = true then
         (Option.bind (F20 2000 (y.set (id - 1).toNat (setHow (y.getD (id - 1).toNat (zEl T45)) 1)) id (0 : Int)) fun x7 => (if (x7 == (0 : Int)) = true then (Option.bind (F11 2000) fun x8 => some (x8)) else some (false)))
       else (if decide ((0 : Int) ≤ id - 1 ∧ id - 1 < ((y.set (id - 1).toNat (setHow (y.getD (id - 1).toNat (zEl T45)) 1)).length : Int)) = true then
          (Option.bind (F20 2000 (y.set (id - 1).toNat (setHow (y.getD (id - 1).toNat (zEl T45)) 1)) id (jbegin (jat (y.set (id - 1).toNat (setHow (y.getD (id - 1).toNat (zEl T45)) 1)) id))) fun x9 => L7_1 (F10 2000) (F16 2000) (F11 2000) (F19 2000) (F20 2000) 2000 l id on 2000 x9 false 0 (y.set (id - 1).toNat (setHow (y.getD (id - 1).toNat (zEl T45)) 1)))
         else none)))
      else none) = some true
    rw [hz]
    simp only [d2', if_true, e19, e20, Option.bind_some, e2_ne, known_eq, sayL, ht]
    cases hc : chkd (jdep (jat z id)) with
    | false =>
      have : sayJ z (jat z id) 0 = 0 := by
        rw [sayJ, hhow, if_pos (show howf 1 = 1 from rfl)]
        simp [sayD, hc]
      simp [this]
    | true =>
      simp only [Bool.not_true, Bool.false_eq_true, if_false]
      have huniq : ∀ x ∈ z, jid x = jid (jat z id) → x = jat z id := fun x hx e => by rw [← (ok_mem hzo hx).2.2.2.2, e, hj.1]
      have := L7_1_eq l id on (sayJ z (jat z id) (jbegin (jat z id))) z hw d2' hc 2000 false [] (jdep (jat z id)).2 rfl (by have := (chkd_len hc).1; omega) (by
        intro _ q2 q3
        refine ends_say hj.2 hhow ?_ huniq hc (by rw [hj.1]; exact q2) q3
        intro x hx hne
        rw [← hz] at hx
        rcases List.mem_or_eq_of_mem_set hx with h | h
        · exact hE x h
        · exact absurd (by rw [h, hjz]) hne)
      rw [known_eq] at this
      exact this
  | n + 1, pre, x :: xs, y, e, h, hy, ho, hE => by
    obtain ⟨h1', h2, h3, h4, h5, h6⟩ := mid e (zEl T45) (by omega)
    have es := set_mid e
    have e3 : y.getD pre.length (zEl T45) = x := by have := h3; rwa [Int.toNat_natCast] at this
    have step : ∀ hh : Int, 5 ≤ hh → hh ≤ 9 → L7_0 (F10 2000) (F16 2000) (F11 2000) (F19 2000) (F20 2000) 2000 l id on n (((pre ++ [x]).length : Nat) : Int) (y.set ((pre.length : Int)).toNat (setHow x hh)) = some true := by
      intro hh q1 q2
      have hlen : (((pre ++ [x]).length : Nat) : Int) = (((pre ++ [setHow x hh]).length : Nat) : Int) := by simp
      rw [hlen, es]
      refine L7_eq l hl id on h0 h1 hon n (pre ++ [setHow x hh]) xs _ rfl (by simpa using h) ?_ ?_ ?_
      · rw [← hy, e]; simp
      · rw [← es (setHow x hh)]
        have := okl_set y 0 pre.length hh ho (by omega) (by omega)
        rw [e3] at this
        simpa [ok] using this
      · intro j hj
        rcases List.mem_append.1 hj with hj | hj
        · exact hE j hj
        · rw [List.mem_singleton.1 hj]; exact ⟨q1, q2⟩
    simp only [L7_0, b7_0, h1', h2, h3, h4, if_true]
    by_cases c : (pre.length : Int) < (on.length : Int)
    · have d : decide ((pre.length : Int) < (on.length : Int)) = true := decide_eq_true c
      have d' : decide ((0 : Int) ≤ (pre.length : Int) ∧ (pre.length : Int) < (on.length : Int)) = true := decide_eq_true ⟨by omega, c⟩
      have hv := hon (on.getD ((pre.length : Int)).toNat 0) (by rw [getD_lt (by omega)]; exact List.getElem_mem _)
      have hv' := wf_how hv.1 hv.2
      simp only [d, d', if_true]
      have := step (5 + (on.getD ((pre.length : Int)).toNat 0) % 5) (by omega) (by omega)
      rw [← hv'] at this
      exact this
    · have d : decide ((pre.length : Int) < (on.length : Int)) = false := decide_eq_false c
      simp only [d, Bool.false_eq_true, if_false]
      exact step 5 (by omega) (by omega)
theorem waitsEnds (l : List J) (id : Int) (on : List Int) (hl : Gd (.sl T45) l) (h' : (Lit.int .u32 id).wf = true) (h'' : Gd (.sl (.int .u8)) on) : F7 2000 l id on = some true := by
  obtain ⟨b, hb, hb'⟩ := F10_eq 2000 (by omega) l
  have hi := idIn_of hl
  have hid := wf_u32 h'
  have hon : ∀ x ∈ on, 0 ≤ x ∧ x ≤ 255 := fun x hx => wf_u8 (h''.2 x hx)
  simp only [F7, G7, t7, hb, Option.bind_some]
  cases b with
  | true => simp [known_eq]
  | false =>
    have hl6 := hb' rfl
    simp only [F16_eq 2000 l (by omega) hi (by omega), Option.bind_some, fits45 hl6, if_true]
    by_cases c : ok l = true
    · by_cases c1 : id = 0
      · simp [c, c1, known_eq]
      · rw [i64_in (by omega) (by omega)]
        by_cases c2 : id > (l.length : Int)
        · simp [c, c1, c2, known_eq]
        · have e : L7_0 (F10 2000) (F16 2000) (F11 2000) (F19 2000) (F20 2000) 2000 l id on 2000 0 l = some true := L7_eq l hl6 id on (by omega) (by omega) hon 2000 [] l l rfl (by omega) rfl c (fun j hj => by cases hj)
          rw [e]
          simp [c, c1, c2]
    · simp [c, known_eq]
end Go.Proofs.YthebmlpohkfhbaaE
