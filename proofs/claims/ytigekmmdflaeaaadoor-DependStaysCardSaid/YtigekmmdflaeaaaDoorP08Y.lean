/- Depend: what is said stays: DependStays, in plain words. -/
import Derived.Test.YtigekmmdflaeaaaDoorP08E
set_option linter.all false
namespace Go.Proofs.YtigekmmdflaeaaaDoorE
open Go Go.Proofs
set_option maxRecDepth 100000
set_option linter.unusedVariables false
/-! ### what is ready or never stays so -/
theorem all3_stay {α : Type} {xs : List α} {f g : α → Int} (hf : ∀ x ∈ xs, f x = 1 ∨ f x = 2 ∨ f x = 3) (hg : ∀ x ∈ xs, f x ≠ 1 → g x = f x) (t : List Int) (h : all3 (xs.map f ++ t) ≠ 1) : all3 (xs.map g ++ t) = all3 (xs.map f ++ t) := by
  by_cases m3 : (3 : Int) ∈ xs.map f ++ t
  · have m3' : (3 : Int) ∈ xs.map g ++ t := by
      rcases List.mem_append.1 m3 with m | m
      · obtain ⟨x, hx, e⟩ := List.mem_map.1 m
        exact List.mem_append_left _ (List.mem_map.2 ⟨x, hx, by rw [hg x hx (by omega), e]⟩)
      · exact List.mem_append_right _ m
    unfold all3
    rw [if_pos m3, if_pos m3']
  · have m1 : ¬ (1 : Int) ∈ xs.map f ++ t := by
      intro m
      apply h
      unfold all3
      rw [if_neg m3, if_pos m]
    have e : xs.map g = xs.map f := List.map_congr_left fun x hx => hg x hx (fun e => m1 (List.mem_append_left _ (List.mem_map.2 ⟨x, hx, e⟩)))
    rw [e]
theorem any3_stay {α : Type} {xs : List α} {f g : α → Int} (hf : ∀ x ∈ xs, f x = 1 ∨ f x = 2 ∨ f x = 3) (hg : ∀ x ∈ xs, f x ≠ 1 → g x = f x) (h : any3 (xs.map f) ≠ 1) : any3 (xs.map g) = any3 (xs.map f) := by
  by_cases m3 : (2 : Int) ∈ xs.map f
  · have m3' : (2 : Int) ∈ xs.map g := by
      obtain ⟨x, hx, e⟩ := List.mem_map.1 m3
      exact List.mem_map.2 ⟨x, hx, by rw [hg x hx (by omega), e]⟩
    unfold any3
    rw [if_pos m3, if_pos m3']
  · have m1 : ¬ (1 : Int) ∈ xs.map f := by
      intro m
      apply h
      unfold any3
      rw [if_neg m3, if_pos m]
    have e : xs.map g = xs.map f := List.map_congr_left fun x hx => hg x hx (fun e => m1 (List.mem_map.2 ⟨x, hx, e⟩))
    rw [e]
theorem oneP_r (k h : Int) : oneP k h = 1 ∨ oneP k h = 2 ∨ oneP k h = 3 := by
  unfold oneP
  repeat' split
  all_goals simp
/-- a job goes on -/
def goesOn (h h' : Int) : Prop := h' = h ∨ (h = 1 ∧ h' = 2) ∨ (h = 2 ∧ (h' = 3 ∨ h' = 4))
theorem oneP_stay (k : Int) {h h' : Int} (hg : goesOn h h') (hn : oneP k h ≠ 1) : oneP k h' = oneP k h := by
  rcases hg with rfl | ⟨rfl, rfl⟩ | ⟨rfl, rfl | rfl⟩
  · rfl
  · exact absurd rfl hn
  · by_cases c : k = 1
    · subst c; rfl
    · exact absurd (by simp [oneP, c]) hn
  · by_cases c : k = 1
    · subst c; rfl
    · exact absurd (by simp [oneP, c]) hn
def val4 (x : Int) : Int := if x < 1 ∨ 4 < x then 0 else x
theorem howP_set (j h' : Int) : ∀ (l : List Wh) (k : Nat) (w : Wh), l[k]? = some w → howP (l.set k (w.1, h')) j = howP l j ∨ (howP l j = val4 w.2 ∧ howP (l.set k (w.1, h')) j = val4 h')
  | [], k, w, h => by simp at h
  | v :: l, 0, w, h => by
    have e : v = w := by simpa using h
    subst e
    rw [List.set_cons_zero, howP, howP]
    by_cases c : (v.1 : Int) = j
    · rw [if_pos c, if_pos (show ((v.1, h') : Wh).1 = j from c)]
      exact .inr ⟨rfl, rfl⟩
    · rw [if_neg c, if_neg (show ¬ ((v.1, h') : Wh).1 = j from c)]
      exact .inl rfl
  | v :: l, k + 1, w, h => by
    rw [List.set_cons_succ, howP, howP]
    by_cases c : (v.1 : Int) = j
    · rw [if_pos c, if_pos c]
      exact .inl rfl
    · rw [if_neg c, if_neg c]
      exact howP_set j h' l k w (by simpa using h)
theorem needP_stay {l l' : List Wh} (alone : Bool) (hg : ∀ j, goesOn (howP l j) (howP l' j)) (n : Nd) (h : needP l alone n ≠ 1) : needP l' alone n = needP l alone n :=
  all3_stay (xs := njobs n) (f := fun j => oneP n.1 (howP l j)) (g := fun j => oneP n.1 (howP l' j)) (fun j _ => oneP_r _ _) (fun j _ hn => oneP_stay _ (hg j) hn) _ h
theorem needP_r' (l : List Wh) (alone : Bool) (n : Nd) : needP l alone n = 1 ∨ needP l alone n = 2 ∨ needP l alone n = 3 := all3_r _
theorem sayP_stay (d : El T24) {l l' : List Wh} (alone : Bool) (hg : ∀ j, goesOn (howP l j) (howP l' j)) (h : sayP d l alone ≠ 1) : sayP d l' alone = sayP d l alone := by
  unfold sayP at h ⊢
  cases hd : okD d with
  | false => rfl
  | true =>
    rw [hd] at h
    cases hb : d.1 with
    | false =>
      rw [hb] at h
      have := all3_stay (xs := nds d) (f := needP l alone) (g := needP l' alone) (fun n _ => needP_r' _ _ _) (fun n _ hn => needP_stay alone hg n hn) [] (by rw [List.append_nil]; exact h)
      rw [List.append_nil, List.append_nil] at this
      exact this
    | true =>
      rw [hb] at h
      exact any3_stay (xs := nds d) (f := needP l alone) (g := needP l' alone) (fun n _ => needP_r' _ _ _) (fun n _ hn => needP_stay alone hg n hn) h
/-! ### when all have ended -/
theorem howP_end : ∀ (l : List Wh) (j : Int), (∀ w ∈ l, (3 : Int) ≤ w.2) → howP l j = 0 ∨ howP l j = 3 ∨ howP l j = 4
  | [], j, h => .inl rfl
  | w :: l, j, h => by
    unfold howP
    split
    · split
      · exact .inl rfl
      · rename_i hn
        rw [not_or] at hn
        have h3 : (3 : Int) ≤ w.2 := h w List.mem_cons_self
        have h4 : ¬ (4 : Int) < w.2 := hn.2
        generalize w.2 = x at h3 h4 ⊢
        simp only [El] at *
        omega
    · exact howP_end l j fun w hw => h w (List.mem_cons_of_mem _ hw)
theorem sayP_end (d : El T24) (l : List Wh) (h : ∀ w ∈ l, (3 : Int) ≤ w.2) : sayP d l true ≠ 1 := by
  have h1 : ∀ n : Nd, needP l true n ≠ 1 := fun n => by
    have hm : ¬ (1 : Int) ∈ jobsP l true n := by
      intro m
      rcases List.mem_append.1 m with m | m
      · obtain ⟨j, _, e⟩ := List.mem_map.1 m
        rcases howP_end l j h with q | q | q <;> rw [q] at e <;> unfold oneP at e <;> revert e <;> (repeat' split) <;> simp_all
      · have : (((n.1 : Int) == 5) && !true) = false := by simp
        rw [this] at m
        cases m
    unfold needP all3
    rw [if_neg hm]
    split <;> decide
  have h2 : ¬ (1 : Int) ∈ says d l true := fun m => by
    obtain ⟨n, _, e⟩ := List.mem_map.1 m
    exact h1 n e
  unfold sayP
  cases okD d with
  | false => exact show (0 : Int) ≠ 1 by decide
  | true =>
    cases d.1 with
    | false =>
      show all3 (says d l true) ≠ 1
      unfold all3
      rw [if_neg h2]
      split <;> decide
    | true =>
      show any3 (says d l true) ≠ 1
      unfold any3
      rw [if_neg h2]
      split <;> decide
end Go.Proofs.YtigekmmdflaeaaaDoorE
