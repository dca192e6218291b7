/- Buddy: BuddyWould in plain words. -/
import Derived.Test.YtiicginipjbloaaP04L
set_option linter.all false
namespace Go.Proofs.YtiicginipjbloaaE
open Go Go.Proofs
set_option maxRecDepth 100000
set_option linter.unusedVariables false
theorem frL_eq {n : Nat} {y z : Yard} (hy : Ok n y) (hz : Ok n z) (ht : tkY y = tkY z) (hf : flY y = flY z) : frL y = frL z := by
  have h := hy.rep
  rw [ht, hf] at h
  exact frL_one h hz.rep
theorem row_eq {n : Nat} {y z : Yard} (hy : Ok n y) (hz : Ok n z) (ht : tkY y = tkY z) (hf : flY y = flY z) (k : Nat) : frY y k = frY z k := by
  have h := hy.rep
  rw [ht, hf] at h
  exact row_one h hz.rep k
theorem fits_tot (K : Nat) (hK : 100 ≤ K) {n : Nat} {y : Yard} (h : Ok n y) (a : Int) : ∃ b, F13 K y a = some b := by
  by_cases c : a < 0 ∨ a > (n : Int)
  · exact ⟨_, fits_out K h c⟩
  · obtain ⟨k, rfl⟩ : ∃ k : Nat, a = (k : Int) := ⟨a.toNat, by omega⟩
    exact ⟨_, fits_in K hK h (by omega)⟩
theorem giveL_ok (K : Nat) (hK : 100 ≤ K) {n : Nat} : ∀ (g : List Int) {y : Yard}, Ok n y → ∃ z, giveL K g y = some z ∧ Ok n z
  | [], y, h => ⟨y, rfl, h⟩
  | x :: g, y, h => by
    obtain ⟨r, y', g1, g2, _⟩ := give_ok K hK h x
    obtain ⟨z, h1, h2⟩ := giveL_ok K hK g g2
    exact ⟨z, by unfold giveL; rw [g1, Option.bind_some]; exact h1, h2⟩
theorem L6_eq (l : List (El T57)) (a : Int) (g : List Int) (hg : g.length ≤ 60) (w : Bool) (p1 p2 p3 p4 : List Bk) {n : Nat} : ∀ (f : Nat) (pre suf : List Int) (z : Yard), g = pre ++ suf → suf.length < f → Ok n z → Option.bind (giveL 2000 suf z) (fun z => F13 2000 z a) = some w →
    L6_0 (F11 2000) (F15 2000) (F12 2000) (F19 2000) (F20 2000) (F18 2000) (F13 2000) (F17 2000) 2000 l a g f w (pre.length : Int) z.1 p1 p2 p3 p4 z.2.1 z.2.2.1 z.2.2.2.1 z.2.2.2.2.1 z.2.2.2.2.2.1 z.2.2.2.2.2.2.1 z.2.2.2.2.2.2.2.1 z.2.2.2.2.2.2.2.2.1 z.2.2.2.2.2.2.2.2.2.1 z.2.2.2.2.2.2.2.2.2.2.1 z.2.2.2.2.2.2.2.2.2.2.2.1 z.2.2.2.2.2.2.2.2.2.2.2.2.1 z.2.2.2.2.2.2.2.2.2.2.2.2.2 = some true
  | 0, pre, suf, z, e, h, _, _ => by omega
  | f + 1, pre, [], z, e, h, hz, hw => by
    have := fin e
    have hw : F13 2000 (z.1, z.2.1, z.2.2.1, z.2.2.2.1, z.2.2.2.2.1, z.2.2.2.2.2.1, z.2.2.2.2.2.2.1, z.2.2.2.2.2.2.2.1, z.2.2.2.2.2.2.2.2.1, z.2.2.2.2.2.2.2.2.2.1, z.2.2.2.2.2.2.2.2.2.2.1, z.2.2.2.2.2.2.2.2.2.2.2.1, z.2.2.2.2.2.2.2.2.2.2.2.2.1, z.2.2.2.2.2.2.2.2.2.2.2.2.2) a = some w := hw
    simp only [L6_0, b6_0, this.1]
    rw [if_neg Bool.false_ne_true, hw, Option.bind_some, if_pos (by cases w <;> rfl), known_eq]
    rfl
  | f + 1, pre, x :: suf, z, e, h, hz, hw => by
    obtain ⟨h1, h2, h3, h4, h5, h6⟩ := mid e (zEl (Ty.int IntKind.i64)) (by omega)
    obtain ⟨r, z', g1, g2, _⟩ := give_ok 2000 (by decide) hz x
    unfold giveL at hw
    rw [g1, Option.bind_some] at hw
    have g1' : F17 2000 x (z.1, z.2.1, z.2.2.1, z.2.2.2.1, z.2.2.2.2.1, z.2.2.2.2.2.1, z.2.2.2.2.2.2.1, z.2.2.2.2.2.2.2.1, z.2.2.2.2.2.2.2.2.1, z.2.2.2.2.2.2.2.2.2.1, z.2.2.2.2.2.2.2.2.2.2.1, z.2.2.2.2.2.2.2.2.2.2.2.1, z.2.2.2.2.2.2.2.2.2.2.2.2.1, z.2.2.2.2.2.2.2.2.2.2.2.2.2) = some (r, z') := g1
    simp only [L6_0, b6_0, h1, h2, h3, h4, if_true]
    rw [g1', Option.bind_some]
    exact L6_eq l a g hg w p1 p2 p3 p4 f (pre ++ [x]) suf z' h5 (by simpa using h) g2 hw
theorem buddyWould (l : List (El T57)) (a : Int) (g : List Int) (_ : Gd (.sl T57) l) (_ : (Lit.int .i64 a).wf = true) (_ : Gd (.sl (.int .i64)) g) : F6 2000 l a g = some true := by
  obtain ⟨y, h1, h2⟩ := F11_eq 2000 (by decide) l
  have hfr := frL_len h2.rep
  have htk := h2.tk.len h2.rep.le
  unfold F6 G6 t6
  rw [h1, Option.bind_some]
  by_cases c : g.length > 60
  · rw [if_pos (decide_eq_true (by omega)), known_eq]; rfl
  · rw [if_neg (by simp; omega)]
    dsimp only
    obtain ⟨z, z1, z2⟩ := giveL_ok 2000 (by decide) g h2
    obtain ⟨w, hw⟩ := fits_tot 2000 (by decide) z2 a
    obtain ⟨v, hv⟩ := fits_tot 2000 (by decide) h2 a
    have hwould : F20 2000 y a g = some w := by
      rw [F20_eq 2000 (by decide) h2 a g (by omega), z1, Option.bind_some, hw]
    have hnone : F20 2000 y a [] = some v := by
      rw [F20_eq 2000 (by decide) h2 a [] (by decide)]
      exact hv
    rw [F12_eq 2000 (by decide) h2, Option.bind_some, F19_eq 2000 h2, Option.bind_some, hwould, Option.bind_some, Option.bind_some, F18_eq 2000 _ _ (by omega) (by omega), Option.bind_some, if_neg (by simp),
      Option.bind_some, F18_eq 2000 _ _ (by omega) (by omega), Option.bind_some, if_neg (by simp), hnone, Option.bind_some, hv, Option.bind_some, if_neg (by cases v <;> simp)]
    exact L6_eq l a g (by omega) w _ _ _ _ 2000 [] g y rfl (by omega) h2 (by rw [z1, Option.bind_some]; exact hw)
end Go.Proofs.YtiicginipjbloaaE
