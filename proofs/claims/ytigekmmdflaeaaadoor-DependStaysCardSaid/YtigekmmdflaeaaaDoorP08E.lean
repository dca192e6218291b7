/- Depend: the laws on joined needs and on none, in plain words. -/
import Derived.Test.YtigekmmdflaeaaaDoorP08C
set_option linter.all false
namespace Go.Proofs.YtigekmmdflaeaaaDoorE
open Go Go.Proofs
set_option maxRecDepth 100000
set_option linter.unusedVariables false
theorem L10_eq (K : Nat) (d : El T24) (l : List Wh) (hd : (nds d).length ≤ 140737488355328) : ∀ (n : Nat) (k : Int) (i : Nat), ((nds d).length - i < n ∨ (1000 : Int) < k ∧ 0 < n) → 0 ≤ k → k ≤ 4000000000000000000 → ∃ b : Bool, L10_0 K d l n k (i : Int) = some b ∧ (b = false → k ≤ 1000)
  | 0, k, i, h, _, _ => by omega
  | n + 1, k, i, h, h0, hk => by
    have enl : (nds d).length = List.length d.2 := rfl
    by_cases c : (i : Int) < ((List.length d.2 : Nat) : Int)
    · by_cases c2 : k ≤ 1000
      · have g : decide ((0 : Int) ≤ (i : Int) ∧ (i : Int) < ((List.length d.2 : Nat) : Int)) = true := decide_eq_true ⟨by omega, c⟩
        simp only [L10_0, b10_0, decide_eq_true c, decide_eq_true c2, g, if_true]
        generalize hm : (if (1000 : Int) < ((List.length (List.getD d.2 ((i : Int)).toNat (zEl T46)).2 : Nat) : Int) then (1000 : Int) else ((List.length (List.getD d.2 ((i : Int)).toNat (zEl T46)).2 : Nat) : Int)) = m
        have hm0 : 0 ≤ m ∧ m ≤ 1000 := by
          rw [← hm]
          split <;> omega
        have w1 : IntKind.i64.wrap (k + m) = k + m := i64_in (by omega) (by omega)
        have w2 : IntKind.i64.wrap ((i : Int) + (1 : Int)) = ((i + 1 : Nat) : Int) := by rw [i64_in] <;> omega
        rw [w1, w2]
        obtain ⟨b, hb, hb2⟩ := L10_eq K d l hd n (k + m) (i + 1) (by
          rcases h with h | h
          · left
            have : i < (nds d).length := by
              have : (nds d).length = List.length d.2 := rfl
              omega
            omega
          · omega) (by omega) (by omega)
        exact ⟨b, hb, fun h => by have := hb2 h; omega⟩
      · simp only [L10_0, b10_0, decide_eq_true c, decide_eq_false c2, if_true, Bool.false_eq_true, if_false]
        exact ⟨_, rfl, fun h => by have := of_decide_eq_false h; omega⟩
    · simp only [L10_0, b10_0, decide_eq_false c, Bool.false_eq_true, if_false]
      exact ⟨_, rfl, fun h => by have := of_decide_eq_false h; omega⟩
theorem F10_eq (K : Nat) (hK : 2000 ≤ K) (d : El T24) (l : List Wh) (hd : (nds d).length ≤ 140737488355328) (hl : l.length ≤ 140737488355328) : ∃ b : Bool, F10 K d l = some b ∧ (b = false → (nds d).length + l.length ≤ 1000) := by
  have w : IntKind.i64.wrap (((List.length d.2 : Nat) : Int) + (l.length : Int)) = (((nds d).length + l.length : Nat) : Int) := by
    have : (nds d).length = List.length d.2 := rfl
    rw [i64_in] <;> omega
  unfold F10 G10 t10
  rw [w]
  obtain ⟨b, hb, hb2⟩ := L10_eq K d l hd K (((nds d).length + l.length : Nat) : Int) 0 (by omega) (by omega) (by omega)
  exact ⟨b, hb, fun h => by have := hb2 h; omega⟩
theorem all3_r (l : List Int) : all3 l = 1 ∨ all3 l = 2 ∨ all3 l = 3 := by
  unfold all3
  split
  · exact .inr (.inr rfl)
  · split
    · exact .inl rfl
    · exact .inr (.inl rfl)
theorem any3_r (l : List Int) : any3 l = 1 ∨ any3 l = 2 ∨ any3 l = 3 := by
  unfold any3
  split
  · exact .inr (.inl rfl)
  · split
    · exact .inl rfl
    · exact .inr (.inr rfl)
theorem dependEmpty (a : El T24) (l : List (El T54)) (alone : Bool) (ha : Gd T24 a) (hl : Gd (.sl T54) l) (_ : Gd .bool alone) : F9 2000 a l alone = some true := by
  obtain ⟨b, hb, hb2⟩ := F10_eq 2000 (by omega) a l (by have := ha.2.1; show List.length a.2 ≤ _; omega) (by have := hl.1; omega)
  unfold F9 G9 t9
  rw [hb, Option.bind_some]
  cases b with
  | true =>
    rw [if_pos rfl, F11_eq 2000 (by omega)]
    rfl
  | false =>
    rw [if_neg (by decide)]
    have hlen := hb2 rfl
    have f14 : F14 2000 (false, []) = some (ByteArray.mk #[], 0) := by kernel_rfl
    have f21 : F21 2000 (ByteArray.mk #[]) = some ((false, []), 0) := by kernel_rfl
    have f23 := fun d => F23_eq 2000 (by omega) d l (by omega) alone
    have s0 : sayP (false, []) l alone = 2 := rfl
    rw [f14, Option.bind_some, f21, Option.bind_some]
    rw [if_neg (by decide +kernel), if_neg (by decide), if_neg (by decide), if_neg (by decide), if_neg (by decide), f23, Option.bind_some, s0, if_neg (by decide), F13_eq 2000 (by omega) a, Option.bind_some]
    cases hd : okD a with
    | false =>
      have s1 : sayP a l alone = 0 := by unfold sayP; rw [hd]
      have f16 : F16 2000 a = some [] := by
        unfold F16 G16 t16
        rw [F13_eq 2000 (by omega) a, Option.bind_some, hd]
        rfl
      rw [if_pos (by decide), f23, Option.bind_some, s1, if_pos (by decide), f16, Option.bind_some, if_pos (by decide), F11_eq 2000 (by omega)]
      rfl
    | true =>
      have s1 : sayP a l alone = 1 ∨ sayP a l alone = 2 ∨ sayP a l alone = 3 := by
        unfold sayP
        rw [hd]
        cases a.1 with
        | false => exact all3_r _
        | true => exact any3_r _
      rw [if_neg (by decide), f23, Option.bind_some]
      rcases s1 with e | e | e <;> rw [e, if_pos (by decide), if_pos (by decide), F11_eq 2000 (by omega)] <;> rfl
end Go.Proofs.YtigekmmdflaeaaaDoorE
