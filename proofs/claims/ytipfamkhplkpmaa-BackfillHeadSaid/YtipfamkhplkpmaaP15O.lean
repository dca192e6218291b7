/- Backfill: the head is found. -/
import Derived.Test.YtipfamkhplkpmaaP15N
set_option linter.all false
namespace Go.Proofs.YtipfamkhplkpmaaE
open Go Go.Proofs
set_option maxRecDepth 100000
set_option linter.unusedVariables false
theorem L6_skip (m : Nat) (s : Sc) (a1 nm : List Wn) (now : Int) (slots : List Sl) (hsl : slots.length ≤ 1000) (hd : Int) : ∀ (n : Nat) (pre suf : List Sl), slots = pre ++ suf → suf.length < n → allNow now suf →
    L6_0 (F8 m) (F9 2000) (F10 2000) (F11 2000) (F24 2000) (F25 2000) (F1013 2000) (F14 2000) (F16 2000) (F15 2000) 2000 s a1 now n nm slots hd (pre.length : Int) =
      L6_0 (F8 m) (F9 2000) (F10 2000) (F11 2000) (F24 2000) (F25 2000) (F1013 2000) (F14 2000) (F16 2000) (F15 2000) 2000 s a1 now 1 nm slots hd (slots.length : Int)
  | 0, pre, suf, e, h, ha => by omega
  | n + 1, pre, [], e, h, ha => by
    have hfin := fin e
    have hend : decide ((slots.length : Int) < (slots.length : Int)) = false := by simp
    simp only [L6_0, b6_0, hfin.1, hend]
    rfl
  | n + 1, pre, x :: xs, e, h, ha => by
    obtain ⟨h1, h2, h3, h4, h5, h6⟩ := mid e (zEl T44) (by omega)
    have hx : x.2.2 = now := ha x (by simp)
    have ih := L6_skip m s a1 nm now slots hsl hd n (pre ++ [x]) xs h5 (by simpa using h) (fun y hy => ha y (by simp [hy]))
    rw [← ih]
    have hno : ¬ x.2.2 > now := by rw [hx]; simp
    conv => lhs; rw [L6_0, b6_0]
    rw [if_pos h1, if_pos h2, h3, if_neg (by simpa using hno), h4]
theorem L6_upto (m : Nat) (s : Sc) (a1 nm : List Wn) (now : Int) (slots : List Sl) (hsl : slots.length ≤ 1000) (hd : Int) (n : Nat) (rest : List Sl) : ∀ (suf pre : List Sl), slots = pre ++ (suf ++ rest) → allNow now suf →
    L6_0 (F8 m) (F9 2000) (F10 2000) (F11 2000) (F24 2000) (F25 2000) (F1013 2000) (F14 2000) (F16 2000) (F15 2000) 2000 s a1 now (n + suf.length) nm slots hd (pre.length : Int) =
      L6_0 (F8 m) (F9 2000) (F10 2000) (F11 2000) (F24 2000) (F25 2000) (F1013 2000) (F14 2000) (F16 2000) (F15 2000) 2000 s a1 now n nm slots hd ((pre ++ suf).length : Int)
  | [], pre, e, ha => by simp
  | x :: xs, pre, e, ha => by
    obtain ⟨h1, h2, h3, h4, h5, h6⟩ := mid (l := slots) (xs := xs ++ rest) (pre := pre) (x := x) (by rw [e]; simp) (zEl T44) (by omega)
    have hx : x.2.2 = now := ha x (by simp)
    have ih := L6_upto m s a1 nm now slots hsl hd n rest xs (pre ++ [x]) (by rw [h5]) (fun y hy => ha y (by simp [hy]))
    have hno : ¬ x.2.2 > now := by rw [hx]; simp
    rw [show n + (x :: xs).length = (n + xs.length) + 1 by simp; omega]
    conv => lhs; rw [L6_0, b6_0]
    rw [if_pos h1, if_pos h2, h3, if_neg (by simpa using hno), h4, ih]
    simp
theorem L6_head (m : Nat) (s : Sc) (a1 nm : List Wn) (now : Int) (A B : List Sl) (h : Sl) (hsl : (A ++ h :: B).length ≤ 1000) (hA : allNow now A) (hB : allNow now B) (hh : now < h.2.2) :
    L6_0 (F8 m) (F9 2000) (F10 2000) (F11 2000) (F24 2000) (F25 2000) (F1013 2000) (F14 2000) (F16 2000) (F15 2000) 2000 s a1 now 2000 nm (A ++ h :: B) (-1) 0 =
      L6_0 (F8 m) (F9 2000) (F10 2000) (F11 2000) (F24 2000) (F25 2000) (F1013 2000) (F14 2000) (F16 2000) (F15 2000) 2000 s a1 now 1 nm (A ++ h :: B) (A.length : Int) ((A ++ h :: B).length : Int) := by
  have hlen : (A ++ h :: B).length = A.length + (B.length + 1) := by simp
  obtain ⟨h1, h2, h3, h4, h5, h6⟩ := mid (l := A ++ h :: B) (xs := B) (pre := A) (x := h) rfl (zEl T44) (by omega)
  have e1 := L6_upto m s a1 nm now (A ++ h :: B) hsl (-1) (2000 - A.length) (h :: B) A [] rfl hA
  rw [show 2000 - A.length + A.length = 2000 by omega] at e1
  refine Eq.trans e1 ?_
  rw [List.nil_append]
  obtain ⟨k, hk⟩ : ∃ k, 2000 - A.length = k + 1 := ⟨1999 - A.length, by omega⟩
  rw [hk]
  have e2 := L6_skip m s a1 nm now (A ++ h :: B) hsl (A.length : Int) k (A ++ [h]) B h5 (by omega) hB
  rw [← e2]
  conv => lhs; rw [L6_0, b6_0]
  rw [if_pos h1, if_pos h2, h3, if_pos (decide_eq_true hh), if_neg (by decide), h4]
end Go.Proofs.YtipfamkhplkpmaaE
