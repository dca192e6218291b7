/- Backfill: all but the head are laid in. -/
import Derived.Test.YtipfamkhplkpmaaP15O
set_option linter.all false
namespace Go.Proofs.YtipfamkhplkpmaaE
open Go Go.Proofs
set_option maxRecDepth 100000
set_option linter.unusedVariables false
theorem L6_1_upto (m : Nat) (s : Sc) (a1 nm : List Wn) (now : Int) (hnm : nm.length ≤ 1000) {last0 : Int} (hr : risesW last0 nm) (slots : List Sl) (hsl : slots.length ≤ 1000) (hd : Int) (n : Nat) (rest : List Sl) (r : List Wn → List Sl → Int → Int → Option Bool) : ∀ (suf pre : List Sl) (L hs : List Hd), slots = pre ++ (suf ++ rest) → Lay nm suf hs → (∀ k ∈ hs, okH s k = true) → (hd < pre.length ∨ (pre.length : Int) + suf.length ≤ hd) → L.length + suf.length ≤ 2000 →
    L6_1 (F8 m) (F9 2000) (F10 2000) (F11 2000) (F24 2000) (F25 2000) (F1013 2000) (F14 2000) (F16 2000) (F15 2000) 2000 s a1 now (n + suf.length) nm slots hd (pre.length : Int) s.1 s.2.1 L =
      L6_1 (F8 m) (F9 2000) (F10 2000) (F11 2000) (F24 2000) (F25 2000) (F1013 2000) (F14 2000) (F16 2000) (F15 2000) 2000 s a1 now n nm slots hd ((pre ++ suf).length : Int) s.1 s.2.1 (L ++ hs)
  | [], pre, L, hs, e, hl, ho, hh, hL => by
    cases hl
    simp
  | x :: xs, pre, L, hs, e, hl, ho, hh, hL => by
    cases hl with
    | cons hw W hl' =>
      rename_i w st a hs
      obtain ⟨h1, h2, h3, h4, h5, h6⟩ := mid (l := slots) (xs := xs ++ rest) (pre := pre) (x := slotOf w st a) (by rw [e]; simp) (zEl T44) (by omega)
      have hlen : ((slotOf w st a :: xs).length : Int) = (xs.length : Int) + 1 := by simp
      have hL' : L.length + (xs.length + 1) ≤ 2000 := by simpa using hL
      have ih := L6_1_upto m s a1 nm now hnm hr slots hsl hd n rest r xs (pre ++ [slotOf w st a]) (L ++ [heldOf w st a]) hs (by rw [h5]) hl' (fun k hk => ho k (by simp [hk])) (by
        have e3 : ((pre ++ [slotOf w st a]).length : Int) = (pre.length : Int) + 1 := by simp
        rw [e3]
        omega) (by simp; omega)
      have hk := ho (heldOf w st a) (by simp)
      unfold okH at hk
      simp only [Bool.and_eq_true, decide_eq_true_eq] at hk
      have hk1 : (0 : Int) ≤ a := hk.2.1
      have hk2 : a + w.2.2 ≤ (4398046511104 : Int) := hk.2.2.2
      have W0 := W.l0
      have h14 : F14 2000 nm (slotOf w st a) = some (w, true) := F14_eq hnm hr hw rfl rfl
      have ew : IntKind.i64.wrap ((slotOf w st a).2.2 + w.2.2) = a + w.2.2 := i64_in (by show _ ≤ a + w.2.2; simp only [El] at *; omega) (by show a + w.2.2 ≤ _; simp only [El] at *; omega)
      have b47 : ∀ y : Hd, decide ((L.length + [y].length) * Try.prog.types[(47 : Nat)].bytes ≤ (140737488355328 : Nat)) = true := fun y => fits47 (by simp only [List.length_singleton]; omega)
      have hne : ((pre.length : Int) != hd) = true := by simp; omega
      rw [show n + (slotOf w st a :: xs).length = (n + xs.length) + 1 by simp; omega]
      simp only [L6_1, b6_1, h1, h2, h3, h4, if_true, h14, Option.bind_some, hne, ew, b47]
      refine Eq.trans ih ?_
      simp
end Go.Proofs.YtipfamkhplkpmaaE
