/- Backfill: towards BackfillHead: ids, rows that are one, blocks that do not clash. -/
import Derived.Test.YtipfamkhplkpmaaP15L
set_option linter.all false
namespace Go.Proofs.YtipfamkhplkpmaaE
open Go Go.Proofs
set_option maxRecDepth 100000
set_option linter.unusedVariables false
theorem nmw_id : ∀ (l1 : List Wn) (l : List Wn) (i : Int) (w : Wn) (l2 : List Wn), 0 ≤ i → i + l.length ≤ 1000000 → nmw i l = l1 ++ w :: l2 → w.1 = i + l1.length + 1
  | [], l, i, w, l2, h0, h1, h => by
    cases l with
    | nil => cases h
    | cons x l =>
      have hlen : ((x :: l).length : Int) = (l.length : Int) + 1 := by simp
      unfold nmw at h
      have e := congrArg (fun r : List Wn => (r.headD w).1) h
      have e1 : IntKind.i64.wrap (i + 1) = i + 1 := i64_in (by omega) (by omega)
      have e2 : IntKind.u32.wrap (i + 1) = i + 1 := u32_in (by omega) (by omega)
      simp only [List.headD_cons, List.nil_append, e1, e2] at e
      have e' : i + 1 = w.1 := e
      rw [← e']
      simp
  | y :: l1, l, i, w, l2, h0, h1, h => by
    cases l with
    | nil => cases h
    | cons x l =>
      have hlen : ((x :: l).length : Int) = (l.length : Int) + 1 := by simp
      have e1 : IntKind.i64.wrap (i + 1) = i + 1 := i64_in (by omega) (by omega)
      unfold nmw at h
      rw [e1] at h
      have ht : nmw (i + 1) l = l1 ++ w :: l2 := (List.cons.inj h).2
      have := nmw_id l1 l (i + 1) w l2 (by omega) (by omega) ht
      rw [this]
      have e3 : ((y :: l1).length : Int) = (l1.length : Int) + 1 := by simp
      rw [e3]
      have : ∀ p q : Int, p + 1 + q + 1 = p + (q + 1) + 1 := fun p q => by omega
      exact this i l1.length
theorem tot_take : ∀ (l1 l2 : List Wn), (∀ w ∈ l2, 1 ≤ w.2.2) → tot l1 ≤ tot (l1 ++ l2)
  | [], l2, h => tot_nn h
  | w :: l1, l2, h => by
    have := tot_take l1 l2 h
    simp only [List.cons_append, tot]
    omega
/-- Blocks clash both ways. -/
theorem meet_comm (a b : Bk) : meetS a b = meetS b a := by
  unfold meetS
  exact decide_eq_decide.2 ⟨fun h => ⟨h.2, h.1⟩, fun h => ⟨h.2, h.1⟩⟩
theorem L25_eq (l : List Sl) (hl : l.length ≤ 1000) : ∀ (n : Nat) (pre suf : List Sl), l = pre ++ suf → suf.length < n → L25_0 2000 l l n (pre.length : Int) = some true
  | 0, pre, suf, e, h => by omega
  | n + 1, pre, [], e, h => by
    have := fin e
    simp only [L25_0, b25_0, this.1]
    rfl
  | n + 1, pre, x :: xs, e, h => by
    obtain ⟨h1, h2, h3, h4, h5, h6⟩ := mid e (zEl T44) (by omega)
    simp only [L25_0, b25_0, h1, h2, h3, h4, if_true, beq_self_eq_true, Bool.and_self, Bool.not_true, Bool.false_eq_true, if_false]
    exact L25_eq l hl n (pre ++ [x]) xs h5 (by simpa using h)
theorem F25_eq (l : List Sl) (hl : l.length ≤ 1000) : F25 2000 l l = some true := by
  unfold F25 G25 t25
  rw [if_neg (by simp)]
  exact L25_eq l hl 2000 [] l rfl (by omega)
end Go.Proofs.YtipfamkhplkpmaaE
