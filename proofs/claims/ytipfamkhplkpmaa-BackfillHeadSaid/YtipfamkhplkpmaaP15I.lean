/- Backfill: named jobs, far ends, whose slot it is; BackfillApart. -/
import Derived.Test.YtipfamkhplkpmaaP15H
set_option linter.all false
namespace Go.Proofs.YtipfamkhplkpmaaE
open Go Go.Proofs
set_option maxRecDepth 100000
set_option linter.unusedVariables false
def nmw : Int → List Wn → List Wn
  | _, [] => []
  | i, w :: l => (IntKind.u32.wrap (IntKind.i64.wrap (i + 1)), w.2) :: nmw (IntKind.i64.wrap (i + 1)) l
theorem nmw_len : ∀ (l : List Wn) (i : Int), (nmw i l).length = l.length
  | [], i => rfl
  | w :: l, i => by simp only [nmw, List.length_cons, nmw_len l]
theorem L8_eq (m : Nat) (l : List Wn) (hb : l.length * Try.prog.types[(38 : Nat)].bytes ≤ 140737488355328) (hl : l.length ≤ 140737488351232) : ∀ (n : Nat) (pre suf acc : List Wn), l = pre ++ suf → suf.length < n → acc.length = pre.length →
    L8_0 m l n (pre.length : Int) acc = some (acc ++ nmw (pre.length : Int) suf)
  | 0, pre, suf, acc, e, h, ha => by omega
  | n + 1, pre, [], acc, e, h, ha => by
    have := fin e
    simp only [L8_0, b8_0, this.1, Bool.false_eq_true, if_false, nmw, List.append_nil]
  | n + 1, pre, x :: xs, acc, e, h, ha => by
    obtain ⟨h1, h2, h3, h4, h5, h6⟩ := mid e (zEl ((Ty.int IntKind.u32).pair T42)) (by omega)
    have hle : l.length = pre.length + (xs.length + 1) := by rw [e]; simp
    have hfit : ∀ y : Wn, decide ((acc.length + [y].length) * Try.prog.types[(38 : Nat)].bytes ≤ (140737488355328 : Nat)) = true := fun y => decide_eq_true (Nat.le_trans (Nat.mul_le_mul_right _ (by simp only [List.length_singleton]; omega)) hb)
    simp only [L8_0, b8_0, h1, h2, h3, if_true, hfit, nmw]
    rw [h4, L8_eq m l hb hl n (pre ++ [x]) xs _ h5 (by simpa using h) (by simp [ha])]
    simp
theorem F8_eq (l : List Wn) (hb : l.length * Try.prog.types[(38 : Nat)].bytes ≤ 140737488355328) (hl : l.length ≤ 140737488351232) : F8 (l.length + 1) l = some (nmw 0 l) :=
  L8_eq (l.length + 1) l hb hl (l.length + 1) [] l [] rfl (by omega) rfl
theorem nmw_rises : ∀ (l : List Wn) (i : Int), 0 ≤ i → i + l.length ≤ 1000000 → risesW i (nmw i l)
  | [], i, h0, h1 => trivial
  | w :: l, i, h0, h1 => by
    have hlen : ((w :: l).length : Int) = (l.length : Int) + 1 := by simp
    have e1 : IntKind.i64.wrap (i + 1) = i + 1 := i64_in (by omega) (by omega)
    have e2 : IntKind.u32.wrap (i + 1) = i + 1 := u32_in (by omega) (by omega)
    unfold nmw
    rw [e1, e2]
    exact ⟨by show i < i + 1; omega, nmw_rises l (i + 1) (by omega) (by omega)⟩

/-! ### whose slot? -/
theorem rises_ne : ∀ {l : List Wn} {last : Int}, risesW last l → ∀ w ∈ l, last < w.1
  | x :: l, last, h, w, hw => by
    rcases List.mem_cons.1 hw with rfl | hw
    · exact h.1
    · exact Int.lt_trans h.1 (rises_ne h.2 w hw)
theorem L14_eq (l : List Wn) (hl : l.length ≤ 100000) (x : Sl) (w : Wn) (hx : w.1 = x.1) (ho : w.2.1 = x.2.1.2) : ∀ (n : Nat) (pre suf : List Wn) (last : Int), l = pre ++ suf → suf.length < n → risesW last suf → w ∈ suf →
    L14_0 2000 l x n (pre.length : Int) = some (w, true)
  | 0, pre, suf, last, e, h, hr, hw => by omega
  | n + 1, pre, [], last, e, h, hr, hw => by simp at hw
  | n + 1, pre, y :: ys, last, e, h, hr, hw => by
    obtain ⟨h1, h2, h3, h4, h5, h6⟩ := mid e (zEl ((Ty.int IntKind.u32).pair T42)) (by omega)
    simp only [L14_0, b14_0, h1, h2, h3, h4, if_true]
    rcases List.mem_cons.1 hw with rfl | hw
    · rw [if_pos (beq_iff_eq.2 hx), if_pos (beq_iff_eq.2 ho)]
    · have hlt := rises_ne hr.2 w hw
      have hne : ¬ y.1 = x.1 := fun e => by rw [← hx] at e; simp only [El] at *; omega
      rw [if_neg (fun h => hne (beq_iff_eq.1 h))]
      exact L14_eq l hl x w hx ho n (pre ++ [y]) ys y.1 h5 (by simpa using h) hr.2 hw
theorem F14_eq {l : List Wn} (hl : l.length ≤ 1000) {last : Int} (hr : risesW last l) {x : Sl} {w : Wn} (hw : w ∈ l) (hx : w.1 = x.1) (ho : w.2.1 = x.2.1.2) : F14 2000 l x = some (w, true) :=
  L14_eq l (by omega) x w hx ho 2000 [] l last rfl (by omega) hr hw

/-! ### how far it goes -/
def cl (x : Int) : Int := if (8796093022208 : Int) < x then 8796093022208 else x
def mx (a : Int) : List Hd → Int
  | [] => a
  | h :: l => mx (if cl h.2.2 > a then cl h.2.2 else a) l
theorem mx_ge : ∀ (l : List Hd) (a : Int), a ≤ mx a l ∧ ∀ h ∈ l, (h.2.2 : Int) ≤ 4398046511104 → h.2.2 ≤ mx a l
  | [], a => ⟨Int.le_refl _, fun h hh => by simp at hh⟩
  | k :: l, a => by
    obtain ⟨h1, h2⟩ := mx_ge l (if cl k.2.2 > a then cl k.2.2 else a)
    unfold mx
    have h3 : a ≤ (if cl k.2.2 > a then cl k.2.2 else a) := by split <;> omega
    refine ⟨by omega, fun h hh ht => ?_⟩
    rcases List.mem_cons.1 hh with rfl | hh
    · have e : cl h.2.2 = h.2.2 := if_neg (by simp only [El] at *; omega)
      rw [e] at h1 ⊢
      have : (h.2.2 : Int) ≤ (if h.2.2 > a then h.2.2 else a) := by split <;> (simp only [El] at *; omega)
      exact Int.le_trans this h1
    · exact h2 h hh ht
end Go.Proofs.YtipfamkhplkpmaaE
