/- Depend: what a dependency says. -/
import Derived.Test.YtigekmmdflaeaaaDoorP08B
set_option linter.all false
namespace Go.Proofs.YtigekmmdflaeaaaDoorE
open Go Go.Proofs
set_option maxRecDepth 100000
set_option linter.unusedVariables false
abbrev njobs (n : Nd) : List Int := n.2
abbrev nds (d : El T24) : List Nd := d.2
theorem by3 : Tryd.prog.types[(3 : Nat)].bytes ≤ 100 := by decide +kernel
theorem fits3 {n : Nat} (h : n ≤ 100000) : decide (n * Tryd.prog.types[(3 : Nat)].bytes ≤ (140737488355328 : Nat)) = true := by
  have := Nat.mul_le_mul h by3
  exact decide_eq_true (by omega)
/-- what a need's jobs say -/
def jobsP (l : List Wh) (alone : Bool) (n : Nd) : List Int :=
  ((njobs n).map fun j => oneP n.1 (howP l j)) ++ (match ((n.1 : Int) == 5) && !alone with | true => [1] | false => [])
def needP (l : List Wh) (alone : Bool) (n : Nd) : Int := all3 (jobsP l alone n)
def says (d : El T24) (l : List Wh) (alone : Bool) : List Int := (nds d).map (needP l alone)
def sayP (d : El T24) (l : List Wh) (alone : Bool) : Int := match okD d with
  | false => 0
  | true => match d.1 with
    | false => all3 (says d l alone)
    | true => any3 (says d l alone)
section
variable (K : Nat) (hK : 2000 ≤ K) (d : El T24) (l : List Wh) (hl : l.length ≤ 1000) (alone : Bool)
include hK hl
theorem L23_1_eq (r0 : Int → List Int → Option Int) (i : Int) (nd : Nd) (hnd : (njobs nd).length ≤ 20) (acc : List Int) (hacc : acc.length ≤ 1000) : ∀ (n : Nat) (pre suf : List Int) (w : List Int), (njobs nd) = pre ++ suf → suf.length < n → w.length ≤ pre.length →
    L23_1 (F13 K) (F39 K) (F38 K) (F40 K) (F41 K) K d l alone r0 n i nd.2 ((njobs nd).length : Int) (pre.length : Int) nd w acc =
      r0 (IntKind.i64.wrap (i + (1 : Int))) (acc ++ [all3 (w ++ (suf.map fun j => oneP nd.1 (howP l j)) ++ (match ((nd.1 : Int) == 5) && !alone with | true => [1] | false => []))])
  | 0, pre, suf, w, e, h, _ => by omega
  | n + 1, pre, [], w, e, h, hw => by
    have hf := fin e
    have hp : pre.length ≤ 20 := by rw [hf.2]; exact hnd
    have g1 : decide ((w.length + [(1 : Int)].length) * Tryd.prog.types[(3 : Nat)].bytes ≤ (140737488355328 : Nat)) = true := fits3 (by simp; omega)
    have g2 : ∀ x : Int, decide ((acc.length + [x].length) * Tryd.prog.types[(3 : Nat)].bytes ≤ (140737488355328 : Nat)) = true := fun x => fits3 (by simp; omega)
    have q1 := F40_eq K (w ++ [1]) (by simp; omega) (by simp; omega)
    have q2 := F40_eq K w (by omega) (by omega)
    simp only [L23_1, b23_1, hf.1, Bool.false_eq_true, if_false, g1, g2, q1, q2, if_true, Option.bind_some, List.map_nil, List.append_nil]
    by_cases c : ((nd.1 : Int) == 5) = true
    · rw [if_pos c, c]
      cases alone with
      | true => simp
      | false => simp
    · have c' : ((nd.1 : Int) == 5) = false := by simpa using c
      rw [if_neg c, c']
      simp
  | n + 1, pre, j :: suf, w, e, h, hw => by
    have hlen : pre.length < 20 := by
      have := congrArg List.length e
      simp at this
      omega
    obtain ⟨h1, h2, h3, h4, h5, h6⟩ := mid e (zEl (Ty.int IntKind.u32)) (by omega)
    have h3' : (njobs nd).getD ((pre.length : Int)).toNat (zEl (Ty.int IntKind.u32)) = j := h3
    have g : ∀ x : Int, decide ((w.length + [x].length) * Tryd.prog.types[(3 : Nat)].bytes ≤ (140737488355328 : Nat)) = true := fun x => fits3 (by simp; omega)
    have q := F39_eq K l j (by omega) (by omega)
    have ih := L23_1_eq r0 i nd hnd acc hacc n (pre ++ [j]) suf (w ++ [oneP nd.1 (howP l j)]) h5 (by simpa using h) (by simp; omega)
    simp only [L23_1, b23_1, h1, h2, if_true, h4]
    rw [show List.getD nd.2 ((pre.length : Int)).toNat (zEl (Ty.int IntKind.u32)) = j from h3', q, Option.bind_some, F38_eq, Option.bind_some, if_pos (g _)]
    refine ih.trans ?_
    simp
theorem L23_2_eq (acc : List Int) (hacc : acc.length ≤ 1000) : L23_2 (F13 K) (F39 K) (F38 K) (F40 K) (F41 K) K d l alone K 0 acc = some (any3 acc) := by
  obtain ⟨k, rfl⟩ : ∃ k, K = k + 3 := ⟨K - 3, by omega⟩
  have q1 := F41_eq (k + 3) acc 2 (by omega) (by omega)
  have q2 := F41_eq (k + 3) acc 1 (by omega) (by omega)
  have e0 : decide ((0 : Int) < (([(2 : Int), (1 : Int)].length : Nat) : Int)) = true := rfl
  have e0' : decide ((0 : Int) ≤ (0 : Int) ∧ (0 : Int) < (([(2 : Int), (1 : Int)].length : Nat) : Int)) = true := rfl
  have e1 : decide ((1 : Int) < (([(2 : Int), (1 : Int)].length : Nat) : Int)) = true := rfl
  have e1' : decide ((0 : Int) ≤ (1 : Int) ∧ (1 : Int) < (([(2 : Int), (1 : Int)].length : Nat) : Int)) = true := rfl
  have e2 : decide ((2 : Int) < (([(2 : Int), (1 : Int)].length : Nat) : Int)) = false := rfl
  have w0 : IntKind.i64.wrap ((0 : Int) + 1) = 1 := rfl
  have w1 : IntKind.i64.wrap ((1 : Int) + 1) = 2 := rfl
  have d0 : [(2 : Int), (1 : Int)].getD ((0 : Int)).toNat (zEl (Ty.int IntKind.i64)) = 2 := rfl
  have d1 : [(2 : Int), (1 : Int)].getD ((1 : Int)).toNat (zEl (Ty.int IntKind.i64)) = 1 := rfl
  simp only [L23_2, b23_2, e0, e0', e1, e1', e2, w0, w1, d0, d1, q1, q2, if_true, Option.bind_some, Bool.false_eq_true, if_false]
  unfold any3
  by_cases c : (2 : Int) ∈ acc
  · rw [if_pos (decide_eq_true c), if_pos c]
  · rw [if_neg (by rw [decide_eq_false c]; decide), if_neg c]
    by_cases c1 : (1 : Int) ∈ acc
    · rw [if_pos (decide_eq_true c1), if_pos c1]
    · rw [if_neg (by rw [decide_eq_false c1]; decide), if_neg c1]
theorem L23_0_eq (hd : okD d = true) : ∀ (n : Nat) (pre suf : List Nd) (acc : List Int), (nds d) = pre ++ suf → suf.length < n → acc.length ≤ pre.length →
    L23_0 (F13 K) (F39 K) (F38 K) (F40 K) (F41 K) K d l alone n (pre.length : Int) acc = some (match d.1 with | false => all3 (acc ++ suf.map (needP l alone)) | true => any3 (acc ++ suf.map (needP l alone)))
  | 0, pre, suf, acc, e, h, _ => by omega
  | n + 1, pre, [], acc, e, h, ha => by
    have hd20 : (nds d).length ≤ 20 := by
      simp only [okD, Bool.and_eq_true, decide_eq_true_eq] at hd
      exact hd.1.1
    have hf := fin e
    have hp : pre.length ≤ 20 := by rw [hf.2]; exact hd20
    have q := F40_eq K acc (by omega) (by omega)
    simp only [L23_0, b23_0, hf.1, Bool.false_eq_true, if_false, List.map_nil, List.append_nil]
    cases hb : d.1 with
    | false =>
      rw [if_pos (show (!false) = true from rfl), q]
      rfl
    | true =>
      rw [if_neg (show ¬ (!true) = true from by decide)]
      exact L23_2_eq K hK d l hl alone acc (by omega)
  | n + 1, pre, x :: suf, acc, e, h, ha => by
    have hd2 := hd
    simp only [okD, Bool.and_eq_true, decide_eq_true_eq] at hd2
    have hd20 : (nds d).length ≤ 20 := hd2.1.1
    have hp : pre.length < 20 := by
      have := congrArg List.length e
      simp at this
      omega
    obtain ⟨h1, h2, h3, h4, h5, h6⟩ := mid e (zEl T46) (by omega)
    have hx : okN x = true := List.all_eq_true.1 hd2.2 x (by
      show x ∈ nds d
      rw [e]; simp)
    have hx20 : (njobs x).length ≤ 20 := by
      simp only [okN, Bool.and_eq_true, decide_eq_true_eq] at hx
      exact hx.1.2
    have h3' : List.getD d.2 ((pre.length : Int)).toNat (zEl T46) = x := h3
    have ih := L23_0_eq hd n (pre ++ [x]) suf (acc ++ [needP l alone x]) h5 (by simpa using h) (by simp; omega)
    have L := L23_1_eq K hK d l hl alone (L23_0 (F13 K) (F39 K) (F38 K) (F40 K) (F41 K) K d l alone n) (pre.length : Int) x hx20 acc (by omega) K [] (njobs x) [] rfl (by omega) (Nat.le_refl _)
    simp only [L23_0, b23_0, h1, h2, if_true, h3']
    refine Eq.trans L ?_
    rw [h4, List.nil_append]
    refine ih.trans ?_
    rw [List.append_assoc]
    rfl
theorem F23_eq : F23 K d l alone = some (sayP d l alone) := by
  unfold F23 G23 t23
  rw [F13_eq K (by omega) d, Option.bind_some]
  unfold sayP
  cases hd : okD d with
  | false => rfl
  | true =>
    have hd2 := hd
    simp only [okD, Bool.and_eq_true, decide_eq_true_eq] at hd2
    have hd20 : (nds d).length ≤ 20 := hd2.1.1
    refine (L23_0_eq K hK d l hl alone hd K [] (nds d) [] rfl (by omega) (Nat.le_refl _)).trans ?_
    cases d.1 <;> rfl
end
end Go.Proofs.YtigekmmdflaeaaaDoorE
