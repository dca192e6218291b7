/- Depend: the document's answer is what the program says: DependSays, in plain words. -/
import Derived.Test.YtigekmmdflaeaaaDoorP08S
set_option linter.all false
namespace Go.Proofs.YtigekmmdflaeaaaDoorE
open Go Go.Proofs
set_option maxRecDepth 100000
set_option linter.unusedVariables false
def cmb : Int → List Int → Int
  | v, [] => v
  | v, y :: l => cmb (if y = 3 then 3 else if y = 1 ∧ v ≠ 3 then 1 else v) l
theorem cmb_eq : ∀ (l : List Int) (v : Int), (v = 1 ∨ v = 2 ∨ v = 3) → cmb v l = if v = 3 ∨ (3 : Int) ∈ l then 3 else if v = 1 ∨ (1 : Int) ∈ l then 1 else 2
  | [], v, h => by
    rcases h with rfl | rfl | rfl <;> simp [cmb]
  | y :: l, v, h => by
    rw [cmb]
    by_cases c3 : y = 3
    · subst c3
      rw [if_pos rfl, cmb_eq l 3 (by omega)]
      simp
    · rw [if_neg c3]
      by_cases c1 : y = 1
      · subst c1
        by_cases cv : v = 3
        · subst cv
          rw [if_neg (by simp), cmb_eq l 3 (by omega)]
          simp
        · rw [if_pos ⟨rfl, cv⟩, cmb_eq l 1 (by omega)]
          simp [cv]
      · rw [if_neg (fun h => c1 h.1), cmb_eq l v h]
        have e3 : ¬ (3 : Int) = y := fun h => c3 h.symm
        have e1 : ¬ (1 : Int) = y := fun h => c1 h.symm
        simp [e3, e1]
theorem cnt_zero (acc : List Int) (k : Int) : (((acc.count k : Nat) : Int) == 0) = !decide (k ∈ acc) := by
  by_cases m : k ∈ acc
  · have := List.count_pos_iff.2 m
    rw [decide_eq_true m]
    exact beq_eq_false_iff_ne.2 (by omega)
  · rw [decide_eq_false m, List.count_eq_zero.2 m]
    rfl
theorem cnt_pos (acc : List Int) (k : Int) : decide (((acc.count k : Nat) : Int) > 0) = decide (k ∈ acc) := by
  by_cases m : k ∈ acc
  · have := List.count_pos_iff.2 m
    rw [decide_eq_true m]
    exact decide_eq_true (by omega)
  · rw [decide_eq_false m, List.count_eq_zero.2 m]
    rfl
section
variable (K : Nat) (hK : 2000 ≤ K) (d : El T24) (l : List Wh) (hl : l.length ≤ 1000) (alone : Bool)
include hK hl
/-- a need counted -/
def cnt3 (r0 : Int → Int → Int → Int → Option Int) (c3 c1 c2 i v : Int) : Option Int :=
  if (v == (1 : Int)) = true then r0 c3 (IntKind.i64.wrap (c1 + (1 : Int))) c2 (IntKind.i64.wrap (i + (1 : Int)))
  else if (v == (2 : Int)) = true then r0 c3 c1 (IntKind.i64.wrap (c2 + (1 : Int))) (IntKind.i64.wrap (i + (1 : Int)))
  else r0 (IntKind.i64.wrap (c3 + (1 : Int))) c1 c2 (IntKind.i64.wrap (i + (1 : Int)))
theorem L24_1_eq (r0 : Int → Int → Int → Int → Option Int) (c3 c1 c2 i : Int) (x : Nd) (hx : (njobs x).length ≤ 1000) (hk : njobs x ≠ [] → (1 : Int) ≤ x.1 ∧ (x.1 : Int) ≤ 4) : ∀ (n : Nat) (pre suf : List Int) (v : Int), njobs x = pre ++ suf → suf.length < n →
    L24_1 (F18 K) (F43 K) (F42 K) K d l alone r0 n c3 c1 c2 i v (pre.length : Int) x = cnt3 r0 c3 c1 c2 i (cmb v (suf.map fun j => oneP x.1 (howP l j)))
  | 0, pre, suf, v, e, h => by omega
  | n + 1, pre, [], v, e, h => by
    have hf := fin e
    simp only [L24_1, b24_1, hf.1, Bool.false_eq_true, if_false, List.map_nil, cmb, cnt3]
  | n + 1, pre, j :: suf, v, e, h => by
    obtain ⟨h1, h2, h3, h4, h5, h6⟩ := mid e (zEl (Ty.int IntKind.u32)) (by omega)
    have h3' : List.getD x.2 ((pre.length : Int)).toNat (zEl (Ty.int IntKind.u32)) = j := h3
    have hk4 := hk (by rw [e]; simp)
    have q1 := F43_eq K l j (by omega) (by omega)
    have q2 := F42_eq K x.1 (howP l j) hk4 (howP_r j l)
    have ih := fun v => L24_1_eq r0 c3 c1 c2 i x hx hk n (pre ++ [j]) suf v h5 (by simpa using h)
    simp only [L24_1, b24_1, h1, h2, if_true, h3', h4, q1, q2, Option.bind_some, ih, List.map_cons, cmb]
    by_cases d3 : oneP x.1 (howP l j) = 3
    · rw [if_pos (beq_iff_eq.2 d3), if_pos d3, d3]
    · rw [if_neg (fun h => d3 (beq_iff_eq.1 h)), if_neg d3]
      by_cases d1 : oneP x.1 (howP l j) = 1
      · rw [if_pos (beq_iff_eq.2 d1)]
        by_cases dv : v = 3
        · rw [if_neg (fun h => (bne_iff_ne.1 h) dv), if_neg (fun h => h.2 dv)]
        · rw [if_pos (bne_iff_ne.2 dv), if_pos ⟨d1, dv⟩, d1]
      · rw [if_neg (fun h => d1 (beq_iff_eq.1 h)), if_neg (fun h => d1 h.1)]
theorem need_cmb (x : Nd) : cmb (match ((x.1 : Int) == 5) && !alone with | true => 1 | false => 2) ((njobs x).map fun j => oneP x.1 (howP l j)) = needP l alone x := by
  unfold needP jobsP all3
  cases ((x.1 : Int) == 5) && !alone with
  | true =>
    rw [cmb_eq _ _ (.inl rfl)]
    simp
  | false =>
    rw [cmb_eq _ _ (.inr (.inl rfl))]
    simp
theorem L24_0_eq (hd : okD d = true) : ∀ (n : Nat) (pre suf : List Nd) (acc : List Int), nds d = pre ++ suf → suf.length < n → acc.length = pre.length →
    L24_0 (F18 K) (F43 K) (F42 K) K d l alone n ((acc.count 3 : Nat) : Int) ((acc.count 1 : Nat) : Int) ((acc.count 2 : Nat) : Int) (pre.length : Int) = some (match d.1 with | false => all3 (acc ++ suf.map (needP l alone)) | true => any3 (acc ++ suf.map (needP l alone)))
  | 0, pre, suf, acc, e, h, _ => by omega
  | n + 1, pre, [], acc, e, h, ha => by
    have hf := fin e
    simp only [L24_0, b24_0, hf.1, Bool.false_eq_true, if_false, List.map_nil, List.append_nil, cnt_zero, cnt_pos]
    unfold all3 any3
    cases d.1 <;> by_cases m3 : (3 : Int) ∈ acc <;> by_cases m1 : (1 : Int) ∈ acc <;> by_cases m2 : (2 : Int) ∈ acc <;> simp [m1, m2, m3]
  | n + 1, pre, x :: suf, acc, e, h, ha => by
    have hd2 := hd
    simp only [okD, Bool.and_eq_true, decide_eq_true_eq] at hd2
    have hd20 : (nds d).length ≤ 20 := hd2.1.1
    have hp : pre.length < 20 := by
      have := congrArg List.length e
      simp at this
      omega
    obtain ⟨h1, h2, h3, h4, h5, h6⟩ := mid e (zEl T46) (by omega)
    have hx : okN x = true := List.all_eq_true.1 hd2.2 x (by
      show x ∈ nds d
      rw [e]; simp)
    simp only [okN, Bool.and_eq_true, decide_eq_true_eq] at hx
    have hx20 : (njobs x).length ≤ 20 := hx.1.2
    have hk : njobs x ≠ [] → (1 : Int) ≤ x.1 ∧ (x.1 : Int) ≤ 4 := fun hne => by
      refine ⟨hx.1.1.1.1, ?_⟩
      have q : ((x.1 : Int) == 5) = ((List.length x.2 : Int) == 0) := beq_iff_eq.1 hx.1.1.2
      have q0 : ((List.length x.2 : Int) == 0) = false := by
        refine beq_eq_false_iff_ne.2 fun h => hne ?_
        have : List.length x.2 = 0 := by omega
        exact List.eq_nil_of_length_eq_zero this
      rw [q0] at q
      have q5 : ¬ (x.1 : Int) = 5 := beq_eq_false_iff_ne.1 q
      have q6 : (x.1 : Int) ≤ 5 := hx.1.1.1.2
      generalize (x.1 : Int) = k at q5 q6 ⊢
      simp only [El] at *
      omega
    have h3' : List.getD d.2 ((pre.length : Int)).toNat (zEl T46) = x := h3
    have ih := L24_0_eq hd n (pre ++ [x]) suf (acc ++ [needP l alone x]) h5 (by simpa using h) (by simp; omega)
    have L := fun v => L24_1_eq K hK d l hl alone (L24_0 (F18 K) (F43 K) (F42 K) K d l alone n) ((acc.count 3 : Nat) : Int) ((acc.count 1 : Nat) : Int) ((acc.count 2 : Nat) : Int) (pre.length : Int) x (by omega) hk K [] (njobs x) v rfl (by omega)
    have hc : ∀ k : Int, acc.count k ≤ 20 := fun k => Nat.le_trans List.count_le_length (by omega)
    have wr : ∀ k : Int, IntKind.i64.wrap (((acc.count k : Nat) : Int) + (1 : Int)) = ((acc.count k + 1 : Nat) : Int) := fun k => by
      have := hc k
      rw [i64_in] <;> omega
    have key : cnt3 (L24_0 (F18 K) (F43 K) (F42 K) K d l alone n) ((acc.count 3 : Nat) : Int) ((acc.count 1 : Nat) : Int) ((acc.count 2 : Nat) : Int) (pre.length : Int) (needP l alone x) = some (match d.1 with | false => all3 (acc ++ (x :: suf).map (needP l alone)) | true => any3 (acc ++ (x :: suf).map (needP l alone))) := by
      rw [List.map_cons, show acc ++ needP l alone x :: suf.map (needP l alone) = (acc ++ [needP l alone x]) ++ suf.map (needP l alone) by simp]
      refine Eq.trans ?_ ih
      unfold cnt3
      rw [h4, wr, wr, wr]
      rcases all3_r (jobsP l alone x) with e | e | e
      · have e : needP l alone x = 1 := e
        rw [e]
        simp [List.count_append, List.count_cons]
      · have e : needP l alone x = 2 := e
        rw [e]
        simp [List.count_append, List.count_cons]
      · have e : needP l alone x = 3 := e
        rw [e]
        simp [List.count_append, List.count_cons]
    have nc := need_cmb K hK l hl alone x
    simp only [L24_0, b24_0, h1, h2, if_true, h3']
    by_cases k5 : ((x.1 : Int) == 5) = true
    · rw [if_pos k5]
      rw [k5] at nc
      cases alone with
      | false =>
        rw [if_pos (show (!false) = true from rfl)]
        exact (L 1).trans ((congrArg _ nc).trans key)
      | true =>
        rw [if_neg (show ¬ (!true) = true from by decide)]
        exact (L 2).trans ((congrArg _ nc).trans key)
    · have k5' : ((x.1 : Int) == 5) = false := by simpa using k5
      rw [if_neg k5]
      rw [k5'] at nc
      exact (L 2).trans ((congrArg _ nc).trans key)
theorem F24_eq : F24 K d l alone = some (sayP d l alone) := by
  unfold F24 G24 t24
  rw [F18_eq K (by omega) d, Option.bind_some]
  unfold sayP
  cases hd : okD d with
  | false => rfl
  | true =>
    have hd2 := hd
    simp only [okD, Bool.and_eq_true, decide_eq_true_eq] at hd2
    have hd20 : (nds d).length ≤ 20 := hd2.1.1
    refine (L24_0_eq K hK d l hl alone hd K [] (nds d) [] rfl (by omega) rfl).trans ?_
    cases d.1 <;> rfl
end
theorem dependSays (a : El T24) (l : List (El T54)) (alone : Bool) (ha : Gd T24 a) (hl : Gd (.sl T54) l) (_ : Gd .bool alone) : F5 2000 a l alone = some true := by
  obtain ⟨b, hb, hb2⟩ := F10_eq 2000 (by omega) a l (by have := ha.2.1; show List.length a.2 ≤ _; omega) (by have := hl.1; omega)
  have f11 := F11_eq 2000 (by omega)
  unfold F5 G5 t5
  rw [hb, Option.bind_some]
  cases b with
  | true =>
    rw [if_pos rfl, f11]
    rfl
  | false =>
    have hlen := hb2 rfl
    rw [if_neg (by decide), F23_eq 2000 (by omega) a l (by omega) alone, Option.bind_some, F24_eq 2000 (by omega) a l (by omega) alone, Option.bind_some, if_pos (beq_self_eq_true _), f11]
    rfl
end Go.Proofs.YtigekmmdflaeaaaDoorE
