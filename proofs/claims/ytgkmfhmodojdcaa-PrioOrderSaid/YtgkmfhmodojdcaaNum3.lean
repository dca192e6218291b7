/- Factors and priorities: what the program and the document come to. -/
import Derived.Test.YtgkmfhmodojdcaaNum2
import Derived.Test.YtgkmfhmodojdcaaPQx4
import Derived.Test.YtgkmfhmodojdcaaPQx5
import Derived.Test.YtgkmfhmodojdcaaPQx9
import Derived.Test.YtgkmfhmodojdcaaPQx10
import Derived.Test.YtgkmfhmodojdcaaPQx13
import Derived.Test.YtgkmfhmodojdcaaPQx14
import Derived.Test.YtgkmfhmodojdcaaPQx11
namespace Go.Proofs.Ytgkmfhmodojdcaa.Num
open Go.RowKit Go.Proofs.Ytgkmfhmodojdcaa.PQ Go.Proofs.YtgkmfhmodojdcaaW.PrintWords Go.Proofs.YtgkmfhmodojdcaaW.PrintLast Go.Proofs.YtgkmfhmodojdcaaW.PrintMore

theorem wf_i64 {n : Int} (h : (Lit.int .i64 n).wf = true) : -9223372036854775808 ≤ n ∧ n ≤ 9223372036854775807 := by
  simp [Lit.wf, IntKind.min, IntKind.max, IntKind.signed, IntKind.bits] at h
  omega
theorem wf_u32 {n : Int} (h : (Lit.int .u32 n).wf = true) : 0 ≤ n ∧ n ≤ 4294967295 := by
  simp [Lit.wf, IntKind.min, IntKind.max, IntKind.signed, IntKind.bits] at h
  omega
theorem wf_u16 {n : Int} (h : (Lit.int .u16 n).wf = true) : 0 ≤ n ∧ n ≤ 65535 := by
  simp [Lit.wf, IntKind.min, IntKind.max, IntKind.signed, IntKind.bits] at h
  omega

def ofS (n m : Int) : Int := if n < 0 ∨ m < 1 then 0 else if n > m then 65536 else n * 65536 / m
def ageS (s now : Int) : Int := if s < 0 ∨ now ≤ s then 0 else ofS (if now - s > 1048576 then 1048576 else now - s) 1048576
def sizeS (s all : Int) : Int := if s < 1 ∨ all < s then 0 else ofS s all

theorem of_fits {n m : Int} (h0 : 0 ≤ n) (h1 : 1 ≤ m) (h : n ≤ m) : 0 ≤ n * 65536 / m ∧ n * 65536 / m ≤ 65536 := by
  refine ⟨Int.ediv_nonneg (by omega) (by omega), ?_⟩
  have := (Int.ediv_lt_iff_lt_mul (show 0 < m by omega) (a := n * 65536) (b := 65537)).2 (by omega)
  omega
theorem ofS_in (n m : Int) : 0 ≤ ofS n m ∧ ofS n m ≤ 65536 := by
  unfold ofS
  split
  · omega
  · split
    · omega
    · exact of_fits (by omega) (by omega) (by omega)
theorem ageS_in (n m : Int) : 0 ≤ ageS n m ∧ ageS n m ≤ 65536 := by
  unfold ageS; split
  · omega
  · exact ofS_in _ _
theorem sizeS_in (n m : Int) : 0 ≤ sizeS n m ∧ sizeS n m ≤ 65536 := by
  unfold sizeS; split
  · omega
  · exact ofS_in _ _
theorem mulDiv_fits {n m : Int} (h0 : 0 ≤ n) (h1 : 1 ≤ m) (h : n ≤ m) : mulDiv n 65536 m = (n * 65536 / m, 0) := by
  have := of_fits h0 h1 h
  unfold mulDiv
  rw [if_neg (by omega), if_pos (by omega)]

theorem prio_of {n m : Int} (hn : n ≤ 9223372036854775807) (hm : m ≤ 9223372036854775807) : Ev (fun k => prio_Of.f k n m) (ofS n m) := by
  have key : ∀ f : Bool, (f = true ↔ (n < 0 ∨ m < 1)) → Ev (fun k => prio_Of.j0 k n m f) (ofS n m) := by
    intro f hf
    refine Ev.step (fun k => by rw [prio_Of.j0]) ?_
    unfold ofS
    cases f with
    | true =>
      rw [if_pos (hf.1 rfl)]
      exact Ev.pos rfl (Ev.now _)
    | false =>
      have hn' : ¬ (n < 0 ∨ m < 1) := fun h => by simpa using hf.2 h
      rw [if_neg hn']
      refine Ev.neg (by simp) ?_
      by_cases c : n > m
      · rw [if_pos c]
        exact Ev.pos c (Ev.now _)
      · rw [if_neg c]
        refine Ev.neg c (Ev.bind (num_muldiv hn (by omega) hm) ?_)
        rw [mulDiv_fits (by omega) (by omega) (by omega)]
        exact Ev.now _
  unfold prio_Of.f
  by_cases h1 : n < 0
  · exact Ev.pos h1 (key true (by simp [h1]))
  · exact Ev.neg h1 (key _ (by rw [decide_eq_true_iff]; omega))
theorem ref_of12 {n m : Int} (hn : n ≤ 9223372036854775807) (hm : m ≤ 9223372036854775807) : Ev (fun k => gangerref12_Of.f k n m) (ofS n m) := by
  have key : ∀ f : Bool, (f = true ↔ (n < 0 ∨ m < 1)) → Ev (fun k => gangerref12_Of.j0 k n m f) (ofS n m) := by
    intro f hf
    refine Ev.step (fun k => by rw [gangerref12_Of.j0]) ?_
    unfold ofS
    cases f with
    | true =>
      rw [if_pos (hf.1 rfl)]
      exact Ev.pos rfl (Ev.now _)
    | false =>
      have hn' : ¬ (n < 0 ∨ m < 1) := fun h => by simpa using hf.2 h
      rw [if_neg hn']
      refine Ev.neg (by simp) ?_
      by_cases c : n ≥ m
      · refine Ev.pos c ?_
        by_cases c2 : n > m
        · rw [if_pos c2]
          exact Ev.now _
        · rw [if_neg c2]
          obtain rfl : n = m := by omega
          rw [Int.mul_comm, Int.mul_ediv_cancel _ (by omega)]
          exact Ev.now _
      · rw [if_neg (by omega)]
        refine Ev.neg c (Ev.bind (ref_muldiv hn (by omega) hm) ?_)
        rw [mulDiv_fits (by omega) (by omega) (by omega)]
        exact Ev.now _
  unfold gangerref12_Of.f
  by_cases h1 : n < 0
  · exact Ev.pos h1 (key true (by simp [h1]))
  · exact Ev.neg h1 (key _ (by rw [decide_eq_true_iff]; omega))

theorem prio_age {s now : Int} (h : now ≤ 9223372036854775807) : Ev (fun k => prio_Age.f k s now) (ageS s now) := by
  unfold prio_Age.f ageS
  by_cases h1 : s < 0
  · rw [if_pos (.inl h1)]; exact Ev.pos h1 (Ev.now _)
  · refine Ev.neg h1 ?_
    by_cases h2 : now ≤ s
    · rw [if_pos (.inr h2)]; exact Ev.pos h2 (Ev.now _)
    · rw [if_neg (by omega)]
      refine Ev.neg h2 (Ev.bind ?_ (Ev.now _))
      rw [i64_in (by omega) (by omega)]
      have e : mn (now - s) 1048576 = if now - s > 1048576 then 1048576 else now - s := by unfold mn; rfl
      rw [e]
      exact prio_of (by split <;> omega) (by omega)
theorem ref_age {s now : Int} (h : now ≤ 9223372036854775807) : Ev (fun k => gangerref12_Age.f k s now) (ageS s now) := by
  unfold gangerref12_Age.f ageS
  by_cases h1 : s < 0
  · rw [if_pos (.inl h1)]; exact Ev.pos h1 (Ev.now _)
  · refine Ev.neg h1 ?_
    by_cases h2 : now ≤ s
    · rw [if_pos (.inr h2)]; exact Ev.pos h2 (Ev.now _)
    · rw [if_neg (by omega)]
      refine Ev.neg h2 (Ev.bind ?_ (Ev.now _))
      rw [i64_in (by omega) (by omega)]
      have e : ofS (if now - s > 1048576 then 1048576 else now - s) 1048576 = ofS (now - s) 1048576 := by
        by_cases c : now - s > 1048576
        · rw [if_pos c]
          unfold ofS
          rw [if_neg (by omega), if_neg (by omega), if_neg (by omega), if_pos c]
          decide
        · rw [if_neg c]
      rw [e]
      exact ref_of12 (by omega) (by omega)
theorem prio_size {s all : Int} (h : all ≤ 9223372036854775807) : Ev (fun k => prio_Size.f k s all) (sizeS s all) := by
  unfold prio_Size.f sizeS
  by_cases h1 : s < 1
  · rw [if_pos (.inl h1)]; exact Ev.pos h1 (Ev.now _)
  · refine Ev.neg h1 ?_
    by_cases h2 : all < s
    · rw [if_pos (.inr h2)]; exact Ev.pos h2 (Ev.now _)
    · rw [if_neg (by omega)]
      exact Ev.neg h2 (Ev.bind (prio_of (by omega) h) (Ev.now _))
theorem ref_size {s all : Int} (h : all ≤ 9223372036854775807) : Ev (fun k => gangerref12_Size.f k s all) (sizeS s all) := by
  unfold gangerref12_Size.f sizeS
  by_cases h1 : s < 1
  · rw [if_pos (.inl h1)]; exact Ev.pos h1 (Ev.now _)
  · refine Ev.neg h1 ?_
    by_cases h2 : all < s
    · rw [if_pos (.inr h2)]; exact Ev.pos h2 (Ev.now _)
    · rw [if_neg (by omega)]
      exact Ev.neg h2 (Ev.bind (ref_of12 (by omega) h) (Ev.now _))

def rightS (w0 w1 w2 w3 w4 a0 a1 a3 a6 now all : Int) : Prop :=
  a0 ≠ 0 ∧ (0 ≤ a6 ∧ a6 ≤ 65536) ∧ (-10000 ≤ a3 ∧ a3 ≤ 10000) ∧ 0 ≤ a1 ∧ (0 ≤ now ∧ now ≤ 1099511627776) ∧ (1 ≤ all ∧ all ≤ 1048576) ∧
    (0 ≤ w0 ∧ w0 ≤ 1048576) ∧ (0 ≤ w1 ∧ w1 ≤ 1048576) ∧ (0 ≤ w2 ∧ w2 ≤ 1048576) ∧ (0 ≤ w3 ∧ w3 ≤ 1048576) ∧ (0 ≤ w4 ∧ w4 ≤ 1048576)
instance (w0 w1 w2 w3 w4 a0 a1 a3 a6 now all : Int) : Decidable (rightS w0 w1 w2 w3 w4 a0 a1 a3 a6 now all) := by unfold rightS; infer_instance
def sumS (w0 w1 w2 w3 w4 a1 a2 a4 a5 a6 now all : Int) : Int :=
  w0 * a6 / 65536 + w1 * ageS a1 now / 65536 + w2 * sizeS a2 all / 65536 + w3 * ofS a4 1048576 / 65536 + w4 * ofS a5 1048576 / 65536
def prioS (w0 w1 w2 w3 w4 a0 a1 a2 a3 a4 a5 a6 now all : Int) : Int × Int :=
  if rightS w0 w1 w2 w3 w4 a0 a1 a3 a6 now all then (sumS w0 w1 w2 w3 w4 a1 a2 a4 a5 a6 now all - a3, 0) else (0, 2)

theorem part_in {w f : Int} (h0 : 0 ≤ w) (h1 : w ≤ 1048576) (f0 : 0 ≤ f) (f1 : f ≤ 65536) : wrap64 (w * f) = w * f ∧ wrap64 (Int.tdiv (w * f) 65536) = w * f / 65536 ∧ 0 ≤ w * f / 65536 ∧ w * f / 65536 ≤ w := by
  have hp := Int.mul_nonneg h0 f0
  have hq := Int.mul_le_mul_of_nonneg_left f1 h0
  generalize w * f = p at *
  rw [Int.tdiv_eq_ediv_of_nonneg hp]
  exact ⟨i64_in (by omega) (by omega), i64_in (by omega) (by omega), by omega, by omega⟩

theorem in_f (n lo hi : Int) : prio_in.f n lo hi = some (decide (lo ≤ n ∧ n ≤ hi)) := by
  unfold prio_in.f
  by_cases c : n ≥ lo
  · rw [if_pos c]
    congr 1
    exact decide_eq_decide.2 ⟨fun h => ⟨c, h⟩, fun h => h.2⟩
  · rw [if_neg c, decide_eq_false (by omega)]

section
variable (w0 w1 w2 w3 w4 a0 a1 a2 a3 a4 a5 a6 : Int)
theorem prio_loop {f1 f2 f3 f4 : Int} (h1 : 0 ≤ f1 ∧ f1 ≤ 65536) (h2 : 0 ≤ f2 ∧ f2 ≤ 65536) (h3 : 0 ≤ f3 ∧ f3 ≤ 65536) (h4 : 0 ≤ f4 ∧ f4 ≤ 65536) (h6 : 0 ≤ a6 ∧ a6 ≤ 65536) (ha3 : -10000 ≤ a3 ∧ a3 ≤ 10000) :
    Ev (fun k => prio_Prio.l0 k 0 f1 f2 f3 f4 0 w0 w1 w2 w3 w4 a0 a1 a2 a3 a4 a5 a6)
      (if (0 ≤ w0 ∧ w0 ≤ 1048576) ∧ (0 ≤ w1 ∧ w1 ≤ 1048576) ∧ (0 ≤ w2 ∧ w2 ≤ 1048576) ∧ (0 ≤ w3 ∧ w3 ≤ 1048576) ∧ (0 ≤ w4 ∧ w4 ≤ 1048576) then (w0 * a6 / 65536 + w1 * f1 / 65536 + w2 * f2 / 65536 + w3 * f3 / 65536 + w4 * f4 / 65536 - a3, 0) else (0, 2)) := by
  have e1 : wrap64 (0 + 1) = 1 := by unfold wrap64; omega
  have e2 : wrap64 (1 + 1) = 2 := by unfold wrap64; omega
  have e3 : wrap64 (2 + 1) = 3 := by unfold wrap64; omega
  have e4 : wrap64 (3 + 1) = 4 := by unfold wrap64; omega
  have e5 : wrap64 (4 + 1) = 5 := by unfold wrap64; omega
  have ko : ∀ (c : Prop) [Decidable c] (x : Int × Int), ¬ c → (if c then x else ((0 : Int), (2 : Int))) = (0, 2) := fun c _ x h => if_neg h
  refine Ev.step (fun k => by rw [prio_Prio.l0]) (Ev.pos (by omega) (Ev.pos rfl ?_))
  simp only [in_f, Option.bind_some, decide_eq_true_eq]
  by_cases c0 : 0 ≤ w0 ∧ w0 ≤ 1048576
  case neg => rw [ko _ _ (fun h => c0 h.1)]; exact Ev.neg c0 (Ev.now _)
  obtain ⟨m0, d0, n0, x0⟩ := part_in c0.1 c0.2 h6.1 h6.2
  rw [m0, d0, e1, Int.zero_add, i64_in (x := w0 * a6 / 65536) (by omega) (by omega)]
  refine Ev.pos c0 (Ev.step (fun k => by rw [prio_Prio.l0]) (Ev.pos (by omega) (Ev.neg (by omega) (Ev.pos rfl ?_))))
  simp only [in_f, Option.bind_some, decide_eq_true_eq]
  by_cases c1 : 0 ≤ w1 ∧ w1 ≤ 1048576
  case neg => rw [ko _ _ (fun h => c1 h.2.1)]; exact Ev.neg c1 (Ev.now _)
  obtain ⟨m1, d1, n1, x1⟩ := part_in c1.1 c1.2 h1.1 h1.2
  rw [m1, d1, e2, i64_in (x := w0 * a6 / 65536 + w1 * f1 / 65536) (by omega) (by omega)]
  refine Ev.pos c1 (Ev.step (fun k => by rw [prio_Prio.l0]) (Ev.pos (by omega) (Ev.neg (by omega) (Ev.neg (by omega) (Ev.pos rfl ?_)))))
  simp only [in_f, Option.bind_some, decide_eq_true_eq]
  by_cases c2 : 0 ≤ w2 ∧ w2 ≤ 1048576
  case neg => rw [ko _ _ (fun h => c2 h.2.2.1)]; exact Ev.neg c2 (Ev.now _)
  obtain ⟨m2, d2, n2, x2⟩ := part_in c2.1 c2.2 h2.1 h2.2
  rw [m2, d2, e3, i64_in (x := w0 * a6 / 65536 + w1 * f1 / 65536 + w2 * f2 / 65536) (by omega) (by omega)]
  refine Ev.pos c2 (Ev.step (fun k => by rw [prio_Prio.l0]) (Ev.pos (by omega) (Ev.neg (by omega) (Ev.neg (by omega) (Ev.neg (by omega) (Ev.pos rfl ?_))))))
  simp only [in_f, Option.bind_some, decide_eq_true_eq]
  by_cases c3 : 0 ≤ w3 ∧ w3 ≤ 1048576
  case neg => rw [ko _ _ (fun h => c3 h.2.2.2.1)]; exact Ev.neg c3 (Ev.now _)
  obtain ⟨m3, d3, n3, x3⟩ := part_in c3.1 c3.2 h3.1 h3.2
  rw [m3, d3, e4, i64_in (x := w0 * a6 / 65536 + w1 * f1 / 65536 + w2 * f2 / 65536 + w3 * f3 / 65536) (by omega) (by omega)]
  refine Ev.pos c3 (Ev.step (fun k => by rw [prio_Prio.l0]) (Ev.pos (by omega) (Ev.neg (by omega) (Ev.neg (by omega) (Ev.neg (by omega) (Ev.neg (by omega) (Ev.pos rfl ?_)))))))
  simp only [in_f, Option.bind_some, decide_eq_true_eq]
  by_cases c4 : 0 ≤ w4 ∧ w4 ≤ 1048576
  case neg => rw [ko _ _ (fun h => c4 h.2.2.2.2)]; exact Ev.neg c4 (Ev.now _)
  obtain ⟨m4, d4, n4, x4⟩ := part_in c4.1 c4.2 h4.1 h4.2
  rw [m4, d4, e5, i64_in (x := w0 * a6 / 65536 + w1 * f1 / 65536 + w2 * f2 / 65536 + w3 * f3 / 65536 + w4 * f4 / 65536) (by omega) (by omega), if_pos ⟨c0, c1, c2, c3, c4⟩]
  refine Ev.pos c4 (Ev.step (fun k => by rw [prio_Prio.l0]) (Ev.neg (by omega) ?_))
  rw [i64_in (by omega) (by omega)]
  exact Ev.now _

theorem prio_prio {now all : Int} (h4 : a4 ≤ 9223372036854775807) (h5 : a5 ≤ 9223372036854775807) : Ev (fun k => prio_Prio.f k w0 w1 w2 w3 w4 a0 a1 a2 a3 a4 a5 a6 now all) (prioS w0 w1 w2 w3 w4 a0 a1 a2 a3 a4 a5 a6 now all) := by
  have bad : ¬ rightS w0 w1 w2 w3 w4 a0 a1 a3 a6 now all → Ev (fun k => prio_Prio.j0 k now all 0 true w0 w1 w2 w3 w4 a0 a1 a2 a3 a4 a5 a6) (prioS w0 w1 w2 w3 w4 a0 a1 a2 a3 a4 a5 a6 now all) := by
    intro h
    unfold prioS
    rw [if_neg h]
    exact Ev.step (fun k => by rw [prio_Prio.j0]) (Ev.pos rfl (Ev.now _))
  unfold prio_Prio.f
  simp only [in_f, Option.bind_some, decide_eq_true_eq]
  by_cases b0 : a0 = 0
  · exact Ev.pos b0 (bad fun h => h.1 b0)
  refine Ev.neg b0 ?_
  by_cases b6 : 0 ≤ a6 ∧ a6 ≤ 65536
  case neg => exact Ev.neg b6 (bad fun h => b6 h.2.1)
  refine Ev.pos b6 ?_
  by_cases b3 : -10000 ≤ a3 ∧ a3 ≤ 10000
  case neg => exact Ev.neg b3 (bad fun h => b3 h.2.2.1)
  refine Ev.pos b3 ?_
  by_cases b1 : a1 < 0
  · exact Ev.pos b1 (bad fun h => by have := h.2.2.2.1; omega)
  refine Ev.neg b1 ?_
  by_cases bn : 0 ≤ now ∧ now ≤ 1099511627776
  case neg => exact Ev.neg bn (bad fun h => bn h.2.2.2.2.1)
  refine Ev.pos bn ?_
  by_cases ba : 1 ≤ all ∧ all ≤ 1048576
  case neg => rw [decide_eq_false ba]; exact bad fun h => ba h.2.2.2.2.2.1
  rw [decide_eq_true ba]
  refine Ev.step (fun k => by rw [prio_Prio.j0]) (Ev.neg (by simp) (Ev.bind (prio_age (by omega)) (Ev.bind (prio_size (all := all) (by omega)) (Ev.bind (prio_of (m := 1048576) h4 (by omega)) (Ev.bind (prio_of (m := 1048576) h5 (by omega)) ?_)))))
  have hl := prio_loop w0 w1 w2 w3 w4 a0 a1 a2 a3 a4 a5 a6 (ageS_in a1 now) (sizeS_in a2 all) (ofS_in a4 1048576) (ofS_in a5 1048576) b6 b3
  unfold prioS
  by_cases c : (0 ≤ w0 ∧ w0 ≤ 1048576) ∧ (0 ≤ w1 ∧ w1 ≤ 1048576) ∧ (0 ≤ w2 ∧ w2 ≤ 1048576) ∧ (0 ≤ w3 ∧ w3 ≤ 1048576) ∧ (0 ≤ w4 ∧ w4 ≤ 1048576)
  · rw [if_pos c] at hl
    rw [if_pos (show rightS w0 w1 w2 w3 w4 a0 a1 a3 a6 now all from ⟨b0, b6, b3, by omega, bn, ba, c⟩)]
    exact hl
  · rw [if_neg c] at hl
    rw [if_neg (fun h : rightS w0 w1 w2 w3 w4 a0 a1 a3 a6 now all => c h.2.2.2.2.2.2)]
    exact hl

theorem right_end {now all : Int} (h0 : 0 ≤ a0) : (if a0 > 0 then (if a6 ≥ 0 then (if a6 ≤ 65536 then (if a3 ≥ (-10000) then (if a3 ≤ 10000 then (if a1 ≥ 0 then (if now ≥ 0 then (if now ≤ 1099511627776 then (if all ≥ 1 then (some (decide (all ≤ 1048576))) else (some false)) else (some false)) else (some false)) else (some false)) else (some false)) else (some false)) else (some false)) else (some false)) else (some false)) =
    some (decide (a0 ≠ 0 ∧ (0 ≤ a6 ∧ a6 ≤ 65536) ∧ (-10000 ≤ a3 ∧ a3 ≤ 10000) ∧ 0 ≤ a1 ∧ (0 ≤ now ∧ now ≤ 1099511627776) ∧ (1 ≤ all ∧ all ≤ 1048576))) := by
  by_cases c : a0 ≠ 0 ∧ (0 ≤ a6 ∧ a6 ≤ 65536) ∧ (-10000 ≤ a3 ∧ a3 ≤ 10000) ∧ 0 ≤ a1 ∧ (0 ≤ now ∧ now ≤ 1099511627776) ∧ (1 ≤ all ∧ all ≤ 1048576)
  · rw [decide_eq_true c]
    obtain ⟨b0, b6, b3, b1, bn, ba⟩ := c
    rw [if_pos (by omega), if_pos (by omega), if_pos (by omega), if_pos (by omega), if_pos (by omega), if_pos (by omega), if_pos (by omega), if_pos (by omega), if_pos (by omega), decide_eq_true (by omega)]
  · rw [decide_eq_false c]
    repeat' split
    all_goals first | rfl | (congr 1; rw [decide_eq_false_iff_not]; intro h; apply c; omega)

theorem ref_right {now all : Int} (h0 : 0 ≤ a0) : Ev (fun k => gangerref12_right.f k w0 w1 w2 w3 w4 a0 a1 a2 a3 a4 a5 a6 now all) (decide (rightS w0 w1 w2 w3 w4 a0 a1 a3 a6 now all)) := by
  have step : ∀ (i : Int) (w : Int) (r : Bool), 0 ≤ i → i < 5 → rd [w0, w1, w2, w3, w4] i = w → (0 ≤ w ∧ w ≤ 1048576 → Ev (fun k => gangerref12_right.l0 k now all [w0, w1, w2, w3, w4] (i + 1) a0 a1 a2 a3 a4 a5 a6) r) → (¬ (0 ≤ w ∧ w ≤ 1048576) → r = false) →
      Ev (fun k => gangerref12_right.l0 k now all [w0, w1, w2, w3, w4] i a0 a1 a2 a3 a4 a5 a6) r := by
    intro i w r hi0 hi1 hw h hn
    refine Ev.step (fun k => by rw [gangerref12_right.l0]) (Ev.pos (by simp only [List.length_cons, List.length_nil]; omega) (Ev.pos hi0 ?_))
    rw [hw, i64_in (x := i + 1) (by omega) (by omega)]
    by_cases c : w < 0
    · rw [hn (by omega)]
      exact Ev.pos c (Ev.now _)
    · refine Ev.neg c ?_
      by_cases c2 : w > 1048576
      · rw [hn (by omega)]
        exact Ev.pos c2 (Ev.now _)
      · exact Ev.neg c2 (h (by omega))
  have nope : ∀ {p : Prop} [Decidable p], ¬ p → decide p = false := fun h => decide_eq_false h
  unfold gangerref12_right.f
  refine step 0 w0 _ (by omega) (by omega) rfl (fun c0 => ?_) (fun h => nope fun r => h r.2.2.2.2.2.2.1)
  refine step 1 w1 _ (by omega) (by omega) rfl (fun c1 => ?_) (fun h => nope fun r => h r.2.2.2.2.2.2.2.1)
  refine step 2 w2 _ (by omega) (by omega) rfl (fun c2 => ?_) (fun h => nope fun r => h r.2.2.2.2.2.2.2.2.1)
  refine step 3 w3 _ (by omega) (by omega) rfl (fun c3 => ?_) (fun h => nope fun r => h r.2.2.2.2.2.2.2.2.2.1)
  refine step 4 w4 _ (by omega) (by omega) rfl (fun c4 => ?_) (fun h => nope fun r => h r.2.2.2.2.2.2.2.2.2.2)
  refine Ev.step (fun k => by rw [gangerref12_right.l0]) (Ev.neg (by simp) ?_)
  refine Ev.const ((right_end a0 a1 a3 a6 h0).trans ?_)
  congr 1
  exact decide_eq_decide.2 ⟨fun ⟨h1, h2, h3, h4, h5, h6⟩ => ⟨h1, h2, h3, h4, h5, h6, c0, c1, c2, c3, c4⟩, fun ⟨h1, h2, h3, h4, h5, h6, _⟩ => ⟨h1, h2, h3, h4, h5, h6⟩⟩

theorem ref_prio {now all : Int} (h0 : 0 ≤ a0) (h4 : a4 ≤ 9223372036854775807) (h5 : a5 ≤ 9223372036854775807) : Ev (fun k => gangerref12_Prio.f k w0 w1 w2 w3 w4 a0 a1 a2 a3 a4 a5 a6 now all) (prioS w0 w1 w2 w3 w4 a0 a1 a2 a3 a4 a5 a6 now all) := by
  unfold gangerref12_Prio.f
  refine Ev.bind (ref_right w0 w1 w2 w3 w4 a0 a1 a2 a3 a4 a5 a6 h0) ?_
  unfold prioS
  by_cases c : rightS w0 w1 w2 w3 w4 a0 a1 a3 a6 now all
  case neg =>
    rw [if_neg c, decide_eq_false c]
    exact Ev.neg (by simp) (Ev.now _)
  rw [if_pos c, decide_eq_true c]
  obtain ⟨b0, b6, b3, b1, bn, ba, c0, c1, c2, c3, c4⟩ := c
  refine Ev.pos rfl (Ev.bind (ref_age (by omega)) (Ev.bind (ref_size (all := all) (by omega)) (Ev.bind (ref_of12 (m := 1048576) h4 (by omega)) (Ev.bind (ref_of12 (m := 1048576) h5 (by omega)) ?_))))
  obtain ⟨m0, d0, n0, x0⟩ := part_in c0.1 c0.2 b6.1 b6.2
  obtain ⟨m1, d1, n1, x1⟩ := part_in c1.1 c1.2 (ageS_in a1 now).1 (ageS_in a1 now).2
  obtain ⟨m2, d2, n2, x2⟩ := part_in c2.1 c2.2 (sizeS_in a2 all).1 (sizeS_in a2 all).2
  obtain ⟨m3, d3, n3, x3⟩ := part_in c3.1 c3.2 (ofS_in a4 1048576).1 (ofS_in a4 1048576).2
  obtain ⟨m4, d4, n4, x4⟩ := part_in c4.1 c4.2 (ofS_in a5 1048576).1 (ofS_in a5 1048576).2
  rw [m0, d0, m1, d1, m2, d2, m3, d3, m4, d4]
  unfold sumS
  generalize w0 * a6 / 65536 = y0 at *
  generalize w1 * ageS a1 now / 65536 = y1 at *
  generalize w2 * sizeS a2 all / 65536 = y2 at *
  generalize w3 * ofS a4 1048576 / 65536 = y3 at *
  generalize w4 * ofS a5 1048576 / 65536 = y4 at *
  rw [i64_in (x := y0 + y1) (by omega) (by omega), i64_in (x := y0 + y1 + y2) (by omega) (by omega), i64_in (x := y0 + y1 + y2 + y3) (by omega) (by omega), i64_in (x := y0 + y1 + y2 + y3 + y4) (by omega) (by omega), i64_in (by omega) (by omega)]
  exact Ev.now _
end

theorem known_true : Ev (fun k => gangerlaw12_known.f k) true := by
  unfold gangerlaw12_known.f
  refine Ev.bind (prio_prio _ _ _ _ _ _ _ _ _ _ _ _ (by omega) (by omega)) (Ev.bind (prio_prio _ _ _ _ _ _ _ _ _ _ _ _ (by omega) (by omega)) (Ev.bind (prio_prio _ _ _ _ _ _ _ _ _ _ _ _ (by omega) (by omega)) ?_))
  refine Ev.pos (by decide) (Ev.pos (by decide) (Ev.pos (by decide) (Ev.pos (by decide) (Ev.pos (by decide) (Ev.bind (prio_size (by omega)) (Ev.pos (by decide) (Ev.bind (prio_of (by omega) (by omega)) ?_)))))))
  exact Ev.now _

end Go.Proofs.Ytgkmfhmodojdcaa.Num
