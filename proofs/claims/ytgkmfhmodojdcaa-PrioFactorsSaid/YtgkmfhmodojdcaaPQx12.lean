-- Laid by a program of this session, over the kit's print; Lean checks it.
import Derived.Test.YtgkmfhmodojdcaaPQx0
import Derived.Test.YtgkmfhmodojdcaaPQx4
import Derived.Test.YtgkmfhmodojdcaaPQx5
import Derived.Test.YtgkmfhmodojdcaaPQx9
import Derived.Test.YtgkmfhmodojdcaaPQx11
namespace Go.Proofs.Ytgkmfhmodojdcaa.PQ
open Go.RowKit Go.Proofs.YtgkmfhmodojdcaaW.PrintWords Go.Proofs.YtgkmfhmodojdcaaW.PrintLast Go.Proofs.YtgkmfhmodojdcaaW.PrintMore Go.Proofs.YtgkmfhmodojdcaaX
attribute [local go_sem] max2_int min2_int max_two min_two max_three min_three max_four min_four isSome_cell_set   -- for this text's walks alone
set_option linter.unusedVariables false
set_option linter.unusedSimpArgs false

/-! ### gangerlaw12_PrioFactors: function 3 -/
def gangerlaw12_PrioFactors.j0 : Nat → Int → Int → Int → Int → Int → Bool → Option (Bool)
  | 0, _, _, _, _, _, _ => none
  | k + 1, x0, x1, x5, x6, x7, x8 => if x8 = true then ((gangerref12_Age.f k x0 x1).bind fun t191 => (if x5 = t191 then ((gangerref12_Size.f k x0 x1).bind fun t192 => (if x6 = t192 then ((gangerref12_Of.f k x0 x1).bind fun t193 => (if x7 = t193 then ((gangerlaw12_known.f k).bind fun t194 => (some t194)) else (some false))) else (some false))) else (some false))) else (some false)
def gangerlaw12_PrioFactors.f (k : Nat) (a0 : Int) (a1 : Int) : Option (Bool) := (prio_Age.f k a0 a1).bind fun t188 => ((prio_Size.f k a0 a1).bind fun t189 => ((prio_Of.f k a0 a1).bind fun t190 => (if t188 ≥ 0 then (if t188 ≤ 65536 then (if t189 ≥ 0 then (if t189 ≤ 65536 then (if t190 ≥ 0 then (gangerlaw12_PrioFactors.j0 k a0 a1 t188 t189 t190 (decide (t190 ≤ 65536))) else (gangerlaw12_PrioFactors.j0 k a0 a1 t188 t189 t190 false)) else (gangerlaw12_PrioFactors.j0 k a0 a1 t188 t189 t190 false)) else (gangerlaw12_PrioFactors.j0 k a0 a1 t188 t189 t190 false)) else (gangerlaw12_PrioFactors.j0 k a0 a1 t188 t189 t190 false)) else (gangerlaw12_PrioFactors.j0 k a0 a1 t188 t189 t190 false))))
theorem gangerlaw12_PrioFactors.mono_l : ∀ k, (∀ y0 y1 y2 y3 y4 y5, LeO (gangerlaw12_PrioFactors.j0 k y0 y1 y2 y3 y4 y5) (gangerlaw12_PrioFactors.j0 (k + 1) y0 y1 y2 y3 y4 y5))
  | 0 => fun _ _ _ _ _ _ r h => by simp [gangerlaw12_PrioFactors.j0] at h
  | k + 1 => by
    have ih0 := gangerlaw12_PrioFactors.mono_l k
    · intro y0 y1 y2 y3 y4 y5
      unfold gangerlaw12_PrioFactors.j0
      repeat' first
      | (with_reducible exact ih0 _ _ _ _ _ _)
      | (with_reducible exact gangerlaw12_known.mono _)
      | (with_reducible exact gangerref12_Age.mono _ _ _)
      | (with_reducible exact gangerref12_Of.mono _ _ _)
      | (with_reducible exact gangerref12_Size.mono _ _ _)
      | (with_reducible exact prio_Age.mono _ _ _)
      | (with_reducible exact prio_Of.mono _ _ _)
      | (with_reducible exact prio_Size.mono _ _ _)
      | (with_reducible exact LeO.refl _)
      | (with_reducible exact LeO.none _)
      | (with_reducible refine LeO.ite ?_ ?_)
      | (with_reducible refine LeO.bind ?_ (fun _ => ?_))
      | exact ih0 _ _ _ _ _ _
      | exact gangerlaw12_known.mono _
      | exact gangerref12_Age.mono _ _ _
      | exact gangerref12_Of.mono _ _ _
      | exact gangerref12_Size.mono _ _ _
      | exact prio_Age.mono _ _ _
      | exact prio_Of.mono _ _ _
      | exact prio_Size.mono _ _ _
      | exact LeO.none _
      | refine LeO.ite ?_ ?_
      | refine LeO.bind ?_ (fun _ => ?_)
theorem gangerlaw12_PrioFactors.mono : ∀ a0 a1 k, LeO (gangerlaw12_PrioFactors.f k a0 a1) (gangerlaw12_PrioFactors.f (k + 1) a0 a1) := by
  intro a0 a1 k
  have ih0 := gangerlaw12_PrioFactors.mono_l k
  unfold gangerlaw12_PrioFactors.f
  repeat' first
      | (with_reducible exact ih0 _ _ _ _ _ _)
      | (with_reducible exact gangerlaw12_known.mono _)
      | (with_reducible exact gangerref12_Age.mono _ _ _)
      | (with_reducible exact gangerref12_Of.mono _ _ _)
      | (with_reducible exact gangerref12_Size.mono _ _ _)
      | (with_reducible exact prio_Age.mono _ _ _)
      | (with_reducible exact prio_Of.mono _ _ _)
      | (with_reducible exact prio_Size.mono _ _ _)
      | (with_reducible exact LeO.refl _)
      | (with_reducible exact LeO.none _)
      | (with_reducible refine LeO.ite ?_ ?_)
      | (with_reducible refine LeO.bind ?_ (fun _ => ?_))
      | exact ih0 _ _ _ _ _ _
      | exact gangerlaw12_known.mono _
      | exact gangerref12_Age.mono _ _ _
      | exact gangerref12_Of.mono _ _ _
      | exact gangerref12_Size.mono _ _ _
      | exact prio_Age.mono _ _ _
      | exact prio_Of.mono _ _ _
      | exact prio_Size.mono _ _ _
      | exact LeO.none _
      | refine LeO.ite ?_ ?_
      | refine LeO.bind ?_ (fun _ => ?_)
set_option maxHeartbeats 8000000 in
set_option maxRecDepth 100000 in
theorem gangerlaw12_PrioFactors.calls (k : Nat) (a0 : Int) (a1 : Int) (r : Bool) (w : World) (h : gangerlaw12_PrioFactors.f k a0 a1 = some r) :
    Calls Try.prog 3 #[.int .i64 a0, .int .i64 a1] w fun e w' => e = .returned (.bool r) ∧ Below w.heap.size w w' := by
  have HB := Aside0.mk (Below.refl w.heap.size w)
  have H : ((prio_Age.f k a0 a1).bind fun t188 => ((prio_Size.f k a0 a1).bind fun t189 => ((prio_Of.f k a0 a1).bind fun t190 => (if t188 ≥ 0 then (if t188 ≤ 65536 then (if t189 ≥ 0 then (if t189 ≤ 65536 then (if t190 ≥ 0 then (gangerlaw12_PrioFactors.j0 k a0 a1 t188 t189 t190 (decide (t190 ≤ 65536))) else (gangerlaw12_PrioFactors.j0 k a0 a1 t188 t189 t190 false)) else (gangerlaw12_PrioFactors.j0 k a0 a1 t188 t189 t190 false)) else (gangerlaw12_PrioFactors.j0 k a0 a1 t188 t189 t190 false)) else (gangerlaw12_PrioFactors.j0 k a0 a1 t188 t189 t190 false)) else (gangerlaw12_PrioFactors.j0 k a0 a1 t188 t189 t190 false))))) = some r := h
  clear h
  replace H := Option.bind_eq_some_iff.mp H
  obtain ⟨t188, A30, H⟩ := H
  replace H : ((prio_Size.f k a0 a1).bind fun t189 => ((prio_Of.f k a0 a1).bind fun t190 => (if t188 ≥ 0 then (if t188 ≤ 65536 then (if t189 ≥ 0 then (if t189 ≤ 65536 then (if t190 ≥ 0 then (gangerlaw12_PrioFactors.j0 k a0 a1 t188 t189 t190 (decide (t190 ≤ 65536))) else (gangerlaw12_PrioFactors.j0 k a0 a1 t188 t189 t190 false)) else (gangerlaw12_PrioFactors.j0 k a0 a1 t188 t189 t190 false)) else (gangerlaw12_PrioFactors.j0 k a0 a1 t188 t189 t190 false)) else (gangerlaw12_PrioFactors.j0 k a0 a1 t188 t189 t190 false)) else (gangerlaw12_PrioFactors.j0 k a0 a1 t188 t189 t190 false)))) = some r := H
  have A3 := Aside0.mk A30
  clear A30
  replace H := Option.bind_eq_some_iff.mp H
  obtain ⟨t189, A40, H⟩ := H
  replace H : ((prio_Of.f k a0 a1).bind fun t190 => (if t188 ≥ 0 then (if t188 ≤ 65536 then (if t189 ≥ 0 then (if t189 ≤ 65536 then (if t190 ≥ 0 then (gangerlaw12_PrioFactors.j0 k a0 a1 t188 t189 t190 (decide (t190 ≤ 65536))) else (gangerlaw12_PrioFactors.j0 k a0 a1 t188 t189 t190 false)) else (gangerlaw12_PrioFactors.j0 k a0 a1 t188 t189 t190 false)) else (gangerlaw12_PrioFactors.j0 k a0 a1 t188 t189 t190 false)) else (gangerlaw12_PrioFactors.j0 k a0 a1 t188 t189 t190 false)) else (gangerlaw12_PrioFactors.j0 k a0 a1 t188 t189 t190 false))) = some r := H
  have A4 := Aside0.mk A40
  clear A40
  replace H := Option.bind_eq_some_iff.mp H
  obtain ⟨t190, A50, H⟩ := H
  replace H : (if t188 ≥ 0 then (if t188 ≤ 65536 then (if t189 ≥ 0 then (if t189 ≤ 65536 then (if t190 ≥ 0 then (gangerlaw12_PrioFactors.j0 k a0 a1 t188 t189 t190 (decide (t190 ≤ 65536))) else (gangerlaw12_PrioFactors.j0 k a0 a1 t188 t189 t190 false)) else (gangerlaw12_PrioFactors.j0 k a0 a1 t188 t189 t190 false)) else (gangerlaw12_PrioFactors.j0 k a0 a1 t188 t189 t190 false)) else (gangerlaw12_PrioFactors.j0 k a0 a1 t188 t189 t190 false)) else (gangerlaw12_PrioFactors.j0 k a0 a1 t188 t189 t190 false)) = some r := H
  have A5 := Aside0.mk A50
  clear A50
  have HC6 := Aside0.mk H
  clear H
  go_enter Try.func3, Try.ntmps3
  go_upto_region 4 with (first | ((with_reducible refine gate_callee (f := 10) rfl ?_); refine goesL_ (some 11) rfl rfl Try.func10 (by kernel_rfl) rfl #[.int .i64 a0, .int .i64 a1] rfl (by (try simp only [List.map_toArray, List.map_cons, List.map_nil]); first | done | rfl | (simp only [List.length_drop, List.length_take]; rfl)) ?_; (with_reducible refine (prio_Age.calls k a0 a1 t188 _ A3.out).mono ?_); rintro e w7 ⟨rfl, hb⟩; refine ⟨_, rfl, ?_⟩; have n0_ := Aside0.mk (below_step (by repeat (first | (with_reducible first | exact HB.out | apply below_alloc | apply pw_below_drewN | apply below_drew1) | exact HB.out)) hb); clear HB; have HB := n0_; clear n0_; (try clear hb); (try clear hb2); (try clear hk); (try clear hi)) | ((with_reducible refine gate_callee (f := 11) rfl ?_); refine goesL_ (some 14) rfl rfl Try.func11 (by kernel_rfl) rfl #[.int .i64 a0, .int .i64 a1] rfl (by (try simp only [List.map_toArray, List.map_cons, List.map_nil]); first | done | rfl | (simp only [List.length_drop, List.length_take]; rfl)) ?_; (with_reducible refine (prio_Size.calls k a0 a1 t189 _ A4.out).mono ?_); rintro e w' ⟨rfl, ⟨nd, rfl⟩⟩; refine ⟨_, rfl, ?_⟩) | ((with_reducible refine gate_callee (f := 12) rfl ?_); refine goesL_ (some 17) rfl rfl Try.func12 (by kernel_rfl) rfl #[.int .i64 a0, .int .i64 a1] rfl (by (try simp only [List.map_toArray, List.map_cons, List.map_nil]); first | done | rfl | (simp only [List.length_drop, List.length_take]; rfl)) ?_; (with_reducible refine (prio_Of.calls k a0 a1 t190 _ A5.out).mono ?_); rintro e w' ⟨rfl, ⟨nd, rfl⟩⟩; refine ⟨_, rfl, ?_⟩))
  (try simp only [Act.put, List.setIfInBounds_toArray, List.set_cons_zero, List.set_cons_succ])
  go_cut [8] (fun v8 wc => ∃ (kq : Nat) (x8_5 : Bool), v8 = .bool x8_5 ∧ Aside0 (gangerlaw12_PrioFactors.j0 kq a0 a1 t188 t189 t190 x8_5 = some r) ∧ Aside0 (kq ≤ k) ∧ Aside0 (Below w.heap.size w wc))
  case first =>
    have H := HC6.out
    clear HC6
    by_cases c8 : t188 ≥ 0
    · rw [if_pos c8] at H
      have c8b0 : decide (0 ≤ t188) = true := decide_eq_true c8
      clear c8
      (first | rw [c8b0] | (simp only [i64_w, i32_w]; rw [c8b0]) | skip)
      by_cases c9 : t188 ≤ 65536
      · rw [if_pos c9] at H
        have c9b0 : decide (t188 ≤ 65536) = true := decide_eq_true c9
        clear c9
        by_cases c10 : t189 ≥ 0
        · rw [if_pos c10] at H
          have c10b0 : decide (0 ≤ t189) = true := decide_eq_true c10
          clear c10
          by_cases c11 : t189 ≤ 65536
          · rw [if_pos c11] at H
            have c11b0 : decide (t189 ≤ 65536) = true := decide_eq_true c11
            clear c11
            by_cases c12 : t190 ≥ 0
            · rw [if_pos c12] at H
              have c12b0 : decide (0 ≤ t190) = true := decide_eq_true c12
              clear c12
              have H' := Aside0.mk H
              clear H
              go_wp2
              go_meet
              case rel => exact ⟨_, (decide (t190 ≤ 65536)), (by first | rfl | (simp; done) | (simp [*]; done)), H', ⟨by first | omega | exact Nat.le_refl _⟩, ⟨by repeat (first | (with_reducible first | exact HB.out | apply below_alloc | apply pw_below_drewN | apply below_drew1) | exact HB.out)⟩⟩
            · rw [if_neg c12] at H
              have c12b0 : decide (0 ≤ t190) = false := decide_eq_false c12
              clear c12
              have H' := Aside0.mk H
              clear H
              go_wp2
              go_meet
              case rel => exact ⟨_, (false), (by first | rfl | (simp; done) | (simp [*]; done)), H', ⟨by first | omega | exact Nat.le_refl _⟩, ⟨by repeat (first | (with_reducible first | exact HB.out | apply below_alloc | apply pw_below_drewN | apply below_drew1) | exact HB.out)⟩⟩
          · rw [if_neg c11] at H
            have c11b0 : decide (t189 ≤ 65536) = false := decide_eq_false c11
            clear c11
            have H' := Aside0.mk H
            clear H
            go_wp2
            go_meet
            case rel => exact ⟨_, (false), (by first | rfl | (simp; done) | (simp [*]; done)), H', ⟨by first | omega | exact Nat.le_refl _⟩, ⟨by repeat (first | (with_reducible first | exact HB.out | apply below_alloc | apply pw_below_drewN | apply below_drew1) | exact HB.out)⟩⟩
        · rw [if_neg c10] at H
          have c10b0 : decide (0 ≤ t189) = false := decide_eq_false c10
          clear c10
          have H' := Aside0.mk H
          clear H
          go_wp2
          go_meet
          case rel => exact ⟨_, (false), (by first | rfl | (simp; done) | (simp [*]; done)), H', ⟨by first | omega | exact Nat.le_refl _⟩, ⟨by repeat (first | (with_reducible first | exact HB.out | apply below_alloc | apply pw_below_drewN | apply below_drew1) | exact HB.out)⟩⟩
      · rw [if_neg c9] at H
        have c9b0 : decide (t188 ≤ 65536) = false := decide_eq_false c9
        clear c9
        have H' := Aside0.mk H
        clear H
        go_wp2
        go_meet
        case rel => exact ⟨_, (false), (by first | rfl | (simp; done) | (simp [*]; done)), H', ⟨by first | omega | exact Nat.le_refl _⟩, ⟨by repeat (first | (with_reducible first | exact HB.out | apply below_alloc | apply pw_below_drewN | apply below_drew1) | exact HB.out)⟩⟩
    · rw [if_neg c8] at H
      have c8b0 : decide (0 ≤ t188) = false := decide_eq_false c8
      clear c8
      (first | rw [c8b0] | (simp only [i64_w, i32_w]; rw [c8b0]) | skip)
      have H' := Aside0.mk H
      clear H
      go_wp2
      go_meet
      case rel => exact ⟨_, (false), (by first | rfl | (simp; done) | (simp [*]; done)), H', ⟨by first | omega | exact Nat.le_refl _⟩, ⟨by repeat (first | (with_reducible first | exact HB.out | apply below_alloc | apply pw_below_drewN | apply below_drew1) | exact HB.out)⟩⟩
  case rest =>
    clear HC6
    try clear c1
    try clear p2
    try clear c3
    try clear c8
    try clear c8b0
    try clear c9
    try clear c9b0
    try clear c10
    try clear c10b0
    try clear c11
    try clear c11b0
    try clear c12
    try clear c12b0
    obtain ⟨kq, x8_5, rfl, HA, HJ5, HB⟩ := hcut
    cases kq with
    | zero => exact absurd HA.out (by simp [gangerlaw12_PrioFactors.j0])
    | succ kj5 =>
      have H := HA.out
      clear HA
      simp only [gangerlaw12_PrioFactors.j0] at H
      by_cases c13 : x8_5 = true
      · subst c13
        have H1 : ((gangerref12_Age.f kj5 a0 a1).bind fun t191 => (if t188 = t191 then ((gangerref12_Size.f kj5 a0 a1).bind fun t192 => (if t189 = t192 then ((gangerref12_Of.f kj5 a0 a1).bind fun t193 => (if t190 = t193 then ((gangerlaw12_known.f kj5).bind fun t194 => (some t194)) else (some false))) else (some false))) else (some false))) = some r := by rw [if_pos rfl] at H; exact H
        clear H
        have H := H1
        clear H1
        replace H := Option.bind_eq_some_iff.mp H
        obtain ⟨t191, A140, H⟩ := H
        replace H : (if t188 = t191 then ((gangerref12_Size.f kj5 a0 a1).bind fun t192 => (if t189 = t192 then ((gangerref12_Of.f kj5 a0 a1).bind fun t193 => (if t190 = t193 then ((gangerlaw12_known.f kj5).bind fun t194 => (some t194)) else (some false))) else (some false))) else (some false)) = some r := H
        have A14 := Aside0.mk A140
        clear A140
        by_cases c15 : t188 = t191
        · rw [if_pos c15] at H
          have c15b0 : (t188 == t191) = true := beq_iff_eq.mpr c15
          have c15b1 : (t188 != t191) = false := bne_eq_false_iff_eq.mpr c15
          clear c15
          replace H := Option.bind_eq_some_iff.mp H
          obtain ⟨t192, A160, H⟩ := H
          replace H : (if t189 = t192 then ((gangerref12_Of.f kj5 a0 a1).bind fun t193 => (if t190 = t193 then ((gangerlaw12_known.f kj5).bind fun t194 => (some t194)) else (some false))) else (some false)) = some r := H
          have A16 := Aside0.mk A160
          clear A160
          by_cases c17 : t189 = t192
          · rw [if_pos c17] at H
            have c17b0 : (t189 == t192) = true := beq_iff_eq.mpr c17
            have c17b1 : (t189 != t192) = false := bne_eq_false_iff_eq.mpr c17
            clear c17
            replace H := Option.bind_eq_some_iff.mp H
            obtain ⟨t193, A180, H⟩ := H
            replace H : (if t190 = t193 then ((gangerlaw12_known.f kj5).bind fun t194 => (some t194)) else (some false)) = some r := H
            have A18 := Aside0.mk A180
            clear A180
            by_cases c19 : t190 = t193
            · rw [if_pos c19] at H
              have c19b0 : (t190 == t193) = true := beq_iff_eq.mpr c19
              have c19b1 : (t190 != t193) = false := bne_eq_false_iff_eq.mpr c19
              clear c19
              replace H := Option.bind_eq_some_iff.mp H
              obtain ⟨t194, A200, H⟩ := H
              replace H : (some t194) = some r := H
              have A20 := Aside0.mk A200
              clear A200
              obtain rfl := Option.some.inj H
              go_wp2_with (first | (go_at_call 13; (with_reducible refine (gangerref12_Age.calls kj5 a0 a1 t191 _ A14.out).mono ?_); rintro e w21 ⟨rfl, hb⟩; have n0_ := Aside0.mk (below_step (by repeat (first | (with_reducible first | exact HB.out | apply below_alloc | apply pw_below_drewN | apply below_drew1) | exact HB.out)) hb); clear HB; have HB := n0_; clear n0_; (try clear hb); (try clear hb2); (try clear hk); (try clear hi)) | (go_at_call 14; (with_reducible refine (gangerref12_Size.calls kj5 a0 a1 t192 _ A16.out).mono ?_); rintro e w22 ⟨rfl, hb⟩; have n0_ := Aside0.mk (below_step (by repeat (first | (with_reducible first | exact HB.out | apply below_alloc | apply pw_below_drewN | apply below_drew1) | exact HB.out)) hb); clear HB; have HB := n0_; clear n0_; (try clear hb); (try clear hb2); (try clear hk); (try clear hi)) | (go_at_call 15; (with_reducible refine (gangerref12_Of.calls kj5 a0 a1 t193 _ A18.out).mono ?_); rintro e w23 ⟨rfl, hb⟩; have n0_ := Aside0.mk (below_step (by repeat (first | (with_reducible first | exact HB.out | apply below_alloc | apply pw_below_drewN | apply below_drew1) | exact HB.out)) hb); clear HB; have HB := n0_; clear n0_; (try clear hb); (try clear hb2); (try clear hk); (try clear hi)) | (go_at_call 16; (with_reducible refine (gangerlaw12_known.calls kj5  t194 _ A20.out).mono ?_); rintro e w24 ⟨rfl, hb⟩; have n0_ := Aside0.mk (below_step (by repeat (first | (with_reducible first | exact HB.out | apply below_alloc | apply pw_below_drewN | apply below_drew1) | exact HB.out)) hb); clear HB; have HB := n0_; clear n0_; (try clear hb); (try clear hb2); (try clear hk); (try clear hi)))
              go_ret
              exact ⟨by first | rfl | (simp [errW_none, errW_some] <;> rfl) | (simp [*, errW_none, errW_some] <;> rfl), by repeat (first | (with_reducible first | exact HB.out | apply below_alloc | apply pw_below_drewN | apply below_drew1) | exact HB.out)⟩
            · rw [if_neg c19] at H
              have c19b0 : (t190 == t193) = false := beq_eq_false_iff_ne.mpr c19
              have c19b1 : (t190 != t193) = true := bne_iff_ne.mpr c19
              obtain rfl := Option.some.inj H
              go_wp2_with (first | (go_at_call 13; (with_reducible refine (gangerref12_Age.calls kj5 a0 a1 t191 _ A14.out).mono ?_); rintro e w25 ⟨rfl, hb⟩; have n0_ := Aside0.mk (below_step (by repeat (first | (with_reducible first | exact HB.out | apply below_alloc | apply pw_below_drewN | apply below_drew1) | exact HB.out)) hb); clear HB; have HB := n0_; clear n0_; (try clear hb); (try clear hb2); (try clear hk); (try clear hi)) | (go_at_call 14; (with_reducible refine (gangerref12_Size.calls kj5 a0 a1 t192 _ A16.out).mono ?_); rintro e w26 ⟨rfl, hb⟩; have n0_ := Aside0.mk (below_step (by repeat (first | (with_reducible first | exact HB.out | apply below_alloc | apply pw_below_drewN | apply below_drew1) | exact HB.out)) hb); clear HB; have HB := n0_; clear n0_; (try clear hb); (try clear hb2); (try clear hk); (try clear hi)) | (go_at_call 15; (with_reducible refine (gangerref12_Of.calls kj5 a0 a1 t193 _ A18.out).mono ?_); rintro e w27 ⟨rfl, hb⟩; have n0_ := Aside0.mk (below_step (by repeat (first | (with_reducible first | exact HB.out | apply below_alloc | apply pw_below_drewN | apply below_drew1) | exact HB.out)) hb); clear HB; have HB := n0_; clear n0_; (try clear hb); (try clear hb2); (try clear hk); (try clear hi)))
              go_ret
              exact ⟨by first | rfl | (simp [errW_none, errW_some] <;> rfl) | (simp [*, errW_none, errW_some] <;> rfl), by repeat (first | (with_reducible first | exact HB.out | apply below_alloc | apply pw_below_drewN | apply below_drew1) | exact HB.out)⟩
          · rw [if_neg c17] at H
            have c17b0 : (t189 == t192) = false := beq_eq_false_iff_ne.mpr c17
            have c17b1 : (t189 != t192) = true := bne_iff_ne.mpr c17
            obtain rfl := Option.some.inj H
            go_wp2_with (first | (go_at_call 13; (with_reducible refine (gangerref12_Age.calls kj5 a0 a1 t191 _ A14.out).mono ?_); rintro e w28 ⟨rfl, hb⟩; have n0_ := Aside0.mk (below_step (by repeat (first | (with_reducible first | exact HB.out | apply below_alloc | apply pw_below_drewN | apply below_drew1) | exact HB.out)) hb); clear HB; have HB := n0_; clear n0_; (try clear hb); (try clear hb2); (try clear hk); (try clear hi)) | (go_at_call 14; (with_reducible refine (gangerref12_Size.calls kj5 a0 a1 t192 _ A16.out).mono ?_); rintro e w29 ⟨rfl, hb⟩; have n0_ := Aside0.mk (below_step (by repeat (first | (with_reducible first | exact HB.out | apply below_alloc | apply pw_below_drewN | apply below_drew1) | exact HB.out)) hb); clear HB; have HB := n0_; clear n0_; (try clear hb); (try clear hb2); (try clear hk); (try clear hi)))
            go_ret
            exact ⟨by first | rfl | (simp [errW_none, errW_some] <;> rfl) | (simp [*, errW_none, errW_some] <;> rfl), by repeat (first | (with_reducible first | exact HB.out | apply below_alloc | apply pw_below_drewN | apply below_drew1) | exact HB.out)⟩
        · rw [if_neg c15] at H
          have c15b0 : (t188 == t191) = false := beq_eq_false_iff_ne.mpr c15
          have c15b1 : (t188 != t191) = true := bne_iff_ne.mpr c15
          obtain rfl := Option.some.inj H
          go_wp2_with (first | (go_at_call 13; (with_reducible refine (gangerref12_Age.calls kj5 a0 a1 t191 _ A14.out).mono ?_); rintro e w30 ⟨rfl, hb⟩; have n0_ := Aside0.mk (below_step (by repeat (first | (with_reducible first | exact HB.out | apply below_alloc | apply pw_below_drewN | apply below_drew1) | exact HB.out)) hb); clear HB; have HB := n0_; clear n0_; (try clear hb); (try clear hb2); (try clear hk); (try clear hi)))
          go_ret
          exact ⟨by first | rfl | (simp [errW_none, errW_some] <;> rfl) | (simp [*, errW_none, errW_some] <;> rfl), by repeat (first | (with_reducible first | exact HB.out | apply below_alloc | apply pw_below_drewN | apply below_drew1) | exact HB.out)⟩
      · replace c13 := Bool.eq_false_iff.mpr c13
        subst c13
        have H1 : (some false) = some r := by rw [if_neg (show ¬ (false = true) by decide)] at H; exact H
        clear H
        have H := H1
        clear H1
        obtain rfl := Option.some.inj H
        go_wp2
        go_ret
        exact ⟨by first | rfl | (simp [errW_none, errW_some] <;> rfl) | (simp [*, errW_none, errW_some] <;> rfl), by repeat (first | (with_reducible first | exact HB.out | apply below_alloc | apply pw_below_drewN | apply below_drew1) | exact HB.out)⟩

/-- THE ONE PURE STATEMENT of gangerlaw12_PrioFactors: yours. -/
def gangerlaw12_PrioFactors.Pure : Prop := ∀ (a0 : Int) (a1 : Int), (Lit.int .i64 a0).wf = true → (Lit.int .i64 a1).wf = true → ∃ k, gangerlaw12_PrioFactors.f k a0 a1 = some true

end Go.Proofs.Ytgkmfhmodojdcaa.PQ
