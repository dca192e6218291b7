import Derived.Test.YtgkmfhmodojdcaaPQx0
import Derived.Test.YtgkmfhmodojdcaaPQx5
namespace Go.Proofs.Ytgkmfhmodojdcaa.PQ
open Go.RowKit Go.Proofs.YtgkmfhmodojdcaaW.PrintWords Go.Proofs.YtgkmfhmodojdcaaW.PrintLast Go.Proofs.YtgkmfhmodojdcaaW.PrintMore Go.Proofs.YtgkmfhmodojdcaaX
attribute [local go_sem] max2_int min2_int max_two min_two max_three min_three max_four min_four isSome_cell_set   -- for this text's walks alone
set_option linter.unusedVariables false
set_option linter.unusedSimpArgs false

def gangerref01_Of.f (a0 : Int) : Option (Bool × Int × Int) := (gangerref01_size.f a0).bind fun t130 => (some (decide (a0 < 0), 0, t130))
set_option maxHeartbeats 8000000 in
set_option maxRecDepth 100000 in
theorem gangerref01_Of.calls (a0 : Int) (r1 : Bool) (r2 : Int) (r3 : Int) (w : World) (h : gangerref01_Of.f a0 = some (r1, r2, r3)) :
    Calls Try.prog 34 #[.int .i64 a0] w fun e w' => e = .returned (.agg #[.bool r1, .int .u64 r2, .int .u64 r3]) ∧ Below w.heap.size w w' := by
  have hu69 := Try.underlying69
  have HB := Aside0.mk (Below.refl w.heap.size w)
  have H : ((gangerref01_size.f a0).bind fun t130 => (some (decide (a0 < 0), 0, t130))) = some (r1, r2, r3) := h
  clear h
  replace H := Option.bind_eq_some_iff.mp H
  obtain ⟨t130, A20, H⟩ := H
  replace H : (some (decide (a0 < 0), 0, t130)) = some (r1, r2, r3) := H
  have A2 := Aside0.mk A20
  clear A20
  simp only [Option.some.injEq, Prod.mk.injEq] at H
  obtain ⟨rfl, rfl, rfl⟩ := H
  go_enter Try.func34, Try.ntmps34
  go_wp2_with (first | ((with_reducible refine gate_dst (N := 2) rfl ?_); refine box_event ?hg (N := 2) ?hd (cs := #[.bool false, .int .u64 0, .int .u64 0]) (t := 69) ?hr ?_; (case hd => rfl); (case hg => rfl); (case hr => first | (go_simp; done) | (go_simp; rfl)); intro gb129 hg w3 hbox hb; have n0_ := Aside0.mk (below_step (by repeat (first | (with_reducible first | exact HB.out | apply below_alloc | apply pw_below_drewN | apply below_drew1) | exact HB.out)) hb); have n1_ := Aside0.mk (hbox); have n2_ := Aside0.mk ((by rw [hg]; exact (below_size (by repeat (first | (with_reducible first | exact HB.out | apply below_alloc | apply pw_below_drewN | apply below_drew1) | exact HB.out))) : w.heap.size ≤ gb129)); have n3_ := Aside0.mk ((by rw [hg]; exact (below_size (by repeat (first | (with_reducible first | exact HB.out | apply below_alloc | apply pw_below_drewN | apply below_drew1) | exact HB.out))) : w.heap.size ≤ gb129)); clear HB; have HB := n0_; have BK129 := n1_; have GW129 := n2_; have GE129 := n3_; clear n0_ n1_ n2_ n3_; clear hb hbox hg) | ((with_reducible refine gate_callee (f := 44) rfl ?_); refine goesL_ (some 6) rfl rfl Try.func44 (by kernel_rfl) rfl #[.int .i64 a0] rfl (by (try simp only [List.map_toArray, List.map_cons, List.map_nil]); first | done | rfl | (simp only [List.length_drop, List.length_take]; rfl)) ?_; (with_reducible refine (gangerref01_size.calls a0 t130 _ A2.out).mono ?_); rintro e w' ⟨rfl, ⟨nd, rfl⟩⟩; refine ⟨_, rfl, ?_⟩; (try (rw [drewN_self w3]; generalize hq_ : World.drewN w3 _ = w3; have n0_ : Aside0 (w3.heap[gb129]? = some (.cells #[.bool false, .int .u64 0, .int .u64 0] 69 (0, 0))) := ⟨by rw [← hq_]; exact (by (with_reducible repeat (first | refine blk_drewN ?_ _ | refine blk_drew ?_ | refine blk_alloc ?_ _)); exact BK129.out)⟩; have n1_ : Aside0 (Below w.heap.size w w3) := ⟨by rw [← hq_]; exact (by repeat (first | (with_reducible first | exact HB.out | apply below_alloc | apply pw_below_drewN | apply below_drew1 | refine below_set ?_ GE129.out) | exact HB.out))⟩; clear BK129 HB hq_; have BK129 := n0_; have HB := n1_; clear n0_ n1_)); have hcz4_0 : w3.cell? ⟨gb129, 0, none⟩ = some (.bool false) := (blk_cell BK129.out 0).trans rfl; have hcz4_1 : w3.cell? ⟨gb129, 1, none⟩ = some (.int .u64 0) := (blk_cell BK129.out 1).trans rfl; have hcz4_2 : w3.cell? ⟨gb129, 2, none⟩ = some (.int .u64 0) := (blk_cell BK129.out 2).trans rfl; have hfz4_0 := blk_frozen BK129.out 0; have hfz4_1 := blk_frozen BK129.out 1; have hfz4_2 := blk_frozen BK129.out 2))
  refine bodyPost_ret (results_cell_row rfl _ _ gb129 69 #[.bool (decide (a0 < 0)), .int .u64 0, .int .u64 t130] (0, 0) _ rfl (by (with_reducible repeat (first | refine blk_drewN ?_ _ | refine blk_drew ?_ | refine blk_alloc ?_ _)); refine blk_put (cs := #[.bool (decide (a0 < 0)), .int .u64 0, .int .u64 0]) ?_ 2 _ rfl; (with_reducible repeat (first | refine blk_drewN ?_ _ | refine blk_drew ?_ | refine blk_alloc ?_ _)); refine blk_put (cs := #[.bool (decide (a0 < 0)), .int .u64 0, .int .u64 0]) ?_ 1 _ rfl; (with_reducible repeat (first | refine blk_drewN ?_ _ | refine blk_drew ?_ | refine blk_alloc ?_ _)); refine blk_put (cs := #[.bool false, .int .u64 0, .int .u64 0]) ?_ 0 _ rfl; (with_reducible repeat (first | refine blk_drewN ?_ _ | refine blk_drew ?_ | refine blk_alloc ?_ _)); exact BK129.out) Try.underlying69 rfl (by kernel_rfl)) rfl ?_
  exact ⟨by first | rfl | (simp [errW_none, errW_some] <;> rfl) | (simp [*, errW_none, errW_some] <;> rfl), by repeat (first | (with_reducible first | exact HB.out | apply below_alloc | apply pw_below_drewN | apply below_drew1 | refine below_set ?_ GE129.out) | exact HB.out)⟩

mutual
def gangerref01_Wide_Narrow.j0 : Nat → Bool → Bool → Int → Int → Option (Int × Bool)
  | 0, _, _, _, _ => none
  | k + 1, x4, x132000, x132001, x132002 => if x4 = true then (some (0, false)) else (if x132000 = true then (gangerref01_Wide_Narrow.j1 k (x132002 == 9223372036854775808) x132000 x132001 x132002) else (gangerref01_Wide_Narrow.j1 k false x132000 x132001 x132002))
def gangerref01_Wide_Narrow.j1 : Nat → Bool → Bool → Int → Int → Option (Int × Bool)
  | 0, _, _, _, _ => none
  | k + 1, x13, x132000, x132001, x132002 => if x13 = true then (some ((-9223372036854775808), true)) else (if x132002 > 9223372036854775807 then (some (0, false)) else (if x132000 = true then (some (wrap64 (-(wrap64 (x132002))), true)) else (some (wrap64 (x132002), true))))
end
def gangerref01_Wide_Narrow.f (k : Nat) (a0_0 : Bool) (a0_1 : Int) (a0_2 : Int) : Option (Int × Bool) := if a0_1 > 0 then (gangerref01_Wide_Narrow.j0 k true a0_0 a0_1 a0_2) else (gangerref01_Wide_Narrow.j0 k (decide (a0_2 > 9223372036854775808)) a0_0 a0_1 a0_2)
theorem gangerref01_Wide_Narrow.mono_l : ∀ k, (∀ y0 y1 y2 y3, LeO (gangerref01_Wide_Narrow.j0 k y0 y1 y2 y3) (gangerref01_Wide_Narrow.j0 (k + 1) y0 y1 y2 y3)) ∧ (∀ y0 y1 y2 y3, LeO (gangerref01_Wide_Narrow.j1 k y0 y1 y2 y3) (gangerref01_Wide_Narrow.j1 (k + 1) y0 y1 y2 y3))
  | 0 => ⟨fun _ _ _ _ r h => by simp [gangerref01_Wide_Narrow.j0] at h, fun _ _ _ _ r h => by simp [gangerref01_Wide_Narrow.j1] at h⟩
  | k + 1 => by
    obtain ⟨ih0, ih1⟩ := gangerref01_Wide_Narrow.mono_l k
    refine ⟨?_, ?_⟩
    · intro y0 y1 y2 y3
      unfold gangerref01_Wide_Narrow.j0
      repeat' first
      | (with_reducible exact ih0 _ _ _ _)
      | (with_reducible exact ih1 _ _ _ _)
      | (with_reducible exact LeO.refl _)
      | (with_reducible exact LeO.none _)
      | (with_reducible refine LeO.ite ?_ ?_)
      | (with_reducible refine LeO.bind ?_ (fun _ => ?_))
      | exact ih0 _ _ _ _
      | exact ih1 _ _ _ _
      | exact LeO.none _
      | refine LeO.ite ?_ ?_
      | refine LeO.bind ?_ (fun _ => ?_)
    · intro y0 y1 y2 y3
      unfold gangerref01_Wide_Narrow.j1
      repeat' first
      | (with_reducible exact ih0 _ _ _ _)
      | (with_reducible exact ih1 _ _ _ _)
      | (with_reducible exact LeO.refl _)
      | (with_reducible exact LeO.none _)
      | (with_reducible refine LeO.ite ?_ ?_)
      | (with_reducible refine LeO.bind ?_ (fun _ => ?_))
      | exact ih0 _ _ _ _
      | exact ih1 _ _ _ _
      | exact LeO.none _
      | refine LeO.ite ?_ ?_
      | refine LeO.bind ?_ (fun _ => ?_)
theorem gangerref01_Wide_Narrow.mono : ∀ a0 a1 a2 k, LeO (gangerref01_Wide_Narrow.f k a0 a1 a2) (gangerref01_Wide_Narrow.f (k + 1) a0 a1 a2) := by
  intro a0 a1 a2 k
  obtain ⟨ih0, ih1⟩ := gangerref01_Wide_Narrow.mono_l k
  unfold gangerref01_Wide_Narrow.f
  repeat' first
      | (with_reducible exact ih0 _ _ _ _)
      | (with_reducible exact ih1 _ _ _ _)
      | (with_reducible exact LeO.refl _)
      | (with_reducible exact LeO.none _)
      | (with_reducible refine LeO.ite ?_ ?_)
      | (with_reducible refine LeO.bind ?_ (fun _ => ?_))
      | exact ih0 _ _ _ _
      | exact ih1 _ _ _ _
      | exact LeO.none _
      | refine LeO.ite ?_ ?_
      | refine LeO.bind ?_ (fun _ => ?_)
set_option maxHeartbeats 8000000 in
set_option maxRecDepth 100000 in
theorem gangerref01_Wide_Narrow.calls (k : Nat) (a0_0 : Bool) (a0_1 : Int) (a0_2 : Int) (r1 : Int) (r2 : Bool) (w : World) (h : gangerref01_Wide_Narrow.f k a0_0 a0_1 a0_2 = some (r1, r2)) :
    Calls Try.prog 45 #[.agg #[.bool a0_0, .int .u64 a0_1, .int .u64 a0_2]] w fun e w' => e = .returned (.tuple #[.int .i64 r1, .bool r2]) ∧ Below w.heap.size w w' := by
  have hu69 := Try.underlying69
  have HB := Aside0.mk (Below.refl w.heap.size w)
  have H : (if a0_1 > 0 then (gangerref01_Wide_Narrow.j0 k true a0_0 a0_1 a0_2) else (gangerref01_Wide_Narrow.j0 k (decide (a0_2 > 9223372036854775808)) a0_0 a0_1 a0_2)) = some (r1, r2) := h
  clear h
  have HC2 := Aside0.mk H
  clear H
  go_enter Try.func45, Try.ntmps45
  go_upto_region 1 with (first | ((with_reducible refine gate_dst (N := 1) rfl ?_); refine box_event ?hg (N := 1) ?hd (cs := #[.bool a0_0, .int .u64 a0_1, .int .u64 a0_2]) (t := 69) ?hr ?_; (case hd => rfl); (case hg => rfl); (case hr => first | (go_simp; done) | (go_simp; rfl)); intro gb131 hg w3 hbox hb; have n0_ := Aside0.mk (below_step (by repeat (first | (with_reducible first | exact HB.out | apply below_alloc | apply pw_below_drewN | apply below_drew1) | exact HB.out)) hb); have n1_ := Aside0.mk (hbox); have n2_ := Aside0.mk ((by rw [hg]; exact (below_size (by repeat (first | (with_reducible first | exact HB.out | apply below_alloc | apply pw_below_drewN | apply below_drew1) | exact HB.out))) : w.heap.size ≤ gb131)); have n3_ := Aside0.mk ((by rw [hg]; exact (below_size (by repeat (first | (with_reducible first | exact HB.out | apply below_alloc | apply pw_below_drewN | apply below_drew1) | exact HB.out))) : w.heap.size ≤ gb131)); clear HB; have HB := n0_; have BK131 := n1_; have GW131 := n2_; have GE131 := n3_; clear n0_ n1_ n2_ n3_; clear hb hbox hg))
  (try simp only [Act.put, List.setIfInBounds_toArray, List.set_cons_zero, List.set_cons_succ])
  go_cut [4] (fun v4 wc => ∃ (kq : Nat) (x4_1 : Bool), v4 = .bool x4_1 ∧ Aside0 (gangerref01_Wide_Narrow.j0 kq x4_1 a0_0 a0_1 a0_2 = some (r1, r2)) ∧ Aside0 (kq ≤ k) ∧ Aside0 (wc.heap[gb131]? = some (.cells #[.bool a0_0, .int .u64 a0_1, .int .u64 a0_2] 69 (0, 0))) ∧ Aside0 (Below w.heap.size w wc))
  case first =>
    have H := HC2.out
    clear HC2
    by_cases c4 : a0_1 > 0
    · rw [if_pos c4] at H
      have c4b0 : decide (0 < a0_1) = true := decide_eq_true c4
      clear c4
      (first | rw [c4b0] | (simp only [i64_w, i32_w]; rw [c4b0]) | skip)
      have H' := Aside0.mk H
      clear H
      have hcz5_0 : w3.cell? ⟨gb131, 0, none⟩ = some (.bool a0_0) := (blk_cell BK131.out 0).trans rfl
      have hcz5_1 : w3.cell? ⟨gb131, 1, none⟩ = some (.int .u64 a0_1) := (blk_cell BK131.out 1).trans rfl
      have hcz5_2 : w3.cell? ⟨gb131, 2, none⟩ = some (.int .u64 a0_2) := (blk_cell BK131.out 2).trans rfl
      have hfz5_0 := blk_frozen BK131.out 0
      have hfz5_1 := blk_frozen BK131.out 1
      have hfz5_2 := blk_frozen BK131.out 2
      go_wp2
      go_meet
      case rel => exact ⟨_, (true), (by first | rfl | (simp; done) | (simp [*]; done)), H', ⟨by first | omega | exact Nat.le_refl _⟩, ⟨by (with_reducible repeat (first | refine blk_drewN ?_ _ | refine blk_drew ?_ | refine blk_alloc ?_ _)); exact BK131.out⟩, ⟨by repeat (first | (with_reducible first | exact HB.out | apply below_alloc | apply pw_below_drewN | apply below_drew1 | refine below_set ?_ GE131.out) | exact HB.out)⟩⟩
    · rw [if_neg c4] at H
      have c4b0 : decide (0 < a0_1) = false := decide_eq_false c4
      clear c4
      (first | rw [c4b0] | (simp only [i64_w, i32_w]; rw [c4b0]) | skip)
      have H' := Aside0.mk H
      clear H
      have hcz6_0 : w3.cell? ⟨gb131, 0, none⟩ = some (.bool a0_0) := (blk_cell BK131.out 0).trans rfl
      have hcz6_1 : w3.cell? ⟨gb131, 1, none⟩ = some (.int .u64 a0_1) := (blk_cell BK131.out 1).trans rfl
      have hcz6_2 : w3.cell? ⟨gb131, 2, none⟩ = some (.int .u64 a0_2) := (blk_cell BK131.out 2).trans rfl
      have hfz6_0 := blk_frozen BK131.out 0
      have hfz6_1 := blk_frozen BK131.out 1
      have hfz6_2 := blk_frozen BK131.out 2
      go_wp2
      go_meet
      case rel => exact ⟨_, (decide (a0_2 > 9223372036854775808)), (by first | rfl | (simp; done) | (simp [*]; done)), H', ⟨by first | omega | exact Nat.le_refl _⟩, ⟨by (with_reducible repeat (first | refine blk_drewN ?_ _ | refine blk_drew ?_ | refine blk_alloc ?_ _)); exact BK131.out⟩, ⟨by repeat (first | (with_reducible first | exact HB.out | apply below_alloc | apply pw_below_drewN | apply below_drew1 | refine below_set ?_ GE131.out) | exact HB.out)⟩⟩
  case rest =>
    clear HC2
    try clear p2
    try clear c4
    try clear c4b0
    try clear hcz5_0
    try clear hcz5_1
    try clear hcz5_2
    try clear hcz6_0
    try clear hcz6_1
    try clear hcz6_2
    try clear hfz5_0
    try clear hfz5_1
    try clear hfz5_2
    try clear hfz6_0
    try clear hfz6_1
    try clear hfz6_2
    obtain ⟨kq, x4_1, rfl, HA, HJ1, BK131, HB⟩ := hcut
    cases kq with
    | zero => exact absurd HA.out (by simp [gangerref01_Wide_Narrow.j0])
    | succ kj1 =>
      have H := HA.out
      clear HA
      simp only [gangerref01_Wide_Narrow.j0] at H
      by_cases c7 : x4_1 = true
      · subst c7
        have H1 : (some (0, false)) = some (r1, r2) := by rw [if_pos rfl] at H; exact H
        clear H
        have H := H1
        clear H1
        simp only [Option.some.injEq, Prod.mk.injEq] at H
        obtain ⟨rfl, rfl⟩ := H
        go_wp2
        go_ret2
        exact ⟨by first | rfl | (simp [errW_none, errW_some] <;> rfl) | (simp [*, errW_none, errW_some] <;> rfl), by repeat (first | (with_reducible first | exact HB.out | apply below_alloc | apply pw_below_drewN | apply below_drew1 | refine below_set ?_ GE131.out) | exact HB.out)⟩
      · replace c7 := Bool.eq_false_iff.mpr c7
        subst c7
        have H1 : (if a0_0 = true then (gangerref01_Wide_Narrow.j1 kj1 (a0_2 == 9223372036854775808) a0_0 a0_1 a0_2) else (gangerref01_Wide_Narrow.j1 kj1 false a0_0 a0_1 a0_2)) = some (r1, r2) := by rw [if_neg (show ¬ (false = true) by decide)] at H; exact H
        clear H
        have H := H1
        clear H1
        have HC8 := Aside0.mk H
        clear H
        go_upto_region 3 with (fail)
        go_cut [13] (fun v13 wc => ∃ (kq : Nat) (x13_7 : Bool), v13 = .bool x13_7 ∧ Aside0 (gangerref01_Wide_Narrow.j1 kq x13_7 a0_0 a0_1 a0_2 = some (r1, r2)) ∧ Aside0 (kq ≤ kj1) ∧ Aside0 (wc.heap[gb131]? = some (.cells #[.bool a0_0, .int .u64 a0_1, .int .u64 a0_2] 69 (0, 0))) ∧ Aside0 (Below w.heap.size w wc))
        case first =>
          have H := HC8.out
          clear HC8
          by_cases c9 : a0_0 = true
          · subst c9
            have H1 : (gangerref01_Wide_Narrow.j1 kj1 (a0_2 == 9223372036854775808) true a0_1 a0_2) = some (r1, r2) := by rw [if_pos rfl] at H; exact H
            clear H
            have H := H1
            clear H1
            have H' := Aside0.mk H
            clear H
            have hcz10_0 : wc.cell? ⟨gb131, 0, none⟩ = some (.bool true) := (blk_cell BK131.out 0).trans rfl
            have hcz10_1 : wc.cell? ⟨gb131, 1, none⟩ = some (.int .u64 a0_1) := (blk_cell BK131.out 1).trans rfl
            have hcz10_2 : wc.cell? ⟨gb131, 2, none⟩ = some (.int .u64 a0_2) := (blk_cell BK131.out 2).trans rfl
            have hfz10_0 := blk_frozen BK131.out 0
            have hfz10_1 := blk_frozen BK131.out 1
            have hfz10_2 := blk_frozen BK131.out 2
            go_wp2
            go_meet
            case rel => exact ⟨_, ((a0_2 == 9223372036854775808)), (by first | rfl | (simp; done) | (simp [*]; done)), H', ⟨by have := HJ1.out; first | omega | exact Nat.le_refl _⟩, ⟨by (with_reducible repeat (first | refine blk_drewN ?_ _ | refine blk_drew ?_ | refine blk_alloc ?_ _)); exact BK131.out⟩, ⟨by repeat (first | (with_reducible first | exact HB.out | apply below_alloc | apply pw_below_drewN | apply below_drew1 | refine below_set ?_ GE131.out) | exact HB.out)⟩⟩
          · replace c9 := Bool.eq_false_iff.mpr c9
            subst c9
            have H1 : (gangerref01_Wide_Narrow.j1 kj1 false false a0_1 a0_2) = some (r1, r2) := by rw [if_neg (show ¬ (false = true) by decide)] at H; exact H
            clear H
            have H := H1
            clear H1
            have H' := Aside0.mk H
            clear H
            have hcz11_0 : wc.cell? ⟨gb131, 0, none⟩ = some (.bool false) := (blk_cell BK131.out 0).trans rfl
            have hcz11_1 : wc.cell? ⟨gb131, 1, none⟩ = some (.int .u64 a0_1) := (blk_cell BK131.out 1).trans rfl
            have hcz11_2 : wc.cell? ⟨gb131, 2, none⟩ = some (.int .u64 a0_2) := (blk_cell BK131.out 2).trans rfl
            have hfz11_0 := blk_frozen BK131.out 0
            have hfz11_1 := blk_frozen BK131.out 1
            have hfz11_2 := blk_frozen BK131.out 2
            go_wp2
            go_meet
            case rel => exact ⟨_, (false), (by first | rfl | (simp; done) | (simp [*]; done)), H', ⟨by have := HJ1.out; first | omega | exact Nat.le_refl _⟩, ⟨by (with_reducible repeat (first | refine blk_drewN ?_ _ | refine blk_drew ?_ | refine blk_alloc ?_ _)); exact BK131.out⟩, ⟨by repeat (first | (with_reducible first | exact HB.out | apply below_alloc | apply pw_below_drewN | apply below_drew1 | refine below_set ?_ GE131.out) | exact HB.out)⟩⟩
        case rest =>
          clear HC8
          try clear p2
          try clear c4
          try clear c4b0
          try clear c7
          try clear c9
          try clear hcz10_0
          try clear hcz10_1
          try clear hcz10_2
          try clear hcz11_0
          try clear hcz11_1
          try clear hcz11_2
          try clear hcz5_0
          try clear hcz5_1
          try clear hcz5_2
          try clear hcz6_0
          try clear hcz6_1
          try clear hcz6_2
          try clear hfz10_0
          try clear hfz10_1
          try clear hfz10_2
          try clear hfz11_0
          try clear hfz11_1
          try clear hfz11_2
          try clear hfz5_0
          try clear hfz5_1
          try clear hfz5_2
          try clear hfz6_0
          try clear hfz6_1
          try clear hfz6_2
          try clear p2
          obtain ⟨kq, x13_7, rfl, HA, HJ7, BK131, HB⟩ := hcut
          cases kq with
          | zero => exact absurd HA.out (by simp [gangerref01_Wide_Narrow.j1])
          | succ kj7 =>
            have H := HA.out
            clear HA
            simp only [gangerref01_Wide_Narrow.j1] at H
            by_cases c12 : x13_7 = true
            · subst c12
              have H1 : (some ((-9223372036854775808), true)) = some (r1, r2) := by rw [if_pos rfl] at H; exact H
              clear H
              have H := H1
              clear H1
              simp only [Option.some.injEq, Prod.mk.injEq] at H
              obtain ⟨rfl, rfl⟩ := H
              go_wp2
              go_ret2
              exact ⟨by first | rfl | (simp [errW_none, errW_some] <;> rfl) | (simp [*, errW_none, errW_some] <;> rfl), by repeat (first | (with_reducible first | exact HB.out | apply below_alloc | apply pw_below_drewN | apply below_drew1 | refine below_set ?_ GE131.out) | exact HB.out)⟩
            · replace c12 := Bool.eq_false_iff.mpr c12
              subst c12
              have H1 : (if a0_2 > 9223372036854775807 then (some (0, false)) else (if a0_0 = true then (some (wrap64 (-(wrap64 (a0_2))), true)) else (some (wrap64 (a0_2), true)))) = some (r1, r2) := by rw [if_neg (show ¬ (false = true) by decide)] at H; exact H
              clear H
              have H := H1
              clear H1
              by_cases c13 : a0_2 > 9223372036854775807
              · rw [if_pos c13] at H
                have c13b0 : decide (9223372036854775807 < a0_2) = true := decide_eq_true c13
                clear c13
                simp only [Option.some.injEq, Prod.mk.injEq] at H
                obtain ⟨rfl, rfl⟩ := H
                have hcz14_0 : wc.cell? ⟨gb131, 0, none⟩ = some (.bool a0_0) := (blk_cell BK131.out 0).trans rfl
                have hcz14_1 : wc.cell? ⟨gb131, 1, none⟩ = some (.int .u64 a0_1) := (blk_cell BK131.out 1).trans rfl
                have hcz14_2 : wc.cell? ⟨gb131, 2, none⟩ = some (.int .u64 a0_2) := (blk_cell BK131.out 2).trans rfl
                have hfz14_0 := blk_frozen BK131.out 0
                have hfz14_1 := blk_frozen BK131.out 1
                have hfz14_2 := blk_frozen BK131.out 2
                go_wp2
                go_ret2
                exact ⟨by first | rfl | (simp [errW_none, errW_some] <;> rfl) | (simp [*, errW_none, errW_some] <;> rfl), by repeat (first | (with_reducible first | exact HB.out | apply below_alloc | apply pw_below_drewN | apply below_drew1 | refine below_set ?_ GE131.out) | exact HB.out)⟩
              · rw [if_neg c13] at H
                have c13b0 : decide (9223372036854775807 < a0_2) = false := decide_eq_false c13
                clear c13
                by_cases c15 : a0_0 = true
                · subst c15
                  have H1 : (some (wrap64 (-(wrap64 (a0_2))), true)) = some (r1, r2) := by rw [if_pos rfl] at H; exact H
                  clear H
                  have H := H1
                  clear H1
                  simp only [Option.some.injEq, Prod.mk.injEq] at H
                  obtain ⟨rfl, rfl⟩ := H
                  have hcz16_0 : wc.cell? ⟨gb131, 0, none⟩ = some (.bool true) := (blk_cell BK131.out 0).trans rfl
                  have hcz16_1 : wc.cell? ⟨gb131, 1, none⟩ = some (.int .u64 a0_1) := (blk_cell BK131.out 1).trans rfl
                  have hcz16_2 : wc.cell? ⟨gb131, 2, none⟩ = some (.int .u64 a0_2) := (blk_cell BK131.out 2).trans rfl
                  have hfz16_0 := blk_frozen BK131.out 0
                  have hfz16_1 := blk_frozen BK131.out 1
                  have hfz16_2 := blk_frozen BK131.out 2
                  go_wp2
                  go_ret2
                  exact ⟨by first | rfl | (simp [errW_none, errW_some] <;> rfl) | (simp [*, errW_none, errW_some] <;> rfl), by repeat (first | (with_reducible first | exact HB.out | apply below_alloc | apply pw_below_drewN | apply below_drew1 | refine below_set ?_ GE131.out) | exact HB.out)⟩
                · replace c15 := Bool.eq_false_iff.mpr c15
                  subst c15
                  have H1 : (some (wrap64 (a0_2), true)) = some (r1, r2) := by rw [if_neg (show ¬ (false = true) by decide)] at H; exact H
                  clear H
                  have H := H1
                  clear H1
                  simp only [Option.some.injEq, Prod.mk.injEq] at H
                  obtain ⟨rfl, rfl⟩ := H
                  have hcz17_0 : wc.cell? ⟨gb131, 0, none⟩ = some (.bool false) := (blk_cell BK131.out 0).trans rfl
                  have hcz17_1 : wc.cell? ⟨gb131, 1, none⟩ = some (.int .u64 a0_1) := (blk_cell BK131.out 1).trans rfl
                  have hcz17_2 : wc.cell? ⟨gb131, 2, none⟩ = some (.int .u64 a0_2) := (blk_cell BK131.out 2).trans rfl
                  have hfz17_0 := blk_frozen BK131.out 0
                  have hfz17_1 := blk_frozen BK131.out 1
                  have hfz17_2 := blk_frozen BK131.out 2
                  go_wp2
                  go_ret2
                  exact ⟨by first | rfl | (simp [errW_none, errW_some] <;> rfl) | (simp [*, errW_none, errW_some] <;> rfl), by repeat (first | (with_reducible first | exact HB.out | apply below_alloc | apply pw_below_drewN | apply below_drew1 | refine below_set ?_ GE131.out) | exact HB.out)⟩

end Go.Proofs.Ytgkmfhmodojdcaa.PQ
