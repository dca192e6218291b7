import Derived.Test.YtgkmfhmodojdcaaPQx0
namespace Go.Proofs.Ytgkmfhmodojdcaa.PQ
open Go.RowKit Go.Proofs.YtgkmfhmodojdcaaW.PrintWords Go.Proofs.YtgkmfhmodojdcaaW.PrintLast Go.Proofs.YtgkmfhmodojdcaaW.PrintMore Go.Proofs.YtgkmfhmodojdcaaX
attribute [local go_sem] max2_int min2_int max_two min_two max_three min_three max_four min_four isSome_cell_set   -- for this text's walks alone
set_option linter.unusedVariables false
set_option linter.unusedSimpArgs false

def gangerref12_right.l0 : Nat → Int → Int → List Int → Int → Int → Int → Int → Int → Int → Int → Int → Option (Bool)
  | 0, _, _, _, _, _, _, _, _, _, _, _ => none
  | k + 1, x2, x3, x9, x10, x197000, x197001, x197002, x197003, x197004, x197005, x197006 => if x10 < (x9.length : Int) then (if 0 ≤ x10 then (if (rd x9 x10) < 0 then (some false) else (if (rd x9 x10) > 1048576 then (some false) else (gangerref12_right.l0 k x2 x3 x9 (wrap64 (x10 + 1)) x197000 x197001 x197002 x197003 x197004 x197005 x197006))) else (none)) else (if x197000 > 0 then (if x197006 ≥ 0 then (if x197006 ≤ 65536 then (if x197003 ≥ (-10000) then (if x197003 ≤ 10000 then (if x197001 ≥ 0 then (if x2 ≥ 0 then (if x2 ≤ 1099511627776 then (if x3 ≥ 1 then (some (decide (x3 ≤ 1048576))) else (some false)) else (some false)) else (some false)) else (some false)) else (some false)) else (some false)) else (some false)) else (some false)) else (some false))
def gangerref12_right.f (k : Nat) (a0_0 : Int) (a0_1 : Int) (a0_2 : Int) (a0_3 : Int) (a0_4 : Int) (a1_0 : Int) (a1_1 : Int) (a1_2 : Int) (a1_3 : Int) (a1_4 : Int) (a1_5 : Int) (a1_6 : Int) (a2 : Int) (a3 : Int) : Option (Bool) := gangerref12_right.l0 k a2 a3 (([a0_0, a0_1, a0_2, a0_3, a0_4] : List Int)) 0 a1_0 a1_1 a1_2 a1_3 a1_4 a1_5 a1_6
theorem gangerref12_right.mono_l : ∀ k, (∀ y0 y1 y2 y3 y4 y5 y6 y7 y8 y9 y10, LeO (gangerref12_right.l0 k y0 y1 y2 y3 y4 y5 y6 y7 y8 y9 y10) (gangerref12_right.l0 (k + 1) y0 y1 y2 y3 y4 y5 y6 y7 y8 y9 y10))
  | 0 => fun _ _ _ _ _ _ _ _ _ _ _ r h => by simp [gangerref12_right.l0] at h
  | k + 1 => by
    have ih0 := gangerref12_right.mono_l k
    · intro y0 y1 y2 y3 y4 y5 y6 y7 y8 y9 y10
      unfold gangerref12_right.l0
      repeat' first
      | (with_reducible exact ih0 _ _ _ _ _ _ _ _ _ _ _)
      | (with_reducible exact LeO.refl _)
      | (with_reducible exact LeO.none _)
      | (with_reducible refine LeO.ite ?_ ?_)
      | (with_reducible refine LeO.bind ?_ (fun _ => ?_))
      | exact ih0 _ _ _ _ _ _ _ _ _ _ _
      | exact LeO.none _
      | refine LeO.ite ?_ ?_
      | refine LeO.bind ?_ (fun _ => ?_)
theorem gangerref12_right.mono : ∀ a0 a1 a2 a3 a4 a5 a6 a7 a8 a9 a10 a11 a12 a13 k, LeO (gangerref12_right.f k a0 a1 a2 a3 a4 a5 a6 a7 a8 a9 a10 a11 a12 a13) (gangerref12_right.f (k + 1) a0 a1 a2 a3 a4 a5 a6 a7 a8 a9 a10 a11 a12 a13) := by
  intro a0 a1 a2 a3 a4 a5 a6 a7 a8 a9 a10 a11 a12 a13 k
  have ih0 := gangerref12_right.mono_l k
  unfold gangerref12_right.f
  repeat' first
      | (with_reducible exact ih0 _ _ _ _ _ _ _ _ _ _ _)
      | (with_reducible exact LeO.refl _)
      | (with_reducible exact LeO.none _)
      | (with_reducible refine LeO.ite ?_ ?_)
      | (with_reducible refine LeO.bind ?_ (fun _ => ?_))
      | exact ih0 _ _ _ _ _ _ _ _ _ _ _
      | exact LeO.none _
      | refine LeO.ite ?_ ?_
      | refine LeO.bind ?_ (fun _ => ?_)
set_option maxHeartbeats 8000000 in
set_option maxRecDepth 100000 in
theorem gangerref12_right.calls (k : Nat) (a0_0 : Int) (a0_1 : Int) (a0_2 : Int) (a0_3 : Int) (a0_4 : Int) (a1_0 : Int) (a1_1 : Int) (a1_2 : Int) (a1_3 : Int) (a1_4 : Int) (a1_5 : Int) (a1_6 : Int) (a2 : Int) (a3 : Int) (r : Bool) (w : World) (h : gangerref12_right.f k a0_0 a0_1 a0_2 a0_3 a0_4 a1_0 a1_1 a1_2 a1_3 a1_4 a1_5 a1_6 a2 a3 = some r) :
    Calls Try.prog 27 #[.agg #[.int .i64 a0_0, .int .i64 a0_1, .int .i64 a0_2, .int .i64 a0_3, .int .i64 a0_4], .agg #[.int .u32 a1_0, .int .i64 a1_1, .int .i64 a1_2, .int .i64 a1_3, .int .i64 a1_4, .int .i64 a1_5, .int .i64 a1_6], .int .i64 a2, .int .i64 a3] w fun e w' => e = .returned (.bool r) ∧ Below w.heap.size w w' := by
  have hu26 := Try.underlying26
  have hu29 := Try.underlying29
  have HB := Aside0.mk (Below.refl w.heap.size w)
  have H : (gangerref12_right.l0 k a2 a3 (([a0_0, a0_1, a0_2, a0_3, a0_4] : List Int)) 0 a1_0 a1_1 a1_2 a1_3 a1_4 a1_5 a1_6) = some r := h
  clear h
  obtain ⟨y197, hy197⟩ : ∃ y_ : List Int, y_ = (([a0_0, a0_1, a0_2, a0_3, a0_4] : List Int)) := ⟨_, rfl⟩
  replace H : (gangerref12_right.l0 k a2 a3 y197 0 a1_0 a1_1 a1_2 a1_3 a1_4 a1_5 a1_6) = some r := by first | (rw [hy197]; with_reducible exact H) | (have H2_ := (Option.bind_some _ _).symm.trans H; rw [hy197]; with_reducible exact H2_) | (have H2_ := (Option.bind_some _ _).symm.trans H; with_reducible exact H2_) | with_reducible exact H | (rw [hy197]; exact H) | exact H
  have Ny197 := Aside0.mk hy197
  clear hy197
  have H' := Aside0.mk H
  clear H
  go_enter Try.func27, Try.ntmps27
  go_wp2_with (first | ((with_reducible refine gate_dst (N := 4) rfl ?_); refine box_event ?hg (N := 4) ?hd (cs := #[.int .i64 a0_0, .int .i64 a0_1, .int .i64 a0_2, .int .i64 a0_3, .int .i64 a0_4]) (t := 26) ?hr ?_; (case hd => rfl); (case hg => rfl); (case hr => first | (go_simp; done) | (go_simp; rfl)); intro gb195 hg w5 hbox hb; have n0_ := Aside0.mk (below_step (by repeat (first | (with_reducible first | exact HB.out | apply below_alloc | apply pw_below_drewN | apply below_drew1) | exact HB.out)) hb); have n1_ := Aside0.mk (hbox); have n2_ := Aside0.mk ((by rw [hg]; exact (below_size (by repeat (first | (with_reducible first | exact HB.out | apply below_alloc | apply pw_below_drewN | apply below_drew1) | exact HB.out))) : w.heap.size ≤ gb195)); have n3_ := Aside0.mk ((by rw [hg]; exact (below_size (by repeat (first | (with_reducible first | exact HB.out | apply below_alloc | apply pw_below_drewN | apply below_drew1) | exact HB.out))) : w.heap.size ≤ gb195)); clear HB; have HB := n0_; have BK195 := n1_; have GW195 := n2_; have GE195 := n3_; clear n0_ n1_ n2_ n3_; clear hb hbox hg) | ((with_reducible refine gate_dst (N := 5) rfl ?_); refine box_event ?hg (N := 5) ?hd (cs := #[.int .u32 a1_0, .int .i64 a1_1, .int .i64 a1_2, .int .i64 a1_3, .int .i64 a1_4, .int .i64 a1_5, .int .i64 a1_6]) (t := 29) ?hr ?_; (case hd => rfl); (case hg => rfl); (case hr => first | (go_simp; done) | (go_simp; rfl)); intro gb196 hg w6 hbox hb; have n0_ := Aside0.mk (blk_below (g := gb195) (o := .cells #[.int .i64 a0_0, .int .i64 a0_1, .int .i64 a0_2, .int .i64 a0_3, .int .i64 a0_4] 26 (0, 0)) (by (with_reducible repeat (first | refine blk_drewN ?_ _ | refine blk_drew ?_ | refine blk_alloc ?_ _)); exact BK195.out) hb); have n1_ := Aside0.mk (below_step (by repeat (first | (with_reducible first | exact HB.out | apply below_alloc | apply pw_below_drewN | apply below_drew1 | refine below_set ?_ GE195.out) | exact HB.out)) hb); have n2_ := Aside0.mk (hbox); have n3_ := Aside0.mk ((by rw [hg]; exact (below_size (by repeat (first | (with_reducible first | exact HB.out | apply below_alloc | apply pw_below_drewN | apply below_drew1 | refine below_set ?_ GE195.out) | exact HB.out))) : w.heap.size ≤ gb196)); have n4_ := Aside0.mk ((by rw [hg]; exact (below_size (by repeat (first | (with_reducible first | exact HB.out | apply below_alloc | apply pw_below_drewN | apply below_drew1 | refine below_set ?_ GE195.out) | exact HB.out))) : w.heap.size ≤ gb196)); have n5_ := Aside0.mk ((by rw [hg]; exact Nat.ne_of_lt (blk_lt (g := gb195) (o := .cells #[.int .i64 a0_0, .int .i64 a0_1, .int .i64 a0_2, .int .i64 a0_3, .int .i64 a0_4] 26 (0, 0)) (by (with_reducible repeat (first | refine blk_drewN ?_ _ | refine blk_drew ?_ | refine blk_alloc ?_ _)); exact BK195.out)) : gb195 ≠ gb196)); have n6_ := Aside0.mk ((by rw [hg]; exact Nat.ne_of_gt (blk_lt (g := gb195) (o := .cells #[.int .i64 a0_0, .int .i64 a0_1, .int .i64 a0_2, .int .i64 a0_3, .int .i64 a0_4] 26 (0, 0)) (by (with_reducible repeat (first | refine blk_drewN ?_ _ | refine blk_drew ?_ | refine blk_alloc ?_ _)); exact BK195.out)) : gb196 ≠ gb195)); clear BK195; clear HB; have BK195 := n0_; have HB := n1_; have BK196 := n2_; have GW196 := n3_; have GE196 := n4_; have NB195_196 := n5_; have NB196_195 := n6_; clear n0_ n1_ n2_ n3_ n4_ n5_ n6_; clear hb hbox hg; have hnb7 := NB195_196.out; have hnc7 := NB196_195.out; have hcz8_0 : w6.cell? ⟨gb195, 0, none⟩ = some (.int .i64 a0_0) := (blk_cell BK195.out 0).trans rfl; have hcz8_1 : w6.cell? ⟨gb195, 1, none⟩ = some (.int .i64 a0_1) := (blk_cell BK195.out 1).trans rfl; have hcz8_2 : w6.cell? ⟨gb195, 2, none⟩ = some (.int .i64 a0_2) := (blk_cell BK195.out 2).trans rfl; have hcz8_3 : w6.cell? ⟨gb195, 3, none⟩ = some (.int .i64 a0_3) := (blk_cell BK195.out 3).trans rfl; have hcz8_4 : w6.cell? ⟨gb195, 4, none⟩ = some (.int .i64 a0_4) := (blk_cell BK195.out 4).trans rfl; have hfz8_0 := blk_frozen BK195.out 0; have hfz8_1 := blk_frozen BK195.out 1; have hfz8_2 := blk_frozen BK195.out 2; have hfz8_3 := blk_frozen BK195.out 3; have hfz8_4 := blk_frozen BK195.out 4) | ((with_reducible refine gate_dst (N := 21) rfl ?_); refine Kd.R_lit (Kd.int .i64) _ 3 ?hg (N := 21) ?hd (xs := ([a0_0, a0_1, a0_2, a0_3, a0_4] : List Int)) (inner := [.int .i64 a0_0, .int .i64 a0_1, .int .i64 a0_2, .int .i64 a0_3, .int .i64 a0_4]) (ok := fun _ => True) (okp := fun _ => True) ?hr ?hp (fun _ hk => hk) trivial (Below.refl _ _) (Nat.le_refl _) (by simp) ?_; (case hd => rfl); (case hg => rfl); (case hr => first | (go_simp; done) | (go_simp; rfl)); (case hp => exact (Reps.one (show Kd.M (Kd.int .i64) _ _ _ a0_0 [.int .i64 a0_0] from rfl) (Reps.one (show Kd.M (Kd.int .i64) _ _ _ a0_1 [.int .i64 a0_1] from rfl) (Reps.one (show Kd.M (Kd.int .i64) _ _ _ a0_2 [.int .i64 a0_2] from rfl) (Reps.one (show Kd.M (Kd.int .i64) _ _ _ a0_3 [.int .i64 a0_3] from rfl) (Reps.one (show Kd.M (Kd.int .i64) _ _ _ a0_4 [.int .i64 a0_4] from rfl) (Reps.none _ _))))))); intro v198 w9 ho10 hb hg_ hnew_; clear hg_ hnew_; (first | rw [← Ny197.out] at ho10 | (simp only [Int.reduceToNat] at ho10; rw [← Ny197.out] at ho10)); have n0_ := Aside0.mk (Kd.R_lower ho10 (below_size (by repeat (first | (with_reducible first | exact HB.out | apply below_alloc | apply pw_below_drewN | apply below_drew1 | refine below_set ?_ GE195.out | refine below_set ?_ GE196.out) | exact HB.out)))); have n1_ := Aside0.mk (blk_below (g := gb195) (o := .cells #[.int .i64 a0_0, .int .i64 a0_1, .int .i64 a0_2, .int .i64 a0_3, .int .i64 a0_4] 26 (0, 0)) (by (with_reducible repeat (first | refine blk_drewN ?_ _ | refine blk_drew ?_ | refine blk_alloc ?_ _)); exact BK195.out) hb); have n2_ := Aside0.mk (blk_below (g := gb196) (o := .cells #[.int .u32 a1_0, .int .i64 a1_1, .int .i64 a1_2, .int .i64 a1_3, .int .i64 a1_4, .int .i64 a1_5, .int .i64 a1_6] 29 (0, 0)) (by (with_reducible repeat (first | refine blk_drewN ?_ _ | refine blk_drew ?_ | refine blk_alloc ?_ _)); exact BK196.out) hb); have n3_ := Aside0.mk (below_step (by repeat (first | (with_reducible first | exact HB.out | apply below_alloc | apply pw_below_drewN | apply below_drew1 | refine below_set ?_ GE195.out | refine below_set ?_ GE196.out) | exact HB.out)) hb); clear BK195; clear BK196; clear HB; have HO199 := n0_; have BK195 := n1_; have BK196 := n2_; have HB := n3_; clear n0_ n1_ n2_ n3_; clear hb ho10))
  go_loopg [10] k (fun kq v10 w' => ∃ (x10_1 : Int), v10 = .int .i64 x10_1 ∧ Aside0 (gangerref12_right.l0 kq a2 a3 y197 x10_1 a1_0 a1_1 a1_2 a1_3 a1_4 a1_5 a1_6 = some r) ∧ Aside0 (kq ≤ k) ∧ Aside0 (Kd.R (Kd.int .i64) 3 w' w.heap.size (fun _ => True) v198 y197) ∧ Aside0 (w'.heap[gb195]? = some (.cells #[.int .i64 a0_0, .int .i64 a0_1, .int .i64 a0_2, .int .i64 a0_3, .int .i64 a0_4] 26 (0, 0))) ∧ Aside0 (w'.heap[gb196]? = some (.cells #[.int .u32 a1_0, .int .i64 a1_1, .int .i64 a1_2, .int .i64 a1_3, .int .i64 a1_4, .int .i64 a1_5, .int .i64 a1_6] 29 (0, 0))) ∧ Aside0 (Below w.heap.size w w'))
  case atStart => exact ⟨(0), (by first | rfl | (simp; done) | (simp [*]; done)), H', ⟨Nat.le_refl _⟩, ⟨by (with_reducible repeat (first | apply Kd.R_alloc | apply Kd.R_drewN | apply Kd.R_drew)); exact HO199.out⟩, ⟨by (with_reducible repeat (first | refine blk_drewN ?_ _ | refine blk_drew ?_ | refine blk_alloc ?_ _)); exact BK195.out⟩, ⟨by (with_reducible repeat (first | refine blk_drewN ?_ _ | refine blk_drew ?_ | refine blk_alloc ?_ _)); exact BK196.out⟩, ⟨by repeat (first | (with_reducible first | exact HB.out | apply below_alloc | apply pw_below_drewN | apply below_drew1 | refine below_set ?_ GE195.out | refine below_set ?_ GE196.out) | exact HB.out)⟩⟩
  case round =>
    clear H'
    try clear c2
    try clear p2
    try clear c7
    try clear hcz8_0
    try clear hcz8_1
    try clear hcz8_2
    try clear hcz8_3
    try clear hcz8_4
    try clear hfz8_0
    try clear hfz8_1
    try clear hfz8_2
    try clear hfz8_3
    try clear hfz8_4
    obtain ⟨x10_1, rfl, HA, HK1, HO_9, BK195, BK196, HB⟩ := hrel
    cases gk with
    | zero => exact absurd HA.out (by simp [gangerref12_right.l0])
    | succ k1 =>
      have H := HA.out
      clear HA
      simp only [gangerref12_right.l0] at H
      by_cases c11 : x10_1 < (y197.length : Int)
      · rw [if_pos c11] at H
        have c11b0 : decide (x10_1 < (y197.length : Int)) = true := decide_eq_true c11
        clear c11
        by_cases c12 : 0 ≤ x10_1
        · rw [if_pos c12] at H
          have c12b0 : decide (0 ≤ x10_1) = true := decide_eq_true c12
          clear c12
          by_cases c13 : (rd y197 x10_1) < 0
          · rw [if_pos c13] at H
            have c13b0 : decide ((rd y197 x10_1) < 0) = true := decide_eq_true c13
            clear c13
            obtain rfl := Option.some.inj H
            obtain ⟨Ao14, co14, eo14⟩ := Kd.R_slice HO_9.out
            subst eo14
            have p200 : 0 ≤ (x10_1 : Int) := of_decide_eq_true (by first | (with_reducible assumption) | assumption)
            have q200 : x10_1 < (y197.length : Int) := of_decide_eq_true (by first | (with_reducible assumption) | assumption)
            obtain ⟨ad200, e200, hx200_0⟩ := Kd.at_int (Kd.R_reads' HO_9.out).2.2 x10_1 p200 q200
            cases e200
            replace p200 := eq_true p200
            replace q200 := eq_true q200
            go_wp2
            go_ret
            exact ⟨by first | rfl | (simp [errW_none, errW_some] <;> rfl) | (simp [*, errW_none, errW_some] <;> rfl), by repeat (first | (with_reducible first | exact HB.out | apply below_alloc | apply pw_below_drewN | apply below_drew1 | refine below_set ?_ GE195.out | refine below_set ?_ GE196.out) | exact HB.out)⟩
          · rw [if_neg c13] at H
            have c13b0 : decide ((rd y197 x10_1) < 0) = false := decide_eq_false c13
            clear c13
            by_cases c15 : (rd y197 x10_1) > 1048576
            · rw [if_pos c15] at H
              have c15b0 : decide (1048576 < (rd y197 x10_1)) = true := decide_eq_true c15
              clear c15
              obtain rfl := Option.some.inj H
              obtain ⟨Ao16, co16, eo16⟩ := Kd.R_slice HO_9.out
              subst eo16
              have p200 : 0 ≤ (x10_1 : Int) := of_decide_eq_true (by first | (with_reducible assumption) | assumption)
              have q200 : x10_1 < (y197.length : Int) := of_decide_eq_true (by first | (with_reducible assumption) | assumption)
              obtain ⟨ad200, e200, hx200_0⟩ := Kd.at_int (Kd.R_reads' HO_9.out).2.2 x10_1 p200 q200
              cases e200
              replace p200 := eq_true p200
              replace q200 := eq_true q200
              have p201 : 0 ≤ (x10_1 : Int) := of_decide_eq_true (by first | (with_reducible assumption) | assumption)
              have q201 : x10_1 < (y197.length : Int) := of_decide_eq_true (by first | (with_reducible assumption) | assumption)
              obtain ⟨ad201, e201, hx201_0⟩ := Kd.at_int (Kd.R_reads' HO_9.out).2.2 x10_1 p201 q201
              obtain rfl : ad200 = ad201 := (by injection e201)
              replace p201 := eq_true p201
              replace q201 := eq_true q201
              go_wp2
              go_ret
              exact ⟨by first | rfl | (simp [errW_none, errW_some] <;> rfl) | (simp [*, errW_none, errW_some] <;> rfl), by repeat (first | (with_reducible first | exact HB.out | apply below_alloc | apply pw_below_drewN | apply below_drew1 | refine below_set ?_ GE195.out | refine below_set ?_ GE196.out) | exact HB.out)⟩
            · rw [if_neg c15] at H
              have c15b0 : decide (1048576 < (rd y197 x10_1)) = false := decide_eq_false c15
              clear c15
              have H' := Aside0.mk H
              clear H
              obtain ⟨Ao17, co17, eo17⟩ := Kd.R_slice HO_9.out
              subst eo17
              have p200 : 0 ≤ (x10_1 : Int) := of_decide_eq_true (by first | (with_reducible assumption) | assumption)
              have q200 : x10_1 < (y197.length : Int) := of_decide_eq_true (by first | (with_reducible assumption) | assumption)
              obtain ⟨ad200, e200, hx200_0⟩ := Kd.at_int (Kd.R_reads' HO_9.out).2.2 x10_1 p200 q200
              cases e200
              replace p200 := eq_true p200
              replace q200 := eq_true q200
              have p201 : 0 ≤ (x10_1 : Int) := of_decide_eq_true (by first | (with_reducible assumption) | assumption)
              have q201 : x10_1 < (y197.length : Int) := of_decide_eq_true (by first | (with_reducible assumption) | assumption)
              obtain ⟨ad201, e201, hx201_0⟩ := Kd.at_int (Kd.R_reads' HO_9.out).2.2 x10_1 p201 q201
              obtain rfl : ad200 = ad201 := (by injection e201)
              replace p201 := eq_true p201
              replace q201 := eq_true q201
              go_wp2
              go_roundg k1
              case measure => have := HK1.out; omega
              case rel => exact ⟨(wrap64 (x10_1 + 1)), (by first | rfl | (simp; done) | (simp [*]; done)), H', ⟨by have := HK1.out; omega⟩, ⟨by (with_reducible repeat (first | apply Kd.R_alloc | apply Kd.R_drewN | apply Kd.R_drew)); exact HO_9.out⟩, ⟨by (with_reducible repeat (first | refine blk_drewN ?_ _ | refine blk_drew ?_ | refine blk_alloc ?_ _)); exact BK195.out⟩, ⟨by (with_reducible repeat (first | refine blk_drewN ?_ _ | refine blk_drew ?_ | refine blk_alloc ?_ _)); exact BK196.out⟩, ⟨by repeat (first | (with_reducible first | exact HB.out | apply below_alloc | apply pw_below_drewN | apply below_drew1 | refine below_set ?_ GE195.out | refine below_set ?_ GE196.out) | exact HB.out)⟩⟩
        · rw [if_neg c12] at H
          exact absurd H (by simp)
      · rw [if_neg c11] at H
        have c11b0 : decide (x10_1 < (y197.length : Int)) = false := decide_eq_false c11
        clear c11
        by_cases c18 : a1_0 > 0
        · rw [if_pos c18] at H
          have c18b0 : decide (0 < a1_0) = true := decide_eq_true c18
          clear c18
          by_cases c19 : a1_6 ≥ 0
          · rw [if_pos c19] at H
            have c19b0 : decide (0 ≤ a1_6) = true := decide_eq_true c19
            clear c19
            by_cases c20 : a1_6 ≤ 65536
            · rw [if_pos c20] at H
              have c20b0 : decide (a1_6 ≤ 65536) = true := decide_eq_true c20
              clear c20
              by_cases c21 : a1_3 ≥ (-10000)
              · rw [if_pos c21] at H
                have c21b0 : decide ((-10000) ≤ a1_3) = true := decide_eq_true c21
                clear c21
                by_cases c22 : a1_3 ≤ 10000
                · rw [if_pos c22] at H
                  have c22b0 : decide (a1_3 ≤ 10000) = true := decide_eq_true c22
                  clear c22
                  by_cases c23 : a1_1 ≥ 0
                  · rw [if_pos c23] at H
                    have c23b0 : decide (0 ≤ a1_1) = true := decide_eq_true c23
                    clear c23
                    by_cases c24 : a2 ≥ 0
                    · rw [if_pos c24] at H
                      have c24b0 : decide (0 ≤ a2) = true := decide_eq_true c24
                      clear c24
                      by_cases c25 : a2 ≤ 1099511627776
                      · rw [if_pos c25] at H
                        have c25b0 : decide (a2 ≤ 1099511627776) = true := decide_eq_true c25
                        clear c25
                        by_cases c26 : a3 ≥ 1
                        · rw [if_pos c26] at H
                          have c26b0 : decide (1 ≤ a3) = true := decide_eq_true c26
                          clear c26
                          obtain rfl := Option.some.inj H
                          obtain ⟨Ao27, co27, eo27⟩ := Kd.R_slice HO_9.out
                          subst eo27
                          have hnb28 := NB196_195.out
                          have hnc28 := NB195_196.out
                          have hcz29_0 : wr.cell? ⟨gb196, 0, none⟩ = some (.int .u32 a1_0) := (blk_cell BK196.out 0).trans rfl
                          have hcz29_1 : wr.cell? ⟨gb196, 1, none⟩ = some (.int .i64 a1_1) := (blk_cell BK196.out 1).trans rfl
                          have hcz29_2 : wr.cell? ⟨gb196, 2, none⟩ = some (.int .i64 a1_2) := (blk_cell BK196.out 2).trans rfl
                          have hcz29_3 : wr.cell? ⟨gb196, 3, none⟩ = some (.int .i64 a1_3) := (blk_cell BK196.out 3).trans rfl
                          have hcz29_4 : wr.cell? ⟨gb196, 4, none⟩ = some (.int .i64 a1_4) := (blk_cell BK196.out 4).trans rfl
                          have hcz29_5 : wr.cell? ⟨gb196, 5, none⟩ = some (.int .i64 a1_5) := (blk_cell BK196.out 5).trans rfl
                          have hcz29_6 : wr.cell? ⟨gb196, 6, none⟩ = some (.int .i64 a1_6) := (blk_cell BK196.out 6).trans rfl
                          have hfz29_0 := blk_frozen BK196.out 0
                          have hfz29_1 := blk_frozen BK196.out 1
                          have hfz29_2 := blk_frozen BK196.out 2
                          have hfz29_3 := blk_frozen BK196.out 3
                          have hfz29_4 := blk_frozen BK196.out 4
                          have hfz29_5 := blk_frozen BK196.out 5
                          have hfz29_6 := blk_frozen BK196.out 6
                          go_wp2
                          go_ret
                          exact ⟨by first | rfl | (simp [errW_none, errW_some] <;> rfl) | (simp [*, errW_none, errW_some] <;> rfl), by repeat (first | (with_reducible first | exact HB.out | apply below_alloc | apply pw_below_drewN | apply below_drew1 | refine below_set ?_ GE195.out | refine below_set ?_ GE196.out) | exact HB.out)⟩
                        · rw [if_neg c26] at H
                          have c26b0 : decide (1 ≤ a3) = false := decide_eq_false c26
                          clear c26
                          obtain rfl := Option.some.inj H
                          obtain ⟨Ao30, co30, eo30⟩ := Kd.R_slice HO_9.out
                          subst eo30
                          have hnb31 := NB196_195.out
                          have hnc31 := NB195_196.out
                          have hcz32_0 : wr.cell? ⟨gb196, 0, none⟩ = some (.int .u32 a1_0) := (blk_cell BK196.out 0).trans rfl
                          have hcz32_1 : wr.cell? ⟨gb196, 1, none⟩ = some (.int .i64 a1_1) := (blk_cell BK196.out 1).trans rfl
                          have hcz32_2 : wr.cell? ⟨gb196, 2, none⟩ = some (.int .i64 a1_2) := (blk_cell BK196.out 2).trans rfl
                          have hcz32_3 : wr.cell? ⟨gb196, 3, none⟩ = some (.int .i64 a1_3) := (blk_cell BK196.out 3).trans rfl
                          have hcz32_4 : wr.cell? ⟨gb196, 4, none⟩ = some (.int .i64 a1_4) := (blk_cell BK196.out 4).trans rfl
                          have hcz32_5 : wr.cell? ⟨gb196, 5, none⟩ = some (.int .i64 a1_5) := (blk_cell BK196.out 5).trans rfl
                          have hcz32_6 : wr.cell? ⟨gb196, 6, none⟩ = some (.int .i64 a1_6) := (blk_cell BK196.out 6).trans rfl
                          have hfz32_0 := blk_frozen BK196.out 0
                          have hfz32_1 := blk_frozen BK196.out 1
                          have hfz32_2 := blk_frozen BK196.out 2
                          have hfz32_3 := blk_frozen BK196.out 3
                          have hfz32_4 := blk_frozen BK196.out 4
                          have hfz32_5 := blk_frozen BK196.out 5
                          have hfz32_6 := blk_frozen BK196.out 6
                          go_wp2
                          go_ret
                          exact ⟨by first | rfl | (simp [errW_none, errW_some] <;> rfl) | (simp [*, errW_none, errW_some] <;> rfl), by repeat (first | (with_reducible first | exact HB.out | apply below_alloc | apply pw_below_drewN | apply below_drew1 | refine below_set ?_ GE195.out | refine below_set ?_ GE196.out) | exact HB.out)⟩
                      · rw [if_neg c25] at H
                        have c25b0 : decide (a2 ≤ 1099511627776) = false := decide_eq_false c25
                        clear c25
                        obtain rfl := Option.some.inj H
                        obtain ⟨Ao33, co33, eo33⟩ := Kd.R_slice HO_9.out
                        subst eo33
                        have hnb34 := NB196_195.out
                        have hnc34 := NB195_196.out
                        have hcz35_0 : wr.cell? ⟨gb196, 0, none⟩ = some (.int .u32 a1_0) := (blk_cell BK196.out 0).trans rfl
                        have hcz35_1 : wr.cell? ⟨gb196, 1, none⟩ = some (.int .i64 a1_1) := (blk_cell BK196.out 1).trans rfl
                        have hcz35_2 : wr.cell? ⟨gb196, 2, none⟩ = some (.int .i64 a1_2) := (blk_cell BK196.out 2).trans rfl
                        have hcz35_3 : wr.cell? ⟨gb196, 3, none⟩ = some (.int .i64 a1_3) := (blk_cell BK196.out 3).trans rfl
                        have hcz35_4 : wr.cell? ⟨gb196, 4, none⟩ = some (.int .i64 a1_4) := (blk_cell BK196.out 4).trans rfl
                        have hcz35_5 : wr.cell? ⟨gb196, 5, none⟩ = some (.int .i64 a1_5) := (blk_cell BK196.out 5).trans rfl
                        have hcz35_6 : wr.cell? ⟨gb196, 6, none⟩ = some (.int .i64 a1_6) := (blk_cell BK196.out 6).trans rfl
                        have hfz35_0 := blk_frozen BK196.out 0
                        have hfz35_1 := blk_frozen BK196.out 1
                        have hfz35_2 := blk_frozen BK196.out 2
                        have hfz35_3 := blk_frozen BK196.out 3
                        have hfz35_4 := blk_frozen BK196.out 4
                        have hfz35_5 := blk_frozen BK196.out 5
                        have hfz35_6 := blk_frozen BK196.out 6
                        go_wp2
                        go_ret
                        exact ⟨by first | rfl | (simp [errW_none, errW_some] <;> rfl) | (simp [*, errW_none, errW_some] <;> rfl), by repeat (first | (with_reducible first | exact HB.out | apply below_alloc | apply pw_below_drewN | apply below_drew1 | refine below_set ?_ GE195.out | refine below_set ?_ GE196.out) | exact HB.out)⟩
                    · rw [if_neg c24] at H
                      have c24b0 : decide (0 ≤ a2) = false := decide_eq_false c24
                      clear c24
                      obtain rfl := Option.some.inj H
                      obtain ⟨Ao36, co36, eo36⟩ := Kd.R_slice HO_9.out
                      subst eo36
                      have hnb37 := NB196_195.out
                      have hnc37 := NB195_196.out
                      have hcz38_0 : wr.cell? ⟨gb196, 0, none⟩ = some (.int .u32 a1_0) := (blk_cell BK196.out 0).trans rfl
                      have hcz38_1 : wr.cell? ⟨gb196, 1, none⟩ = some (.int .i64 a1_1) := (blk_cell BK196.out 1).trans rfl
                      have hcz38_2 : wr.cell? ⟨gb196, 2, none⟩ = some (.int .i64 a1_2) := (blk_cell BK196.out 2).trans rfl
                      have hcz38_3 : wr.cell? ⟨gb196, 3, none⟩ = some (.int .i64 a1_3) := (blk_cell BK196.out 3).trans rfl
                      have hcz38_4 : wr.cell? ⟨gb196, 4, none⟩ = some (.int .i64 a1_4) := (blk_cell BK196.out 4).trans rfl
                      have hcz38_5 : wr.cell? ⟨gb196, 5, none⟩ = some (.int .i64 a1_5) := (blk_cell BK196.out 5).trans rfl
                      have hcz38_6 : wr.cell? ⟨gb196, 6, none⟩ = some (.int .i64 a1_6) := (blk_cell BK196.out 6).trans rfl
                      have hfz38_0 := blk_frozen BK196.out 0
                      have hfz38_1 := blk_frozen BK196.out 1
                      have hfz38_2 := blk_frozen BK196.out 2
                      have hfz38_3 := blk_frozen BK196.out 3
                      have hfz38_4 := blk_frozen BK196.out 4
                      have hfz38_5 := blk_frozen BK196.out 5
                      have hfz38_6 := blk_frozen BK196.out 6
                      go_wp2
                      go_ret
                      exact ⟨by first | rfl | (simp [errW_none, errW_some] <;> rfl) | (simp [*, errW_none, errW_some] <;> rfl), by repeat (first | (with_reducible first | exact HB.out | apply below_alloc | apply pw_below_drewN | apply below_drew1 | refine below_set ?_ GE195.out | refine below_set ?_ GE196.out) | exact HB.out)⟩
                  · rw [if_neg c23] at H
                    have c23b0 : decide (0 ≤ a1_1) = false := decide_eq_false c23
                    clear c23
                    obtain rfl := Option.some.inj H
                    obtain ⟨Ao39, co39, eo39⟩ := Kd.R_slice HO_9.out
                    subst eo39
                    have hnb40 := NB196_195.out
                    have hnc40 := NB195_196.out
                    have hcz41_0 : wr.cell? ⟨gb196, 0, none⟩ = some (.int .u32 a1_0) := (blk_cell BK196.out 0).trans rfl
                    have hcz41_1 : wr.cell? ⟨gb196, 1, none⟩ = some (.int .i64 a1_1) := (blk_cell BK196.out 1).trans rfl
                    have hcz41_2 : wr.cell? ⟨gb196, 2, none⟩ = some (.int .i64 a1_2) := (blk_cell BK196.out 2).trans rfl
                    have hcz41_3 : wr.cell? ⟨gb196, 3, none⟩ = some (.int .i64 a1_3) := (blk_cell BK196.out 3).trans rfl
                    have hcz41_4 : wr.cell? ⟨gb196, 4, none⟩ = some (.int .i64 a1_4) := (blk_cell BK196.out 4).trans rfl
                    have hcz41_5 : wr.cell? ⟨gb196, 5, none⟩ = some (.int .i64 a1_5) := (blk_cell BK196.out 5).trans rfl
                    have hcz41_6 : wr.cell? ⟨gb196, 6, none⟩ = some (.int .i64 a1_6) := (blk_cell BK196.out 6).trans rfl
                    have hfz41_0 := blk_frozen BK196.out 0
                    have hfz41_1 := blk_frozen BK196.out 1
                    have hfz41_2 := blk_frozen BK196.out 2
                    have hfz41_3 := blk_frozen BK196.out 3
                    have hfz41_4 := blk_frozen BK196.out 4
                    have hfz41_5 := blk_frozen BK196.out 5
                    have hfz41_6 := blk_frozen BK196.out 6
                    go_wp2
                    go_ret
                    exact ⟨by first | rfl | (simp [errW_none, errW_some] <;> rfl) | (simp [*, errW_none, errW_some] <;> rfl), by repeat (first | (with_reducible first | exact HB.out | apply below_alloc | apply pw_below_drewN | apply below_drew1 | refine below_set ?_ GE195.out | refine below_set ?_ GE196.out) | exact HB.out)⟩
                · rw [if_neg c22] at H
                  have c22b0 : decide (a1_3 ≤ 10000) = false := decide_eq_false c22
                  clear c22
                  obtain rfl := Option.some.inj H
                  obtain ⟨Ao42, co42, eo42⟩ := Kd.R_slice HO_9.out
                  subst eo42
                  have hnb43 := NB196_195.out
                  have hnc43 := NB195_196.out
                  have hcz44_0 : wr.cell? ⟨gb196, 0, none⟩ = some (.int .u32 a1_0) := (blk_cell BK196.out 0).trans rfl
                  have hcz44_1 : wr.cell? ⟨gb196, 1, none⟩ = some (.int .i64 a1_1) := (blk_cell BK196.out 1).trans rfl
                  have hcz44_2 : wr.cell? ⟨gb196, 2, none⟩ = some (.int .i64 a1_2) := (blk_cell BK196.out 2).trans rfl
                  have hcz44_3 : wr.cell? ⟨gb196, 3, none⟩ = some (.int .i64 a1_3) := (blk_cell BK196.out 3).trans rfl
                  have hcz44_4 : wr.cell? ⟨gb196, 4, none⟩ = some (.int .i64 a1_4) := (blk_cell BK196.out 4).trans rfl
                  have hcz44_5 : wr.cell? ⟨gb196, 5, none⟩ = some (.int .i64 a1_5) := (blk_cell BK196.out 5).trans rfl
                  have hcz44_6 : wr.cell? ⟨gb196, 6, none⟩ = some (.int .i64 a1_6) := (blk_cell BK196.out 6).trans rfl
                  have hfz44_0 := blk_frozen BK196.out 0
                  have hfz44_1 := blk_frozen BK196.out 1
                  have hfz44_2 := blk_frozen BK196.out 2
                  have hfz44_3 := blk_frozen BK196.out 3
                  have hfz44_4 := blk_frozen BK196.out 4
                  have hfz44_5 := blk_frozen BK196.out 5
                  have hfz44_6 := blk_frozen BK196.out 6
                  go_wp2
                  go_ret
                  exact ⟨by first | rfl | (simp [errW_none, errW_some] <;> rfl) | (simp [*, errW_none, errW_some] <;> rfl), by repeat (first | (with_reducible first | exact HB.out | apply below_alloc | apply pw_below_drewN | apply below_drew1 | refine below_set ?_ GE195.out | refine below_set ?_ GE196.out) | exact HB.out)⟩
              · rw [if_neg c21] at H
                have c21b0 : decide ((-10000) ≤ a1_3) = false := decide_eq_false c21
                clear c21
                obtain rfl := Option.some.inj H
                obtain ⟨Ao45, co45, eo45⟩ := Kd.R_slice HO_9.out
                subst eo45
                have hnb46 := NB196_195.out
                have hnc46 := NB195_196.out
                have hcz47_0 : wr.cell? ⟨gb196, 0, none⟩ = some (.int .u32 a1_0) := (blk_cell BK196.out 0).trans rfl
                have hcz47_1 : wr.cell? ⟨gb196, 1, none⟩ = some (.int .i64 a1_1) := (blk_cell BK196.out 1).trans rfl
                have hcz47_2 : wr.cell? ⟨gb196, 2, none⟩ = some (.int .i64 a1_2) := (blk_cell BK196.out 2).trans rfl
                have hcz47_3 : wr.cell? ⟨gb196, 3, none⟩ = some (.int .i64 a1_3) := (blk_cell BK196.out 3).trans rfl
                have hcz47_4 : wr.cell? ⟨gb196, 4, none⟩ = some (.int .i64 a1_4) := (blk_cell BK196.out 4).trans rfl
                have hcz47_5 : wr.cell? ⟨gb196, 5, none⟩ = some (.int .i64 a1_5) := (blk_cell BK196.out 5).trans rfl
                have hcz47_6 : wr.cell? ⟨gb196, 6, none⟩ = some (.int .i64 a1_6) := (blk_cell BK196.out 6).trans rfl
                have hfz47_0 := blk_frozen BK196.out 0
                have hfz47_1 := blk_frozen BK196.out 1
                have hfz47_2 := blk_frozen BK196.out 2
                have hfz47_3 := blk_frozen BK196.out 3
                have hfz47_4 := blk_frozen BK196.out 4
                have hfz47_5 := blk_frozen BK196.out 5
                have hfz47_6 := blk_frozen BK196.out 6
                go_wp2
                go_ret
                exact ⟨by first | rfl | (simp [errW_none, errW_some] <;> rfl) | (simp [*, errW_none, errW_some] <;> rfl), by repeat (first | (with_reducible first | exact HB.out | apply below_alloc | apply pw_below_drewN | apply below_drew1 | refine below_set ?_ GE195.out | refine below_set ?_ GE196.out) | exact HB.out)⟩
            · rw [if_neg c20] at H
              have c20b0 : decide (a1_6 ≤ 65536) = false := decide_eq_false c20
              clear c20
              obtain rfl := Option.some.inj H
              obtain ⟨Ao48, co48, eo48⟩ := Kd.R_slice HO_9.out
              subst eo48
              have hnb49 := NB196_195.out
              have hnc49 := NB195_196.out
              have hcz50_0 : wr.cell? ⟨gb196, 0, none⟩ = some (.int .u32 a1_0) := (blk_cell BK196.out 0).trans rfl
              have hcz50_1 : wr.cell? ⟨gb196, 1, none⟩ = some (.int .i64 a1_1) := (blk_cell BK196.out 1).trans rfl
              have hcz50_2 : wr.cell? ⟨gb196, 2, none⟩ = some (.int .i64 a1_2) := (blk_cell BK196.out 2).trans rfl
              have hcz50_3 : wr.cell? ⟨gb196, 3, none⟩ = some (.int .i64 a1_3) := (blk_cell BK196.out 3).trans rfl
              have hcz50_4 : wr.cell? ⟨gb196, 4, none⟩ = some (.int .i64 a1_4) := (blk_cell BK196.out 4).trans rfl
              have hcz50_5 : wr.cell? ⟨gb196, 5, none⟩ = some (.int .i64 a1_5) := (blk_cell BK196.out 5).trans rfl
              have hcz50_6 : wr.cell? ⟨gb196, 6, none⟩ = some (.int .i64 a1_6) := (blk_cell BK196.out 6).trans rfl
              have hfz50_0 := blk_frozen BK196.out 0
              have hfz50_1 := blk_frozen BK196.out 1
              have hfz50_2 := blk_frozen BK196.out 2
              have hfz50_3 := blk_frozen BK196.out 3
              have hfz50_4 := blk_frozen BK196.out 4
              have hfz50_5 := blk_frozen BK196.out 5
              have hfz50_6 := blk_frozen BK196.out 6
              go_wp2
              go_ret
              exact ⟨by first | rfl | (simp [errW_none, errW_some] <;> rfl) | (simp [*, errW_none, errW_some] <;> rfl), by repeat (first | (with_reducible first | exact HB.out | apply below_alloc | apply pw_below_drewN | apply below_drew1 | refine below_set ?_ GE195.out | refine below_set ?_ GE196.out) | exact HB.out)⟩
          · rw [if_neg c19] at H
            have c19b0 : decide (0 ≤ a1_6) = false := decide_eq_false c19
            clear c19
            obtain rfl := Option.some.inj H
            obtain ⟨Ao51, co51, eo51⟩ := Kd.R_slice HO_9.out
            subst eo51
            have hnb52 := NB196_195.out
            have hnc52 := NB195_196.out
            have hcz53_0 : wr.cell? ⟨gb196, 0, none⟩ = some (.int .u32 a1_0) := (blk_cell BK196.out 0).trans rfl
            have hcz53_1 : wr.cell? ⟨gb196, 1, none⟩ = some (.int .i64 a1_1) := (blk_cell BK196.out 1).trans rfl
            have hcz53_2 : wr.cell? ⟨gb196, 2, none⟩ = some (.int .i64 a1_2) := (blk_cell BK196.out 2).trans rfl
            have hcz53_3 : wr.cell? ⟨gb196, 3, none⟩ = some (.int .i64 a1_3) := (blk_cell BK196.out 3).trans rfl
            have hcz53_4 : wr.cell? ⟨gb196, 4, none⟩ = some (.int .i64 a1_4) := (blk_cell BK196.out 4).trans rfl
            have hcz53_5 : wr.cell? ⟨gb196, 5, none⟩ = some (.int .i64 a1_5) := (blk_cell BK196.out 5).trans rfl
            have hcz53_6 : wr.cell? ⟨gb196, 6, none⟩ = some (.int .i64 a1_6) := (blk_cell BK196.out 6).trans rfl
            have hfz53_0 := blk_frozen BK196.out 0
            have hfz53_1 := blk_frozen BK196.out 1
            have hfz53_2 := blk_frozen BK196.out 2
            have hfz53_3 := blk_frozen BK196.out 3
            have hfz53_4 := blk_frozen BK196.out 4
            have hfz53_5 := blk_frozen BK196.out 5
            have hfz53_6 := blk_frozen BK196.out 6
            go_wp2
            go_ret
            exact ⟨by first | rfl | (simp [errW_none, errW_some] <;> rfl) | (simp [*, errW_none, errW_some] <;> rfl), by repeat (first | (with_reducible first | exact HB.out | apply below_alloc | apply pw_below_drewN | apply below_drew1 | refine below_set ?_ GE195.out | refine below_set ?_ GE196.out) | exact HB.out)⟩
        · rw [if_neg c18] at H
          have c18b0 : decide (0 < a1_0) = false := decide_eq_false c18
          clear c18
          obtain rfl := Option.some.inj H
          obtain ⟨Ao54, co54, eo54⟩ := Kd.R_slice HO_9.out
          subst eo54
          have hnb55 := NB196_195.out
          have hnc55 := NB195_196.out
          have hcz56_0 : wr.cell? ⟨gb196, 0, none⟩ = some (.int .u32 a1_0) := (blk_cell BK196.out 0).trans rfl
          have hcz56_1 : wr.cell? ⟨gb196, 1, none⟩ = some (.int .i64 a1_1) := (blk_cell BK196.out 1).trans rfl
          have hcz56_2 : wr.cell? ⟨gb196, 2, none⟩ = some (.int .i64 a1_2) := (blk_cell BK196.out 2).trans rfl
          have hcz56_3 : wr.cell? ⟨gb196, 3, none⟩ = some (.int .i64 a1_3) := (blk_cell BK196.out 3).trans rfl
          have hcz56_4 : wr.cell? ⟨gb196, 4, none⟩ = some (.int .i64 a1_4) := (blk_cell BK196.out 4).trans rfl
          have hcz56_5 : wr.cell? ⟨gb196, 5, none⟩ = some (.int .i64 a1_5) := (blk_cell BK196.out 5).trans rfl
          have hcz56_6 : wr.cell? ⟨gb196, 6, none⟩ = some (.int .i64 a1_6) := (blk_cell BK196.out 6).trans rfl
          have hfz56_0 := blk_frozen BK196.out 0
          have hfz56_1 := blk_frozen BK196.out 1
          have hfz56_2 := blk_frozen BK196.out 2
          have hfz56_3 := blk_frozen BK196.out 3
          have hfz56_4 := blk_frozen BK196.out 4
          have hfz56_5 := blk_frozen BK196.out 5
          have hfz56_6 := blk_frozen BK196.out 6
          go_wp2
          go_ret
          exact ⟨by first | rfl | (simp [errW_none, errW_some] <;> rfl) | (simp [*, errW_none, errW_some] <;> rfl), by repeat (first | (with_reducible first | exact HB.out | apply below_alloc | apply pw_below_drewN | apply below_drew1 | refine below_set ?_ GE195.out | refine below_set ?_ GE196.out) | exact HB.out)⟩

end Go.Proofs.Ytgkmfhmodojdcaa.PQ
