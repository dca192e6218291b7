import Derived.Test.YtgkmfhmodojdcaaPQx0
import Derived.Test.YtgkmfhmodojdcaaPQx5
import Derived.Test.YtgkmfhmodojdcaaPQx6
import Derived.Test.YtgkmfhmodojdcaaPQx7
namespace Go.Proofs.Ytgkmfhmodojdcaa.PQ
open Go.RowKit Go.Proofs.YtgkmfhmodojdcaaW.PrintWords Go.Proofs.YtgkmfhmodojdcaaW.PrintLast Go.Proofs.YtgkmfhmodojdcaaW.PrintMore Go.Proofs.YtgkmfhmodojdcaaX
attribute [local go_sem] max2_int min2_int max_two min_two max_three min_three max_four min_four isSome_cell_set   -- for this text's walks alone
set_option linter.unusedVariables false
set_option linter.unusedSimpArgs false

mutual
def gangerref01_MulDiv.j0 : Nat → Int → Int → Int → Bool → Option (Int × Int)
  | 0, _, _, _, _ => none
  | k + 1, x0, x1, x2, x22 => if x22 = true then (some (0, 2)) else ((gangerref01_Of.f x0).bind fun bt135 => ((gangerref01_Of.f x1).bind fun bt138 => ((gangerref01_Product.f k bt135.1 bt135.2.1 bt135.2.2 bt138.1 bt138.2.1 bt138.2.2).bind fun bt141 => (gangerref01_MulDiv.l0 k x2 0 127 bt141.1 bt141.2.1 bt141.2.2 false 0 0))))
def gangerref01_MulDiv.l0 : Nat → Int → Int → Int → Bool → Int → Int → Bool → Int → Int → Option (Int × Int)
  | 0, _, _, _, _, _, _, _, _, _ => none
  | k + 1, x2, x10, x11, x145000, x145001, x145002, x146000, x146001, x146002 => if x11 ≥ 0 then (if 0 ≤ (IntKind.u64.wrap (Int.tmod x11 64)) then (if x11 ≥ 64 then (if 0 ≤ (IntKind.u64.wrap (wrap64 (x11 - 64))) then ((gangerref01_plus.f x146000 x146001 x146002 x146000 x146001 x146002).bind fun bt148 => (if (IntKind.u64.wrap ((IntKind.u64.wrap (x10 * 2)) + (Int.tmod (shr .u64 x145001 (IntKind.u64.wrap (wrap64 (x11 - 64)))) 2))) ≥ (IntKind.u64.wrap (x2)) then (gangerref01_MulDiv.l0 k x2 (IntKind.u64.wrap ((IntKind.u64.wrap ((IntKind.u64.wrap (x10 * 2)) + (Int.tmod (shr .u64 x145001 (IntKind.u64.wrap (wrap64 (x11 - 64)))) 2))) - (IntKind.u64.wrap (x2)))) (wrap64 (x11 - 1)) x145000 x145001 x145002 bt148.1 bt148.2.1 (IntKind.u64.wrap (bt148.2.2 + 1))) else (gangerref01_MulDiv.l0 k x2 (IntKind.u64.wrap ((IntKind.u64.wrap (x10 * 2)) + (Int.tmod (shr .u64 x145001 (IntKind.u64.wrap (wrap64 (x11 - 64)))) 2))) (wrap64 (x11 - 1)) x145000 x145001 x145002 bt148.1 bt148.2.1 bt148.2.2))) else (none)) else ((gangerref01_plus.f x146000 x146001 x146002 x146000 x146001 x146002).bind fun bt151 => (if (IntKind.u64.wrap ((IntKind.u64.wrap (x10 * 2)) + (Int.tmod (shr .u64 x145002 (IntKind.u64.wrap (Int.tmod x11 64))) 2))) ≥ (IntKind.u64.wrap (x2)) then (gangerref01_MulDiv.l0 k x2 (IntKind.u64.wrap ((IntKind.u64.wrap ((IntKind.u64.wrap (x10 * 2)) + (Int.tmod (shr .u64 x145002 (IntKind.u64.wrap (Int.tmod x11 64))) 2))) - (IntKind.u64.wrap (x2)))) (wrap64 (x11 - 1)) x145000 x145001 x145002 bt151.1 bt151.2.1 (IntKind.u64.wrap (bt151.2.2 + 1))) else (gangerref01_MulDiv.l0 k x2 (IntKind.u64.wrap ((IntKind.u64.wrap (x10 * 2)) + (Int.tmod (shr .u64 x145002 (IntKind.u64.wrap (Int.tmod x11 64))) 2))) (wrap64 (x11 - 1)) x145000 x145001 x145002 bt151.1 bt151.2.1 bt151.2.2)))) else (none)) else ((gangerref01_told.f k x146000 x146001 x146002).bind fun bt146 => (some (bt146.1, bt146.2)))
end
def gangerref01_MulDiv.f (k : Nat) (a0 : Int) (a1 : Int) (a2 : Int) : Option (Int × Int) := if a0 < 0 then (gangerref01_MulDiv.j0 k a0 a1 a2 true) else (if a1 < 0 then (gangerref01_MulDiv.j0 k a0 a1 a2 true) else (gangerref01_MulDiv.j0 k a0 a1 a2 (decide (a2 < 1))))
theorem gangerref01_MulDiv.mono_l : ∀ k, (∀ y0 y1 y2 y3, LeO (gangerref01_MulDiv.j0 k y0 y1 y2 y3) (gangerref01_MulDiv.j0 (k + 1) y0 y1 y2 y3)) ∧ (∀ y0 y1 y2 y3 y4 y5 y6 y7 y8, LeO (gangerref01_MulDiv.l0 k y0 y1 y2 y3 y4 y5 y6 y7 y8) (gangerref01_MulDiv.l0 (k + 1) y0 y1 y2 y3 y4 y5 y6 y7 y8))
  | 0 => ⟨fun _ _ _ _ r h => by simp [gangerref01_MulDiv.j0] at h, fun _ _ _ _ _ _ _ _ _ r h => by simp [gangerref01_MulDiv.l0] at h⟩
  | k + 1 => by
    obtain ⟨ih0, ih1⟩ := gangerref01_MulDiv.mono_l k
    refine ⟨?_, ?_⟩
    · intro y0 y1 y2 y3
      unfold gangerref01_MulDiv.j0
      repeat' first
      | (with_reducible exact ih0 _ _ _ _)
      | (with_reducible exact ih1 _ _ _ _ _ _ _ _ _)
      | (with_reducible exact gangerref01_Product.mono _ _ _ _ _ _ _)
      | (with_reducible exact gangerref01_told.mono _ _ _ _)
      | (with_reducible exact LeO.refl _)
      | (with_reducible exact LeO.none _)
      | (with_reducible refine LeO.ite ?_ ?_)
      | (with_reducible refine LeO.bind ?_ (fun _ => ?_))
      | exact ih0 _ _ _ _
      | exact ih1 _ _ _ _ _ _ _ _ _
      | exact gangerref01_Product.mono _ _ _ _ _ _ _
      | exact gangerref01_told.mono _ _ _ _
      | exact LeO.none _
      | refine LeO.ite ?_ ?_
      | refine LeO.bind ?_ (fun _ => ?_)
    · intro y0 y1 y2 y3 y4 y5 y6 y7 y8
      unfold gangerref01_MulDiv.l0
      repeat' first
      | (with_reducible exact ih0 _ _ _ _)
      | (with_reducible exact ih1 _ _ _ _ _ _ _ _ _)
      | (with_reducible exact gangerref01_Product.mono _ _ _ _ _ _ _)
      | (with_reducible exact gangerref01_told.mono _ _ _ _)
      | (with_reducible exact LeO.refl _)
      | (with_reducible exact LeO.none _)
      | (with_reducible refine LeO.ite ?_ ?_)
      | (with_reducible refine LeO.bind ?_ (fun _ => ?_))
      | exact ih0 _ _ _ _
      | exact ih1 _ _ _ _ _ _ _ _ _
      | exact gangerref01_Product.mono _ _ _ _ _ _ _
      | exact gangerref01_told.mono _ _ _ _
      | exact LeO.none _
      | refine LeO.ite ?_ ?_
      | refine LeO.bind ?_ (fun _ => ?_)
theorem gangerref01_MulDiv.mono : ∀ a0 a1 a2 k, LeO (gangerref01_MulDiv.f k a0 a1 a2) (gangerref01_MulDiv.f (k + 1) a0 a1 a2) := by
  intro a0 a1 a2 k
  obtain ⟨ih0, ih1⟩ := gangerref01_MulDiv.mono_l k
  unfold gangerref01_MulDiv.f
  repeat' first
      | (with_reducible exact ih0 _ _ _ _)
      | (with_reducible exact ih1 _ _ _ _ _ _ _ _ _)
      | (with_reducible exact gangerref01_Product.mono _ _ _ _ _ _ _)
      | (with_reducible exact gangerref01_told.mono _ _ _ _)
      | (with_reducible exact LeO.refl _)
      | (with_reducible exact LeO.none _)
      | (with_reducible refine LeO.ite ?_ ?_)
      | (with_reducible refine LeO.bind ?_ (fun _ => ?_))
      | exact ih0 _ _ _ _
      | exact ih1 _ _ _ _ _ _ _ _ _
      | exact gangerref01_Product.mono _ _ _ _ _ _ _
      | exact gangerref01_told.mono _ _ _ _
      | exact LeO.none _
      | refine LeO.ite ?_ ?_
      | refine LeO.bind ?_ (fun _ => ?_)
set_option maxHeartbeats 8000000 in
set_option maxRecDepth 100000 in
theorem gangerref01_MulDiv.calls (k : Nat) (a0 : Int) (a1 : Int) (a2 : Int) (r1 : Int) (r2 : Int) (w : World) (h : gangerref01_MulDiv.f k a0 a1 a2 = some (r1, r2)) :
    Calls Try.prog 25 #[.int .i64 a0, .int .i64 a1, .int .i64 a2] w fun e w' => e = .returned (.tuple #[.int .i64 r1, .int .i64 r2]) ∧ Below w.heap.size w w' := by
  have hu69 := Try.underlying69
  have HB := Aside0.mk (Below.refl w.heap.size w)
  have H : (if a0 < 0 then (gangerref01_MulDiv.j0 k a0 a1 a2 true) else (if a1 < 0 then (gangerref01_MulDiv.j0 k a0 a1 a2 true) else (gangerref01_MulDiv.j0 k a0 a1 a2 (decide (a2 < 1))))) = some (r1, r2) := h
  clear h
  have HC4 := Aside0.mk H
  clear H
  go_enter Try.func25, Try.ntmps25
  go_upto_region 1 with (fail)
  go_cut [22] (fun v22 wc => ∃ (kq : Nat) (x22_3 : Bool), v22 = .bool x22_3 ∧ Aside0 (gangerref01_MulDiv.j0 kq a0 a1 a2 x22_3 = some (r1, r2)) ∧ Aside0 (kq ≤ k) ∧ Aside0 (Below w.heap.size w wc))
  case first =>
    have H := HC4.out
    clear HC4
    by_cases c5 : a0 < 0
    · rw [if_pos c5] at H
      have c5b0 : decide (a0 < 0) = true := decide_eq_true c5
      clear c5
      (first | rw [c5b0] | (simp only [i64_w, i32_w]; rw [c5b0]) | skip)
      have H' := Aside0.mk H
      clear H
      go_wp2
      go_meet
      case rel => exact ⟨_, (true), (by first | rfl | (simp; done) | (simp [*]; done)), H', ⟨by first | omega | exact Nat.le_refl _⟩, ⟨by repeat (first | (with_reducible first | exact HB.out | apply below_alloc | apply pw_below_drewN | apply below_drew1) | exact HB.out)⟩⟩
    · rw [if_neg c5] at H
      have c5b0 : decide (a0 < 0) = false := decide_eq_false c5
      clear c5
      (first | rw [c5b0] | (simp only [i64_w, i32_w]; rw [c5b0]) | skip)
      by_cases c6 : a1 < 0
      · rw [if_pos c6] at H
        have c6b0 : decide (a1 < 0) = true := decide_eq_true c6
        clear c6
        have H' := Aside0.mk H
        clear H
        go_wp2
        go_meet
        case rel => exact ⟨_, (true), (by first | rfl | (simp; done) | (simp [*]; done)), H', ⟨by first | omega | exact Nat.le_refl _⟩, ⟨by repeat (first | (with_reducible first | exact HB.out | apply below_alloc | apply pw_below_drewN | apply below_drew1) | exact HB.out)⟩⟩
      · rw [if_neg c6] at H
        have c6b0 : decide (a1 < 0) = false := decide_eq_false c6
        clear c6
        have H' := Aside0.mk H
        clear H
        go_wp2
        go_meet
        case rel => exact ⟨_, (decide (a2 < 1)), (by first | rfl | (simp; done) | (simp [*]; done)), H', ⟨by first | omega | exact Nat.le_refl _⟩, ⟨by repeat (first | (with_reducible first | exact HB.out | apply below_alloc | apply pw_below_drewN | apply below_drew1) | exact HB.out)⟩⟩
  case rest =>
    clear HC4
    try clear c2
    try clear p2
    try clear c5
    try clear c5b0
    try clear c6
    try clear c6b0
    obtain ⟨kq, x22_3, rfl, HA, HJ3, HB⟩ := hcut
    cases kq with
    | zero => exact absurd HA.out (by simp [gangerref01_MulDiv.j0])
    | succ kj3 =>
      have H := HA.out
      clear HA
      simp only [gangerref01_MulDiv.j0] at H
      by_cases c7 : x22_3 = true
      · subst c7
        have H1 : (some (0, 2)) = some (r1, r2) := by rw [if_pos rfl] at H; exact H
        clear H
        have H := H1
        clear H1
        simp only [Option.some.injEq, Prod.mk.injEq] at H
        obtain ⟨rfl, rfl⟩ := H
        go_wp2
        go_ret2
        exact ⟨by first | rfl | (simp [errW_none, errW_some] <;> rfl) | (simp [*, errW_none, errW_some] <;> rfl), by repeat (first | (with_reducible first | exact HB.out | apply below_alloc | apply pw_below_drewN | apply below_drew1) | exact HB.out)⟩
      · replace c7 := Bool.eq_false_iff.mpr c7
        subst c7
        have H1 : ((gangerref01_Of.f a0).bind fun bt135 => ((gangerref01_Of.f a1).bind fun bt138 => ((gangerref01_Product.f kj3 bt135.1 bt135.2.1 bt135.2.2 bt138.1 bt138.2.1 bt138.2.2).bind fun bt141 => (gangerref01_MulDiv.l0 kj3 a2 0 127 bt141.1 bt141.2.1 bt141.2.2 false 0 0)))) = some (r1, r2) := by rw [if_neg (show ¬ (false = true) by decide)] at H; exact H
        clear H
        have H := H1
        clear H1
        replace H := Option.bind_eq_some_iff.mp H
        obtain ⟨⟨t135, t136, t137⟩, A80, H⟩ := H
        replace H : ((gangerref01_Of.f a1).bind fun bt138 => ((gangerref01_Product.f kj3 t135 t136 t137 bt138.1 bt138.2.1 bt138.2.2).bind fun bt141 => (gangerref01_MulDiv.l0 kj3 a2 0 127 bt141.1 bt141.2.1 bt141.2.2 false 0 0))) = some (r1, r2) := H
        have A8 := Aside0.mk A80
        clear A80
        replace H := Option.bind_eq_some_iff.mp H
        obtain ⟨⟨t138, t139, t140⟩, A90, H⟩ := H
        replace H : ((gangerref01_Product.f kj3 t135 t136 t137 t138 t139 t140).bind fun bt141 => (gangerref01_MulDiv.l0 kj3 a2 0 127 bt141.1 bt141.2.1 bt141.2.2 false 0 0)) = some (r1, r2) := H
        have A9 := Aside0.mk A90
        clear A90
        replace H := Option.bind_eq_some_iff.mp H
        obtain ⟨⟨t141, t142, t143⟩, A100, H⟩ := H
        replace H : (gangerref01_MulDiv.l0 kj3 a2 0 127 t141 t142 t143 false 0 0) = some (r1, r2) := H
        have A10 := Aside0.mk A100
        clear A100
        have H' := Aside0.mk H
        clear H
        go_wp2_with (first | ((with_reducible refine gate_callee (f := 34) rfl ?_); refine goesL_ (some 24) rfl rfl Try.func34 (by kernel_rfl) rfl #[.int .i64 a0] rfl (by (try simp only [List.map_toArray, List.map_cons, List.map_nil]); first | done | rfl | (simp only [List.length_drop, List.length_take]; rfl)) ?_; (with_reducible refine (gangerref01_Of.calls a0 t135 t136 t137 _ A8.out).mono ?_); rintro e w11 ⟨rfl, hb⟩; refine ⟨_, rfl, ?_⟩; have n0_ := Aside0.mk (below_step (by repeat (first | (with_reducible first | exact HB.out | apply below_alloc | apply pw_below_drewN | apply below_drew1) | exact HB.out)) hb); clear HB; have HB := n0_; clear n0_; (try clear hb); (try clear hb2); (try clear hk); (try clear hi)) | ((with_reducible refine gate_callee (f := 34) rfl ?_); refine goesL_ (some 26) rfl rfl Try.func34 (by kernel_rfl) rfl #[.int .i64 a1] rfl (by (try simp only [List.map_toArray, List.map_cons, List.map_nil]); first | done | rfl | (simp only [List.length_drop, List.length_take]; rfl)) ?_; (with_reducible refine (gangerref01_Of.calls a1 t138 t139 t140 _ A9.out).mono ?_); rintro e w12 ⟨rfl, hb⟩; refine ⟨_, rfl, ?_⟩; have n0_ := Aside0.mk (below_step (by repeat (first | (with_reducible first | exact HB.out | apply below_alloc | apply pw_below_drewN | apply below_drew1) | exact HB.out)) hb); clear HB; have HB := n0_; clear n0_; (try clear hb); (try clear hb2); (try clear hk); (try clear hi)) | ((with_reducible refine gate_callee (f := 33) rfl ?_); refine goesL_ (some 27) rfl rfl Try.func33 (by kernel_rfl) rfl #[.agg #[.bool t135, .int .u64 t136, .int .u64 t137], .agg #[.bool t138, .int .u64 t139, .int .u64 t140]] rfl (by (try simp only [List.map_toArray, List.map_cons, List.map_nil]); first | done | rfl | (simp only [List.length_drop, List.length_take]; rfl)) ?_; (with_reducible refine (gangerref01_Product.calls kj3 t135 t136 t137 t138 t139 t140 t141 t142 t143 _ A10.out).mono ?_); rintro e w13 ⟨rfl, hb⟩; refine ⟨_, rfl, ?_⟩; have n0_ := Aside0.mk (below_step (by repeat (first | (with_reducible first | exact HB.out | apply below_alloc | apply pw_below_drewN | apply below_drew1) | exact HB.out)) hb); clear HB; have HB := n0_; clear n0_; (try clear hb); (try clear hb2); (try clear hk); (try clear hi)) | ((with_reducible refine gate_dst (N := 8) rfl ?_); refine box_event ?hg (N := 8) ?hd (cs := #[.bool false, .int .u64 0, .int .u64 0]) (t := 69) ?hr ?_; (case hd => rfl); (case hg => rfl); (case hr => first | (go_simp; done) | (go_simp; rfl)); intro gb144 hg w14 hbox hb; have n0_ := Aside0.mk (below_step (by repeat (first | (with_reducible first | exact HB.out | apply below_alloc | apply pw_below_drewN | apply below_drew1) | exact HB.out)) hb); have n1_ := Aside0.mk (hbox); have n2_ := Aside0.mk ((by rw [hg]; exact (below_size (by repeat (first | (with_reducible first | exact HB.out | apply below_alloc | apply pw_below_drewN | apply below_drew1) | exact HB.out))) : w.heap.size ≤ gb144)); have n3_ := Aside0.mk ((by rw [hg]; exact (below_size (by repeat (first | (with_reducible first | exact HB.out | apply below_alloc | apply pw_below_drewN | apply below_drew1) | exact HB.out))) : w.heap.size ≤ gb144)); clear HB; have HB := n0_; have BK144 := n1_; have GW144 := n2_; have GE144 := n3_; clear n0_ n1_ n2_ n3_; clear hb hbox hg; have hcz15_0 : w14.cell? ⟨gb144, 0, none⟩ = some (.bool false) := (blk_cell BK144.out 0).trans rfl; have hcz15_1 : w14.cell? ⟨gb144, 1, none⟩ = some (.int .u64 0) := (blk_cell BK144.out 1).trans rfl; have hcz15_2 : w14.cell? ⟨gb144, 2, none⟩ = some (.int .u64 0) := (blk_cell BK144.out 2).trans rfl; have hfz15_0 := blk_frozen BK144.out 0; have hfz15_1 := blk_frozen BK144.out 1; have hfz15_2 := blk_frozen BK144.out 2) | ((with_reducible refine gate_dst (N := 9) rfl ?_); refine box_event ?hg (N := 9) ?hd (cs := #[.bool false, .int .u64 0, .int .u64 0]) (t := 69) ?hr ?_; (case hd => rfl); (case hg => rfl); (case hr => first | (go_simp; done) | (go_simp; rfl)); intro gb145 hg w16 hbox hb; have n0_ := Aside0.mk (blk_below (g := gb144) (o := .cells #[.bool t141, .int .u64 t142, .int .u64 t143] 69 (0, 0)) (by (with_reducible repeat (first | refine blk_drewN ?_ _ | refine blk_drew ?_ | refine blk_alloc ?_ _)); refine blk_put (cs := #[.bool t141, .int .u64 t142, .int .u64 0]) ?_ 2 _ rfl; (with_reducible repeat (first | refine blk_drewN ?_ _ | refine blk_drew ?_ | refine blk_alloc ?_ _)); refine blk_put (cs := #[.bool t141, .int .u64 0, .int .u64 0]) ?_ 1 _ rfl; (with_reducible repeat (first | refine blk_drewN ?_ _ | refine blk_drew ?_ | refine blk_alloc ?_ _)); refine blk_put (cs := #[.bool false, .int .u64 0, .int .u64 0]) ?_ 0 _ rfl; (with_reducible repeat (first | refine blk_drewN ?_ _ | refine blk_drew ?_ | refine blk_alloc ?_ _)); exact BK144.out) hb); have n1_ := Aside0.mk (below_step (by repeat (first | (with_reducible first | exact HB.out | apply below_alloc | apply pw_below_drewN | apply below_drew1 | refine below_set ?_ GE144.out) | exact HB.out)) hb); have n2_ := Aside0.mk (hbox); have n3_ := Aside0.mk ((by rw [hg]; exact (below_size (by repeat (first | (with_reducible first | exact HB.out | apply below_alloc | apply pw_below_drewN | apply below_drew1 | refine below_set ?_ GE144.out) | exact HB.out))) : w.heap.size ≤ gb145)); have n4_ := Aside0.mk ((by rw [hg]; exact (below_size (by repeat (first | (with_reducible first | exact HB.out | apply below_alloc | apply pw_below_drewN | apply below_drew1 | refine below_set ?_ GE144.out) | exact HB.out))) : w.heap.size ≤ gb145)); have n5_ := Aside0.mk ((by rw [hg]; exact Nat.ne_of_lt (blk_lt (g := gb144) (o := .cells #[.bool t141, .int .u64 t142, .int .u64 t143] 69 (0, 0)) (by (with_reducible repeat (first | refine blk_drewN ?_ _ | refine blk_drew ?_ | refine blk_alloc ?_ _)); refine blk_put (cs := #[.bool t141, .int .u64 t142, .int .u64 0]) ?_ 2 _ rfl; (with_reducible repeat (first | refine blk_drewN ?_ _ | refine blk_drew ?_ | refine blk_alloc ?_ _)); refine blk_put (cs := #[.bool t141, .int .u64 0, .int .u64 0]) ?_ 1 _ rfl; (with_reducible repeat (first | refine blk_drewN ?_ _ | refine blk_drew ?_ | refine blk_alloc ?_ _)); refine blk_put (cs := #[.bool false, .int .u64 0, .int .u64 0]) ?_ 0 _ rfl; (with_reducible repeat (first | refine blk_drewN ?_ _ | refine blk_drew ?_ | refine blk_alloc ?_ _)); exact BK144.out)) : gb144 ≠ gb145)); have n6_ := Aside0.mk ((by rw [hg]; exact Nat.ne_of_gt (blk_lt (g := gb144) (o := .cells #[.bool t141, .int .u64 t142, .int .u64 t143] 69 (0, 0)) (by (with_reducible repeat (first | refine blk_drewN ?_ _ | refine blk_drew ?_ | refine blk_alloc ?_ _)); refine blk_put (cs := #[.bool t141, .int .u64 t142, .int .u64 0]) ?_ 2 _ rfl; (with_reducible repeat (first | refine blk_drewN ?_ _ | refine blk_drew ?_ | refine blk_alloc ?_ _)); refine blk_put (cs := #[.bool t141, .int .u64 0, .int .u64 0]) ?_ 1 _ rfl; (with_reducible repeat (first | refine blk_drewN ?_ _ | refine blk_drew ?_ | refine blk_alloc ?_ _)); refine blk_put (cs := #[.bool false, .int .u64 0, .int .u64 0]) ?_ 0 _ rfl; (with_reducible repeat (first | refine blk_drewN ?_ _ | refine blk_drew ?_ | refine blk_alloc ?_ _)); exact BK144.out)) : gb145 ≠ gb144)); clear BK144; clear HB; have BK144 := n0_; have HB := n1_; have BK145 := n2_; have GW145 := n3_; have GE145 := n4_; have NB144_145 := n5_; have NB145_144 := n6_; clear n0_ n1_ n2_ n3_ n4_ n5_ n6_; clear hb hbox hg; have hnb17 := NB145_144.out; have hnc17 := NB144_145.out; have hcz18_0 : w16.cell? ⟨gb145, 0, none⟩ = some (.bool false) := (blk_cell BK145.out 0).trans rfl; have hcz18_1 : w16.cell? ⟨gb145, 1, none⟩ = some (.int .u64 0) := (blk_cell BK145.out 1).trans rfl; have hcz18_2 : w16.cell? ⟨gb145, 2, none⟩ = some (.int .u64 0) := (blk_cell BK145.out 2).trans rfl; have hfz18_0 := blk_frozen BK145.out 0; have hfz18_1 := blk_frozen BK145.out 1; have hfz18_2 := blk_frozen BK145.out 2))
        go_loopg [10, 11] kj3 (fun kq v10 v11 w' => ∃ (x10_2 : Int) (x11_2 : Int) (x146000_2 : Bool) (x146001_2 : Int) (x146002_2 : Int), v10 = .int .u64 x10_2 ∧ v11 = .int .i64 x11_2 ∧ Aside0 (gangerref01_MulDiv.l0 kq a2 x10_2 x11_2 t141 t142 t143 x146000_2 x146001_2 x146002_2 = some (r1, r2)) ∧ Aside0 (kq ≤ kj3) ∧ Aside0 (w'.heap[gb144]? = some (.cells #[.bool t141, .int .u64 t142, .int .u64 t143] 69 (0, 0))) ∧ Aside0 (w'.heap[gb145]? = some (.cells #[.bool x146000_2, .int .u64 x146001_2, .int .u64 x146002_2] 69 (0, 0))) ∧ Aside0 (Below w.heap.size w w'))
        case atStart => exact ⟨(0), (127), (false), (0), (0), (by first | rfl | (simp; done) | (simp [*]; done)), (by first | rfl | (simp; done) | (simp [*]; done)), H', ⟨Nat.le_refl _⟩, ⟨by (with_reducible repeat (first | refine blk_drewN ?_ _ | refine blk_drew ?_ | refine blk_alloc ?_ _)); refine blk_far ?_ NB144_145.out _; (with_reducible repeat (first | refine blk_drewN ?_ _ | refine blk_drew ?_ | refine blk_alloc ?_ _)); refine blk_far ?_ NB144_145.out _; (with_reducible repeat (first | refine blk_drewN ?_ _ | refine blk_drew ?_ | refine blk_alloc ?_ _)); refine blk_far ?_ NB144_145.out _; (with_reducible repeat (first | refine blk_drewN ?_ _ | refine blk_drew ?_ | refine blk_alloc ?_ _)); exact BK144.out⟩, ⟨by (with_reducible repeat (first | refine blk_drewN ?_ _ | refine blk_drew ?_ | refine blk_alloc ?_ _)); refine blk_put (cs := #[.bool false, .int .u64 0, .int .u64 0]) ?_ 2 _ rfl; (with_reducible repeat (first | refine blk_drewN ?_ _ | refine blk_drew ?_ | refine blk_alloc ?_ _)); refine blk_put (cs := #[.bool false, .int .u64 0, .int .u64 0]) ?_ 1 _ rfl; (with_reducible repeat (first | refine blk_drewN ?_ _ | refine blk_drew ?_ | refine blk_alloc ?_ _)); refine blk_put (cs := #[.bool false, .int .u64 0, .int .u64 0]) ?_ 0 _ rfl; (with_reducible repeat (first | refine blk_drewN ?_ _ | refine blk_drew ?_ | refine blk_alloc ?_ _)); exact BK145.out⟩, ⟨by repeat (first | (with_reducible first | exact HB.out | apply below_alloc | apply pw_below_drewN | apply below_drew1 | refine below_set ?_ GE144.out | refine below_set ?_ GE145.out) | exact HB.out)⟩⟩
        case round =>
          clear H'
          try clear c1
          try clear c2
          try clear p2
          try clear c3
          try clear c5
          try clear c5b0
          try clear c6
          try clear c6b0
          try clear c7
          try clear c17
          try clear hcz15_0
          try clear hcz15_1
          try clear hcz15_2
          try clear hcz18_0
          try clear hcz18_1
          try clear hcz18_2
          try clear hfz15_0
          try clear hfz15_1
          try clear hfz15_2
          try clear hfz18_0
          try clear hfz18_1
          try clear hfz18_2
          try clear p2
          obtain ⟨x10_2, x11_2, x146000_2, x146001_2, x146002_2, rfl, rfl, HA, HK2, BK144, BK145, HB⟩ := hrel
          cases gk with
          | zero => exact absurd HA.out (by simp [gangerref01_MulDiv.l0])
          | succ k2 =>
            have H := HA.out
            clear HA
            simp only [gangerref01_MulDiv.l0] at H
            by_cases c19 : x11_2 ≥ 0
            · rw [if_pos c19] at H
              have c19b0 : decide (0 ≤ x11_2) = true := decide_eq_true c19
              clear c19
              obtain ⟨ji20, hji20⟩ : ∃ j_ : Int, (IntKind.u64.wrap (Int.tmod x11_2 64)) = j_ := ⟨_, rfl⟩
              replace H : (if 0 ≤ (ji20) then (if x11_2 ≥ 64 then (if 0 ≤ (IntKind.u64.wrap (wrap64 (x11_2 - 64))) then ((gangerref01_plus.f x146000_2 x146001_2 x146002_2 x146000_2 x146001_2 x146002_2).bind fun bt148 => (if (IntKind.u64.wrap ((IntKind.u64.wrap (x10_2 * 2)) + (Int.tmod (shr .u64 t142 (IntKind.u64.wrap (wrap64 (x11_2 - 64)))) 2))) ≥ (IntKind.u64.wrap (a2)) then (gangerref01_MulDiv.l0 k2 a2 (IntKind.u64.wrap ((IntKind.u64.wrap ((IntKind.u64.wrap (x10_2 * 2)) + (Int.tmod (shr .u64 t142 (IntKind.u64.wrap (wrap64 (x11_2 - 64)))) 2))) - (IntKind.u64.wrap (a2)))) (wrap64 (x11_2 - 1)) t141 t142 t143 bt148.1 bt148.2.1 (IntKind.u64.wrap (bt148.2.2 + 1))) else (gangerref01_MulDiv.l0 k2 a2 (IntKind.u64.wrap ((IntKind.u64.wrap (x10_2 * 2)) + (Int.tmod (shr .u64 t142 (IntKind.u64.wrap (wrap64 (x11_2 - 64)))) 2))) (wrap64 (x11_2 - 1)) t141 t142 t143 bt148.1 bt148.2.1 bt148.2.2))) else (none)) else ((gangerref01_plus.f x146000_2 x146001_2 x146002_2 x146000_2 x146001_2 x146002_2).bind fun bt151 => (if (IntKind.u64.wrap ((IntKind.u64.wrap (x10_2 * 2)) + (Int.tmod (shr .u64 t143 (ji20)) 2))) ≥ (IntKind.u64.wrap (a2)) then (gangerref01_MulDiv.l0 k2 a2 (IntKind.u64.wrap ((IntKind.u64.wrap ((IntKind.u64.wrap (x10_2 * 2)) + (Int.tmod (shr .u64 t143 (ji20)) 2))) - (IntKind.u64.wrap (a2)))) (wrap64 (x11_2 - 1)) t141 t142 t143 bt151.1 bt151.2.1 (IntKind.u64.wrap (bt151.2.2 + 1))) else (gangerref01_MulDiv.l0 k2 a2 (IntKind.u64.wrap ((IntKind.u64.wrap (x10_2 * 2)) + (Int.tmod (shr .u64 t143 (ji20)) 2))) (wrap64 (x11_2 - 1)) t141 t142 t143 bt151.1 bt151.2.1 bt151.2.2)))) else (none)) = some (r1, r2) := by first | (rw [hji20] at H; exact H) | (simp only [hji20] at H ⊢; exact H)
              by_cases c21 : 0 ≤ (ji20)
              · rw [if_pos c21] at H
                have c21b0 := eq_true c21
                have c21b1 : decide (0 ≤ (ji20)) = true := decide_eq_true c21
                clear c21
                obtain ⟨ji22, hji22⟩ : ∃ j_ : Int, (shr .u64 t143 (ji20)) = j_ := ⟨_, rfl⟩
                replace H : (if x11_2 ≥ 64 then (if 0 ≤ (IntKind.u64.wrap (wrap64 (x11_2 - 64))) then ((gangerref01_plus.f x146000_2 x146001_2 x146002_2 x146000_2 x146001_2 x146002_2).bind fun bt148 => (if (IntKind.u64.wrap ((IntKind.u64.wrap (x10_2 * 2)) + (Int.tmod (shr .u64 t142 (IntKind.u64.wrap (wrap64 (x11_2 - 64)))) 2))) ≥ (IntKind.u64.wrap (a2)) then (gangerref01_MulDiv.l0 k2 a2 (IntKind.u64.wrap ((IntKind.u64.wrap ((IntKind.u64.wrap (x10_2 * 2)) + (Int.tmod (shr .u64 t142 (IntKind.u64.wrap (wrap64 (x11_2 - 64)))) 2))) - (IntKind.u64.wrap (a2)))) (wrap64 (x11_2 - 1)) t141 t142 t143 bt148.1 bt148.2.1 (IntKind.u64.wrap (bt148.2.2 + 1))) else (gangerref01_MulDiv.l0 k2 a2 (IntKind.u64.wrap ((IntKind.u64.wrap (x10_2 * 2)) + (Int.tmod (shr .u64 t142 (IntKind.u64.wrap (wrap64 (x11_2 - 64)))) 2))) (wrap64 (x11_2 - 1)) t141 t142 t143 bt148.1 bt148.2.1 bt148.2.2))) else (none)) else ((gangerref01_plus.f x146000_2 x146001_2 x146002_2 x146000_2 x146001_2 x146002_2).bind fun bt151 => (if (IntKind.u64.wrap ((IntKind.u64.wrap (x10_2 * 2)) + (Int.tmod (ji22) 2))) ≥ (IntKind.u64.wrap (a2)) then (gangerref01_MulDiv.l0 k2 a2 (IntKind.u64.wrap ((IntKind.u64.wrap ((IntKind.u64.wrap (x10_2 * 2)) + (Int.tmod (ji22) 2))) - (IntKind.u64.wrap (a2)))) (wrap64 (x11_2 - 1)) t141 t142 t143 bt151.1 bt151.2.1 (IntKind.u64.wrap (bt151.2.2 + 1))) else (gangerref01_MulDiv.l0 k2 a2 (IntKind.u64.wrap ((IntKind.u64.wrap (x10_2 * 2)) + (Int.tmod (ji22) 2))) (wrap64 (x11_2 - 1)) t141 t142 t143 bt151.1 bt151.2.1 bt151.2.2)))) = some (r1, r2) := by first | (rw [hji22] at H; exact H) | (simp only [hji22] at H ⊢; exact H)
                have hji22_ : (t143 / 2 ^ min (ji20).toNat 64) = ji22 := hji22
                have hji22z : (ji20) ≤ 64 → (t143 / 2 ^ (ji20).toNat) = ji22 := shr_small hji22
                by_cases c23 : x11_2 ≥ 64
                · rw [if_pos c23] at H
                  have c23b0 : decide (64 ≤ x11_2) = true := decide_eq_true c23
                  clear c23
                  obtain ⟨ji24, hji24⟩ : ∃ j_ : Int, (IntKind.u64.wrap (wrap64 (x11_2 - 64))) = j_ := ⟨_, rfl⟩
                  replace H : (if 0 ≤ (ji24) then ((gangerref01_plus.f x146000_2 x146001_2 x146002_2 x146000_2 x146001_2 x146002_2).bind fun bt148 => (if (IntKind.u64.wrap ((IntKind.u64.wrap (x10_2 * 2)) + (Int.tmod (shr .u64 t142 (ji24)) 2))) ≥ (IntKind.u64.wrap (a2)) then (gangerref01_MulDiv.l0 k2 a2 (IntKind.u64.wrap ((IntKind.u64.wrap ((IntKind.u64.wrap (x10_2 * 2)) + (Int.tmod (shr .u64 t142 (ji24)) 2))) - (IntKind.u64.wrap (a2)))) (wrap64 (x11_2 - 1)) t141 t142 t143 bt148.1 bt148.2.1 (IntKind.u64.wrap (bt148.2.2 + 1))) else (gangerref01_MulDiv.l0 k2 a2 (IntKind.u64.wrap ((IntKind.u64.wrap (x10_2 * 2)) + (Int.tmod (shr .u64 t142 (ji24)) 2))) (wrap64 (x11_2 - 1)) t141 t142 t143 bt148.1 bt148.2.1 bt148.2.2))) else (none)) = some (r1, r2) := by first | (rw [hji24] at H; exact H) | (simp only [hji24] at H ⊢; exact H)
                  by_cases c25 : 0 ≤ (ji24)
                  · rw [if_pos c25] at H
                    have c25b0 := eq_true c25
                    have c25b1 : decide (0 ≤ (ji24)) = true := decide_eq_true c25
                    clear c25
                    obtain ⟨ji26, hji26⟩ : ∃ j_ : Int, (shr .u64 t142 (ji24)) = j_ := ⟨_, rfl⟩
                    replace H : ((gangerref01_plus.f x146000_2 x146001_2 x146002_2 x146000_2 x146001_2 x146002_2).bind fun bt148 => (if (IntKind.u64.wrap ((IntKind.u64.wrap (x10_2 * 2)) + (Int.tmod (ji26) 2))) ≥ (IntKind.u64.wrap (a2)) then (gangerref01_MulDiv.l0 k2 a2 (IntKind.u64.wrap ((IntKind.u64.wrap ((IntKind.u64.wrap (x10_2 * 2)) + (Int.tmod (ji26) 2))) - (IntKind.u64.wrap (a2)))) (wrap64 (x11_2 - 1)) t141 t142 t143 bt148.1 bt148.2.1 (IntKind.u64.wrap (bt148.2.2 + 1))) else (gangerref01_MulDiv.l0 k2 a2 (IntKind.u64.wrap ((IntKind.u64.wrap (x10_2 * 2)) + (Int.tmod (ji26) 2))) (wrap64 (x11_2 - 1)) t141 t142 t143 bt148.1 bt148.2.1 bt148.2.2))) = some (r1, r2) := by first | (rw [hji26] at H; exact H) | (simp only [hji26] at H ⊢; exact H)
                    have hji26_ : (t142 / 2 ^ min (ji24).toNat 64) = ji26 := hji26
                    have hji26z : (ji24) ≤ 64 → (t142 / 2 ^ (ji24).toNat) = ji26 := shr_small hji26
                    replace H := Option.bind_eq_some_iff.mp H
                    obtain ⟨⟨t148, t149, t150⟩, A270, H⟩ := H
                    replace H : (if (IntKind.u64.wrap ((IntKind.u64.wrap (x10_2 * 2)) + (Int.tmod (ji26) 2))) ≥ (IntKind.u64.wrap (a2)) then (gangerref01_MulDiv.l0 k2 a2 (IntKind.u64.wrap ((IntKind.u64.wrap ((IntKind.u64.wrap (x10_2 * 2)) + (Int.tmod (ji26) 2))) - (IntKind.u64.wrap (a2)))) (wrap64 (x11_2 - 1)) t141 t142 t143 t148 t149 (IntKind.u64.wrap (t150 + 1))) else (gangerref01_MulDiv.l0 k2 a2 (IntKind.u64.wrap ((IntKind.u64.wrap (x10_2 * 2)) + (Int.tmod (ji26) 2))) (wrap64 (x11_2 - 1)) t141 t142 t143 t148 t149 t150)) = some (r1, r2) := H
                    have A27 := Aside0.mk A270
                    clear A270
                    by_cases c28 : (IntKind.u64.wrap ((IntKind.u64.wrap (x10_2 * 2)) + (Int.tmod (ji26) 2))) ≥ (IntKind.u64.wrap (a2))
                    · rw [if_pos c28] at H
                      have c28b0 : decide ((IntKind.u64.wrap (a2)) ≤ (IntKind.u64.wrap ((IntKind.u64.wrap (x10_2 * 2)) + (Int.tmod (ji26) 2)))) = true := decide_eq_true c28
                      clear c28
                      have H' := Aside0.mk H
                      clear H
                      have hnb29 := NB144_145.out
                      have hnc29 := NB145_144.out
                      have hcz30_0 : wr.cell? ⟨gb144, 0, none⟩ = some (.bool t141) := (blk_cell BK144.out 0).trans rfl
                      have hcz30_1 : wr.cell? ⟨gb144, 1, none⟩ = some (.int .u64 t142) := (blk_cell BK144.out 1).trans rfl
                      have hcz30_2 : wr.cell? ⟨gb144, 2, none⟩ = some (.int .u64 t143) := (blk_cell BK144.out 2).trans rfl
                      have hfz30_0 := blk_frozen BK144.out 0
                      have hfz30_1 := blk_frozen BK144.out 1
                      have hfz30_2 := blk_frozen BK144.out 2
                      have hcz31_0 : wr.cell? ⟨gb145, 0, none⟩ = some (.bool x146000_2) := (blk_cell BK145.out 0).trans rfl
                      have hcz31_1 : wr.cell? ⟨gb145, 1, none⟩ = some (.int .u64 x146001_2) := (blk_cell BK145.out 1).trans rfl
                      have hcz31_2 : wr.cell? ⟨gb145, 2, none⟩ = some (.int .u64 x146002_2) := (blk_cell BK145.out 2).trans rfl
                      have hfz31_0 := blk_frozen BK145.out 0
                      have hfz31_1 := blk_frozen BK145.out 1
                      have hfz31_2 := blk_frozen BK145.out 2
                      go_wp2_with (first | ((with_reducible refine gate_callee (f := 35) rfl ?_); refine goesL_ (some 55) rfl rfl Try.func35 (by kernel_rfl) rfl #[.agg #[.bool x146000_2, .int .u64 x146001_2, .int .u64 x146002_2], .agg #[.bool x146000_2, .int .u64 x146001_2, .int .u64 x146002_2]] rfl (by (try simp only [List.map_toArray, List.map_cons, List.map_nil]); first | done | rfl | (simp only [List.length_drop, List.length_take]; rfl)) ?_; (with_reducible refine (gangerref01_plus.calls x146000_2 x146001_2 x146002_2 x146000_2 x146001_2 x146002_2 t148 t149 t150 _ A27.out).mono ?_); rintro e w32 ⟨rfl, hb⟩; refine ⟨_, rfl, ?_⟩; have n0_ := Aside0.mk (blk_below (g := gb144) (o := .cells #[.bool t141, .int .u64 t142, .int .u64 t143] 69 (0, 0)) (by (with_reducible repeat (first | refine blk_drewN ?_ _ | refine blk_drew ?_ | refine blk_alloc ?_ _)); exact BK144.out) hb); have n1_ := Aside0.mk (blk_below (g := gb145) (o := .cells #[.bool x146000_2, .int .u64 x146001_2, .int .u64 x146002_2] 69 (0, 0)) (by (with_reducible repeat (first | refine blk_drewN ?_ _ | refine blk_drew ?_ | refine blk_alloc ?_ _)); exact BK145.out) hb); have n2_ := Aside0.mk (below_step (by repeat (first | (with_reducible first | exact HB.out | apply below_alloc | apply pw_below_drewN | apply below_drew1 | refine below_set ?_ GE144.out | refine below_set ?_ GE145.out) | exact HB.out)) hb); clear BK144; clear BK145; clear HB; have BK144 := n0_; have BK145 := n1_; have HB := n2_; clear n0_ n1_ n2_; (try clear hb); (try clear hb2); (try clear hk); (try clear hi); have hcz33_0 : w32.cell? ⟨gb145, 0, none⟩ = some (.bool x146000_2) := (blk_cell BK145.out 0).trans rfl; have hcz33_1 : w32.cell? ⟨gb145, 1, none⟩ = some (.int .u64 x146001_2) := (blk_cell BK145.out 1).trans rfl; have hcz33_2 : w32.cell? ⟨gb145, 2, none⟩ = some (.int .u64 x146002_2) := (blk_cell BK145.out 2).trans rfl; have hfz33_0 := blk_frozen BK145.out 0; have hfz33_1 := blk_frozen BK145.out 1; have hfz33_2 := blk_frozen BK145.out 2))
                      go_roundg k2
                      case measure => have := HJ3.out; have := HK2.out; omega
                      case rel => exact ⟨(IntKind.u64.wrap ((IntKind.u64.wrap ((IntKind.u64.wrap (x10_2 * 2)) + (Int.tmod (ji26) 2))) - (IntKind.u64.wrap (a2)))), (wrap64 (x11_2 - 1)), (t148), (t149), (IntKind.u64.wrap (t150 + 1)), (by first | rfl | (simp; done) | (simp only [← hji26] <;> (first | rfl | simp)) | (simp [*]; done)), (by first | rfl | (simp; done) | (simp [*]; done)), H', ⟨by have := HJ3.out; have := HK2.out; omega⟩, ⟨by (with_reducible repeat (first | refine blk_drewN ?_ _ | refine blk_drew ?_ | refine blk_alloc ?_ _)); refine blk_far ?_ NB144_145.out _; (with_reducible repeat (first | refine blk_drewN ?_ _ | refine blk_drew ?_ | refine blk_alloc ?_ _)); refine blk_far ?_ NB144_145.out _; (with_reducible repeat (first | refine blk_drewN ?_ _ | refine blk_drew ?_ | refine blk_alloc ?_ _)); refine blk_far ?_ NB144_145.out _; (with_reducible repeat (first | refine blk_drewN ?_ _ | refine blk_drew ?_ | refine blk_alloc ?_ _)); refine blk_far ?_ NB144_145.out _; (with_reducible repeat (first | refine blk_drewN ?_ _ | refine blk_drew ?_ | refine blk_alloc ?_ _)); exact BK144.out⟩, ⟨by (with_reducible repeat (first | refine blk_drewN ?_ _ | refine blk_drew ?_ | refine blk_alloc ?_ _)); refine blk_put (cs := #[.bool t148, .int .u64 t149, .int .u64 t150]) ?_ 2 _ rfl; (with_reducible repeat (first | refine blk_drewN ?_ _ | refine blk_drew ?_ | refine blk_alloc ?_ _)); refine blk_put (cs := #[.bool t148, .int .u64 t149, .int .u64 x146002_2]) ?_ 2 _ rfl; (with_reducible repeat (first | refine blk_drewN ?_ _ | refine blk_drew ?_ | refine blk_alloc ?_ _)); refine blk_put (cs := #[.bool t148, .int .u64 x146001_2, .int .u64 x146002_2]) ?_ 1 _ rfl; (with_reducible repeat (first | refine blk_drewN ?_ _ | refine blk_drew ?_ | refine blk_alloc ?_ _)); refine blk_put (cs := #[.bool x146000_2, .int .u64 x146001_2, .int .u64 x146002_2]) ?_ 0 _ rfl; (with_reducible repeat (first | refine blk_drewN ?_ _ | refine blk_drew ?_ | refine blk_alloc ?_ _)); exact BK145.out⟩, ⟨by repeat (first | (with_reducible first | exact HB.out | apply below_alloc | apply pw_below_drewN | apply below_drew1 | refine below_set ?_ GE144.out | refine below_set ?_ GE145.out) | exact HB.out)⟩⟩
                    · rw [if_neg c28] at H
                      have c28b0 : decide ((IntKind.u64.wrap (a2)) ≤ (IntKind.u64.wrap ((IntKind.u64.wrap (x10_2 * 2)) + (Int.tmod (ji26) 2)))) = false := decide_eq_false c28
                      clear c28
                      have H' := Aside0.mk H
                      clear H
                      have hnb34 := NB144_145.out
                      have hnc34 := NB145_144.out
                      have hcz35_0 : wr.cell? ⟨gb144, 0, none⟩ = some (.bool t141) := (blk_cell BK144.out 0).trans rfl
                      have hcz35_1 : wr.cell? ⟨gb144, 1, none⟩ = some (.int .u64 t142) := (blk_cell BK144.out 1).trans rfl
                      have hcz35_2 : wr.cell? ⟨gb144, 2, none⟩ = some (.int .u64 t143) := (blk_cell BK144.out 2).trans rfl
                      have hfz35_0 := blk_frozen BK144.out 0
                      have hfz35_1 := blk_frozen BK144.out 1
                      have hfz35_2 := blk_frozen BK144.out 2
                      have hcz36_0 : wr.cell? ⟨gb145, 0, none⟩ = some (.bool x146000_2) := (blk_cell BK145.out 0).trans rfl
                      have hcz36_1 : wr.cell? ⟨gb145, 1, none⟩ = some (.int .u64 x146001_2) := (blk_cell BK145.out 1).trans rfl
                      have hcz36_2 : wr.cell? ⟨gb145, 2, none⟩ = some (.int .u64 x146002_2) := (blk_cell BK145.out 2).trans rfl
                      have hfz36_0 := blk_frozen BK145.out 0
                      have hfz36_1 := blk_frozen BK145.out 1
                      have hfz36_2 := blk_frozen BK145.out 2
                      go_wp2_with (first | ((with_reducible refine gate_callee (f := 35) rfl ?_); refine goesL_ (some 55) rfl rfl Try.func35 (by kernel_rfl) rfl #[.agg #[.bool x146000_2, .int .u64 x146001_2, .int .u64 x146002_2], .agg #[.bool x146000_2, .int .u64 x146001_2, .int .u64 x146002_2]] rfl (by (try simp only [List.map_toArray, List.map_cons, List.map_nil]); first | done | rfl | (simp only [List.length_drop, List.length_take]; rfl)) ?_; (with_reducible refine (gangerref01_plus.calls x146000_2 x146001_2 x146002_2 x146000_2 x146001_2 x146002_2 t148 t149 t150 _ A27.out).mono ?_); rintro e w37 ⟨rfl, hb⟩; refine ⟨_, rfl, ?_⟩; have n0_ := Aside0.mk (blk_below (g := gb144) (o := .cells #[.bool t141, .int .u64 t142, .int .u64 t143] 69 (0, 0)) (by (with_reducible repeat (first | refine blk_drewN ?_ _ | refine blk_drew ?_ | refine blk_alloc ?_ _)); exact BK144.out) hb); have n1_ := Aside0.mk (blk_below (g := gb145) (o := .cells #[.bool x146000_2, .int .u64 x146001_2, .int .u64 x146002_2] 69 (0, 0)) (by (with_reducible repeat (first | refine blk_drewN ?_ _ | refine blk_drew ?_ | refine blk_alloc ?_ _)); exact BK145.out) hb); have n2_ := Aside0.mk (below_step (by repeat (first | (with_reducible first | exact HB.out | apply below_alloc | apply pw_below_drewN | apply below_drew1 | refine below_set ?_ GE144.out | refine below_set ?_ GE145.out) | exact HB.out)) hb); clear BK144; clear BK145; clear HB; have BK144 := n0_; have BK145 := n1_; have HB := n2_; clear n0_ n1_ n2_; (try clear hb); (try clear hb2); (try clear hk); (try clear hi); have hcz38_0 : w37.cell? ⟨gb145, 0, none⟩ = some (.bool x146000_2) := (blk_cell BK145.out 0).trans rfl; have hcz38_1 : w37.cell? ⟨gb145, 1, none⟩ = some (.int .u64 x146001_2) := (blk_cell BK145.out 1).trans rfl; have hcz38_2 : w37.cell? ⟨gb145, 2, none⟩ = some (.int .u64 x146002_2) := (blk_cell BK145.out 2).trans rfl; have hfz38_0 := blk_frozen BK145.out 0; have hfz38_1 := blk_frozen BK145.out 1; have hfz38_2 := blk_frozen BK145.out 2))
                      go_roundg k2
                      case measure => have := HJ3.out; have := HK2.out; omega
                      case rel => exact ⟨(IntKind.u64.wrap ((IntKind.u64.wrap (x10_2 * 2)) + (Int.tmod (ji26) 2))), (wrap64 (x11_2 - 1)), (t148), (t149), (t150), (by first | rfl | (simp; done) | (simp only [← hji26] <;> (first | rfl | simp)) | (simp [*]; done)), (by first | rfl | (simp; done) | (simp [*]; done)), H', ⟨by have := HJ3.out; have := HK2.out; omega⟩, ⟨by (with_reducible repeat (first | refine blk_drewN ?_ _ | refine blk_drew ?_ | refine blk_alloc ?_ _)); refine blk_far ?_ NB144_145.out _; (with_reducible repeat (first | refine blk_drewN ?_ _ | refine blk_drew ?_ | refine blk_alloc ?_ _)); refine blk_far ?_ NB144_145.out _; (with_reducible repeat (first | refine blk_drewN ?_ _ | refine blk_drew ?_ | refine blk_alloc ?_ _)); refine blk_far ?_ NB144_145.out _; (with_reducible repeat (first | refine blk_drewN ?_ _ | refine blk_drew ?_ | refine blk_alloc ?_ _)); exact BK144.out⟩, ⟨by (with_reducible repeat (first | refine blk_drewN ?_ _ | refine blk_drew ?_ | refine blk_alloc ?_ _)); refine blk_put (cs := #[.bool t148, .int .u64 t149, .int .u64 x146002_2]) ?_ 2 _ rfl; (with_reducible repeat (first | refine blk_drewN ?_ _ | refine blk_drew ?_ | refine blk_alloc ?_ _)); refine blk_put (cs := #[.bool t148, .int .u64 x146001_2, .int .u64 x146002_2]) ?_ 1 _ rfl; (with_reducible repeat (first | refine blk_drewN ?_ _ | refine blk_drew ?_ | refine blk_alloc ?_ _)); refine blk_put (cs := #[.bool x146000_2, .int .u64 x146001_2, .int .u64 x146002_2]) ?_ 0 _ rfl; (with_reducible repeat (first | refine blk_drewN ?_ _ | refine blk_drew ?_ | refine blk_alloc ?_ _)); exact BK145.out⟩, ⟨by repeat (first | (with_reducible first | exact HB.out | apply below_alloc | apply pw_below_drewN | apply below_drew1 | refine below_set ?_ GE144.out | refine below_set ?_ GE145.out) | exact HB.out)⟩⟩
                  · rw [if_neg c25] at H
                    exact absurd H (by simp)
                · rw [if_neg c23] at H
                  have c23b0 : decide (64 ≤ x11_2) = false := decide_eq_false c23
                  clear c23
                  replace H := Option.bind_eq_some_iff.mp H
                  obtain ⟨⟨t151, t152, t153⟩, A390, H⟩ := H
                  replace H : (if (IntKind.u64.wrap ((IntKind.u64.wrap (x10_2 * 2)) + (Int.tmod (ji22) 2))) ≥ (IntKind.u64.wrap (a2)) then (gangerref01_MulDiv.l0 k2 a2 (IntKind.u64.wrap ((IntKind.u64.wrap ((IntKind.u64.wrap (x10_2 * 2)) + (Int.tmod (ji22) 2))) - (IntKind.u64.wrap (a2)))) (wrap64 (x11_2 - 1)) t141 t142 t143 t151 t152 (IntKind.u64.wrap (t153 + 1))) else (gangerref01_MulDiv.l0 k2 a2 (IntKind.u64.wrap ((IntKind.u64.wrap (x10_2 * 2)) + (Int.tmod (ji22) 2))) (wrap64 (x11_2 - 1)) t141 t142 t143 t151 t152 t153)) = some (r1, r2) := H
                  have A39 := Aside0.mk A390
                  clear A390
                  by_cases c40 : (IntKind.u64.wrap ((IntKind.u64.wrap (x10_2 * 2)) + (Int.tmod (ji22) 2))) ≥ (IntKind.u64.wrap (a2))
                  · rw [if_pos c40] at H
                    have c40b0 : decide ((IntKind.u64.wrap (a2)) ≤ (IntKind.u64.wrap ((IntKind.u64.wrap (x10_2 * 2)) + (Int.tmod (ji22) 2)))) = true := decide_eq_true c40
                    clear c40
                    have H' := Aside0.mk H
                    clear H
                    have hnb41 := NB144_145.out
                    have hnc41 := NB145_144.out
                    have hcz42_0 : wr.cell? ⟨gb144, 0, none⟩ = some (.bool t141) := (blk_cell BK144.out 0).trans rfl
                    have hcz42_1 : wr.cell? ⟨gb144, 1, none⟩ = some (.int .u64 t142) := (blk_cell BK144.out 1).trans rfl
                    have hcz42_2 : wr.cell? ⟨gb144, 2, none⟩ = some (.int .u64 t143) := (blk_cell BK144.out 2).trans rfl
                    have hfz42_0 := blk_frozen BK144.out 0
                    have hfz42_1 := blk_frozen BK144.out 1
                    have hfz42_2 := blk_frozen BK144.out 2
                    have hcz43_0 : wr.cell? ⟨gb145, 0, none⟩ = some (.bool x146000_2) := (blk_cell BK145.out 0).trans rfl
                    have hcz43_1 : wr.cell? ⟨gb145, 1, none⟩ = some (.int .u64 x146001_2) := (blk_cell BK145.out 1).trans rfl
                    have hcz43_2 : wr.cell? ⟨gb145, 2, none⟩ = some (.int .u64 x146002_2) := (blk_cell BK145.out 2).trans rfl
                    have hfz43_0 := blk_frozen BK145.out 0
                    have hfz43_1 := blk_frozen BK145.out 1
                    have hfz43_2 := blk_frozen BK145.out 2
                    go_wp2_with (first | ((with_reducible refine gate_callee (f := 35) rfl ?_); refine goesL_ (some 55) rfl rfl Try.func35 (by kernel_rfl) rfl #[.agg #[.bool x146000_2, .int .u64 x146001_2, .int .u64 x146002_2], .agg #[.bool x146000_2, .int .u64 x146001_2, .int .u64 x146002_2]] rfl (by (try simp only [List.map_toArray, List.map_cons, List.map_nil]); first | done | rfl | (simp only [List.length_drop, List.length_take]; rfl)) ?_; (with_reducible refine (gangerref01_plus.calls x146000_2 x146001_2 x146002_2 x146000_2 x146001_2 x146002_2 t151 t152 t153 _ A39.out).mono ?_); rintro e w44 ⟨rfl, hb⟩; refine ⟨_, rfl, ?_⟩; have n0_ := Aside0.mk (blk_below (g := gb144) (o := .cells #[.bool t141, .int .u64 t142, .int .u64 t143] 69 (0, 0)) (by (with_reducible repeat (first | refine blk_drewN ?_ _ | refine blk_drew ?_ | refine blk_alloc ?_ _)); exact BK144.out) hb); have n1_ := Aside0.mk (blk_below (g := gb145) (o := .cells #[.bool x146000_2, .int .u64 x146001_2, .int .u64 x146002_2] 69 (0, 0)) (by (with_reducible repeat (first | refine blk_drewN ?_ _ | refine blk_drew ?_ | refine blk_alloc ?_ _)); exact BK145.out) hb); have n2_ := Aside0.mk (below_step (by repeat (first | (with_reducible first | exact HB.out | apply below_alloc | apply pw_below_drewN | apply below_drew1 | refine below_set ?_ GE144.out | refine below_set ?_ GE145.out) | exact HB.out)) hb); clear BK144; clear BK145; clear HB; have BK144 := n0_; have BK145 := n1_; have HB := n2_; clear n0_ n1_ n2_; (try clear hb); (try clear hb2); (try clear hk); (try clear hi); have hcz45_0 : w44.cell? ⟨gb145, 0, none⟩ = some (.bool x146000_2) := (blk_cell BK145.out 0).trans rfl; have hcz45_1 : w44.cell? ⟨gb145, 1, none⟩ = some (.int .u64 x146001_2) := (blk_cell BK145.out 1).trans rfl; have hcz45_2 : w44.cell? ⟨gb145, 2, none⟩ = some (.int .u64 x146002_2) := (blk_cell BK145.out 2).trans rfl; have hfz45_0 := blk_frozen BK145.out 0; have hfz45_1 := blk_frozen BK145.out 1; have hfz45_2 := blk_frozen BK145.out 2))
                    go_roundg k2
                    case measure => have := HJ3.out; have := HK2.out; omega
                    case rel => exact ⟨(IntKind.u64.wrap ((IntKind.u64.wrap ((IntKind.u64.wrap (x10_2 * 2)) + (Int.tmod (ji22) 2))) - (IntKind.u64.wrap (a2)))), (wrap64 (x11_2 - 1)), (t151), (t152), (IntKind.u64.wrap (t153 + 1)), (by first | rfl | (simp; done) | (simp only [← hji22] <;> (first | rfl | simp)) | (simp [*]; done)), (by first | rfl | (simp; done) | (simp [*]; done)), H', ⟨by have := HJ3.out; have := HK2.out; omega⟩, ⟨by (with_reducible repeat (first | refine blk_drewN ?_ _ | refine blk_drew ?_ | refine blk_alloc ?_ _)); refine blk_far ?_ NB144_145.out _; (with_reducible repeat (first | refine blk_drewN ?_ _ | refine blk_drew ?_ | refine blk_alloc ?_ _)); refine blk_far ?_ NB144_145.out _; (with_reducible repeat (first | refine blk_drewN ?_ _ | refine blk_drew ?_ | refine blk_alloc ?_ _)); refine blk_far ?_ NB144_145.out _; (with_reducible repeat (first | refine blk_drewN ?_ _ | refine blk_drew ?_ | refine blk_alloc ?_ _)); refine blk_far ?_ NB144_145.out _; (with_reducible repeat (first | refine blk_drewN ?_ _ | refine blk_drew ?_ | refine blk_alloc ?_ _)); exact BK144.out⟩, ⟨by (with_reducible repeat (first | refine blk_drewN ?_ _ | refine blk_drew ?_ | refine blk_alloc ?_ _)); refine blk_put (cs := #[.bool t151, .int .u64 t152, .int .u64 t153]) ?_ 2 _ rfl; (with_reducible repeat (first | refine blk_drewN ?_ _ | refine blk_drew ?_ | refine blk_alloc ?_ _)); refine blk_put (cs := #[.bool t151, .int .u64 t152, .int .u64 x146002_2]) ?_ 2 _ rfl; (with_reducible repeat (first | refine blk_drewN ?_ _ | refine blk_drew ?_ | refine blk_alloc ?_ _)); refine blk_put (cs := #[.bool t151, .int .u64 x146001_2, .int .u64 x146002_2]) ?_ 1 _ rfl; (with_reducible repeat (first | refine blk_drewN ?_ _ | refine blk_drew ?_ | refine blk_alloc ?_ _)); refine blk_put (cs := #[.bool x146000_2, .int .u64 x146001_2, .int .u64 x146002_2]) ?_ 0 _ rfl; (with_reducible repeat (first | refine blk_drewN ?_ _ | refine blk_drew ?_ | refine blk_alloc ?_ _)); exact BK145.out⟩, ⟨by repeat (first | (with_reducible first | exact HB.out | apply below_alloc | apply pw_below_drewN | apply below_drew1 | refine below_set ?_ GE144.out | refine below_set ?_ GE145.out) | exact HB.out)⟩⟩
                  · rw [if_neg c40] at H
                    have c40b0 : decide ((IntKind.u64.wrap (a2)) ≤ (IntKind.u64.wrap ((IntKind.u64.wrap (x10_2 * 2)) + (Int.tmod (ji22) 2)))) = false := decide_eq_false c40
                    clear c40
                    have H' := Aside0.mk H
                    clear H
                    have hnb46 := NB144_145.out
                    have hnc46 := NB145_144.out
                    have hcz47_0 : wr.cell? ⟨gb144, 0, none⟩ = some (.bool t141) := (blk_cell BK144.out 0).trans rfl
                    have hcz47_1 : wr.cell? ⟨gb144, 1, none⟩ = some (.int .u64 t142) := (blk_cell BK144.out 1).trans rfl
                    have hcz47_2 : wr.cell? ⟨gb144, 2, none⟩ = some (.int .u64 t143) := (blk_cell BK144.out 2).trans rfl
                    have hfz47_0 := blk_frozen BK144.out 0
                    have hfz47_1 := blk_frozen BK144.out 1
                    have hfz47_2 := blk_frozen BK144.out 2
                    have hcz48_0 : wr.cell? ⟨gb145, 0, none⟩ = some (.bool x146000_2) := (blk_cell BK145.out 0).trans rfl
                    have hcz48_1 : wr.cell? ⟨gb145, 1, none⟩ = some (.int .u64 x146001_2) := (blk_cell BK145.out 1).trans rfl
                    have hcz48_2 : wr.cell? ⟨gb145, 2, none⟩ = some (.int .u64 x146002_2) := (blk_cell BK145.out 2).trans rfl
                    have hfz48_0 := blk_frozen BK145.out 0
                    have hfz48_1 := blk_frozen BK145.out 1
                    have hfz48_2 := blk_frozen BK145.out 2
                    go_wp2_with (first | ((with_reducible refine gate_callee (f := 35) rfl ?_); refine goesL_ (some 55) rfl rfl Try.func35 (by kernel_rfl) rfl #[.agg #[.bool x146000_2, .int .u64 x146001_2, .int .u64 x146002_2], .agg #[.bool x146000_2, .int .u64 x146001_2, .int .u64 x146002_2]] rfl (by (try simp only [List.map_toArray, List.map_cons, List.map_nil]); first | done | rfl | (simp only [List.length_drop, List.length_take]; rfl)) ?_; (with_reducible refine (gangerref01_plus.calls x146000_2 x146001_2 x146002_2 x146000_2 x146001_2 x146002_2 t151 t152 t153 _ A39.out).mono ?_); rintro e w49 ⟨rfl, hb⟩; refine ⟨_, rfl, ?_⟩; have n0_ := Aside0.mk (blk_below (g := gb144) (o := .cells #[.bool t141, .int .u64 t142, .int .u64 t143] 69 (0, 0)) (by (with_reducible repeat (first | refine blk_drewN ?_ _ | refine blk_drew ?_ | refine blk_alloc ?_ _)); exact BK144.out) hb); have n1_ := Aside0.mk (blk_below (g := gb145) (o := .cells #[.bool x146000_2, .int .u64 x146001_2, .int .u64 x146002_2] 69 (0, 0)) (by (with_reducible repeat (first | refine blk_drewN ?_ _ | refine blk_drew ?_ | refine blk_alloc ?_ _)); exact BK145.out) hb); have n2_ := Aside0.mk (below_step (by repeat (first | (with_reducible first | exact HB.out | apply below_alloc | apply pw_below_drewN | apply below_drew1 | refine below_set ?_ GE144.out | refine below_set ?_ GE145.out) | exact HB.out)) hb); clear BK144; clear BK145; clear HB; have BK144 := n0_; have BK145 := n1_; have HB := n2_; clear n0_ n1_ n2_; (try clear hb); (try clear hb2); (try clear hk); (try clear hi); have hcz50_0 : w49.cell? ⟨gb145, 0, none⟩ = some (.bool x146000_2) := (blk_cell BK145.out 0).trans rfl; have hcz50_1 : w49.cell? ⟨gb145, 1, none⟩ = some (.int .u64 x146001_2) := (blk_cell BK145.out 1).trans rfl; have hcz50_2 : w49.cell? ⟨gb145, 2, none⟩ = some (.int .u64 x146002_2) := (blk_cell BK145.out 2).trans rfl; have hfz50_0 := blk_frozen BK145.out 0; have hfz50_1 := blk_frozen BK145.out 1; have hfz50_2 := blk_frozen BK145.out 2))
                    go_roundg k2
                    case measure => have := HJ3.out; have := HK2.out; omega
                    case rel => exact ⟨(IntKind.u64.wrap ((IntKind.u64.wrap (x10_2 * 2)) + (Int.tmod (ji22) 2))), (wrap64 (x11_2 - 1)), (t151), (t152), (t153), (by first | rfl | (simp; done) | (simp only [← hji22] <;> (first | rfl | simp)) | (simp [*]; done)), (by first | rfl | (simp; done) | (simp [*]; done)), H', ⟨by have := HJ3.out; have := HK2.out; omega⟩, ⟨by (with_reducible repeat (first | refine blk_drewN ?_ _ | refine blk_drew ?_ | refine blk_alloc ?_ _)); refine blk_far ?_ NB144_145.out _; (with_reducible repeat (first | refine blk_drewN ?_ _ | refine blk_drew ?_ | refine blk_alloc ?_ _)); refine blk_far ?_ NB144_145.out _; (with_reducible repeat (first | refine blk_drewN ?_ _ | refine blk_drew ?_ | refine blk_alloc ?_ _)); refine blk_far ?_ NB144_145.out _; (with_reducible repeat (first | refine blk_drewN ?_ _ | refine blk_drew ?_ | refine blk_alloc ?_ _)); exact BK144.out⟩, ⟨by (with_reducible repeat (first | refine blk_drewN ?_ _ | refine blk_drew ?_ | refine blk_alloc ?_ _)); refine blk_put (cs := #[.bool t151, .int .u64 t152, .int .u64 x146002_2]) ?_ 2 _ rfl; (with_reducible repeat (first | refine blk_drewN ?_ _ | refine blk_drew ?_ | refine blk_alloc ?_ _)); refine blk_put (cs := #[.bool t151, .int .u64 x146001_2, .int .u64 x146002_2]) ?_ 1 _ rfl; (with_reducible repeat (first | refine blk_drewN ?_ _ | refine blk_drew ?_ | refine blk_alloc ?_ _)); refine blk_put (cs := #[.bool x146000_2, .int .u64 x146001_2, .int .u64 x146002_2]) ?_ 0 _ rfl; (with_reducible repeat (first | refine blk_drewN ?_ _ | refine blk_drew ?_ | refine blk_alloc ?_ _)); exact BK145.out⟩, ⟨by repeat (first | (with_reducible first | exact HB.out | apply below_alloc | apply pw_below_drewN | apply below_drew1 | refine below_set ?_ GE144.out | refine below_set ?_ GE145.out) | exact HB.out)⟩⟩
              · rw [if_neg c21] at H
                exact absurd H (by simp)
            · rw [if_neg c19] at H
              have c19b0 : decide (0 ≤ x11_2) = false := decide_eq_false c19
              clear c19
              replace H := Option.bind_eq_some_iff.mp H
              obtain ⟨⟨t146, t147⟩, A510, H⟩ := H
              replace H : (some (t146, t147)) = some (r1, r2) := H
              have A51 := Aside0.mk A510
              clear A510
              simp only [Option.some.injEq, Prod.mk.injEq] at H
              obtain ⟨rfl, rfl⟩ := H
              have hnb52 := NB145_144.out
              have hnc52 := NB144_145.out
              have hcz53_0 : wr.cell? ⟨gb145, 0, none⟩ = some (.bool x146000_2) := (blk_cell BK145.out 0).trans rfl
              have hcz53_1 : wr.cell? ⟨gb145, 1, none⟩ = some (.int .u64 x146001_2) := (blk_cell BK145.out 1).trans rfl
              have hcz53_2 : wr.cell? ⟨gb145, 2, none⟩ = some (.int .u64 x146002_2) := (blk_cell BK145.out 2).trans rfl
              have hfz53_0 := blk_frozen BK145.out 0
              have hfz53_1 := blk_frozen BK145.out 1
              have hfz53_2 := blk_frozen BK145.out 2
              go_wp2_with (first | ((with_reducible refine gate_callee (f := 36) rfl ?_); refine goesL_ (some 69) rfl rfl Try.func36 (by kernel_rfl) rfl #[.agg #[.bool x146000_2, .int .u64 x146001_2, .int .u64 x146002_2]] rfl (by (try simp only [List.map_toArray, List.map_cons, List.map_nil]); first | done | rfl | (simp only [List.length_drop, List.length_take]; rfl)) ?_; (with_reducible refine (gangerref01_told.calls k2 x146000_2 x146001_2 x146002_2 t146 t147 _ A51.out).mono ?_); rintro e w54 ⟨rfl, hb⟩; refine ⟨_, rfl, ?_⟩; have n0_ := Aside0.mk (blk_below (g := gb144) (o := .cells #[.bool t141, .int .u64 t142, .int .u64 t143] 69 (0, 0)) (by (with_reducible repeat (first | refine blk_drewN ?_ _ | refine blk_drew ?_ | refine blk_alloc ?_ _)); exact BK144.out) hb); have n1_ := Aside0.mk (blk_below (g := gb145) (o := .cells #[.bool x146000_2, .int .u64 x146001_2, .int .u64 x146002_2] 69 (0, 0)) (by (with_reducible repeat (first | refine blk_drewN ?_ _ | refine blk_drew ?_ | refine blk_alloc ?_ _)); exact BK145.out) hb); have n2_ := Aside0.mk (below_step (by repeat (first | (with_reducible first | exact HB.out | apply below_alloc | apply pw_below_drewN | apply below_drew1 | refine below_set ?_ GE144.out | refine below_set ?_ GE145.out) | exact HB.out)) hb); clear BK144; clear BK145; clear HB; have BK144 := n0_; have BK145 := n1_; have HB := n2_; clear n0_ n1_ n2_; (try clear hb); (try clear hb2); (try clear hk); (try clear hi)))
              go_ret2
              exact ⟨by first | rfl | (simp [errW_none, errW_some] <;> rfl) | (simp [*, errW_none, errW_some] <;> rfl), by repeat (first | (with_reducible first | exact HB.out | apply below_alloc | apply pw_below_drewN | apply below_drew1 | refine below_set ?_ GE144.out | refine below_set ?_ GE145.out) | exact HB.out)⟩

end Go.Proofs.Ytgkmfhmodojdcaa.PQ
