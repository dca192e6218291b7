/- Rank: the library's Grow of the nil row of keys. -/
import Derived.Test.YtcnfilanbmkpaaaS03F6
import Derived.Test.YtcnfilanbmkpaaaEngJ
set_option linter.all false
namespace Go.Proofs.YtcnfilanbmkpaaaE
open Go Go.Proofs Go.RowKit
set_option linter.unusedVariables false
set_option maxHeartbeats 4000000 in
set_option maxRecDepth 100000 in
theorem grow53 (n G : Nat) (w W1 : World) (nb : Nat) (hn : 0 < n) (hnm : n ≤ 1000000) (hG : n ≤ G) (hG63 : G ≤ 9223372036854775807)
    (hap : ∀ ty, (Builtin.append_ #[22, 3] ty #[.slice none 0 0, .int .i64 n]).run Try.prog w = .ok (.slice (some ⟨nb, 0, none⟩) n G) W1) :
    Calls Try.prog 53 #[.slice none 0 0, .int .i64 n] w fun ex w' => ex = .returned (.slice (some ⟨nb, 0, none⟩) 0 G) ∧ w' = W1 := by
  have u22 := run_underlying (w := w) Try.underlying22
  have mixed : Try.prog.follows .mixedOrders = true := by kernel_rfl
  have h1 : ¬ ((n : Int) < 0) := by omega
  have h2 : (0 : Int) < (n : Int) := by omega
  go_enter Try.func53, Try.ntmps53
  go_wp2_with (at_builtin; refine Lib.wpList_append_run _ rfl _ _ _ _ rfl _ _ rfl rfl _ _ (hap _) ?_)
  go_ret
  exact ⟨rfl, rfl⟩
set_option maxHeartbeats 4000000 in
set_option maxRecDepth 100000 in
theorem grow53_0 (w : World) : Calls Try.prog 53 #[.slice none 0 0, .int .i64 0] w fun ex w' => ex = .returned (.slice none 0 0) ∧ w' = w := by
  have mixed : Try.prog.follows .mixedOrders = true := by kernel_rfl
  go_enter Try.func53, Try.ntmps53
  go_wp2
  go_ret
  exact ⟨rfl, rfl⟩
def F53 (K : Nat) (x : Unit) (n : Int) : Option (List (El T35)) := if 0 ≤ n ∧ n ≤ 1000000 then some [] else none
theorem ok53 {D : Prop} (K : Nat) : RowOK D Try.prog 53 (row ad53 dq53 fun p => F53 K p.1 p.2) := row_ok fun x r h => by
  obtain ⟨⟨⟩, n⟩ := x
  have h : F53 K () n = some r := h
  unfold F53 at h
  split at h
  rotate_left
  · cases h
  rename_i hn
  cases h
  obtain ⟨n, rfl⟩ := Int.eq_ofNat_of_zero_le hn.1
  intro S w vals hS hV
  obtain ⟨x1, r1, rfl, v1, x2, r2, rfl, v2, v3⟩ := hV
  rw [VsOK] at v3
  subst v3
  have v1' : x1 = .slice none 0 0 := v1
  have v2' : x2 = .int .i64 n := v2
  subst v1' v2'
  by_cases h0 : n = 0
  · subst h0
    refine (grow53_0 w).mono ?_
    rintro ex w' ⟨rfl, rfl⟩
    refine ⟨_, .slice none 0 0, S, rfl, ⟨Go.RowKit.Below.refl _ _, fun _ => Nat.le_refl _⟩, fun b h => h, fun b h => ⟨.inl h, hS b h⟩, fun id => ⟨rfl, _, _, _, rfl⟩, fun B hB => ?_⟩
    cases hB
    exact ⟨fun id => .inl ⟨none, rfl, rfl⟩, fun b hb => by cases hb⟩
  · have hp : 0 < n := by omega
    have hnm : n ≤ 1000000 := by have := hn.2; omega
    obtain ⟨inf, z, hin, hz, hzz⟩ := zeroAV_eq (P := Try.prog) (T := 35) (z := cellsOf T35 (zEl T35)) (by kernel_rfl)
    have hzs : z.cells.size = 3 := by
      have : (cellsOf T35 (zEl T35)).length = 3 := rfl
      rw [← this, hzz, List.length_map, Array.length_toList]
    have hs3 : inf.size = 3 := by
      have q1 : szT Try.prog 35 = some 3 := by kernel_rfl
      unfold szT at q1
      rw [hin] at q1
      exact Option.some.inj q1
    have hbb : inf.bytes = 24 := by
      have : (Try.prog.info? 35).map (·.bytes) = some 24 := by kernel_rfl
      simpa [hin] using this
    have hap := fun ty => Lib.run_append_nil_zeros (P := Try.prog) w 22 3 ty 35 inf z .i64 .i64 Try.underlying22 Try.underlying3 hin hz n hp (by rw [hs3]; omega) (by omega) (by rw [hbb]; omega)
    have hge := grownCap_ge w n 0 35
    have hle := grownCap_le_maxLen w n 0 35 (by unfold maxLen; omega)
    obtain ⟨G, hG⟩ : ∃ G, G = grownCap w n 0 35 := ⟨_, rfl⟩
    rw [← hG] at hap hge hle
    obtain ⟨c, rfl⟩ : ∃ c, G = c + 1 := ⟨G - 1, by omega⟩
    refine (grow53 n (c + 1) w _ w.heap.size hp hnm hge (by unfold maxLen at hle; omega) hap).mono ?_
    rintro ex w' ⟨rfl, rfl⟩
    have hheap := heap_alloc_new w.drew (.cells (Builtin.zeroCells z.cells n ++ Builtin.zeroCells z.cells (c + 1 - n)) 35)
    refine ⟨_, .slice (some ⟨w.heap.size, 0, none⟩) 0 (c + 1), S, rfl, ⟨⟨rfl, rfl, rfl, by simp, fun k hk => heap_alloc_lt w.drew _ hk⟩, fun _ => Nat.le_succ _⟩, fun b h => h, fun b h => ⟨.inl h, by have := hS b h; simp; omega⟩, fun id => ⟨rfl, _, _, _, rfl⟩, fun B hB => ?_⟩
    cases hB
    refine ⟨fun id => .inr ⟨w.heap.size, c, [], (Builtin.zeroCells z.cells n ++ Builtin.zeroCells z.cells (c + 1 - n)).toList, rfl, by simp, hle, ?_, ?_, rfl⟩, fun b hb => ?_⟩
    · rw [List.nil_append, Array.toArray_toList]
      exact hheap
    · rw [List.nil_append, Array.length_toList, Array.size_append, size_zeroCells, size_zeroCells, hzs, ← Nat.add_mul]
      show _ = (c + 1) * 3
      congr 1
      omega
    · cases hb
      exact ⟨Nat.le_refl _, fun h => absurd (hS _ h) (Nat.lt_irrefl _)⟩
end Go.Proofs.YtcnfilanbmkpaaaE
