/- Buddy: the library's Delete of blocks, as a plain function. -/
import Derived.Test.YtiicginipjbloaaS04F3
import Derived.Test.YtiicginipjbloaaEngI
set_option linter.all false
namespace Go.Proofs.YtiicginipjbloaaE
open Go Go.Proofs Go.RowKit
set_option linter.unusedVariables false
set_option maxHeartbeats 4000000 in
set_option maxRecDepth 100000 in
theorem del45_none (A : Option Addr) (n c i : Nat) (w : World) (hi : i ≤ n) (hc : n ≤ c) (hm : c ≤ 9223372036854775807) : Calls Try.prog 45 #[.slice A n c, .int .i64 i, .int .i64 i] w fun e w' => e = .returned (.slice A n c) ∧ w' = w := by
  have u25 := run_underlying (w := w) Try.underlying25
  have hic : i ≤ c := by omega
  go_enter Try.func45, Try.ntmps45
  go_wp2
  all_goals (go_ret; exact ⟨rfl, rfl⟩)
set_option maxHeartbeats 4000000 in
set_option maxRecDepth 100000 in
theorem del45_some (b n c i j : Nat) (w : World) (hij : i < j) (hj : j ≤ n) (hc : n ≤ c) (hm : c ≤ 9223372036854775807) (W1 W2 : World)
    (ha : ∀ ty, (Builtin.append_ #[25, 25] ty #[.slice (some ⟨b, 0, none⟩) i c, .slice (if c = j then some ⟨b, 0, none⟩ else some ⟨b, 0 + j * 2, none⟩) (n - j) (c - j)]).run Try.prog w.drew = .ok (.slice (some ⟨b, 0, none⟩) (i + (n - j)) c) W1)
    (hcl : ∀ ty, (Builtin.clear_ #[25] ty #[.slice (some ⟨b, (i + (n - j)) * 2, none⟩) (n - (i + (n - j))) (c - (i + (n - j)))]).run Try.prog W1 = .ok (.tuple #[]) W2) :
    Calls Try.prog 45 #[.slice (some ⟨b, 0, none⟩) n c, .int .i64 i, .int .i64 j] w fun e w' => e = .returned (.slice (some ⟨b, 0, none⟩) (i + (n - j)) c) ∧ w' = W2 := by
  have u25 := run_underlying (w := w) Try.underlying25
  have hic : i ≤ c := by omega
  have hjc : j ≤ c := by omega
  have mixed : Try.prog.follows .mixedOrders = true := by kernel_rfl
  go_enter Try.func45, Try.ntmps45
  go_wp2_with fail
  go_region_law_o (refine step_append_run rfl (.tmp 22) (.tmp 25) 25 25 rfl _ _ (by simp [Act.eval, Act.put]) (by simp [Act.eval, Act.put]) (ha _) ?_)
  all_goals go_wp2
  all_goals go_ret
  all_goals exact ⟨rfl, rfl⟩
noncomputable def F45 (K : Nat) (x : Int × Int) (l : List (El T29)) : Option (List (El T29)) := if 0 ≤ x.1 ∧ x.1 ≤ x.2 ∧ x.2 ≤ l.length then some (l.take x.1.toNat ++ l.drop x.2.toNat) else none
theorem ok45 {D : Prop} (K : Nat) : RowW D Try.prog 45 (rowW T29 ad45 (F45 K) true) := rowW_ok fun x l r h => by
  unfold F45 at h
  split at h
  · rename_i hx
    cases h
    obtain ⟨x1, x2⟩ := x
    obtain ⟨i, rfl⟩ := Int.eq_ofNat_of_zero_le hx.1
    obtain ⟨j, rfl⟩ := Int.eq_ofNat_of_zero_le (Int.le_trans hx.1 hx.2.1)
    have hs : sz T29 = 2 := rfl
    have hf : flatT T29 = true := rfl
    have q1 : szT Try.prog 29 = some (sz T29) := by rw [hs]; kernel_rfl
    have q2 : zeroAV Try.prog 29 = some (cellsOf T29 (zEl T29)) := by kernel_rfl
    have q3 : (cellsOf T29 (zEl T29)).length = sz T29 := rfl
    have q4 : allOne (cellsOf T29 (zEl T29)) = true := rfl
    have := delete_has (D := D) hf Try.underlying25 q1 q2 q3 q4 del45_none (by
      rw [hs]
      exact fun b n c i j w W1 W2 a1 a2 a3 a4 => del45_some b n c i j w a1 a2 a3 a4 W1 W2) (l := l) (i := i) (j := j) (by have := hx.2.1; omega) (by have := hx.2.2; omega)
    exact this
  · cases h
end Go.Proofs.YtiicginipjbloaaE
