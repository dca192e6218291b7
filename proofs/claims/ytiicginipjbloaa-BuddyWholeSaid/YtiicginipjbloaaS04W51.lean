/- Buddy: the library's Insert of numbers, as a plain function. -/
import Derived.Test.YtiicginipjbloaaS04W53
import Derived.Test.YtiicginipjbloaaEngJ
set_option linter.all false
namespace Go.Proofs.YtiicginipjbloaaE
open Go Go.Proofs Go.RowKit
set_option linter.unusedVariables false
theorem ov73 (w : World) (a b : Addr) (la ca lb cb : Nat) (tA tB : TypeId) (kA kB : Nat) (hne : a.block ≠ b.block) (hsa : w.shape? a.block = some (tA, kA)) (hsb : w.shape? b.block = some (tB, kB)) (hkB : kB ≠ 0) (hkA : kA ≠ 0) (hfb : w.frozen? b = false) (hfe : w.frozen? ⟨b.block, kB, none⟩ = false) :
    (callFunc 73 #[.slice (some a) la ca, .slice (some b) lb cb]).run Try.prog w = .ok (.value (.bool false)) w := by
  rw [run_callFunc_extern Try.func73 (by kernel_rfl) (by kernel_rfl) (by kernel_rfl) (e := Extern.SlicesOverlaps.overlaps #[38, 38] #[4]) (by kernel_rfl),
    overlaps_run w 38 4 3 Try.underlying38 1 Try.sizeOf3 a b la ca lb cb hne tA tB kA kB hsa hsb hkB hkA hfb hfe]
  rfl
set_option maxHeartbeats 4000000 in
set_option maxRecDepth 100000 in
theorem ins51_end (A : Option Addr) (n c : Nat) (va : Addr) (m vc : Nat) (w w1 : World) (v1 : Value) (hm : 0 < m) (hc : n ≤ c) (hmx : c ≤ 9223372036854775807) (hr : ∀ ty, (Builtin.append_ #[38, 38] ty #[.slice A n c, .slice (some va) m vc]).run Try.prog w = .ok v1 w1) :
    Calls Try.prog 51 #[.slice A n c, .int .i64 n, .slice (some va) m vc] w fun ex w' => ex = .returned v1 ∧ w' = w1 := by
  have u38 := run_underlying (w := w) Try.underlying38
  have hz1 : ¬ ((m : Int) = 0) := by omega
  have mixed : Try.prog.follows .mixedOrders = true := by kernel_rfl
  go_enter Try.func51, Try.ntmps51
  go_wp2_with (at_builtin; refine Lib.wpList_append_run _ rfl _ _ _ _ rfl _ _ rfl rfl _ _ (hr _) ?_)
  all_goals (go_ret; exact ⟨rfl, rfl⟩)
set_option maxHeartbeats 4000000 in
set_option maxRecDepth 100000 in
theorem ins51_shift (b n c i : Nat) (vb vo m vc : Nat) (w W1 W2 : World) (x1 x2 : Value) (hi : i < n) (hm : 0 < m) (hroom : n + m ≤ c) (hmx : c ≤ 9223372036854775807)
      (hov : ∀ lb cb, (callFunc 73 #[.slice (some ⟨vb, vo, none⟩) m vc, .slice (some ⟨b, 0 + (i + m) * 1, none⟩) lb cb]).run Try.prog w = .ok (.value (.bool false)) w)
      (hc1 : ∀ ty dc sc, (Builtin.copy_ #[38, 38] ty #[.slice (some ⟨b, 0 + (i + m) * 1, none⟩) (n + m - (i + m)) dc, .slice (some ⟨b, 0 + i * 1, none⟩) (n + m - i) sc]).run Try.prog w.drew = .ok x1 W1)
      (hc2 : ∀ ty dc, (Builtin.copy_ #[38, 38] ty #[.slice (some ⟨b, 0 + i * 1, none⟩) (n + m - i) dc, .slice (some ⟨vb, vo, none⟩) m vc]).run Try.prog W1 = .ok x2 W2) :
      Calls Try.prog 51 #[.slice (some ⟨b, 0, none⟩) n c, .int .i64 i, .slice (some ⟨vb, vo, none⟩) m vc] w fun ex w' => ex = .returned (.slice (some ⟨b, 0, none⟩) (n + m) c) ∧ w' = W2 := by
  have u38 := run_underlying (w := w) Try.underlying38
  have z3 := Try.sizeOf3
  have a3 := Try.isAgg3
  have hz1 : ¬ ((m : Int) = 0) := by omega
  have hz2 : ¬ ((i : Int) = (n : Int)) := by omega
  have mixed : Try.prog.follows .mixedOrders = true := by kernel_rfl
  have hw1 : IntKind.i64.wrap ((i : Int) + (m : Int)) = (i : Int) + (m : Int) := by rw [IntKind.wrap_i64]; omega
  have hb1 : (0 : Int) ≤ (i : Int) + (m : Int) := by omega
  have hin : i ≤ n := by omega
  have htn : ((i : Int) + (m : Int)).toNat = i + m := by omega
  have hb2 : ¬ (c = i + m) := by omega
  have hb3 : (i : Int) ≤ (n : Int) + (m : Int) := by omega
  have hb4 : ¬ (c = i) := by omega
  simp only [Nat.zero_add, Nat.mul_one] at hov hc1 hc2
  go_enter Try.func51, Try.ntmps51
  go_wp2_with (simp only [hov])
  go_region_law_o (refine step_copy_run rfl _ _ 38 38 rfl _ _ (by simp [Act.eval, Act.put]) (by simp [Act.eval, Act.put]) (hc1 _ _ _) ?_)
  go_wp2_with (at_builtin; refine wpList_copy_run' rfl _ _ 38 38 rfl _ _ rfl rfl (hc2 _ _) ?_)
  go_ret
  exact ⟨rfl, rfl⟩
set_option maxHeartbeats 4000000 in
set_option maxRecDepth 100000 in
theorem ins51_grow (b n c i : Nat) (vb vo m vc nb G : Nat) (w W1 W2 W3 : World) (x1 x2 : Value) (hi : i < n) (hm : 0 < m) (hnc : n ≤ c) (hroom : c < n + m) (hG : n + m ≤ G) (hG63 : G ≤ 9223372036854775807) (hnm : n + m ≤ 1000000000000)
      (hap : ∀ ty, (Builtin.append_ #[38, 3] ty #[.slice (some ⟨b, 0, none⟩) i c, .int .i64 ((n : Int) + (m : Int) - (i : Int))]).run Try.prog w = .ok (.slice (some ⟨nb, 0, none⟩) (n + m) G) W1)
      (hcA : ∀ ty dc, (Builtin.copy_ #[38, 38] ty #[.slice (some ⟨nb, 0 + i * 1, none⟩) (n + m - i) dc, .slice (some ⟨vb, vo, none⟩) m vc]).run Try.prog W1 = .ok x1 W2)
      (hcB : ∀ ty dc sc, (Builtin.copy_ #[38, 38] ty #[.slice (some ⟨nb, 0 + (i + m) * 1, none⟩) (n + m - (i + m)) dc, .slice (some ⟨b, 0 + i * 1, none⟩) (n - i) sc]).run Try.prog W2.drew = .ok x2 W3) :
      Calls Try.prog 51 #[.slice (some ⟨b, 0, none⟩) n c, .int .i64 i, .slice (some ⟨vb, vo, none⟩) m vc] w fun ex w' => ex = .returned (.slice (some ⟨nb, 0, none⟩) (n + m) G) ∧ w' = W3 := by
  have u38 := run_underlying (w := w) Try.underlying38
  have hz1 : ¬ ((m : Int) = 0) := by omega
  have hz2 : ¬ ((i : Int) = (n : Int)) := by omega
  have hz3 : (c : Int) < (n : Int) + (m : Int) := by omega
  have mixed : Try.prog.follows .mixedOrders = true := by kernel_rfl
  have hGi : ¬ (G = i) := by omega
  have hGim : ¬ (G = i + m) := by omega
  have hci : ¬ (c = i) := by omega
  have hw1 : IntKind.i64.wrap ((i : Int) + (m : Int)) = (i : Int) + (m : Int) := by rw [IntKind.wrap_i64]; omega
  have hb1 : (0 : Int) ≤ (i : Int) + (m : Int) := by omega
  have hin : i ≤ n := by omega
  have htn : ((i : Int) + (m : Int)).toNat = i + m := by omega
  have hb3 : (i : Int) ≤ (n : Int) := by omega
  simp only [Nat.zero_add, Nat.mul_one] at hap hcA hcB
  go_enter Try.func51, Try.ntmps51
  go_wp2_with (first
    | (at_builtin; refine Lib.wpList_append_run _ rfl _ _ _ _ rfl _ _ rfl rfl _ _ (hap _) ?_)
    | (at_builtin; refine wpList_copy_run' rfl _ _ 38 38 rfl _ _ rfl rfl (hcA _ _) ?_))
  go_region_law_o (refine step_copy_run rfl _ _ 38 38 rfl (.slice (some ⟨nb, (i + m), none⟩) (n + m - (i + m)) (G - (i + m))) (.slice (some ⟨b, i, none⟩) (n - i) (c - i)) (by simp [Act.eval, Act.put]) (by simp [Act.eval, Act.put]) (hcB _ _ _) ?_)
  go_wp2
  go_ret
  exact ⟨rfl, rfl⟩
noncomputable def F51 (K : Nat) (x : Int × List (El (.int .i64))) (l : List (El (.int .i64))) : Option (List (El (.int .i64))) := if 0 ≤ x.1 ∧ x.1 ≤ l.length ∧ 0 < x.2.length ∧ l.length + x.2.length ≤ 1000000 then some (l.take x.1.toNat ++ x.2 ++ l.drop x.1.toNat) else none
theorem ok51 {D : Prop} (K : Nat) : RowW D Try.prog 51 (rowWE 3 (.int .i64) ad51 (F51 K) true) := rowWE_ok fun x l r h => by
  unfold F51 at h
  split at h
  · rename_i hx
    cases h
    obtain ⟨x1, x2⟩ := x
    obtain ⟨i, rfl⟩ := Int.eq_ofNat_of_zero_le hx.1
    have hs : sz (.int .i64) = 1 := rfl
    have hf : flatT (.int .i64) = true := rfl
    have q1 : szT Try.prog 3 = some (sz (.int .i64)) := by rw [hs]; kernel_rfl
    have q2 : zeroAV Try.prog 3 = some (cellsOf (.int .i64) (zEl (.int .i64))) := by kernel_rfl
    have q3 : (cellsOf (.int .i64) (zEl (.int .i64))).length = sz (.int .i64) := rfl
    have hb : (Try.prog.info? 3).map (·.bytes) = some 8 := by kernel_rfl
    have h1 := hx.2.1
    have h2 := hx.2.2.2
    exact insert_has (D := D) hf Try.underlying38 Try.underlying3 q1 q2 q3 8 (by omega) hb ov73 ins51_end
      (by rw [hs]; exact fun b n c i vb vo m vc w W1 W2 x1 x2 a1 a2 a3 a4 a5 a6 a7 => ins51_shift b n c i vb vo m vc w W1 W2 x1 x2 a1 a2 a3 a4 a5 a6 a7)
      (by rw [hs]; exact fun b n c i vb vo m vc nb G w W1 W2 W3 x1 x2 a1 a2 a3 a4 a5 a6 a7 a8 a9 a10 => ins51_grow b n c i vb vo m vc nb G w W1 W2 W3 x1 x2 a1 a2 a3 a4 a5 a6 a7 a8 a9 a10)
      (l := l) (m := x2) (i := i) (by dsimp only at h1 ⊢; omega) hx.2.2.1 (by dsimp only at h2 ⊢; omega) (by dsimp only at h2 ⊢; omega)
  · cases h
end Go.Proofs.YtiicginipjbloaaE
