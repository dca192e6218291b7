/- Depend: the library's Compact of numbers none of which stands twice in a row: it is handed back as it is. -/
import Derived.Test.YtigekmmdflaeaaaDoorS08F7
import Derived.Test.YtigekmmdflaeaaaDoorEngI
import Derived.Lib.Slices
import Derived.Lib.Walk
set_option linter.all false
namespace Go.Proofs.YtigekmmdflaeaaaDoorE
open Go Go.Proofs
set_option linter.unusedVariables false
/-- no two neighbours alike -/
def nodp : List Int → Bool
  | x :: y :: l => !(x == y) && nodp (y :: l)
  | _ => true
theorem nodp_at : ∀ {l : List Int}, nodp l = true → ∀ k, k + 1 < l.length → l.getD (k + 1) 0 ≠ l.getD k 0
  | [], _, k, h => by simp at h
  | [x], _, k, h => by simp at h
  | x :: y :: l, hn, 0, _ => by
    simp only [nodp, Bool.and_eq_true] at hn
    intro e
    have e : y = x := e
    rw [e] at hn
    simp at hn
  | x :: y :: l, hn, k + 1, h => by
    simp only [nodp, Bool.and_eq_true] at hn
    exact nodp_at (l := y :: l) hn.2 k (by simpa using h)
set_option maxHeartbeats 1000000 in
theorem cmp32 (b n c : Nat) (zs : List Int) (w : World) (hz : zs.length = n) (hbig : n ≤ 9223372036854775807) (hd : nodp zs = true) (hc : ∀ j, j < n → w.cell? ⟨b, j, none⟩ = some (.int .u32 (zs.getD j 0))) :
    Calls Tryd.prog 32 #[.slice (some ⟨b, 0, none⟩) n c] w fun e w' => e = .returned (.slice (some ⟨b, 0, none⟩) n c) ∧ ∃ d, w.drawn ≤ d ∧ w' = { w with drawn := d } := by
  have mixed : Tryd.prog.follows .mixedOrders = true := by kernel_rfl
  go_enter Tryd.func32, Tryd.ntmps32
  go_wp2
  · go_ret
    exact ⟨rfl, _, Nat.le_refl _, rfl⟩
  · have h2 : ¬ (n : Int) < 2 := by omega
    go_loopw [3] (fun i wr => ∃ k d : Nat, 1 ≤ k ∧ k ≤ n ∧ i = .int .i64 k ∧ w.drawn ≤ d ∧ wr = { w with drawn := d }) (fun i _ => n - (Go.RowKit.intOf i).toNat)
    case atStart => exact ⟨1, w.drawn, Nat.le_refl _, by omega, rfl, Nat.le_refl _, rfl⟩
    case round =>
      obtain ⟨k, d, hk1, hk, rfl, hdr, rfl⟩ := hrel
      obtain ⟨j, rfl⟩ : ∃ j, k = j + 1 := ⟨k - 1, by omega⟩
      by_cases hlt : j + 1 < n
      · have hcd : ({ w with drawn := d } : World).drew.cell? ⟨b, j + 1, none⟩ = some (.int .u32 (zs.getD (j + 1) 0)) := hc (j + 1) hlt
        have hcd2 : ({ w with drawn := d } : World).drew.cell? ⟨b, j, none⟩ = some (.int .u32 (zs.getD j 0)) := hc j (by omega)
        have hj0 : (0 : Int) ≤ (j : Int) + 1 := by omega
        have hne : zs.getD (j + 1) 0 ≠ zs.getD j 0 := nodp_at hd j (by omega)
        generalize zs.getD (j + 1) 0 = x at hcd hne
        generalize zs.getD j 0 = y at hcd2 hne
        have hb : (x == y) = false := beq_eq_false_iff_ne.2 hne
        go_wp2
        go_region
        go_wp2
        go_roundw
        case rel => exact ⟨j + 2, d + 1, by omega, by omega, by simp; omega, by omega, rfl⟩
        case measure =>
          simp [Go.RowKit.intOf]
          omega
      · go_wp2
        go_ret
        exact ⟨rfl, _, hdr, rfl⟩
set_option maxHeartbeats 1000000 in
theorem cmp32n (A : Option Addr) (w : World) : Calls Tryd.prog 32 #[.slice A 0 0] w fun e w' => e = .returned (.slice A 0 0) ∧ w' = w := by
  go_enter Tryd.func32, Tryd.ntmps32
  go_wp2
  go_ret
  exact ⟨rfl, rfl⟩
theorem enc_u32 : ∀ l : List Int, l.flatMap (encT (.int .u32)) = l.map fun x : Int => Value.int .u32 x
  | [] => rfl
  | x :: l => by
    rw [List.flatMap_cons, enc_u32 l]
    rfl
def F32 (K : Nat) (x : Unit) (l : List Int) : Option (List Int) := if nodp l = true then some l else none
theorem ok32 {D : Cx} (K : Nat) : RowW D Tryd.prog 32 (rowW (.int .u32) ad32 (F32 K) true) := rowW_ok fun x l r h => by
  unfold F32 at h
  split at h
  · rename_i hd
    cases h
    intro S w v vals e hS hB hvS hV hy hDB
    have hV' : vals = [] := by
      have hV'' : VsOK (fun _ => undef) S w [] vals := hV
      rw [VsOK] at hV''
      exact hV''
    subst hV'
    have hf : flatT (.int .u32) = true := rfl
    rcases hB with ⟨A, q1, q2⟩ | ⟨b, c, us, rest, q1, q2, q3, q4, q5, q6⟩
    · have q1' : v = .slice A 0 0 := q1
      subst q1'
      refine (cmp32n A w).mono ?_
      rintro ex w' ⟨rfl, rfl⟩
      exact ⟨_, S, rfl, fun _ => rfl, ⟨rfl, rfl, rfl, Nat.le_refl _, fun _ => Nat.le_refl _, fun _ _ _ => rfl⟩, fun b h => h, fun b h => ⟨.inl h, hS b h⟩, .inl ⟨A, rfl, q2⟩, fun b hb => ⟨.inl hb, hvS b hb⟩⟩
    · have q1' : v = .slice (some ⟨b, 0, none⟩) l.length (c + 1) := q1
      subst q1'
      have hue := RdL_enc hf q6
      have hcells := cellsAt_heap q4
      have hum : us = l.map fun x : Int => Value.int .u32 x := by
        rw [hue]
        exact enc_u32 l
      refine (cmp32 b l.length (c + 1) l w rfl (by unfold maxLen at q3; omega) hd (fun j hj => ?_)).mono ?_
      · have := hcells j (.int .u32 (l.getD j 0)) (by
          rw [hum, List.getElem?_append_left (by simpa using hj), List.getElem?_map, List.getElem?_eq_getElem hj]
          simp [List.getD_eq_getElem?_getD, hj])
        rwa [Nat.zero_add] at this
      · rintro ex w' ⟨rfl, d, hdr, rfl⟩
        exact ⟨_, S, rfl, fun _ => rfl, ⟨rfl, rfl, rfl, Nat.le_refl _, fun _ => hdr, fun _ _ _ => rfl⟩, fun b h => h, fun b h => ⟨.inl h, hS b h⟩, .inr ⟨b, c, us, rest, rfl, q2, q3, q4, q5, hue ▸ enc_RdL hf l⟩, fun k hk => ⟨.inl hk, hvS k hk⟩⟩
  · cases h
end Go.Proofs.YtigekmmdflaeaaaDoorE
