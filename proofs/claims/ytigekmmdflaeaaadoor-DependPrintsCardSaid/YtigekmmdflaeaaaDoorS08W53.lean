/- Depend: a number out of a text, as a plain function. -/
import Derived.Test.YtigekmmdflaeaaaDoorS08F3
import Derived.LoopTactic
import Derived.Laws.RangeString
import Derived.Laws.RangeAny
import Derived.Laws.Strings
import Derived.Laws.Strings2
import Derived.Tactics
import Derived.Tactics2
import Derived.WalkKit
set_option linter.all false
namespace Go.Proofs.YtigekmmdflaeaaaDoorE
open Go Go.Proofs
set_option linter.unusedVariables false
/-- a number's digits, told -/
def jend (s : ByteArray) (n : Int) : Int × Bool := (n % 4294967296, !(s.toList == []) && decide (n < 4294967296))
def jbad (s : ByteArray) (pos : Nat) (n : Int) : Prop := (((Utf8.decode s pos).1 : Int) < 48 ∨ 57 < ((Utf8.decode s pos).1 : Int)) ∨ (9 : Int) < (pos : Int) ∨ (0 < pos ∧ (n == 0) = true)
instance (s : ByteArray) (pos : Nat) (n : Int) : Decidable (jbad s pos n) := by unfold jbad; infer_instance
def jnext (s : ByteArray) (pos : Nat) (n : Int) : Int := IntKind.u64.wrap (IntKind.u64.wrap (10 * n) + (((Utf8.decode s pos).1 : Int) - 48))
/-- the digits from pos on; b: rounds -/
def jb (s : ByteArray) : Nat → Nat → Int → Int × Bool
  | 0, _, n => jend s n
  | b + 1, pos, n => if pos < s.size then (if jbad s pos n then (0, false) else jb s b (pos + (Utf8.decode s pos).2) (jnext s pos n)) else jend s n
theorem jb_end {s : ByteArray} {pos : Nat} {n : Int} (h : ¬ pos < s.size) : ∀ b, jb s b pos n = jend s n
  | 0 => rfl
  | b + 1 => by rw [jb, if_neg h]
theorem width_pos53 (s : ByteArray) (pos : Nat) (h : pos < s.size) : 1 ≤ (Utf8.decode s pos).2 := by
  by_cases ha : (s[pos]'h).toNat < 128
  · rw [decode_ascii s pos h ha]
    exact Nat.le_refl _
  · exact (decode_high s pos h (by omega)).2
set_option maxRecDepth 1000000 in
theorem job53 (s : ByteArray) (w : World) :
    Calls Tryd.prog 53 #[.string s] w fun e w' => e = .returned (.tuple #[.int .u32 (jb s s.size 0 0).1, .bool (jb s s.size 0 0).2]) ∧ ∃ pos, w' = w.iter s pos := by
  go_enter Tryd.func53, Tryd.ntmps53
  go_wp2
  go_loopw [4] (fun n w' => ∃ (pos b : Nat) (acc : Int), w' = w.iter s pos ∧ n = .int .u64 acc ∧ jb s b pos acc = jb s s.size 0 0 ∧ s.size ≤ pos + b) (fun _ w' => s.size - w'.iterPos w.heap.size)
  case atStart => exact ⟨0, s.size, 0, rfl, rfl, rfl, by omega⟩
  case round =>
    obtain ⟨pos, b, acc, rfl, rfl, hc, hb⟩ := hrel
    by_cases hp : pos < s.size
    · have hnx : ∀ ty, (Instr.next (.pointer (some ⟨w.heap.size, 0, none⟩)) true ty).run Tryd.prog (w.iter s pos) = _ := fun ty => run_next_any w s pos ty hp
      have hwd := width_pos53 s pos hp
      obtain ⟨b, rfl⟩ : ∃ k, b = k + 1 := ⟨b - 1, by omega⟩
      rw [jb, if_pos hp] at hc
      have bad : jbad s pos acc → (0, false) = jb s s.size 0 0 := fun h => by rw [← hc, if_pos h]
      have good : ¬ jbad s pos acc → jb s b (pos + (Utf8.decode s pos).2) (jnext s pos acc) = jb s s.size 0 0 := fun h => by rw [← hc, if_neg h]
      clear hc
      go_wp2
      all_goals first
        | (go_roundw
           case rel =>
             refine ⟨pos + (Utf8.decode s pos).2, b, _, rfl, rfl, good (by
               unfold jbad
               rintro (h | h | ⟨h1, h2⟩)
               · omega
               · omega
               · first
                 | omega
                 | (rw [(‹_ ∧ (acc == 0) = false›).2] at h2; cases h2)), by omega⟩
           case measure =>
             simp
             omega)
        | (go_ret2
           refine ⟨?_, _, rfl⟩
           rw [← bad (by
             unfold jbad
             first
             | (refine .inl ?_; omega)
             | (refine .inr (.inl ?_); omega)
             | (rename_i h1 h2; exact .inr (.inr ⟨h1, h2.resolve_left (by omega)⟩)))]
           rfl)
    · have hnx : ∀ ty, (Instr.next (.pointer (some ⟨w.heap.size, 0, none⟩)) true ty).run Tryd.prog (w.iter s pos) = _ := fun ty => run_next_end w s pos ty hp
      rw [jb_end hp b] at hc
      go_wp2
      all_goals
        go_ret2
        rw [← hc]
        refine ⟨?_, _, rfl⟩
        simp [jend, *]
def F53 (K : Nat) (s : ByteArray) : Option (Int × Bool) := some (jb s s.size 0 0)
theorem ok53 {D : Cx} (K : Nat) : RowOK D Tryd.prog 53 (row ad53 dq53 fun p => F53 K p) := row_ok fun x r h => by
  cases h
  intro S w vals hS hV hy
  obtain ⟨v, vs, rfl, rfl, hvs⟩ := hV
  rw [VsOK] at hvs
  subst hvs
  refine (job53 x w).mono ?_
  rintro e w' ⟨rfl, pos, rfl⟩
  have hsz : (w.iter x pos).heap.size = w.heap.size + 1 := by
    show (w.heap.push _).size = _
    simp
  refine ⟨_, undef, S, rfl, ⟨⟨rfl, rfl, rfl, by omega, fun k hk => ?_⟩, fun _ => Nat.le_refl _⟩, fun b h => h, fun b h => ⟨.inl h, by have := hS b h; omega⟩, fun id => ⟨_, rfl, _, _, rfl, rfl, _, _, rfl, rfl, rfl⟩, fun B hB => by cases hB⟩
  show (w.heap.push _)[k]? = _
  rw [Array.getElem?_push_lt hk]
  exact (Array.getElem?_eq_getElem hk).symm
end Go.Proofs.YtigekmmdflaeaaaDoorE
