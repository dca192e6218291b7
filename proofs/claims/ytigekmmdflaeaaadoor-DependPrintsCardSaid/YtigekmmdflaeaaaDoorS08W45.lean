/- Depend: a number's decimal text, as a plain function. -/
import Derived.Test.YtigekmmdflaeaaaDoorS08F5
import Derived.Shelf.Strconv.Itoa1
import Derived.Shelf.Strconv.Itoa2
import Derived.Lib.Walk
import Derived.Lib.ItoaMem
import Derived.Lib.AppendIntMem
import Derived.Lib.LaidTab
import Derived.WalkKit
import Derived.BigCall
import Derived.BigGuard
set_option linter.all false
namespace Go.Proofs.YtigekmmdflaeaaaDoorE
open Go Go.Proofs Go.Shelf Go.RowKit Go.Sort Go.Lib
set_option maxRecDepth 100000
set_option linter.unusedVariables false
def lay57_ren : Go.Shelf.Ren := ⟨fun | 283 => 57 | n => n, fun | 3 => 3 | 9 => 9 | 4 => 4 | n => n, fun | n => n⟩
theorem lay57 : Go.Proofs.Lays.n283 Tryd.prog lay57_ren := {
  mixed := by kernel_rfl,
  f283 := Tryd.func57.trans (congrArg some (by kernel_rfl)),
  t3 := Tryd.underlying3,
  a3 := Tryd.isAgg3,
  z3 := Tryd.sizeOf3,
  v3 := Tryd.zeroValue3,
  t4 := Tryd.underlying4,
  a4 := Tryd.isAgg4,
  z4 := Tryd.sizeOf4,
  v4 := Tryd.zeroValue4,
  t9 := Tryd.underlying9,
  a9 := Tryd.isAgg9,
  z9 := Tryd.sizeOf9,
  v9 := Tryd.zeroValue9 }

def lay58_ren : Go.Shelf.Ren := ⟨fun | 284 => 58 | 129 => 73 | 317 => 77 | 318 => 78 | n => n, fun | 53 => 63 | 3 => 3 | 212 => 118 | 0 => 0 | 4 => 4 | 46 => 55 | 5 => 5 | 9 => 9 | n => n, fun | 17 => 0 | n => n⟩
theorem lay58 : Go.Proofs.LaysM.n284 Tryd.prog lay58_ren := {
  mixed := by kernel_rfl,
  f129 := Tryd.func73.trans (congrArg some (by kernel_rfl)),
  f284 := Tryd.func58.trans (congrArg some (by kernel_rfl)),
  f317 := Tryd.func77.trans (congrArg some (by kernel_rfl)),
  f318 := Tryd.func78.trans (congrArg some (by kernel_rfl)),
  t0 := Tryd.underlying0,
  a0 := Tryd.isAgg0,
  z0 := Tryd.sizeOf0,
  v0 := Tryd.zeroValue0,
  t3 := Tryd.underlying3,
  a3 := Tryd.isAgg3,
  z3 := Tryd.sizeOf3,
  v3 := Tryd.zeroValue3,
  t4 := Tryd.underlying4,
  a4 := Tryd.isAgg4,
  z4 := Tryd.sizeOf4,
  v4 := Tryd.zeroValue4,
  t5 := Tryd.underlying5,
  a5 := Tryd.isAgg5,
  z5 := Tryd.sizeOf5,
  v5 := Tryd.zeroValue5,
  t9 := Tryd.underlying9,
  a9 := Tryd.isAgg9,
  z9 := Tryd.sizeOf9,
  v9 := Tryd.zeroValue9,
  t46 := Tryd.underlying55,
  a46 := Tryd.isAgg55,
  z46 := Tryd.sizeOf55,
  v46 := Tryd.zeroValue55,
  t53 := Tryd.underlying63,
  a53 := Tryd.isAgg63,
  z53 := Tryd.sizeOf63,
  v53 := Tryd.zeroValue63,
  t212 := Tryd.underlying118,
  a212 := Tryd.isAgg118,
  z212 := Tryd.sizeOf118,
  v212 := Tryd.zeroValue118,
  g17 := by kernel_rfl,
  i0 := by kernel_rfl,
  i3 := by kernel_rfl,
  i4 := by kernel_rfl,
  i5 := by kernel_rfl,
  i9 := by kernel_rfl,
  i46 := by kernel_rfl,
  i53 := by kernel_rfl,
  i212 := by kernel_rfl,
  m17 := by kernel_rfl }

def lay59_ren : Go.Shelf.Ren := ⟨fun | 285 => 59 | n => n, fun | 37 => 52 | 53 => 63 | 3 => 3 | 4 => 4 | 51 => 38 | 9 => 9 | 5 => 5 | 0 => 0 | n => n, fun | n => n⟩
theorem lay59 : Go.Proofs.Lays.n285 Tryd.prog lay59_ren := {
  mixed := by kernel_rfl,
  f285 := Tryd.func59.trans (congrArg some (by kernel_rfl)),
  t0 := Tryd.underlying0,
  a0 := Tryd.isAgg0,
  z0 := Tryd.sizeOf0,
  v0 := Tryd.zeroValue0,
  t3 := Tryd.underlying3,
  a3 := Tryd.isAgg3,
  z3 := Tryd.sizeOf3,
  v3 := Tryd.zeroValue3,
  t4 := Tryd.underlying4,
  a4 := Tryd.isAgg4,
  z4 := Tryd.sizeOf4,
  v4 := Tryd.zeroValue4,
  t5 := Tryd.underlying5,
  a5 := Tryd.isAgg5,
  z5 := Tryd.sizeOf5,
  v5 := Tryd.zeroValue5,
  t9 := Tryd.underlying9,
  a9 := Tryd.isAgg9,
  z9 := Tryd.sizeOf9,
  v9 := Tryd.zeroValue9,
  t37 := Tryd.underlying52,
  a37 := Tryd.isAgg52,
  z37 := Tryd.sizeOf52,
  v37 := Tryd.zeroValue52,
  t51 := Tryd.underlying38,
  a51 := Tryd.isAgg38,
  z51 := Tryd.sizeOf38,
  v51 := Tryd.zeroValue38,
  t53 := Tryd.underlying63,
  a53 := Tryd.isAgg63,
  z53 := Tryd.sizeOf63,
  v53 := Tryd.zeroValue63 }

/-- what the table of powers of ten asks of the world -/
def tabOK (w : World) : Prop := Lib.TabIs Tryd.prog w "internal/strconv.uint64pow10" .u64 Lib.pow10Tab
/-- the context: the table stands -/
def cxT : Cx := ⟨False, fun b => Tryd.prog.globalNamed "internal/strconv.uint64pow10" = some b, tabOK, fun w w' h k => by
  unfold tabOK Lib.TabIs World.var? at *
  cases hg : Tryd.prog.globalNamed "internal/strconv.uint64pow10" with
  | none => rw [hg] at k; simp at k
  | some g =>
    have e := h g hg
    rw [hg] at k
    rw [← k]
    simp only [Option.bind_some, World.cells?] at *
    rw [e], fun w b k hb => by
  unfold tabOK Lib.TabIs World.var? at k
  rw [hb] at k
  simp only [Option.bind_some, World.cells?] at k
  refine Classical.byContradiction fun hn => ?_
  rw [Array.getElem?_eq_none (by omega)] at k
  simp at k⟩
theorem hz0 (w : World) (T : TypeId) (nd : Nat) (hs : nd ≤ 24) : Holds (fun (b : UInt8) => Value.int .u8 (b.toNat : Int)) (w.alloc (.cells Lib.zeros24 T)) w.heap.size 0 (Array.replicate nd (0 : UInt8)) := fun j hj => by
  have hj' : j < nd := by simpa using hj
  refine ⟨?_, World.frozen?_alloc_new _ _ _ _⟩
  rw [World.cell?_alloc_new, Lib.zeros24_at _ (by omega), getElem!_pos _ j hj]
  simp
theorem fin0 (w : World) (o : Obj) (dk : Array UInt8) (k : Nat) : ∃ os, (putRow (fun (b : UInt8) => Value.int .u8 (b.toNat : Int)) (w.alloc o) w.heap.size 0 dk).drewN k = grow (w.drewN k) os := by
  rw [alloc_eq_grow]
  obtain ⟨os', _, e⟩ := putRow_grow_new (fun (b : UInt8) => Value.int .u8 (b.toNat : Int)) w #[o] w.heap.size 0 dk (Nat.le_refl _)
  exact ⟨os', by rw [e]; rfl⟩
set_option maxHeartbeats 6400000 in
theorem fmtU (u : Nat) (hu64 : u < 18446744073709551616) (w : World) (htab : tabOK w) :
    Calls Tryd.prog 45 #[.int .u64 u, .int .i64 10] w fun e w' => e = .returned (.string ⟨(Lib.decDigits u).toArray⟩) ∧ ∃ k os, w' = grow (w.drewN k) os := by
  have mixed : Tryd.prog.follows .mixedOrders = true := by kernel_rfl
  have t3 := Tryd.underlying3; have a3 := Tryd.isAgg3; have z3 := Tryd.sizeOf3; have v3 := Tryd.zeroValue3
  have t9 := Tryd.underlying9; have a9 := Tryd.isAgg9; have z9 := Tryd.sizeOf9; have v9 := Tryd.zeroValue9
  have t4 := Tryd.underlying4; have a4 := Tryd.isAgg4; have z4 := Tryd.sizeOf4; have v4 := Tryd.zeroValue4
  have t0 := Tryd.underlying0; have a0 := Tryd.isAgg0; have z0 := Tryd.sizeOf0; have v0 := Tryd.zeroValue0
  have t5 := Tryd.underlying5; have a5 := Tryd.isAgg5; have z5 := Tryd.sizeOf5; have v5 := Tryd.zeroValue5
  have t52 := Tryd.underlying52; have a52 := Tryd.isAgg52; have z52 := Tryd.sizeOf52; have v52 := Tryd.zeroValue52
  have t63 := Tryd.underlying63; have a63 := Tryd.isAgg63; have z63 := Tryd.sizeOf63; have v63 := Tryd.zeroValue63
  have t99 := Tryd.underlying99; have a99 := Tryd.isAgg99; have z99 := Tryd.sizeOf99; have v99 := Tryd.zeroValue99
  have e57 : ∀ args w, (callFunc 57 args).run Tryd.prog w = .ok (.enter 57 args) w := enters_of Tryd.func57 (by kernel_rfl) rfl
  have e58 : ∀ args w, (callFunc 58 args).run Tryd.prog w = .ok (.enter 58 args) w := enters_of Tryd.func58 (by kernel_rfl) rfl
  have e59 : ∀ args w, (callFunc 59 args).run Tryd.prog w = .ok (.enter 59 args) w := enters_of Tryd.func59 (by kernel_rfl) rfl
  by_cases hs : u < 100
  · have hs' : (u : Int) < 100 := by omega
    go_enter Tryd.func45, Tryd.ntmps45
    go_wp2_with (go_at_fn 57; refine (Any.internal_strconv_small (ρ := lay57_ren) lay57 u hs _).mono ?_; rintro e w' ⟨rfl, rfl⟩)
    go_ret
    exact ⟨rfl, 0, #[], by simp [World.drewN_zero]⟩
  · have hs' : ¬ (u : Int) < 100 := by omega
    have hu1 : 1 ≤ u := by omega
    have hnd20 : Lib.nDigits u ≤ 20 := by have := Lib.numDigits_eq u hu1 hu64; split at this <;> omega
    have hal : Tryd.prog.arrayLen 99 = 24 := by simp [Program.arrayLen, t99]
    have hsl1 : ∀ W, (Instr.sliceAt 99 (.pointer (some ⟨w.heap.size, 0, none⟩)) none (some (.int .i64 (Lib.nDigits u : Int))) none).run Tryd.prog W = .ok (.slice (some ⟨w.heap.size, 0, none⟩) (Lib.nDigits u) 24) W := fun W => by
      rw [run_sliceAt_array_h W 99 ⟨w.heap.size, 0, none⟩ (by simp [Program.arrayLen, Program.elem, t99]) .i64 (Lib.nDigits u : Int) (by omega) (by rw [hal]; omega)]
      go_simp
    have hH0 := hz0 w 99 (Lib.nDigits u) (by omega)
    have hfmt := Any.internal_strconv_formatBase10 (ρ := lay59_ren) lay59 w.heap.size 0 24 u (Array.replicate (Lib.nDigits u) 0) (w.alloc (.cells Lib.zeros24 99)) hH0 (by rw [Array.size_replicate]; exact Lib.lt_pow_nDigits u) hu64 (by rw [Array.size_replicate]; omega)
    rw [Array.size_replicate] at hfmt
    have HH0 := Lib.hid hH0
    clear hH0 hal
    go_enter Tryd.func45, Tryd.ntmps45
    go_wp2_with (first
      | (go_at_fn 58; refine (Any.internal_strconv_numDigits (ρ := lay58_ren) lay58 u hu1 hu64 _ (Lib.tabIs_alloc htab _)).mono ?_; rintro e w' ⟨rfl, rfl⟩))
    go_at_fn 59
    refine hfmt.mono ?_
    rintro e w' ⟨rfl, k, v', dk, rfl, hF⟩
    have hcv : (convert 52 9 (.slice (some ⟨w.heap.size, 0, none⟩) (Lib.nDigits u) 24)).run Tryd.prog ((putRow (fun (b : UInt8) => Value.int .u8 (b.toNat : Int)) (w.alloc (.cells Lib.zeros24 99)) w.heap.size 0 dk).drewN k) = .ok (.string ⟨(Lib.decDigits u).toArray⟩) ((putRow (fun (b : UInt8) => Value.int .u8 (b.toNat : Int)) (w.alloc (.cells Lib.zeros24 99)) w.heap.size 0 dk).drewN k) := by
      have h := run_convert_bytes_back (P := Tryd.prog) ((putRow (fun (b : UInt8) => Value.int .u8 (b.toNat : Int)) (w.alloc (.cells Lib.zeros24 99)) w.heap.size 0 dk).drewN k) 52 9 5 ⟨w.heap.size, 0, none⟩ 24 (Lib.decDigits u) t52 t5 t9 (fun j hj => by
        rw [Lib.row_is_numeral hF j hj, Lib.add_plain, World.cell?_drewN]
        exact cell?_putRow (fun (b : UInt8) => Value.int .u8 (b.toNat : Int)) _ w.heap.size 0 _ dk HH0.out (by rw [hF.size, Array.size_replicate]) j (by rw [hF.size]; rw [Lib.decDigits_length] at hj; exact hj))
      rw [Lib.decDigits_length] at h
      exact h
    go_wp2
    go_ret
    obtain ⟨os, eo⟩ := fin0 w (.cells Lib.zeros24 99) dk k
    exact ⟨rfl, k, os, eo⟩
/-- a number's decimal digits, as the kernel computes them -/
def dig : Nat → Nat → List UInt8
  | 0, _ => []
  | f + 1, u => if u < 10 then [UInt8.ofNat (48 + u)] else dig f (u / 10) ++ [UInt8.ofNat (48 + u % 10)]
theorem dig_eq : ∀ (f u : Nat), u < 10 ^ (f + 1) → dig (f + 1) u = Lib.decDigits u
  | 0, u, h => by
    rw [Lib.decDigits, dig]
    simp at h
    simp [h]
  | f + 1, u, h => by
    rw [Lib.decDigits, dig]
    split
    · rfl
    · rw [dig_eq f (u / 10) (by rw [Nat.pow_succ] at h; omega)]
def F45 (K : Nat) (u b : Int) : Option ByteArray := if b = 10 ∧ 0 ≤ u ∧ u < 18446744073709551616 then some ⟨(dig 20 u.toNat).toArray⟩ else none
theorem ok45 (K : Nat) : RowOK cxT Tryd.prog 45 (row ad45 dq45 fun p => F45 K p.1 p.2) := row_ok fun x r h => by
  obtain ⟨u, b⟩ := x
  have h : F45 K u b = some r := h
  unfold F45 at h
  by_cases hx : b = 10 ∧ 0 ≤ u ∧ u < 18446744073709551616
  · rw [if_pos hx] at h
    have e := Option.some.inj h
    subst e
    obtain ⟨rfl, h0, h1⟩ := hx
    obtain ⟨n, rfl⟩ := Int.eq_ofNat_of_zero_le h0
    intro S w vals hS hV hy
    obtain ⟨v, vs, rfl, e1, v2, vs2, rfl, e2, hvs⟩ := hV
    rw [VsOK] at hvs
    subst hvs
    have e1' : v = .int .u64 n := e1
    have e2' : v2 = .int .i64 10 := e2
    subst e1'
    subst e2'
    refine (fmtU n (by omega) w hy).mono ?_
    rintro e w' ⟨rfl, k, os, rfl⟩
    have hb := below_grow w.heap.size w (Nat.le_refl _) k os
    rw [Int.toNat_natCast, dig_eq 19 n (by omega)]
    exact ⟨_, undef, S, rfl, ⟨hb, fun h => h.elim⟩, fun b h => h, fun b h => ⟨.inl h, Nat.lt_of_lt_of_le (hS b h) hb.size⟩, fun id => rfl, fun B hB => by cases hB⟩
  · rw [if_neg hx] at h
    exact nomatch h
end Go.Proofs.YtigekmmdflaeaaaDoorE
