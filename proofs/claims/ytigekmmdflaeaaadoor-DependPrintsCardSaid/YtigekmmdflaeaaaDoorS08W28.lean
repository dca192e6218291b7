/- Depend: texts joined, as a plain function. -/
import Derived.Test.YtigekmmdflaeaaaDoorS08F6
import Derived.Shelf.Strings.OnBuilder
set_option linter.all false
namespace Go.Proofs.YtigekmmdflaeaaaDoorE
open Go Go.Proofs Go.Shelf
set_option maxRecDepth 100000
set_option linter.unusedVariables false
def join28_ren : Go.Shelf.Ren := ⟨fun | 156 => 28 | 165 => 46 | 166 => 47 | 169 => 48 | 240 => 61 | 241 => 62 | 276 => 81 | 277 => 82 | n => n, fun | 31 => 59 | 9 => 9 | 3 => 3 | 4 => 4 | 0 => 0 | 20 => 20 | 72 => 83 | 76 => 87 | 70 => 81 | 37 => 52 | 75 => 86 | 127 => 104 | 164 => 121 | 5 => 5 | 80 => 89 | n => n, fun | n => n⟩
theorem join28 : Go.Proofs.Lays.n156 Tryd.prog join28_ren := {
  mixed := by kernel_rfl,
  f156 := Tryd.func28.trans (congrArg some (by kernel_rfl)),
  f165 := Tryd.func46.trans (congrArg some (by kernel_rfl)),
  f166 := Tryd.func47.trans (congrArg some (by kernel_rfl)),
  f169 := Tryd.func48.trans (congrArg some (by kernel_rfl)),
  f240 := Tryd.func61.trans (congrArg some (by kernel_rfl)),
  f241 := Tryd.func62.trans (congrArg some (by kernel_rfl)),
  f276 := Tryd.func81.trans (congrArg some (by kernel_rfl)),
  f277 := Tryd.func82.trans (congrArg some (by kernel_rfl)),
  t0 := Tryd.underlying0,
  a0 := Tryd.isAgg0,
  z0 := Tryd.sizeOf0,
  v0 := Tryd.zeroValue0,
  t3 := Tryd.underlying3,
  a3 := Tryd.isAgg3,
  z3 := Tryd.sizeOf3,
  v3 := Tryd.zeroValue3,
  t4 := Tryd.underlying4,
  a4 := Tryd.isAgg4,
  z4 := Tryd.sizeOf4,
  v4 := Tryd.zeroValue4,
  t9 := Tryd.underlying9,
  a9 := Tryd.isAgg9,
  z9 := Tryd.sizeOf9,
  v9 := Tryd.zeroValue9,
  t20 := Tryd.underlying20,
  a20 := Tryd.isAgg20,
  z20 := Tryd.sizeOf20,
  v20 := Tryd.zeroValue20,
  t31 := Tryd.underlying59,
  a31 := Tryd.isAgg59,
  z31 := Tryd.sizeOf59,
  v31 := Tryd.zeroValue59,
  t37 := Tryd.underlying52,
  a37 := Tryd.isAgg52,
  z37 := Tryd.sizeOf52,
  v37 := Tryd.zeroValue52,
  t70 := Tryd.underlying81,
  a70 := Tryd.isAgg81,
  z70 := Tryd.sizeOf81,
  v70 := Tryd.zeroValue81,
  t72 := Tryd.underlying83,
  a72 := Tryd.isAgg83,
  z72 := Tryd.sizeOf83,
  v72 := Tryd.zeroValue83,
  t75 := Tryd.underlying86,
  a75 := Tryd.isAgg86,
  z75 := Tryd.sizeOf86,
  v75 := Tryd.zeroValue86,
  t76 := Tryd.underlying87,
  a76 := Tryd.isAgg87,
  z76 := Tryd.sizeOf87,
  v76 := Tryd.zeroValue87,
  t127 := Tryd.underlying104,
  a127 := Tryd.isAgg104,
  z127 := Tryd.sizeOf104,
  v127 := Tryd.zeroValue104,
  t164 := Tryd.underlying121,
  a164 := Tryd.isAgg121,
  z164 := Tryd.sizeOf121,
  v164 := Tryd.zeroValue121 }
theorem xtra28 : Builder.Extra Tryd.prog join28_ren := {
  sizeBuilder := by kernel_rfl,
  liesBuilder := by kernel_rfl,
  t5 := Tryd.underlying5,
  a5 := Tryd.isAgg5,
  z5 := Tryd.sizeOf5,
  v5 := Tryd.zeroValue5,
  infoByte := by kernel_rfl,
  cellsByte := by kernel_rfl,
  sizeByte := by kernel_rfl,
  neB5 := by decide }
def F28 (K : Nat) (l : List ByteArray) (sep : ByteArray) : Option ByteArray :=
  if (Lib.join (l.map (·.data.toList)) sep.data.toList).length ≤ 140737488355328 ∧ l.length ≤ 140737488355328 then some ⟨(Lib.join (l.map (·.data.toList)) sep.data.toList).toArray⟩ else none
theorem ok28 (K : Nat) : RowOK cxT Tryd.prog 28 (row ad28 dq28 fun p => F28 K p.1 p.2) := row_ok fun x r h => by
  obtain ⟨l, sep⟩ := x
  have h : F28 K l sep = some r := h
  unfold F28 at h
  split at h
  · rename_i hlen2
    obtain ⟨hlen, hlen2⟩ := hlen2
    cases h
    intro S w vals hS hV hy
    obtain ⟨v, vs, rfl, h1, v2, vs2, rfl, h2, hvs⟩ := hV
    rw [VsOK] at hvs
    subst hvs
    have h2' : v2 = .string sep := h2
    subst h2'
    have h1' : Rd S w (.sl .str) l [v] := h1
    rw [Rd] at h1'
    obtain ⟨A, c, ev, hlc, hcm, hel⟩ := h1'
    have ev' : v = .slice A l.length c := by injection ev
    subst ev'
    have key : Calls Tryd.prog 28 #[.slice A l.length c, .string sep] w fun e w' => e = .returned (.string ⟨(Lib.join (l.map (·.data.toList)) sep.data.toList).toArray⟩) ∧ Go.RowKit.Below w.heap.size w w' := by
      cases l with
      | nil =>
        refine (Any.strings_Join_none (ρ := join28_ren) join28 xtra28 A c sep w).mono ?_
        rintro e w' ⟨he, hw⟩
        exact ⟨he, hw ▸ Go.RowKit.Below.refl _ _⟩
      | cons x0 l0 =>
        obtain ⟨b, o, cs0, eA, _, hb, _, _⟩ := hel 0 x0 rfl
        subst eA
        refine Any.strings_Join (ρ := join28_ren) join28 xtra28 b o c (x0 :: l0) sep w ?_ hb hlen2 hlc hlen
        · intro j x hx
          obtain ⟨b', o', cs', eA', _, _, hr, hc⟩ := hel j x hx
          cases eA'
          rw [Rd] at hr
          subst hr
          have := hc 0 _ rfl
          have e1 : sz .str = 1 := rfl
          rw [e1, Nat.mul_one, Nat.add_zero] at this
          exact this
    refine key.mono ?_
    rintro e w' ⟨rfl, hbel⟩
    exact ⟨_, undef, S, rfl, ⟨hbel, fun h => h.elim⟩, fun b h => h, fun b h => ⟨.inl h, Nat.lt_of_lt_of_le (hS b h) hbel.size⟩, fun id => rfl, fun B hB => by cases hB⟩
  · cases h
end Go.Proofs.YtigekmmdflaeaaaDoorE
