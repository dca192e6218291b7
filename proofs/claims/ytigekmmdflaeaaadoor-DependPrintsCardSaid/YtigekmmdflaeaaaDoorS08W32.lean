/- Depend: the library's Compact of numbers, as a plain function. -/
import Derived.Test.YtigekmmdflaeaaaDoorS08F10
import Derived.Test.YtigekmmdflaeaaaDoorEngI
import Derived.Shelf.SlicesE.Compact
set_option linter.all false
namespace Go.Proofs.YtigekmmdflaeaaaDoorE
open Go Go.Proofs Go.Shelf Go.RowKit Go.Sort Go.Lib
set_option linter.unusedVariables false
def lay32_ren : Go.Shelf.Ren := ⟨fun | 43 => 32 | n => n, fun | 22 => 34 | 23 => 38 | 3 => 3 | 4 => 4 | 0 => 0 | n => n, fun | n => n⟩
theorem lay32 : Go.Proofs.SlLaysE.n43 Tryd.prog lay32_ren := {
  mixed := by kernel_rfl,
  f43 := ⟨Tryd.f32.name, by decide, Tryd.func32.trans (congrArg some (by kernel_rfl))⟩,
  t0 := Tryd.underlying0,
  a0 := Tryd.isAgg0,
  z0 := Tryd.sizeOf0,
  v0 := Tryd.zeroValue0,
  t3 := Tryd.underlying3,
  a3 := Tryd.isAgg3,
  z3 := Tryd.sizeOf3,
  v3 := Tryd.zeroValue3,
  t4 := Tryd.underlying4,
  a4 := Tryd.isAgg4,
  z4 := Tryd.sizeOf4,
  v4 := Tryd.zeroValue4,
  t22 := Tryd.underlying34,
  a22 := Tryd.isAgg34,
  z22 := Tryd.sizeOf34,
  v22 := Tryd.zeroValue34,
  a23 := Tryd.isAgg38,
  z23 := Tryd.sizeOf38 }

/-- of neighbours alike one stays -/
def cmp2 (p : Int) : List Int → List Int
  | [] => []
  | x :: l => if x = p then cmp2 x l else x :: cmp2 x l
def cmpL : List Int → List Int
  | [] => []
  | x :: l => x :: cmp2 x l
theorem at_cons (p : Int) (l : List Int) (j : Nat) : (p :: l).toArray[j + 1]! = l.toArray[j]! := by
  by_cases h : j < l.length
  · rw [getElem!_pos _ (j + 1) (by simpa using h), getElem!_pos _ j (by simpa using h)]
    simp
  · rw [getElem!_neg _ (j + 1) (by simpa using h), getElem!_neg _ j (by simpa using h)]
theorem at_zero (p : Int) (l : List Int) : (p :: l).toArray[0]! = p := by
  rw [getElem!_pos _ 0 (by simp)]
  simp
theorem cmp2_eq : ∀ (l : List Int) (p : Int), ((List.range l.length).filter fun j => decide ((p :: l).toArray[j + 1]! ≠ (p :: l).toArray[j]!)).map (fun j => (p :: l).toArray[j + 1]!) = cmp2 p l
  | [], p => rfl
  | x :: l, p => by
    have ih := cmp2_eq l x
    rw [List.length_cons, List.range_succ_eq_map, List.filter_cons, List.filter_map]
    have e0 : (p :: x :: l).toArray[0 + 1]! = x := by rw [at_cons, at_zero]
    have e1 : (p :: x :: l).toArray[0]! = p := at_zero _ _
    have e2 : ((fun j => decide ((p :: x :: l).toArray[j + 1]! ≠ (p :: x :: l).toArray[j]!)) ∘ Nat.succ) = fun j => decide ((x :: l).toArray[j + 1]! ≠ (x :: l).toArray[j]!) := by
      funext j
      show decide ((p :: x :: l).toArray[j + 1 + 1]! ≠ (p :: x :: l).toArray[j + 1]!) = _
      rw [at_cons p (x :: l) (j + 1), at_cons p (x :: l) j]
    rw [e0, e1, e2]
    have e3 : ∀ L : List Nat, (L.map Nat.succ).map (fun j => (p :: x :: l).toArray[j + 1]!) = L.map fun j => (x :: l).toArray[j + 1]! := fun L => by
      rw [List.map_map]
      refine List.map_congr_left fun j _ => ?_
      show (p :: x :: l).toArray[j + 1 + 1]! = _
      rw [at_cons p (x :: l) (j + 1)]
    rw [cmp2]
    by_cases c : x = p
    · rw [if_neg (by simpa using c), if_pos c, e3]
      exact ih
    · rw [if_pos (by simpa using c), if_neg c, List.map_cons, e0, e3]
      exact congrArg (x :: ·) ih
theorem compact_eq : ∀ l : List Int, Lib.compact l = cmpL l
  | [] => rfl
  | x :: l => by
    unfold Lib.compact compactUpTo
    rw [List.length_cons, List.range_succ_eq_map, List.filter_cons]
    have e0 : Lib.keeps (x :: l).toArray 0 = true := Lib.keeps_lt_one _ 0 (by omega)
    rw [e0, if_pos rfl, List.map_cons, at_zero, List.filter_map, List.map_map, cmpL, ← cmp2_eq l x]
    have e2 : (Lib.keeps (x :: l).toArray ∘ Nat.succ) = fun j => decide ((x :: l).toArray[j + 1]! ≠ (x :: l).toArray[j]!) := by
      funext j
      show decide (j + 1 = 0 ∨ (x :: l).toArray[j + 1]! ≠ (x :: l).toArray[j + 1 - 1]!) = _
      simp
    rw [e2]
    rfl
theorem cmp2_len : ∀ (l : List Int) (p : Int), (cmp2 p l).length ≤ l.length
  | [], p => by simp [cmp2]
  | x :: l, p => by
    have := cmp2_len l x
    rw [cmp2]
    split <;> simp <;> omega
theorem cmpL_len (l : List Int) : (cmpL l).length ≤ l.length := by
  cases l with
  | nil => simp [cmpL]
  | cons x l =>
    have := cmp2_len l x
    simp [cmpL]
    omega
theorem enc_u32 : ∀ l : List Int, l.flatMap (encT (.int .u32)) = l.map fun x : Int => Value.int .u32 x
  | [] => rfl
  | x :: l => by
    rw [List.flatMap_cons, enc_u32 l]
    rfl
theorem put_cells (d : List Int) (xs rest : List Value) (h : xs.length = d.length) : Go.Sort.putCells (Value.int .u32) 0 d.toArray (xs ++ rest).toArray = (d.map (Value.int .u32) ++ rest).toArray := by
  apply Array.ext
  · simp [Go.Sort.putCells, h]
  · intro i h1 h2
    simp only [Go.Sort.putCells, Array.getElem_mapIdx, List.getElem_toArray]
    by_cases c : i < d.length
    · rw [if_pos ⟨Nat.zero_le _, by simpa using c⟩, List.getElem_append_left (by simpa using c), List.getElem_map, Nat.sub_zero, getElem!_pos _ i (by simpa using c)]
      simp
    · rw [if_neg (by simp; omega), List.getElem_append_right (by omega), List.getElem_append_right (by simp; omega)]
      simp [h]
theorem cmp32n (A : Option Addr) (w : World) : Calls Tryd.prog 32 #[.slice A 0 0] w fun e w' => e = .returned (.slice A 0 0) ∧ w' = w := by
  go_enter Tryd.func32, Tryd.ntmps32
  go_wp2
  go_ret
  exact ⟨rfl, rfl⟩
def F32 (K : Nat) (x : Unit) (l : List Int) : Option (List Int) := some (cmpL l)
theorem ok32 {D : Cx} (K : Nat) : RowW D Tryd.prog 32 (rowW (.int .u32) ad32 (F32 K) true) := rowW_ok fun x l r h => by
  have h : some (cmpL l) = some r := h
  cases h
  intro S w v vals e hS hB hvS hV hy hDB
  have hV' : vals = [] := by
    have hV'' : VsOK (fun _ => undef) S w [] vals := hV
    rw [VsOK] at hV''
    exact hV''
  subst hV'
  have hf : flatT (.int .u32) = true := rfl
  rcases hB with ⟨A, q1, q2⟩ | ⟨b, c, us, rest, q1, q2, q3, q4, q5, q6⟩
  · have q1' : v = .slice A 0 0 := q1
    subst q1'
    subst q2
    refine (cmp32n A w).mono ?_
    rintro ex w' ⟨rfl, rfl⟩
    exact ⟨_, S, rfl, fun _ => rfl, ⟨rfl, rfl, rfl, Nat.le_refl _, fun _ => Nat.le_refl _, fun _ _ _ => rfl⟩, fun b h => h, fun b h => ⟨.inl h, hS b h⟩, .inl ⟨A, rfl, rfl⟩, fun b hb => ⟨.inl hb, hvS b hb⟩⟩
  · have q1' : v = .slice (some ⟨b, 0, none⟩) l.length (c + 1) := q1
    subst q1'
    have hue := RdL_enc hf q6
    have hum : us = l.map fun x : Int => Value.int .u32 x := by
      rw [hue]
      exact enc_u32 l
    have hul : us.length = List.length l := by rw [hum, List.length_map]
    have hcells := cellsAt_heap q4
    have hbs : b < w.heap.size := (Array.getElem?_eq_some_iff.1 q4).1
    have hH : Holds (Value.int .u32) w b 0 (List.toArray l) := fun j hj => by
      have hj' : j < List.length l := by simpa using hj
      refine ⟨?_, ?_⟩
      · have := hcells j (.int .u32 ((List.toArray l)[j]!)) (by
          rw [List.getElem?_append_left (by omega), hum, List.getElem?_map, List.getElem?_eq_getElem hj', getElem!_pos _ j (by simpa using hj')]
          simp)
        exact this
      · simp [World.frozen?, q4]
    have hsz : (List.toArray l).size = List.length l := by simp
    have main := AnyE.slices_Compact (ρ := lay32_ren) lay32 (Value.int .u32) (fun _ => rfl) (EqlAt.intD _ _ _) (NeqAt.intD _ _ _) 0 Tryd.zeroValue38 b 0 (c + 1) (List.toArray l) w hH (by rw [hsz]; unfold maxLen at q3; omega) (by rw [hsz]; exact q2)
    have ec : compactUpTo (List.toArray l) (List.toArray l).size = cmpL l := by
      rw [hsz]
      exact compact_eq l
    rw [ec, hsz] at main
    refine main.mono ?_
    rintro ex w' ⟨rfl, q, rfl⟩
    have hcl := cmpL_len l
    have hnew : (putRow (Value.int .u32) (Sort.ahead w q) b 0 (cmpL l ++ List.replicate (List.length l - (cmpL l).length) 0).toArray).heap[b]? = some (.cells (((cmpL l).map fun x : Int => Value.int .u32 x) ++ (List.replicate (List.length l - (cmpL l).length) (Value.int .u32 0) ++ rest)).toArray e (0, 0)) := by
      have hh : (Sort.ahead w q).heap[b]? = some (.cells (us ++ rest).toArray e (0, 0)) := q4
      unfold putRow mapBlock
      simp only [Array.getElem?_modify, if_true, hh, Option.map_some, onCells]
      rw [put_cells _ us rest (by simp; omega)]
      simp [List.map_append, List.append_assoc]
    refine ⟨_, S, rfl, fun h => (by cases h), ⟨rfl, rfl, rfl, by rw [size_putRow]; exact Nat.le_refl _, fun _ => by rw [drawn_putRow]; exact Nat.le_add_right _ _, fun k hk hkb => ?_⟩, fun b h => h, fun b h => ⟨.inl h, by rw [size_putRow]; exact hS b h⟩, .inr ⟨b, c, _, _, rfl, ?_, q3, hnew, ?_, ?_⟩, fun k hk => ⟨.inl hk, hvS k hk⟩⟩
    · have hne : b ≠ k := fun h => hkb (by rw [h]; rfl)
      unfold putRow mapBlock
      simp only [Array.getElem?_modify, if_neg hne]
      rfl
    · exact Nat.le_trans hcl q2
    · rw [List.length_append, hul] at q5
      simp only [List.length_append, List.length_map, List.length_replicate]
      omega
    · have := enc_RdL (S := S) (w := putRow (Value.int .u32) (Sort.ahead w q) b 0 (cmpL l ++ List.replicate (List.length l - (cmpL l).length) 0).toArray) hf (cmpL l)
      rw [enc_u32] at this
      exact this
end Go.Proofs.YtigekmmdflaeaaaDoorE
