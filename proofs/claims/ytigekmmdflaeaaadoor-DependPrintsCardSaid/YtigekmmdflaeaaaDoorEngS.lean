/- The engine and the library's sort: rows of flat data, as its cells. -/
import Derived.Test.YtigekmmdflaeaaaDoorEng15
import Derived.Shelf.GgSortFunc.InsertionK
import Derived.Shelf.SlSortCmp.InsertionK
set_option linter.all false
namespace Go.Proofs.YtigekmmdflaeaaaDoorE
open Go Go.Proofs
set_option linter.unusedVariables false

def encT : (t : Ty) → El t → List Value
  | .int k, x => [.int k x]
  | .bool, x => [.bool x]
  | .str, x => [.string x]
  | .sl _, _ => []
  | .pair a b, x => encT a x.1 ++ encT b x.2
theorem encT_len : ∀ {t : Ty} (x : El t), flatT t = true → (encT t x).length = sz t
  | .int k, x, _ => rfl
  | .bool, x, _ => rfl
  | .str, x, _ => rfl
  | .sl _, x, h => by simp [flatT] at h
  | .pair a b, x, h => by
    simp only [flatT, Bool.and_eq_true] at h
    simp [encT, encT_len x.1 h.1, encT_len x.2 h.2, sz]
theorem encT_one : ∀ {t : Ty} (x : El t), ∀ v ∈ encT t x, v.oneCell' = true
  | .int k, x, v, h => by simp [encT] at h; rw [h]; rfl
  | .bool, x, v, h => by simp [encT] at h; rw [h]; rfl
  | .str, x, v, h => by simp [encT] at h; rw [h]; rfl
  | .sl _, x, v, h => by simp [encT] at h
  | .pair a b, x, v, h => by
    rcases List.mem_append.1 h with h | h
    · exact encT_one _ v h
    · exact encT_one _ v h
theorem Rd_enc {S : Nat → Prop} {w : World} : ∀ {t : Ty} {x : El t} {cs : List Value}, flatT t = true → Rd S w t x cs → cs = encT t x
  | .int k, x, cs, _, h => h
  | .bool, x, cs, _, h => h
  | .str, x, cs, _, h => h
  | .sl _, x, cs, h, _ => by simp [flatT] at h
  | .pair a b, x, cs, hf, h => by
    simp only [flatT, Bool.and_eq_true] at hf
    obtain ⟨c1, c2, rfl, h1, h2⟩ := h
    rw [Rd_enc hf.1 h1, Rd_enc hf.2 h2]
    rfl
theorem enc_Rd {S : Nat → Prop} {w : World} : ∀ {t : Ty} (x : El t), flatT t = true → Rd S w t x (encT t x)
  | .int k, x, _ => rfl
  | .bool, x, _ => rfl
  | .str, x, _ => rfl
  | .sl _, x, h => by simp [flatT] at h
  | .pair a b, x, hf => by
    simp only [flatT, Bool.and_eq_true] at hf
    exact ⟨_, _, rfl, enc_Rd x.1 hf.1, enc_Rd x.2 hf.2⟩
theorem RdL_enc {S : Nat → Prop} {w : World} {t : Ty} (hf : flatT t = true) : ∀ {l : List (El t)} {us : List Value}, RdL S w t l us → us = l.flatMap (encT t)
  | [], us, h => h
  | x :: l, us, h => by
    obtain ⟨c1, c2, rfl, h1, h2⟩ := h
    rw [Rd_enc hf h1, RdL_enc hf h2]
    rfl
theorem enc_RdL {S : Nat → Prop} {w : World} {t : Ty} (hf : flatT t = true) : ∀ (l : List (El t)), RdL S w t l (l.flatMap (encT t))
  | [] => rfl
  | x :: l => ⟨_, _, rfl, enc_Rd x hf, enc_RdL hf l⟩

section
variable {α : Type} [Inhabited α]
theorem get_flat (enc : α → List Value) (k : Nat) (hk : ∀ x, (enc x).length = k) (k0 : 0 < k) : ∀ (l : List α) (j : Nat), j < l.length * k → (l.flatMap enc)[j]? = some ((enc (l.toArray[j / k]!))[j % k]!)
  | [], j, h => by simp at h
  | x :: l, j, h => by
    rw [List.flatMap_cons]
    by_cases hj : j < k
    · rw [List.getElem?_append_left (by rw [hk]; exact hj), Nat.div_eq_of_lt hj, Nat.mod_eq_of_lt hj]
      have : j < (enc x).length := by rw [hk]; exact hj
      simp [this]
    · have h1 : j - k < l.length * k := by
        rw [List.length_cons, Nat.add_mul, Nat.one_mul] at h
        omega
      rw [List.getElem?_append_right (by rw [hk]; omega), hk, get_flat enc k hk k0 l (j - k) h1]
      have e1 : j / k = (j - k) / k + 1 := by
        have : j = (j - k) + k := by omega
        rw [this, Nat.add_div_right _ k0]
        simp
      have e2 : j % k = (j - k) % k := by
        have : j = (j - k) + k := by omega
        rw [this, Nat.add_mod_right]
        simp
      rw [e1, e2]
      have h2 : (j - k) / k < l.length := Nat.div_lt_of_lt_mul (by rw [Nat.mul_comm]; exact h1)
      simp [h2]
theorem flatMap_len (enc : α → List Value) (k : Nat) (hk : ∀ x, (enc x).length = k) : ∀ l : List α, (l.flatMap enc).length = l.length * k
  | [] => by simp
  | x :: l => by rw [List.flatMap_cons, List.length_append, hk, flatMap_len enc k hk l, List.length_cons, Nat.add_mul, Nat.one_mul, Nat.add_comm]
theorem flatK_eq (enc : α → List Value) (k : Nat) (hk : ∀ x, (enc x).length = k) (k0 : 0 < k) (l : List α) : Sort.flatK enc k l.toArray = (l.flatMap enc).toArray := by
  refine Sort.ext_get! (by simp [flatMap_len enc k hk]) fun t ht => ?_
  have ht' : t < l.length * k := by simpa using ht
  rw [Sort.get_flatK _ _ _ _ (by simpa using ht')]
  have := get_flat enc k hk k0 l t ht'
  simp only [Array.getElem!_eq_getD, Array.getD_eq_getD_getElem?, List.getElem?_toArray, this, Option.getD_some]

theorem putCells_front (F : List Value) (c : List Value) (h : F.length ≤ c.length) : Sort.putCells id 0 F.toArray c.toArray = (F ++ c.drop F.length).toArray := by
  apply Array.ext'
  apply List.ext_getElem?
  intro j
  simp only [Sort.putCells, Array.toList_mapIdx, List.getElem?_mapIdx, Nat.zero_le, true_and, Nat.zero_add, Nat.sub_zero, id]
  by_cases hj : j < F.length
  · rw [List.getElem?_append_left hj]
    have : j < c.length := by omega
    simp [hj, this]
  · rw [List.getElem?_append_right (by omega), List.getElem?_drop]
    have e : F.length + (j - F.length) = j := by omega
    rw [e]
    cases hc : c[j]? with
    | none => simp [hc]
    | some v => simp [hc, hj]
end

instance (t : Ty) : Inhabited (El t) := ⟨zEl t⟩

/-- The library's sort, as a call that turns its array. -/
theorem sort_has {D : Cx} {P : Program} {g : FuncId} {t : Ty} {l l' : List (El t)} {args : List AV} (hf : flatT t = true) (hlen : l'.length = l.length)
    (hcall : ∀ (w : World) (b c : Nat) (S : Nat → Prop) (vals : List Value), (∀ b, S b → b < w.heap.size) → ¬ S b → Sort.HoldsK (encT t) (sz t) w b 0 l.toArray → b < w.heap.size → l.length ≤ c + 1 → c + 1 ≤ maxLen → VsOK (fun _ => undef) S w args vals →
      Calls P g (.slice (some ⟨b, 0, none⟩) l.length (c + 1) :: vals).toArray w fun e w' => e = .returned (.tuple #[]) ∧ ∃ n os, w' = sortWorldK (encT t) (sz t) w b 0 n l'.toArray os)
    (hnil : l = [] → ∀ (w : World) (A : Option Addr) (S : Nat → Prop) (vals : List Value), VsOK (fun _ => undef) S w args vals → Calls P g (.slice A 0 0 :: vals).toArray w fun e w' => e = .returned (.tuple #[]) ∧ Bel D w w') : WHas D P g t l l' args false := by
  intro S w v vals e hS hB hvS hV _ _
  rcases hB with ⟨A, h1, h2⟩ | ⟨b, c, us, rest, h1, h2, h3, h4, h5, h6⟩
  · have h1' : v = .slice A 0 0 := h1
    subst h1'
    refine (hnil h2 w A S vals hV).mono ?_
    rintro ex w' ⟨rfl, hb⟩
    have : l' = [] := List.eq_nil_of_length_eq_zero (by rw [hlen, h2]; rfl)
    exact ⟨.slice A 0 0, S, rfl, fun _ => rfl, ⟨hb.os, hb.tape, hb.output, hb.size, hb.drawn, fun k hk _ => hb.block k hk⟩, fun b h => h, fun b h => ⟨.inl h, Nat.lt_of_lt_of_le (hS b h) hb.size⟩, .inl ⟨A, rfl, this⟩, fun b hb => by simp [bof] at hb⟩
  · have h1' : v = .slice (some ⟨b, 0, none⟩) l.length (c + 1) := h1
    subst h1'
    have hb : b < w.heap.size := (Array.getElem?_eq_some_iff.1 h4).1
    have hk : ∀ x, (encT t x).length = sz t := fun x => encT_len x hf
    have k0 := sz_pos t
    have hus := RdL_enc hf h6
    have hulen : us.length = l.length * sz t := by rw [hus]; exact flatMap_len _ _ hk l
    have hH : Sort.HoldsK (encT t) (sz t) w b 0 l.toArray := by
      intro j hj
      have hj' : j < l.length * sz t := by simpa using hj
      rw [flatK_eq _ _ hk k0]
      have hc := cellsAt_heap h4
      have hget : (us ++ rest)[j]? = some (us[j]'(by omega)) := by
        rw [List.getElem?_append_left (by omega), List.getElem?_eq_getElem]
      refine ⟨?_, by simp [World.frozen?, h4]⟩
      rw [hc j _ hget]
      subst hus
      have : j < (l.flatMap (encT t)).length := by omega
      simp only [Array.getElem!_eq_getD, Array.getD_eq_getD_getElem?, List.getElem?_toArray, List.getElem?_eq_getElem this, Option.getD_some, id]
    refine (hcall w b c S vals hS (hvS b rfl) hH hb h2 h3 hV).mono ?_
    rintro ex w' ⟨rfl, n, os, rfl⟩
    have hflen : (l'.flatMap (encT t)).length = us.length := by rw [flatMap_len _ _ hk, hlen, hulen]
    have hheap : ∀ k, k < w.heap.size → (sortWorldK (encT t) (sz t) w b 0 n l'.toArray os).heap[k]? = (if b = k then (w.heap[k]?).map (Sort.onCells (Sort.putCells id 0 (Sort.flatK (encT t) (sz t) l'.toArray))) else w.heap[k]?) := by
      intro k hk'
      show ((w.heap.modify b _) ++ os)[k]? = _
      rw [Array.getElem?_append_left (by simpa using hk'), Array.getElem?_modify]
    have hsz : w.heap.size ≤ (sortWorldK (encT t) (sz t) w b 0 n l'.toArray os).heap.size := by
      show w.heap.size ≤ ((w.heap.modify b _) ++ os).size
      simp
    refine ⟨.slice (some ⟨b, 0, none⟩) l.length (c + 1), S, rfl, fun _ => rfl, ⟨rfl, rfl, rfl, hsz, (fun _ => Nat.le_add_right _ _), ?_⟩, fun b h => h, fun k h => ⟨.inl h, Nat.lt_of_lt_of_le (hS k h) hsz⟩, .inr ⟨b, c, l'.flatMap (encT t), rest, by rw [hlen], by rw [hlen]; exact h2, h3, ?_, ?_, enc_RdL hf l'⟩, ?_⟩
    · intro k hk' hne
      have hne' : ¬ b = k := fun e => hne (by rw [e]; rfl)
      rw [hheap k hk', if_neg hne']
    · rw [hheap b hb, if_pos rfl, h4, flatK_eq _ _ hk k0]
      simp only [Option.map_some, Sort.onCells]
      rw [putCells_front _ _ (by rw [hflen, List.length_append]; omega), hflen, List.drop_left]
    · rw [List.length_append, hflen, ← List.length_append]; exact h5
    · intro k hk'
      exact ⟨.inl hk', hvS k hk'⟩

theorem bel_grow {W w' : World} (h : Bel True W w') : ∃ q os, w' = Sort.grow (W.drewN q) os := by
  refine ⟨w'.drawn - W.drawn, w'.heap.extract W.heap.size w'.heap.size, ?_⟩
  have hd := h.drawn trivial
  have hz := h.size
  have e1 : W.heap ++ w'.heap.extract W.heap.size w'.heap.size = w'.heap := by
    apply Array.ext'
    apply List.ext_getElem?
    intro j
    rw [Array.toList_append, Array.toList_extract]
    by_cases hj : j < W.heap.size
    · have := h.block j hj
      rw [List.getElem?_append_left (by simpa using hj), Array.getElem?_toList, Array.getElem?_toList, this]
    · rw [List.getElem?_append_right (by simpa using hj), List.extract_eq_take_drop, List.getElem?_take]
      have : W.heap.size + (j - W.heap.toList.length) = j := by simp; omega
      split
      · rw [List.getElem?_drop, this]
      · rename_i hn
        rw [List.getElem?_eq_none]
        simp at hn ⊢
        omega
  obtain ⟨b1, b2⟩ := h
  obtain ⟨o1, o2, o3, o4, o5⟩ := b1
  cases W with
  | mk heap tape drawn os out =>
    cases w' with
    | mk heap' tape' drawn' os' out' =>
      simp only at *
      subst o1; subst o2; subst o3
      have hdr : ∀ (n : Nat) (w : World), w.drewN n = { w with drawn := w.drawn + n } := by
        intro n
        induction n with
        | zero => intro w; rfl
        | succ n ih =>
          intro w
          simp only [World.drewN, ih, World.drew]
          try (congr 1; try omega)
      rw [hdr]
      simp only [Sort.grow]
      rw [e1]
      congr 1
      omega

theorem cells_enc {t : Ty} (hf : flatT t = true) {μ : Nat → Value} {S : Nat → Prop} {w : World} (x : El t) : VsOK μ S w (cellsOf t x) (encT t x) := Rd.cells (enc_Rd x hf)
/-- A comparison that the library's sort may call. -/
theorem cmp_lays {P : Program} {g : FuncId} {t : Ty} {cf : El t → El t → Int} (hf : flatT t = true) (h : ∀ x y, Has True P g [.agg (cellsOf t x), .agg (cellsOf t y)] (dec1 (sdInt .i64)) (cf x y)) (blk off size : Nat) (w : World) : CmpLays P g #[] (encT t) (sz t) cf blk off size w := by
  intro m os dk _ x y
  refine (h x y (fun _ => False) (sortWorldK (encT t) (sz t) w blk off m dk os) [.agg (encT t x).toArray, .agg (encT t y).toArray] (fun _ h => h.elim) ⟨_, _, rfl, ⟨_, rfl, cells_enc hf x⟩, _, _, rfl, ⟨_, rfl, cells_enc hf y⟩, rfl⟩ True.intro).mono ?_
  rintro e w' ⟨v, u, S', rfl, hb, _, _, hv, _⟩
  have hv0 : v = .int .i64 (cf x y) := hv 0
  exact ⟨by rw [hv0], bel_grow hb⟩
end Go.Proofs.YtigekmmdflaeaaaDoorE
