/- The engine and the library's calls that turn an array: sorted, or made shorter. -/
import Derived.Test.YtigekmmdflaeaaaDoorEngS
set_option linter.all false
namespace Go.Proofs.YtigekmmdflaeaaaDoorE
open Go Go.Proofs
set_option linter.unusedVariables false

/-- A call that turns its array, and may hand it back shorter. -/
theorem turn_has {D : Cx} {P : Program} {g : FuncId} {t : Ty} {l l' : List (El t)} {args : List AV} {ret : Bool} (hf : flatT t = true) (hlen : l'.length ≤ l.length) (hret : ret = false → l'.length = l.length)
    (hcall : ∀ (w : World) (b c : Nat) (S : Nat → Prop) (vals : List Value), (∀ b, S b → b < w.heap.size) → ¬ S b → Sort.HoldsK (encT t) (sz t) w b 0 l.toArray → b < w.heap.size → l.length ≤ c + 1 → c + 1 ≤ maxLen → VsOK (fun _ => undef) S w args vals →
      Calls P g (.slice (some ⟨b, 0, none⟩) l.length (c + 1) :: vals).toArray w fun e w' => e = .returned (match ret with | true => .slice (some ⟨b, 0, none⟩) l'.length (c + 1) | false => .tuple #[]) ∧ ∃ (n : Nat) (os : Array Obj) (z : List (El t)), l'.length + z.length = l.length ∧ w' = sortWorldK (encT t) (sz t) w b 0 n (l' ++ z).toArray os)
    (hnil : l = [] → ∀ (w : World) (A : Option Addr) (S : Nat → Prop) (vals : List Value), VsOK (fun _ => undef) S w args vals → Calls P g (.slice A 0 0 :: vals).toArray w fun e w' => e = .returned (match ret with | true => .slice A 0 0 | false => .tuple #[]) ∧ Bel D w w') : WHas D P g t l l' args ret := by
  intro S w v vals e hS hB hvS hV _ _
  rcases hB with ⟨A, h1, h2⟩ | ⟨b, c, us, rest, h1, h2, h3, h4, h5, h6⟩
  · have h1' : v = .slice A 0 0 := h1
    subst h1'
    refine (hnil h2 w A S vals hV).mono ?_
    rintro ex w' ⟨rfl, hb⟩
    have : l' = [] := List.eq_nil_of_length_eq_zero (by rw [h2] at hlen; simpa using hlen)
    exact ⟨.slice A 0 0, S, rfl, fun _ => rfl, ⟨hb.os, hb.tape, hb.output, hb.size, hb.drawn, fun k hk _ => hb.block k hk⟩, fun b h => h, fun b h => ⟨.inl h, Nat.lt_of_lt_of_le (hS b h) hb.size⟩, .inl ⟨A, rfl, this⟩, fun b hb => by simp [bof] at hb⟩
  · have h1' : v = .slice (some ⟨b, 0, none⟩) l.length (c + 1) := h1
    subst h1'
    have hb : b < w.heap.size := (Array.getElem?_eq_some_iff.1 h4).1
    have hk : ∀ x, (encT t x).length = sz t := fun x => encT_len x hf
    have k0 := sz_pos t
    have hus := RdL_enc hf h6
    have hulen : us.length = l.length * sz t := by rw [hus]; exact flatMap_len _ _ hk l
    have hH : Sort.HoldsK (encT t) (sz t) w b 0 l.toArray := by
      intro j hj
      have hj' : j < l.length * sz t := by simpa using hj
      rw [flatK_eq _ _ hk k0]
      have hc := cellsAt_heap h4
      have hget : (us ++ rest)[j]? = some (us[j]'(by omega)) := by
        rw [List.getElem?_append_left (by omega), List.getElem?_eq_getElem]
      refine ⟨?_, by simp [World.frozen?, h4]⟩
      rw [hc j _ hget]
      subst hus
      have : j < (l.flatMap (encT t)).length := by omega
      simp only [Array.getElem!_eq_getD, Array.getD_eq_getD_getElem?, List.getElem?_toArray, List.getElem?_eq_getElem this, Option.getD_some, id]
    refine (hcall w b c S vals hS (hvS b rfl) hH hb h2 h3 hV).mono ?_
    rintro ex w' ⟨rfl, n, os, z, hz, rfl⟩
    have hflen : ((l' ++ z).flatMap (encT t)).length = us.length := by rw [flatMap_len _ _ hk, List.length_append, hz, hulen]
    have hheap : ∀ k, k < w.heap.size → (sortWorldK (encT t) (sz t) w b 0 n (l' ++ z).toArray os).heap[k]? = (if b = k then (w.heap[k]?).map (Sort.onCells (Sort.putCells id 0 (Sort.flatK (encT t) (sz t) (l' ++ z).toArray))) else w.heap[k]?) := by
      intro k hk'
      show ((w.heap.modify b _) ++ os)[k]? = _
      rw [Array.getElem?_append_left (by simpa using hk'), Array.getElem?_modify]
    have hsz : w.heap.size ≤ (sortWorldK (encT t) (sz t) w b 0 n (l' ++ z).toArray os).heap.size := by
      show w.heap.size ≤ ((w.heap.modify b _) ++ os).size
      simp
    have hnew : (sortWorldK (encT t) (sz t) w b 0 n (l' ++ z).toArray os).heap[b]? = some (.cells (l'.flatMap (encT t) ++ (z.flatMap (encT t) ++ rest)).toArray e (0, 0)) := by
      rw [hheap b hb, if_pos rfl, h4, flatK_eq _ _ hk k0]
      simp only [Option.map_some, Sort.onCells]
      rw [putCells_front _ _ (by rw [hflen, List.length_append]; omega), hflen, List.drop_left, List.flatMap_append, List.append_assoc]
    have hlen2 : (l'.flatMap (encT t) ++ (z.flatMap (encT t) ++ rest)).length = (c + 1) * sz t := by
      rw [← h5, ← List.append_assoc, ← List.flatMap_append, List.length_append, hflen, List.length_append]
    have hbel : BelBut D (.slice (some ⟨b, 0, none⟩) l.length (c + 1)) w (sortWorldK (encT t) (sz t) w b 0 n (l' ++ z).toArray os) := ⟨rfl, rfl, rfl, hsz, (fun _ => Nat.le_add_right _ _), fun k hk' hne => by
      have hne' : ¬ b = k := fun e => hne (by rw [e]; rfl)
      rw [hheap k hk', if_neg hne']⟩
    refine ⟨.slice (some ⟨b, 0, none⟩) l'.length (c + 1), S, ?_, fun hr => by rw [hret hr], hbel, fun b h => h, fun k h => ⟨.inl h, Nat.lt_of_lt_of_le (hS k h) hsz⟩, .inr ⟨b, c, l'.flatMap (encT t), z.flatMap (encT t) ++ rest, rfl, by omega, h3, hnew, hlen2, enc_RdL hf l'⟩, fun k hk' => ⟨.inl hk', hvS k hk'⟩⟩
    cases ret <;> rfl

/-! ### rows of one cell -/
theorem flat_one (k : IntKind) (l : List Int) : Sort.flatK (encT (.int k)) 1 l.toArray = (l.map (Value.int k)).toArray := by
  rw [flatK_eq (encT (.int k)) 1 (fun x => rfl) (by omega)]
  congr 1
  induction l with
  | nil => rfl
  | cons x l ih => rw [List.flatMap_cons, ih]; rfl
theorem put_one (k : IntKind) (w : World) (b off : Nat) (l : List Int) : Sort.putRow (Value.int k) w b off l.toArray = Sort.putRow id w b off (l.map (Value.int k)).toArray := by
  unfold Sort.putRow
  congr 1
  funext cs
  unfold Sort.putCells
  congr 1
  funext i v
  have e : (l.map (Value.int k)).toArray.size = l.toArray.size := by simp
  rw [e]
  split
  · rename_i h
    have hlt : i - off < l.length := by have := h.2; simp at this; omega
    simp [hlt]
  · rfl
theorem holds_one {k : IntKind} {w : World} {b : Nat} {l : List Int} (h : Sort.HoldsK (encT (.int k)) 1 w b 0 l.toArray) : Sort.Holds (Value.int k) w b 0 l.toArray := by
  have h' : Sort.Holds id w b 0 (Sort.flatK (encT (.int k)) 1 l.toArray) := h
  rw [flat_one] at h'
  intro j hj
  have hj' : j < l.length := by simpa using hj
  have := h' j (by simpa using hj')
  simpa [hj'] using this
theorem world_one (k : IntKind) (w : World) (b n : Nat) (l : List Int) (os : Array Obj) : Sort.grow (Sort.putRow (Value.int k) (Sort.ahead w n) b 0 l.toArray) os = sortWorldK (encT (.int k)) 1 w b 0 n l.toArray os := by
  rw [put_one, ← flat_one]
  rfl
end Go.Proofs.YtigekmmdflaeaaaDoorE
