/- The engine, part 6: literals, append, make; what is only read from now on. -/
import Derived.Test.YtigekmmdflaeaaaDoorEng5
set_option linter.all false
namespace Go.Proofs.YtigekmmdflaeaaaDoorE
open Go
set_option linter.unusedVariables false

/-! ### an array that is only read from now on -/
mutual
def frz (id : Nat) (t : Ty) (l : List (El t)) : AV → AV
  | .own j => match Nat.beq j id with
    | true => .row t l
    | false => .own j
  | .agg m => .agg (frzs id t l m)
  | .tup m => .tup (frzs id t l m)
  | .fn f m => .fn f (frzs id t l m)
  | .top => .top
  | .sc v => .sc v
  | .row t l => .row t l
  | .eptr t x off => .eptr t x off
  | .ptr i o => .ptr i o
  | .optr i n s o => .optr i n s o
  | .mp i => .mp i
def frzs (id : Nat) (t : Ty) (l : List (El t)) : List AV → List AV
  | [] => []
  | a :: m => frz id t l a :: frzs id t l m
end
def frzB (id : Nat) (t : Ty) (l : List (El t)) : ABlk → ABlk
  | .box T cells => .box T (frzs id t l cells)
  | .arr e t l => .arr e t l
  | .mp kt vt m => .mp kt vt m
def frzH (id : Nat) (t : Ty) (l : List (El t)) : Hp → Hp
  | [] => []
  | (n, B) :: H => (n, frzB id t l B) :: frzH id t l H
def freeze (id : Nat) (st : St) : St := match lk st.H id with
  | some (.arr e t l) => ⟨frzs id t l st.tm, frzH id t l (rm id st.H)⟩
  | _ => st

section
variable {μ : Nat → Value} {S S' : Nat → Prop} {w : World} {id : Nat} {t : Ty} {l : List (El t)}
variable (hS : ∀ b, S b → S' b) (hrow : Rd S' w (.sl t) l [μ id])
include hS hrow
mutual
theorem VOK.frz : ∀ {a : AV} {u : Value}, VOK μ S w a u → VOK μ S' w (frz id t l a) u
  | .own j, u, h => by
    unfold Go.Proofs.YtigekmmdflaeaaaDoorE.frz
    cases hj : Nat.beq j id with
    | true =>
      have := Nat.eq_of_beq_eq_true hj
      subst this
      show Rd S' w (.sl t) l [u]
      rw [h.1]
      exact hrow
    | false => exact h
  | .top, u, h => trivial
  | .sc v, u, h => h
  | .row t l, u, h => Rd.mono hS (Nat.le_refl _) (fun _ _ => rfl) h
  | .ptr i o, u, h => h
  | .optr i n s o, u, h => h
  | .mp i, u, h => h
  | .eptr t x off, u, h => by
    obtain ⟨b, o, cs, h1, h2, h3, h4, h5⟩ := h
    exact ⟨b, o, cs, h1, hS b h2, h3, Rd.mono hS (Nat.le_refl _) (fun _ _ => rfl) h4, h5⟩
  | .agg l, u, h => by obtain ⟨us, h1, h2⟩ := h; exact ⟨us, h1, VsOK.frz h2⟩
  | .tup l, u, h => by obtain ⟨us, h1, h2⟩ := h; exact ⟨us, h1, VsOK.frz h2⟩
  | .fn f l, u, h => by obtain ⟨us, h1, h2⟩ := h; exact ⟨us, h1, VsOK.frz h2⟩
theorem VsOK.frz : ∀ {m : List AV} {us : List Value}, VsOK μ S w m us → VsOK μ S' w (frzs id t l m) us
  | [], us, h => h
  | a :: m, us, h => by
    obtain ⟨u, us', h1, h2, h3⟩ := h
    exact ⟨u, us', h1, VOK.frz h2, VsOK.frz h3⟩
end
end

theorem lk_frzH (id : Nat) (t : Ty) (l : List (El t)) : ∀ (H : Hp) (j : Nat), lk (frzH id t l H) j = (lk H j).map (frzB id t l)
  | [], _ => rfl
  | (n, B) :: H, j => by
    unfold frzH lk
    cases h : Nat.beq n j with
    | true => rfl
    | false => exact lk_frzH id t l H j

/-- The cells of a row that lies somewhere, by its elements. -/
theorem row_of {S : Nat → Prop} {w : World} {t : Ty} {b : Nat} (hb : b < w.heap.size) (hSb : S b) : ∀ {l : List (El t)} {us rest : List Value} {o : Nat}, RdL S w t l us → CellsAt w b o us →
    ∀ (i : Nat) (x : El t), l[i]? = some x → ∃ cs', Rd S w t x cs' ∧ CellsAt w b (o + i * sz t) cs' := by
  intro l us rest o h hc i x hx
  obtain ⟨cs, h1, h2⟩ := RdL.get h hx
  refine ⟨cs, h1, fun j u hu => ?_⟩
  rw [Nat.add_assoc]
  exact hc _ u (h2 j u hu)

theorem arr_row {μ : Nat → Value} {S : Nat → Prop} {w : World} {id : Nat} {e : TypeId} {t : Ty} {l : List (El t)} (h : BOK μ S w id (.arr e t l)) :
    Rd (fun b => S b ∨ bof (μ id) = some b) w (.sl t) l [μ id] := by
  rcases h with ⟨A, h1, h2⟩ | ⟨b, c, us, rest, h1, h2, h3, h4, h5, h6⟩
  · subst h2
    exact ⟨A, 0, by rw [h1]; rfl, Nat.le_refl _, by simp, fun i x hx => by simp at hx⟩
  · have hlt : b < w.heap.size := (Array.getElem?_eq_some_iff.1 h4).1
    refine ⟨some ⟨b, 0, none⟩, c + 1, by rw [h1], h2, h3, fun i x hx => ?_⟩
    obtain ⟨cs, h7, h8⟩ := RdL.get h6 hx
    refine ⟨b, 0, cs, rfl, .inr (by rw [h1]; rfl), hlt, Rd.mono (fun _ h => .inl h) (Nat.le_refl _) (fun _ _ => rfl) h7, fun j u hu => ?_⟩
    have h9 := h8 j u hu
    have hl9 : i * sz t + j < us.length := (List.getElem?_eq_some_iff.1 h9).1
    rw [Nat.zero_add, show w.cell? ⟨b, i * sz t + j, none⟩ = (us ++ rest)[i * sz t + j]? from by simp [World.cell?, h4], List.getElem?_append_left hl9]
    exact h9

theorem Inv.freeze {D : Cx} {F : Fr D} {μ : Nat → Value} {S : Nat → Prop} {H : Hp} {w : World} {id : Nat} {e : TypeId} {t : Ty} {l : List (El t)} (h : Inv F μ S H w) (hk : lk H id = some (.arr e t l)) :
    Inv F μ (fun b => S b ∨ bof (μ id) = some b) (frzH id t l (rm id H)) w := by
  have hrow := arr_row (h.blk id _ hk)
  have old : ∀ j B, lk (frzH id t l (rm id H)) j = some B → j ≠ id ∧ ∃ B0, lk H j = some B0 ∧ B = frzB id t l B0 := by
    intro j B hj
    rw [lk_frzH] at hj
    by_cases e : j = id
    · subst e; rw [lk_rm_same] at hj; cases hj
    · rw [lk_rm_other e] at hj
      obtain ⟨B0, h0, h1⟩ := Option.map_eq_some_iff.1 hj
      exact ⟨e, B0, h0, h1.symm⟩
  refine ⟨?_, ?_, ?_, ?_, fun b hb => .inl (h.S0 b hb), ?_, h.frame, h.size, h.os, h.tape, h.output, h.drawn, ?_, h.hy⟩
  · intro j B hj
    obtain ⟨hne, B0, h0, rfl⟩ := old j B hj
    have hb := h.blk j B0 h0
    cases B0 with
    | box T cells =>
      obtain ⟨b, us, h1, h2, h3⟩ := hb
      exact ⟨b, us, h1, h2, VsOK.frz (fun _ h => .inl h) hrow h3⟩
    | arr e' t' l' => exact BOK.mono (B := .arr e' t' l') (fun _ h => .inl h) (Nat.le_refl _) (fun _ _ => rfl) (fun _ _ => rfl) hb
    | mp kt vt m => exact BOK.mono (B := .mp kt vt m) (fun _ h => .inl h) (Nat.le_refl _) (fun _ _ => rfl) (fun _ _ => rfl) hb
  · intro i j Bi Bj hi hj
    obtain ⟨_, B0, h0, _⟩ := old i Bi hi
    obtain ⟨_, B1, h1, _⟩ := old j Bj hj
    exact h.apart i j B0 B1 h0 h1
  · intro i Bi hi b hb
    obtain ⟨hne, B0, h0, _⟩ := old i Bi hi
    refine ⟨?_, (h.notS i B0 h0 b hb).2⟩
    rintro (hs | hs)
    · exact (h.notS i B0 h0 b hb).1 hs
    · exact h.apart i id B0 _ h0 hk hne b hb hs
  · rintro b (hs | hs)
    · exact h.Slt b hs
    · exact bof_lt (h.blk id _ hk) hs
  · rintro b (hs | hs)
    · exact h.Sfrom b hs
    · rcases (h.notS id _ hk b hs).2 with h1 | h1
      · exact .inr (.inr h1)
      · exact .inr (.inl h1)
  · intro j x B hx hj
    obtain ⟨_, B0, h0, _⟩ := old j B hj
    exact h.fixd j x B0 hx h0

theorem Gam.freeze {D : Cx} {F : Fr D} {st : St} {a : Act} {w : World} (h : Gam F st a w) (id : Nat) : Gam F (freeze id st) a w := by
  unfold Go.Proofs.YtigekmmdflaeaaaDoorE.freeze
  split
  · rename_i e t l hk
    obtain ⟨μ, S, h1, h2, h3⟩ := h
    exact ⟨μ, _, h1.freeze hk, VsOK.frz (fun _ h => .inl h) (arr_row (h1.blk id _ hk)) h2, h3⟩
  · exact h

/-! ### struct literals -/
def fillAV (place : Nat → Option (Nat × Nat)) : List AV → List (Nat × AV) → Option (List AV)
  | cells, [] => some cells
  | cells, (i, v) :: rest => match place i, avCells v with
    | some (off, n), some cs => if cs.length = n ∧ off + n ≤ cells.length then fillAV place (putCells cells off cs) rest else none
    | _, _ => none

theorem foldl_set (off : Nat) : ∀ (vs : List Value) (k : Nat) (cells : Array Value), off + k + vs.length ≤ cells.size →
    ((vs.zipIdx k).foldl (fun cs (c : Value × Nat) => cs.setIfInBounds (off + c.2) c.1) cells).toList = cells.toList.take (off + k) ++ vs ++ cells.toList.drop (off + k + vs.length)
  | [], k, cells, _ => by simp
  | v :: vs, k, cells, h => by
    have h' : off + k < cells.size := by simp at h; omega
    rw [List.zipIdx_cons, List.foldl_cons, foldl_set off vs (k + 1) _ (by simp at h ⊢; omega)]
    simp only [Array.toList_setIfInBounds, List.length_cons]
    have hl : off + k < cells.toList.length := by simpa using h'
    rw [List.drop_set_of_lt (by omega), show off + (k + 1) + vs.length = off + k + (vs.length + 1) by omega]
    have e : List.take (off + (k + 1)) (cells.toList.set (off + k) v) = List.take (off + k) cells.toList ++ [v] := by
      rw [← Nat.add_assoc, List.take_succ_eq_append_getElem (by simpa using hl), List.take_set_of_le (Nat.le_refl _)]
      simp
    rw [e]
    simp

section
variable {P : Program} {μ : Nat → Value} {S : Nat → Prop} {w : World}

theorem fill_ok {place : Nat → Option (Nat × Nat)} {ρ : Operand → AV} {ρ' : Operand → Value} (hρ : ∀ x, VOK μ S w (ρ x) (ρ' x)) : ∀ {parts : List (Nat × Operand)} {cells out : List AV} {us : Array Value},
    fillAV place cells (parts.map fun p => (p.1, ρ p.2)) = some out → VsOK μ S w cells us.toList → ∃ vs, Instr.fill place us (parts.map fun p => (p.1, ρ' p.2)) = some vs ∧ VsOK μ S w out vs.toList
  | [], cells, out, us, h, hu => by
    cases h
    exact ⟨us, rfl, hu⟩
  | (i, x) :: rest, cells, out, us, h, hu => by
    have hv := hρ x
    simp only [fillAV, List.map_cons] at h
    split at h
    · rename_i off n cs hpl hcs
      split at h
      · rename_i hc
        have hcv := avCells_ok hcs hv
        have hlen := VsOK.len hcv
        have hsz : (ρ' x).cells.size = n := by rw [← Array.length_toList, hlen]; exact hc.1
        have hfold : ((ρ' x).cells.zipIdx.foldl (fun cs (c, j) => cs.setIfInBounds (off + j) c) us).toList = us.toList.take off ++ (ρ' x).cells.toList ++ us.toList.drop (off + (ρ' x).cells.toList.length) := by
          have hle : off + 0 + (ρ' x).cells.toList.length ≤ us.size := by
            rw [← Array.length_toList, VsOK.len hu, hlen]; simpa [hc.1] using hc.2
          have hf := foldl_set off (ρ' x).cells.toList 0 us hle
          rw [Nat.add_zero] at hf
          rw [← hf, ← Array.foldl_toList, Array.toList_zipIdx]
        obtain ⟨vs, h3, h4⟩ := fill_ok hρ (us := (ρ' x).cells.zipIdx.foldl (fun cs (c, j) => cs.setIfInBounds (off + j) c) us) h (by rw [hfold]; exact VsOK.putCells hu hcv)
        refine ⟨vs, ?_, h4⟩
        have hle2 : off + n ≤ us.size := by rw [← Array.length_toList, VsOK.len hu]; exact hc.2
        have hc2 : ¬ ((decide ((ρ' x).cells.size ≠ n) || decide (off + (ρ' x).cells.size > us.size)) = true) := by
          simp [hsz]; omega
        simp only [Instr.fill, List.map_cons, hpl]
        rw [if_neg hc2]
        exact h3
      · cases h
    · cases h
end
end Go.Proofs.YtigekmmdflaeaaaDoorE
