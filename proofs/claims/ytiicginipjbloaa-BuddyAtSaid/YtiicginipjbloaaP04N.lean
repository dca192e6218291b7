/- Buddy: BuddyBack in plain words: what was taken and given back leaves all as it was. -/
import Derived.Test.YtiicginipjbloaaP04M
set_option linter.all false
namespace Go.Proofs.YtiicginipjbloaaE
open Go Go.Proofs
set_option maxRecDepth 100000
set_option linter.unusedVariables false
def rotL (l : List Int) (k : Nat) : List Int := l.drop k ++ l.take k
theorem rotL_len (l : List Int) (k : Nat) : (rotL l k).length = l.length := by simp [rotL]; omega
theorem rotL_perm (l : List Int) (k : Nat) : l.Perm (rotL l k) := by
  have : (l.take k ++ l.drop k).Perm (l.drop k ++ l.take k) := List.perm_append_comm
  rwa [List.take_append_drop] at this
theorem rotL_get (l : List Int) (k i : Nat) (hi : i < l.length) (hk : k < l.length) : (rotL l k)[i]? = some (l.getD ((i + k) % l.length) (zEl (Ty.int IntKind.i64))) := by
  have hlt : (i + k) % l.length < l.length := Nat.mod_lt _ (by omega)
  rw [getD_lt hlt, rotL, List.getElem?_append]
  by_cases c : i < l.length - k
  · rw [if_pos (by simpa using c), List.getElem?_drop]
    have : (i + k) % l.length = k + i := by rw [Nat.mod_eq_of_lt (by omega)]; omega
    rw [List.getElem?_eq_getElem (by omega)]
    congr 2
    exact this.symm
  · rw [if_neg (by simpa using c), List.getElem?_take]
    have e : (i + k) % l.length = i + k - l.length := by rw [Nat.mod_eq_sub_mod (by omega), Nat.mod_eq_of_lt (by omega)]
    rw [if_pos (by simp; omega), List.getElem?_eq_getElem (by simp; omega)]
    congr 2
    rw [e]; simp; omega
theorem insK_perm {α : Type} {key : α → Int} (a : α) : ∀ l : List α, (insK key a l).Perm (a :: l)
  | [] => .refl _
  | b :: l => by
    unfold insK
    split
    · exact ((insK_perm a l).cons b).trans (.swap a b l)
    · exact .refl _
theorem incK_new {α : Type} {key : α → Int} {a : α} {l : List α} (h : IncK key (insK key a l)) : ¬ key a ∈ l.map key := by
  have h1 : ((insK key a l).map key).Nodup := List.pairwise_map.2 (List.Pairwise.imp (fun {a b} hab => Int.ne_of_lt hab) h)
  have h2 := ((insK_perm (key := key) a l).map key).nodup_iff.1 h1
  rw [List.map_cons] at h2
  exact (List.nodup_cons.1 h2).1
/-- a yard after some were taken -/
structure More {n : Nat} (y : Yard) (z : Yard) (B : List Bk) : Prop where
  ok : Ok n z
  fl : flY z = flY y
  mem : ∀ b, b ∈ tkY z ↔ b ∈ tkY y ∨ b ∈ B
  nd : (B.map keyB).Nodup
  new : ∀ b ∈ B, ¬ keyB b ∈ (tkY y).map keyB
theorem epk {k e q : Nat} (h : k ≤ e) : q * 2 ^ (e - k) * 2 ^ k = q * 2 ^ e := by rw [Nat.mul_assoc, ← Nat.pow_add, Nat.sub_add_cancel h]
/-- one more, or none -/
theorem More.take (K : Nat) (hK : 100 ≤ K) {n : Nat} {y z : Yard} {B : List Bk} (h : More (n := n) y z B) (a : Int) :
    (∃ b z', F14 K a z = some ((keyB b, (0 : Int)), z') ∧ More (n := n) y z' (B ++ [b])) ∨ (∃ e : Int, e ≠ 0 ∧ F14 K a z = some (((0 : Int), e), z)) := by
  by_cases c : a < 0 ∨ a > (n : Int)
  · exact .inr ⟨2, by decide, take_arg K h.ok c⟩
  · obtain ⟨k, rfl⟩ : ∃ k : Nat, a = (k : Int) := ⟨a.toNat, by omega⟩
    rcases take_in K hK h.ok (k := k) (by omega) with ⟨e, q, h1, h2, _, _, _, z', g1, g2, g3, g4⟩ | ⟨_, g⟩
    · left
      have ek : keyB (mkB k (q * 2 ^ (e - k))) = ((q * 2 ^ e : Nat) : Int) := by
        show ((q * 2 ^ (e - k) * 2 ^ k : Nat) : Int) = _
        rw [epk h1]
      refine ⟨mkB k (q * 2 ^ (e - k)), z', by rw [ek]; exact g1, ⟨g2, g4.trans h.fl, fun b => ?_, ?_, fun b hb => ?_⟩⟩
      · rw [g3, mem_insK, h.mem, List.mem_append, List.mem_singleton]
        constructor
        · rintro (h | h | h)
          · exact .inr (.inr h)
          · exact .inl h
          · exact .inr (.inl h)
        · rintro (h | h | h)
          · exact .inr (.inl h)
          · exact .inr (.inr h)
          · exact .inl h
      · have hno := incK_new (key := keyB) (by rw [← g3]; exact g2.tk.inc)
        rw [List.map_append, List.nodup_append]
        refine ⟨h.nd, by simp, fun x hx w hw e => ?_⟩
        rw [List.map_singleton, List.mem_singleton] at hw
        obtain ⟨c, hc, rfl⟩ := List.mem_map.1 hx
        exact hno (by rw [← hw, ← e]; exact List.mem_map_of_mem ((h.mem c).2 (.inr hc)))
      · have hno := incK_new (key := keyB) (by rw [← g3]; exact g2.tk.inc)
        rcases List.mem_append.1 hb with hb | hb
        · exact h.new b hb
        · rw [List.mem_singleton.1 hb]
          intro hm
          obtain ⟨c, hc, e⟩ := List.mem_map.1 hm
          exact hno (by rw [← e]; exact List.mem_map_of_mem ((h.mem c).2 (.inl hc)))
    · exact .inr ⟨5, by decide, g⟩
/-- a yard after some of these were given back -/
structure Less1 {n : Nat} (y : Yard) (B : List Bk) (z : Yard) (g : List Int) : Prop where
  ok : Ok n z
  fl : flY z = flY y
  mem : ∀ b, b ∈ tkY z ↔ b ∈ tkY y ∨ (b ∈ B ∧ ¬ keyB b ∈ g)
theorem More.start {n : Nat} {y z : Yard} {B : List Bk} (h : More (n := n) y z B) : Less1 (n := n) y B z [] :=
  ⟨h.ok, h.fl, fun b => by rw [h.mem]; simp⟩
theorem Less1.give (K : Nat) (hK : 100 ≤ K) {n : Nat} {y z : Yard} {B : List Bk} {g : List Int} (hnew : ∀ b ∈ B, ¬ keyB b ∈ (tkY y).map keyB) (h : Less1 (n := n) y B z g) {x : Int} (hx : x ∈ B.map keyB) (hg : ¬ x ∈ g) :
    ∃ z', F17 K x z = some ((0 : Int), z') ∧ F17 K x z' = some ((4 : Int), z') ∧ Less1 (n := n) y B z' (g ++ [x]) := by
  obtain ⟨b, hb, rfl⟩ := List.mem_map.1 hx
  have hm : keyB b ∈ (tkY z).map keyB := List.mem_map_of_mem ((h.mem b).2 (.inr ⟨hb, hg⟩))
  obtain ⟨z', g1, g2, g3, g4⟩ := give_yes K hK h.ok hm
  have hd := fun c => mem_delK (key := keyB) (x := keyB b) (b := c) h.ok.tk.inc hm
  refine ⟨z', g1, give_no K hK g2 fun hm' => ?_, ⟨g2, g4.trans h.fl, fun c => ?_⟩⟩
  · rw [g3] at hm'
    obtain ⟨c, hc, e⟩ := List.mem_map.1 hm'
    exact ((hd c).1 hc).2 e
  · rw [g3, hd, h.mem, List.mem_append, List.mem_singleton]
    constructor
    · rintro ⟨h1 | h1, h2⟩
      · exact .inl h1
      · exact .inr ⟨h1.1, fun h3 => h3.elim h1.2 h2⟩
    · rintro (h1 | h1)
      · exact ⟨.inl h1, fun e => hnew b hb (by rw [← e]; exact List.mem_map_of_mem h1)⟩
      · exact ⟨.inr ⟨h1.1, fun h3 => h1.2 (.inl h3)⟩, fun e => h1.2 (.inr e)⟩
theorem Less1.fin {n : Nat} {y z : Yard} {B : List Bk} {g : List Int} (hy : Ok n y) (h : Less1 (n := n) y B z g) (hg : ∀ x ∈ B.map keyB, x ∈ g) : tkY z = tkY y ∧ frL z = frL y := by
  have ht : tkY z = tkY y := incK_ext (key := keyB) h.ok.tk.inc hy.tk.inc fun b => by
    rw [h.mem]
    exact ⟨fun h => h.elim id fun h => absurd (hg _ (List.mem_map_of_mem h.1)) h.2, .inl⟩
  exact ⟨ht, frL_eq h.ok hy ht h.fl⟩
theorem L5_1_eq (l : List (El T57)) (g : List Int) (t : Int) (y : Yard) (hy : Ok 5 y) (B : List Bk) (hB : B.length ≤ 1000) (hnd : (B.map keyB).Nodup) (hnew : ∀ b ∈ B, ¬ keyB b ∈ (tkY y).map keyB) (kk : Nat) (hkk : B ≠ [] → IntKind.i64.wrap ((IntKind.u64.wrap t).tmod (IntKind.u64.wrap ((B.map keyB).length : Int))) = (kk : Int) ∧ kk < B.length) : ∀ (f i : Nat) (z : Yard), B.length < f + i → i ≤ B.length → Less1 (n := 5) y B z ((rotL (B.map keyB) kk).take i) →
    L5_1 (F11 2000) (F12 2000) (F19 2000) (F14 2000) (F17 2000) (F18 2000) (F15 2000) 2000 l g t f ((B.map keyB).length : Int) (i : Int) z.1 (frL y) (tkY y) (B.map keyB) z.2.1 z.2.2.1 z.2.2.2.1 z.2.2.2.2.1 z.2.2.2.2.2.1 z.2.2.2.2.2.2.1 z.2.2.2.2.2.2.2.1 z.2.2.2.2.2.2.2.2.1 z.2.2.2.2.2.2.2.2.2.1 z.2.2.2.2.2.2.2.2.2.2.1 z.2.2.2.2.2.2.2.2.2.2.2.1 z.2.2.2.2.2.2.2.2.2.2.2.2.1 z.2.2.2.2.2.2.2.2.2.2.2.2.2 = some true
  | 0, i, z, h, hi, hz => by omega
  | f + 1, i, z, h, hi, hz => by
    have hlenB : (B.map keyB).length = B.length := List.length_map ..
    have hfr := frL_len hy.rep
    have htk := hy.tk.len hy.rep.le
    simp only [L5_1, b5_1]
    by_cases c : i < B.length
    · have hne : B ≠ [] := fun e => by rw [e] at c; cases c
      obtain ⟨hkk1, hkk2⟩ := hkk hne
      have d2 : (!(((B.map keyB).length : Int) == (0 : Int))) = true := by
        have : ¬ ((B.map keyB).length : Int) = 0 := by omega
        rw [beq_eq_false_iff_ne.2 this]; rfl
      have d4 : (!(IntKind.u64.wrap ((B.map keyB).length : Int) == (0 : Int))) = true := by rw [u64_in (by omega) (by omega)]; exact d2
      have e1 : IntKind.i64.wrap ((i : Int) + 1) = ((i + 1 : Nat) : Int) := by rw [i64_in (by omega) (by omega)]; omega
      have e2 : (IntKind.i64.wrap ((i : Int) + (kk : Int))).tmod ((B.map keyB).length : Int) = (((i + kk) % (B.map keyB).length : Nat) : Int) := by
        rw [i64_in (by omega) (by omega), Int.tmod_eq_emod_of_nonneg (by omega), Int.natCast_emod, Int.natCast_add]
      have hm : (i + kk) % (B.map keyB).length < (B.map keyB).length := Nat.mod_lt _ (by omega)
      have hget := rotL_get (B.map keyB) kk i (by omega) (by omega)
      generalize hxx : (B.map keyB).getD ((i + kk) % (B.map keyB).length) (zEl (Ty.int IntKind.i64)) = x at hget
      have ht : (rotL (B.map keyB) kk).take (i + 1) = (rotL (B.map keyB) kk).take i ++ [x] := by
        rw [List.take_add_one, hget]; rfl
      have hxm : x ∈ B.map keyB := by rw [← hxx, getD_lt hm]; exact List.getElem_mem hm
      have hxg : ¬ x ∈ (rotL (B.map keyB) kk).take i := fun hx => by
        have h1 : ((rotL (B.map keyB) kk).take (i + 1)).Nodup := ((rotL_perm (B.map keyB) kk).nodup_iff.1 hnd).sublist (List.take_sublist _ _)
        rw [ht, List.nodup_append] at h1
        exact h1.2.2 x hx x (by simp) rfl
      obtain ⟨z', g1, g2, g3⟩ := hz.give 2000 (by decide) hnew hxm hxg
      have g1' : F17 2000 x (z.1, z.2.1, z.2.2.1, z.2.2.2.1, z.2.2.2.2.1, z.2.2.2.2.2.1, z.2.2.2.2.2.2.1, z.2.2.2.2.2.2.2.1, z.2.2.2.2.2.2.2.2.1, z.2.2.2.2.2.2.2.2.2.1, z.2.2.2.2.2.2.2.2.2.2.1, z.2.2.2.2.2.2.2.2.2.2.2.1, z.2.2.2.2.2.2.2.2.2.2.2.2.1, z.2.2.2.2.2.2.2.2.2.2.2.2.2) = some ((0 : Int), z') := g1
      rw [if_pos (decide_eq_true (by omega)), if_pos d4, if_pos d2, hkk1, e2, if_pos (decide_eq_true (by omega)), Int.toNat_natCast, hxx, g1', Option.bind_some, if_neg (by exact Bool.false_ne_true)]
      dsimp only
      rw [g2, Option.bind_some, if_neg (by exact Bool.false_ne_true), e1]
      rw [← ht] at g3
      exact L5_1_eq l g t y hy B hB hnd hnew kk hkk f (i + 1) z' (by omega) (by omega) g3
    · have ei : i = B.length := by omega
      have hall : (rotL (B.map keyB) kk).take i = rotL (B.map keyB) kk := List.take_of_length_le (by rw [rotL_len]; omega)
      rw [hall] at hz
      obtain ⟨k1, k2⟩ := hz.fin hy fun x hx => (rotL_perm _ _).mem_iff.1 hx
      have g1 : F12 2000 (z.1, z.2.1, z.2.2.1, z.2.2.2.1, z.2.2.2.2.1, z.2.2.2.2.2.1, z.2.2.2.2.2.2.1, z.2.2.2.2.2.2.2.1, z.2.2.2.2.2.2.2.2.1, z.2.2.2.2.2.2.2.2.2.1, z.2.2.2.2.2.2.2.2.2.2.1, z.2.2.2.2.2.2.2.2.2.2.2.1, z.2.2.2.2.2.2.2.2.2.2.2.2.1, z.2.2.2.2.2.2.2.2.2.2.2.2.2) = some (frL z) := F12_eq 2000 (by decide) hz.ok
      have g2 : F19 2000 (z.1, z.2.1, z.2.2.1, z.2.2.2.1, z.2.2.2.2.1, z.2.2.2.2.2.1, z.2.2.2.2.2.2.1, z.2.2.2.2.2.2.2.1, z.2.2.2.2.2.2.2.2.1, z.2.2.2.2.2.2.2.2.2.1, z.2.2.2.2.2.2.2.2.2.2.1, z.2.2.2.2.2.2.2.2.2.2.2.1, z.2.2.2.2.2.2.2.2.2.2.2.2.1, z.2.2.2.2.2.2.2.2.2.2.2.2.2) = some (tkY z) := F19_eq 2000 hz.ok
      rw [if_neg (by simp; omega), g1, Option.bind_some, k2, F18_eq 2000 _ _ (by omega) (by omega), Option.bind_some, if_pos (decide_eq_true rfl), g2, Option.bind_some, k1, F18_eq 2000 _ _ (by omega) (by omega), Option.bind_some, if_pos (decide_eq_true rfl), known_eq]
      rfl
theorem L5_0_eq (l : List (El T57)) (g : List Int) (t : Int) (y : Yard) (hy : Ok 5 y) : ∀ (f i : Nat) (B : List Bk) (z : Yard), 21 < f + i → i ≤ 20 → B.length ≤ i → More (n := 5) y z B →
    L5_0 (F11 2000) (F12 2000) (F19 2000) (F14 2000) (F17 2000) (F18 2000) (F15 2000) 2000 l g t f (i : Int) z.1 (frL y) (tkY y) (B.map keyB) z.2.1 z.2.2.1 z.2.2.2.1 z.2.2.2.2.1 z.2.2.2.2.2.1 z.2.2.2.2.2.2.1 z.2.2.2.2.2.2.2.1 z.2.2.2.2.2.2.2.2.1 z.2.2.2.2.2.2.2.2.2.1 z.2.2.2.2.2.2.2.2.2.2.1 z.2.2.2.2.2.2.2.2.2.2.2.1 z.2.2.2.2.2.2.2.2.2.2.2.2.1 z.2.2.2.2.2.2.2.2.2.2.2.2.2 = some true
  | 0, i, B, z, h, hi, hB, hz => by omega
  | f + 1, i, B, z, h, hi, hB, hz => by
    have hlenB : (B.map keyB).length = B.length := List.length_map ..
    have stop : L5_1 (F11 2000) (F12 2000) (F19 2000) (F14 2000) (F17 2000) (F18 2000) (F15 2000) 2000 l g t 2000 ((B.map keyB).length : Int) ((0 : Nat) : Int) z.1 (frL y) (tkY y) (B.map keyB) z.2.1 z.2.2.1 z.2.2.2.1 z.2.2.2.2.1 z.2.2.2.2.2.1 z.2.2.2.2.2.2.1 z.2.2.2.2.2.2.2.1 z.2.2.2.2.2.2.2.2.1 z.2.2.2.2.2.2.2.2.2.1 z.2.2.2.2.2.2.2.2.2.2.1 z.2.2.2.2.2.2.2.2.2.2.2.1 z.2.2.2.2.2.2.2.2.2.2.2.2.1 z.2.2.2.2.2.2.2.2.2.2.2.2.2 = some true := by
      have hu : 0 ≤ IntKind.u64.wrap t := by rw [IntKind.wrap_u64]; omega
      obtain ⟨u, eu⟩ : ∃ u : Nat, IntKind.u64.wrap t = (u : Int) := ⟨(IntKind.u64.wrap t).toNat, by omega⟩
      refine L5_1_eq l g t y hy B (by omega) hz.nd hz.new (u % B.length) (fun hne => ?_) 2000 0 z (by omega) (Nat.zero_le _) hz.start
      have hpos : 0 < B.length := List.length_pos_iff.2 hne
      refine ⟨?_, Nat.mod_lt _ hpos⟩
      rw [hlenB, u64_in (x := (B.length : Int)) (by omega) (by omega), eu, Int.tmod_eq_emod_of_nonneg (by omega)]
      have := Nat.mod_lt u hpos
      rw [i64_in] <;> omega
    simp only [L5_0, b5_0]
    by_cases c : i < g.length
    · rw [if_pos (decide_eq_true (by omega))]
      by_cases c2 : i < 20
      · rw [if_pos (decide_eq_true (by omega)), if_pos (decide_eq_true (by omega))]
        have e : IntKind.i64.wrap ((i : Int) + 1) = ((i + 1 : Nat) : Int) := by rw [i64_in (by omega) (by omega)]; omega
        rw [e]
        rcases hz.take 2000 (by decide) (g.getD (i : Int).toNat (zEl (Ty.int IntKind.i64))) with ⟨b, z', g1, g2⟩ | ⟨er, g0, g1⟩
        · have g1' : F14 2000 (g.getD (i : Int).toNat (zEl (Ty.int IntKind.i64))) (z.1, z.2.1, z.2.2.1, z.2.2.2.1, z.2.2.2.2.1, z.2.2.2.2.2.1, z.2.2.2.2.2.2.1, z.2.2.2.2.2.2.2.1, z.2.2.2.2.2.2.2.2.1, z.2.2.2.2.2.2.2.2.2.1, z.2.2.2.2.2.2.2.2.2.2.1, z.2.2.2.2.2.2.2.2.2.2.2.1, z.2.2.2.2.2.2.2.2.2.2.2.2.1, z.2.2.2.2.2.2.2.2.2.2.2.2.2) = some ((keyB b, (0 : Int)), z') := g1
          rw [g1', Option.bind_some, if_pos (by rfl), if_pos (fits3 (by simp; omega))]
          have := L5_0_eq l g t y hy f (i + 1) (B ++ [b]) z' (by omega) (by omega) (by simp; omega) g2
          rw [List.map_append] at this
          exact this
        · have g1' : F14 2000 (g.getD (i : Int).toNat (zEl (Ty.int IntKind.i64))) (z.1, z.2.1, z.2.2.1, z.2.2.2.1, z.2.2.2.2.1, z.2.2.2.2.2.1, z.2.2.2.2.2.2.1, z.2.2.2.2.2.2.2.1, z.2.2.2.2.2.2.2.2.1, z.2.2.2.2.2.2.2.2.2.1, z.2.2.2.2.2.2.2.2.2.2.1, z.2.2.2.2.2.2.2.2.2.2.2.1, z.2.2.2.2.2.2.2.2.2.2.2.2.1, z.2.2.2.2.2.2.2.2.2.2.2.2.2) = some (((0 : Int), er), z) := g1
          rw [g1', Option.bind_some, if_neg (by simpa using g0)]
          exact L5_0_eq l g t y hy f (i + 1) B z (by omega) (by omega) (by omega) hz
      · rw [if_neg (by simp; omega)]
        exact stop
    · rw [if_neg (by simp; omega)]
      exact stop
theorem More.zero {n : Nat} {y : Yard} (h : Ok n y) : More (n := n) y y [] := ⟨h, rfl, fun b => by simp, by simp, fun b hb => by cases hb⟩
theorem buddyBack (l : List (El T57)) (g : List Int) (t : Int) (_ : Gd (.sl T57) l) (_ : Gd (.sl (.int .i64)) g) (_ : (Lit.int .i64 t).wf = true) : F5 2000 l g t = some true := by
  obtain ⟨y, h1, h2⟩ := F11_eq 2000 (by decide) l
  unfold F5 G5 t5
  rw [h1, Option.bind_some]
  dsimp only
  rw [F12_eq 2000 (by decide) h2, Option.bind_some, F19_eq 2000 h2, Option.bind_some]
  exact L5_0_eq l g t y h2 2000 0 [] y (by omega) (by omega) (Nat.le_refl _) (More.zero h2)
end Go.Proofs.YtiicginipjbloaaE
