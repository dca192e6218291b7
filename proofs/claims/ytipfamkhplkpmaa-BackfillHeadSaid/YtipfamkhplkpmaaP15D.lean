/- Backfill: when a block is free first; BackfillEarliest. -/
import Derived.Test.YtipfamkhplkpmaaP15C
set_option linter.all false
namespace Go.Proofs.YtipfamkhplkpmaaE
open Go Go.Proofs
set_option maxRecDepth 100000
set_option linter.unusedVariables false

/-! ### a row in order, each once -/
theorem bang {l : List Int} {j : Nat} (h : j < l.length) : l.toArray[j]! = l[j] := by simp [h]
theorem compact_mem {l : List Int} {x : Int} : x ∈ Lib.compact l ↔ x ∈ l := by
  unfold Lib.compact Lib.compactUpTo
  simp only [List.mem_map, List.mem_filter, List.mem_range]
  constructor
  · rintro ⟨j, ⟨h1, _⟩, rfl⟩
    rw [bang h1]
    exact List.getElem_mem _
  · intro hx
    obtain ⟨i, hi, rfl⟩ := List.getElem_of_mem hx
    induction i with
    | zero => exact ⟨0, ⟨hi, by simp [Lib.keeps]⟩, bang hi⟩
    | succ i ih =>
      by_cases c : l[i + 1] = l[i]
      · obtain ⟨j, h1, h2⟩ := ih (by omega) (List.getElem_mem _)
        exact ⟨j, h1, by rw [c]; exact h2⟩
      · refine ⟨i + 1, ⟨hi, ?_⟩, bang hi⟩
        unfold Lib.keeps
        rw [decide_eq_true_eq]
        refine .inr ?_
        rw [show i + 1 - 1 = i from rfl, bang hi, bang (show i < l.length by omega)]
        exact c
theorem compact_pair {l : List Int} (h : l.Pairwise (· ≤ ·)) : (Lib.compact l).Pairwise (· < ·) := by
  unfold Lib.compact Lib.compactUpTo
  rw [List.pairwise_map]
  have hr : (((List.range l.length).filter (Lib.keeps l.toArray))).Pairwise (· < ·) := List.Pairwise.filter _ List.pairwise_lt_range
  refine List.Pairwise.imp_of_mem (R := (· < ·)) (fun {i j} hi hj hij => ?_) hr
  simp only [List.mem_filter, List.mem_range] at hi hj
  rw [bang hi.1, bang hj.1]
  have hk := hj.2
  unfold Lib.keeps at hk
  rw [decide_eq_true_eq] at hk
  rcases hk with hk | hk
  · omega
  · have hj1 : j - 1 < l.length := by omega
    rw [bang hj.1, bang hj1] at hk
    rw [List.pairwise_iff_getElem] at h
    have h1 : l[i] ≤ l[j - 1] := by
      by_cases e : i = j - 1
      · subst e; exact Int.le_refl _
      · exact h i (j - 1) hi.1 hj1 (by omega)
    have h2 : l[j - 1] ≤ l[j] := h (j - 1) j hj1 hj.1 (by omega)
    omega

/-! ### the ticks -/
def ends (f : Int) : List Hd → List Int
  | [] => []
  | h :: l => if h.2.2 > f then h.2.2 :: ends f l else ends f l
theorem ends_mem {f x : Int} : ∀ {l : List Hd}, x ∈ ends f l ↔ (∃ h ∈ l, h.2.2 = x) ∧ f < x
  | [] => by simp [ends]
  | h :: l => by
    have ih := ends_mem (f := f) (x := x) (l := l)
    unfold ends
    by_cases c : h.2.2 > f
    · rw [if_pos c, List.mem_cons, ih]
      constructor
      · rintro (e | ⟨⟨k, h1, h2⟩, h3⟩)
        · exact ⟨⟨h, by simp, e.symm⟩, by rw [e]; exact c⟩
        · exact ⟨⟨k, by simp [h1], h2⟩, h3⟩
      · rintro ⟨⟨k, h1, h2⟩, h3⟩
        rcases List.mem_cons.1 h1 with rfl | h1
        · exact .inl h2.symm
        · exact .inr ⟨⟨k, h1, h2⟩, h3⟩
    · rw [if_neg c, ih]
      constructor
      · rintro ⟨⟨k, h1, h2⟩, h3⟩; exact ⟨⟨k, by simp [h1], h2⟩, h3⟩
      · rintro ⟨⟨k, h1, h2⟩, h3⟩
        rcases List.mem_cons.1 h1 with rfl | h1
        · exact absurd (show k.2.2 > f by rw [h2]; exact h3) c
        · exact ⟨⟨k, h1, h2⟩, h3⟩
theorem ends_len (f : Int) : ∀ l : List Hd, (ends f l).length ≤ l.length
  | [] => Nat.le_refl _
  | h :: l => by
    have := ends_len f l
    unfold ends
    split <;> simp only [List.length_cons] <;> omega
def ticks (s : Sc) (f : Int) : List Int := Lib.compact (isrt ([f] ++ ends f s.2.2))
theorem ticks_mem {s : Sc} {f x : Int} : x ∈ ticks s f ↔ x = f ∨ ((∃ h ∈ s.2.2, h.2.2 = x) ∧ f < x) := by
  unfold ticks
  rw [compact_mem, (isrt_perm _).mem_iff, List.mem_append, List.mem_singleton, ends_mem]
theorem ticks_pair (s : Sc) (f : Int) : (ticks s f).Pairwise (· < ·) := compact_pair (isrt_pair _)
theorem ticks_len (s : Sc) (f : Int) (h : List.length s.2.2 ≤ 300) : (ticks s f).length ≤ 301 := by
  have h1 := compact_len (isrt ([f] ++ ends f s.2.2))
  have h2 := (isrt_perm ([f] ++ ends f s.2.2)).length_eq
  have h3 := ends_len f s.2.2
  unfold ticks
  simp only [List.length_append, List.length_singleton] at h2
  omega
def firstT (s : Sc) (o g : Int) : List Int → Int × Int × Int
  | [] => (0, 0, 5)
  | t :: T => match (findS s o t (t + g)).2 with
    | true => (t, (findS s o t (t + g)).1, 0)
    | false => firstT s o g T
/-- what may be asked -/
structure Ask (s : Sc) (o f g : Int) : Prop where
  ok : OKS s
  o0 : 0 ≤ o
  o1 : o ≤ s.1
  f0 : 0 ≤ f
  f1 : f ≤ 1099511627776
  g0 : 1 ≤ g
  g1 : g ≤ 1099511627776
theorem tick_in {s : Sc} {o f g x : Int} (A : Ask s o f g) (h : x ∈ ticks s f) : 0 ≤ x ∧ x ≤ 4398046511104 := by
  rcases ticks_mem.1 h with rfl | ⟨⟨k, h1, rfl⟩, h2⟩
  · exact ⟨A.f0, by have := A.f1; omega⟩
  · have := A.ok.hh k h1
    unfold okH at this
    simp only [Bool.and_eq_true, decide_eq_true_eq] at this
    exact ⟨by have := A.f0; omega, this.2.2.2⟩
theorem L30_1_eq {s : Sc} {o f g : Int} (hf : List.length s.2.1 ≤ 1200) (A : Ask s o f g) (T : List Int) (hT : ∀ x ∈ T, 0 ≤ x ∧ x ≤ 4398046511104) (hTl : T.length ≤ 400) : ∀ (n : Nat) (pre suf : List Int), T = pre ++ suf → suf.length < n →
    L30_1 (F45 2000) (F46 2000) (F33 2000) 2000 s o f g n (T.length : Int) (pre.length : Int) T = some (firstT s o g suf)
  | 0, pre, suf, e, h => by omega
  | n + 1, pre, [], e, h => by
    have := fin e
    simp only [L30_1, b30_1, this.1]
    rfl
  | n + 1, pre, x :: xs, e, h => by
    obtain ⟨g1, g2, g3, g4, g5, g6⟩ := mid e (zEl (Ty.int IntKind.i64)) (by omega)
    have ih := L30_1_eq hf A T hT hTl n (pre ++ [x]) xs g5 (by simpa using h)
    have hx := hT x (by rw [e]; simp)
    have hg := A.g1
    have hg0 := A.g0
    have ew : IntKind.i64.wrap (x + g) = x + g := i64_in (by omega) (by omega)
    simp only [L30_1, b30_1, g1, g2, g3, g4, if_true, ew, F33_eq hf A.ok, Option.bind_some, ih]
    have hd : firstT s o g (x :: xs) = match (findS s o x (x + g)).2 with
      | true => (x, (findS s o x (x + g)).1, 0)
      | false => firstT s o g xs := rfl
    rw [hd]
    cases (findS s o x (x + g)).2 <;> rfl
theorem L30_0_eq {s : Sc} {o f g : Int} (hf : List.length s.2.1 ≤ 1200) (A : Ask s o f g) : ∀ (n : Nat) (pre suf : List Hd) (acc : List Int), s.2.2 = pre ++ suf → suf.length < n → acc ++ ends f suf = [f] ++ ends f s.2.2 → acc.length ≤ 1 + pre.length →
    L30_0 (F45 2000) (F46 2000) (F33 2000) 2000 s o f g n (pre.length : Int) acc = some (firstT s o g (ticks s f))
  | 0, pre, suf, acc, e, h, ha, hl => by omega
  | n + 1, pre, [], acc, e, h, ha, hl => by
    have hfin := fin (l := s.2.2) e
    have hlen := A.ok.hl
    have ha' : acc = [f] ++ ends f s.2.2 := by simpa [ends] using ha
    have hpl : pre.length ≤ 300 := by rw [hfin.2]; exact hlen
    have h45 : F45 2000 () acc = some (isrt acc) := by rw [F45_fun]; exact if_pos (by omega)
    have h46 : F46 2000 () (isrt acc) = some (ticks s f) := by rw [ha']; rfl
    simp only [L30_0, b30_0, hfin.1, Bool.false_eq_true, if_false, h45, h46, Option.bind_some]
    have := ticks_len s f hlen
    exact L30_1_eq hf A (ticks s f) (fun x hx => tick_in A hx) (by omega) 2000 [] (ticks s f) rfl (by omega)
  | n + 1, pre, x :: xs, acc, e, h, ha, hl => by
    have hlen := A.ok.hl
    obtain ⟨g1, g2, g3, g4, g5, g6⟩ := mid (l := s.2.2) e (zEl T47) (by omega)
    have hle : List.length s.2.2 = pre.length + (xs.length + 1) := by rw [e]; simp
    have b3 := by3
    have hm : (acc.length + 1) * Try.prog.types[(3 : Nat)].bytes ≤ 100000 * 100 := Nat.mul_le_mul (by omega) b3
    simp only [L30_0, b30_0, g1, g2, g3, g4, if_true]
    by_cases c : x.2.2 > f
    · have hends : ends f (x :: xs) = x.2.2 :: ends f xs := if_pos c
      rw [hends] at ha
      rw [if_pos (decide_eq_true c), if_pos (decide_eq_true (show (acc.length + [x.2.2].length) * _ ≤ _ by simp only [List.length_singleton]; omega))]
      exact L30_0_eq hf A n (pre ++ [x]) xs (acc ++ [x.2.2]) g5 (by simpa using h) (by rw [← ha]; simp) (by simp; omega)
    · have hends : ends f (x :: xs) = ends f xs := if_neg c
      rw [hends] at ha
      rw [if_neg (by simpa using c)]
      exact L30_0_eq hf A n (pre ++ [x]) xs acc g5 (by simpa using h) ha (by simp; omega)
theorem F30_eq {s : Sc} {o f g : Int} (hf : List.length s.2.1 ≤ 1200) (A : Ask s o f g) : F30 2000 s o f g = some (firstT s o g (ticks s f)) :=
  L30_0_eq hf A 2000 [] s.2.2 [f] rfl (by have := A.ok.hl; omega) rfl (by simp)

/-! ### the document's way -/
def Later (l : List Hd) (t r : Int) : Prop := (r = -1 ∧ ∀ h ∈ l, ¬ t < h.2.2) ∨ ((∃ h ∈ l, h.2.2 = r) ∧ t < r ∧ ∀ h ∈ l, t < h.2.2 → r ≤ h.2.2)
theorem L47_eq (K : Nat) (s : Sc) (t : Int) (ht : 0 ≤ t) (hl : List.length s.2.2 ≤ 300) : ∀ (n : Nat) (pre suf : List Hd) (b : Int), s.2.2 = pre ++ suf → suf.length < n → Later pre t b → ∃ r, L47_0 K s t n b (pre.length : Int) = some r ∧ Later s.2.2 t r
  | 0, pre, suf, b, e, h, hb => by omega
  | n + 1, pre, [], b, e, h, hb => by
    have hfin := fin (l := s.2.2) e
    simp only [L47_0, b47_0, hfin.1, Bool.false_eq_true, if_false]
    exact ⟨b, rfl, by rw [← hfin.2]; exact hb⟩
  | n + 1, pre, x :: xs, b, e, h, hb => by
    obtain ⟨g1, g2, g3, g4, g5, g6⟩ := mid (l := s.2.2) e (zEl T47) (by omega)
    have ih := fun b' hb' => L47_eq K s t ht hl n (pre ++ [x]) xs b' g5 (by simpa using h) hb'
    simp only [L47_0, b47_0, g1, g2, g3, g4, if_true]
    have mem : ∀ {k : Hd}, k ∈ pre ++ [x] ↔ k ∈ pre ∨ k = x := by intro k; simp
    by_cases c : x.2.2 > t
    · rw [if_pos (decide_eq_true c)]
      by_cases c2 : b < 0
      · rw [if_pos (decide_eq_true c2)]
        refine ih x.2.2 (.inr ⟨⟨x, by simp, rfl⟩, c, fun k hk hk' => ?_⟩)
        rcases mem.1 hk with hk | rfl
        · rcases hb with ⟨_, h2⟩ | ⟨_, h2, _⟩
          · exact absurd hk' (h2 k hk)
          · omega
        · exact Int.le_refl _
      · rw [if_neg (by simpa using c2)]
        rcases hb with ⟨h1, _⟩ | ⟨⟨q, hq, hq'⟩, h2, h3⟩
        · omega
        · by_cases c3 : x.2.2 < b
          · rw [if_pos (decide_eq_true c3)]
            refine ih x.2.2 (.inr ⟨⟨x, by simp, rfl⟩, c, fun k hk hk' => ?_⟩)
            rcases mem.1 hk with hk | rfl
            · exact Int.le_trans (Int.le_of_lt c3) (h3 k hk hk')
            · exact Int.le_refl _
          · rw [if_neg (by simpa using c3)]
            refine ih b (.inr ⟨⟨q, by simp [hq], hq'⟩, h2, fun k hk hk' => ?_⟩)
            rcases mem.1 hk with hk | rfl
            · exact h3 k hk hk'
            · simp only [El] at *; omega
    · rw [if_neg (by simpa using c)]
      refine ih b ?_
      rcases hb with ⟨h1, h2⟩ | ⟨⟨q, hq, hq'⟩, h2, h3⟩
      · refine .inl ⟨h1, fun k hk => ?_⟩
        rcases mem.1 hk with hk | rfl
        · exact h2 k hk
        · exact c
      · refine .inr ⟨⟨q, by simp [hq], hq'⟩, h2, fun k hk hk' => ?_⟩
        rcases mem.1 hk with hk | rfl
        · exact h3 k hk hk'
        · exact absurd hk' c
theorem F47_eq (s : Sc) (t : Int) (ht : 0 ≤ t) (hl : List.length s.2.2 ≤ 300) : ∃ r, F47 2000 s t = some r ∧ Later s.2.2 t r :=
  L47_eq 2000 s t ht hl 2000 [] s.2.2 (-1) rfl (by omega) (.inl ⟨rfl, fun h hh => by simp at hh⟩)
theorem L31_1_eq {s : Sc} {o f g : Int} (hf : List.length s.2.1 ≤ 1200) (A : Ask s o f g) (r0 : Int → Int → Option (Int × Int × Int)) (t : Int) (ht : 0 ≤ t ∧ t ≤ 4398046511104) : ∀ (n : Nat) (st : Int), 0 ≤ st → st ≤ 2048 → pw s.1 - st < n → 0 < n →
    L31_1 (F34 2000) (F36 2000) (F47 2000) 2000 s o f g r0 n (pw o) t st = (match (fnd s o t (t + g) n st).2 with
      | true => some (t, (fnd s o t (t + g) n st).1, 0)
      | false => Option.bind (F47 2000 s t) fun x => r0 (pw o) x)
  | 0, st, h1, h2, h3, h4 => by omega
  | n + 1, st, h1, h2, h3, h4 => by
    have O := A.ok
    have hp := pw_max O.h0 O.h1
    have hpo := pw_pos o
    have ho2 : o ≤ 10 := Int.le_trans A.o1 O.h1
    have hpo' := pw_max A.o0 ho2
    have hg := A.g1
    have hg0 := A.g0
    have ew : IntKind.i64.wrap (t + g) = t + g := i64_in (by omega) (by omega)
    simp only [L31_1, b31_1, F34_eq 2000 (by omega) s.1 O.h0 O.h1, Option.bind_some, ew]
    have hd : fnd s o t (t + g) (n + 1) st = if st < pw s.1 then (match freeS s (st, o) t (t + g) with
      | true => (st, true)
      | false => fnd s o t (t + g) n (st + pw o)) else (0, false) := rfl
    rw [hd]
    by_cases c : st < pw s.1
    · have hb : In ((st, o) : Bk) := ⟨A.o0, ho2, h1, show st ≤ 2000 by omega⟩
      have ew2 : IntKind.i64.wrap (st + pw o) = st + pw o := i64_in (by omega) (by omega)
      rw [if_pos (decide_eq_true c), if_pos c, F36_eq 2000 (by omega) s (st, o) t (t + g) O.hl hb O.hin (by omega) (by omega), Option.bind_some]
      cases freeS s (st, o) t (t + g) with
      | true => rfl
      | false =>
        rw [if_neg Bool.false_ne_true, ew2]
        exact L31_1_eq hf A r0 t ht n (st + pw o) (by omega) (by omega) (by omega) (by omega)
    · rw [if_neg (by simpa using c), if_neg c]
theorem L31_0_eq {s : Sc} {o f g : Int} (hf : List.length s.2.1 ≤ 1200) (A : Ask s o f g) : ∀ (T : List Int) (n : Nat) (t : Int), T.length + 1 < n → (t :: T).Pairwise (· < ·) → (0 ≤ t ∧ t ≤ 4398046511104) → (∀ x ∈ T, x ≤ 4398046511104) → (∀ x, x ∈ T ↔ (∃ h ∈ s.2.2, h.2.2 = x) ∧ t < x) →
    L31_0 (F34 2000) (F36 2000) (F47 2000) 2000 s o f g n (pw o) t = some (firstT s o g (t :: T))
  | T, 0, t, h, hp, ht, hT, hm => by omega
  | T, n + 1, t, h, hp, ht, hT, hm => by
    have O := A.ok
    have hps := pw_max O.h0 O.h1
    have hin := L31_1_eq hf A (L31_0 (F34 2000) (F36 2000) (F47 2000) 2000 s o f g n) t ht 2000 0 (by omega) (by omega) (by omega) (by omega)
    have hfs : findS s o t (t + g) = fnd s o t (t + g) 2000 0 := if_pos ⟨A.o0, A.o1⟩
    simp only [L31_0, b31_0]
    rw [if_pos (decide_eq_true ht.1), hin]
    have hd : firstT s o g (t :: T) = match (findS s o t (t + g)).2 with
      | true => (t, (findS s o t (t + g)).1, 0)
      | false => firstT s o g T := rfl
    rw [hd, hfs]
    cases (fnd s o t (t + g) 2000 0).2 with
    | true => rfl
    | false =>
      obtain ⟨r, hr, hL⟩ := F47_eq s t ht.1 O.hl
      show Option.bind (F47 2000 s t) _ = some (firstT s o g T)
      rw [hr, Option.bind_some]
      cases T with
      | nil =>
        have er : r = -1 := by
          rcases hL with ⟨e, _⟩ | ⟨⟨k, h1, h2⟩, h3, _⟩
          · exact e
          · have := (hm r).2 ⟨⟨k, h1, h2⟩, h3⟩
            simp at this
        subst er
        obtain ⟨m, rfl⟩ : ∃ m, n = m + 1 := ⟨n - 1, by simp at h; omega⟩
        rfl
      | cons y T =>
        rw [List.pairwise_cons] at hp
        have hy := (hm y).1 (by simp)
        have er : r = y := by
          obtain ⟨⟨k, k1, k2⟩, k3⟩ := hy
          rcases hL with ⟨_, h2⟩ | ⟨⟨q, q1, q2⟩, h3, h4⟩
          · exact absurd (show t < k.2.2 by rw [k2]; exact k3) (h2 k k1)
          · have h5 : r ≤ y := by rw [← k2]; exact h4 k k1 (by rw [k2]; exact k3)
            have h6 := (hm r).2 ⟨⟨q, q1, q2⟩, h3⟩
            rcases List.mem_cons.1 h6 with e | e
            · exact e
            · have := (List.pairwise_cons.1 hp.2).1 r e
              omega
        subst er
        refine L31_0_eq hf A T n r (by simp at h; omega) hp.2 ⟨by have := hy.2; omega, hT r (by simp)⟩ (fun x hx => hT x (by simp [hx])) (fun x => ?_)
        constructor
        · intro hx
          exact ⟨((hm x).1 (by simp [hx])).1, (List.pairwise_cons.1 hp.2).1 x hx⟩
        · rintro ⟨h1, h2⟩
          have := (hm x).2 ⟨h1, by have := hy.2; omega⟩
          rcases List.mem_cons.1 this with e | e
          · omega
          · exact e
theorem ticks_head (s : Sc) (f : Int) : ∃ T, ticks s f = f :: T := by
  have hm := ticks_mem (s := s) (f := f) (x := f)
  have hp := ticks_pair s f
  have hin : f ∈ ticks s f := hm.2 (.inl rfl)
  have hge : ∀ x ∈ ticks s f, f ≤ x := fun x hx => by
    rcases ticks_mem.1 hx with rfl | ⟨_, h⟩
    · exact Int.le_refl _
    · omega
  generalize ticks s f = l at *
  cases l with
  | nil => simp at hin
  | cons y T =>
    rcases List.mem_cons.1 hin with e | e
    · exact ⟨T, by rw [e]⟩
    · have h1 := (List.pairwise_cons.1 hp).1 f e
      have h2 := hge y (by simp)
      omega
theorem F31_eq {s : Sc} {o f g : Int} (hf : List.length s.2.1 ≤ 1200) (A : Ask s o f g) : F31 2000 s o f g = some (firstT s o g (ticks s f)) := by
  obtain ⟨T, e⟩ := ticks_head s f
  have hp := ticks_pair s f
  have hl := ticks_len s f A.ok.hl
  have hT : ∀ x ∈ ticks s f, 0 ≤ x ∧ x ≤ 4398046511104 := fun x hx => tick_in A hx
  have hm : ∀ x, x ∈ ticks s f ↔ x = f ∨ ((∃ h ∈ s.2.2, h.2.2 = x) ∧ f < x) := fun x => ticks_mem
  have ho2 : o ≤ 10 := Int.le_trans A.o1 A.ok.h1
  unfold F31 G31 t31
  rw [F34_eq 2000 (by omega) o A.o0 ho2, Option.bind_some]
  rw [e] at hp hl hT hm ⊢
  refine L31_0_eq hf A T 2000 f (by simp at hl; omega) hp (hT f (by simp)) (fun x hx => (hT x (by simp [hx])).2) (fun x => ?_)
  constructor
  · intro hx
    rcases (hm x).1 (by simp [hx]) with rfl | h
    · exact absurd ((List.pairwise_cons.1 hp).1 x hx) (by omega)
    · exact h
  · intro h
    rcases List.mem_cons.1 ((hm x).2 (.inr h)) with rfl | hx
    · omega
    · exact hx
def earl (s : Sc) (o f g : Int) : Int × Int × Int := if okS s = true ∧ 0 ≤ o ∧ o ≤ s.1 ∧ 0 ≤ f ∧ f ≤ 1099511627776 ∧ 1 ≤ g ∧ g ≤ 1099511627776 then firstT s o g (ticks s f) else (0, 0, 2)
theorem F16_eq {s : Sc} (hf : List.length s.2.1 ≤ 1200) (o f g : Int) : F16 2000 s o f g = some (earl s o f g) := by
  unfold F16 G16 t16 earl
  rw [F18_eq 2000 (by omega) s (by omega) (by omega), Option.bind_some, chk_ne]
  by_cases hk : okS s = true
  · rw [hk, if_neg (by simp)]
    by_cases c1 : o < 0
    · rw [if_pos (decide_eq_true c1), if_neg (by omega)]
    rw [if_neg (by simpa using c1)]
    by_cases c2 : o > s.1
    · rw [if_pos (decide_eq_true c2), if_neg (fun h => by have := h.2.2.1; simp only [El] at *; omega)]
    rw [if_neg (by simpa using c2)]
    by_cases c3 : f < 0
    · rw [if_pos (decide_eq_true c3), if_neg (by omega)]
    rw [if_neg (by simpa using c3)]
    by_cases c4 : f > 1099511627776
    · rw [if_pos (decide_eq_true c4), if_neg (by omega)]
    rw [if_neg (by simpa using c4)]
    by_cases c5 : g < 1
    · rw [if_pos (decide_eq_true c5), if_neg (by omega)]
    rw [if_neg (by simpa using c5)]
    by_cases c6 : g > 1099511627776
    · rw [if_pos (decide_eq_true c6), if_neg (by omega)]
    rw [if_neg (by simpa using c6)]
    have ho : o ≤ s.1 := by simp only [El] at *; omega
    rw [if_pos ⟨rfl, by omega, ho, by omega, by omega, by omega, by omega⟩, F30_eq hf ⟨oks_of hk, by omega, ho, by omega, by omega, by omega, by omega⟩]
    rfl
  · rw [if_pos (by simpa using hk), if_neg (fun h => hk h.1)]
theorem F17_eq {s : Sc} (hf : List.length s.2.1 ≤ 1200) (o f g : Int) : F17 2000 s o f g = some (earl s o f g) := by
  unfold F17 G17 t17 earl
  rw [F21_eq 2000 (by omega) s (by omega) (by omega), Option.bind_some, chk_ne]
  by_cases hk : okS s = true
  · rw [hk, if_neg (by simp)]
    by_cases c1 : o < 0
    · rw [if_pos (decide_eq_true c1), if_neg (by omega)]
    rw [if_neg (by simpa using c1)]
    by_cases c2 : o > s.1
    · rw [if_pos (decide_eq_true c2), if_neg (fun h => by have := h.2.2.1; simp only [El] at *; omega)]
    rw [if_neg (by simpa using c2)]
    by_cases c3 : f < 0
    · rw [if_pos (decide_eq_true c3), if_neg (by omega)]
    rw [if_neg (by simpa using c3)]
    by_cases c4 : f > 1099511627776
    · rw [if_pos (decide_eq_true c4), if_neg (by omega)]
    rw [if_neg (by simpa using c4)]
    by_cases c5 : g < 1
    · rw [if_pos (decide_eq_true c5), if_neg (by omega)]
    rw [if_neg (by simpa using c5)]
    by_cases c6 : g > 1099511627776
    · rw [if_pos (decide_eq_true c6), if_neg (by omega)]
    rw [if_neg (by simpa using c6)]
    have ho : o ≤ s.1 := by simp only [El] at *; omega
    rw [if_pos ⟨rfl, by omega, ho, by omega, by omega, by omega, by omega⟩, F31_eq hf ⟨oks_of hk, by omega, ho, by omega, by omega, by omega, by omega⟩]
    rfl
  · rw [if_pos (by simpa using hk), if_neg (fun h => hk h.1)]
theorem backfillEarliest (s : Sc) (o f g : Int) (_ : Gd T25 s) (_ : (Lit.int .i64 o).wf = true) (_ : (Lit.int .i64 f).wf = true) (_ : (Lit.int .i64 g).wf = true) : F4 2000 s o f g = some true := by
  unfold F4 G4 t4
  obtain ⟨m, hm, hm'⟩ := F9_eq 2000 s []
  rw [hm, Option.bind_some]
  cases m with
  | true => rw [if_pos rfl, known_eq]; rfl
  | false =>
    obtain ⟨a1, a2, _⟩ := hm' rfl
    rw [if_neg Bool.false_ne_true, F16_eq (by omega), Option.bind_some, F17_eq (by omega), Option.bind_some, if_pos (by simp), if_pos (by simp), if_pos (by simp), known_eq]
    rfl
end Go.Proofs.YtipfamkhplkpmaaE
