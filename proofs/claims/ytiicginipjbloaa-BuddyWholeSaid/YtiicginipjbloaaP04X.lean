/- Several texts, as one. -/
import Derived.Test.YtiicginipjbloaaPu0
import Derived.Test.YtiicginipjbloaaS04F8
set_option linter.all false
/- Buddy: aligned blocks of workers: which are all open, which of these are greatest; one more, one fewer. -/
namespace Go.Proofs.YtiicginipjbloaaE
set_option linter.unusedVariables false
abbrev Wk := Nat → Bool
def Full (U : Wk) (k q : Nat) : Prop := ∀ w, w / 2 ^ k = q → U w = true
def Max (n : Nat) (U : Wk) (k q : Nat) : Prop := Full U k q ∧ (k = n ∨ ¬ Full U (k + 1) (q / 2))
def addB (U : Wk) (j p : Nat) : Wk := fun w => U w || decide (w / 2 ^ j = p)
def subB (U : Wk) (j p : Nat) : Wk := fun w => U w && !decide (w / 2 ^ j = p)
theorem pos2 (k : Nat) : 0 < 2 ^ k := Nat.pow_pos (by decide)
theorem div_succ (w k : Nat) : w / 2 ^ (k + 1) = w / 2 ^ k / 2 := by rw [Nat.pow_succ, Nat.div_div_eq_div_mul]
theorem div_add' (w k d : Nat) : w / 2 ^ (k + d) = w / 2 ^ k / 2 ^ d := by rw [Nat.pow_add, Nat.div_div_eq_div_mul]
theorem div_le {w v k k' : Nat} (h : w / 2 ^ k = v / 2 ^ k) (hk : k ≤ k') : w / 2 ^ k' = v / 2 ^ k' := by
  obtain ⟨d, rfl⟩ := Nat.exists_eq_add_of_le hk
  rw [div_add', div_add', h]
theorem first_in (k q : Nat) : q * 2 ^ k / 2 ^ k = q := Nat.mul_div_cancel _ (pos2 k)
theorem Full.up {U : Wk} {k q : Nat} (h : Full U (k + 1) (q / 2)) : Full U k q := fun w hw => h w (by rw [div_succ, hw])
theorem Full.le {U : Wk} {k k' w : Nat} (h : Full U k' (w / 2 ^ k')) (hk : k ≤ k') : Full U k (w / 2 ^ k) := fun v hv => h v (div_le hv hk)
theorem Full.one {U : Wk} {k q : Nat} (h : Full U k q) : U (q * 2 ^ k) = true := h _ (first_in k q)
theorem add_le {U : Wk} {j p w : Nat} (h : U w = true) : addB U j p w = true := by simp [addB, h]
theorem add_in {U : Wk} {j p w : Nat} (h : w / 2 ^ j = p) : addB U j p w = true := by simp [addB, h]
theorem add_out {U : Wk} {j p w : Nat} (h : w / 2 ^ j ≠ p) : addB U j p w = U w := by simp [addB, h]
theorem Full.mono {U V : Wk} (hUV : ∀ w, U w = true → V w = true) {k q : Nat} (h : Full U k q) : Full V k q := fun w hw => hUV w (h w hw)
theorem xor_half (p : Nat) : (p ^^^ 1) / 2 = p / 2 := by
  have := Nat.xor_div_two (a := p) (b := 1)
  simpa using this
theorem xor_ne (p : Nat) : p ^^^ 1 ≠ p := by
  intro h
  have := congrArg (fun x => p ^^^ x) h
  simp only [← Nat.xor_assoc, Nat.xor_self, Nat.zero_xor] at this
  exact absurd this (by decide)
theorem max_add {n : Nat} {U : Wk} {j p : Nat} (hd : ∀ w, w / 2 ^ j = p → U w = false) (hb : j = n ∨ ¬ Full U j (p ^^^ 1)) (hj : j ≤ n) {k q : Nat} (hk : k ≤ n) :
    Max n (addB U j p) k q ↔ Max n U k q ∨ (k = j ∧ q = p) := by
  have F1 : j ≠ n → ¬ Full (addB U j p) (j + 1) (p / 2) := by
    intro hjn hF
    refine (hb.resolve_left hjn) fun w hw => ?_
    have := hF w (by rw [div_succ, hw, xor_half])
    rw [add_out (by rw [hw]; exact xor_ne p)] at this
    exact this
  have FU : j ≠ n → ∀ {k w : Nat}, j < k → w / 2 ^ j = p → ¬ Full (addB U j p) k (w / 2 ^ k) := by
    intro hjn k w hk hw hF
    refine F1 hjn ?_
    have := Full.le (k := j + 1) hF (by omega)
    rwa [div_succ, hw] at this
  constructor
  · rintro ⟨h1, h2⟩
    by_cases hm : ∃ w, w / 2 ^ k = q ∧ w / 2 ^ j = p
    · obtain ⟨w, hw, hwp⟩ := hm
      rcases Nat.lt_trichotomy k j with hkj | hkj | hkj
      · exfalso
        refine (h2.resolve_left (by omega)) fun v hv => add_in ?_
        have : v / 2 ^ (k + 1) = w / 2 ^ (k + 1) := by rw [hv, div_succ, hw]
        rw [div_le this hkj, hwp]
      · subst hkj
        exact .inr ⟨rfl, hw.symm.trans hwp⟩
      · exfalso
        have := FU (by omega) hkj hwp
        rw [hw] at this
        exact this h1
    · have hout : ∀ w, w / 2 ^ k = q → addB U j p w = U w := fun w hw => add_out fun h => hm ⟨w, hw, h⟩
      exact .inl ⟨fun w hw => (hout w hw).symm.trans (h1 w hw), h2.imp id fun h hF => h (hF.mono fun w => add_le)⟩
  · rintro (⟨h1, h2⟩ | ⟨rfl, rfl⟩)
    · refine ⟨h1.mono fun w => add_le, ?_⟩
      rcases h2 with h2 | h2
      · exact .inl h2
      · by_cases hkn : k = n
        · exact .inl hkn
        refine .inr fun hF => ?_
        by_cases hm : ∃ w, w / 2 ^ (k + 1) = q / 2 ∧ w / 2 ^ j = p
        · obtain ⟨w, hw, hwp⟩ := hm
          by_cases hkj : k + 1 ≤ j
          · have e1 : q * 2 ^ k / 2 ^ (k + 1) = w / 2 ^ (k + 1) := by rw [hw, div_succ, first_in]
            have := hd _ ((div_le e1 hkj).trans hwp)
            rw [h1.one] at this
            cases this
          · have := FU (by omega) (show j < k + 1 by omega) hwp
            rw [hw] at this
            exact this hF
        · exact h2 fun w hw => by
            rw [← add_out (U := U) (j := j) (p := p) (fun h => hm ⟨w, hw, h⟩)]
            exact hF w hw
    · exact ⟨fun w hw => add_in hw, (Decidable.em (k = n)).imp id F1⟩
theorem sub_add {U : Wk} {j p : Nat} (h : Full U j p) : addB (subB U j p) j p = U := by
  funext w
  simp only [addB, subB]
  by_cases c : w / 2 ^ j = p
  · simp [c, h w c]
  · simp [c]
theorem sub_out {U : Wk} {j p : Nat} : ∀ w, w / 2 ^ j = p → subB U j p w = false := fun w hw => by simp [subB, hw]
theorem add_sub {U : Wk} {j p : Nat} (hd : ∀ w, w / 2 ^ j = p → U w = false) : subB (addB U j p) j p = U := by
  funext w
  simp only [addB, subB]
  by_cases c : w / 2 ^ j = p
  · simp [c, hd w c]
  · simp [c]
theorem max_sub {n : Nat} {U : Wk} {j p : Nat} (hm : Max n U j p) (hj : j ≤ n) {k q : Nat} (hk : k ≤ n) : Max n (subB U j p) k q ↔ Max n U k q ∧ ¬ (k = j ∧ q = p) := by
  have hb : j = n ∨ ¬ Full (subB U j p) j (p ^^^ 1) := by
    rcases hm.2 with h | h
    · exact .inl h
    · refine .inr fun hF => h fun w hw => ?_
      by_cases c : w / 2 ^ j = p
      · exact hm.1 w c
      · have e : w / 2 ^ j = p ^^^ 1 := by
          rw [div_succ] at hw
          have h1 := Nat.div_add_mod (w / 2 ^ j) 2
          have h2 := Nat.div_add_mod p 2
          have h3 := Nat.div_add_mod (p ^^^ 1) 2
          have h4 := xor_half p
          have h5 := xor_ne p
          omega
        have := hF w e
        simp only [subB, Bool.and_eq_true] at this
        exact this.1
  have := max_add (n := n) (U := subB U j p) sub_out hb hj (k := k) (q := q) hk
  rw [sub_add hm.1] at this
  rw [this]
  constructor
  · intro h
    refine ⟨.inl h, ?_⟩
    rintro ⟨rfl, rfl⟩
    have := h.1.one
    rw [sub_out _ (first_in _ _)] at this
    cases this
  · rintro ⟨h | h, h'⟩
    · exact h
    · exact absurd h h'
theorem max_buddy {n : Nat} {U : Wk} {j p : Nat} (hd : ∀ w, w / 2 ^ j = p → U w = false) (h : Full U j (p ^^^ 1)) : Max n U j (p ^^^ 1) := by
  refine ⟨h, .inr fun hF => ?_⟩
  have := hF (p * 2 ^ j) (by rw [div_succ, first_in, xor_half])
  rw [hd _ (first_in j p)] at this
  cases this
theorem pair_iff {w j p : Nat} : w / 2 ^ (j + 1) = p / 2 ↔ w / 2 ^ j = p ∨ w / 2 ^ j = p ^^^ 1 := by
  rw [div_succ]
  have h1 := Nat.div_add_mod (w / 2 ^ j) 2
  have h2 := Nat.div_add_mod p 2
  have h3 := Nat.div_add_mod (p ^^^ 1) 2
  have h4 := xor_half p
  have h5 := xor_ne p
  omega
theorem add_pair {U : Wk} {j p : Nat} (h : Full U j (p ^^^ 1)) : addB (subB U j (p ^^^ 1)) (j + 1) (p / 2) = addB U j p := by
  funext w
  have := pair_iff (w := w) (j := j) (p := p)
  simp only [addB, subB]
  by_cases c : w / 2 ^ j = p
  · simp [this.2 (.inl c), c]
  · by_cases c2 : w / 2 ^ j = p ^^^ 1
    · simp [this.2 (.inr c2), c2, h w c2]
    · have : ¬ w / 2 ^ (j + 1) = p / 2 := fun h => (this.1 h).elim c c2
      simp [this, c, c2]
theorem max_over {n : Nat} {U : Wk} : ∀ (d k q : Nat), k + d = n → Full U k q → ∃ o, k ≤ o ∧ o ≤ n ∧ Max n U o (q / 2 ^ (o - k)) ∧ ∀ i, k ≤ i → i < o → ¬ Max n U i (q / 2 ^ (i - k))
  | 0, k, q, hk, h => by
    refine ⟨k, Nat.le_refl _, by omega, ?_, fun i h1 h2 => by omega⟩
    simp only [Nat.sub_self, Nat.pow_zero, Nat.div_one]
    exact ⟨h, .inl (by omega)⟩
  | d + 1, k, q, hk, h => by
    by_cases c : Full U (k + 1) (q / 2)
    · obtain ⟨o, h1, h2, h3, h4⟩ := max_over (n := n) d (k + 1) (q / 2) (by omega) c
      have e : ∀ i, k + 1 ≤ i → q / 2 / 2 ^ (i - (k + 1)) = q / 2 ^ (i - k) := fun i hi => by
        rw [Nat.div_div_eq_div_mul, ← Nat.pow_succ']
        congr 2
        omega
      refine ⟨o, by omega, h2, by rw [← e o h1]; exact h3, fun i g1 g2 => ?_⟩
      by_cases ei : i = k
      · subst ei
        simp only [Nat.sub_self, Nat.pow_zero, Nat.div_one]
        rintro ⟨_, g⟩
        rcases g with g | g
        · omega
        · exact g c
      · rw [← e i (by omega)]
        exact h4 i (by omega) g2
    · refine ⟨k, Nat.le_refl _, by omega, ?_, fun i h1 h2 => by omega⟩
      simp only [Nat.sub_self, Nat.pow_zero, Nat.div_one]
      exact ⟨h, .inr c⟩
theorem full_of_over {U : Wk} {k o q : Nat} (hk : k ≤ o) (h : Full U o (q / 2 ^ (o - k))) : Full U k q := fun w hw => h w (by
  obtain ⟨d, rfl⟩ := Nat.exists_eq_add_of_le hk
  rw [div_add', hw]
  congr 2
  omega)
end Go.Proofs.YtiicginipjbloaaE
/- Buddy: rows that rise by a key: where one lies, one more, one fewer; the functions that search, insert and delete. -/
namespace Go.Proofs.YtiicginipjbloaaE
open Go Go.Proofs
set_option maxRecDepth 100000
set_option linter.unusedVariables false
section
variable {α : Type} (key : α → Int)
def posK (l : List α) (x : Int) : Nat := (l.takeWhile fun a => decide (key a < x)).length
def IncK (l : List α) : Prop := l.Pairwise fun a b => key a < key b
def insK (a : α) : List α → List α
  | [] => [a]
  | b :: l => if key b < key a then b :: insK a l else a :: b :: l
def delK (x : Int) : List α → List α
  | [] => []
  | b :: l => if key b < x then b :: delK x l else l
variable {key}
theorem posK_le (l : List α) (x : Int) : posK key l x ≤ l.length := (List.takeWhile_sublist _).length_le
theorem posK_cons_lt {a : α} {l : List α} {x : Int} (h : key a < x) : posK key (a :: l) x = posK key l x + 1 := by
  unfold posK
  rw [List.takeWhile_cons, if_pos (by simpa using h)]
  rfl
theorem posK_cons_ge {a : α} {l : List α} {x : Int} (h : ¬ key a < x) : posK key (a :: l) x = 0 := by
  unfold posK
  rw [List.takeWhile_cons, if_neg (by simpa using h)]
  rfl
theorem insK_eq (a : α) : ∀ l : List α, l.take (posK key l (key a)) ++ [a] ++ l.drop (posK key l (key a)) = insK key a l
  | [] => rfl
  | b :: l => by
    unfold insK
    split
    · rename_i h
      rw [posK_cons_lt h, ← insK_eq a l]
      rfl
    · rename_i h
      rw [posK_cons_ge h]
      rfl
theorem delK_eq (x : Int) : ∀ l : List α, l.take (posK key l x) ++ l.drop (posK key l x + 1) = delK key x l
  | [] => by simp [delK]
  | b :: l => by
    unfold delK
    split
    · rename_i h
      rw [posK_cons_lt h, ← delK_eq x l]
      rfl
    · rename_i h
      rw [posK_cons_ge h]
      rfl
theorem getK {z : α} {x : Int} : ∀ {l : List α}, IncK key l → ∀ i, i < l.length → (key (l.getD i z) < x ↔ i < posK key l x)
  | [], h, i, hi => by cases hi
  | a :: l, h, i, hi => by
    unfold IncK at h
    rw [List.pairwise_cons] at h
    by_cases c : key a < x
    · rw [posK_cons_lt c]
      cases i with
      | zero => simpa using c
      | succ i =>
        have := getK (z := z) (x := x) h.2 i (by simpa using hi)
        rw [List.getD_cons_succ, this]
        omega
    · rw [posK_cons_ge c]
      cases i with
      | zero => simpa using c
      | succ i =>
        have hi : i < l.length := by simpa using hi
        rw [List.getD_cons_succ, getD_lt hi]
        have := h.1 l[i] (List.getElem_mem hi)
        omega
theorem foundK {z : α} {x : Int} : ∀ {l : List α}, IncK key l → (x ∈ l.map key ↔ posK key l x < l.length ∧ key (l.getD (posK key l x) z) = x)
  | [], h => by simp
  | a :: l, h => by
    unfold IncK at h
    rw [List.pairwise_cons] at h
    by_cases c : key a < x
    · rw [posK_cons_lt c, List.getD_cons_succ, List.map_cons, List.mem_cons, foundK (z := z) h.2]
      constructor
      · rintro (h | h)
        · omega
        · exact ⟨by simpa using h.1, h.2⟩
      · intro h
        exact .inr ⟨by simpa using h.1, h.2⟩
    · rw [posK_cons_ge c, List.getD_cons_zero, List.map_cons, List.mem_cons]
      constructor
      · rintro (h1 | h1)
        · exact ⟨by simp, h1.symm⟩
        · obtain ⟨b, hb, rfl⟩ := List.mem_map.1 h1
          exact absurd (h.1 b hb) c
      · intro h
        exact .inl h.2.symm
theorem mem_insK {a b : α} : ∀ {l : List α}, b ∈ insK key a l ↔ b = a ∨ b ∈ l
  | [] => by simp [insK]
  | c :: l => by
    unfold insK
    split
    · rw [List.mem_cons, mem_insK, List.mem_cons]
      constructor
      · rintro (h | h | h)
        · exact .inr (.inl h)
        · exact .inl h
        · exact .inr (.inr h)
      · rintro (h | h | h)
        · exact .inr (.inl h)
        · exact .inl h
        · exact .inr (.inr h)
    · simp
theorem mem_delK {x : Int} {b : α} : ∀ {l : List α}, IncK key l → x ∈ l.map key → (b ∈ delK key x l ↔ b ∈ l ∧ key b ≠ x)
  | [], h, hx => by cases hx
  | a :: l, h, hx => by
    unfold IncK at h
    rw [List.pairwise_cons] at h
    unfold delK
    split
    · rename_i c
      have hx : x ∈ l.map key := by
        rcases List.mem_cons.1 hx with e | hx
        · omega
        · exact hx
      rw [List.mem_cons, mem_delK h.2 hx, List.mem_cons]
      constructor
      · rintro (rfl | h)
        · exact ⟨.inl rfl, by omega⟩
        · exact ⟨.inr h.1, h.2⟩
      · rintro ⟨h1 | h1, h2⟩
        · exact .inl h1
        · exact .inr ⟨h1, h2⟩
    · rename_i c
      have hax : key a = x := by
        rcases List.mem_cons.1 hx with e | hx
        · exact e.symm
        · obtain ⟨b, hb, rfl⟩ := List.mem_map.1 hx
          exact absurd (h.1 b hb) c
      constructor
      · intro hb
        have := h.1 b hb
        exact ⟨List.mem_cons_of_mem _ hb, by omega⟩
      · rintro ⟨h1, h2⟩
        rcases List.mem_cons.1 h1 with rfl | h1
        · exact absurd hax h2
        · exact h1
theorem incK_insK {a : α} : ∀ {l : List α}, IncK key l → ¬ key a ∈ l.map key → IncK key (insK key a l)
  | [], h, hx => by simp [insK, IncK]
  | b :: l, h, hx => by
    unfold IncK at h ⊢
    rw [List.pairwise_cons] at h
    rw [List.map_cons, List.mem_cons, not_or] at hx
    unfold insK
    split
    · rename_i c
      refine List.pairwise_cons.2 ⟨fun d hd => ?_, incK_insK h.2 hx.2⟩
      rcases mem_insK.1 hd with rfl | hd
      · exact c
      · exact h.1 d hd
    · rename_i c
      refine List.pairwise_cons.2 ⟨fun d hd => ?_, List.pairwise_cons.2 h⟩
      rcases List.mem_cons.1 hd with rfl | hd
      · omega
      · have := h.1 d hd
        omega
theorem delK_sub {x : Int} : ∀ {l : List α}, (delK key x l).Sublist l
  | [] => .slnil
  | a :: l => by
    unfold delK
    split
    · exact delK_sub.cons₂ a
    · exact List.sublist_cons_self a l
theorem incK_delK {x : Int} {l : List α} (h : IncK key l) : IncK key (delK key x l) := List.Pairwise.sublist delK_sub h
theorem insK_len {a : α} : ∀ {l : List α}, (insK key a l).length = l.length + 1
  | [] => rfl
  | b :: l => by
    unfold insK
    split
    · simp [insK_len]
    · rfl
theorem incK_ext {l m : List α} (hl : IncK key l) (hm : IncK key m) (h : ∀ a, a ∈ l ↔ a ∈ m) : l = m := by
  have hn : ∀ {l : List α}, IncK key l → l.Nodup := fun h => List.Pairwise.imp (fun {a b} hab e => by subst e; exact Int.lt_irrefl _ hab) h
  refine List.Perm.eq_of_pairwise (fun a b _ _ h1 h2 => ?_) hl hm ((List.perm_ext_iff_of_nodup (hn hl) (hn hm)).2 h)
  have h1 : key a < key b := h1
  have h2 : key b < key a := h2
  omega
theorem delK_insK {a : α} : ∀ {l : List α}, ¬ key a ∈ l.map key → delK key (key a) (insK key a l) = l
  | [], h => by simp [insK, delK]
  | b :: l, h => by
    rw [List.map_cons, List.mem_cons, not_or] at h
    unfold insK
    split
    · rename_i c
      unfold delK
      rw [if_pos c, delK_insK h.2]
    · unfold delK
      rw [if_neg (by omega)]
end
abbrev idI : Int → Int := fun x => x
abbrev Inc (l : List Int) : Prop := IncK idI l
theorem F71_eq (K : Nat) (x y : Int) : F71 K x y = some (decide (x < y)) := by
  simp [F71, G71, t71, F66, G66, t66]
theorem F72_eq (K : Nat) (x : Int) : F72 K x = some false := by
  simp [F72, G72, t72]
theorem half {i j : Nat} (h : i + j ≤ 1000000) : IntKind.i64.wrap ((IntKind.u64.wrap (IntKind.i64.wrap ((i : Int) + (j : Int)))).fdiv ((2 : Int) ^ min (Int.toNat (1 : Int)) IntKind.u64.bits)) = (((i + j) / 2 : Nat) : Int) := by
  have e1 : IntKind.i64.wrap ((i : Int) + (j : Int)) = ((i + j : Nat) : Int) := by rw [i64_in (by omega) (by omega)]; omega
  have e2 : IntKind.u64.wrap ((i + j : Nat) : Int) = ((i + j : Nat) : Int) := u64_in (by omega) (by omega)
  have e3 : ((2 : Int) ^ min (Int.toNat (1 : Int)) IntKind.u64.bits) = 2 := by decide
  rw [e1, e2, e3, Int.fdiv_eq_ediv_of_nonneg _ (by omega), i64_in (by omega) (by omega)]
  omega
theorem L50_eq (K : Nat) (l : List Int) (x : Int) (hl : l.length ≤ 100000) (hs : Inc l) : ∀ (n i j : Nat), j - i < n → i ≤ posK idI l x → posK idI l x ≤ j → j ≤ l.length →
    L50_0 (F71 K) (F72 K) K l x n (i : Int) (j : Int) = some ((posK idI l x : Int), decide (x ∈ l))
  | 0, i, j, h, _, _, _ => by omega
  | n + 1, i, j, h, h1, h2, h3 => by
    simp only [L50_0, b50_0]
    by_cases c : i < j
    · rw [if_pos (decide_eq_true (show (i : Int) < (j : Int) by omega)), half (by omega)]
      have hm : (i + j) / 2 < j ∧ i ≤ (i + j) / 2 := by omega
      generalize (i + j) / 2 = m at hm
      have em : IntKind.i64.wrap ((m : Int) + 1) = ((m + 1 : Nat) : Int) := by rw [i64_in (by omega) (by omega)]; omega
      rw [if_pos (decide_eq_true (by omega)), F71_eq, Option.bind_some, em, Int.toNat_natCast]
      have hg : (l.getD m (zEl (Ty.int IntKind.i64)) < x) ↔ m < posK idI l x := getK (key := idI) hs m (by omega)
      by_cases c2 : m < posK idI l x
      · rw [if_pos (decide_eq_true (hg.2 c2))]
        exact L50_eq K l x hl hs n (m + 1) j (by omega) (by omega) h2 h3
      · rw [if_neg (by simp only [decide_eq_true_eq]; exact fun h => c2 (hg.1 h))]
        exact L50_eq K l x hl hs n i m (by omega) h1 (by omega) (by omega)
    · have hi : i = posK idI l x := by omega
      have hf : x ∈ l ↔ posK idI l x < l.length ∧ l.getD (posK idI l x) (zEl (Ty.int IntKind.i64)) = x := by
        have := foundK (key := idI) (z := zEl (Ty.int IntKind.i64)) (x := x) hs
        simpa using this
      rw [if_neg (by simp; omega), ← hi] at *
      by_cases c2 : i < l.length
      · rw [if_pos (decide_eq_true (by omega)), if_pos (decide_eq_true (by omega)), Int.toNat_natCast]
        by_cases c3 : l.getD i (zEl (Ty.int IntKind.i64)) = x
        · rw [if_pos (by simpa using c3), decide_eq_true (hf.2 ⟨c2, c3⟩)]
        · rw [if_neg (by simpa using c3), if_pos (decide_eq_true (by omega)), F72_eq, Option.bind_some, if_neg Bool.false_ne_true, decide_eq_false (fun h => c3 (hf.1 h).2)]
      · rw [if_neg (by simp; omega), decide_eq_false (fun h => c2 (hf.1 h).1)]
theorem F50_eq (K : Nat) (l : List Int) (x : Int) (hl : l.length ≤ 100000) (hK : l.length < K) (hs : Inc l) : F50 K l x = some ((posK idI l x : Int), decide (x ∈ l)) :=
  L50_eq K l x hl hs K 0 l.length (by omega) (Nat.zero_le _) (posK_le l x) (Nat.le_refl _)
theorem F51_eq (K : Nat) (l : List Int) (x : Int) (hl : l.length ≤ 100000) : F51 K ((posK idI l x : Int), [x]) l = some (insK idI x l) := by
  have := posK_le (key := idI) l x
  unfold F51
  dsimp only
  rw [if_pos ⟨by omega, by omega, by simp, by simp; omega⟩, Int.toNat_natCast]
  exact congrArg some (insK_eq (key := idI) x l)
theorem F53_eq (K : Nat) (l : List Int) (x : Int) (hl : l.length ≤ 100000) (h : posK idI l x < l.length) : F53 K ((posK idI l x : Int), IntKind.i64.wrap ((posK idI l x : Int) + 1)) l = some (delK idI x l) := by
  have e1 : IntKind.i64.wrap ((posK idI l x : Int) + 1) = ((posK idI l x + 1 : Nat) : Int) := by rw [i64_in (by omega) (by omega)]; omega
  unfold F53
  dsimp only
  rw [e1, if_pos ⟨by omega, by omega, by omega⟩, Int.toNat_natCast, Int.toNat_natCast]
  exact congrArg some (delK_eq (key := idI) x l)
theorem F63_eq (K : Nat) (k : Nat) (hk : k ≤ 30) : F63 K (k : Int) = some ((2 ^ k : Nat) : Int) := by
  unfold F63 G63 t63
  rw [if_pos (decide_eq_true (by omega)), Int.toNat_natCast]
  have e : min k IntKind.i64.bits = k := by
    show min k 64 = k
    omega
  have hp : 2 ^ k ≤ 1073741824 := Nat.pow_le_pow_right (n := 2) (by decide) hk
  have e2 : (2 : Int) ^ k = ((2 ^ k : Nat) : Int) := by simp
  have h1 : ((2 ^ k : Nat) : Int) ≤ 1073741824 := Int.ofNat_le.2 hp
  have h0 : (0 : Int) ≤ ((2 ^ k : Nat) : Int) := Int.natCast_nonneg _
  rw [e, Int.one_mul, e2, i64_in (Int.le_trans (by decide) h0) (Int.le_trans h1 (by decide))]
end Go.Proofs.YtiicginipjbloaaE
/- Buddy: what the yard's rows hold; a block more, a block fewer. -/
namespace Go.Proofs.YtiicginipjbloaaE
open Go Go.Proofs
set_option maxRecDepth 100000
set_option linter.unusedVariables false
abbrev Yard := Int × (List Int × (List Int × (List Int × (List Int × (List Int × (List Int × (List Int × (List Int × (List Int × (List Int × (List Int × (List (El T29) × (List Int)))))))))))))
def frY (y : Yard) : Nat → List Int
  | 0 => y.2.1
  | 1 => y.2.2.1
  | 2 => y.2.2.2.1
  | 3 => y.2.2.2.2.1
  | 4 => y.2.2.2.2.2.1
  | 5 => y.2.2.2.2.2.2.1
  | 6 => y.2.2.2.2.2.2.2.1
  | 7 => y.2.2.2.2.2.2.2.2.1
  | 8 => y.2.2.2.2.2.2.2.2.2.1
  | 9 => y.2.2.2.2.2.2.2.2.2.2.1
  | 10 => y.2.2.2.2.2.2.2.2.2.2.2.1
  | _ => []
abbrev tkY (y : Yard) : List Bk := y.2.2.2.2.2.2.2.2.2.2.2.2.1
abbrev flY (y : Yard) : List Int := y.2.2.2.2.2.2.2.2.2.2.2.2.2
def setY (y : Yard) : Nat → List Int → Yard
  | 0, l => (y.1, l, y.2.2)
  | 1, l => (y.1, y.2.1, l, y.2.2.2)
  | 2, l => (y.1, y.2.1, y.2.2.1, l, y.2.2.2.2)
  | 3, l => (y.1, y.2.1, y.2.2.1, y.2.2.2.1, l, y.2.2.2.2.2)
  | 4, l => (y.1, y.2.1, y.2.2.1, y.2.2.2.1, y.2.2.2.2.1, l, y.2.2.2.2.2.2)
  | 5, l => (y.1, y.2.1, y.2.2.1, y.2.2.2.1, y.2.2.2.2.1, y.2.2.2.2.2.1, l, y.2.2.2.2.2.2.2)
  | 6, l => (y.1, y.2.1, y.2.2.1, y.2.2.2.1, y.2.2.2.2.1, y.2.2.2.2.2.1, y.2.2.2.2.2.2.1, l, y.2.2.2.2.2.2.2.2)
  | _, _ => y
theorem frY_set (y : Yard) (l : List Int) : ∀ j, j ≤ 6 → ∀ k, frY (setY y j l) k = if k = j then l else frY y k := by
  intro j hj k
  have : j = 0 ∨ j = 1 ∨ j = 2 ∨ j = 3 ∨ j = 4 ∨ j = 5 ∨ j = 6 := by omega
  rcases this with rfl | rfl | rfl | rfl | rfl | rfl | rfl <;> rcases k with _ | _ | _ | _ | _ | _ | _ | _ | _ | _ | _ | k <;> first | rfl | (rw [if_neg (by omega)]; rfl)
theorem setY_ord (y : Yard) (j : Nat) (l : List Int) : (setY y j l).1 = y.1 := by unfold setY; split <;> rfl
theorem setY_tk (y : Yard) (j : Nat) (l : List Int) : tkY (setY y j l) = tkY y := by unfold setY; split <;> rfl
theorem setY_fl (y : Yard) (j : Nat) (l : List Int) : flY (setY y j l) = flY y := by unfold setY; split <;> rfl
structure IsL (n : Nat) (U : Wk) (k : Nat) (l : List Int) : Prop where
  inc : Inc l
  mem : ∀ x : Int, x ∈ l ↔ ∃ q : Nat, x = ((q * 2 ^ k : Nat) : Int) ∧ Max n U k q
structure Rep (n : Nat) (U : Wk) (y : Yard) : Prop where
  ord : y.1 = (n : Int)
  le : n ≤ 6
  lim : ∀ w, U w = true → w < 2 ^ n
  row : ∀ k, k ≤ n → IsL n U k (frY y k)
  nil : ∀ k, n < k → frY y k = []
theorem inc_len {b : Int} : ∀ {l : List Int} {a : Int}, Inc l → (∀ x ∈ l, a ≤ x ∧ x < b) → a ≤ b → (l.length : Int) ≤ b - a
  | [], a, h, hb, hab => by simp; omega
  | x :: l, a, h, hb, hab => by
    have h' := List.pairwise_cons.1 h
    have hx := hb x (by simp)
    have := inc_len (a := x + 1) (b := b) h'.2 (fun y hy => by
      have h1 : x < y := h'.1 y hy
      have := (hb y (List.mem_cons_of_mem _ hy)).2
      omega) (by omega)
    simp only [List.length_cons]
    omega
theorem lim_q {n : Nat} {U : Wk} (hl : ∀ w, U w = true → w < 2 ^ n) {k q : Nat} (h : Full U k q) : q * 2 ^ k < 2 ^ n := hl _ h.one
theorem IsL.len {n : Nat} {U : Wk} {k : Nat} {l : List Int} (h : IsL n U k l) (hl : ∀ w, U w = true → w < 2 ^ n) (hn : n ≤ 6) : l.length ≤ 64 := by
  have hp : 2 ^ n ≤ 2 ^ 6 := Nat.pow_le_pow_right (by decide) hn
  have := inc_len (a := 0) (b := 64) h.inc (fun x hx => by
    obtain ⟨q, rfl, hq⟩ := (h.mem x).1 hx
    have := lim_q hl hq.1
    have hp : 2 ^ n ≤ 64 := hp
    exact ⟨Int.natCast_nonneg _, by omega⟩) (by decide)
  omega
theorem mul_inj {p q k : Nat} (h : p * 2 ^ k = q * 2 ^ k) : p = q := Nat.eq_of_mul_eq_mul_right (pos2 k) h
theorem IsL.mem' {n : Nat} {U : Wk} {k : Nat} {l : List Int} (h : IsL n U k l) (q : Nat) : ((q * 2 ^ k : Nat) : Int) ∈ l ↔ Max n U k q := by
  rw [h.mem]
  constructor
  · rintro ⟨p, h1, h2⟩
    rwa [mul_inj (Int.ofNat.inj h1)]
  · intro h2
    exact ⟨q, rfl, h2⟩
theorem lim_add {n : Nat} {U : Wk} (hl : ∀ w, U w = true → w < 2 ^ n) {j p : Nat} (hj : j ≤ n) (hp : p < 2 ^ (n - j)) : ∀ w, addB U j p w = true → w < 2 ^ n := by
  intro w hw
  by_cases c : w / 2 ^ j = p
  · have h1 := Nat.div_lt_iff_lt_mul (x := w) (y := 2 ^ (n - j)) (pos2 j)
    rw [c, ← Nat.pow_add, Nat.sub_add_cancel hj] at h1
    exact h1.1 hp
  · rw [add_out c] at hw
    exact hl w hw
theorem lim_sub {n : Nat} {U : Wk} (hl : ∀ w, U w = true → w < 2 ^ n) {j p : Nat} : ∀ w, subB U j p w = true → w < 2 ^ n := by
  intro w hw
  simp only [subB, Bool.and_eq_true] at hw
  exact hl w hw.1
theorem Rep.set {n : Nat} {U V : Wk} {y : Yard} (h : Rep n U y) {j : Nat} {l : List Int} (hj : j ≤ n) (hl : IsL n V j l) (hlim : ∀ w, V w = true → w < 2 ^ n) (ho : ∀ k q, k ≤ n → k ≠ j → (Max n V k q ↔ Max n U k q)) : Rep n V (setY y j l) := by
  have hle := h.le
  have hs := frY_set y l j (by omega)
  refine ⟨(setY_ord y j l).trans h.ord, h.le, hlim, fun k hk => ?_, fun k hk => ?_⟩
  · rw [hs]
    by_cases c : k = j
    · subst c
      rw [if_pos rfl]; exact hl
    · rw [if_neg c]
      have := h.row k hk
      refine ⟨this.inc, fun x => ?_⟩
      rw [this.mem]
      exact ⟨fun ⟨q, a, b⟩ => ⟨q, a, (ho k q hk c).2 b⟩, fun ⟨q, a, b⟩ => ⟨q, a, (ho k q hk c).1 b⟩⟩
  · rw [hs, if_neg (by omega)]
    exact h.nil k hk
theorem Rep.put {n : Nat} {U : Wk} {y : Yard} (h : Rep n U y) {j p : Nat} (hj : j ≤ n) (hp : p < 2 ^ (n - j)) (hd : ∀ w, w / 2 ^ j = p → U w = false) (hb : j = n ∨ ¬ Full U j (p ^^^ 1)) :
    Rep n (addB U j p) (setY y j (insK idI ((p * 2 ^ j : Nat) : Int) (frY y j))) := by
  have hr := h.row j hj
  have hno : ¬ ((p * 2 ^ j : Nat) : Int) ∈ frY y j := fun hm => by
    have := ((hr.mem' p).1 hm).1.one
    rw [hd _ (first_in j p)] at this
    cases this
  refine h.set hj ⟨incK_insK hr.inc (by simpa using hno), fun x => ?_⟩ (lim_add h.lim hj hp) fun k q hk hkj => ?_
  · rw [mem_insK, hr.mem]
    constructor
    · rintro (rfl | ⟨q, rfl, hq⟩)
      · exact ⟨p, rfl, (max_add hd hb hj hj).2 (.inr ⟨rfl, rfl⟩)⟩
      · exact ⟨q, rfl, (max_add hd hb hj hj).2 (.inl hq)⟩
    · rintro ⟨q, rfl, hq⟩
      rcases (max_add hd hb hj hj).1 hq with hq | ⟨_, rfl⟩
      · exact .inr ⟨q, rfl, hq⟩
      · exact .inl rfl
  · rw [max_add hd hb hj hk]
    exact ⟨fun h => h.resolve_right fun h => hkj h.1, .inl⟩
theorem Rep.cut {n : Nat} {U : Wk} {y : Yard} (h : Rep n U y) {j p : Nat} (hj : j ≤ n) (hm : Max n U j p) :
    Rep n (subB U j p) (setY y j (delK idI ((p * 2 ^ j : Nat) : Int) (frY y j))) := by
  have hr := h.row j hj
  have hmem := (hr.mem' p).2 hm
  refine h.set hj ⟨incK_delK hr.inc, fun x => ?_⟩ (lim_sub h.lim) fun k q hk hkj => ?_
  · rw [mem_delK hr.inc (by simpa using hmem), hr.mem]
    constructor
    · rintro ⟨⟨q, rfl, hq⟩, hne⟩
      exact ⟨q, rfl, (max_sub hm hj hj).2 ⟨hq, fun h => hne (by rw [h.2])⟩⟩
    · rintro ⟨q, rfl, hq⟩
      have := (max_sub hm hj hj).1 hq
      exact ⟨⟨q, rfl, this.1⟩, fun h => this.2 ⟨rfl, mul_inj (Int.ofNat.inj h)⟩⟩
  · rw [max_sub hm hj hk]
    exact ⟨fun h => h.1, fun h' => ⟨h', fun h => hkj h.1⟩⟩
theorem pos_lt {l : List Int} {x : Int} (hi : Inc l) (h : x ∈ l) : posK idI l x < l.length := ((foundK (key := idI) (z := (0 : Int)) hi).1 (by simpa using h)).1
theorem F67_eq (K : Nat) (hK : 100 ≤ K) {n : Nat} {U : Wk} {y : Yard} (h : Rep n U y) {j p : Nat} (hj : j ≤ n) (hm : Max n U j p) :
    F67 K ((((p * 2 ^ j : Nat) : Int), (j : Int)) : El T29) y = some ((), setY y j (delK idI ((p * 2 ^ j : Nat) : Int) (frY y j))) := by
  have hle := h.le
  have hr := h.row j hj
  have hlen := hr.len h.lim h.le
  have hmem := (hr.mem' p).2 hm
  have e1 := F50_eq K (frY y j) ((p * 2 ^ j : Nat) : Int) (by omega) (by omega) hr.inc
  have e2 := F53_eq K (frY y j) ((p * 2 ^ j : Nat) : Int) (by omega) (pos_lt hr.inc hmem)
  have : j = 0 ∨ j = 1 ∨ j = 2 ∨ j = 3 ∨ j = 4 ∨ j = 5 ∨ j = 6 := by omega
  unfold F67 G67 t67
  generalize ((p * 2 ^ j : Nat) : Int) = s at *
  rcases this with rfl | rfl | rfl | rfl | rfl | rfl | rfl <;> (simp only [frY] at e1 e2; simp +decide only [e1, Option.bind_some, e2, if_true, if_false]; rfl)
theorem xor_start : ∀ k, k ≤ 6 → ∀ p, p < 64 → p * 2 ^ k < 64 → IntKind.i64.wrap ((BitVec.ofInt IntKind.i64.bits ((p * 2 ^ k : Nat) : Int) ^^^ BitVec.ofInt IntKind.i64.bits ((2 ^ k : Nat) : Int)).toNat : Int) = (((p ^^^ 1) * 2 ^ k : Nat) : Int) := by
  decide +kernel
theorem min_start : ∀ k, k ≤ 6 → ∀ p, p < 64 → p * 2 ^ k < 64 → (if (((p ^^^ 1) * 2 ^ k : Nat) : Int) < ((p * 2 ^ k : Nat) : Int) then (((p ^^^ 1) * 2 ^ k : Nat) : Int) else ((p * 2 ^ k : Nat) : Int)) = ((p / 2 * 2 ^ (k + 1) : Nat) : Int) := by
  decide +kernel
theorem over_start : ∀ o, o ≤ 6 → ∀ s : Nat, s < 64 → IntKind.i64.wrap ((BitVec.ofInt IntKind.i64.bits (s : Int) &&& ~~~BitVec.ofInt IntKind.i64.bits (IntKind.i64.wrap (((2 ^ o : Nat) : Int) - (1 : Int)))).toNat : Int) = ((s / 2 ^ o * 2 ^ o : Nat) : Int) := by
  decide +kernel
end Go.Proofs.YtiicginipjbloaaE
/- Buddy: lay and split, around. -/
namespace Go.Proofs.YtiicginipjbloaaE
open Go Go.Proofs
set_option maxRecDepth 100000
set_option linter.unusedVariables false
theorem six {j : Nat} (h : j ≤ 6) : j = 0 ∨ j = 1 ∨ j = 2 ∨ j = 3 ∨ j = 4 ∨ j = 5 ∨ j = 6 := by omega
theorem pow_le6 {n : Nat} (h : n ≤ 6) : 2 ^ n ≤ 64 := Nat.pow_le_pow_right (n := 2) (by decide) h
theorem start_lt {n j p : Nat} (hn : n ≤ 6) (hj : j ≤ n) (hp : p < 2 ^ (n - j)) : p * 2 ^ j < 64 ∧ p < 64 ∧ p * 2 ^ j < 2 ^ n := by
  have h1 : p * 2 ^ j < 2 ^ (n - j) * 2 ^ j := (Nat.mul_lt_mul_right (pos2 j)).2 hp
  rw [← Nat.pow_add, Nat.sub_add_cancel hj] at h1
  have h2 := pow_le6 hn
  have h3 : p * 1 ≤ p * 2 ^ j := Nat.mul_le_mul_left p (pos2 j)
  omega
noncomputable def layR (K : Nat) (k : Nat) (N : Int) (l : List Int) (s : Int) (rec : El T29 → List Int → Option (Unit × Yard)) (fin : List Int → Option (Unit × Yard)) : Option (Unit × Yard) :=
  if decide (Int.ofNat k < N) = true then
    (Option.bind (F63 K (Int.ofNat k)) fun x0 =>
     (Option.bind (F50 K l (IntKind.i64.wrap (↑(BitVec.ofInt IntKind.i64.bits s ^^^ BitVec.ofInt IntKind.i64.bits x0).toNat : Int))) fun x1 => (if (!x1.2) = true then
       (Option.bind (F50 K l s) fun x2 => (Option.bind (F51 K (x2.1, [s]) l) fun x3 => fin x3))
      else
       (Option.bind (F53 K (x1.1, IntKind.i64.wrap (x1.1 + (1 : Int))) l) fun x4 => rec ((if IntKind.i64.wrap (↑(BitVec.ofInt IntKind.i64.bits s ^^^ BitVec.ofInt IntKind.i64.bits x0).toNat : Int) < s then IntKind.i64.wrap (↑(BitVec.ofInt IntKind.i64.bits s ^^^ BitVec.ofInt IntKind.i64.bits x0).toNat : Int) else s, IntKind.i64.wrap (Int.ofNat k + (1 : Int)))) x4))))
  else (Option.bind (F50 K l s) fun x5 => (Option.bind (F51 K (x5.1, [s]) l) fun x6 => fin x6))
theorem layR_eq (K : Nat) (hK : 100 ≤ K) {n : Nat} {U : Wk} {l : List Int} {j p : Nat} (hn : n ≤ 6) (hj : j ≤ n) (hp : p < 2 ^ (n - j)) (hlim : ∀ w, U w = true → w < 2 ^ n) (hr : IsL n U j l) (hd : ∀ w, w / 2 ^ j = p → U w = false)
    (rec : El T29 → List Int → Option (Unit × Yard)) (fin : List Int → Option (Unit × Yard)) :
    (j = n ∨ ¬ Full U j (p ^^^ 1)) ∧ layR K j (n : Int) l ((p * 2 ^ j : Nat) : Int) rec fin = fin (insK idI ((p * 2 ^ j : Nat) : Int) l) ∨
    (j < n ∧ Full U j (p ^^^ 1)) ∧ layR K j (n : Int) l ((p * 2 ^ j : Nat) : Int) rec fin = rec (((p / 2 * 2 ^ (j + 1) : Nat) : Int), ((j + 1 : Nat) : Int)) (delK idI (((p ^^^ 1) * 2 ^ j : Nat) : Int) l) := by
  have hlen := hr.len hlim hn
  obtain ⟨s1, s2, s3⟩ := start_lt hn hj hp
  have e1 := F50_eq K l ((p * 2 ^ j : Nat) : Int) (by omega) (by omega) hr.inc
  have e2 := F51_eq K l ((p * 2 ^ j : Nat) : Int) (by omega)
  have e3 : F63 K (Int.ofNat j) = some ((2 ^ j : Nat) : Int) := F63_eq K j (by omega)
  have e4 := xor_start j (by omega) p s2 s1
  have e5 := F50_eq K l (((p ^^^ 1) * 2 ^ j : Nat) : Int) (by omega) (by omega) hr.inc
  have e6 := min_start j (by omega) p s2 s1
  have e7 : IntKind.i64.wrap (Int.ofNat j + 1) = ((j + 1 : Nat) : Int) := by
    show IntKind.i64.wrap ((j : Int) + 1) = _
    rw [i64_in (by omega) (by omega)]; omega
  have hm := hr.mem' (p ^^^ 1)
  unfold layR
  by_cases c : j < n
  · rw [if_pos (show decide (Int.ofNat j < (n : Int)) = true from decide_eq_true (show (j : Int) < (n : Int) by omega)), e3, Option.bind_some, e4, e5, Option.bind_some]
    by_cases c2 : (((p ^^^ 1) * 2 ^ j : Nat) : Int) ∈ l
    · right
      refine ⟨⟨c, (hm.1 c2).1⟩, ?_⟩
      have e8 := F53_eq K l (((p ^^^ 1) * 2 ^ j : Nat) : Int) (by omega) (pos_lt hr.inc c2)
      rw [decide_eq_true c2, if_neg (by exact Bool.false_ne_true)]
      dsimp only
      rw [e8, Option.bind_some, e6, e7]
    · left
      refine ⟨.inr fun hF => c2 (hm.2 (max_buddy hd hF)), ?_⟩
      rw [decide_eq_false c2, if_pos (by rfl), e1, Option.bind_some]
      dsimp only
      rw [e2, Option.bind_some]
  · left
    refine ⟨.inl (by omega), ?_⟩
    rw [if_neg (show ¬ decide (Int.ofNat j < (n : Int)) = true by rw [decide_eq_true_eq]; show ¬ ((j : Int) < (n : Int)); omega), e1, Option.bind_some]
    dsimp only
    rw [e2, Option.bind_some]
abbrev ya (o : Yard) (l0 l1 l2 l3 l4 l5 l6 : List Int) : Yard := (o.1, l0, l1, l2, l3, l4, l5, l6, o.2.2.2.2.2.2.2.2)
theorem half_lt {n j p : Nat} (hj : j < n) (hp : p < 2 ^ (n - j)) : p / 2 < 2 ^ (n - (j + 1)) := by
  have e : n - j = (n - (j + 1)) + 1 := by omega
  rw [e, Nat.pow_succ] at hp
  omega
theorem sub_pair {U : Wk} {j p : Nat} (hd : ∀ w, w / 2 ^ j = p → U w = false) : ∀ w, w / 2 ^ (j + 1) = p / 2 → subB U j (p ^^^ 1) w = false := by
  intro w hw
  rcases pair_iff.1 hw with h | h
  · simp [subB, hd w h]
  · simp [subB, h]
theorem L54_r0 (K f : Nat) (a : El T29) (o : Yard) (s : Int) (l0 l1 l2 l3 l4 l5 l6 : List Int) : L54_0 (F63 K) (F50 K) (F53 K) (F51 K) K a o (f + 1) (s, ((0 : Nat) : Int)) l0 l1 l2 l3 l4 l5 l6 = layR K 0 o.1 l0 s (fun b x => L54_0 (F63 K) (F50 K) (F53 K) (F51 K) K a o f b x l1 l2 l3 l4 l5 l6) (fun x => some ((), ya o x l1 l2 l3 l4 l5 l6)) := by kernel_rfl
theorem L54_r1 (K f : Nat) (a : El T29) (o : Yard) (s : Int) (l0 l1 l2 l3 l4 l5 l6 : List Int) : L54_0 (F63 K) (F50 K) (F53 K) (F51 K) K a o (f + 1) (s, ((1 : Nat) : Int)) l0 l1 l2 l3 l4 l5 l6 = layR K 1 o.1 l1 s (fun b x => L54_0 (F63 K) (F50 K) (F53 K) (F51 K) K a o f b l0 x l2 l3 l4 l5 l6) (fun x => some ((), ya o l0 x l2 l3 l4 l5 l6)) := by kernel_rfl
theorem L54_r2 (K f : Nat) (a : El T29) (o : Yard) (s : Int) (l0 l1 l2 l3 l4 l5 l6 : List Int) : L54_0 (F63 K) (F50 K) (F53 K) (F51 K) K a o (f + 1) (s, ((2 : Nat) : Int)) l0 l1 l2 l3 l4 l5 l6 = layR K 2 o.1 l2 s (fun b x => L54_0 (F63 K) (F50 K) (F53 K) (F51 K) K a o f b l0 l1 x l3 l4 l5 l6) (fun x => some ((), ya o l0 l1 x l3 l4 l5 l6)) := by kernel_rfl
theorem L54_r3 (K f : Nat) (a : El T29) (o : Yard) (s : Int) (l0 l1 l2 l3 l4 l5 l6 : List Int) : L54_0 (F63 K) (F50 K) (F53 K) (F51 K) K a o (f + 1) (s, ((3 : Nat) : Int)) l0 l1 l2 l3 l4 l5 l6 = layR K 3 o.1 l3 s (fun b x => L54_0 (F63 K) (F50 K) (F53 K) (F51 K) K a o f b l0 l1 l2 x l4 l5 l6) (fun x => some ((), ya o l0 l1 l2 x l4 l5 l6)) := by kernel_rfl
theorem L54_r4 (K f : Nat) (a : El T29) (o : Yard) (s : Int) (l0 l1 l2 l3 l4 l5 l6 : List Int) : L54_0 (F63 K) (F50 K) (F53 K) (F51 K) K a o (f + 1) (s, ((4 : Nat) : Int)) l0 l1 l2 l3 l4 l5 l6 = layR K 4 o.1 l4 s (fun b x => L54_0 (F63 K) (F50 K) (F53 K) (F51 K) K a o f b l0 l1 l2 l3 x l5 l6) (fun x => some ((), ya o l0 l1 l2 l3 x l5 l6)) := by kernel_rfl
theorem L54_r5 (K f : Nat) (a : El T29) (o : Yard) (s : Int) (l0 l1 l2 l3 l4 l5 l6 : List Int) : L54_0 (F63 K) (F50 K) (F53 K) (F51 K) K a o (f + 1) (s, ((5 : Nat) : Int)) l0 l1 l2 l3 l4 l5 l6 = layR K 5 o.1 l5 s (fun b x => L54_0 (F63 K) (F50 K) (F53 K) (F51 K) K a o f b l0 l1 l2 l3 l4 x l6) (fun x => some ((), ya o l0 l1 l2 l3 l4 x l6)) := by kernel_rfl
theorem L54_r6 (K f : Nat) (a : El T29) (o : Yard) (s : Int) (l0 l1 l2 l3 l4 l5 l6 : List Int) : L54_0 (F63 K) (F50 K) (F53 K) (F51 K) K a o (f + 1) (s, ((6 : Nat) : Int)) l0 l1 l2 l3 l4 l5 l6 = layR K 6 o.1 l6 s (fun b x => L54_0 (F63 K) (F50 K) (F53 K) (F51 K) K a o f b l0 l1 l2 l3 l4 l5 x) (fun x => some ((), ya o l0 l1 l2 l3 l4 l5 x)) := by kernel_rfl
theorem L54_eq (K : Nat) (hK : 100 ≤ K) (a : El T29) (o : Yard) {n : Nat} : ∀ (f j p : Nat) (U : Wk) (l0 l1 l2 l3 l4 l5 l6 : List Int), n - j < f → j ≤ n → Rep n U (ya o l0 l1 l2 l3 l4 l5 l6) → p < 2 ^ (n - j) → (∀ w, w / 2 ^ j = p → U w = false) →
    ∃ y', L54_0 (F63 K) (F50 K) (F53 K) (F51 K) K a o f (((p * 2 ^ j : Nat) : Int), (j : Int)) l0 l1 l2 l3 l4 l5 l6 = some ((), y') ∧ Rep n (addB U j p) y' ∧ tkY y' = tkY o ∧ flY y' = flY o
  | 0, j, p, U, l0, l1, l2, l3, l4, l5, l6, h, _, _, _, _ => by omega
  | f + 1, j, p, U, l0, l1, l2, l3, l4, l5, l6, h, hj, hR, hp, hd => by
    have hn := hR.le
    have hord : o.1 = (n : Int) := hR.ord
    have hput := hR.put hj hp hd
    have hcut := fun hm => hR.cut (p := p ^^^ 1) hj hm
    have hrow := hR.row j hj
    have hlim := hR.lim
    have hb := max_buddy (n := n) hd
    have ih := fun l0 l1 l2 l3 l4 l5 l6 (hlt : j < n) hR' => L54_eq K hK a o (n := n) f (j + 1) (p / 2) (subB U j (p ^^^ 1)) l0 l1 l2 l3 l4 l5 l6 (by omega) (by omega) hR' (half_lt hlt hp) (sub_pair hd)
    have hadd := fun h => add_pair (U := U) (j := j) (p := p) h
    rcases six (show j ≤ 6 by omega) with e | e | e | e | e | e | e
    · subst e
      rw [L54_r0, hord]
      rcases layR_eq K hK hn hj hp hlim hrow hd _ _ with ⟨hb', e⟩ | ⟨⟨hlt, hF⟩, e⟩
      · exact ⟨_, e, hput hb', rfl, rfl⟩
      · obtain ⟨y', h1, h2, h3, h4⟩ := ih _ _ _ _ _ _ _ hlt (hcut (hb hF))
        rw [hadd hF] at h2
        exact ⟨y', e.trans h1, h2, h3, h4⟩
    · subst e
      rw [L54_r1, hord]
      rcases layR_eq K hK hn hj hp hlim hrow hd _ _ with ⟨hb', e⟩ | ⟨⟨hlt, hF⟩, e⟩
      · exact ⟨_, e, hput hb', rfl, rfl⟩
      · obtain ⟨y', h1, h2, h3, h4⟩ := ih _ _ _ _ _ _ _ hlt (hcut (hb hF))
        rw [hadd hF] at h2
        exact ⟨y', e.trans h1, h2, h3, h4⟩
    · subst e
      rw [L54_r2, hord]
      rcases layR_eq K hK hn hj hp hlim hrow hd _ _ with ⟨hb', e⟩ | ⟨⟨hlt, hF⟩, e⟩
      · exact ⟨_, e, hput hb', rfl, rfl⟩
      · obtain ⟨y', h1, h2, h3, h4⟩ := ih _ _ _ _ _ _ _ hlt (hcut (hb hF))
        rw [hadd hF] at h2
        exact ⟨y', e.trans h1, h2, h3, h4⟩
    · subst e
      rw [L54_r3, hord]
      rcases layR_eq K hK hn hj hp hlim hrow hd _ _ with ⟨hb', e⟩ | ⟨⟨hlt, hF⟩, e⟩
      · exact ⟨_, e, hput hb', rfl, rfl⟩
      · obtain ⟨y', h1, h2, h3, h4⟩ := ih _ _ _ _ _ _ _ hlt (hcut (hb hF))
        rw [hadd hF] at h2
        exact ⟨y', e.trans h1, h2, h3, h4⟩
    · subst e
      rw [L54_r4, hord]
      rcases layR_eq K hK hn hj hp hlim hrow hd _ _ with ⟨hb', e⟩ | ⟨⟨hlt, hF⟩, e⟩
      · exact ⟨_, e, hput hb', rfl, rfl⟩
      · obtain ⟨y', h1, h2, h3, h4⟩ := ih _ _ _ _ _ _ _ hlt (hcut (hb hF))
        rw [hadd hF] at h2
        exact ⟨y', e.trans h1, h2, h3, h4⟩
    · subst e
      rw [L54_r5, hord]
      rcases layR_eq K hK hn hj hp hlim hrow hd _ _ with ⟨hb', e⟩ | ⟨⟨hlt, hF⟩, e⟩
      · exact ⟨_, e, hput hb', rfl, rfl⟩
      · obtain ⟨y', h1, h2, h3, h4⟩ := ih _ _ _ _ _ _ _ hlt (hcut (hb hF))
        rw [hadd hF] at h2
        exact ⟨y', e.trans h1, h2, h3, h4⟩
    · subst e
      rw [L54_r6, hord]
      rcases layR_eq K hK hn hj hp hlim hrow hd _ _ with ⟨hb', e⟩ | ⟨⟨hlt, hF⟩, e⟩
      · exact ⟨_, e, hput hb', rfl, rfl⟩
      · obtain ⟨y', h1, h2, h3, h4⟩ := ih _ _ _ _ _ _ _ hlt (hcut (hb hF))
        rw [hadd hF] at h2
        exact ⟨y', e.trans h1, h2, h3, h4⟩
theorem F54_eq (K : Nat) (hK : 100 ≤ K) {n : Nat} {U : Wk} {y : Yard} (hR : Rep n U y) {j p : Nat} (hj : j ≤ n) (hp : p < 2 ^ (n - j)) (hd : ∀ w, w / 2 ^ j = p → U w = false) :
    ∃ y', F54 K (((p * 2 ^ j : Nat) : Int), (j : Int)) y = some ((), y') ∧ Rep n (addB U j p) y' ∧ tkY y' = tkY y ∧ flY y' = flY y := by
  have hle := hR.le
  exact L54_eq K hK _ y K j p U _ _ _ _ _ _ _ (by omega) hj hR hp hd
end Go.Proofs.YtiicginipjbloaaE
/- Buddy: split: out of one of the greatest open blocks one within it is open no more. -/
namespace Go.Proofs.YtiicginipjbloaaE
open Go Go.Proofs
set_option maxRecDepth 100000
set_option linter.unusedVariables false
noncomputable def splR (K i : Nat) (s : Int) (a : El T29) (l : List Int) (rec : El T29 → List Int → Option (Unit × Yard)) (fin : Option (Unit × Yard)) : Option (Unit × Yard) :=
  if (!(s == a.1 && Int.ofNat (i + 1) == a.2)) = true then
    (Option.bind (F63 K (IntKind.i64.wrap (Int.ofNat (i + 1) - (1 : Int)))) fun x3 => (Option.bind (F63 K (IntKind.i64.wrap (Int.ofNat (i + 1) - (1 : Int)))) fun x4 =>
      (if decide (a.1 ≥ IntKind.i64.wrap (s + x3)) = true then
        (Option.bind (F50 K l s) fun x5 => (Option.bind (F51 K (x5.1, [s]) l) fun x6 => rec (IntKind.i64.wrap (s + x3), IntKind.i64.wrap (Int.ofNat (i + 1) - (1 : Int))) x6))
       else
        (Option.bind (F50 K l (IntKind.i64.wrap (s + x3))) fun x7 => (Option.bind (F51 K (x7.1, [IntKind.i64.wrap (s + x3)]) l) fun x8 => rec (s, IntKind.i64.wrap (Int.ofNat (i + 1) - (1 : Int))) x8)))))
  else fin
theorem L40_r0 (K f : Nat) (a0 a : El T29) (o : Yard) (s : Int) (l0 l1 l2 l3 l4 l5 l6 l7 l8 l9 l10 : List Int) (tk : List (El T29)) (fl : List Int) (od : Int) : L40_0 (F67 K) (F63 K) (F50 K) (F51 K) K a0 a o (f + 1) (s, ((1 : Nat) : Int)) l0 l1 l2 l3 l4 l5 l6 l7 l8 l9 l10 tk fl od = splR K 0 s a l0 (fun b x => L40_0 (F67 K) (F63 K) (F50 K) (F51 K) K a0 a o f b x l1 l2 l3 l4 l5 l6 l7 l8 l9 l10 tk fl od) (some ((), (od, l0, l1, l2, l3, l4, l5, l6, l7, l8, l9, l10, tk, fl))) := by kernel_rfl
theorem L40_r1 (K f : Nat) (a0 a : El T29) (o : Yard) (s : Int) (l0 l1 l2 l3 l4 l5 l6 l7 l8 l9 l10 : List Int) (tk : List (El T29)) (fl : List Int) (od : Int) : L40_0 (F67 K) (F63 K) (F50 K) (F51 K) K a0 a o (f + 1) (s, ((2 : Nat) : Int)) l0 l1 l2 l3 l4 l5 l6 l7 l8 l9 l10 tk fl od = splR K 1 s a l1 (fun b x => L40_0 (F67 K) (F63 K) (F50 K) (F51 K) K a0 a o f b l0 x l2 l3 l4 l5 l6 l7 l8 l9 l10 tk fl od) (some ((), (od, l0, l1, l2, l3, l4, l5, l6, l7, l8, l9, l10, tk, fl))) := by kernel_rfl
theorem L40_r2 (K f : Nat) (a0 a : El T29) (o : Yard) (s : Int) (l0 l1 l2 l3 l4 l5 l6 l7 l8 l9 l10 : List Int) (tk : List (El T29)) (fl : List Int) (od : Int) : L40_0 (F67 K) (F63 K) (F50 K) (F51 K) K a0 a o (f + 1) (s, ((3 : Nat) : Int)) l0 l1 l2 l3 l4 l5 l6 l7 l8 l9 l10 tk fl od = splR K 2 s a l2 (fun b x => L40_0 (F67 K) (F63 K) (F50 K) (F51 K) K a0 a o f b l0 l1 x l3 l4 l5 l6 l7 l8 l9 l10 tk fl od) (some ((), (od, l0, l1, l2, l3, l4, l5, l6, l7, l8, l9, l10, tk, fl))) := by kernel_rfl
theorem L40_r3 (K f : Nat) (a0 a : El T29) (o : Yard) (s : Int) (l0 l1 l2 l3 l4 l5 l6 l7 l8 l9 l10 : List Int) (tk : List (El T29)) (fl : List Int) (od : Int) : L40_0 (F67 K) (F63 K) (F50 K) (F51 K) K a0 a o (f + 1) (s, ((4 : Nat) : Int)) l0 l1 l2 l3 l4 l5 l6 l7 l8 l9 l10 tk fl od = splR K 3 s a l3 (fun b x => L40_0 (F67 K) (F63 K) (F50 K) (F51 K) K a0 a o f b l0 l1 l2 x l4 l5 l6 l7 l8 l9 l10 tk fl od) (some ((), (od, l0, l1, l2, l3, l4, l5, l6, l7, l8, l9, l10, tk, fl))) := by kernel_rfl
theorem L40_r4 (K f : Nat) (a0 a : El T29) (o : Yard) (s : Int) (l0 l1 l2 l3 l4 l5 l6 l7 l8 l9 l10 : List Int) (tk : List (El T29)) (fl : List Int) (od : Int) : L40_0 (F67 K) (F63 K) (F50 K) (F51 K) K a0 a o (f + 1) (s, ((5 : Nat) : Int)) l0 l1 l2 l3 l4 l5 l6 l7 l8 l9 l10 tk fl od = splR K 4 s a l4 (fun b x => L40_0 (F67 K) (F63 K) (F50 K) (F51 K) K a0 a o f b l0 l1 l2 l3 x l5 l6 l7 l8 l9 l10 tk fl od) (some ((), (od, l0, l1, l2, l3, l4, l5, l6, l7, l8, l9, l10, tk, fl))) := by kernel_rfl
theorem L40_r5 (K f : Nat) (a0 a : El T29) (o : Yard) (s : Int) (l0 l1 l2 l3 l4 l5 l6 l7 l8 l9 l10 : List Int) (tk : List (El T29)) (fl : List Int) (od : Int) : L40_0 (F67 K) (F63 K) (F50 K) (F51 K) K a0 a o (f + 1) (s, ((6 : Nat) : Int)) l0 l1 l2 l3 l4 l5 l6 l7 l8 l9 l10 tk fl od = splR K 5 s a l5 (fun b x => L40_0 (F67 K) (F63 K) (F50 K) (F51 K) K a0 a o f b l0 l1 l2 l3 l4 x l6 l7 l8 l9 l10 tk fl od) (some ((), (od, l0, l1, l2, l3, l4, l5, l6, l7, l8, l9, l10, tk, fl))) := by kernel_rfl
theorem L40_z (K f : Nat) (a0 : El T29) (o : Yard) (s : Int) (l0 l1 l2 l3 l4 l5 l6 l7 l8 l9 l10 : List Int) (tk : List (El T29)) (fl : List Int) (od : Int) : L40_0 (F67 K) (F63 K) (F50 K) (F51 K) K a0 ((s, ((0 : Nat) : Int)) : El T29) o (f + 1) (s, ((0 : Nat) : Int)) l0 l1 l2 l3 l4 l5 l6 l7 l8 l9 l10 tk fl od = some ((), (od, l0, l1, l2, l3, l4, l5, l6, l7, l8, l9, l10, tk, fl)) := by
  simp +decide only [L40_0, b40_0, if_true, if_false]
  rw [if_neg (by simp)]
theorem splR_fin (K i : Nat) (s : Int) (l : List Int) (rec : El T29 → List Int → Option (Unit × Yard)) (fin : Option (Unit × Yard)) : splR K i s (s, ((i + 1 : Nat) : Int)) l rec fin = fin := by
  unfold splR
  have : (s == s && Int.ofNat (i + 1) == ((i + 1 : Nat) : Int)) = true := by
    rw [Bool.and_eq_true]
    exact ⟨beq_self_eq_true s, beq_iff_eq.2 rfl⟩
  rw [if_neg (by dsimp only; rw [this]; exact Bool.false_ne_true)]
theorem low_half {o q : Nat} : q * 2 ^ (o + 1) = (2 * q) * 2 ^ o := by rw [Nat.pow_succ]; ac_rfl
theorem high_half {o q : Nat} : q * 2 ^ (o + 1) + 2 ^ o = (2 * q + 1) * 2 ^ o := by rw [Nat.add_mul, Nat.one_mul, ← low_half]
theorem xor_even (q : Nat) : (2 * q) ^^^ 1 = 2 * q + 1 := by
  have h1 := Nat.div_add_mod ((2 * q) ^^^ 1) 2
  have h4 := xor_half (2 * q)
  have h5 := xor_ne (2 * q)
  omega
theorem xor_odd (q : Nat) : (2 * q + 1) ^^^ 1 = 2 * q := by
  have h1 := Nat.div_add_mod ((2 * q + 1) ^^^ 1) 2
  have h4 := xor_half (2 * q + 1)
  have h5 := xor_ne (2 * q + 1)
  omega
theorem sub_half {U : Wk} {o q c : Nat} (hF : Full U (o + 1) q) (hc : c / 2 = q) : addB (subB U (o + 1) q) o (c ^^^ 1) = subB U o c := by
  funext w
  have := pair_iff (w := w) (j := o) (p := c)
  rw [hc] at this
  simp only [addB, subB]
  by_cases c1 : w / 2 ^ o = c
  · have hne : ¬ w / 2 ^ o = c ^^^ 1 := fun h => xor_ne c (h.symm.trans c1)
    simp [this.2 (.inl c1), c1, hne, (xor_ne c).symm]
  · by_cases c2 : w / 2 ^ o = c ^^^ 1
    · simp [this.2 (.inr c2), c2, xor_ne c, hF w (this.2 (.inr c2))]
    · have h3 : ¬ w / 2 ^ (o + 1) = q := fun h => (this.1 h).elim c1 c2
      simp [h3, c1, c2]
theorem splR_eq (K : Nat) (hK : 100 ≤ K) {n : Nat} {U : Wk} {l : List Int} {i k q p : Nat} (hn : n ≤ 6) (hi : i + 1 ≤ n) (hk : k ≤ i) (hq : q < 2 ^ (n - (i + 1))) (hp : p * 2 ^ k / 2 ^ (i + 1) = q) (hlim : ∀ w, U w = true → w < 2 ^ n) (hr : IsL n (subB U (i + 1) q) i l)
    (rec : El T29 → List Int → Option (Unit × Yard)) (fin : Option (Unit × Yard)) :
    ∃ c, c / 2 = q ∧ p * 2 ^ k / 2 ^ i = c ∧ splR K i ((q * 2 ^ (i + 1) : Nat) : Int) (((p * 2 ^ k : Nat) : Int), (k : Int)) l rec fin = rec (((c * 2 ^ i : Nat) : Int), (i : Int)) (insK idI (((c ^^^ 1) * 2 ^ i : Nat) : Int) l) := by
  have hlen := hr.len (lim_sub hlim) hn
  obtain ⟨s1, s2, s3⟩ := start_lt hn hi hq
  have e0 : IntKind.i64.wrap (Int.ofNat (i + 1) - 1) = (i : Int) := by
    show IntKind.i64.wrap (((i + 1 : Nat) : Int) - 1) = _
    rw [i64_in (by omega) (by omega)]; omega
  have e1 := F63_eq K i (by omega)
  have hpi : 2 ^ i ≤ 64 := pow_le6 (by omega)
  have e2' : ∀ A B : Nat, A ≤ 64 → B ≤ 64 → IntKind.i64.wrap ((A : Int) + (B : Int)) = ((A + B : Nat) : Int) := fun A B hA hB => by
    rw [i64_in (by omega) (by omega)]; omega
  have e2 : IntKind.i64.wrap (((q * 2 ^ (i + 1) : Nat) : Int) + ((2 ^ i : Nat) : Int)) = (((2 * q + 1) * 2 ^ i : Nat) : Int) := by
    rw [e2' _ _ (Nat.le_of_lt s1) hpi, high_half]
  have hw : p * 2 ^ k / 2 ^ i / 2 = q := by rw [← div_succ]; exact hp
  have hne : (!(((q * 2 ^ (i + 1) : Nat) : Int) == ((p * 2 ^ k : Nat) : Int) && Int.ofNat (i + 1) == (k : Int))) = true := by
    have : (Int.ofNat (i + 1) == (k : Int)) = false := beq_eq_false_iff_ne.2 (by show ((i + 1 : Nat) : Int) ≠ (k : Int); omega)
    rw [this, Bool.and_false]
    rfl
  unfold splR
  dsimp only
  rw [if_pos hne]
  simp only [e0, e1, Option.bind_some, e2]
  by_cases c : p * 2 ^ k / 2 ^ i = 2 * q + 1
  · refine ⟨2 * q + 1, by omega, c, ?_⟩
    have hge : (2 * q + 1) * 2 ^ i ≤ p * 2 ^ k := (Nat.le_div_iff_mul_le (pos2 i)).1 (Nat.le_of_eq c.symm)
    rw [if_pos (decide_eq_true (show ((p * 2 ^ k : Nat) : Int) ≥ _ from Int.ofNat_le.2 hge))]
    rw [xor_odd, ← low_half]
    rw [F50_eq K l _ (by omega) (by omega) hr.inc, Option.bind_some]
    dsimp only
    rw [F51_eq K l _ (by omega), Option.bind_some]
  · have c' : p * 2 ^ k / 2 ^ i = 2 * q := by omega
    refine ⟨2 * q, by omega, c', ?_⟩
    have hlt : p * 2 ^ k < (2 * q + 1) * 2 ^ i := (Nat.div_lt_iff_lt_mul (pos2 i)).1 (by omega)
    rw [if_neg (by rw [decide_eq_true_eq]; exact fun h => Nat.lt_irrefl _ (Nat.lt_of_lt_of_le hlt (Int.ofNat_le.1 h)))]
    rw [xor_even, ← low_half]
    rw [F50_eq K l _ (by omega) (by omega) hr.inc, Option.bind_some]
    dsimp only
    rw [F51_eq K l _ (by omega), Option.bind_some]
theorem L40_eq (K : Nat) (hK : 100 ≤ K) (a0 : El T29) (o0 : Yard) {n : Nat} {U : Wk} (hlim : ∀ w, U w = true → w < 2 ^ n) (hn : n ≤ 6) {k p : Nat} : ∀ (f o q : Nat) (l0 l1 l2 l3 l4 l5 l6 l7 l8 l9 l10 : List Int) (tk : List (El T29)) (fl : List Int) (od : Int), o < f → k ≤ o → o ≤ n → Full U o q → p * 2 ^ k / 2 ^ o = q →
    Rep n (subB U o q) (od, l0, l1, l2, l3, l4, l5, l6, l7, l8, l9, l10, tk, fl) →
    ∃ y', L40_0 (F67 K) (F63 K) (F50 K) (F51 K) K a0 (((p * 2 ^ k : Nat) : Int), (k : Int)) o0 f (((q * 2 ^ o : Nat) : Int), (o : Int)) l0 l1 l2 l3 l4 l5 l6 l7 l8 l9 l10 tk fl od = some ((), y') ∧ Rep n (subB U k p) y' ∧ tkY y' = tk ∧ flY y' = fl
  | 0, o, q, l0, l1, l2, l3, l4, l5, l6, l7, l8, l9, l10, tk, fl, od, h, _, _, _, _, _ => by omega
  | f + 1, o, q, l0, l1, l2, l3, l4, l5, l6, l7, l8, l9, l10, tk, fl, od, h, hko, hon, hF, hpq, hR => by
    by_cases c : o = k
    · have hq : q = p := by rw [← hpq, c, first_in]
      subst hq
      subst c
      refine ⟨_, ?_, hR, rfl, rfl⟩
      rcases six (show o ≤ 6 by omega) with e | e | e | e | e | e | e
      · subst e; exact L40_z K f a0 o0 _ _ _ _ _ _ _ _ _ _ _ _ tk fl od
      · subst e; rw [L40_r0]; exact splR_fin K 0 _ _ _ _
      · subst e; rw [L40_r1]; exact splR_fin K 1 _ _ _ _
      · subst e; rw [L40_r2]; exact splR_fin K 2 _ _ _ _
      · subst e; rw [L40_r3]; exact splR_fin K 3 _ _ _ _
      · subst e; rw [L40_r4]; exact splR_fin K 4 _ _ _ _
      · subst e; rw [L40_r5]; exact splR_fin K 5 _ _ _ _
    · obtain ⟨i, rfl⟩ : ∃ i, o = i + 1 := ⟨o - 1, by omega⟩
      have hq : q < 2 ^ (n - (i + 1)) := by
        have h1 := lim_q hlim hF
        have h2 : 2 ^ n = 2 ^ (n - (i + 1)) * 2 ^ (i + 1) := by rw [← Nat.pow_add, Nat.sub_add_cancel hon]
        rw [h2] at h1
        exact Nat.lt_of_mul_lt_mul_right h1
      have hrow := hR.row i (by omega)
      have hput : ∀ c, c / 2 = q → Rep n (subB U i c) (setY (od, l0, l1, l2, l3, l4, l5, l6, l7, l8, l9, l10, tk, fl) i (insK idI (((c ^^^ 1) * 2 ^ i : Nat) : Int) (frY (od, l0, l1, l2, l3, l4, l5, l6, l7, l8, l9, l10, tk, fl) i))) := fun c hc => by
        rw [← sub_half hF hc]
        refine hR.put (by omega) ?_ (fun w hw => ?_) (.inr fun hF' => ?_)
        · have e : n - i = (n - (i + 1)) + 1 := by omega
          have h1 := xor_half c
          rw [e, Nat.pow_succ]
          omega
        · have : w / 2 ^ (i + 1) = q := by rw [div_succ, hw, xor_half, hc]
          simp [subB, this]
        · have h1 : (c ^^^ 1) ^^^ 1 = c := by rw [Nat.xor_assoc, Nat.xor_self, Nat.xor_zero]
          rw [h1] at hF'
          have := hF'.one
          rw [sub_out _ (by rw [div_succ, first_in, hc])] at this
          cases this
      have hFi : ∀ c, c / 2 = q → Full U i c := fun c hc => Full.up (by rw [hc]; exact hF)
      have six5 : i = 0 ∨ i = 1 ∨ i = 2 ∨ i = 3 ∨ i = 4 ∨ i = 5 := by omega
      have ih := L40_eq K hK a0 o0 (n := n) hlim hn (k := k) (p := p) f i
      rcases six5 with e | e | e | e | e | e
      · subst e
        rw [L40_r0]
        obtain ⟨c, h1, h2, h3⟩ := splR_eq (l := l0) K hK hn hon (by omega) hq hpq hlim hrow _ _
        rw [h3]
        exact ih c _ _ _ _ _ _ _ _ _ _ _ _ _ _ (by omega) (by omega) (by omega) (hFi c h1) h2 (hput c h1)
      · subst e
        rw [L40_r1]
        obtain ⟨c, h1, h2, h3⟩ := splR_eq (l := l1) K hK hn hon (by omega) hq hpq hlim hrow _ _
        rw [h3]
        exact ih c _ _ _ _ _ _ _ _ _ _ _ _ _ _ (by omega) (by omega) (by omega) (hFi c h1) h2 (hput c h1)
      · subst e
        rw [L40_r2]
        obtain ⟨c, h1, h2, h3⟩ := splR_eq (l := l2) K hK hn hon (by omega) hq hpq hlim hrow _ _
        rw [h3]
        exact ih c _ _ _ _ _ _ _ _ _ _ _ _ _ _ (by omega) (by omega) (by omega) (hFi c h1) h2 (hput c h1)
      · subst e
        rw [L40_r3]
        obtain ⟨c, h1, h2, h3⟩ := splR_eq (l := l3) K hK hn hon (by omega) hq hpq hlim hrow _ _
        rw [h3]
        exact ih c _ _ _ _ _ _ _ _ _ _ _ _ _ _ (by omega) (by omega) (by omega) (hFi c h1) h2 (hput c h1)
      · subst e
        rw [L40_r4]
        obtain ⟨c, h1, h2, h3⟩ := splR_eq (l := l4) K hK hn hon (by omega) hq hpq hlim hrow _ _
        rw [h3]
        exact ih c _ _ _ _ _ _ _ _ _ _ _ _ _ _ (by omega) (by omega) (by omega) (hFi c h1) h2 (hput c h1)
      · subst e
        rw [L40_r5]
        obtain ⟨c, h1, h2, h3⟩ := splR_eq (l := l5) K hK hn hon (by omega) hq hpq hlim hrow _ _
        rw [h3]
        exact ih c _ _ _ _ _ _ _ _ _ _ _ _ _ _ (by omega) (by omega) (by omega) (hFi c h1) h2 (hput c h1)
theorem F40_eq (K : Nat) (hK : 100 ≤ K) {n : Nat} {U : Wk} {y : Yard} (hR : Rep n U y) {o q k p : Nat} (hko : k ≤ o) (hon : o ≤ n) (hm : Max n U o q) (hpq : p * 2 ^ k / 2 ^ o = q) :
    ∃ y', F40 K (((q * 2 ^ o : Nat) : Int), (o : Int)) (((p * 2 ^ k : Nat) : Int), (k : Int)) y = some ((), y') ∧ Rep n (subB U k p) y' ∧ tkY y' = tkY y ∧ flY y' = flY y := by
  have hn := hR.le
  have hcut := hR.cut hon hm
  have e := F67_eq K hK hR hon hm
  have htk := setY_tk y o (delK idI ((q * 2 ^ o : Nat) : Int) (frY y o))
  have hfl := setY_fl y o (delK idI ((q * 2 ^ o : Nat) : Int) (frY y o))
  unfold F40 G40 t40
  rw [e, Option.bind_some]
  generalize setY y o (delK idI ((q * 2 ^ o : Nat) : Int) (frY y o)) = y1 at *
  obtain ⟨y', h1, h2, h3, h4⟩ := L40_eq K hK _ y hR.lim hn K o q _ _ _ _ _ _ _ _ _ _ _ _ _ _ (by omega) hko hon hm.1 hpq hcut
  exact ⟨y', h1, h2, h3.trans htk, h4.trans hfl⟩
end Go.Proofs.YtiicginipjbloaaE
/- Buddy: the free block around another one. -/
namespace Go.Proofs.YtiicginipjbloaaE
open Go Go.Proofs
set_option maxRecDepth 100000
set_option linter.unusedVariables false
noncomputable def arR (K i : Nat) (N : Int) (l : List Int) (s : Int) (rec : Int → Option (El T29 × Bool)) : Option (El T29 × Bool) :=
  if decide (Int.ofNat i ≤ N) = true then
    (Option.bind (F63 K (Int.ofNat i)) fun x0 =>
     (Option.bind (F50 K l (IntKind.i64.wrap (↑(BitVec.ofInt IntKind.i64.bits s &&& ~~~BitVec.ofInt IntKind.i64.bits (IntKind.i64.wrap (x0 - (1 : Int)))).toNat : Int))) fun x1 => (if x1.2 = true then some (((IntKind.i64.wrap (↑(BitVec.ofInt IntKind.i64.bits s &&& ~~~BitVec.ofInt IntKind.i64.bits (IntKind.i64.wrap (x0 - (1 : Int)))).toNat : Int), Int.ofNat i), true))
      else rec (IntKind.i64.wrap (Int.ofNat i + (1 : Int))))))
  else some ((((0 : Int), (0 : Int)), false))
theorem L52_r0 (K f : Nat) (y : Yard) (b : El T29) : L52_0 (F63 K) (F50 K) K y b (f + 1) ((0 : Nat) : Int) = arR K 0 y.1 (frY y 0) b.1 (fun x => L52_0 (F63 K) (F50 K) K y b f x) := by kernel_rfl
theorem L52_r1 (K f : Nat) (y : Yard) (b : El T29) : L52_0 (F63 K) (F50 K) K y b (f + 1) ((1 : Nat) : Int) = arR K 1 y.1 (frY y 1) b.1 (fun x => L52_0 (F63 K) (F50 K) K y b f x) := by kernel_rfl
theorem L52_r2 (K f : Nat) (y : Yard) (b : El T29) : L52_0 (F63 K) (F50 K) K y b (f + 1) ((2 : Nat) : Int) = arR K 2 y.1 (frY y 2) b.1 (fun x => L52_0 (F63 K) (F50 K) K y b f x) := by kernel_rfl
theorem L52_r3 (K f : Nat) (y : Yard) (b : El T29) : L52_0 (F63 K) (F50 K) K y b (f + 1) ((3 : Nat) : Int) = arR K 3 y.1 (frY y 3) b.1 (fun x => L52_0 (F63 K) (F50 K) K y b f x) := by kernel_rfl
theorem L52_r4 (K f : Nat) (y : Yard) (b : El T29) : L52_0 (F63 K) (F50 K) K y b (f + 1) ((4 : Nat) : Int) = arR K 4 y.1 (frY y 4) b.1 (fun x => L52_0 (F63 K) (F50 K) K y b f x) := by kernel_rfl
theorem L52_r5 (K f : Nat) (y : Yard) (b : El T29) : L52_0 (F63 K) (F50 K) K y b (f + 1) ((5 : Nat) : Int) = arR K 5 y.1 (frY y 5) b.1 (fun x => L52_0 (F63 K) (F50 K) K y b f x) := by kernel_rfl
theorem L52_r6 (K f : Nat) (y : Yard) (b : El T29) : L52_0 (F63 K) (F50 K) K y b (f + 1) ((6 : Nat) : Int) = arR K 6 y.1 (frY y 6) b.1 (fun x => L52_0 (F63 K) (F50 K) K y b f x) := by kernel_rfl
theorem L52_r7 (K f : Nat) (y : Yard) (b : El T29) : L52_0 (F63 K) (F50 K) K y b (f + 1) ((7 : Nat) : Int) = arR K 7 y.1 (frY y 7) b.1 (fun x => L52_0 (F63 K) (F50 K) K y b f x) := by kernel_rfl
theorem over_div {q k o : Nat} (h : k ≤ o) : q * 2 ^ k / 2 ^ o = q / 2 ^ (o - k) := by
  obtain ⟨d, rfl⟩ := Nat.exists_eq_add_of_le h
  rw [div_add', first_in]
  congr 2
  omega
theorem L52_eq (K : Nat) (hK : 100 ≤ K) {n : Nat} {U : Wk} {y : Yard} (hR : Rep n U y) {k q : Nat} (hk : k ≤ n) (hq : q < 2 ^ (n - k)) : ∀ (f o : Nat), n + 1 - o < f → k ≤ o → o ≤ n + 1 →
    (∃ e, o ≤ e ∧ e ≤ n ∧ Max n U e (q / 2 ^ (e - k)) ∧ L52_0 (F63 K) (F50 K) K y (((q * 2 ^ k : Nat) : Int), (k : Int)) f (o : Int) = some ((((q / 2 ^ (e - k) * 2 ^ e : Nat) : Int), (e : Int)), true)) ∨
    ((∀ e, o ≤ e → e ≤ n → ¬ Max n U e (q / 2 ^ (e - k))) ∧ L52_0 (F63 K) (F50 K) K y (((q * 2 ^ k : Nat) : Int), (k : Int)) f (o : Int) = some ((((0 : Int), (0 : Int)), false)))
  | 0, o, h, _, _ => by omega
  | f + 1, o, h, hko, ho => by
    have hn := hR.le
    obtain ⟨s1, s2, s3⟩ := start_lt hn hk hq
    have ih := L52_eq K hK hR hk hq f (o + 1)
    have step : ∀ (l : List Int), (o ≤ n → IsL n U o l) → L52_0 (F63 K) (F50 K) K y (((q * 2 ^ k : Nat) : Int), (k : Int)) (f + 1) (o : Int) = arR K o y.1 l ((q * 2 ^ k : Nat) : Int) (fun x => L52_0 (F63 K) (F50 K) K y (((q * 2 ^ k : Nat) : Int), (k : Int)) f x) →
        (∃ e, o ≤ e ∧ e ≤ n ∧ Max n U e (q / 2 ^ (e - k)) ∧ L52_0 (F63 K) (F50 K) K y (((q * 2 ^ k : Nat) : Int), (k : Int)) (f + 1) (o : Int) = some ((((q / 2 ^ (e - k) * 2 ^ e : Nat) : Int), (e : Int)), true)) ∨
        ((∀ e, o ≤ e → e ≤ n → ¬ Max n U e (q / 2 ^ (e - k))) ∧ L52_0 (F63 K) (F50 K) K y (((q * 2 ^ k : Nat) : Int), (k : Int)) (f + 1) (o : Int) = some ((((0 : Int), (0 : Int)), false))) := by
      intro l hl hr
      rw [hr, hR.ord]
      unfold arR
      by_cases c : o ≤ n
      · have hl := hl c
        have hlen := hl.len hR.lim hn
        have e0 : F63 K (Int.ofNat o) = some ((2 ^ o : Nat) : Int) := F63_eq K o (by omega)
        have e1 := over_start o (by omega) (q * 2 ^ k) s1
        rw [over_div hko] at e1
        have e2 := F50_eq K l ((q / 2 ^ (o - k) * 2 ^ o : Nat) : Int) (by omega) (by omega) hl.inc
        have e3 : IntKind.i64.wrap (Int.ofNat o + 1) = ((o + 1 : Nat) : Int) := by
          show IntKind.i64.wrap ((o : Int) + 1) = _
          rw [i64_in (by omega) (by omega)]; omega
        rw [if_pos (show decide (Int.ofNat o ≤ (n : Int)) = true from decide_eq_true (show (o : Int) ≤ (n : Int) by omega)), e0, Option.bind_some, e1, e2, Option.bind_some]
        have hm := hl.mem' (q / 2 ^ (o - k))
        by_cases c2 : Max n U o (q / 2 ^ (o - k))
        · rw [decide_eq_true (hm.2 c2)]
          exact .inl ⟨o, Nat.le_refl _, c, c2, rfl⟩
        · rw [decide_eq_false (fun h => c2 (hm.1 h)), if_neg Bool.false_ne_true, e3]
          rcases ih (by omega) (by omega) (by omega) with ⟨e, g1, g2, g3, g4⟩ | ⟨g1, g2⟩
          · exact .inl ⟨e, by omega, g2, g3, g4⟩
          · refine .inr ⟨fun e h1 h2 => ?_, g2⟩
            by_cases ee : e = o
            · rw [ee]; exact c2
            · exact g1 e (by omega) h2
      · right
        refine ⟨fun e h1 h2 => by omega, ?_⟩
        rw [if_neg (show ¬ decide (Int.ofNat o ≤ (n : Int)) = true by rw [decide_eq_true_eq]; show ¬ ((o : Int) ≤ (n : Int)); omega)]
    have hrow := fun h => hR.row o h
    have sev : o = 0 ∨ o = 1 ∨ o = 2 ∨ o = 3 ∨ o = 4 ∨ o = 5 ∨ o = 6 ∨ o = 7 := by omega
    rcases sev with e | e | e | e | e | e | e | e
    · subst e; exact step _ hrow (L52_r0 K f y _)
    · subst e; exact step _ hrow (L52_r1 K f y _)
    · subst e; exact step _ hrow (L52_r2 K f y _)
    · subst e; exact step _ hrow (L52_r3 K f y _)
    · subst e; exact step _ hrow (L52_r4 K f y _)
    · subst e; exact step _ hrow (L52_r5 K f y _)
    · subst e; exact step _ hrow (L52_r6 K f y _)
    · subst e; exact step _ hrow (L52_r7 K f y _)
theorem F52_yes (K : Nat) (hK : 100 ≤ K) {n : Nat} {U : Wk} {y : Yard} (hR : Rep n U y) {k q : Nat} (hk : k ≤ n) (hq : q < 2 ^ (n - k)) (hF : Full U k q) :
    ∃ o, k ≤ o ∧ o ≤ n ∧ Max n U o (q / 2 ^ (o - k)) ∧ F52 K y (((q * 2 ^ k : Nat) : Int), (k : Int)) = some ((((q / 2 ^ (o - k) * 2 ^ o : Nat) : Int), (o : Int)), true) := by
  have hn := hR.le
  rcases L52_eq K hK hR hk hq K k (by omega) (Nat.le_refl _) (by omega) with ⟨e, h1, h2, h3, h4⟩ | ⟨h1, h2⟩
  · exact ⟨e, h1, h2, h3, h4⟩
  · obtain ⟨o, g1, g2, g3, _⟩ := max_over (n := n) (U := U) (n - k) k q (by omega) hF
    exact absurd g3 (h1 o g1 g2)
theorem F52_no (K : Nat) (hK : 100 ≤ K) {n : Nat} {U : Wk} {y : Yard} (hR : Rep n U y) {k q : Nat} (hk : k ≤ n) (hq : q < 2 ^ (n - k)) (hF : ¬ Full U k q) :
    F52 K y (((q * 2 ^ k : Nat) : Int), (k : Int)) = some ((((0 : Int), (0 : Int)), false)) := by
  have hn := hR.le
  rcases L52_eq K hK hR hk hq K k (by omega) (Nat.le_refl _) (by omega) with ⟨e, h1, h2, h3, h4⟩ | ⟨h1, h2⟩
  · exact absurd (full_of_over h1 h3.1) hF
  · exact h2
end Go.Proofs.YtiicginipjbloaaE
/- Buddy: taken blocks and failed workers; what is open; hold, Held, open. -/
namespace Go.Proofs.YtiicginipjbloaaE
open Go Go.Proofs
set_option maxRecDepth 100000
set_option linter.unusedVariables false
def inI (b : Bk) (x : Int) : Bool := decide ((b.1 : Int) ≤ x ∧ x < b.1 + ((2 ^ Int.toNat b.2 : Nat) : Int))
abbrev mkB (j p : Nat) : Bk := (((p * 2 ^ j : Nat) : Int), (j : Int))
def isBlk (n : Nat) (b : Bk) : Prop := ∃ j p : Nat, b = mkB j p ∧ j ≤ n ∧ p < 2 ^ (n - j)
theorem inI_iff {j p w : Nat} : inI (mkB j p) (w : Int) = true ↔ w / 2 ^ j = p := by
  have e : (inI (mkB j p) (w : Int) = true) ↔ (((p * 2 ^ j : Nat) : Int) ≤ (w : Int) ∧ (w : Int) < ((p * 2 ^ j : Nat) : Int) + ((2 ^ j : Nat) : Int)) := by
    unfold inI
    rw [decide_eq_true_eq]
    simp only [mkB, Int.toNat_natCast]
  rw [e, ← Int.natCast_add]
  have h1 := Nat.le_div_iff_mul_le (pos2 j) (x := p) (y := w)
  have h2 := Nat.div_lt_iff_lt_mul (pos2 j) (x := w) (y := p + 1)
  have h3 : (p + 1) * 2 ^ j = p * 2 ^ j + 2 ^ j := by rw [Nat.add_mul, Nat.one_mul]
  rw [h3] at h2
  constructor
  · rintro ⟨a, b⟩
    have a' := h1.2 (Int.ofNat_le.1 a)
    have b' := h2.2 (Int.ofNat_lt.1 b)
    omega
  · intro h
    exact ⟨Int.ofNat_le.2 (h1.1 (Nat.le_of_eq h.symm)), Int.ofNat_lt.2 (h2.1 (by omega))⟩
theorem inI_nat {n : Nat} {b : Bk} (hb : isBlk n b) {x : Int} (h : inI b x = true) : ∃ w : Nat, x = (w : Int) := by
  obtain ⟨j, p, rfl, _, _⟩ := hb
  have := (of_decide_eq_true h).1
  have h0 : (0 : Int) ≤ ((p * 2 ^ j : Nat) : Int) := Int.natCast_nonneg _
  have h1 : (0 : Int) ≤ x := Int.le_trans h0 this
  exact ⟨x.toNat, by omega⟩
theorem F42_eq (K : Nat) {n : Nat} (hn : n ≤ 6) {b : Bk} (hb : isBlk n b) (x : Int) : F42 K b x = some (inI b x) := by
  obtain ⟨j, p, rfl, hj, hp⟩ := hb
  obtain ⟨s1, s2, s3⟩ := start_lt hn hj hp
  have e1 := F63_eq K j (by omega)
  have hpj : 2 ^ j ≤ 64 := pow_le6 (by omega)
  have e2 : IntKind.i64.wrap (((p * 2 ^ j : Nat) : Int) + ((2 ^ j : Nat) : Int)) = ((p * 2 ^ j : Nat) : Int) + ((2 ^ j : Nat) : Int) := by
    generalize p * 2 ^ j = A at *
    generalize 2 ^ j = B at *
    rw [i64_in (by omega) (by omega)]
  unfold F42 G42 t42 inI
  simp only [mkB, e1, Option.bind_some, e2, Int.toNat_natCast]
  by_cases c : x ≥ ((p * 2 ^ j : Nat) : Int)
  · rw [if_pos (decide_eq_true c)]
    congr 1
    exact decide_eq_decide.2 ⟨fun h => ⟨c, h⟩, fun h => h.2⟩
  · rw [if_neg (by simpa using c)]
    congr 1
    exact (decide_eq_false fun h => c h.1).symm
structure Tk (n : Nat) (t : List Bk) : Prop where
  inc : IncK keyB t
  blk : ∀ b ∈ t, isBlk n b
  dis : ∀ b ∈ t, ∀ c ∈ t, ∀ x, inI b x = true → inI c x = true → b = c
structure Fl (n : Nat) (f : List Int) : Prop where
  inc : Inc f
  lim : ∀ x ∈ f, ∃ w : Nat, x = (w : Int) ∧ w < 2 ^ n
def opn (n : Nat) (t : List Bk) (f : List Int) : Wk := fun w => decide (w < 2 ^ n) && (!decide ((w : Int) ∈ f) && !(t.any fun b => inI b (w : Int)))
structure Ok (n : Nat) (y : Yard) : Prop where
  rep : Rep n (opn n (tkY y) (flY y)) y
  tk : Tk n (tkY y)
  fl : Fl n (flY y)
theorem opn_iff {n : Nat} {t : List Bk} {f : List Int} {w : Nat} : opn n t f w = true ↔ w < 2 ^ n ∧ ¬ (w : Int) ∈ f ∧ ∀ b ∈ t, inI b (w : Int) = false := by
  simp [opn]
theorem Tk.len {n : Nat} {t : List Bk} (h : Tk n t) (hn : n ≤ 6) : t.length ≤ 64 := by
  have h1 : Inc (t.map keyB) := List.pairwise_map.2 h.inc
  have := inc_len (a := 0) (b := 64) h1 (fun x hx => by
    obtain ⟨b, hb, rfl⟩ := List.mem_map.1 hx
    obtain ⟨j, p, rfl, hj, hp⟩ := h.blk b hb
    obtain ⟨s1, s2, s3⟩ := start_lt hn hj hp
    show (0 : Int) ≤ ((p * 2 ^ j : Nat) : Int) ∧ ((p * 2 ^ j : Nat) : Int) < 64
    exact ⟨Int.natCast_nonneg _, by omega⟩) (by decide)
  simp only [List.length_map] at this
  omega
theorem Fl.len {n : Nat} {f : List Int} (h : Fl n f) (hn : n ≤ 6) : f.length ≤ 64 := by
  have := inc_len (a := 0) (b := 64) h.inc (fun x hx => by
    obtain ⟨w, rfl, hw⟩ := h.lim x hx
    have := pow_le6 hn
    omega) (by decide)
  omega
def setT (y : Yard) (t : List Bk) : Yard := (y.1, y.2.1, y.2.2.1, y.2.2.2.1, y.2.2.2.2.1, y.2.2.2.2.2.1, y.2.2.2.2.2.2.1, y.2.2.2.2.2.2.2.1, y.2.2.2.2.2.2.2.2.1, y.2.2.2.2.2.2.2.2.2.1, y.2.2.2.2.2.2.2.2.2.2.1, y.2.2.2.2.2.2.2.2.2.2.2.1, t, y.2.2.2.2.2.2.2.2.2.2.2.2.2)
def setF (y : Yard) (f : List Int) : Yard := (y.1, y.2.1, y.2.2.1, y.2.2.2.1, y.2.2.2.2.1, y.2.2.2.2.2.1, y.2.2.2.2.2.2.1, y.2.2.2.2.2.2.2.1, y.2.2.2.2.2.2.2.2.1, y.2.2.2.2.2.2.2.2.2.1, y.2.2.2.2.2.2.2.2.2.2.1, y.2.2.2.2.2.2.2.2.2.2.2.1, y.2.2.2.2.2.2.2.2.2.2.2.2.1, f)
theorem frY_setT (y : Yard) (t : List Bk) (k : Nat) : frY (setT y t) k = frY y k := by
  rcases k with _ | _ | _ | _ | _ | _ | _ | _ | _ | _ | _ | k <;> rfl
theorem frY_setF (y : Yard) (f : List Int) (k : Nat) : frY (setF y f) k = frY y k := by
  rcases k with _ | _ | _ | _ | _ | _ | _ | _ | _ | _ | _ | k <;> rfl
theorem Rep.same {n : Nat} {U : Wk} {y z : Yard} (h : Rep n U y) (ho : z.1 = y.1) (hf : ∀ k, frY z k = frY y k) : Rep n U z :=
  ⟨ho.trans h.ord, h.le, h.lim, fun k hk => by rw [hf]; exact h.row k hk, fun k hk => by rw [hf]; exact h.nil k hk⟩
theorem F44_eq (K : Nat) (b : Bk) (x : Int) : F44 K b x = some (cmpI b.1 x) := by
  simp only [F44, G44, t44, F39_eq, Option.bind_some]
theorem L43_eq (K : Nat) (l : List Bk) (x : Int) (hl : l.length ≤ 100000) (hs : IncK keyB l) : ∀ (n i j : Nat), j - i < n → i ≤ posK keyB l x → posK keyB l x ≤ j → j ≤ l.length →
    L43_0 (F44 K) K l x () n (i : Int) (j : Int) = some ((posK keyB l x : Int), decide (x ∈ l.map keyB))
  | 0, i, j, h, _, _, _ => by omega
  | n + 1, i, j, h, h1, h2, h3 => by
    simp only [L43_0, b43_0]
    by_cases c : i < j
    · rw [if_pos (decide_eq_true (show (i : Int) < (j : Int) by omega)), half (by omega)]
      have hm : (i + j) / 2 < j ∧ i ≤ (i + j) / 2 := by omega
      generalize (i + j) / 2 = m at hm
      have em : IntKind.i64.wrap ((m : Int) + 1) = ((m + 1 : Nat) : Int) := by rw [i64_in (by omega) (by omega)]; omega
      rw [if_pos (decide_eq_true (by omega)), F44_eq, Option.bind_some, em, Int.toNat_natCast]
      have hg := getK (key := keyB) (z := zEl T29) (x := x) hs m (by omega)
      by_cases c2 : m < posK keyB l x
      · rw [if_pos (show decide (cmpI (l.getD m (zEl T29)).1 x < 0) = true from decide_eq_true ((cmpI_neg _ _).2 (hg.2 c2)))]
        exact L43_eq K l x hl hs n (m + 1) j (by omega) (by omega) h2 h3
      · rw [if_neg (show ¬ decide (cmpI (l.getD m (zEl T29)).1 x < 0) = true by rw [decide_eq_true_eq]; exact fun h => c2 (hg.1 ((cmpI_neg _ _).1 h)))]
        exact L43_eq K l x hl hs n i m (by omega) h1 (by omega) (by omega)
    · have hi : i = posK keyB l x := by omega
      have hf := foundK (key := keyB) (z := zEl T29) (x := x) hs
      rw [if_neg (by simp; omega), ← hi] at *
      by_cases c2 : i < l.length
      · rw [if_pos (decide_eq_true (by omega)), if_pos (decide_eq_true (by omega)), Int.toNat_natCast, F44_eq, Option.bind_some]
        by_cases c3 : keyB (l.getD i (zEl T29)) = x
        · rw [decide_eq_true (hf.2 ⟨c2, c3⟩)]
          have : cmpI (l.getD i (zEl T29)).1 x = 0 := (cmpI_zero _ _).2 c3
          rw [this]
          rfl
        · have : ¬ cmpI (l.getD i (zEl T29)).1 x = 0 := fun h => c3 ((cmpI_zero _ _).1 h)
          rw [decide_eq_false (fun h => c3 (hf.1 h).2), beq_eq_false_iff_ne.2 this]
      · rw [if_neg (by simp; omega), decide_eq_false (fun h => c2 (hf.1 h).1)]
theorem F43_eq (K : Nat) (l : List Bk) (x : Int) (hl : l.length ≤ 100000) (hK : l.length < K) (hs : IncK keyB l) : F43 K l x () = some ((posK keyB l x : Int), decide (x ∈ l.map keyB)) :=
  L43_eq K l x hl hs K 0 l.length (by omega) (Nat.zero_le _) (posK_le l x) (Nat.le_refl _)
theorem F68_eq (K : Nat) (l : List Bk) (b : Bk) (hl : l.length ≤ 100000) : F68 K ((posK keyB l (keyB b) : Int), [b]) l = some (insK keyB b l) := by
  have := posK_le (key := keyB) l (keyB b)
  unfold F68
  dsimp only
  rw [if_pos ⟨by omega, by omega, by simp, by simp; omega⟩, Int.toNat_natCast]
  exact congrArg some (insK_eq (key := keyB) b l)
theorem F45_eq (K : Nat) (l : List Bk) (x : Int) (hl : l.length ≤ 100000) (h : posK keyB l x < l.length) : F45 K ((posK keyB l x : Int), IntKind.i64.wrap ((posK keyB l x : Int) + 1)) l = some (delK keyB x l) := by
  have e1 : IntKind.i64.wrap ((posK keyB l x : Int) + 1) = ((posK keyB l x + 1 : Nat) : Int) := by rw [i64_in (by omega) (by omega)]; omega
  unfold F45
  dsimp only
  rw [e1, if_pos ⟨by omega, by omega, by omega⟩, Int.toNat_natCast, Int.toNat_natCast]
  exact congrArg some (delK_eq (key := keyB) x l)
theorem F41_eq (K : Nat) (hK : 100 ≤ K) {n : Nat} (hn : n ≤ 6) {y : Yard} (ht : Tk n (tkY y)) (b : Bk) : F41 K b y = some ((), setT y (insK keyB b (tkY y))) := by
  have hlen := ht.len hn
  have e1 := F43_eq K (tkY y) b.1 (by omega) (by omega) ht.inc
  have e2 := F68_eq K (tkY y) b (by omega)
  unfold F41 G41 t41
  rw [e1, Option.bind_some]
  dsimp only
  rw [show (posK keyB (tkY y) b.1) = posK keyB (tkY y) (keyB b) from rfl, e2]
  rfl
theorem L16_eq (K : Nat) {n : Nat} (hn : n ≤ 6) (y : Yard) (ht : Tk n (tkY y)) (x : Int) (hl : (tkY y).length ≤ 100000) : ∀ (f : Nat) (pre suf : List Bk), tkY y = pre ++ suf → suf.length < f → (∀ b ∈ pre, inI b x = false) →
    L16_0 (F42 K) K y x f (pre.length : Int) = some (match (tkY y).find? (fun b => inI b x) with | some b => (b, true) | none => (((0 : Int), (0 : Int)), false))
  | 0, pre, suf, e, h, hp => by omega
  | f + 1, pre, [], e, h, hp => by
    have := fin e
    have hnone : (tkY y).find? (fun b => inI b x) = none := by
      rw [List.find?_eq_none, ← this.2]
      intro b hb
      rw [hp b hb]; exact Bool.false_ne_true
    rw [hnone]
    simp only [L16_0, b16_0]
    rw [show (↑(List.length y.2.2.2.2.2.2.2.2.2.2.2.2.1) : Int) = ((tkY y).length : Int) from rfl, this.1]
    rfl
  | f + 1, pre, b :: suf, e, h, hp => by
    obtain ⟨h1, h2, h3, h4, h5, h6⟩ := mid e (zEl T29) (by omega)
    have hb : isBlk n b := ht.blk b (by rw [e]; simp)
    simp only [L16_0, b16_0]
    rw [show (↑(List.length y.2.2.2.2.2.2.2.2.2.2.2.2.1) : Int) = ((tkY y).length : Int) from rfl, h1, h2, if_pos rfl, if_pos rfl, show List.getD y.2.2.2.2.2.2.2.2.2.2.2.2.1 ((pre.length : Int)).toNat (zEl T29) = b from h3, F42_eq K hn hb, Option.bind_some, h4]
    cases c : inI b x with
    | true =>
      rw [if_pos rfl]
      have : (tkY y).find? (fun b => inI b x) = some b := by
        rw [e, List.find?_append]
        have : pre.find? (fun b => inI b x) = none := by
          rw [List.find?_eq_none]
          intro b hb
          rw [hp b hb]; exact Bool.false_ne_true
        rw [this]
        simp [c]
      rw [this]
    | false =>
      rw [if_neg Bool.false_ne_true]
      refine L16_eq K hn y ht x hl f (pre ++ [b]) suf h5 (by simpa using h) fun d hd => ?_
      rcases List.mem_append.1 hd with hd | hd
      · exact hp d hd
      · rw [List.mem_singleton.1 hd]; exact c
def heldS (t : List Bk) (x : Int) : Bk × Bool := match t.find? (fun b => inI b x) with | some b => (b, true) | none => (((0 : Int), (0 : Int)), false)
theorem F16_eq (K : Nat) (hK : 100 ≤ K) {n : Nat} (hn : n ≤ 6) (y : Yard) (ht : Tk n (tkY y)) (x : Int) : F16 K y x = some (heldS (tkY y) x) := by
  have := ht.len hn
  exact L16_eq K hn y ht x (by omega) K [] (tkY y) rfl (by omega) (fun b hb => by cases hb)
theorem L87_eq (K : Nat) {n : Nat} (hn : n ≤ 6) {b : Bk} (hb : isBlk n b) (l : List Int) (hl : l.length ≤ 100000) : ∀ (f : Nat) (pre suf : List Int), l = pre ++ suf → suf.length < f → (∀ x ∈ pre, inI b x = false) →
    ∃ r : Int, L87_0 (F70 K) K l b f (pre.length : Int) = some r ∧ decide (r ≥ 0) = l.any (inI b)
  | 0, pre, suf, e, h, hp => by omega
  | f + 1, pre, [], e, h, hp => by
    have := fin e
    refine ⟨-1, ?_, ?_⟩
    · simp only [L87_0, b87_0, this.1]
      rfl
    · rw [← this.2]
      symm
      rw [decide_eq_false (by decide), List.any_eq_false]
      exact fun x hx => by rw [hp x hx]; exact Bool.false_ne_true
  | f + 1, pre, x :: suf, e, h, hp => by
    obtain ⟨h1, h2, h3, h4, h5, h6⟩ := mid e (zEl (Ty.int IntKind.i64)) (by omega)
    have e70 : F70 K x b = some (inI b x) := by
      simp only [F70, G70, t70, F42_eq K hn hb, Option.bind_some]
    simp only [L87_0, b87_0, h1, h2, h3, h4, if_true, e70, Option.bind_some]
    cases c : inI b x with
    | true =>
      refine ⟨_, if_pos rfl, ?_⟩
      rw [decide_eq_true (by omega)]
      symm
      rw [List.any_eq_true]
      exact ⟨x, by rw [e]; simp, c⟩
    | false =>
      rw [if_neg Bool.false_ne_true]
      refine L87_eq K hn hb l hl f (pre ++ [x]) suf h5 (by simpa using h) fun d hd => ?_
      rcases List.mem_append.1 hd with hd | hd
      · exact hp d hd
      · rw [List.mem_singleton.1 hd]; exact c
theorem F69_eq (K : Nat) {n : Nat} (hn : n ≤ 6) {b : Bk} (hb : isBlk n b) (l : List Int) (hl : l.length ≤ 100000) (hK : l.length < K) : F69 K l b = some (l.any (inI b)) := by
  obtain ⟨r, h1, h2⟩ := L87_eq K hn hb l hl K [] l rfl hK (fun x hx => by cases hx)
  have h1 : F87 K l b = some r := h1
  unfold F69 G69 t69
  rw [h1, Option.bind_some, h2]
end Go.Proofs.YtiicginipjbloaaE
/- Buddy: open, TakeAt, Give, Fail, Heal, Take: the yard stays right, and what they answer. -/
namespace Go.Proofs.YtiicginipjbloaaE
open Go Go.Proofs
set_option maxRecDepth 100000
set_option linter.unusedVariables false
def openU (U : Wk) (f : List Int) (j p : Nat) : Wk := fun w => U w || (decide (w / 2 ^ j = p) && !decide ((w : Int) ∈ f))
theorem R46_eq (K : Nat) (hK : 100 ≤ K) {n : Nat} (hn : n ≤ 6) : ∀ (j d p : Nat) (U : Wk) (y : Yard), j < d → j ≤ n → p < 2 ^ (n - j) → Rep n U y → Fl n (flY y) → (∀ w, w / 2 ^ j = p → U w = false) →
    ∃ y', R46 K d (mkB j p) y = some ((), y') ∧ Rep n (openU U (flY y) j p) y' ∧ tkY y' = tkY y ∧ flY y' = flY y
  | j, 0, p, U, y, h, _, _, _, _, _ => by omega
  | j, d + 1, p, U, y, h, hj, hp, hR, hf, hd => by
    have hblk : isBlk n (mkB j p) := ⟨j, p, rfl, hj, hp⟩
    have hfl := hf.len hn
    have e69 := F69_eq K hn hblk (flY y) (by omega) (by omega)
    show ∃ y', G46 (F69 K) (F54 K) (F63 K) (R46 K d) K (mkB j p) y = some ((), y') ∧ _
    unfold G46 t46
    rw [e69, Option.bind_some]
    by_cases c : (flY y).any (inI (mkB j p)) = true
    · rw [c, if_neg (by decide)]
      cases j with
      | zero =>
        refine ⟨y, ?_, ?_, rfl, rfl⟩
        · rw [if_pos (show ((((0 : Nat) : Int)) == (0 : Int)) = true from rfl)]
        · have : openU U (flY y) 0 p = U := by
            funext w
            unfold openU
            by_cases cw : w / 2 ^ 0 = p
            · obtain ⟨x, hx, hin⟩ := List.any_eq_true.1 c
              obtain ⟨v, rfl, _⟩ := hf.lim x hx
              have hv := inI_iff.1 hin
              have e : w = v := by simpa using cw.trans hv.symm
              subst e
              simp [hx]
            · have : ¬ w = p := by simpa using cw
              simp [this]
          rw [this]; exact hR
      | succ i =>
        obtain ⟨s1, s2, s3⟩ := start_lt hn hj hp
        have e0 : IntKind.i64.wrap (((i + 1 : Nat) : Int) - 1) = (i : Int) := by rw [i64_in (by omega) (by omega)]; omega
        have e1 := F63_eq K i (by omega)
        have hpi : 2 ^ i ≤ 64 := pow_le6 (by omega)
        have e2' : ∀ A B : Nat, A ≤ 64 → B ≤ 64 → IntKind.i64.wrap ((A : Int) + (B : Int)) = ((A + B : Nat) : Int) := fun A B hA hB => by
          rw [i64_in (by omega) (by omega)]; omega
        have e2 : IntKind.i64.wrap (((p * 2 ^ (i + 1) : Nat) : Int) + ((2 ^ i : Nat) : Int)) = (((2 * p + 1) * 2 ^ i : Nat) : Int) := by
          rw [e2' _ _ (Nat.le_of_lt s1) hpi, high_half]
        have hne : ¬ ((((i + 1 : Nat) : Int)) == (0 : Int)) = true := by
          rw [beq_iff_eq]; omega
        have hb1 : 2 * p < 2 ^ (n - i) ∧ 2 * p + 1 < 2 ^ (n - i) := by
          have e : n - i = (n - (i + 1)) + 1 := by omega
          rw [e, Nat.pow_succ]
          omega
        have hw : ∀ w, w / 2 ^ (i + 1) = p ↔ w / 2 ^ i = 2 * p ∨ w / 2 ^ i = 2 * p + 1 := fun w => by rw [div_succ]; omega
        obtain ⟨y1, g1, g2, g3, g4⟩ := R46_eq K hK hn i d (2 * p) U y (by omega) (by omega) hb1.1 hR hf (fun w h => hd w ((hw w).2 (.inl h)))
        obtain ⟨y2, k1, k2, k3, k4⟩ := R46_eq K hK hn i d (2 * p + 1) _ y1 (by omega) (by omega) hb1.2 g2 (by rw [g4]; exact hf) (fun w h => by
          have h1 := hd w ((hw w).2 (.inr h))
          unfold openU
          rw [h1]
          have : ¬ w / 2 ^ i = 2 * p := by omega
          simp [this])
        refine ⟨y2, ?_, ?_, k3.trans g3, k4.trans g4⟩
        · dsimp only [mkB]
          rw [if_neg hne, e0, low_half]
          simp only [mkB] at g1 k1
          rw [g1, Option.bind_some, e1, Option.bind_some, ← low_half, e2]
          rw [k1, Option.bind_some]
        · have : openU (openU U (flY y) i (2 * p)) (flY y1) i (2 * p + 1) = openU U (flY y) (i + 1) p := by
            funext w
            unfold openU
            rw [g4]
            by_cases c1 : w / 2 ^ i = 2 * p
            · have c2 : ¬ w / 2 ^ i = 2 * p + 1 := by omega
              simp [c1, (hw w).2 (.inl c1)]
            · by_cases c2 : w / 2 ^ i = 2 * p + 1
              · simp [c2, (hw w).2 (.inr c2)]
              · have c3 : ¬ w / 2 ^ (i + 1) = p := fun h => ((hw w).1 h).elim c1 c2
                simp [c1, c2, c3]
          rw [← this]; exact k2
    · rw [Bool.not_eq_true] at c
      obtain ⟨y', h1, h2, h3, h4⟩ := F54_eq K hK hR hj hp hd
      refine ⟨y', ?_, ?_, h3, h4⟩
      · rw [c, if_pos (by decide)]
        simp only [mkB]
        rw [h1, Option.bind_some]
      · have : openU U (flY y) j p = addB U j p := by
          funext w
          unfold openU addB
          by_cases cw : w / 2 ^ j = p
          · have : ¬ (w : Int) ∈ flY y := fun hm => by
              have := List.any_eq_false.1 c _ hm
              exact this (inI_iff.2 cw)
            simp [cw, this]
          · simp [cw]
        rw [this]; exact h2
theorem F46_eq (K : Nat) (hK : 100 ≤ K) {n : Nat} (hn : n ≤ 6) {j p : Nat} {U : Wk} {y : Yard} (hj : j ≤ n) (hp : p < 2 ^ (n - j)) (hR : Rep n U y) (hf : Fl n (flY y)) (hd : ∀ w, w / 2 ^ j = p → U w = false) :
    ∃ y', F46 K (mkB j p) y = some ((), y') ∧ Rep n (openU U (flY y) j p) y' ∧ tkY y' = tkY y ∧ flY y' = flY y :=
  R46_eq K hK hn j K p U y (by omega) hj hp hR hf hd
theorem opn_ins {n : Nat} {t : List Bk} {f : List Int} {j p : Nat} : opn n (insK keyB (mkB j p) t) f = subB (opn n t f) j p := by
  funext w
  rw [Bool.eq_iff_iff]
  simp only [subB, Bool.and_eq_true, opn_iff, Bool.not_eq_true', decide_eq_false_iff_not]
  constructor
  · rintro ⟨h1, h2, h3⟩
    refine ⟨⟨h1, h2, fun b hb => h3 b (mem_insK.2 (.inr hb))⟩, fun h => ?_⟩
    have := h3 _ (mem_insK.2 (.inl rfl))
    rw [inI_iff.2 h] at this
    cases this
  · rintro ⟨⟨h1, h2, h3⟩, h4⟩
    refine ⟨h1, h2, fun b hb => ?_⟩
    rcases mem_insK.1 hb with rfl | hb
    · cases c : inI (mkB j p) (w : Int) with
      | false => rfl
      | true => exact absurd (inI_iff.1 c) h4
    · exact h3 b hb
theorem inI_start {n : Nat} {b : Bk} (hb : isBlk n b) : inI b b.1 = true := by
  obtain ⟨j, p, rfl, _, _⟩ := hb
  exact inI_iff.2 (first_in j p)
theorem Tk.ins {n : Nat} {t : List Bk} {f : List Int} (h : Tk n t) {j p : Nat} (hj : j ≤ n) (hp : p < 2 ^ (n - j)) (hF : Full (opn n t f) j p) : Tk n (insK keyB (mkB j p) t) ∧ ¬ keyB (mkB j p) ∈ t.map keyB := by
  have hdis : ∀ b ∈ t, ∀ x, inI b x = true → inI (mkB j p) x = true → False := fun b hb x h1 h2 => by
    obtain ⟨w, rfl⟩ := inI_nat (h.blk b hb) h1
    have := (opn_iff.1 (hF w (inI_iff.1 h2))).2.2 b hb
    rw [h1] at this
    cases this
  have hno : ¬ keyB (mkB j p) ∈ t.map keyB := fun hm => by
    obtain ⟨b, hb, e⟩ := List.mem_map.1 hm
    have e : b.1 = ((p * 2 ^ j : Nat) : Int) := e
    have h1 := inI_start (h.blk b hb)
    rw [e] at h1
    exact hdis b hb _ h1 (inI_iff.2 (first_in j p))
  refine ⟨⟨incK_insK h.inc hno, fun b hb => ?_, fun b hb c hc x h1 h2 => ?_⟩, hno⟩
  · rcases mem_insK.1 hb with rfl | hb
    · exact ⟨j, p, rfl, hj, hp⟩
    · exact h.blk b hb
  · rcases mem_insK.1 hb with rfl | hb <;> rcases mem_insK.1 hc with rfl | hc
    · rfl
    · exact (hdis c hc x h2 h1).elim
    · exact (hdis b hb x h1 h2).elim
    · exact h.dis b hb c hc x h1 h2
theorem take_at (K : Nat) (hK : 100 ≤ K) {n : Nat} {y : Yard} (h : Ok n y) {o q k p : Nat} (hko : k ≤ o) (hon : o ≤ n) (hm : Max n (opn n (tkY y) (flY y)) o q) (hpq : p * 2 ^ k / 2 ^ o = q) :
    ∃ y1 y2, F40 K (mkB o q) (mkB k p) y = some ((), y1) ∧ F41 K (mkB k p) y1 = some ((), y2) ∧ Ok n y2 ∧ tkY y2 = insK keyB (mkB k p) (tkY y) ∧ flY y2 = flY y := by
  have hn := h.rep.le
  obtain ⟨y1, h1, h2, h3, h4⟩ := F40_eq K hK h.rep hko hon hm hpq
  have hF : Full (opn n (tkY y) (flY y)) k p := by
    have := Full.le (k := k) (k' := o) (w := p * 2 ^ k) (by rw [hpq]; exact hm.1) hko
    rwa [first_in] at this
  have hp : p < 2 ^ (n - k) := by
    have h1 := lim_q h.rep.lim hF
    have h2 : 2 ^ n = 2 ^ (n - k) * 2 ^ k := by rw [← Nat.pow_add, Nat.sub_add_cancel (by omega)]
    rw [h2] at h1
    exact Nat.lt_of_mul_lt_mul_right h1
  have ht := h.tk.ins (f := flY y) (by omega) hp hF
  have e := F41_eq K hK hn (y := y1) (by rw [h3]; exact h.tk) (mkB k p)
  refine ⟨y1, _, h1, e, ⟨?_, ?_, ?_⟩, ?_, ?_⟩
  · show Rep n (opn n (insK keyB (mkB k p) (tkY y1)) (flY y1)) _
    rw [h3, h4, opn_ins]
    exact h2.same rfl (frY_setT y1 _)
  · show Tk n (insK keyB (mkB k p) (tkY y1))
    rw [h3]; exact ht.1
  · show Fl n (flY y1)
    rw [h4]; exact h.fl
  · show insK keyB (mkB k p) (tkY y1) = _
    rw [h3]
  · exact h4
theorem opn_del {n : Nat} {t : List Bk} {f : List Int} (h : Tk n t) {j p : Nat} (hj : j ≤ n) (hp : p < 2 ^ (n - j)) (hb : mkB j p ∈ t) : openU (opn n t f) f j p = opn n (delK keyB (keyB (mkB j p)) t) f := by
  have hm := fun b => mem_delK (key := keyB) (x := keyB (mkB j p)) (b := b) h.inc (List.mem_map_of_mem hb)
  funext w
  rw [Bool.eq_iff_iff]
  simp only [openU, Bool.or_eq_true, Bool.and_eq_true, opn_iff, decide_eq_true_eq, Bool.not_eq_true', decide_eq_false_iff_not]
  constructor
  · rintro (⟨h1, h2, h3⟩ | ⟨h1, h2⟩)
    · exact ⟨h1, h2, fun b hb => h3 b ((hm b).1 hb).1⟩
    · refine ⟨lim_add (U := fun _ => false) (fun w hw => by cases hw) hj hp w (add_in h1), h2, fun b hbm => ?_⟩
      cases c : inI b (w : Int) with
      | false => rfl
      | true =>
        have := h.dis b ((hm b).1 hbm).1 _ hb _ c (inI_iff.2 h1)
        exact absurd (by rw [this]) ((hm b).1 hbm).2
  · rintro ⟨h1, h2, h3⟩
    by_cases c : w / 2 ^ j = p
    · exact .inr ⟨c, h2⟩
    · left
      refine ⟨h1, h2, fun b hbm => ?_⟩
      by_cases e : keyB b = keyB (mkB j p)
      · have h1 := inI_start (h.blk b hbm)
        have e' : b.1 = ((p * 2 ^ j : Nat) : Int) := e
        rw [e'] at h1
        have := h.dis b hbm _ hb _ h1 (inI_iff.2 (first_in j p))
        subst this
        cases c2 : inI (mkB j p) (w : Int) with
        | false => rfl
        | true => exact absurd (inI_iff.1 c2) c
      · exact h3 b ((hm b).2 ⟨hbm, e⟩)
theorem Tk.del {n : Nat} {t : List Bk} (h : Tk n t) (x : Int) : Tk n (delK keyB x t) :=
  ⟨incK_delK h.inc, fun b hb => h.blk b (delK_sub.subset hb), fun b hb c hc => h.dis b (delK_sub.subset hb) c (delK_sub.subset hc)⟩
theorem give_no (K : Nat) (hK : 100 ≤ K) {n : Nat} {y : Yard} (h : Ok n y) {x : Int} (hx : ¬ x ∈ (tkY y).map keyB) : F17 K x y = some ((4 : Int), y) := by
  have hn := h.rep.le
  have hlen := h.tk.len hn
  have e1 := F43_eq K (tkY y) x (by omega) (by omega) h.tk.inc
  unfold F17 G17 t17
  rw [e1, Option.bind_some, decide_eq_false hx, if_pos (by rfl)]
theorem give_yes (K : Nat) (hK : 100 ≤ K) {n : Nat} {y : Yard} (h : Ok n y) {x : Int} (hx : x ∈ (tkY y).map keyB) :
    ∃ y', F17 K x y = some ((0 : Int), y') ∧ Ok n y' ∧ tkY y' = delK keyB x (tkY y) ∧ flY y' = flY y := by
  have hn := h.rep.le
  have hlen := h.tk.len hn
  have e1 := F43_eq K (tkY y) x (by omega) (by omega) h.tk.inc
  obtain ⟨f1, f2⟩ := (foundK (key := keyB) (z := zEl T29) h.tk.inc).1 hx
  have e2 := F45_eq K (tkY y) x (by omega) f1
  have hmem : (tkY y).getD (posK keyB (tkY y) x) (zEl T29) ∈ tkY y := by rw [getD_lt f1]; exact List.getElem_mem f1
  obtain ⟨j, p, hb, hj, hp⟩ := h.tk.blk _ hmem
  rw [hb] at f2 hmem
  obtain ⟨y', g1, g2, g3, g4⟩ := F46_eq K hK hn hj hp (y := setT y (delK keyB x (tkY y))) (h.rep.same rfl (frY_setT y _)) h.fl (fun w hw => by
    cases c : opn n (tkY y) (flY y) w with
    | false => rfl
    | true =>
      have := (opn_iff.1 c).2.2 _ hmem
      rw [inI_iff.2 hw] at this
      cases this)
  have hop := opn_del (f := flY y) h.tk hj hp hmem
  rw [f2] at hop
  refine ⟨y', ?_, ⟨?_, ?_, ?_⟩, g3, g4⟩
  · unfold F17 G17 t17
    rw [e1, Option.bind_some, decide_eq_true hx, if_neg (by exact Bool.false_ne_true)]
    dsimp only
    rw [if_pos (show decide ((0 : Int) ≤ (posK keyB (tkY y) x : Int) ∧ (posK keyB (tkY y) x : Int) < ((tkY y).length : Int)) = true from decide_eq_true (by omega)), e2, Option.bind_some]
    have hb' : List.getD y.2.2.2.2.2.2.2.2.2.2.2.2.1 ((posK keyB (tkY y) x : Int)).toNat (zEl T29) = mkB j p := by rw [Int.toNat_natCast]; exact hb
    rw [hb']
    have g1 : F46 K (mkB j p) (y.1, y.2.1, y.2.2.1, y.2.2.2.1, y.2.2.2.2.1, y.2.2.2.2.2.1, y.2.2.2.2.2.2.1, y.2.2.2.2.2.2.2.1, y.2.2.2.2.2.2.2.2.1, y.2.2.2.2.2.2.2.2.2.1, y.2.2.2.2.2.2.2.2.2.2.1, y.2.2.2.2.2.2.2.2.2.2.2.1, delK keyB x (tkY y), y.2.2.2.2.2.2.2.2.2.2.2.2.2) = some ((), y') := g1
    rw [g1, Option.bind_some]
  · have g3' : tkY y' = delK keyB x (tkY y) := g3
    have g4' : flY y' = flY y := g4
    rw [g3', g4', ← hop]
    exact g2
  · have g3' : tkY y' = delK keyB x (tkY y) := g3
    rw [g3']; exact h.tk.del x
  · have g4' : flY y' = flY y := g4
    rw [g4']; exact h.fl
end Go.Proofs.YtiicginipjbloaaE
/- Buddy: Take, TakeAt, Fail, Heal, each act; a yard behind acts. -/
namespace Go.Proofs.YtiicginipjbloaaE
open Go Go.Proofs
set_option maxRecDepth 100000
set_option linter.unusedVariables false
theorem takeAt_arg (K : Nat) (hK : 100 ≤ K) {n : Nat} {y : Yard} (h : Ok n y) {s o : Int} (hm : ¬ (0 ≤ o ∧ o ≤ (n : Int) ∧ 0 ≤ s ∧ s < ((2 ^ n : Nat) : Int) ∧ s % ((2 ^ o.toNat : Nat) : Int) = 0)) : F36 K (s, o) y = some ((2 : Int), y) := by
  have hn := h.rep.le
  have e1 := F63_eq K n (by omega)
  unfold F36 G36 t36
  dsimp only
  rw [h.rep.ord]
  by_cases c1 : o < 0
  · rw [if_pos (decide_eq_true c1)]
  rw [if_neg (by simpa using c1)]
  by_cases c2 : o > (n : Int)
  · rw [if_pos (decide_eq_true c2)]
  rw [if_neg (by simpa using c2)]
  by_cases c3 : s < 0
  · rw [if_pos (decide_eq_true c3)]
  rw [if_neg (by simpa using c3), e1, Option.bind_some]
  by_cases c4 : s ≥ ((2 ^ n : Nat) : Int)
  · rw [if_pos (decide_eq_true c4)]
  rw [if_neg (by rw [decide_eq_true_eq]; exact c4)]
  obtain ⟨k, rfl⟩ : ∃ k : Nat, o = (k : Int) := ⟨o.toNat, by omega⟩
  have e2 := F63_eq K k (by omega)
  have hp := pos2 k
  rw [e2, Option.bind_some]
  have hne : (!((2 ^ k : Nat) : Int) == (0 : Int)) = true := by
    have : ¬ ((2 ^ k : Nat) : Int) = 0 := by omega
    rw [beq_eq_false_iff_ne.2 this]; rfl
  rw [if_pos hne, Int.tmod_eq_emod_of_nonneg (by omega)]
  rw [Int.toNat_natCast] at hm
  have : ¬ s % ((2 ^ k : Nat) : Int) = 0 := fun h => hm ⟨by omega, by omega, by omega, by omega, h⟩
  rw [if_pos (bne_iff_ne.2 this)]
theorem takeAt_in (K : Nat) (hK : 100 ≤ K) {n : Nat} {y : Yard} (h : Ok n y) {k p : Nat} (hk : k ≤ n) (hp : p < 2 ^ (n - k)) :
    (Full (opn n (tkY y) (flY y)) k p ∧ ∃ y', F36 K (mkB k p) y = some ((0 : Int), y') ∧ Ok n y' ∧ tkY y' = insK keyB (mkB k p) (tkY y) ∧ flY y' = flY y) ∨
    (¬ Full (opn n (tkY y) (flY y)) k p ∧ F36 K (mkB k p) y = some ((5 : Int), y)) := by
  have hn := h.rep.le
  have e1 := F63_eq K n (by omega)
  have e2 := F63_eq K k (by omega)
  obtain ⟨s1, s2, s3⟩ := start_lt hn hk hp
  have hpk := pos2 k
  have hne : (!((2 ^ k : Nat) : Int) == (0 : Int)) = true := by
    have : ¬ ((2 ^ k : Nat) : Int) = 0 := by omega
    rw [beq_eq_false_iff_ne.2 this]; rfl
  have hmod : ((p * 2 ^ k : Nat) : Int).tmod ((2 ^ k : Nat) : Int) = 0 := by
    rw [Int.natCast_mul, Int.mul_tmod_left]
  have pre : ∀ r, F36 K (mkB k p) y = r ↔ (Option.bind (F52 K y (mkB k p)) fun x2 => (if (!x2.2) = true then some (((5 : Int), y)) else (Option.bind (F40 K x2.1 (mkB k p) y) fun x3 => (Option.bind (F41 K (mkB k p) x3.2) fun x4 => some (((0 : Int), x4.2)))))) = r := by
    intro r
    unfold F36 G36 t36
    dsimp only [mkB]
    have hlt : ¬ ((p * 2 ^ k : Nat) : Int) ≥ ((2 ^ n : Nat) : Int) := fun h => by
      have := Int.ofNat_le.1 h
      omega
    have h0 : ¬ ((p * 2 ^ k : Nat) : Int) < 0 := by
      have := Int.natCast_nonneg (p * 2 ^ k)
      omega
    rw [h.rep.ord, if_neg (show ¬ decide ((k : Int) < 0) = true by simp), if_neg (show ¬ decide ((k : Int) > (n : Int)) = true by simp; omega), if_neg (show ¬ decide (((p * 2 ^ k : Nat) : Int) < 0) = true by rw [decide_eq_true_eq]; exact h0), e1, Option.bind_some,
      if_neg (show ¬ decide (((p * 2 ^ k : Nat) : Int) ≥ ((2 ^ n : Nat) : Int)) = true by rw [decide_eq_true_eq]; exact hlt), e2, Option.bind_some, if_pos hne, hmod, if_neg (by decide)]
  by_cases hF : Full (opn n (tkY y) (flY y)) k p
  · left
    refine ⟨hF, ?_⟩
    obtain ⟨o, h1, h2, h3, h4⟩ := F52_yes K hK h.rep hk hp hF
    obtain ⟨y1, y2, g1, g2, g3, g4, g5⟩ := take_at K hK h h1 h2 h3 (over_div h1)
    refine ⟨y2, (pre _).2 ?_, g3, g4, g5⟩
    have h4 : F52 K y (mkB k p) = some (mkB o (p / 2 ^ (o - k)), true) := h4
    rw [h4, Option.bind_some, if_neg (by exact Bool.false_ne_true)]
    dsimp only
    rw [g1, Option.bind_some, g2, Option.bind_some]
  · right
    refine ⟨hF, (pre _).2 ?_⟩
    have h4 : F52 K y (mkB k p) = some ((((0 : Int), (0 : Int)), false)) := F52_no K hK h.rep hk hp hF
    rw [h4, Option.bind_some, if_pos (by rfl)]
noncomputable def taR (K i : Nat) (N : Int) (l : List Int) (a : Int) (y : Yard) (rec : Int → Option ((Int × Int) × Yard)) : Option ((Int × Int) × Yard) :=
  if decide (Int.ofNat i ≤ N) = true then (if decide ((↑l.length : Int) > (0 : Int)) = true then (if decide ((0 : Int) ≤ (0 : Int) ∧ (0 : Int) < (↑l.length : Int)) = true then
      (Option.bind (F40 K (l.getD (Int.toNat (0 : Int)) (zEl (Ty.int IntKind.i64)), Int.ofNat i) (l.getD (Int.toNat (0 : Int)) (zEl (Ty.int IntKind.i64)), a) y) fun x0 =>
       (Option.bind (F41 K (l.getD (Int.toNat (0 : Int)) (zEl (Ty.int IntKind.i64)), a) x0.2) fun x1 => some (((l.getD (Int.toNat (0 : Int)) (zEl (Ty.int IntKind.i64)), (0 : Int)), x1.2))))
     else none)
    else rec (IntKind.i64.wrap (Int.ofNat i + (1 : Int))))
   else some ((((0 : Int), (5 : Int)), y))
theorem L14_r0 (K f : Nat) (y : Yard) (a : Int) : L14_0 (F40 K) (F41 K) K a y (f + 1) ((0 : Nat) : Int) = taR K 0 y.1 (frY y 0) a y (fun x => L14_0 (F40 K) (F41 K) K a y f x) := by kernel_rfl
theorem L14_r1 (K f : Nat) (y : Yard) (a : Int) : L14_0 (F40 K) (F41 K) K a y (f + 1) ((1 : Nat) : Int) = taR K 1 y.1 (frY y 1) a y (fun x => L14_0 (F40 K) (F41 K) K a y f x) := by kernel_rfl
theorem L14_r2 (K f : Nat) (y : Yard) (a : Int) : L14_0 (F40 K) (F41 K) K a y (f + 1) ((2 : Nat) : Int) = taR K 2 y.1 (frY y 2) a y (fun x => L14_0 (F40 K) (F41 K) K a y f x) := by kernel_rfl
theorem L14_r3 (K f : Nat) (y : Yard) (a : Int) : L14_0 (F40 K) (F41 K) K a y (f + 1) ((3 : Nat) : Int) = taR K 3 y.1 (frY y 3) a y (fun x => L14_0 (F40 K) (F41 K) K a y f x) := by kernel_rfl
theorem L14_r4 (K f : Nat) (y : Yard) (a : Int) : L14_0 (F40 K) (F41 K) K a y (f + 1) ((4 : Nat) : Int) = taR K 4 y.1 (frY y 4) a y (fun x => L14_0 (F40 K) (F41 K) K a y f x) := by kernel_rfl
theorem L14_r5 (K f : Nat) (y : Yard) (a : Int) : L14_0 (F40 K) (F41 K) K a y (f + 1) ((5 : Nat) : Int) = taR K 5 y.1 (frY y 5) a y (fun x => L14_0 (F40 K) (F41 K) K a y f x) := by kernel_rfl
theorem L14_r6 (K f : Nat) (y : Yard) (a : Int) : L14_0 (F40 K) (F41 K) K a y (f + 1) ((6 : Nat) : Int) = taR K 6 y.1 (frY y 6) a y (fun x => L14_0 (F40 K) (F41 K) K a y f x) := by kernel_rfl
theorem L14_r7 (K f : Nat) (y : Yard) (a : Int) : L14_0 (F40 K) (F41 K) K a y (f + 1) ((7 : Nat) : Int) = taR K 7 y.1 (frY y 7) a y (fun x => L14_0 (F40 K) (F41 K) K a y f x) := by kernel_rfl
def TakeTo (n : Nat) (y : Yard) (k : Nat) (r : Option ((Int × Int) × Yard)) (o : Nat) : Prop :=
  (∃ e q, o ≤ e ∧ e ≤ n ∧ (∀ i, o ≤ i → i < e → frY y i = []) ∧ (frY y e).head? = some ((q * 2 ^ e : Nat) : Int) ∧ Max n (opn n (tkY y) (flY y)) e q ∧
    ∃ y', r = some ((((q * 2 ^ e : Nat) : Int), (0 : Int)), y') ∧ Ok n y' ∧ tkY y' = insK keyB (mkB k (q * 2 ^ (e - k))) (tkY y) ∧ flY y' = flY y) ∨
  ((∀ i, o ≤ i → i ≤ n → frY y i = []) ∧ r = some (((0 : Int), (5 : Int)), y))
theorem L14_eq (K : Nat) (hK : 100 ≤ K) {n : Nat} {y : Yard} (h : Ok n y) {k : Nat} : ∀ (f o : Nat), n + 1 - o < f → k ≤ o → o ≤ n + 1 → TakeTo n y k (L14_0 (F40 K) (F41 K) K (k : Int) y f (o : Int)) o
  | 0, o, h, _, _ => by omega
  | f + 1, o, hf, hko, ho => by
    have hn := h.rep.le
    have ih := L14_eq K hK h (k := k) f (o + 1)
    have step : ∀ (l : List Int), l = frY y o → L14_0 (F40 K) (F41 K) K (k : Int) y (f + 1) (o : Int) = taR K o y.1 l (k : Int) y (fun x => L14_0 (F40 K) (F41 K) K (k : Int) y f x) → TakeTo n y k (L14_0 (F40 K) (F41 K) K (k : Int) y (f + 1) (o : Int)) o := by
      intro l hl hr
      rw [hr, h.rep.ord]
      unfold taR
      by_cases c : o ≤ n
      · have hrow := h.rep.row o c
        rw [← hl] at hrow
        rw [if_pos (show decide (Int.ofNat o ≤ (n : Int)) = true from decide_eq_true (show (o : Int) ≤ (n : Int) by omega))]
        have e3 : IntKind.i64.wrap (Int.ofNat o + 1) = ((o + 1 : Nat) : Int) := by
          show IntKind.i64.wrap ((o : Int) + 1) = _
          rw [i64_in (by omega) (by omega)]; omega
        cases l with
        | nil =>
          rw [if_neg (by simp), e3]
          rcases ih (by omega) (by omega) (by omega) with ⟨e, q, g1, g2, g3, g4⟩ | ⟨g1, g2⟩
          · refine .inl ⟨e, q, by omega, g2, fun i h1 h2 => ?_, g4⟩
            by_cases ei : i = o
            · rw [ei]; exact hl.symm
            · exact g3 i (by omega) h2
          · refine .inr ⟨fun i h1 h2 => ?_, g2⟩
            by_cases ei : i = o
            · rw [ei]; exact hl.symm
            · exact g1 i (by omega) h2
        | cons s l =>
          obtain ⟨q, rfl, hm⟩ := (hrow.mem s).1 (by simp)
          rw [if_pos (by simp), if_pos (by simp)]
          have e0 : ((((q * 2 ^ o : Nat) : Int)) :: l).getD (Int.toNat (0 : Int)) (zEl (Ty.int IntKind.i64)) = ((q * 2 ^ o : Nat) : Int) := rfl
          have epk : q * 2 ^ (o - k) * 2 ^ k = q * 2 ^ o := by rw [Nat.mul_assoc, ← Nat.pow_add, Nat.sub_add_cancel hko]
          rw [e0]
          obtain ⟨y1, y2, g1, g2, g3, g4, g5⟩ := take_at K hK h hko c hm (p := q * 2 ^ (o - k)) (by rw [epk, first_in])
          simp only [mkB] at g1 g2
          rw [epk] at g1 g2
          have g1 : F40 K (((q * 2 ^ o : Nat) : Int), Int.ofNat o) (((q * 2 ^ o : Nat) : Int), (k : Int)) y = some ((), y1) := g1
          rw [g1, Option.bind_some, g2, Option.bind_some]
          refine .inl ⟨o, q, Nat.le_refl _, c, fun i h1 h2 => by omega, by rw [← hl]; rfl, hm, y2, rfl, g3, g4, g5⟩
      · right
        refine ⟨fun i h1 h2 => by omega, ?_⟩
        rw [if_neg (show ¬ decide (Int.ofNat o ≤ (n : Int)) = true by rw [decide_eq_true_eq]; show ¬ ((o : Int) ≤ (n : Int)); omega)]
    have sev : o = 0 ∨ o = 1 ∨ o = 2 ∨ o = 3 ∨ o = 4 ∨ o = 5 ∨ o = 6 ∨ o = 7 := by omega
    rcases sev with e | e | e | e | e | e | e | e
    · subst e; exact step _ rfl (L14_r0 K f y _)
    · subst e; exact step _ rfl (L14_r1 K f y _)
    · subst e; exact step _ rfl (L14_r2 K f y _)
    · subst e; exact step _ rfl (L14_r3 K f y _)
    · subst e; exact step _ rfl (L14_r4 K f y _)
    · subst e; exact step _ rfl (L14_r5 K f y _)
    · subst e; exact step _ rfl (L14_r6 K f y _)
    · subst e; exact step _ rfl (L14_r7 K f y _)
theorem take_arg (K : Nat) {n : Nat} {y : Yard} (h : Ok n y) {a : Int} (ha : a < 0 ∨ a > (n : Int)) : F14 K a y = some (((0 : Int), (2 : Int)), y) := by
  unfold F14 G14 t14
  rw [h.rep.ord]
  by_cases c : a < 0
  · rw [if_pos (decide_eq_true c)]
  · rw [if_neg (by simpa using c), if_pos (decide_eq_true (ha.resolve_left c))]
theorem take_in (K : Nat) (hK : 100 ≤ K) {n : Nat} {y : Yard} (h : Ok n y) {k : Nat} (hk : k ≤ n) : TakeTo n y k (F14 K (k : Int) y) k := by
  have hn := h.rep.le
  have := L14_eq K hK h (k := k) K k (by omega) (Nat.le_refl _) (by omega)
  have e : F14 K (k : Int) y = L14_0 (F40 K) (F41 K) K (k : Int) y K (k : Int) := by
    unfold F14 G14 t14
    rw [h.rep.ord, if_neg (by simp), if_neg (by simp; omega)]
  rw [e]; exact this
theorem F49_eq (K : Nat) {n : Nat} {y : Yard} (h : Ok n y) (x : Int) : F49 K y x = some (decide (0 ≤ x ∧ x < ((2 ^ n : Nat) : Int))) := by
  have hn := h.rep.le
  have e1 : F63 K y.1 = some ((2 ^ n : Nat) : Int) := by rw [h.rep.ord]; exact F63_eq K n (by omega)
  unfold F49 G49 t49
  by_cases c : x ≥ 0
  · rw [if_pos (decide_eq_true c)]
    rw [e1, Option.bind_some]
    congr 1
    exact decide_eq_decide.2 ⟨fun h => ⟨c, h⟩, fun h => h.2⟩
  · rw [if_neg (by simpa using c)]
    congr 1
    exact (decide_eq_false fun h => c h.1).symm
theorem opn_fail {n : Nat} {t : List Bk} {f : List Int} {w : Nat} : opn n t (insK idI (w : Int) f) = subB (opn n t f) 0 w := by
  funext v
  rw [Bool.eq_iff_iff]
  simp only [subB, Bool.and_eq_true, opn_iff, Bool.not_eq_true', decide_eq_false_iff_not, mem_insK, Nat.pow_zero, Nat.div_one, not_or]
  constructor
  · rintro ⟨h1, ⟨h2, h2'⟩, h3⟩
    exact ⟨⟨h1, h2', h3⟩, fun e => h2 (by rw [e])⟩
  · rintro ⟨⟨h1, h2, h3⟩, h4⟩
    exact ⟨h1, ⟨fun e => h4 (Int.ofNat.inj e), h2⟩, h3⟩
theorem Fl.ins {n : Nat} {f : List Int} (h : Fl n f) {w : Nat} (hw : w < 2 ^ n) (hx : ¬ (w : Int) ∈ f) : Fl n (insK idI (w : Int) f) :=
  ⟨incK_insK h.inc (by simpa using hx), fun x hx => by
    rcases mem_insK.1 hx with rfl | hx
    · exact ⟨w, rfl, hw⟩
    · exact h.lim x hx⟩
theorem fail_arg (K : Nat) {n : Nat} {y : Yard} (h : Ok n y) {x : Int} (hx : ¬ (0 ≤ x ∧ x < ((2 ^ n : Nat) : Int))) : F22 K x y = some ((2 : Int), y) := by
  unfold F22 G22 t22
  rw [F49_eq K h x, Option.bind_some, decide_eq_false hx, if_pos (by rfl)]
theorem fail_twice (K : Nat) (hK : 100 ≤ K) {n : Nat} {y : Yard} (h : Ok n y) {w : Nat} (hw : w < 2 ^ n) (hx : (w : Int) ∈ flY y) : F22 K (w : Int) y = some ((30 : Int), y) := by
  have hn := h.rep.le
  have hlen := h.fl.len hn
  have e1 := F50_eq K (flY y) (w : Int) (by omega) (by omega) h.fl.inc
  unfold F22 G22 t22
  rw [F49_eq K h _, Option.bind_some, decide_eq_true ⟨by omega, Int.ofNat_lt.2 hw⟩, if_neg (by decide), e1, Option.bind_some, decide_eq_true hx, if_pos rfl]
theorem sub_none {U : Wk} {w : Nat} (h : U w = false) : subB U 0 w = U := by
  funext v
  unfold subB
  by_cases c : v = w
  · subst c; simp [h]
  · simp [c]
theorem full0 {U : Wk} {w : Nat} : Full U 0 w ↔ U w = true := ⟨fun h => h w (by simp), fun h v hv => by
  have : v = w := by simpa using hv
  rw [this]; exact h⟩
theorem fail_ok (K : Nat) (hK : 100 ≤ K) {n : Nat} {y : Yard} (h : Ok n y) {w : Nat} (hw : w < 2 ^ n) (hx : ¬ (w : Int) ∈ flY y) :
    ∃ y', F22 K (w : Int) y = some ((0 : Int), y') ∧ Ok n y' ∧ tkY y' = tkY y ∧ flY y' = insK idI (w : Int) (flY y) := by
  have hn := h.rep.le
  have hlen := h.fl.len hn
  have e1 := F50_eq K (flY y) (w : Int) (by omega) (by omega) h.fl.inc
  have e2 := F51_eq K (flY y) (w : Int) (by omega)
  have hR1 : Rep n (opn n (tkY y) (flY y)) (setF y (insK idI (w : Int) (flY y))) := h.rep.same rfl (frY_setF y _)
  have hfl := h.fl.ins hw hx
  have hw0 : w < 2 ^ (n - 0) := hw
  have pre : ∀ r, F22 K (w : Int) y = r ↔ (Option.bind (F52 K (setF y (insK idI (w : Int) (flY y))) ((w : Int), (0 : Int))) fun x3 => (if x3.2 = true then (Option.bind (F40 K x3.1 ((w : Int), (0 : Int)) (setF y (insK idI (w : Int) (flY y)))) fun x4 => some (((0 : Int), x4.2))) else some (((0 : Int), setF y (insK idI (w : Int) (flY y)))))) = r := by
    intro r
    unfold F22 G22 t22
    rw [F49_eq K h _, Option.bind_some, decide_eq_true ⟨by omega, Int.ofNat_lt.2 hw⟩, if_neg (by decide), e1, Option.bind_some, decide_eq_false hx, if_neg Bool.false_ne_true]
    dsimp only
    rw [e2, Option.bind_some]
    rfl
  have eB : mkB 0 w = ((w : Int), (0 : Int)) := by simp [mkB]
  by_cases hF : opn n (tkY y) (flY y) w = true
  · obtain ⟨o, h1, h2, h3, h4⟩ := F52_yes K hK hR1 (Nat.zero_le n) hw0 (full0.2 hF)
    have h4 : F52 K (setF y (insK idI (w : Int) (flY y))) (mkB 0 w) = some (mkB o (w / 2 ^ (o - 0)), true) := h4
    rw [eB] at h4
    obtain ⟨y', g1, g2, g3, g4⟩ := F40_eq K hK hR1 h1 h2 h3 (p := w) (k := 0) (by simp)
    have g1 : F40 K (mkB o (w / 2 ^ (o - 0))) (mkB 0 w) (setF y (insK idI (w : Int) (flY y))) = some ((), y') := g1
    rw [eB] at g1
    refine ⟨y', (pre _).2 ?_, ⟨?_, ?_, ?_⟩, g3, g4⟩
    · rw [h4, Option.bind_some, if_pos rfl]
      dsimp only
      rw [g1, Option.bind_some]
    · have g3' : tkY y' = tkY y := g3
      have g4' : flY y' = insK idI (w : Int) (flY y) := g4
      rw [g3', g4', opn_fail]
      exact g2
    · have g3' : tkY y' = tkY y := g3
      rw [g3']; exact h.tk
    · have g4' : flY y' = insK idI (w : Int) (flY y) := g4
      rw [g4']; exact hfl
  · have hF' : opn n (tkY y) (flY y) w = false := by simpa using hF
    have h4 : F52 K (setF y (insK idI (w : Int) (flY y))) (mkB 0 w) = some ((((0 : Int), (0 : Int)), false)) := F52_no K hK hR1 (Nat.zero_le n) hw0 (fun h => hF (full0.1 h))
    rw [eB] at h4
    refine ⟨setF y (insK idI (w : Int) (flY y)), (pre _).2 ?_, ⟨?_, h.tk, hfl⟩, rfl, rfl⟩
    · rw [h4, Option.bind_some, if_neg (by exact Bool.false_ne_true)]
    · show Rep n (opn n (tkY y) (insK idI (w : Int) (flY y))) _
      rw [opn_fail, sub_none hF']
      exact hR1
theorem heal_arg (K : Nat) {n : Nat} {y : Yard} (h : Ok n y) {x : Int} (hx : ¬ (0 ≤ x ∧ x < ((2 ^ n : Nat) : Int))) : F23 K x y = some ((2 : Int), y) := by
  unfold F23 G23 t23
  rw [F49_eq K h x, Option.bind_some, decide_eq_false hx, if_pos (by rfl)]
theorem heal_none (K : Nat) (hK : 100 ≤ K) {n : Nat} {y : Yard} (h : Ok n y) {w : Nat} (hw : w < 2 ^ n) (hx : ¬ (w : Int) ∈ flY y) : F23 K (w : Int) y = some ((4 : Int), y) := by
  have hn := h.rep.le
  have hlen := h.fl.len hn
  have e1 := F50_eq K (flY y) (w : Int) (by omega) (by omega) h.fl.inc
  unfold F23 G23 t23
  rw [F49_eq K h _, Option.bind_some, decide_eq_true ⟨by omega, Int.ofNat_lt.2 hw⟩, if_neg (by decide), e1, Option.bind_some, decide_eq_false hx, if_pos (by rfl)]
theorem find_none {t : List Bk} {x : Int} (h : ∀ b ∈ t, inI b x = false) : t.find? (fun b => inI b x) = none := by
  rw [List.find?_eq_none]
  intro b hb
  rw [h b hb]; exact Bool.false_ne_true
theorem heal_ok (K : Nat) (hK : 100 ≤ K) {n : Nat} {y : Yard} (h : Ok n y) {w : Nat} (hw : w < 2 ^ n) (hx : (w : Int) ∈ flY y) :
    ∃ y', F23 K (w : Int) y = some ((0 : Int), y') ∧ Ok n y' ∧ tkY y' = tkY y ∧ flY y' = delK idI (w : Int) (flY y) := by
  have hn := h.rep.le
  have hlen := h.fl.len hn
  have e1 := F50_eq K (flY y) (w : Int) (by omega) (by omega) h.fl.inc
  have e2 := F53_eq K (flY y) (w : Int) (by omega) (pos_lt h.fl.inc hx)
  have hR1 : Rep n (opn n (tkY y) (flY y)) (setF y (delK idI (w : Int) (flY y))) := h.rep.same rfl (frY_setF y _)
  have hm := fun x => mem_delK (key := idI) (x := (w : Int)) (b := x) h.fl.inc (by simpa using hx)
  have hfl : Fl n (delK idI (w : Int) (flY y)) := ⟨incK_delK h.fl.inc, fun x hx => h.fl.lim x ((hm x).1 hx).1⟩
  have e3 := F16_eq K hK hn (setF y (delK idI (w : Int) (flY y))) h.tk (w : Int)
  have eB : mkB 0 w = ((w : Int), (0 : Int)) := by simp [mkB]
  have pre : ∀ r, F23 K (w : Int) y = r ↔ (if (!(heldS (tkY y) (w : Int)).2) = true then (Option.bind (F54 K ((w : Int), (0 : Int)) (setF y (delK idI (w : Int) (flY y)))) fun x4 => some (((0 : Int), x4.2))) else some (((0 : Int), setF y (delK idI (w : Int) (flY y))))) = r := by
    intro r
    unfold F23 G23 t23
    rw [F49_eq K h _, Option.bind_some, decide_eq_true ⟨by omega, Int.ofNat_lt.2 hw⟩, if_neg (by decide), e1, Option.bind_some, decide_eq_true hx, if_neg (by exact Bool.false_ne_true)]
    dsimp only
    rw [e2, Option.bind_some]
    have e3 : F16 K (y.1, y.2.1, y.2.2.1, y.2.2.2.1, y.2.2.2.2.1, y.2.2.2.2.2.1, y.2.2.2.2.2.2.1, y.2.2.2.2.2.2.2.1, y.2.2.2.2.2.2.2.2.1, y.2.2.2.2.2.2.2.2.2.1, y.2.2.2.2.2.2.2.2.2.2.1, y.2.2.2.2.2.2.2.2.2.2.2.1, y.2.2.2.2.2.2.2.2.2.2.2.2.1, delK idI (w : Int) (flY y)) (w : Int) = some (heldS (tkY y) (w : Int)) := e3
    rw [e3, Option.bind_some]
    rfl
  have hopn : ∀ v, opn n (tkY y) (delK idI (w : Int) (flY y)) v = true ↔ v < 2 ^ n ∧ (¬ (v : Int) ∈ flY y ∨ v = w) ∧ ∀ b ∈ tkY y, inI b (v : Int) = false := by
    intro v
    rw [opn_iff, hm]
    constructor
    · rintro ⟨h1, h2, h3⟩
      refine ⟨h1, ?_, h3⟩
      by_cases c : v = w
      · exact .inr c
      · exact .inl fun hv => h2 ⟨hv, fun e => c (Int.ofNat.inj e)⟩
    · rintro ⟨h1, h2, h3⟩
      refine ⟨h1, fun hv => ?_, h3⟩
      rcases h2 with h2 | rfl
      · exact h2 hv.1
      · exact hv.2 rfl
  by_cases hh : ∃ b ∈ tkY y, inI b (w : Int) = true
  · obtain ⟨b, hb, hin⟩ := hh
    have hheld : (heldS (tkY y) (w : Int)).2 = true := by
      unfold heldS
      cases c : (tkY y).find? (fun b => inI b (w : Int)) with
      | none =>
        have := List.find?_eq_none.1 c b hb
        exact absurd hin this
      | some d => rfl
    refine ⟨setF y (delK idI (w : Int) (flY y)), (pre _).2 ?_, ⟨?_, h.tk, hfl⟩, rfl, rfl⟩
    · rw [hheld, if_neg (by decide)]
    · have : opn n (tkY y) (delK idI (w : Int) (flY y)) = opn n (tkY y) (flY y) := by
        funext v
        rw [Bool.eq_iff_iff, hopn, opn_iff]
        constructor
        · rintro ⟨h1, h2, h3⟩
          refine ⟨h1, ?_, h3⟩
          rcases h2 with h2 | rfl
          · exact h2
          · have := h3 b hb
            rw [hin] at this
            cases this
        · rintro ⟨h1, h2, h3⟩
          exact ⟨h1, .inl h2, h3⟩
      show Rep n (opn n (tkY y) (delK idI (w : Int) (flY y))) _
      rw [this]; exact hR1
  · have hno : ∀ b ∈ tkY y, inI b (w : Int) = false := fun b hb => by
      cases c : inI b (w : Int) with
      | false => rfl
      | true => exact absurd ⟨b, hb, c⟩ hh
    have hheld : (heldS (tkY y) (w : Int)).2 = false := by
      unfold heldS
      rw [find_none hno]
    obtain ⟨y', g1, g2, g3, g4⟩ := F54_eq K hK hR1 (Nat.zero_le n) (p := w) hw (fun v hv => by
      have : v = w := by simpa using hv
      subst this
      cases c : opn n (tkY y) (flY y) v with
      | false => rfl
      | true => exact absurd hx (opn_iff.1 c).2.1)
    have g1 : F54 K (mkB 0 w) (setF y (delK idI (w : Int) (flY y))) = some ((), y') := g1
    rw [eB] at g1
    refine ⟨y', (pre _).2 ?_, ⟨?_, ?_, ?_⟩, g3, g4⟩
    · rw [hheld, if_pos (by rfl), g1, Option.bind_some]
    · have g3' : tkY y' = tkY y := g3
      have g4' : flY y' = delK idI (w : Int) (flY y) := g4
      have : opn n (tkY y) (delK idI (w : Int) (flY y)) = addB (opn n (tkY y) (flY y)) 0 w := by
        funext v
        rw [Bool.eq_iff_iff, hopn]
        simp only [addB, Bool.or_eq_true, opn_iff, decide_eq_true_eq, Nat.pow_zero, Nat.div_one]
        constructor
        · rintro ⟨h1, h2 | h2, h3⟩
          · exact .inl ⟨h1, h2, h3⟩
          · exact .inr h2
        · rintro (⟨h1, h2, h3⟩ | rfl)
          · exact ⟨h1, .inl h2, h3⟩
          · exact ⟨hw, .inr rfl, hno⟩
      rw [g3', g4', this]
      exact g2
    · have g3' : tkY y' = tkY y := g3
      rw [g3']; exact h.tk
    · have g4' : flY y' = delK idI (w : Int) (flY y) := g4
      rw [g4']; exact hfl
end Go.Proofs.YtiicginipjbloaaE
/- Buddy: all free blocks; Fits; rows the same; acts, and a yard behind them. -/
namespace Go.Proofs.YtiicginipjbloaaE
open Go Go.Proofs
set_option maxRecDepth 100000
set_option linter.unusedVariables false
theorem by29 : Try.prog.types[(29 : Nat)].bytes ≤ 100 := by decide +kernel
theorem fits29 {n : Nat} (h : n ≤ 100000) : decide (n * Try.prog.types[(29 : Nat)].bytes ≤ (140737488355328 : Nat)) = true := by
  have := Nat.mul_le_mul h by29
  exact decide_eq_true (by omega)
theorem by3 : Try.prog.types[(3 : Nat)].bytes ≤ 100 := by decide +kernel
theorem fits3 {n : Nat} (h : n ≤ 100000) : decide (n * Try.prog.types[(3 : Nat)].bytes ≤ (140737488355328 : Nat)) = true := by
  have := Nat.mul_le_mul h by3
  exact decide_eq_true (by omega)
theorem F47_eq (K : Nat) (l : List Bk) (hl : l.length ≤ 100000) : F47 K l = some l := by
  simp only [F47, G47, t47, Nat.zero_add, fits29 hl, if_true]
  by_cases c : l.length = 0
  · rw [if_pos c, List.length_eq_zero_iff.1 c]
    exact both_same _
  · rw [if_neg c]
theorem F48_eq (K : Nat) (l : List Int) (hl : l.length ≤ 100000) : F48 K l = some l := by
  simp only [F48, G48, t48, Nat.zero_add, fits3 hl, if_true]
  by_cases c : l.length = 0
  · rw [if_pos c, List.length_eq_zero_iff.1 c]
    exact both_same _
  · rw [if_neg c]
theorem F19_eq (K : Nat) {n : Nat} {y : Yard} (h : Ok n y) : F19 K y = some (tkY y) := by
  have := h.tk.len h.rep.le
  unfold F19 G19 t19
  rw [F47_eq K _ (show (tkY y).length ≤ 100000 by omega)]
  rfl
theorem F21_eq (K : Nat) {n : Nat} {y : Yard} (h : Ok n y) : F21 K y = some (flY y) := by
  have := h.fl.len h.rep.le
  unfold F21 G21 t21
  rw [F48_eq K _ (show (flY y).length ≤ 100000 by omega)]
  rfl
theorem bk_beq (a b : Bk) : (a.1 == b.1 && a.2 == b.2) = decide (a = b) := by
  rw [Bool.eq_iff_iff]
  simp only [Bool.and_eq_true, beq_iff_eq, decide_eq_true_eq]
  exact ⟨fun h => Prod.ext h.1 h.2, fun h => h ▸ ⟨rfl, rfl⟩⟩
theorem L18_eq (K : Nat) (l m : List Bk) (hl : l.length ≤ 100000) : ∀ (n : Nat) (pre s t : List Bk), l = pre ++ s → m = pre ++ t → s.length = t.length → s.length < n →
    L18_0 K l m n (pre.length : Int) = some (decide (s = t))
  | 0, pre, s, t, e, e', hs, h => by omega
  | n + 1, pre, [], t, e, e', hs, h => by
    have := fin e
    have ht : t = [] := List.length_eq_zero_iff.1 hs.symm
    simp only [L18_0, b18_0, this.1, ht]
    rfl
  | n + 1, pre, x :: xs, [], e, e', hs, h => by cases hs
  | n + 1, pre, x :: xs, y :: ys, e, e', hs, h => by
    have hll : l.length = m.length := by rw [e, e', List.length_append, List.length_append, hs]
    obtain ⟨h1, h2, h3, h4, h5, h6⟩ := mid e (zEl T29) (by omega)
    obtain ⟨k1, k2, k3, k4, k5, k6⟩ := mid e' (zEl T29) (by omega)
    by_cases c : x = y
    · subst c
      have ih := L18_eq K l m hl n (pre ++ [x]) xs ys h5 k5 (by simpa using hs) (by simpa using h)
      simp only [L18_0, b18_0, h1, h2, k2, if_true, h3, k3, h4]
      rw [if_neg (by simp), ih]
      congr 1
      exact decide_eq_decide.2 ⟨fun h => by rw [h], fun h => (List.cons.inj h).2⟩
    · simp only [L18_0, b18_0, h1, h2, k2, if_true, h3, k3]
      rw [if_pos (by
        have : ¬ (x.1 = y.1 ∧ x.2 = y.2) := fun h => c (Prod.ext h.1 h.2)
        cases hb : (x.1 == y.1 && x.2 == y.2) with
        | false => rfl
        | true => rw [Bool.and_eq_true, beq_iff_eq, beq_iff_eq] at hb; exact absurd hb this), decide_eq_false (fun h => c (List.cons.inj h).1)]
theorem F18_eq (K : Nat) (l m : List Bk) (hl : l.length ≤ 100000) (hK : l.length < K) : F18 K l m = some (decide (l = m)) := by
  unfold F18 G18 t18
  by_cases c : l.length = m.length
  · rw [if_neg (by simp [c])]
    exact L18_eq K l m hl K [] l m rfl rfl c hK
  · rw [if_pos (by rw [bne_iff_ne]; exact fun h => c (Int.ofNat.inj h)), decide_eq_false (fun h => c (by rw [h]))]
def catY (y : Yard) : Nat → List Bk
  | 0 => []
  | k + 1 => catY y k ++ (frY y k).map fun s => (s, (k : Int))
def frL (y : Yard) : List Bk := insB (catY y 11)
theorem mem_catY {n : Nat} {U : Wk} {y : Yard} (h : Rep n U y) {b : Bk} : ∀ {m : Nat}, b ∈ catY y m ↔ ∃ k q : Nat, k < m ∧ k ≤ n ∧ b = mkB k q ∧ Max n U k q
  | 0 => by simp [catY]
  | m + 1 => by
    unfold catY
    rw [List.mem_append, mem_catY h, List.mem_map]
    constructor
    · rintro (⟨k, q, h1, h2⟩ | ⟨s, hs, rfl⟩)
      · exact ⟨k, q, by omega, h2⟩
      · by_cases c : m ≤ n
        · obtain ⟨q, rfl, hq⟩ := ((h.row m c).mem s).1 hs
          exact ⟨m, q, by omega, c, rfl, hq⟩
        · rw [h.nil m (by omega)] at hs
          cases hs
    · rintro ⟨k, q, h1, h2, rfl, h4⟩
      by_cases c : k = m
      · subst c
        exact .inr ⟨_, ((h.row k h2).mem' q).2 h4, rfl⟩
      · exact .inl ⟨k, q, by omega, h2, rfl, h4⟩
theorem max_uniq {n : Nat} {U : Wk} {k k' w : Nat} (hk : k ≤ n) (hk' : k' ≤ n) (h : Max n U k (w / 2 ^ k)) (h' : Max n U k' (w / 2 ^ k')) : k = k' := by
  have key : ∀ a b, b ≤ n → a < b → Max n U a (w / 2 ^ a) → Max n U b (w / 2 ^ b) → False := fun a b hb hab h1 h2 => by
    rcases h1.2 with e | e
    · omega
    · apply e
      have := Full.le (k := a + 1) h2.1 hab
      rwa [div_succ] at this
  rcases Nat.lt_trichotomy k k' with c | c | c
  · exact (key k k' hk' c h h').elim
  · exact c
  · exact (key k' k hk c h' h).elim
theorem catY_nodup {n : Nat} {U : Wk} {y : Yard} (h : Rep n U y) : ∀ m : Nat, ((catY y m).map keyB).Nodup
  | 0 => by simp [catY]
  | m + 1 => by
    unfold catY
    rw [List.map_append, List.nodup_append]
    refine ⟨catY_nodup h m, ?_, fun a ha b hb e => ?_⟩
    · rw [List.map_map]
      have e : (keyB ∘ fun s : Int => ((s, (m : Int)) : Bk)) = id := rfl
      rw [e, List.map_id]
      by_cases c : m ≤ n
      · exact List.Pairwise.imp (fun {a b} hab e => by subst e; exact Int.lt_irrefl _ hab) (h.row m c).inc
      · rw [h.nil m (by omega)]
        exact List.nodup_nil
    · obtain ⟨c, hc, rfl⟩ := List.mem_map.1 ha
      obtain ⟨d, hd, rfl⟩ := List.mem_map.1 hb
      obtain ⟨k, q, h1, h2, rfl, h4⟩ := (mem_catY h).1 hc
      obtain ⟨s, hs, rfl⟩ := List.mem_map.1 hd
      by_cases c : m ≤ n
      · obtain ⟨p, rfl, hp⟩ := ((h.row m c).mem s).1 hs
        have e : ((q * 2 ^ k : Nat) : Int) = ((p * 2 ^ m : Nat) : Int) := e
        have e := Int.ofNat.inj e
        have := max_uniq (w := q * 2 ^ k) h2 c (by rw [first_in]; exact h4) (by rw [e, first_in]; exact hp)
        omega
      · rw [h.nil m (by omega)] at hs
        cases hs
theorem mem_frL {n : Nat} {U : Wk} {y : Yard} (h : Rep n U y) {b : Bk} : b ∈ frL y ↔ ∃ k q : Nat, k ≤ n ∧ b = mkB k q ∧ Max n U k q := by
  have hn := h.le
  unfold frL
  rw [(insB_perm _).mem_iff, mem_catY h]
  exact ⟨fun ⟨k, q, _, h⟩ => ⟨k, q, h⟩, fun ⟨k, q, h⟩ => ⟨k, q, by omega, h⟩⟩
theorem frL_inc {n : Nat} {U : Wk} {y : Yard} (h : Rep n U y) : IncK keyB (frL y) := by
  have hn : ((frL y).map keyB).Nodup := ((insB_perm _).map keyB).nodup_iff.2 (catY_nodup h 11)
  have hs := insB_sorted (catY y 11)
  have hn2 := List.pairwise_map.1 (List.nodup_iff_pairwise_ne.1 hn)
  refine List.Pairwise.imp₂ (fun a b h1 h2 => ?_) hs hn2
  have h1 : keyB a ≤ keyB b := (leB_iff a b).1 h1
  have h2 : ¬ keyB a = keyB b := h2
  show keyB a < keyB b
  omega
theorem frL_len {n : Nat} {U : Wk} {y : Yard} (h : Rep n U y) : (frL y).length ≤ 64 := by
  have h1 : Inc ((frL y).map keyB) := List.pairwise_map.2 (frL_inc h)
  have := inc_len (a := 0) (b := 64) h1 (fun x hx => by
    obtain ⟨b, hb, rfl⟩ := List.mem_map.1 hx
    obtain ⟨k, q, hk, rfl, hm⟩ := (mem_frL h).1 hb
    have := lim_q h.lim hm.1
    have := pow_le6 h.le
    show (0 : Int) ≤ ((q * 2 ^ k : Nat) : Int) ∧ ((q * 2 ^ k : Nat) : Int) < 64
    exact ⟨Int.natCast_nonneg _, by omega⟩) (by decide)
  simp only [List.length_map] at this
  omega
theorem catY_len {n : Nat} {U : Wk} {y : Yard} (h : Rep n U y) (m : Nat) (hm : m ≤ 11) : (catY y m).length ≤ 64 := by
  have key : ∀ d m, m + d = 11 → (catY y m).length ≤ (catY y 11).length := by
    intro d
    induction d with
    | zero => intro m e; have : m = 11 := by omega
              rw [this]; exact Nat.le_refl _
    | succ d ih =>
      intro m e
      refine Nat.le_trans ?_ (ih (m + 1) (by omega))
      show _ ≤ (catY y m ++ _).length
      simp
  have h1 := key (11 - m) m (by omega)
  have h2 := frL_len h
  unfold frL at h2
  rw [(insB_perm _).length_eq] at h2
  omega
theorem L12_1_eq (K : Nat) (y : Yard) (r0 : Int → List Bk → Option (List Bk)) (o i : Int) (l : List Int) (hl : l.length ≤ 1000) : ∀ (f : Nat) (pre suf : List Int) (acc : List Bk), l = pre ++ suf → suf.length < f → acc.length + suf.length ≤ 1000 →
    L12_1 (F37 K) (F38 K) K y r0 f o i l (l.length : Int) (pre.length : Int) acc = r0 (IntKind.i64.wrap (i + 1)) (acc ++ suf.map fun s => (s, o))
  | 0, pre, suf, acc, e, h, _ => by omega
  | f + 1, pre, [], acc, e, h, _ => by
    have := fin e
    simp only [L12_1, b12_1, this.1]
    rw [if_neg Bool.false_ne_true]
    simp
  | f + 1, pre, s :: suf, acc, e, h, ha => by
    obtain ⟨h1, h2, h3, h4, h5, h6⟩ := mid e (zEl (Ty.int IntKind.i64)) (by omega)
    simp only [List.length_cons] at ha
    simp only [L12_1, b12_1, h1, h2, h3, h4, if_true]
    rw [if_pos (fits29 (by simp; omega)), L12_1_eq K y r0 o i l hl f (pre ++ [s]) suf _ h5 (by simpa using h) (by simp; omega)]
    simp
theorem L12_r0 (K f : Nat) (y : Yard) (acc : List Bk) : L12_0 (F37 K) (F38 K) K y (f + 1) ((0 : Nat) : Int) acc = L12_1 (F37 K) (F38 K) K y (L12_0 (F37 K) (F38 K) K y f) K (Int.ofNat 0) ((0 : Nat) : Int) (frY y 0) ((frY y 0).length : Int) 0 acc := by kernel_rfl
theorem L12_r1 (K f : Nat) (y : Yard) (acc : List Bk) : L12_0 (F37 K) (F38 K) K y (f + 1) ((1 : Nat) : Int) acc = L12_1 (F37 K) (F38 K) K y (L12_0 (F37 K) (F38 K) K y f) K (Int.ofNat 1) ((1 : Nat) : Int) (frY y 1) ((frY y 1).length : Int) 0 acc := by kernel_rfl
theorem L12_r2 (K f : Nat) (y : Yard) (acc : List Bk) : L12_0 (F37 K) (F38 K) K y (f + 1) ((2 : Nat) : Int) acc = L12_1 (F37 K) (F38 K) K y (L12_0 (F37 K) (F38 K) K y f) K (Int.ofNat 2) ((2 : Nat) : Int) (frY y 2) ((frY y 2).length : Int) 0 acc := by kernel_rfl
theorem L12_r3 (K f : Nat) (y : Yard) (acc : List Bk) : L12_0 (F37 K) (F38 K) K y (f + 1) ((3 : Nat) : Int) acc = L12_1 (F37 K) (F38 K) K y (L12_0 (F37 K) (F38 K) K y f) K (Int.ofNat 3) ((3 : Nat) : Int) (frY y 3) ((frY y 3).length : Int) 0 acc := by kernel_rfl
theorem L12_r4 (K f : Nat) (y : Yard) (acc : List Bk) : L12_0 (F37 K) (F38 K) K y (f + 1) ((4 : Nat) : Int) acc = L12_1 (F37 K) (F38 K) K y (L12_0 (F37 K) (F38 K) K y f) K (Int.ofNat 4) ((4 : Nat) : Int) (frY y 4) ((frY y 4).length : Int) 0 acc := by kernel_rfl
theorem L12_r5 (K f : Nat) (y : Yard) (acc : List Bk) : L12_0 (F37 K) (F38 K) K y (f + 1) ((5 : Nat) : Int) acc = L12_1 (F37 K) (F38 K) K y (L12_0 (F37 K) (F38 K) K y f) K (Int.ofNat 5) ((5 : Nat) : Int) (frY y 5) ((frY y 5).length : Int) 0 acc := by kernel_rfl
theorem L12_r6 (K f : Nat) (y : Yard) (acc : List Bk) : L12_0 (F37 K) (F38 K) K y (f + 1) ((6 : Nat) : Int) acc = L12_1 (F37 K) (F38 K) K y (L12_0 (F37 K) (F38 K) K y f) K (Int.ofNat 6) ((6 : Nat) : Int) (frY y 6) ((frY y 6).length : Int) 0 acc := by kernel_rfl
theorem L12_r7 (K f : Nat) (y : Yard) (acc : List Bk) : L12_0 (F37 K) (F38 K) K y (f + 1) ((7 : Nat) : Int) acc = L12_1 (F37 K) (F38 K) K y (L12_0 (F37 K) (F38 K) K y f) K (Int.ofNat 7) ((7 : Nat) : Int) (frY y 7) ((frY y 7).length : Int) 0 acc := by kernel_rfl
theorem L12_r8 (K f : Nat) (y : Yard) (acc : List Bk) : L12_0 (F37 K) (F38 K) K y (f + 1) ((8 : Nat) : Int) acc = L12_1 (F37 K) (F38 K) K y (L12_0 (F37 K) (F38 K) K y f) K (Int.ofNat 8) ((8 : Nat) : Int) (frY y 8) ((frY y 8).length : Int) 0 acc := by kernel_rfl
theorem L12_r9 (K f : Nat) (y : Yard) (acc : List Bk) : L12_0 (F37 K) (F38 K) K y (f + 1) ((9 : Nat) : Int) acc = L12_1 (F37 K) (F38 K) K y (L12_0 (F37 K) (F38 K) K y f) K (Int.ofNat 9) ((9 : Nat) : Int) (frY y 9) ((frY y 9).length : Int) 0 acc := by kernel_rfl
theorem L12_r10 (K f : Nat) (y : Yard) (acc : List Bk) : L12_0 (F37 K) (F38 K) K y (f + 1) ((10 : Nat) : Int) acc = L12_1 (F37 K) (F38 K) K y (L12_0 (F37 K) (F38 K) K y f) K (Int.ofNat 10) ((10 : Nat) : Int) (frY y 10) ((frY y 10).length : Int) 0 acc := by kernel_rfl
theorem L12_r11 (K f : Nat) (y : Yard) (acc : List Bk) : L12_0 (F37 K) (F38 K) K y (f + 1) ((11 : Nat) : Int) acc = Option.bind (F37 K () acc) (fun x => some x) := by kernel_rfl
theorem L12_eq (K : Nat) (hK : 100 ≤ K) {n : Nat} {U : Wk} {y : Yard} (h : Rep n U y) : ∀ (f k : Nat), 11 - k < f → k ≤ 11 → L12_0 (F37 K) (F38 K) K y f (k : Int) (catY y k) = some (frL y)
  | 0, k, hf, _ => by omega
  | f + 1, k, hf, hk => by
    have ih := L12_eq K hK h f (k + 1)
    have hc := catY_len h (k + 1)
    have hlen : (frY y k).length + (catY y k).length = (catY y (k + 1)).length := by
      show _ = (catY y k ++ _).length
      simp; omega
    have step : k < 11 → L12_0 (F37 K) (F38 K) K y (f + 1) (k : Int) (catY y k) = L12_1 (F37 K) (F38 K) K y (L12_0 (F37 K) (F38 K) K y f) K (Int.ofNat k) (k : Int) (frY y k) ((frY y k).length : Int) 0 (catY y k) → L12_0 (F37 K) (F38 K) K y (f + 1) (k : Int) (catY y k) = some (frL y) := by
      intro hk' hr
      have hc := hc (by omega)
      have e3 : IntKind.i64.wrap ((k : Int) + 1) = ((k + 1 : Nat) : Int) := by rw [i64_in (by omega) (by omega)]; omega
      have e4 : L12_1 (F37 K) (F38 K) K y (L12_0 (F37 K) (F38 K) K y f) K (Int.ofNat k) (k : Int) (frY y k) ((frY y k).length : Int) (0 : Int) (catY y k) = _ := L12_1_eq K y (L12_0 (F37 K) (F38 K) K y f) (Int.ofNat k) (k : Int) (frY y k) (by omega) K [] (frY y k) (catY y k) rfl (by omega) (by omega)
      rw [hr, e4, e3]
      exact ih (by omega) (by omega)
    have ev : k = 0 ∨ k = 1 ∨ k = 2 ∨ k = 3 ∨ k = 4 ∨ k = 5 ∨ k = 6 ∨ k = 7 ∨ k = 8 ∨ k = 9 ∨ k = 10 ∨ k = 11 := by omega
    rcases ev with e | e | e | e | e | e | e | e | e | e | e | e
    · subst e; exact step (by omega) (L12_r0 K f y _)
    · subst e; exact step (by omega) (L12_r1 K f y _)
    · subst e; exact step (by omega) (L12_r2 K f y _)
    · subst e; exact step (by omega) (L12_r3 K f y _)
    · subst e; exact step (by omega) (L12_r4 K f y _)
    · subst e; exact step (by omega) (L12_r5 K f y _)
    · subst e; exact step (by omega) (L12_r6 K f y _)
    · subst e; exact step (by omega) (L12_r7 K f y _)
    · subst e; exact step (by omega) (L12_r8 K f y _)
    · subst e; exact step (by omega) (L12_r9 K f y _)
    · subst e; exact step (by omega) (L12_r10 K f y _)
    · subst e
      rw [L12_r11]
      have := catY_len h 11 (Nat.le_refl _)
      unfold F37
      rw [if_pos ⟨by omega, catY_nodup h 11⟩]
      rfl
theorem F12_eq (K : Nat) (hK : 100 ≤ K) {n : Nat} {y : Yard} (h : Ok n y) : F12 K y = some (frL y) := L12_eq K hK h.rep K 0 (by omega) (by omega)
theorem frL_one {n : Nat} {U : Wk} {y z : Yard} (hy : Rep n U y) (hz : Rep n U z) : frL y = frL z :=
  incK_ext (key := keyB) (frL_inc hy) (frL_inc hz) fun b => by rw [mem_frL hy, mem_frL hz]
theorem row_one {n : Nat} {U : Wk} {y z : Yard} (hy : Rep n U y) (hz : Rep n U z) (k : Nat) : frY y k = frY z k := by
  by_cases c : k ≤ n
  · exact incK_ext (key := idI) (hy.row k c).inc (hz.row k c).inc fun x => by rw [(hy.row k c).mem, (hz.row k c).mem]
  · rw [hy.nil k (by omega), hz.nil k (by omega)]
noncomputable def fiR (i : Nat) (N : Int) (l : List Int) (rec : Int → Option Bool) : Option Bool :=
  if decide (Int.ofNat i ≤ N) = true then (if decide ((↑(List.length l) : Int) > (0 : Int)) = true then some (true) else rec (IntKind.i64.wrap (Int.ofNat i + (1 : Int)))) else some (false)
theorem L13_r0 (K f : Nat) (y : Yard) (a : Int) : L13_0 K y a (f + 1) ((0 : Nat) : Int) = fiR 0 y.1 (frY y 0) (fun x => L13_0 K y a f x) := by kernel_rfl
theorem L13_r1 (K f : Nat) (y : Yard) (a : Int) : L13_0 K y a (f + 1) ((1 : Nat) : Int) = fiR 1 y.1 (frY y 1) (fun x => L13_0 K y a f x) := by kernel_rfl
theorem L13_r2 (K f : Nat) (y : Yard) (a : Int) : L13_0 K y a (f + 1) ((2 : Nat) : Int) = fiR 2 y.1 (frY y 2) (fun x => L13_0 K y a f x) := by kernel_rfl
theorem L13_r3 (K f : Nat) (y : Yard) (a : Int) : L13_0 K y a (f + 1) ((3 : Nat) : Int) = fiR 3 y.1 (frY y 3) (fun x => L13_0 K y a f x) := by kernel_rfl
theorem L13_r4 (K f : Nat) (y : Yard) (a : Int) : L13_0 K y a (f + 1) ((4 : Nat) : Int) = fiR 4 y.1 (frY y 4) (fun x => L13_0 K y a f x) := by kernel_rfl
theorem L13_r5 (K f : Nat) (y : Yard) (a : Int) : L13_0 K y a (f + 1) ((5 : Nat) : Int) = fiR 5 y.1 (frY y 5) (fun x => L13_0 K y a f x) := by kernel_rfl
theorem L13_r6 (K f : Nat) (y : Yard) (a : Int) : L13_0 K y a (f + 1) ((6 : Nat) : Int) = fiR 6 y.1 (frY y 6) (fun x => L13_0 K y a f x) := by kernel_rfl
theorem L13_r7 (K f : Nat) (y : Yard) (a : Int) : L13_0 K y a (f + 1) ((7 : Nat) : Int) = fiR 7 y.1 (frY y 7) (fun x => L13_0 K y a f x) := by kernel_rfl
open Classical in
noncomputable def fitS (n : Nat) (y : Yard) (o : Nat) : Bool := decide (∃ i, o ≤ i ∧ i ≤ n ∧ frY y i ≠ [])
open Classical in
theorem L13_eq (K : Nat) {n : Nat} {y : Yard} (h : Ok n y) (a : Int) : ∀ (f o : Nat), n + 1 - o < f → o ≤ n + 1 → L13_0 K y a f (o : Int) = some (fitS n y o)
  | 0, o, hf, _ => by omega
  | f + 1, o, hf, ho => by
    have hn := h.rep.le
    have ih := L13_eq K h a f (o + 1)
    have step : ∀ (l : List Int), l = frY y o → L13_0 K y a (f + 1) (o : Int) = fiR o y.1 l (fun x => L13_0 K y a f x) → L13_0 K y a (f + 1) (o : Int) = some (fitS n y o) := by
      intro l hl hr
      rw [hr, h.rep.ord]
      unfold fiR
      by_cases c : o ≤ n
      · rw [if_pos (show decide (Int.ofNat o ≤ (n : Int)) = true from decide_eq_true (show (o : Int) ≤ (n : Int) by omega))]
        have e3 : IntKind.i64.wrap (Int.ofNat o + 1) = ((o + 1 : Nat) : Int) := by
          show IntKind.i64.wrap ((o : Int) + 1) = _
          rw [i64_in (by omega) (by omega)]; omega
        cases l with
        | nil =>
          rw [if_neg (by simp), e3]
          refine (ih (by omega) (by omega)).trans ?_
          unfold fitS
          congr 1
          refine decide_eq_decide.2 ⟨fun ⟨i, h1, h2, h3⟩ => ⟨i, by omega, h2, h3⟩, fun ⟨i, h1, h2, h3⟩ => ?_⟩
          by_cases ei : i = o
          · rw [ei] at h3
            exact absurd hl.symm h3
          · exact ⟨i, by omega, h2, h3⟩
        | cons s l =>
          rw [if_pos (by simp)]
          unfold fitS
          rw [decide_eq_true ⟨o, Nat.le_refl _, c, by rw [← hl]; simp⟩]
      · rw [if_neg (show ¬ decide (Int.ofNat o ≤ (n : Int)) = true by rw [decide_eq_true_eq]; show ¬ ((o : Int) ≤ (n : Int)); omega)]
        unfold fitS
        rw [decide_eq_false (fun ⟨i, h1, h2, _⟩ => by omega)]
    have sev : o = 0 ∨ o = 1 ∨ o = 2 ∨ o = 3 ∨ o = 4 ∨ o = 5 ∨ o = 6 ∨ o = 7 := by omega
    rcases sev with e | e | e | e | e | e | e | e
    · subst e; exact step _ rfl (L13_r0 K f y _)
    · subst e; exact step _ rfl (L13_r1 K f y _)
    · subst e; exact step _ rfl (L13_r2 K f y _)
    · subst e; exact step _ rfl (L13_r3 K f y _)
    · subst e; exact step _ rfl (L13_r4 K f y _)
    · subst e; exact step _ rfl (L13_r5 K f y _)
    · subst e; exact step _ rfl (L13_r6 K f y _)
    · subst e; exact step _ rfl (L13_r7 K f y _)
theorem fits_in (K : Nat) (hK : 100 ≤ K) {n : Nat} {y : Yard} (h : Ok n y) {k : Nat} (hk : k ≤ n) : F13 K y (k : Int) = some (fitS n y k) := by
  have hn := h.rep.le
  have := L13_eq K h (k : Int) K k (by omega) (by omega)
  unfold F13 G13 t13
  rw [if_neg (by simp), if_neg (by rw [decide_eq_true_eq]; show ¬ ((k : Int) > y.1); rw [h.rep.ord]; omega)]
  exact this
theorem fits_out (K : Nat) {n : Nat} {y : Yard} (h : Ok n y) {a : Int} (ha : a < 0 ∨ a > (n : Int)) : F13 K y a = some false := by
  unfold F13 G13 t13
  by_cases c : a < 0
  · rw [if_pos (decide_eq_true c)]
  · rw [if_neg (by simpa using c), if_pos (decide_eq_true (show a > y.1 by rw [h.rep.ord]; exact ha.resolve_left c))]
theorem take_ok (K : Nat) (hK : 100 ≤ K) {n : Nat} {y : Yard} (h : Ok n y) (a : Int) : ∃ r y', F14 K a y = some (r, y') ∧ Ok n y' ∧ flY y' = flY y := by
  by_cases c : a < 0 ∨ a > (n : Int)
  · exact ⟨_, y, take_arg K h c, h, rfl⟩
  · obtain ⟨k, rfl⟩ : ∃ k : Nat, a = (k : Int) := ⟨a.toNat, by omega⟩
    rcases take_in K hK h (k := k) (by omega) with ⟨e, q, _, _, _, _, _, y', g1, g2, _, g3⟩ | ⟨_, g⟩
    · exact ⟨_, y', g1, g2, g3⟩
    · exact ⟨_, y, g, h, rfl⟩
theorem takeAt_ok (K : Nat) (hK : 100 ≤ K) {n : Nat} {y : Yard} (h : Ok n y) (s o : Int) : ∃ r y', F36 K (s, o) y = some (r, y') ∧ Ok n y' ∧ flY y' = flY y := by
  by_cases c : 0 ≤ o ∧ o ≤ (n : Int) ∧ 0 ≤ s ∧ s < ((2 ^ n : Nat) : Int) ∧ s % ((2 ^ o.toNat : Nat) : Int) = 0
  · obtain ⟨c1, c2, c3, c4, c5⟩ := c
    obtain ⟨k, rfl⟩ : ∃ k : Nat, o = (k : Int) := ⟨o.toNat, by omega⟩
    obtain ⟨w, rfl⟩ : ∃ w : Nat, s = (w : Int) := ⟨s.toNat, by omega⟩
    rw [Int.toNat_natCast] at c5
    have hmod : w % 2 ^ k = 0 := by
      rw [← Int.natCast_emod] at c5
      exact Int.ofNat.inj c5
    have hw : w / 2 ^ k * 2 ^ k = w := Nat.div_mul_cancel (Nat.dvd_of_mod_eq_zero hmod)
    have hk : k ≤ n := by omega
    have hlt : w / 2 ^ k < 2 ^ (n - k) := by
      have h1 : w < 2 ^ n := Int.ofNat_lt.1 c4
      have h2 : 2 ^ n = 2 ^ (n - k) * 2 ^ k := by rw [← Nat.pow_add, Nat.sub_add_cancel hk]
      rw [h2] at h1
      exact (Nat.div_lt_iff_lt_mul (pos2 k)).2 h1
    have := takeAt_in K hK h hk hlt
    simp only [mkB, hw] at this
    rcases this with ⟨_, y', g1, g2, _, g3⟩ | ⟨_, g⟩
    · exact ⟨_, y', g1, g2, g3⟩
    · exact ⟨_, y, g, h, rfl⟩
  · exact ⟨_, y, takeAt_arg K hK h c, h, rfl⟩
theorem give_ok (K : Nat) (hK : 100 ≤ K) {n : Nat} {y : Yard} (h : Ok n y) (x : Int) : ∃ r y', F17 K x y = some (r, y') ∧ Ok n y' ∧ tkY y' = delK keyB x (if x ∈ (tkY y).map keyB then tkY y else []) ++ (if x ∈ (tkY y).map keyB then [] else tkY y) ∧ flY y' = flY y := by
  by_cases c : x ∈ (tkY y).map keyB
  · obtain ⟨y', g1, g2, g3, g4⟩ := give_yes K hK h c
    exact ⟨_, y', g1, g2, by rw [if_pos c, if_pos c, List.append_nil]; exact g3, g4⟩
  · exact ⟨_, y, give_no K hK h c, h, by rw [if_neg c, if_neg c]; rfl, rfl⟩
theorem fail_any (K : Nat) (hK : 100 ≤ K) {n : Nat} {y : Yard} (h : Ok n y) (x : Int) : ∃ r y', F22 K x y = some (r, y') ∧ Ok n y' ∧ tkY y' = tkY y := by
  by_cases c : 0 ≤ x ∧ x < ((2 ^ n : Nat) : Int)
  · obtain ⟨w, rfl⟩ : ∃ w : Nat, x = (w : Int) := ⟨x.toNat, by omega⟩
    have hw : w < 2 ^ n := Int.ofNat_lt.1 c.2
    by_cases c2 : (w : Int) ∈ flY y
    · exact ⟨_, y, fail_twice K hK h hw c2, h, rfl⟩
    · obtain ⟨y', g1, g2, g3, g4⟩ := fail_ok K hK h hw c2
      exact ⟨_, y', g1, g2, g3⟩
  · exact ⟨_, y, fail_arg K h c, h, rfl⟩
theorem heal_any (K : Nat) (hK : 100 ≤ K) {n : Nat} {y : Yard} (h : Ok n y) (x : Int) : ∃ r y', F23 K x y = some (r, y') ∧ Ok n y' ∧ tkY y' = tkY y := by
  by_cases c : 0 ≤ x ∧ x < ((2 ^ n : Nat) : Int)
  · obtain ⟨w, rfl⟩ : ∃ w : Nat, x = (w : Int) := ⟨x.toNat, by omega⟩
    have hw : w < 2 ^ n := Int.ofNat_lt.1 c.2
    by_cases c2 : (w : Int) ∈ flY y
    · obtain ⟨y', g1, g2, g3, g4⟩ := heal_ok K hK h hw c2
      exact ⟨_, y', g1, g2, g3⟩
    · exact ⟨_, y, heal_none K hK h hw c2, h, rfl⟩
  · exact ⟨_, y, heal_arg K h c, h, rfl⟩
theorem F28_ok (K : Nat) (hK : 100 ≤ K) {n : Nat} {y : Yard} (h : Ok n y) (x : El T57) : ∃ r y', F28 K x y = some (r, y') ∧ Ok n y' := by
  obtain ⟨r1, y1, a1, b1, _⟩ := take_ok K hK h x.2.1
  obtain ⟨r2, y2, a2, b2, _⟩ := takeAt_ok K hK h x.2.2 x.2.1
  obtain ⟨r3, y3, a3, b3, _⟩ := give_ok K hK h x.2.2
  obtain ⟨r4, y4, a4, b4, _⟩ := fail_any K hK h x.2.2
  obtain ⟨r5, y5, a5, b5, _⟩ := heal_any K hK h x.2.2
  unfold F28 G28 t28
  simp only [a1, a2, a3, a4, a5, Option.bind_some]
  (repeat' split)
  · exact ⟨_, _, rfl, b1⟩
  · exact ⟨_, _, rfl, b1⟩
  · exact ⟨_, _, rfl, b1⟩
  · exact ⟨_, _, rfl, b2⟩
  · exact ⟨_, _, rfl, b3⟩
  · exact ⟨_, _, rfl, b3⟩
  · exact ⟨_, _, rfl, b4⟩
  · exact ⟨_, _, rfl, b5⟩
theorem max_new {n k q : Nat} (hk : k ≤ n) : Max n (opn n [] []) k q ↔ k = n ∧ q = 0 := by
  have hU : ∀ w, opn n [] [] w = true ↔ w < 2 ^ n := fun w => by rw [opn_iff]; simp
  constructor
  · rintro ⟨h1, h2⟩
    have h3 := (hU _).1 h1.one
    by_cases c : k = n
    · subst c
      exact ⟨rfl, by
        have : q * 2 ^ k < 1 * 2 ^ k := by omega
        have := Nat.lt_of_mul_lt_mul_right this
        omega⟩
    · exfalso
      refine (h2.resolve_left c) fun w hw => (hU w).2 ?_
      have e1 : w / 2 ^ (k + 1) = q * 2 ^ k / 2 ^ (k + 1) := by rw [hw, div_succ, first_in]
      have e2 := div_le e1 (show k + 1 ≤ n by omega)
      rw [Nat.div_eq_of_lt h3] at e2
      rcases Nat.div_eq_zero_iff.1 e2 with h | h
      · have := pos2 n; omega
      · exact h
  · rintro ⟨rfl, rfl⟩
    refine ⟨fun w hw => (hU w).2 ?_, .inl rfl⟩
    rcases Nat.div_eq_zero_iff.1 hw with h | h
    · have := pos2 k; omega
    · exact h
theorem ok_new {n : Nat} {y : Yard} (hn : n ≤ 6) (ho : y.1 = (n : Int)) (hr : ∀ k, frY y k = if k = n then [0] else []) (ht : tkY y = []) (hf : flY y = []) : Ok n y := by
  have hU : ∀ w, opn n [] [] w = true ↔ w < 2 ^ n := fun w => by rw [opn_iff]; simp
  refine ⟨?_, ?_, ?_⟩
  · rw [ht, hf]
    refine ⟨ho, hn, fun w hw => (hU w).1 hw, fun k hk => ?_, fun k hk => by rw [hr, if_neg (by omega)]⟩
    rw [hr]
    by_cases c : k = n
    · rw [if_pos c]
      refine ⟨List.pairwise_singleton _ _, fun x => ?_⟩
      rw [List.mem_singleton]
      constructor
      · rintro rfl
        exact ⟨0, by simp, (max_new hk).2 ⟨c, rfl⟩⟩
      · rintro ⟨q, rfl, hq⟩
        rw [((max_new hk).1 hq).2]
        simp
    · rw [if_neg c]
      refine ⟨.nil, fun x => ?_⟩
      constructor
      · intro h; cases h
      · rintro ⟨q, rfl, hq⟩
        exact absurd ((max_new hk).1 hq).1 c
  · rw [ht]
    exact ⟨.nil, fun b hb => (by cases hb), fun b hb => (by cases hb)⟩
  · rw [hf]
    exact ⟨.nil, fun b hb => (by cases hb)⟩
theorem ok5Y : Ok 5 ((5 : Int), [], [], [], [], [], [(0 : Int)], [], [], [], [], [], [], []) := by
  refine ok_new (by decide) rfl (fun k => ?_) rfl rfl
  rcases k with _ | _ | _ | _ | _ | _ | _ | _ | _ | _ | _ | k <;> first | rfl | (rw [if_neg (by omega)]; rfl)
theorem L11_eq (K : Nat) (hK : 100 ≤ K) (l : List (El T57)) : ∀ (f i : Nat) (y : Yard), 61 < f + i → i ≤ 60 → Ok 5 y →
    ∃ y', L11_0 (F2025 K) (F28 K) K l f (i : Int) y.1 y.2.1 y.2.2.1 y.2.2.2.1 y.2.2.2.2.1 y.2.2.2.2.2.1 y.2.2.2.2.2.2.1 y.2.2.2.2.2.2.2.1 y.2.2.2.2.2.2.2.2.1 y.2.2.2.2.2.2.2.2.2.1 y.2.2.2.2.2.2.2.2.2.2.1 y.2.2.2.2.2.2.2.2.2.2.2.1 y.2.2.2.2.2.2.2.2.2.2.2.2.1 y.2.2.2.2.2.2.2.2.2.2.2.2.2 = some (y', ()) ∧ Ok 5 y'
  | 0, i, y, h, hi, hy => by omega
  | f + 1, i, y, h, hi, hy => by
    simp only [L11_0, b11_0]
    by_cases c : i < l.length
    · rw [if_pos (decide_eq_true (by omega))]
      by_cases c2 : i < 60
      · rw [if_pos (decide_eq_true (by omega)), if_pos (decide_eq_true (by omega))]
        obtain ⟨r, y', g1, g2⟩ := F28_ok K hK hy (l.getD (i : Int).toNat (zEl T57))
        have g1 : F28 K (l.getD (i : Int).toNat (zEl T57)) (y.1, y.2.1, y.2.2.1, y.2.2.2.1, y.2.2.2.2.1, y.2.2.2.2.2.1, y.2.2.2.2.2.2.1, y.2.2.2.2.2.2.2.1, y.2.2.2.2.2.2.2.2.1, y.2.2.2.2.2.2.2.2.2.1, y.2.2.2.2.2.2.2.2.2.2.1, y.2.2.2.2.2.2.2.2.2.2.2.1, y.2.2.2.2.2.2.2.2.2.2.2.2.1, y.2.2.2.2.2.2.2.2.2.2.2.2.2) = some (r, y') := g1
        rw [g1, Option.bind_some]
        have e : IntKind.i64.wrap ((i : Int) + 1) = ((i + 1 : Nat) : Int) := by rw [i64_in (by omega) (by omega)]; omega
        rw [e]
        exact L11_eq K hK l f (i + 1) y' (by omega) (by omega) g2
      · rw [if_neg (by simp; omega)]
        exact ⟨y, rfl, hy⟩
    · rw [if_neg (by simp; omega)]
      exact ⟨y, rfl, hy⟩
theorem F11_eq (K : Nat) (hK : 100 ≤ K) (l : List (El T57)) : ∃ y, F11 K l = some (y, ()) ∧ Ok 5 y := by
  obtain ⟨y', h1, h2⟩ := L11_eq K hK l K 0 _ (by omega) (by omega) ok5Y
  exact ⟨y', h1, h2⟩
end Go.Proofs.YtiicginipjbloaaE
/- Buddy: what would be if some were given back. -/
namespace Go.Proofs.YtiicginipjbloaaE
open Go Go.Proofs
set_option maxRecDepth 100000
set_option linter.unusedVariables false
noncomputable def giveL (K : Nat) : List Int → Yard → Option Yard
  | [], y => some y
  | x :: g, y => Option.bind (F17 K x y) fun r => giveL K g r.2
theorem L20_r0 (K f : Nat) (y : Yard) (a : Int) (g : List Int) (tk : List Bk) (fl l0 l1 l2 l3 l4 l5 l6 l7 l8 l9 l10 : List Int) : L20_0 (F47 K) (F48 K) (F17 K) (F13 K) K y a g (f + 1) ((0 : Nat) : Int) tk fl l0 l1 l2 l3 l4 l5 l6 l7 l8 l9 l10 = Option.bind (F48 K (frY y 0)) (fun x => L20_0 (F47 K) (F48 K) (F17 K) (F13 K) K y a g f (IntKind.i64.wrap (((0 : Nat) : Int) + 1)) tk fl x l1 l2 l3 l4 l5 l6 l7 l8 l9 l10) := by kernel_rfl
theorem L20_r1 (K f : Nat) (y : Yard) (a : Int) (g : List Int) (tk : List Bk) (fl l0 l1 l2 l3 l4 l5 l6 l7 l8 l9 l10 : List Int) : L20_0 (F47 K) (F48 K) (F17 K) (F13 K) K y a g (f + 1) ((1 : Nat) : Int) tk fl l0 l1 l2 l3 l4 l5 l6 l7 l8 l9 l10 = Option.bind (F48 K (frY y 1)) (fun x => L20_0 (F47 K) (F48 K) (F17 K) (F13 K) K y a g f (IntKind.i64.wrap (((1 : Nat) : Int) + 1)) tk fl l0 x l2 l3 l4 l5 l6 l7 l8 l9 l10) := by kernel_rfl
theorem L20_r2 (K f : Nat) (y : Yard) (a : Int) (g : List Int) (tk : List Bk) (fl l0 l1 l2 l3 l4 l5 l6 l7 l8 l9 l10 : List Int) : L20_0 (F47 K) (F48 K) (F17 K) (F13 K) K y a g (f + 1) ((2 : Nat) : Int) tk fl l0 l1 l2 l3 l4 l5 l6 l7 l8 l9 l10 = Option.bind (F48 K (frY y 2)) (fun x => L20_0 (F47 K) (F48 K) (F17 K) (F13 K) K y a g f (IntKind.i64.wrap (((2 : Nat) : Int) + 1)) tk fl l0 l1 x l3 l4 l5 l6 l7 l8 l9 l10) := by kernel_rfl
theorem L20_r3 (K f : Nat) (y : Yard) (a : Int) (g : List Int) (tk : List Bk) (fl l0 l1 l2 l3 l4 l5 l6 l7 l8 l9 l10 : List Int) : L20_0 (F47 K) (F48 K) (F17 K) (F13 K) K y a g (f + 1) ((3 : Nat) : Int) tk fl l0 l1 l2 l3 l4 l5 l6 l7 l8 l9 l10 = Option.bind (F48 K (frY y 3)) (fun x => L20_0 (F47 K) (F48 K) (F17 K) (F13 K) K y a g f (IntKind.i64.wrap (((3 : Nat) : Int) + 1)) tk fl l0 l1 l2 x l4 l5 l6 l7 l8 l9 l10) := by kernel_rfl
theorem L20_r4 (K f : Nat) (y : Yard) (a : Int) (g : List Int) (tk : List Bk) (fl l0 l1 l2 l3 l4 l5 l6 l7 l8 l9 l10 : List Int) : L20_0 (F47 K) (F48 K) (F17 K) (F13 K) K y a g (f + 1) ((4 : Nat) : Int) tk fl l0 l1 l2 l3 l4 l5 l6 l7 l8 l9 l10 = Option.bind (F48 K (frY y 4)) (fun x => L20_0 (F47 K) (F48 K) (F17 K) (F13 K) K y a g f (IntKind.i64.wrap (((4 : Nat) : Int) + 1)) tk fl l0 l1 l2 l3 x l5 l6 l7 l8 l9 l10) := by kernel_rfl
theorem L20_r5 (K f : Nat) (y : Yard) (a : Int) (g : List Int) (tk : List Bk) (fl l0 l1 l2 l3 l4 l5 l6 l7 l8 l9 l10 : List Int) : L20_0 (F47 K) (F48 K) (F17 K) (F13 K) K y a g (f + 1) ((5 : Nat) : Int) tk fl l0 l1 l2 l3 l4 l5 l6 l7 l8 l9 l10 = Option.bind (F48 K (frY y 5)) (fun x => L20_0 (F47 K) (F48 K) (F17 K) (F13 K) K y a g f (IntKind.i64.wrap (((5 : Nat) : Int) + 1)) tk fl l0 l1 l2 l3 l4 x l6 l7 l8 l9 l10) := by kernel_rfl
theorem L20_r6 (K f : Nat) (y : Yard) (a : Int) (g : List Int) (tk : List Bk) (fl l0 l1 l2 l3 l4 l5 l6 l7 l8 l9 l10 : List Int) : L20_0 (F47 K) (F48 K) (F17 K) (F13 K) K y a g (f + 1) ((6 : Nat) : Int) tk fl l0 l1 l2 l3 l4 l5 l6 l7 l8 l9 l10 = Option.bind (F48 K (frY y 6)) (fun x => L20_0 (F47 K) (F48 K) (F17 K) (F13 K) K y a g f (IntKind.i64.wrap (((6 : Nat) : Int) + 1)) tk fl l0 l1 l2 l3 l4 l5 x l7 l8 l9 l10) := by kernel_rfl
theorem L20_r7 (K f : Nat) (y : Yard) (a : Int) (g : List Int) (tk : List Bk) (fl l0 l1 l2 l3 l4 l5 l6 l7 l8 l9 l10 : List Int) : L20_0 (F47 K) (F48 K) (F17 K) (F13 K) K y a g (f + 1) ((7 : Nat) : Int) tk fl l0 l1 l2 l3 l4 l5 l6 l7 l8 l9 l10 = Option.bind (F48 K (frY y 7)) (fun x => L20_0 (F47 K) (F48 K) (F17 K) (F13 K) K y a g f (IntKind.i64.wrap (((7 : Nat) : Int) + 1)) tk fl l0 l1 l2 l3 l4 l5 l6 x l8 l9 l10) := by kernel_rfl
theorem L20_r8 (K f : Nat) (y : Yard) (a : Int) (g : List Int) (tk : List Bk) (fl l0 l1 l2 l3 l4 l5 l6 l7 l8 l9 l10 : List Int) : L20_0 (F47 K) (F48 K) (F17 K) (F13 K) K y a g (f + 1) ((8 : Nat) : Int) tk fl l0 l1 l2 l3 l4 l5 l6 l7 l8 l9 l10 = Option.bind (F48 K (frY y 8)) (fun x => L20_0 (F47 K) (F48 K) (F17 K) (F13 K) K y a g f (IntKind.i64.wrap (((8 : Nat) : Int) + 1)) tk fl l0 l1 l2 l3 l4 l5 l6 l7 x l9 l10) := by kernel_rfl
theorem L20_r9 (K f : Nat) (y : Yard) (a : Int) (g : List Int) (tk : List Bk) (fl l0 l1 l2 l3 l4 l5 l6 l7 l8 l9 l10 : List Int) : L20_0 (F47 K) (F48 K) (F17 K) (F13 K) K y a g (f + 1) ((9 : Nat) : Int) tk fl l0 l1 l2 l3 l4 l5 l6 l7 l8 l9 l10 = Option.bind (F48 K (frY y 9)) (fun x => L20_0 (F47 K) (F48 K) (F17 K) (F13 K) K y a g f (IntKind.i64.wrap (((9 : Nat) : Int) + 1)) tk fl l0 l1 l2 l3 l4 l5 l6 l7 l8 x l10) := by kernel_rfl
theorem L20_r10 (K f : Nat) (y : Yard) (a : Int) (g : List Int) (tk : List Bk) (fl l0 l1 l2 l3 l4 l5 l6 l7 l8 l9 l10 : List Int) : L20_0 (F47 K) (F48 K) (F17 K) (F13 K) K y a g (f + 1) ((10 : Nat) : Int) tk fl l0 l1 l2 l3 l4 l5 l6 l7 l8 l9 l10 = Option.bind (F48 K (frY y 10)) (fun x => L20_0 (F47 K) (F48 K) (F17 K) (F13 K) K y a g f (IntKind.i64.wrap (((10 : Nat) : Int) + 1)) tk fl l0 l1 l2 l3 l4 l5 l6 l7 l8 l9 x) := by kernel_rfl
theorem L20_r11 (K f : Nat) (y : Yard) (a : Int) (g : List Int) (tk : List Bk) (fl l0 l1 l2 l3 l4 l5 l6 l7 l8 l9 l10 : List Int) : L20_0 (F47 K) (F48 K) (F17 K) (F13 K) K y a g (f + 1) ((11 : Nat) : Int) tk fl l0 l1 l2 l3 l4 l5 l6 l7 l8 l9 l10 = L20_1 (F47 K) (F48 K) (F17 K) (F13 K) K y a g K 0 y.1 l0 l1 l2 l3 l4 l5 l6 l7 l8 l9 l10 tk fl := by kernel_rfl
theorem L20_1_eq (K : Nat) (hK : 100 ≤ K) (y : Yard) (a : Int) (g : List Int) (hg : g.length ≤ 1000) {n : Nat} : ∀ (f : Nat) (pre suf : List Int) (z : Yard), g = pre ++ suf → suf.length < f → Ok n z →
    L20_1 (F47 K) (F48 K) (F17 K) (F13 K) K y a g f (pre.length : Int) z.1 z.2.1 z.2.2.1 z.2.2.2.1 z.2.2.2.2.1 z.2.2.2.2.2.1 z.2.2.2.2.2.2.1 z.2.2.2.2.2.2.2.1 z.2.2.2.2.2.2.2.2.1 z.2.2.2.2.2.2.2.2.2.1 z.2.2.2.2.2.2.2.2.2.2.1 z.2.2.2.2.2.2.2.2.2.2.2.1 z.2.2.2.2.2.2.2.2.2.2.2.2.1 z.2.2.2.2.2.2.2.2.2.2.2.2.2 = Option.bind (giveL K suf z) (fun z => F13 K z a)
  | 0, pre, suf, z, e, h, _ => by omega
  | f + 1, pre, [], z, e, h, hz => by
    have := fin e
    simp only [L20_1, b20_1, this.1]
    rw [if_neg Bool.false_ne_true]
    show Option.bind (F13 K z a) _ = F13 K z a
    cases F13 K z a <;> rfl
  | f + 1, pre, x :: suf, z, e, h, hz => by
    obtain ⟨h1, h2, h3, h4, h5, h6⟩ := mid e (zEl (Ty.int IntKind.i64)) (by omega)
    obtain ⟨r, z', g1, g2, _⟩ := give_ok K hK hz x
    simp only [L20_1, b20_1, h1, h2, h3, h4, if_true]
    have g1' : F17 K x (z.1, z.2.1, z.2.2.1, z.2.2.2.1, z.2.2.2.2.1, z.2.2.2.2.2.1, z.2.2.2.2.2.2.1, z.2.2.2.2.2.2.2.1, z.2.2.2.2.2.2.2.2.1, z.2.2.2.2.2.2.2.2.2.1, z.2.2.2.2.2.2.2.2.2.2.1, z.2.2.2.2.2.2.2.2.2.2.2.1, z.2.2.2.2.2.2.2.2.2.2.2.2.1, z.2.2.2.2.2.2.2.2.2.2.2.2.2) = some (r, z') := g1
    rw [g1', Option.bind_some]
    show _ = Option.bind (Option.bind (F17 K x z) fun r => giveL K suf r.2) _
    rw [g1, Option.bind_some]
    exact L20_1_eq K hK y a g hg f (pre ++ [x]) suf z' h5 (by simpa using h) g2
theorem F20_eq (K : Nat) (hK : 2000 ≤ K) {n : Nat} {y : Yard} (h : Ok n y) (a : Int) (g : List Int) (hg : g.length ≤ 1000) : F20 K y a g = Option.bind (giveL K g y) (fun z => F13 K z a) := by
  obtain ⟨m, rfl⟩ : ∃ m, K = m + 12 := ⟨K - 12, by omega⟩
  have hrow : ∀ k, F48 (m + 12) (frY y k) = some (frY y k) := fun k => by
    by_cases c : k ≤ n
    · have := (h.rep.row k c).len h.rep.lim h.rep.le
      exact F48_eq _ _ (by omega)
    · rw [h.rep.nil k (by omega)]
      exact F48_eq _ _ (by decide)
  have htk := h.tk.len h.rep.le
  have hfl := h.fl.len h.rep.le
  unfold F20 G20 t20
  rw [F47_eq _ _ (show (tkY y).length ≤ 100000 by omega), Option.bind_some, F48_eq _ _ (show (flY y).length ≤ 100000 by omega), Option.bind_some]
  have w : ∀ i : Nat, i ≤ 20 → IntKind.i64.wrap ((i : Int) + 1) = ((i + 1 : Nat) : Int) := fun i hi => by rw [i64_in (by omega) (by omega)]; omega
  show L20_0 _ _ _ _ (m + 12) y a g (m + 11 + 1) ((0 : Nat) : Int) _ _ _ _ _ _ _ _ _ _ _ _ _ = _
  rw [L20_r0, hrow 0, Option.bind_some, w 0 (by decide)]
  show L20_0 _ _ _ _ (m + 12) y a g (m + 10 + 1) ((1 : Nat) : Int) _ _ _ _ _ _ _ _ _ _ _ _ _ = _
  rw [L20_r1, hrow 1, Option.bind_some, w 1 (by decide)]
  show L20_0 _ _ _ _ (m + 12) y a g (m + 9 + 1) ((2 : Nat) : Int) _ _ _ _ _ _ _ _ _ _ _ _ _ = _
  rw [L20_r2, hrow 2, Option.bind_some, w 2 (by decide)]
  show L20_0 _ _ _ _ (m + 12) y a g (m + 8 + 1) ((3 : Nat) : Int) _ _ _ _ _ _ _ _ _ _ _ _ _ = _
  rw [L20_r3, hrow 3, Option.bind_some, w 3 (by decide)]
  show L20_0 _ _ _ _ (m + 12) y a g (m + 7 + 1) ((4 : Nat) : Int) _ _ _ _ _ _ _ _ _ _ _ _ _ = _
  rw [L20_r4, hrow 4, Option.bind_some, w 4 (by decide)]
  show L20_0 _ _ _ _ (m + 12) y a g (m + 6 + 1) ((5 : Nat) : Int) _ _ _ _ _ _ _ _ _ _ _ _ _ = _
  rw [L20_r5, hrow 5, Option.bind_some, w 5 (by decide)]
  show L20_0 _ _ _ _ (m + 12) y a g (m + 5 + 1) ((6 : Nat) : Int) _ _ _ _ _ _ _ _ _ _ _ _ _ = _
  rw [L20_r6, hrow 6, Option.bind_some, w 6 (by decide)]
  show L20_0 _ _ _ _ (m + 12) y a g (m + 4 + 1) ((7 : Nat) : Int) _ _ _ _ _ _ _ _ _ _ _ _ _ = _
  rw [L20_r7, hrow 7, Option.bind_some, w 7 (by decide)]
  show L20_0 _ _ _ _ (m + 12) y a g (m + 3 + 1) ((8 : Nat) : Int) _ _ _ _ _ _ _ _ _ _ _ _ _ = _
  rw [L20_r8, hrow 8, Option.bind_some, w 8 (by decide)]
  show L20_0 _ _ _ _ (m + 12) y a g (m + 2 + 1) ((9 : Nat) : Int) _ _ _ _ _ _ _ _ _ _ _ _ _ = _
  rw [L20_r9, hrow 9, Option.bind_some, w 9 (by decide)]
  show L20_0 _ _ _ _ (m + 12) y a g (m + 1 + 1) ((10 : Nat) : Int) _ _ _ _ _ _ _ _ _ _ _ _ _ = _
  rw [L20_r10, hrow 10, Option.bind_some, w 10 (by decide)]
  show L20_0 _ _ _ _ (m + 12) y a g (m + 0 + 1) ((11 : Nat) : Int) _ _ _ _ _ _ _ _ _ _ _ _ _ = _
  rw [L20_r11]
  exact L20_1_eq (m + 12) (by omega) y a g hg (m + 12) [] g y rfl (by omega) h
end Go.Proofs.YtiicginipjbloaaE
