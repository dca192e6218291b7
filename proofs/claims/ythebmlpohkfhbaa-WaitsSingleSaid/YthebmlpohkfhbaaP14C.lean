/- Waits: what is said of a job, and of all, by the code and by the document; two laws. -/
import Derived.Test.YthebmlpohkfhbaaP14B
import Derived.Test.YthebmlpohkfhbaaK0
set_option linter.all false
namespace Go.Proofs.YthebmlpohkfhbaaE
open Go Go.Proofs
set_option maxRecDepth 100000
set_option linter.unusedVariables false
def sayJ (l : List J) (j : J) (now : Int) : Int :=
  if howf (jhow j) = 1 then (if sayD (jdep j) (wheres l) (alone l j) = 2 ∧ (jhow j = 2 ∨ jbegin j > now ∨ room l j = false) then 1 else sayD (jdep j) (wheres l) (alone l j)) else 0
theorem wheres_len (l : List J) : (wheres l).length = l.length := by simp [wheres]
theorem F32_eq (K : Nat) (hK : 2000 ≤ K) (l : List J) (hl : l.length ≤ 1000) (j : J) (now : Int) : F32 K l (wheres l) j now = some (sayJ l j now) := by
  simp only [F32, G32, t32, F22_eq, F34_eq K l hl hK, F36_eq K l hl hK, Option.bind_some, sayJ]
  rw [F38_eq K hK _ _ _ (by rw [wheres_len]; exact hl)]
  simp only [Option.bind_some, jdep, jhow, jbegin]
  generalize sayD j.2.2.2.1.2.2.2.2.2.2.2.1 (wheres l) (alone l j) = s
  simp only [El, beq_iff_eq, bne_iff_ne, ne_eq, decide_eq_true_eq]
  by_cases c1 : howf j.2.2.2.2.2.1 = 1
  · by_cases c2 : s = 2
    · by_cases c3 : j.2.2.2.2.2.1 = (2 : Int)
      · simp [c1, c2, c3, show howf 2 = 1 from rfl]
      · by_cases c4 : j.2.2.2.1.2.2.2.2.2.2.2.2.2.1 > now
        · simp [c1, c2, c3, c4]
        · cases hr : room l j <;> simp [c1, c2, c3, c4]
    · simp [c1, c2]
  · simp [c1]
def sayL (l : List J) (id now : Int) : Int := if there l id = true then sayJ l (jat l id) now else 0
theorem F20_eq (K : Nat) (hK : 2000 ≤ K) (l : List J) (hl : l.length ≤ 1000) (hi : IdIn l) (id now : Int) (h0 : 0 ≤ id) (h1 : id ≤ 4294967295) : F20 K l id now = some (sayL l id now) := by
  simp only [F20, G20, t20, F31_eq K l hl hi hK id h0 h1, F33_eq K l hl hK, Option.bind_some, F32_eq K hK l hl, sayL]
  cases there l id <;> simp
theorem L28_eq (K : Nat) (hK : 2000 ≤ K) (l : List J) (hl : l.length ≤ 1000) (id now : Int) (h0 : 0 ≤ id) (h1 : id ≤ 4294967295) (hid : there l id = true) (hh : jhow (jat l id) ≤ 2) : ∀ (n : Nat) (pre suf : List J) (acc : List (El T70)), l = pre ++ suf → suf.length < n → acc.length = pre.length → acc ++ wheres suf = wheres l →
    L28_0 (F35 K) (F23 K) (F25 K) (F37 K) (F27 K) K l id now n (pre.length : Int) acc = some (sayJ l (jat l id) now)
  | 0, pre, suf, acc, e, h, ha, hw => by omega
  | n + 1, pre, [], acc, e, h, ha, hw => by
    have := fin e
    have hs := there_spec hid
    have hw' : acc = wheres l := by rw [← hw]; simp [wheres]
    have hk := ok_mem hs.1 (jat_id hid).2
    have hone := (howf_one hk.2.2.1 hk.2.2.2.1).2 (by omega)
    simp only [L28_0, b28_0, this.1, u32_pred hs.2.1 h1, F25_eq K l hl hK id h0 h1, F27_eq K l hl hK id h0 h1, hid, Option.bind_some, Bool.true_and, hw']
    obtain ⟨j, hj⟩ : ∃ j, l.getD (id - 1).toNat (zEl T45) = j := ⟨_, rfl⟩
    have hj' : jat l id = j := hj
    rw [hj'] at hone ⊢
    rw [hj, F37_eq K hK _ _ _ (by rw [wheres_len]; exact hl)]
    simp only [Option.bind_some, sayJ, jdep, jhow, jbegin] at hone ⊢
    generalize sayD j.2.2.2.1.2.2.2.2.2.2.2.1 (wheres l) (alone l j) = s
    simp only [El, beq_iff_eq, decide_eq_true_eq]
    by_cases c2 : s = 2
    · by_cases c3 : j.2.2.2.2.2.1 = (2 : Int)
      · simp [hone, c2, c3, show howf 2 = 1 from rfl]
      · by_cases c4 : j.2.2.2.1.2.2.2.2.2.2.2.2.2.1 > now
        · simp [hone, c2, c3, c4]
        · cases hr : room l j <;> simp [hone, c2, c3, c4]
    · simp [hone, c2]
  | n + 1, pre, x :: xs, acc, e, h, ha, hw => by
    obtain ⟨h1', h2, h3, h4, h5, h6⟩ := mid e (zEl T45) (by omega)
    have ih := L28_eq K hK l hl id now h0 h1 hid hh n (pre ++ [x]) xs (acc ++ [(jid x, howf (jhow x))]) h5 (by simpa using h) (by simp [ha]) (by rw [← hw]; simp [wheres])
    have hb : decide ((acc.length + [(x.1, howf (jhow x))].length) * Try.prog.types[(70 : Nat)].bytes ≤ (140737488355328 : Nat)) = true := by
      rw [by70]; simp only [List.length_singleton, decide_eq_true_eq]; omega
    simp only [L28_0, b28_0, h1', h2, h3, h4, F23_eq, Option.bind_some, if_true, hb]
    exact ih
theorem F28_eq (K : Nat) (hK : 2000 ≤ K) (l : List J) (hl : l.length ≤ 1000) (id now : Int) (h0 : 0 ≤ id) (h1 : id ≤ 4294967295) : F28 K l id now = some (sayL l id now) := by
  simp only [F28, G28, t28, F35_eq K l hl hK id h0 h1, Option.bind_some, sayL]
  cases ht : there l id with
  | false => simp
  | true =>
    have hs := there_spec ht
    have hk := ok_mem hs.1 (jat_id ht).2
    have d : (0 : Int) ≤ id - 1 ∧ id - 1 < (l.length : Int) := by omega
    simp only [u32_pred hs.2.1 h1, d, and_self, decide_true, if_true, Bool.not_true, Bool.false_eq_true, if_false, decide_eq_true_eq]
    by_cases c : jhow (jat l id) ≤ 2
    · have e : L28_0 (F35 K) (F23 K) (F25 K) (F37 K) (F27 K) K l id now K 0 [] = some (sayJ l (jat l id) now) := L28_eq K hK l hl id now h0 h1 ht c K [] l [] rfl (by omega) rfl rfl
      rw [if_neg (by simp only [jhow, jat, El] at c ⊢; omega), e]
    · have hone : ¬ howf (jhow (jat l id)) = 1 := by rw [howf_one hk.2.2.1 hk.2.2.2.1]; omega
      rw [if_pos (by simp only [jhow, jat, El] at c ⊢; omega), sayJ, if_neg hone]

/-! ### all -/
def ofL (l : List J) (now what : Int) : List Int := if ok l = true then (l.filter fun j => decide (sayJ l j now = what)).map jid else []
theorem by30 : Try.prog.types[(30 : Nat)].bytes = 4 := by kernel_rfl
theorem L29_eq (K : Nat) (hK : 2000 ≤ K) (l : List J) (hl : l.length ≤ 1000) (now what : Int) : ∀ (n : Nat) (pre suf : List J) (acc : List Int), l = pre ++ suf → suf.length < n → acc.length ≤ pre.length →
    L29_0 (F16 K) (F33 K) (F32 K) K l now what n (pre.length : Int) (wheres l) acc = some (acc ++ (suf.filter fun j => decide (sayJ l j now = what)).map jid)
  | 0, pre, suf, acc, e, h, ha => by omega
  | n + 1, pre, [], acc, e, h, ha => by
    have := fin e
    simp only [L29_0, b29_0, this.1]
    simp
  | n + 1, pre, x :: xs, acc, e, h, ha => by
    obtain ⟨h1, h2, h3, h4, h5, h6⟩ := mid e (zEl T45) (by omega)
    have ih := L29_eq K hK l hl now what n (pre ++ [x]) xs acc h5 (by simpa using h) (by simp; omega)
    have ih' := L29_eq K hK l hl now what n (pre ++ [x]) xs (acc ++ [x.1]) h5 (by simpa using h) (by simp; omega)
    have hb : decide ((acc.length + [x.1].length) * Try.prog.types[(30 : Nat)].bytes ≤ (140737488355328 : Nat)) = true := by
      rw [by30]; simp only [List.length_singleton, decide_eq_true_eq]; omega
    simp only [L29_0, b29_0, h1, h2, h3, h4, F32_eq K hK l hl, Option.bind_some, if_true, hb, ih, ih', beq_iff_eq]
    by_cases c : sayJ l x now = what
    · rw [if_pos c, List.filter_cons_of_pos (by simp [c])]
      simp [jid]
    · rw [if_neg c, List.filter_cons_of_neg (by simp [c])]
theorem F29_eq (K : Nat) (hK : 2000 ≤ K) (l : List J) (hl : l.length ≤ 1000) (hi : IdIn l) (now what : Int) : F29 K l now what = some (ofL l now what) := by
  have e : L29_0 (F16 K) (F33 K) (F32 K) K l now what K 0 (wheres l) [] = some ((l.filter fun j => decide (sayJ l j now = what)).map jid) := L29_eq K hK l hl now what K [] l [] rfl (by omega) (by simp)
  simp only [F29, G29, t29, F16_eq K l hl hi hK, F33_eq K l hl hK, Option.bind_some, e, ofL]
  by_cases c : ok l = true
  · simp [c]
  · simp [c]
theorem F12_eq (K : Nat) (hK : 2000 ≤ K) (l : List J) (hl : l.length ≤ 1000) (hi : IdIn l) (now : Int) : F12 K l now = some (ofL l now 2) := by
  have e : F12 K l now = Option.bind (F29 K l now 2) fun x => some x := rfl
  rw [e, F29_eq K hK l hl hi, Option.bind_some]
theorem F13_eq (K : Nat) (hK : 2000 ≤ K) (l : List J) (hl : l.length ≤ 1000) (hi : IdIn l) : F13 K l = some (ofL l 0 3) := by
  have e : F13 K l = Option.bind (F29 K l 0 3) fun x => some x := rfl
  rw [e, F29_eq K hK l hl hi, Option.bind_some]
theorem L15_eq (K : Nat) (hK : 2000 ≤ K) (l : List J) (hl : l.length ≤ 1000) (now what : Int) (ho : ok l = true) : ∀ (n : Nat) (pre suf : List J) (acc : List Int), l = pre ++ suf → suf.length < n → acc.length ≤ pre.length →
    L15_0 (F21 K) (F28 K) K l now what n 0 (pre.length : Int) acc = some (acc ++ (suf.filter fun j => decide (sayJ l j now = what)).map jid)
  | 0, pre, suf, acc, e, h, ha => by omega
  | n + 1, pre, [], acc, e, h, ha => by
    have := fin e
    simp only [L15_0, b15_0, this.1]
    simp
  | n + 1, pre, x :: xs, acc, e, h, ha => by
    obtain ⟨h1, h2, h3, h4, h5, h6⟩ := mid e (zEl T45) (by omega)
    have ih := L15_eq K hK l hl now what ho n (pre ++ [x]) xs acc h5 (by simpa using h) (by simp; omega)
    have ih' := L15_eq K hK l hl now what ho n (pre ++ [x]) xs (acc ++ [x.1]) h5 (by simpa using h) (by simp; omega)
    have hlen : (((pre ++ [x]).length : Nat) : Int) = (pre.length : Int) + 1 := by simp
    have hb : ∀ y : Int, decide ((acc.length + [y].length) * Try.prog.types[(30 : Nat)].bytes ≤ (140737488355328 : Nat)) = true := by
      intro y
      rw [by30]; simp only [List.length_singleton, decide_eq_true_eq]; omega
    have hm : x ∈ l := by rw [e]; simp
    have hid : jid x = (pre.length : Int) + 1 := by
      have := (ok_get ho pre.length (by omega)).1
      have e2 : l[pre.length]'(by omega) = x := by simp [e]
      rwa [e2] at this
    have hsay : sayL l ((pre.length : Int) + 1) now = sayJ l x now := by
      have hk := ok_mem ho hm
      have ht : there l ((pre.length : Int) + 1) = true := by
        simp only [there, ho, Bool.true_and, Bool.and_eq_true, decide_eq_true_eq]; omega
      rw [sayL, if_pos ht, ← hid, hk.2.2.2.2]
    have hx1 : x.1 = (pre.length : Int) + 1 := hid
    rw [hx1] at ih'
    rw [hlen] at ih ih'
    simp only [L15_0, b15_0, h1, Option.bind_some, if_true, hb]
    rw [h4, hlen, u32_in (by omega) (by omega), F28_eq K hK l hl _ now (by omega) (by omega), hsay]
    simp only [Option.bind_some, beq_iff_eq, ih, ih']
    by_cases c : sayJ l x now = what
    · rw [if_pos c, List.filter_cons_of_pos (by simp [c])]
      simp [jid, hx1]
    · rw [if_neg c, List.filter_cons_of_neg (by simp [c])]
      simp
theorem F15_eq (K : Nat) (hK : 2000 ≤ K) (l : List J) (hl : l.length ≤ 1000) (now what : Int) : F15 K l now what = some (ofL l now what) := by
  obtain ⟨m, rfl⟩ : ∃ m, K = m + 1 := ⟨K - 1, by omega⟩
  simp only [F15, G15, t15, F21_eq (m + 1) l hl hK, Option.bind_some, ofL]
  by_cases c : ok l = true
  · simp only [c, if_true]
    exact L15_eq (m + 1) hK l hl now what c (m + 1) [] l [] rfl (by omega) (by simp)
  · simp only [c, if_false, L15_0, b15_0]
    by_cases h : (0 : Int) < (l.length : Int)
    · simp [h]
    · simp [h]
theorem L14_eq (K : Nat) (l : List Int) (hl : l.length ≤ 100000) : ∀ (n : Nat) (pre suf : List Int), l = pre ++ suf → suf.length < n → L14_0 K l l n (pre.length : Int) = some true
  | 0, pre, suf, e, h => by omega
  | n + 1, pre, [], e, h => by
    have := fin e
    simp only [L14_0, b14_0, this.1]
    simp
  | n + 1, pre, x :: xs, e, h => by
    obtain ⟨h1, h2, h3, h4, h5, h6⟩ := mid e (zEl (Ty.int IntKind.u32)) (by omega)
    have ih := L14_eq K l hl n (pre ++ [x]) xs h5 (by simpa using h)
    simp only [L14_0, b14_0, h1, h2, h3, h4, ih, if_true, bne_self_eq_false, Bool.false_eq_true, if_false]
theorem F14_same (K : Nat) (l : List Int) (hl : l.length < K) (hl' : l.length ≤ 100000) : F14 K l l = some true := by
  have e : L14_0 K l l K 0 = some true := L14_eq K l hl' K [] l rfl hl
  simp only [F14, G14, t14, e]
  simp

/-! ### more than is looked at -/
theorem L10_1_eq (K : Nat) (l : List J) (r0 : Int → Option Bool) (i : Int) (x : El T41) (hx : x.2.2.2.2.2.2.2.1.2.length ≤ 30) : ∀ (n : Nat) (pre suf : List Need), x.2.2.2.2.2.2.2.1.2 = pre ++ suf → suf.length < n →
    L10_1 K l r0 n i (pre.length : Int) x = some true ∨ L10_1 K l r0 n i (pre.length : Int) x = r0 (IntKind.i64.wrap (i + 1))
  | 0, pre, suf, e, h => by omega
  | n + 1, pre, [], e, h => by
    have := fin e
    right
    simp only [L10_1, b10_1, this.1]
    simp
  | n + 1, pre, y :: ys, e, h => by
    obtain ⟨h1, h2, h3, h4, h5, h6⟩ := mid e (zEl T54) (by omega)
    have ih := L10_1_eq K l r0 i x hx n (pre ++ [y]) ys h5 (by simpa using h)
    simp only [L10_1, b10_1, h1, h2, h3, h4, if_true]
    split
    · exact .inl rfl
    · exact ih
theorem L10_eq (K : Nat) (hK : 2000 ≤ K) (l : List J) (hl : l.length ≤ 60) : ∀ (n : Nat) (pre suf : List J), l = pre ++ suf → suf.length < n → ∃ b, L10_0 K l n (pre.length : Int) = some b
  | 0, pre, suf, e, h => by omega
  | n + 1, pre, [], e, h => by
    have := fin e
    exact ⟨false, by simp only [L10_0, b10_0, this.1]; simp⟩
  | n + 1, pre, x :: xs, e, h => by
    obtain ⟨h1, h2, h3, h4, h5, h6⟩ := mid e (zEl T45) (by omega)
    obtain ⟨b, ih⟩ := L10_eq K hK l hl n (pre ++ [x]) xs h5 (by simpa using h)
    simp only [L10_0, b10_0, h1, h2, h3, if_true, decide_eq_true_eq]
    split
    · exact ⟨_, rfl⟩
    split
    · exact ⟨_, rfl⟩
    split
    · exact ⟨_, rfl⟩
    rename_i q
    have q' : x.2.2.2.1.2.2.2.2.2.2.2.1.2.length ≤ 30 := by omega
    have := L10_1_eq K l (L10_0 K l n) (pre.length : Int) x.2.2.2.1 q' K [] _ rfl (Nat.lt_of_le_of_lt q' (by omega))
    rw [h4, ih] at this
    rcases this with h | h
    · exact ⟨_, h⟩
    · exact ⟨_, h⟩
theorem F10_eq (K : Nat) (hK : 2000 ≤ K) (l : List J) : ∃ b, F10 K l = some b ∧ (b = false → l.length ≤ 60) := by
  simp only [F10, G10, t10, decide_eq_true_eq]
  split
  · exact ⟨true, rfl, by simp⟩
  · have hl : l.length ≤ 60 := by omega
    obtain ⟨b, h⟩ := L10_eq K hK l hl K [] l rfl (by omega)
    exact ⟨b, h, fun _ => hl⟩
theorem idIn_of {l : List J} (h : Gd (.sl T45) l) : IdIn l := fun j hj => wf_u32 (h.2 j hj).1

/-! ### WaitsSays -/
theorem L9_eq (l : List J) (hl : l.length ≤ 60) (hi : IdIn l) (id now : Int) (h0 : 0 ≤ id) (h1 : id ≤ 4294967295) : ∀ (n : Nat) (pre suf : List J), l = pre ++ suf → suf.length < n →
    L9_0 (F10 2000) (F11 2000) (F16 2000) (F21 2000) (F22 2000) (F23 2000) (F24 2000) (F25 2000) (F26 2000) (F27 2000) (F20 2000) (F28 2000) 2000 l id now n (pre.length : Int) = some true
  | 0, pre, suf, e, h => by omega
  | n + 1, pre, [], e, h => by
    have := fin e
    have e24 : F24 2000 l id = some (there l id && alone l (jat l id)) := by
      have e : F24 2000 l id = G24 (F31 2000) (F34 2000) 2000 l id := rfl
      rw [e]
      simp only [G24, t24, F31_eq 2000 l (by omega) hi (by omega) id h0 h1, Option.bind_some, F34_eq 2000 l (by omega) (by omega)]
      cases there l id <;> simp
    have e26 : F26 2000 l id = some (there l id && room l (jat l id)) := by
      have e : F26 2000 l id = G26 (F31 2000) (F36 2000) 2000 l id := rfl
      rw [e]
      simp only [G26, t26, F31_eq 2000 l (by omega) hi (by omega) id h0 h1, Option.bind_some, F36_eq 2000 l (by omega) (by omega)]
      cases there l id <;> simp
    simp only [L9_0, b9_0, this.1, e24, e26, F25_eq 2000 l (by omega) (by omega) id h0 h1, F27_eq 2000 l (by omega) (by omega) id h0 h1, F20_eq 2000 (by omega) l (by omega) hi id now h0 h1, F28_eq 2000 (by omega) l (by omega) id now h0 h1, Option.bind_some, known_eq]
    simp
  | n + 1, pre, x :: xs, e, h => by
    obtain ⟨h1', h2, h3, h4, h5, h6⟩ := mid e (zEl T45) (by omega)
    have ih := L9_eq l hl hi id now h0 h1 n (pre ++ [x]) xs h5 (by simpa using h)
    simp only [L9_0, b9_0, h1', h2, h3, h4, ih, if_true, F22_eq, F23_eq, Option.bind_some, bne_self_eq_false, Bool.false_eq_true, if_false]
theorem waitsSays (l : List J) (id now : Int) (hl : Gd (.sl T45) l) (h : (Lit.int .u32 id).wf = true) (h' : (Lit.int .i64 now).wf = true) : F9 2000 l id now = some true := by
  obtain ⟨b, hb, hb'⟩ := F10_eq 2000 (by omega) l
  have hi := idIn_of hl
  have hid := wf_u32 h
  simp only [F9, G9, t9, hb, Option.bind_some]
  cases b with
  | true => simp [known_eq]
  | false =>
    have hl6 := hb' rfl
    have e := L9_eq l hl6 hi id now hid.1 hid.2 2000 [] l rfl (by omega)
    have e' : L9_0 (F10 2000) (F11 2000) (F16 2000) (F21 2000) (F22 2000) (F23 2000) (F24 2000) (F25 2000) (F26 2000) (F27 2000) (F20 2000) (F28 2000) 2000 l id now 2000 0 = some true := e
    simp only [F16_eq 2000 l (by omega) hi (by omega), F21_eq 2000 l (by omega) (by omega), Option.bind_some, e']
    simp

/-! ### WaitsLists -/
theorem ofL_len (l : List J) (now what : Int) : (ofL l now what).length ≤ l.length := by
  unfold ofL
  split
  · rw [List.length_map]; exact List.length_filter_le _ _
  · simp
theorem L3_eq (l : List J) (hl : l.length ≤ 60) (hi : IdIn l) (now : Int) (c d e : List Int) : ∀ (n : Nat) (a pre suf : List Int), a = pre ++ suf → a.length ≤ 60 → suf.length < n →
    L3_0 (F10 2000) (F11 2000) (F12 2000) (F13 2000) (F15 2000) (F14 2000) 2000 l now n (pre.length : Int) a c d e = some true
  | 0, a, pre, suf, e', ha, h => by omega
  | n + 1, a, pre, [], e', ha, h => by
    have := fin e'
    have hq := ofL_len l now 2
    simp only [L3_0, b3_0, this.1, F12_eq 2000 (by omega) l (by omega) hi, F15_eq 2000 (by omega) l (by omega), Option.bind_some, F14_same 2000 (ofL l now 2) (by omega) (by omega), known_eq]
    simp
  | n + 1, a, pre, x :: xs, e', ha, h => by
    obtain ⟨h1', h2, h3, h4, h5, h6⟩ := mid e' (zEl (Ty.int IntKind.u32)) (by omega)
    have es : a.set ((pre.length : Nat) : Int).toNat 0 = (pre ++ [0]) ++ xs := by rw [e']; simp
    have ih := L3_eq l hl hi now c d e n (a.set ((pre.length : Nat) : Int).toNat 0) (pre ++ [0]) xs es (by simpa using ha) (by simpa using h)
    have hle : (((pre ++ [x]).length : Nat) : Int) = (((pre ++ [(0 : Int)]).length : Nat) : Int) := by simp
    simp only [L3_0, b3_0, h1', h2, h4, hle, if_true]
    exact ih
theorem waitsLists (l : List J) (now : Int) (hl : Gd (.sl T45) l) (h' : (Lit.int .i64 now).wf = true) : F3 2000 l now = some true := by
  obtain ⟨b, hb, hb'⟩ := F10_eq 2000 (by omega) l
  have hi := idIn_of hl
  simp only [F3, G3, t3, hb, Option.bind_some]
  cases b with
  | true => simp [known_eq]
  | false =>
    have hl6 := hb' rfl
    have q2 := ofL_len l now 2
    have q3 := ofL_len l 0 3
    have e := fun c d e => L3_eq l hl6 hi now c d e 2000 (ofL l now 2) [] (ofL l now 2) rfl (by omega) (by omega)
    have e' : ∀ c d e, L3_0 (F10 2000) (F11 2000) (F12 2000) (F13 2000) (F15 2000) (F14 2000) 2000 l now 2000 0 (ofL l now 2) c d e = some true := e
    simp only [F12_eq 2000 (by omega) l (by omega) hi, F13_eq 2000 (by omega) l (by omega) hi, F15_eq 2000 (by omega) l (by omega), Option.bind_some, F14_same 2000 (ofL l now 2) (by omega) (by omega), F14_same 2000 (ofL l 0 3) (by omega) (by omega), e']
    simp
end Go.Proofs.YthebmlpohkfhbaaE
