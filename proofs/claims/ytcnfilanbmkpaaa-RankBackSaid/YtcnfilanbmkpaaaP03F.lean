/- Rank: RankBack in plain words: put one by one, in any order, keys are the sorted ones; put and dropped, as they were. -/
import Derived.Test.YtcnfilanbmkpaaaP03E
set_option linter.all false
namespace Go.Proofs.YtcnfilanbmkpaaaE
open Go Go.Proofs
set_option maxRecDepth 100000
set_option linter.unusedVariables false
def rot (l : List Key) (k : Nat) : List Key := l.drop k ++ l.take k
theorem rot_len (l : List Key) (k : Nat) : (rot l k).length = l.length := by simp [rot]; omega
theorem rot_perm (l : List Key) (k : Nat) : l.Perm (rot l k) := by
  have : (l.take k ++ l.drop k).Perm (l.drop k ++ l.take k) := List.perm_append_comm
  rwa [List.take_append_drop] at this
theorem rot_get (l : List Key) (k i : Nat) (hi : i < l.length) (hk : k < l.length) : (rot l k)[i]? = some (l.getD ((i + k) % l.length) (zEl T35)) := by
  have hlt : (i + k) % l.length < l.length := Nat.mod_lt _ (by omega)
  rw [getD_lt hlt, rot, List.getElem?_append]
  by_cases c : i < l.length - k
  · rw [if_pos (by simpa using c), List.getElem?_drop]
    have : (i + k) % l.length = k + i := by rw [Nat.mod_eq_of_lt (by omega)]; omega
    rw [List.getElem?_eq_getElem (by omega)]
    congr 2
    exact this.symm
  · rw [if_neg (by simpa using c), List.getElem?_take]
    have e : (i + k) % l.length = i + k - l.length := by rw [Nat.mod_eq_sub_mod (by omega), Nat.mod_eq_of_lt (by omega)]
    rw [if_pos (by simp; omega), List.getElem?_eq_getElem (by simp; omega)]
    congr 2
    rw [e]; simp; omega
/-- A key of a new number is put where it lies. -/
theorem put_new {l : List Key} {k : Key} (h : chk l = 0) (hk : ¬ kid k ∈ ids l) : put l k = (ins k l, 0) := by
  unfold put
  rw [if_neg (by simp [h]), if_neg hk]
theorem put_isort {pre : List Key} {x : Key} (hu : uniq (pre ++ [x]) = true) : put (isort pre) x = (isort (pre ++ [x]), 0) := by
  have hd : (ids (pre ++ [x])).Nodup := of_decide_eq_true hu
  have hd' := hd
  simp only [ids, List.map_append, List.nodup_append] at hd
  have hup : uniq pre = true := decide_eq_true hd.1
  rw [put_new (chk_isort hup)]
  · simp [isort, List.foldl_append]
  · intro h
    have h2 : kid x ∈ ids pre := ((isort_perm pre).map kid).mem_iff.1 h
    exact hd.2.2 (kid x) h2 (kid x) (by simp) rfl
theorem ins_uniq {l : List Key} {k : Key} (hu : uniq l = true) (hk : ¬ kid k ∈ ids l) : uniq (ins k l) = true := by
  rw [uniq_perm (ins_perm k l)]
  exact decide_eq_true (List.nodup_cons.2 ⟨hk, of_decide_eq_true hu⟩)
theorem ins_sp {l : List Key} {k : Key} (hu : uniq l = true) (hs : SP l) (hk : ¬ kid k ∈ ids l) : SP (ins k l) := by
  have h1 := ins_uniq hu hk
  have h2 : isort (ins k l) = ins k l := one_row (isort_pair _) (ins_pair k l (sp_le hs)) (isort_perm _)
  rw [← h2]
  exact sp_isort h1
theorem less1_ins {l : List Key} {k : Key} (hk : ¬ kid k ∈ ids l) : less1 k.2.2 (ins k l) = l := by
  have hall : ∀ x ∈ l, (!(x.2.2 == k.2.2)) = true := by
    intro x hx
    simp only [Bool.not_eq_true', beq_eq_false_iff_ne]
    intro e
    have := List.mem_map_of_mem (f := kid) hx
    rw [show kid x = kid k from e] at this
    exact hk this
  have hf : ∀ l : List Key, (∀ x ∈ l, (!(x.2.2 == k.2.2)) = true) → less1 k.2.2 (ins k l) = l := by
    intro l
    induction l with
    | nil => intro _; simp [ins, less1]
    | cons x xs ih =>
      intro h
      have hx := h x (by simp)
      have hxs := fun y hy => h y (List.mem_cons_of_mem _ hy)
      unfold ins
      split
      · have := ih hxs
        unfold less1 at this ⊢
        rw [List.filter_cons_of_pos (p := fun u : Key => !(u.2.2 == k.2.2)) hx, this]
      · unfold less1
        rw [List.filter_cons_of_neg (p := fun u : Key => !(u.2.2 == k.2.2)) (by simp), List.filter_eq_self]
        exact h
  exact hf l hall
theorem drop1_put {l : List Key} {k : Key} (hc : chk l = 0) (hk : ¬ kid k ∈ ids l) : drop1 (ins k l) k.2.2 = (l, true) := by
  have hu := (chk_zero.1 hc).1
  unfold drop1
  rw [if_neg (by simp [chk_of (ins_uniq hu hk) (ins_sp hu (sp_of hc) hk)]), less1_ins hk, ins_len]
  congr 1
  exact decide_eq_true (by omega)
section
variable (l : List Key) (t : Int) (k : Key)
noncomputable abbrev LL2 := L9_2 (F11 2000) (F14 2000) (F28 2000) (F17 2000) (F13 2000) (F30 2000) 2000 l t k
noncomputable abbrev LL1 := L9_1 (F11 2000) (F14 2000) (F28 2000) (F17 2000) (F13 2000) (F30 2000) 2000 l t k
noncomputable abbrev LL0 := L9_0 (F11 2000) (F14 2000) (F28 2000) (F17 2000) (F13 2000) (F30 2000) 2000 l t k
theorem L9_2_eq (hl : l.length ≤ 60) (i : Nat) (x : Key) (hi : i < l.length) (hx : l.getD i (zEl T35) = x) (b : List Key) (a : List Key) (ha : a.length ≤ 60) (r1 : Int → List Key → List Key → Option Bool) : ∀ (n : Nat) (pre suf : List Key), a = pre ++ suf → suf.length < n →
    LL2 l t k r1 n (i : Int) (pre.count x : Int) (pre.length : Int) a b = if a.count x = 1 then r1 ((i + 1 : Nat) : Int) a b else some false
  | 0, pre, suf, e, h => by omega
  | n + 1, pre, [], e, h => by
    have := fin e
    have e1 : IntKind.i64.wrap ((i : Int) + 1) = ((i + 1 : Nat) : Int) := by rw [i64_in (by omega) (by omega)]; omega
    have hc : (((a.count x : Nat) : Int) != (1 : Int)) = !decide (a.count x = 1) := by
      by_cases c : a.count x = 1
      · simp [c]
      · rw [decide_eq_false c]
        simp only [Bool.not_false, bne_iff_ne, ne_eq]
        omega
    simp only [LL2, L9_2, b9_2, this.1, Bool.false_eq_true, if_false, e1]
    rw [this.2, hc]
    by_cases c : a.count x = 1
    · rw [if_pos c, if_neg (by simp [c])]
    · rw [if_neg c, if_pos (by simp [c])]
  | n + 1, pre, y :: ys, e, h => by
    obtain ⟨h1, h2, h3, h4, h5, h6⟩ := mid e (zEl T35) (by omega)
    rw [Int.toNat_natCast] at h3
    have ih := L9_2_eq hl i x hi hx b a ha r1 n (pre ++ [y]) ys h5 (by simpa using h)
    have d3 : decide ((0 : Int) ≤ (i : Int) ∧ (i : Int) < (l.length : Int)) = true := decide_eq_true (by omega)
    have hle : pre.length ≤ 60 := by omega
    have hcn : pre.count x ≤ 60 := Nat.le_trans List.count_le_length hle
    have e1 : IntKind.i64.wrap ((pre.count x : Int) + 1) = ((pre.count x + 1 : Nat) : Int) := by rw [i64_in (by omega) (by omega)]; omega
    simp only [LL2] at ih
    simp only [LL2, L9_2, b9_2, h1, h2, h3, h4, d3, if_true, e1, Int.toNat_natCast, hx, h3, key_beq]
    by_cases c : y = x
    · rw [if_pos (by simp [c]), ← ih, List.count_append]
      congr 1
      simp [c]
    · rw [if_neg (by intro h; simp only [Bool.and_eq_true, beq_iff_eq] at h; exact c (key_ext h.1 h.2.1 h.2.2)), ← ih, List.count_append]
      congr 1
      simp [c]
theorem L9_1_eq (hl : l.length ≤ 60) (hu : uniq l = true) : ∀ (n i : Nat), l.length < n + i → i ≤ l.length →
    LL1 l t k n (i : Int) (isort l) (isort l) = some true
  | 0, i, h, h1 => by omega
  | n + 1, i, h, h1 => by
    have hil := isort_len l
    by_cases c : i < l.length
    · have d1 : decide ((i : Int) < (l.length : Int)) = true := decide_eq_true (by omega)
      have := L9_2_eq l t k hl i _ c rfl (isort l) (isort l) (by omega) (LL1 l t k n) 2000 [] (isort l) rfl (by omega)
      have hn : (isort l).Nodup := by
        have : (ids (isort l)).Nodup := ((isort_perm l).map kid).nodup_iff.2 (of_decide_eq_true hu)
        rw [List.nodup_iff_pairwise_ne] at this ⊢
        exact (List.pairwise_map.1 this).imp fun h e => h (congrArg kid e)
      have hm : l.getD i (zEl T35) ∈ isort l := by
        rw [getD_lt c]
        exact (isort_perm l).mem_iff.2 (List.getElem_mem c)
      have hc : (isort l).count (l.getD i (zEl T35)) = 1 := by
        rw [hn.count, if_pos hm]
      rw [if_pos hc, L9_1_eq hl hu n (i + 1) (by omega) (by omega)] at this
      simp only [LL1, L9_1, b9_1, d1, if_true]
      exact this
    · have d1 : decide ((i : Int) < (l.length : Int)) = false := decide_eq_false (by omega)
      have e1 : (((isort l).length : Int) != (l.length : Int)) = false := by rw [hil]; simp
      have hc0 := chk_isort hu
      have hpl := put_len (isort l) k
      simp only [LL1, L9_1, b9_1, d1, e1, Bool.false_eq_true, if_false, F17_eq 2000 _ _ (show (isort l).length ≤ 100000 by omega) (show (isort l).length < 2000 by omega), Option.bind_some, decide_true, Bool.not_true,
        F13_eq 2000 (by omega) (isort l) (by omega) (by omega), hc0, bne_self_eq_false, F28_eq 2000 (by omega) (isort l) k (by omega) (by omega), known_eq]
      by_cases c2 : kid k ∈ ids (isort l)
      · have hp : put (isort l) k = ([], 30) := by
          unfold put
          rw [if_neg (by simp [hc0]), if_pos c2]
        rw [hp]
        rfl
      · rw [put_new hc0 c2]
        have hlen := ins_len k (isort l)
        simp only [bne_self_eq_false, Bool.false_eq_true, if_false]
        rw [F30_eq 2000 (by omega) (ins k (isort l)) _ (by omega) (by omega), Option.bind_some, drop1_put hc0 c2]
        simp only [if_true]
        rw [F17_eq 2000 _ _ (by omega) (by omega), Option.bind_some, if_pos (decide_eq_true rfl)]
theorem L9_0_eq (hl : l.length ≤ 60) (hu : uniq l = true) (kk : Nat) (hkk : IntKind.i64.wrap ((IntKind.u64.wrap t).tmod (IntKind.u64.wrap (l.length : Int))) = (kk : Int)) (hlt : kk < l.length) : ∀ (n i : Nat), l.length < n + i → i ≤ l.length →
    LL0 l t k n (i : Int) (isort l) (isort ((rot l kk).take i)) = some true
  | 0, i, h, h1 => by omega
  | n + 1, i, h, h1 => by
    have hur : uniq (rot l kk) = true := (uniq_perm (rot_perm l kk)).symm.trans hu
    by_cases c : i < l.length
    · have d1 : decide ((i : Int) < (l.length : Int)) = true := decide_eq_true (by omega)
      have d2 : (!((l.length : Int) == (0 : Int))) = true := by simp; intro h; rw [h] at c; cases c
      have d4 : (!(IntKind.u64.wrap (l.length : Int) == (0 : Int))) = true := by rw [u64_in (by omega) (by omega)]; exact d2
      have e1 : IntKind.i64.wrap ((i : Int) + 1) = ((i + 1 : Nat) : Int) := by rw [i64_in (by omega) (by omega)]; omega
      have e2 : (IntKind.i64.wrap ((i : Int) + (kk : Int))).tmod (l.length : Int) = (((i + kk) % l.length : Nat) : Int) := by
        rw [i64_in (by omega) (by omega), Int.tmod_eq_emod_of_nonneg (by omega), Int.natCast_emod, Int.natCast_add]
      have hm : (i + kk) % l.length < l.length := Nat.mod_lt _ (by omega)
      have d3 : decide ((0 : Int) ≤ (((i + kk) % l.length : Nat) : Int) ∧ (((i + kk) % l.length : Nat) : Int) < (l.length : Int)) = true := decide_eq_true (by omega)
      have ht : (rot l kk).take (i + 1) = (rot l kk).take i ++ [l.getD ((i + kk) % l.length) (zEl T35)] := by
        rw [List.take_add_one, rot_get l kk i c hlt]; rfl
      have hut : uniq ((rot l kk).take (i + 1)) = true := by
        have h1 : (ids (rot l kk)).Nodup := of_decide_eq_true hur
        refine decide_eq_true ?_
        show (List.map kid ((rot l kk).take (i + 1))).Nodup
        rw [List.map_take]
        exact h1.sublist (List.take_sublist _ _)
      have hlen : (isort ((rot l kk).take i)).length ≤ 60 := by rw [isort_len, List.length_take, rot_len]; omega
      have ih := L9_0_eq hl hu kk hkk hlt n (i + 1) (by omega) (by omega)
      simp only [LL0] at ih
      rw [ht] at ih hut
      simp only [LL0, L9_0, b9_0, d1, d2, d4, hkk, e2, d3, e1, if_true, Int.toNat_natCast]
      rw [F28_eq 2000 (by omega) _ _ (by omega) (by omega), Option.bind_some, put_isort hut]
      simp only [bne_self_eq_false, Bool.false_eq_true, if_false]
      exact ih
    · have d1 : decide ((i : Int) < (l.length : Int)) = false := decide_eq_false (by omega)
      have ht : (rot l kk).take i = rot l kk := List.take_of_length_le (by rw [rot_len]; omega)
      simp only [LL0, L9_0, b9_0, d1, ht, Bool.false_eq_true, if_false]
      rw [← isort_of_perm (rot_perm l kk)]
      exact L9_1_eq l t k hl hu 2000 0 (by omega) (Nat.zero_le _)
theorem L9_nil (n : Nat) : LL0 [] t k (n + 1) 0 (isort []) [] = LL1 [] t k 2000 0 (isort []) [] := by
  simp only [LL0, L9_0, b9_0]
  rw [if_neg (by decide)]
end
theorem rankBack (l : List Key) (t : Int) (k : Key) (_ : Gd (.sl T35) l) (_ : (Lit.int .i64 t).wf = true) (_ : Gd T35 k) : F9 2000 l t k = some true := by
  unfold F9 G9 t9
  by_cases c : l.length > 60
  · rw [if_pos (decide_eq_true (by omega)), known_eq]; rfl
  · rw [if_neg (by simp; omega), F14_eq 2000 l (by omega) (by omega), Option.bind_some]
    unfold sorted
    cases hu : uniq l with
    | false =>
      rw [if_neg Bool.false_ne_true, known_eq]
      rfl
    | true =>
      rw [if_pos rfl]
      simp only [bne_self_eq_false, Bool.false_eq_true, if_false]
      by_cases c0 : l.length = 0
      · obtain rfl := List.length_eq_zero_iff.1 c0
        have := L9_1_eq [] t k (by decide) hu 2000 0 (by decide) (by decide)
        show L9_0 _ _ _ _ _ _ 2000 [] t k 2000 0 _ _ = _
        exact (L9_nil t k 1999).trans this
      · have hw : IntKind.u64.wrap (l.length : Int) = (l.length : Int) := u64_in (by omega) (by omega)
        have hu0 : 0 ≤ IntKind.u64.wrap t := by rw [IntKind.wrap_u64]; omega
        obtain ⟨u, eu⟩ : ∃ u : Nat, IntKind.u64.wrap t = (u : Int) := ⟨(IntKind.u64.wrap t).toNat, by omega⟩
        have hlt : u % l.length < l.length := Nat.mod_lt _ (by omega)
        refine L9_0_eq l t k (by omega) hu (u % l.length) ?_ hlt 2000 0 (by omega) (Nat.zero_le _)
        rw [hw, eu, Int.tmod_eq_emod_of_nonneg (by omega)]
        rw [i64_in] <;> omega
end Go.Proofs.YtcnfilanbmkpaaaE
