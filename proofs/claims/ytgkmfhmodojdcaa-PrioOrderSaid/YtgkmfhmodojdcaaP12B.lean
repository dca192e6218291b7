/- Priorities: the keys are the same whichever way the jobs come; PrioTurns. -/
import Derived.Test.YtgkmfhmodojdcaaP12A
set_option linter.all false
namespace Go.Proofs.YtgkmfhmodojdcaaE
open Go Go.Proofs
set_option maxRecDepth 100000
set_option linter.unusedVariables false
theorem uniq_perm {l m : List Key} (h : l.Perm m) : uniq l = uniq m := by
  unfold uniq
  exact decide_eq_decide.2 (h.map kid).nodup_iff
theorem isort_eq {l m : List Key} (h : l.Perm m) : isort l = isort m :=
  one_row (isort_pair l) (isort_pair m) ((isort_perm l).trans (h.trans (isort_perm m).symm))
theorem keysS_perm {w : Wt} {l m : List Job} {n q : Int} (h : l.Perm m) : keysS w l n q = keysS w m n q := by
  have hg : good w n q l = good w n q m := h.all_eq
  have hm := h.map (keyOf w n q)
  unfold keysS sorted
  rw [hg, uniq_perm hm, isort_eq hm]
theorem keys_err {w : Wt} {l : List Job} {n m : Int} (h : (keysS w l n m).2 ≠ 0) : (keysS w l n m).1 = [] := by
  unfold keysS at *
  split
  · rename_i c
    rw [if_pos c] at h
    unfold sorted at *
    split
    · rename_i d; rw [if_pos d] at h; exact absurd rfl h
    · rfl
  · rfl
def cnt (x : Key) : List Key → Nat
  | [] => 0
  | y :: l => (if y = x then 1 else 0) + cnt x l
theorem cnt_zero (x : Key) : ∀ l : List Key, ¬ kid x ∈ ids l → cnt x l = 0
  | [], _ => rfl
  | y :: l, h => by
    have h' : ¬ kid x = kid y ∧ ¬ kid x ∈ ids l := by simpa [ids] using h
    unfold cnt
    rw [if_neg (fun e => h'.1 (by rw [e])), cnt_zero x l h'.2]
theorem cnt_one (x : Key) : ∀ l : List Key, (ids l).Nodup → x ∈ l → cnt x l = 1
  | [], _, h => by cases h
  | y :: l, hd, h => by
    have hd' : ¬ kid y ∈ ids l ∧ (ids l).Nodup := by simpa [ids] using hd
    unfold cnt
    by_cases e : y = x
    · rw [if_pos e, cnt_zero x l (by rw [← e]; exact hd'.1)]
    · rw [if_neg e, cnt_one x l hd'.2 ((List.mem_cons.1 h).resolve_left fun h => e h.symm)]
theorem key_bit (a : Key) (p s i : Int) : (a.1 == p && (a.2.1 == s && a.2.2 == i)) = decide (a = (p, s, i)) := key_beq a (p, s, i)
theorem L7_2_eq (w : Wt) (l : List Job) (n m t : Int) (r1 : Int → List Job → List Key → List Key → Option Bool) (b : List Job) (ks ks2 : List Key) (hk : ks.length ≤ 100) (i : Nat) (x : Job) (hi : i < l.length) (hx : l.getD i (zEl T29) = x) (p : Int) : ∀ (k : Nat) (pre suf : List Key) (c : Nat), ks = pre ++ suf → suf.length < k → c ≤ pre.length →
    L7_2 (F16 2000) (F19 2000) (F20 2000) (F17 2000) 2000 w l n m t r1 k (i : Int) p 0 (c : Int) (pre.length : Int) b ks ks2 = if c + cnt (p, x.2.1, x.1) suf = 1 then r1 (IntKind.i64.wrap ((i : Int) + 1)) b ks ks2 else some false
  | 0, pre, suf, c, e, h, hc => by omega
  | k + 1, pre, [], c, e, h, hc => by
    obtain ⟨f1, f2⟩ := fin e
    simp only [L7_2, b7_2, f1, Bool.false_eq_true, if_false, cnt, Nat.add_zero]
    rw [if_neg (by decide)]
    by_cases d : c = 1
    · subst d; rfl
    · have : ((c : Int) != 1) = true := by simp; omega
      rw [if_pos this]
      simp [d]
  | k + 1, pre, y :: ys, c, e, h, hc => by
    obtain ⟨h1, h2, h3, h4, h5, h6⟩ := mid e (zEl T45) (by omega)
    rw [Int.toNat_natCast] at h3
    have d2 : decide ((0 : Int) ≤ (i : Int) ∧ (i : Int) < (l.length : Int)) = true := decide_eq_true (by omega)
    have hle : ks.length = pre.length + (ys.length + 1) := by rw [e]; simp
    have e1 : IntKind.i64.wrap ((c : Int) + 1) = ((c + 1 : Nat) : Int) := by rw [i64_in (by omega) (by omega)]; omega
    simp only [L7_2, b7_2, h1, h2, h3, h4, d2, if_true, Int.toNat_natCast, hx, e1]
    rw [key_bit]
    have r1' := L7_2_eq w l n m t r1 b ks ks2 hk i x hi hx p k (pre ++ [y]) ys (c + 1) h5 (by simpa using h) (by simp; omega)
    have r2' := L7_2_eq w l n m t r1 b ks ks2 hk i x hi hx p k (pre ++ [y]) ys c h5 (by simpa using h) (by simp; omega)
    by_cases d : y = (p, x.2.1, x.1)
    · rw [if_pos (decide_eq_true d), r1']
      have hc1 : cnt (p, x.2.1, x.1) (y :: ys) = 1 + cnt (p, x.2.1, x.1) ys := by
        show (if y = (p, x.2.1, x.1) then 1 else 0) + cnt (p, x.2.1, x.1) ys = _
        rw [if_pos d]
      rw [hc1, show c + 1 + cnt (p, x.2.1, x.1) ys = c + (1 + cnt (p, x.2.1, x.1) ys) by omega]
    · rw [if_neg (by simpa using d), r2']
      have hc1 : cnt (p, x.2.1, x.1) (y :: ys) = cnt (p, x.2.1, x.1) ys := by
        show (if y = (p, x.2.1, x.1) then 1 else 0) + cnt (p, x.2.1, x.1) ys = _
        rw [if_neg d, Nat.zero_add]
      rw [hc1]
theorem L7_1_eq (w : Wt) (l : List Job) (n m t : Int) (hj : ∀ b ∈ l, OKj b) (hl : l.length ≤ 100) (b : List Job) (ks ks2 : List Key) (hk : ks.length = l.length) (hg : good w n m l = true) (hu : (ids ks).Nodup) (hmem : ∀ x ∈ l, keyOf w n m x ∈ ks) : ∀ (k : Nat) (pre suf : List Job), l = pre ++ suf → suf.length < k →
    L7_1 (F16 2000) (F19 2000) (F20 2000) (F17 2000) 2000 w l n m t k (pre.length : Int) b ks ks2 = some true
  | 0, pre, suf, e, h => by omega
  | k + 1, pre, [], e, h => by
    obtain ⟨f1, f2⟩ := fin e
    simp only [L7_1, b7_1, f1, Bool.false_eq_true, if_false, hk, beq_self_eq_true, if_true]
    rfl
  | k + 1, pre, x :: xs, e, h => by
    obtain ⟨h1, h2, h3, h4, h5, h6⟩ := mid e (zEl T29) (by omega)
    have hx : x ∈ l := by rw [e]; simp
    have hgx : (pS w x n m).2 = 0 := by
      have := (List.all_eq_true.1 hg) x hx
      simpa using this
    simp only [L7_1, b7_1, h1, h2, h3, if_true, F17_eq 2000 w x n m (hj x hx), Option.bind_some, hgx]
    rw [Int.toNat_natCast] at h3
    have hin := L7_2_eq w l n m t (L7_1 (F16 2000) (F19 2000) (F20 2000) (F17 2000) 2000 w l n m t k) b ks ks2 (by omega) pre.length x (by omega) h3 (pS w x n m).1 2000 [] ks 0 rfl (by omega) (Nat.zero_le _)
    have hc : cnt ((pS w x n m).1, x.2.1, x.1) ks = 1 := cnt_one _ ks hu (hmem x hx)
    rw [hc, if_pos rfl, h4, L7_1_eq w l n m t hj hl b ks ks2 hk hg hu hmem k (pre ++ [x]) xs h5 (by simpa using h)] at hin
    exact hin
def rot (l : List Job) (k : Nat) : List Job := l.drop k ++ l.take k
theorem rot_len (l : List Job) (k : Nat) : (rot l k).length = l.length := by simp [rot]; omega
theorem rot_perm (l : List Job) (k : Nat) : l.Perm (rot l k) := by
  have : (l.take k ++ l.drop k).Perm (l.drop k ++ l.take k) := List.perm_append_comm
  rwa [List.take_append_drop] at this
theorem rot_get (l : List Job) (k i : Nat) (hi : i < l.length) (hk : k < l.length) : (rot l k)[i]? = some (l.getD ((i + k) % l.length) (zEl T29)) := by
  have hlt : (i + k) % l.length < l.length := Nat.mod_lt _ (by omega)
  rw [getD_lt hlt, rot, List.getElem?_append]
  by_cases c : i < l.length - k
  · rw [if_pos (by simpa using c), List.getElem?_drop]
    have : (i + k) % l.length = k + i := by rw [Nat.mod_eq_of_lt (by omega)]; omega
    rw [List.getElem?_eq_getElem (by omega)]
    congr 2
    exact this.symm
  · rw [if_neg (by simpa using c), List.getElem?_take]
    have e : (i + k) % l.length = i + k - l.length := by rw [Nat.mod_eq_sub_mod (by omega), Nat.mod_eq_of_lt (by omega)]
    rw [if_pos (by simp; omega), List.getElem?_eq_getElem (by simp; omega)]
    congr 2
    rw [e]; simp; omega
theorem prioTurns_at (w : Wt) (l : List Job) (n m t : Int) (hj : ∀ b ∈ l, OKj b) (hl : l.length ≤ 100) (kk : Nat) (hkk : IntKind.i64.wrap ((IntKind.u64.wrap t).tmod (IntKind.u64.wrap (l.length : Int))) = (kk : Int)) (hlt : kk < l.length) : ∀ (k i : Nat), l.length < k + i → i ≤ l.length →
    L7_0 (F16 2000) (F19 2000) (F20 2000) (F17 2000) 2000 w l n m t k (i : Int) ((rot l kk).take i) = some true
  | 0, i, h, hi => by omega
  | k + 1, i, h, hi => by
    by_cases c : i < l.length
    · have d1 : decide ((i : Int) < (l.length : Int)) = true := decide_eq_true (by omega)
      have d2 : (!((l.length : Int) == (0 : Int))) = true := by simp; intro h; rw [h] at c; cases c
      have e1 : IntKind.i64.wrap ((i : Int) + 1) = ((i + 1 : Nat) : Int) := by rw [i64_in (by omega) (by omega)]; omega
      have e2 : (IntKind.i64.wrap ((i : Int) + (kk : Int))).tmod (l.length : Int) = (((i + kk) % l.length : Nat) : Int) := by
        rw [i64_in (by omega) (by omega), Int.tmod_eq_emod_of_nonneg (by omega), Int.natCast_emod, Int.natCast_add]
      have hm : (i + kk) % l.length < l.length := Nat.mod_lt _ (by omega)
      have d3 : decide ((0 : Int) ≤ (((i + kk) % l.length : Nat) : Int) ∧ (((i + kk) % l.length : Nat) : Int) < (l.length : Int)) = true := decide_eq_true (by omega)
      have ht : (rot l kk).take (i + 1) = (rot l kk).take i ++ [l.getD ((i + kk) % l.length) (zEl T29)] := by
        rw [List.take_add_one, rot_get l kk i c hlt]; rfl
      have hlen : ((rot l kk).take i).length ≤ 100 := by rw [List.length_take, rot_len]; omega
      simp only [L7_0, b7_0, d1, d2, hkk, e2, d3, e1, if_true, Int.toNat_natCast]
      rw [if_pos (fits29 (by simp only [List.length_cons, List.length_nil]; omega)), ← ht]
      exact prioTurns_at w l n m t hj hl kk hkk hlt k (i + 1) (by omega) (by omega)
    · have d1 : decide ((i : Int) < (l.length : Int)) = false := decide_eq_false (by omega)
      have ei : i = l.length := by omega
      have ht : (rot l kk).take i = rot l kk := List.take_of_length_le (by rw [rot_len]; omega)
      have hj2 : ∀ b ∈ rot l kk, OKj b := fun b hb => hj b ((rot_perm l kk).mem_iff.2 hb)
      have hkeys : keysS w (rot l kk) n m = keysS w l n m := (keysS_perm (rot_perm l kk)).symm
      have hlen := keys_len w l n m
      simp only [L7_0, b7_0, d1, ht, Bool.false_eq_true, if_false]
      rw [F19_eq 2000 w l n m hj (by omega) (by omega), Option.bind_some, F19_eq 2000 w (rot l kk) n m hj2 (by rw [rot_len]; omega) (by rw [rot_len]; omega), Option.bind_some, hkeys,
        F20_eq 2000 _ _ (by omega) (by omega), Option.bind_some]
      rw [if_neg (by cases (keysS w l n m).2 == 0 <;> simp), if_neg (by simp)]
      by_cases c : (keysS w l n m).2 = 0
      · rw [if_neg (by simp [c])]
        obtain ⟨g1, g2, g3⟩ := keys_ok c
        have hp : (keysS w l n m).1.Perm (l.map (keyOf w n m)) := by rw [g3]; exact isort_perm _
        refine L7_1_eq w l n m t hj hl (rot l kk) _ _ (by rw [hp.length_eq]; simp) g1 ?_ (fun x hx => hp.mem_iff.2 (List.mem_map_of_mem hx)) 2000 [] l rfl (by omega)
        exact (hp.map kid).nodup_iff.2 (of_decide_eq_true g2)
      · rw [if_pos (by simp [c]), keys_err c]
        rfl
theorem prioTurns (w : Wt) (l : List Job) (n m t : Int) (_ : Gd T26 w) (hl : Gd (.sl T29) l) (_ : (Lit.int .i64 n).wf = true) (_ : (Lit.int .i64 m).wf = true) (_ : (Lit.int .i64 t).wf = true) : F7 2000 w l n m t = some true := by
  have hj : ∀ b ∈ l, OKj b := fun b hb => okj_of (hl.2 b hb)
  unfold F7 G7 t7
  by_cases c : l.length > 100
  · rw [if_pos (decide_eq_true (by omega))]; rfl
  · rw [if_neg (by simp; omega)]
    by_cases c0 : l.length = 0
    · rw [if_pos (by simp [c0])]; rfl
    · rw [if_neg (by simpa using c0)]
      have hw : IntKind.u64.wrap (l.length : Int) = (l.length : Int) := u64_in (by omega) (by omega)
      rw [if_pos (by rw [hw]; simpa using c0)]
      have hu : 0 ≤ IntKind.u64.wrap t := by rw [IntKind.wrap_u64]; omega
      obtain ⟨u, eu⟩ : ∃ u : Nat, IntKind.u64.wrap t = (u : Int) := ⟨(IntKind.u64.wrap t).toNat, by omega⟩
      have hlt : u % l.length < l.length := Nat.mod_lt _ (by omega)
      refine prioTurns_at w l n m t hj (by omega) (u % l.length) ?_ hlt 2000 0 (by omega) (Nat.zero_le _)
      rw [hw, eu, Int.tmod_eq_emod_of_nonneg (by omega)]
      rw [i64_in] <;> omega
end Go.Proofs.YtgkmfhmodojdcaaE
