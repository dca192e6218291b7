/- Rank: what the small functions come to: who comes ahead, whether two have one number, whether a row is ranked; the document's sort. -/
import Derived.Test.YtcnfilanbmkpaaaS03F3
import Derived.Test.YtcnfilanbmkpaaaPu0
set_option linter.all false
namespace Go.Proofs.YtcnfilanbmkpaaaE
open Go Go.Proofs
set_option maxRecDepth 100000
set_option linter.unusedVariables false
abbrev Key := El T35
abbrev kid (k : Key) : Int := k.2.2
theorem by35 : Try.prog.types[(35 : Nat)].bytes ≤ 100 := by decide +kernel
theorem fits {n : Nat} (h : n ≤ 100000) : decide (n * Try.prog.types[(35 : Nat)].bytes ≤ (140737488355328 : Nat)) = true := by
  have := Nat.mul_le_mul h by35
  exact decide_eq_true (by omega)

/-! ### who comes ahead -/
def cmpI (x y : Int) : Int := if x < y then -1 else if x > y then 1 else 0
def cmpK (a b : Key) : Int := if cmpI b.1 a.1 ≠ 0 then cmpI b.1 a.1 else if cmpI a.2.1 b.2.1 ≠ 0 then cmpI a.2.1 b.2.1 else cmpI a.2.2 b.2.2
def less (a b : Key) : Bool := if a.1 ≠ b.1 then decide (a.1 > b.1) else if a.2.1 ≠ b.2.1 then decide (a.2.1 < b.2.1) else decide (a.2.2 < b.2.2)
theorem F57_eq (K : Nat) (x : Int) : F57 K x = some false := by
  simp [F57, G57, t57]
theorem F58_eq (K : Nat) (x : Int) : F58 K x = some false := by
  simp [F58, G58, t58]
theorem F49_eq (K : Nat) (x y : Int) : F49 K x y = some (cmpI x y) := by
  simp only [F49, G49, t49, F57_eq, Option.bind_some, cmpI, Bool.false_eq_true, if_false, decide_eq_true_eq]
  (repeat' split) <;> rfl
theorem F50_eq (K : Nat) (x y : Int) : F50 K x y = some (cmpI x y) := by
  simp only [F50, G50, t50, F58_eq, Option.bind_some, cmpI, Bool.false_eq_true, if_false, decide_eq_true_eq]
  (repeat' split) <;> rfl
theorem F48_eq (K : Nat) (hK : 4 ≤ K) (x y z : Int) : F48 K [x, y, z] = some (if x ≠ 0 then x else if y ≠ 0 then y else z) := by
  obtain ⟨m, rfl⟩ : ∃ m, K = m + 4 := ⟨K - 4, by omega⟩
  have e1 : IntKind.i64.wrap ((0 : Int) + 1) = 1 := by rw [i64_in] <;> omega
  have e2 : IntKind.i64.wrap ((1 : Int) + 1) = 2 := by rw [i64_in] <;> omega
  have e3 : IntKind.i64.wrap ((2 : Int) + 1) = 3 := by rw [i64_in] <;> omega
  simp only [F48, G48, t48, L48_0, b48_0, e1, e2, e3]
  by_cases c1 : x = 0
  · by_cases c2 : y = 0
    · by_cases c3 : z = 0
      · simp [c1, c2, c3]
      · simp [c1, c2, c3]
    · simp [c1, c2]
  · simp [c1]
theorem F34_eq (K : Nat) (hK : 4 ≤ K) (a b : Key) : F34 K a b = some (cmpK a b) := by
  simp only [F34, G34, t34, F49_eq, F50_eq, Option.bind_some, F48_eq K hK, cmpK]
theorem cmpI_neg (x y : Int) : cmpI x y < 0 ↔ x < y := by
  unfold cmpI
  (repeat' split) <;> omega
theorem cmpI_zero (x y : Int) : cmpI x y = 0 ↔ x = y := by
  unfold cmpI
  (repeat' split) <;> omega
theorem cmpK_less (a b : Key) : decide (cmpK a b < 0) = less a b := by
  unfold cmpK less
  have z1 := cmpI_zero b.1 a.1
  have z2 := cmpI_zero a.2.1 b.2.1
  have n1 := cmpI_neg b.1 a.1
  have n2 := cmpI_neg a.2.1 b.2.1
  have n3 := cmpI_neg a.2.2 b.2.2
  by_cases c1 : a.1 = b.1
  · have d1 : ¬ (cmpI b.1 a.1 ≠ 0) := fun h => h (z1.2 c1.symm)
    have d2 : ¬ (a.1 ≠ b.1) := fun h => h c1
    by_cases c2 : a.2.1 = b.2.1
    · have d3 : ¬ (cmpI a.2.1 b.2.1 ≠ 0) := fun h => h (z2.2 c2)
      have d4 : ¬ (a.2.1 ≠ b.2.1) := fun h => h c2
      rw [if_neg d1, if_neg d3, if_neg d2, if_neg d4]
      exact decide_eq_decide.2 n3
    · have d3 : cmpI a.2.1 b.2.1 ≠ 0 := fun h => c2 (z2.1 h)
      rw [if_neg d1, if_pos d3, if_neg d2, if_pos c2]
      exact decide_eq_decide.2 n2
  · have d1 : cmpI b.1 a.1 ≠ 0 := fun h => c1 (z1.1 h).symm
    rw [if_pos d1, if_pos c1]
    exact decide_eq_decide.2 n1
theorem less_iff (a b : Key) : less a b = true ↔ a.1 > b.1 ∨ a.1 = b.1 ∧ (a.2.1 < b.2.1 ∨ a.2.1 = b.2.1 ∧ a.2.2 < b.2.2) := by
  unfold less
  by_cases c1 : a.1 = b.1
  · by_cases c2 : a.2.1 = b.2.1
    · simp [c1, c2]
    · simp [c1, c2]
  · simp [c1]
theorem less_irrefl (a : Key) : less a a = false := by
  cases h : less a a with
  | false => rfl
  | true => rw [less_iff] at h; simp only [El] at *; omega
theorem less_trans {a b c : Key} (h1 : less a b = true) (h2 : less b c = true) : less a c = true := by
  rw [less_iff] at *; simp only [El] at *; omega
theorem key_ext {a b : Key} (h1 : a.1 = b.1) (h2 : a.2.1 = b.2.1) (h3 : a.2.2 = b.2.2) : a = b := Prod.ext h1 (Prod.ext h2 h3)
theorem less_total {a b : Key} (h1 : less a b = false) (h2 : less b a = false) : a = b := by
  have e1 : ¬ _ := fun h => Bool.false_ne_true (h1.symm.trans ((less_iff a b).2 h))
  have e2 : ¬ _ := fun h => Bool.false_ne_true (h2.symm.trans ((less_iff b a).2 h))
  refine key_ext ?_ ?_ ?_ <;> (simp only [El] at *; omega)
theorem F18_eq (K : Nat) (hK : 4 ≤ K) (a b : Key) : F18 K a b = some (less a b) := by
  simp only [F18, G18, t18, F34_eq K hK, Option.bind_some, cmpK_less]
theorem F19_eq (K : Nat) (a b : Key) : F19 K a b = some (less a b) := by
  simp only [F19, G19, t19, less, bne_iff_ne, ne_eq]
  by_cases c1 : a.1 = b.1
  · by_cases c2 : a.2.1 = b.2.1
    · simp [c1, c2]
    · simp [c1, c2]
  · simp [c1]

/-! ### have two one number? -/
def ids (l : List Key) : List Int := l.map kid
def uniq (l : List Key) : Bool := decide (ids l).Nodup
def MapIs (m : List (Int × Bool)) (ks : List Int) : Prop := ∀ k : Int, mget (.int .u32) .bool k m false = decide (k ∈ ks)
theorem mfind_app (k k' : Int) : ∀ m : List (Int × Bool), mfind (.int .u32) .bool k m = none → mfind (.int .u32) .bool k (m ++ [(k', true)]) = if k = k' then some (m.length, true) else none
  | [], _ => by
    by_cases c : k = k'
    · subst c; simp [mfind, keq]
    · have : (k == k') = false := beq_eq_false_iff_ne.2 c
      simp [mfind, keq, c, this]
  | p :: m, h => by
    unfold mfind at h
    split at h
    · cases h
    · rename_i hq
      split at h
      · cases h
      · rename_i hm
        have := mfind_app k k' m hm
        simp only [List.cons_append, mfind, hq, this]
        by_cases c : k = k' <;> simp [c]
theorem mfind_app' (k k' : Int) : ∀ (m : List (Int × Bool)) (r : Nat × Bool), mfind (.int .u32) .bool k m = some r → mfind (.int .u32) .bool k (m ++ [(k', true)]) = some r
  | [], r, h => by cases h
  | p :: m, r, h => by
    unfold mfind at h
    split at h
    · rename_i hq
      cases h
      simp only [List.cons_append, mfind, hq]
    · rename_i hq
      split at h
      · rename_i i x hm
        cases h
        simp only [List.cons_append, mfind, hq, mfind_app' k k' m _ hm]
      · cases h
theorem map_put {m : List (Int × Bool)} {ks : List Int} (h : MapIs m ks) (hall : ∀ k r, mfind (.int .u32) .bool k m = some r → r.2 = true) {x : Int} (hx : ¬ x ∈ ks) :
    MapIs (mput (.int .u32) .bool x true m) (ks ++ [x]) ∧ ∀ k r, mfind (.int .u32) .bool k (mput (.int .u32) .bool x true m) = some r → r.2 = true := by
  have hn : mfind (.int .u32) .bool x m = none := by
    have h0 := h x
    simp only [hx, decide_false, mget] at h0
    cases hf : mfind (.int .u32) .bool x m with
    | none => rfl
    | some r =>
      rw [hf] at h0
      have := hall x r hf
      obtain ⟨i, b⟩ := r
      simp only at h0 this
      rw [h0] at this
      cases this
  have e : mput (.int .u32) .bool x true m = m ++ [(x, true)] := by simp only [mput, hn]
  rw [e]
  constructor
  · intro k
    have h0 := h k
    simp only [mget] at h0 ⊢
    cases hf : mfind (.int .u32) .bool k m with
    | none =>
      rw [hf] at h0
      rw [mfind_app k x m hf]
      have hk : ¬ k ∈ ks := by
        intro hk
        rw [decide_eq_true hk] at h0
        cases h0
      by_cases c : k = x
      · simp [c]
      · simp [c, hk]
    | some r =>
      rw [hf] at h0
      rw [mfind_app' k x m r hf]
      have := hall k r hf
      obtain ⟨i, b⟩ := r
      simp only at h0 this ⊢
      rw [this] at h0 ⊢
      have : k ∈ ks := of_decide_eq_true h0.symm
      simp [this]
  · intro k r hr
    cases hf : mfind (.int .u32) .bool k m with
    | none =>
      rw [mfind_app k x m hf] at hr
      split at hr
      · cases hr; rfl
      · cases hr
    | some q =>
      rw [mfind_app' k x m q hf] at hr
      cases hr
      exact hall k _ hf
theorem L32_eq (K : Nat) (l : List Key) (hl : l.length ≤ 100000) : ∀ (n : Nat) (pre suf : List Key) (m : List (Int × Bool)), l = pre ++ suf → suf.length < n → MapIs m (ids pre) → (∀ k r, mfind (.int .u32) .bool k m = some r → r.2 = true) → (ids pre).Nodup →
    L32_0 K l n (pre.length : Int) m = some (!uniq l)
  | 0, pre, suf, m, e, h, hm, ha, hd => by omega
  | n + 1, pre, [], m, e, h, hm, ha, hd => by
    have := fin e
    rw [this.2] at hd
    simp only [L32_0, b32_0, this.1, uniq, hd]
    rfl
  | n + 1, pre, x :: xs, m, e, h, hm, ha, hd => by
    obtain ⟨h1, h2, h3, h4, h5, h6⟩ := mid e (zEl T35) (by omega)
    have hx : mget (.int .u32) .bool x.2.2 m false = decide (kid x ∈ ids pre) := hm (kid x)
    simp only [L32_0, b32_0, h1, h2, h3, h4, if_true, hx, decide_eq_true_eq]
    by_cases c : kid x ∈ ids pre
    · rw [if_pos c]
      have : ¬ (ids l).Nodup := by
        rw [e]
        simp only [ids, List.map_append, List.map_cons, List.nodup_append]
        intro hh
        exact hh.2.2 (kid x) c (kid x) (by simp) rfl
      simp [uniq, this]
    · rw [if_neg c]
      obtain ⟨m1, m2⟩ := map_put hm ha c
      have e2 : ids (pre ++ [x]) = ids pre ++ [kid x] := by simp [ids]
      refine L32_eq K l hl n (pre ++ [x]) xs _ h5 (by simpa using h) (by rw [e2]; exact m1) m2 ?_
      rw [e2, List.nodup_append]
      exact ⟨hd, by simp, fun a ha b hb => by rw [List.mem_singleton.1 hb]; exact fun e => c (e ▸ ha)⟩
theorem F32_eq (K : Nat) (l : List Key) (hl : l.length < K) (hl' : l.length ≤ 100000) : F32 K l = some (!uniq l) :=
  L32_eq K l hl' K [] l [] rfl hl (fun k => rfl) (fun k r h => by cases h) (by simp [ids])
open Classical in
theorem L37_1_eq (K : Nat) (l : List Key) (hl : l.length ≤ 100000) (r0 : Int → Option Bool) (i : Nat) (x : Key) (hi : i < l.length) (hx : l.getD i (zEl T35) = x) : ∀ (n : Nat) (k : Nat), k ≤ i → i - k < n →
    L37_1 K l r0 n (i : Int) (k : Int) = if (∃ j, k ≤ j ∧ j < i ∧ kid (l.getD j (zEl T35)) = kid x) then some true else r0 (IntKind.i64.wrap ((i : Int) + 1))
  | 0, k, hk, h => by omega
  | n + 1, k, hk, h => by
    simp only [L37_1, b37_1]
    by_cases c : k < i
    · have d1 : decide ((k : Int) < (i : Int)) = true := decide_eq_true (by omega)
      have d2 : decide ((0 : Int) ≤ (k : Int) ∧ (k : Int) < (l.length : Int)) = true := decide_eq_true (by omega)
      have d3 : decide ((0 : Int) ≤ (i : Int) ∧ (i : Int) < (l.length : Int)) = true := decide_eq_true (by omega)
      have e1 : IntKind.i64.wrap ((k : Int) + 1) = ((k + 1 : Nat) : Int) := by rw [i64_in (by omega) (by omega)]; omega
      have ih := L37_1_eq K l hl r0 i x hi hx n (k + 1) (by omega) (by omega)
      simp only [d1, d2, d3, e1, ih, if_true, Int.toNat_natCast, hx, El, beq_iff_eq]
      by_cases c2 : kid (l.getD k (zEl T35)) = kid x
      · rw [if_pos c2, if_pos ⟨k, Nat.le_refl _, c, c2⟩]
      · rw [if_neg c2]
        by_cases c3 : ∃ j, k + 1 ≤ j ∧ j < i ∧ kid (l.getD j (zEl T35)) = kid x
        · rw [if_pos c3, if_pos]
          obtain ⟨j, h1, h2, h3⟩ := c3
          exact ⟨j, by omega, h2, h3⟩
        · rw [if_neg c3, if_neg]
          rintro ⟨j, h1, h2, h3⟩
          by_cases e : j = k
          · exact c2 (e ▸ h3)
          · exact c3 ⟨j, by omega, h2, h3⟩
    · have d1 : decide ((k : Int) < (i : Int)) = false := decide_eq_false (by omega)
      simp only [d1, Bool.false_eq_true, if_false]
      rw [if_neg]
      rintro ⟨j, h1, h2, h3⟩
      omega
open Classical in
theorem L37_eq (K : Nat) (l : List Key) (hl : l.length ≤ 100000) (hK : l.length < K) : ∀ (n : Nat) (pre suf : List Key), l = pre ++ suf → suf.length < n → (ids pre).Nodup →
    L37_0 K l n (pre.length : Int) = some (!uniq l)
  | 0, pre, suf, e, h, hd => by omega
  | n + 1, pre, [], e, h, hd => by
    have := fin e
    rw [this.2] at hd
    simp only [L37_0, b37_0, this.1, uniq, hd]
    rfl
  | n + 1, pre, x :: xs, e, h, hd => by
    obtain ⟨h1, h2, h3, h4, h5, h6⟩ := mid e (zEl T35) (by omega)
    rw [Int.toNat_natCast] at h3
    have inner : L37_1 K l (L37_0 K l n) K (pre.length : Int) 0 = _ := L37_1_eq K l hl (L37_0 K l n) pre.length x (by omega) h3 K 0 (by omega) (by omega)
    simp only [L37_0, b37_0, h1, if_true]
    rw [inner, h4]
    have hmem : (∃ j, 0 ≤ j ∧ j < pre.length ∧ kid (l.getD j (zEl T35)) = kid x) ↔ kid x ∈ ids pre := by
      simp only [ids, List.mem_map]
      constructor
      · rintro ⟨j, _, hj, hk⟩
        refine ⟨pre[j], List.getElem_mem _, ?_⟩
        rw [← hk, getD_lt (by omega)]
        congr 1
        simp [e, hj]
      · rintro ⟨k, hk, hid⟩
        obtain ⟨j, hj, rfl⟩ := List.getElem_of_mem hk
        refine ⟨j, Nat.zero_le _, hj, ?_⟩
        rw [← hid, getD_lt (by omega)]
        congr 1
        simp [e, hj]
    by_cases c : kid x ∈ ids pre
    · rw [if_pos (hmem.2 c)]
      have : ¬ (ids l).Nodup := by
        rw [e]
        simp only [ids, List.map_append, List.map_cons, List.nodup_append]
        intro hh
        exact hh.2.2 (kid x) c (kid x) (by simp) rfl
      simp [uniq, this]
    · rw [if_neg (fun h => c (hmem.1 h))]
      have e2 : ids (pre ++ [x]) = ids pre ++ [kid x] := by simp [ids]
      refine L37_eq K l hl hK n (pre ++ [x]) xs h5 (by simpa using h) ?_
      rw [e2, List.nodup_append]
      exact ⟨hd, by simp, fun a ha b hb => by rw [List.mem_singleton.1 hb]; exact fun e => c (e ▸ ha)⟩
theorem F37_eq (K : Nat) (l : List Key) (hl : l.length < K) (hl' : l.length ≤ 100000) : F37 K l = some (!uniq l) :=
  L37_eq K l hl' hl K [] l rfl hl (by simp [ids])

/-! ### is a row in order? -/
def chain : List Key → Bool
  | x :: y :: l => less x y && chain (y :: l)
  | _ => true
end Go.Proofs.YtcnfilanbmkpaaaE
