/- Gang: Place, Remove, Turn, as laws on a matrix. -/
import Derived.Test.YtlpalhgiiodjoaaP16B
set_option linter.all false
namespace Go.Proofs.YtlpalhgiiodjoaaE
open Go Go.Proofs
set_option maxRecDepth 100000
set_option linter.unusedVariables false
theorem al_end {O o s : Nat} (ho : o ≤ O) (h1 : s % 2 ^ o = 0) (h2 : s < 2 ^ O) : s + 2 ^ o ≤ 2 ^ O := by
  obtain ⟨k, hk⟩ := Nat.pow_dvd_pow 2 ho
  obtain ⟨j, hj⟩ := Nat.dvd_of_mod_eq_zero h1
  have p := Nat.two_pow_pos o
  have : j < k := Nat.lt_of_mul_lt_mul_left (a := 2 ^ o) (by rw [← hk, ← hj]; exact h2)
  rw [hj, hk]
  calc 2 ^ o * j + 2 ^ o = 2 ^ o * (j + 1) := by rw [Nat.mul_add, Nat.mul_one]
    _ ≤ 2 ^ o * k := Nat.mul_le_mul_left _ this
def Fit (l : List Ce) (O o : Nat) (r : Int) (s : Nat) : Prop := s % 2 ^ o = 0 ∧ s < 2 ^ O ∧ hit l r s o = false
def mkc (id r : Int) (s o : Nat) : Ce := (id, r, (s : Int), (o : Int))
theorem st_mkc (id r : Int) (s o : Nat) : st (mkc id r s o) = s := Int.toNat_natCast s
theorem od_mkc (id r : Int) (s o : Nat) : od (mkc id r s o) = o := Int.toNat_natCast o
theorem hit_false {l : List Ce} {r : Int} {s o : Nat} (h : hit l r s o = false) {c : Ce} (hc : c ∈ l) (e : cr c = r) : ¬ (st c < s + 2 ^ o ∧ s < st c + 2 ^ od c) := by
  intro h2
  have : hit l r s o = true := List.any_eq_true.2 ⟨c, hc, by simp [e, h2]⟩
  rw [h] at this
  cases this
theorem hit_true {l : List Ce} {r : Int} {s o : Nat} (h : hit l r s o = true) : ∃ c ∈ l, cr c = r ∧ st c < s + 2 ^ o ∧ s < st c + 2 ^ od c := by
  obtain ⟨c, hc, h⟩ := List.any_eq_true.1 h
  exact ⟨c, hc, of_decide_eq_true h⟩
theorem ap_new {l : List Ce} {id r : Int} {s o : Nat} (h : l.Pairwise Apart) (hf : hit l r s o = false) : (l ++ [mkc id r s o]).Pairwise Apart := by
  rw [List.pairwise_append]
  refine ⟨h, List.pairwise_singleton _ _, fun c hc d hd => ?_⟩
  rw [List.mem_singleton.1 hd]
  intro e
  rw [st_mkc, od_mkc]
  exact hit_false hf hc e
theorem wf_new {O o s : Nat} {id r : Int} (hid : id ≠ 0) (h0 : 0 ≤ r) (h1 : r < 16) (ho : o ≤ O) (ha : s % 2 ^ o = 0) (hs : s < 2 ^ O) : WF O (mkc id r s o) := by
  unfold WF
  rw [st_mkc, od_mkc]
  exact ⟨hid, h0, h1, rfl, ho, al_end ho ha hs, ha⟩
theorem wf_app {O : Nat} {l : List Ce} {c : Ce} (hw : ∀ c ∈ l, WF O c) (hc : WF O c) : ∀ d ∈ l ++ [c], WF O d := by
  intro d hd
  rcases List.mem_append.1 hd with h | h
  · exact hw d h
  · rw [List.mem_singleton.1 h]; exact hc
section
variable {O : Nat} (hO : O ≤ 7) (K : Nat) (hK : 2000 ≤ K) (m : Mx) (hm : m.1 = O) (hl : m.2.1.length ≤ 900) (hw : ∀ c ∈ m.2.1, WF O c) (hap : m.2.1.Pairwise Apart) (id : Int) (hid : id ≠ 0) (o : Nat) (ho : o ≤ O)
include hO hK hm hl hw hap hid ho
theorem L21_1_eq (r : Int) (h0 : 0 ≤ r) (h1 : r < 16) (r0 : Int → Option ((El T34 × Int) × (Int × (List (El T34) × Int)))) : ∀ (n s : Nat), s % 2 ^ o = 0 → s ≤ 2 ^ O → 2 ^ O - s < n →
    (∃ s', s ≤ s' ∧ Fit m.2.1 O o r s' ∧ (∀ t, s ≤ t → t < s' → ¬ Fit m.2.1 O o r t) ∧ L21_1 (F39 K) (F37 K) (F32 K) (F33 K) (F38 K) K id (o : Int) m r0 n r (s : Int) r (col (rm0 m.2.1 r)) = some ((mkc id r s' o, 0), (m.1, insC (m.2.1 ++ [mkc id r s' o]), m.2.2))) ∨
    ((∀ t, s ≤ t → ¬ Fit m.2.1 O o r t) ∧ L21_1 (F39 K) (F37 K) (F32 K) (F33 K) (F38 K) K id (o : Int) m r0 n r (s : Int) r (col (rm0 m.2.1 r)) = r0 (r + 1))
  | 0, s, _, _, h => by omega
  | n + 1, s, ha, hs, h => by
    have p := p128 hO
    have pO : IntKind.i64.wrap ((1 : Int) * (2 : Int) ^ min m.1.toNat IntKind.i64.bits) = ((2 ^ O : Nat) : Int) := by rw [hm, Int.toNat_natCast, pwi (by omega)]
    have po : IntKind.i64.wrap ((1 : Int) * (2 : Int) ^ min ((o : Int)).toNat IntKind.i64.bits) = ((2 ^ o : Nat) : Int) := by rw [Int.toNat_natCast, pwi (by omega)]
    have g1 : decide ((0 : Int) ≤ m.1) = true := decide_eq_true (by omega)
    have g2 : decide ((0 : Int) ≤ (o : Int)) = true := decide_eq_true (by omega)
    have gr : IntKind.i64.wrap (r + (1 : Int)) = r + 1 := by rw [i64_in] <;> omega
    have q := Nat.two_pow_pos o
    by_cases c : s < 2 ^ O
    · have g3 : decide ((s : Int) < ((2 ^ O : Nat) : Int)) = true := decide_eq_true (by omega)
      have he := al_end ho ha c
      have f1 : F32 K ((s : Int), (o : Int)) = some (col (bm s o)) := F32_eq K (by omega) s o (by omega) (by omega)
      have f2 : F33 K (col (rm0 m.2.1 r)) (col (bm s o)) = some (hit m.2.1 r s o) := meets_eq hO K m.2.1 r s o hw (by omega)
      cases hh : hit m.2.1 r s o with
      | false =>
        have hfit : Fit m.2.1 O o r s := ⟨ha, c, hh⟩
        refine .inl ⟨s, Nat.le_refl _, hfit, fun t h1 h2 => by omega, ?_⟩
        have f3 : F38 K (m.1, m.2.1 ++ [(id, r, (s : Int), (o : Int))], m.2.2) = some ((), m.1, insC (m.2.1 ++ [mkc id r s o]), m.2.2) :=
          F38_eq K (m.1, m.2.1 ++ [mkc id r s o], m.2.2) (by simp; omega) (keys_nodup (wf_app hw (wf_new hid h0 h1 ho ha c)) (ap_new hap hh))
        have f4 := fits34 (n := m.2.1.length + [(id, r, (s : Int), (o : Int))].length) (by simp; omega)
        simp only [L21_1, b21_1, g1, pO, g3, if_true, f1, f2, hh, Option.bind_some, Bool.not_false, f4, f3]
        rfl
      | true =>
        have f5 : IntKind.i64.wrap ((s : Int) + ((2 ^ o : Nat) : Int)) = ((s + 2 ^ o : Nat) : Int) := by rw [i64_in] <;> omega
        have ha' : (s + 2 ^ o) % 2 ^ o = 0 := by rw [Nat.add_mod_right, ha]
        have hn : ∀ t, s ≤ t → Fit m.2.1 O o r t → s + 2 ^ o ≤ t := by
          intro t ht hf
          by_cases e : t = s
          · subst e
            rw [hf.2.2] at hh
            cases hh
          · obtain ⟨j, hj⟩ := Nat.dvd_of_mod_eq_zero ha
            obtain ⟨k, hk⟩ := Nat.dvd_of_mod_eq_zero hf.1
            have : j < k := Nat.lt_of_mul_lt_mul_left (a := 2 ^ o) (by rw [← hk, ← hj]; omega)
            rw [hj, hk]
            calc 2 ^ o * j + 2 ^ o = 2 ^ o * (j + 1) := by rw [Nat.mul_add, Nat.mul_one]
              _ ≤ 2 ^ o * k := Nat.mul_le_mul_left _ this
        have := L21_1_eq r h0 h1 r0 n (s + 2 ^ o) ha' he (by omega)
        have e : L21_1 (F39 K) (F37 K) (F32 K) (F33 K) (F38 K) K id (o : Int) m r0 (n + 1) r (s : Int) r (col (rm0 m.2.1 r)) = L21_1 (F39 K) (F37 K) (F32 K) (F33 K) (F38 K) K id (o : Int) m r0 n r ((s + 2 ^ o : Nat) : Int) r (col (rm0 m.2.1 r)) := by
          rw [L21_1]
          simp only [b21_1, g1, pO, g3, if_true, f1, f2, hh, Option.bind_some, Bool.not_true, Bool.false_eq_true, if_false, g2, po, f5]
        rw [e]
        rcases this with ⟨s', h1, h2, h3, h4⟩ | ⟨h3, h4⟩
        · refine .inl ⟨s', by omega, h2, fun t ht ht2 hf => ?_, h4⟩
          exact h3 t (hn t ht hf) ht2 hf
        · exact .inr ⟨fun t ht hf => h3 t (hn t ht hf) hf, h4⟩
    · have g3 : decide ((s : Int) < ((2 ^ O : Nat) : Int)) = false := decide_eq_false (by omega)
      refine .inr ⟨fun t ht hf => by have := hf.2.1; omega, ?_⟩
      simp only [L21_1, b21_1, g1, pO, g3, if_true, Bool.false_eq_true, if_false, gr]
theorem L21_0_eq : ∀ (n : Nat) (r : Nat), r ≤ 16 → 16 - r < n →
    (∃ (r' : Nat) (s' : Nat), r ≤ r' ∧ r' < 16 ∧ Fit m.2.1 O o r' s' ∧ (∀ t, t < s' → ¬ Fit m.2.1 O o r' t) ∧ (∀ q : Nat, r ≤ q → q < r' → ∀ t, ¬ Fit m.2.1 O o q t) ∧ L21_0 (F39 K) (F37 K) (F32 K) (F33 K) (F38 K) K id (o : Int) m n (r : Int) = some ((mkc id r' s' o, 0), (m.1, insC (m.2.1 ++ [mkc id r' s' o]), m.2.2))) ∨
    ((∀ q : Nat, r ≤ q → q < 16 → ∀ t, ¬ Fit m.2.1 O o q t) ∧ L21_0 (F39 K) (F37 K) (F32 K) (F33 K) (F38 K) K id (o : Int) m n (r : Int) = some ((((0 : Int), (0 : Int), (0 : Int), (0 : Int)), (5 : Int)), m))
  | 0, r, _, h => by omega
  | n + 1, r, hr, h => by
    by_cases c : r < 16
    · have g1 : decide ((r : Int) < (16 : Int)) = true := decide_eq_true (by omega)
      have f1 : F37 K m r = some (col (rm0 m.2.1 r)) := F37_eq hO K hK m r (by omega) hw
      have p := p128 hO
      have e : L21_0 (F39 K) (F37 K) (F32 K) (F33 K) (F38 K) K id (o : Int) m (n + 1) (r : Int) = L21_1 (F39 K) (F37 K) (F32 K) (F33 K) (F38 K) K id (o : Int) m (L21_0 (F39 K) (F37 K) (F32 K) (F33 K) (F38 K) K id (o : Int) m n) K r ((0 : Nat) : Int) r (col (rm0 m.2.1 r)) := by
        rw [L21_0]
        simp only [b21_0, g1, if_true]
        rw [f1]
        rfl
      rw [e]
      rcases L21_1_eq hO K hK m hm hl hw hap id hid o ho r (by omega) (by omega) (L21_0 (F39 K) (F37 K) (F32 K) (F33 K) (F38 K) K id (o : Int) m n) K 0 (Nat.zero_mod _) (Nat.zero_le _) (by omega) with ⟨s', h1, h2, h3, h4⟩ | ⟨h3, h4⟩
      · exact .inl ⟨r, s', Nat.le_refl _, c, h2, fun t ht => h3 t (Nat.zero_le _) ht, fun q h1 h2 => by omega, h4⟩
      · rw [h4, show (r : Int) + 1 = ((r + 1 : Nat) : Int) by omega]
        rcases L21_0_eq n (r + 1) (by omega) (by omega) with ⟨r', s', h5, h6, h7, h8, h9, h10⟩ | ⟨h9, h10⟩
        · refine .inl ⟨r', s', by omega, h6, h7, h8, fun q hq hq2 t hf => ?_, h10⟩
          by_cases e : q = r
          · subst e; exact h3 t (Nat.zero_le _) hf
          · exact h9 q (by omega) hq2 t hf
        · refine .inr ⟨fun q hq hq2 t hf => ?_, h10⟩
          by_cases e : q = r
          · subst e; exact h3 t (Nat.zero_le _) hf
          · exact h9 q (by omega) hq2 t hf
    · have g1 : decide ((r : Int) < (16 : Int)) = false := decide_eq_false (by omega)
      refine .inr ⟨fun q hq hq2 => by omega, ?_⟩
      simp only [L21_0, b21_0, g1, Bool.false_eq_true, if_false]
end
/-- a job's place: the least row with room, the least start there -/
def First (l : List Ce) (O o r s : Nat) : Prop := r < 16 ∧ Fit l O o r s ∧ (∀ t, t < s → ¬ Fit l O o r t) ∧ ∀ q : Nat, q < r → ∀ t, ¬ Fit l O o q t
abbrev zc : Ce := ((0 : Int), (0 : Int), (0 : Int), (0 : Int))
theorem place_eq {O n : Nat} (hO : O ≤ 7) (K : Nat) (hK : 2000 ≤ K) (m : Mx) (hi : MInv O n m) (hn : n ≤ 900) (id o : Int) :
    (id = 0 ∨ o < 0 ∨ o > O) ∧ F21 K id o m = some ((zc, 2), m) ∨
    (id ≠ 0 ∧ 0 ≤ o ∧ o ≤ O) ∧ (id ∈ m.2.1.map cid ∧ F21 K id o m = some ((zc, 30), m) ∨
      id ∉ m.2.1.map cid ∧ ((∀ q : Nat, q < 16 → ∀ t, ¬ Fit m.2.1 O o.toNat q t) ∧ F21 K id o m = some ((zc, 5), m) ∨
        ∃ r s, First m.2.1 O o.toNat r s ∧ F21 K id o m = some ((mkc id r s o.toNat, 0), (m.1, insC (m.2.1 ++ [mkc id r s o.toNat]), m.2.2)))) := by
  have hl := hi.len
  have f0 := F39_eq K hK m id (by omega)
  have hm := hi.o
  by_cases c1 : id = 0
  · exact .inl ⟨.inl c1, by subst c1; simp [F21, G21, t21]⟩
  have b1 : (id == (0 : Int)) = false := beq_eq_false_iff_ne.2 c1
  by_cases c2 : o < 0
  · exact .inl ⟨.inr (.inl c2), by simp [F21, G21, t21, c1, c2]⟩
  by_cases c3 : o > O
  · exact .inl ⟨.inr (.inr c3), by simp [F21, G21, t21, c1, c2, hm, c3]⟩
  have b2 : decide (o < 0) = false := decide_eq_false c2
  have b3 : decide (o > m.1) = false := decide_eq_false (by omega)
  refine .inr ⟨⟨c1, by omega, by omega⟩, ?_⟩
  cases ha : atN id m.2.1 with
  | some j =>
    rw [ha] at f0
    obtain ⟨pre, c, suf, e, _, e2⟩ := atN_some ha
    have b4 : decide ((j : Int) ≥ 0) = true := decide_eq_true (by omega)
    refine .inl ⟨List.mem_map.2 ⟨c, by rw [e]; simp, e2⟩, ?_⟩
    simp only [F21, G21, t21, b1, b2, b3, Bool.false_eq_true, if_false]
    rw [f0]
    simp only [Option.bind_some, b4, if_true]
  | none =>
    rw [ha] at f0
    have b4 : decide ((-1 : Int) ≥ 0) = false := rfl
    refine .inr ⟨fun h => ?_, ?_⟩
    · obtain ⟨c, hc, e⟩ := List.mem_map.1 h
      exact atN_none.1 ha c hc e
    · obtain ⟨o, rfl⟩ := Int.eq_ofNat_of_zero_le (show 0 ≤ o by omega)
      have e : F21 K id (o : Int) m = L21_0 (F39 K) (F37 K) (F32 K) (F33 K) (F38 K) K id (o : Int) m K ((0 : Nat) : Int) := by
        simp only [F21, G21, t21, b1, b2, b3, Bool.false_eq_true, if_false]
        rw [f0]
        simp only [Option.bind_some, b4, Bool.false_eq_true, if_false]
        rfl
      rw [e, Int.toNat_natCast]
      rcases L21_0_eq hO K hK m hm (by omega) hi.wf hi.ap id c1 o (by omega) K 0 (by omega) (by omega) with ⟨r', s', h5, h6, h7, h8, h9, h10⟩ | ⟨h9, h10⟩
      · exact .inr ⟨r', s', ⟨h6, h7, h8, fun q hq => h9 q (Nat.zero_le _) hq⟩, h10⟩
      · exact .inl ⟨fun q hq => h9 q (Nat.zero_le _) hq, h10⟩
theorem place_inv {O n : Nat} {m : Mx} (hi : MInv O n m) {id : Int} {o r s : Nat} (hid : id ≠ 0) (ho : o ≤ O) (hnew : id ∉ m.2.1.map cid) (hf : First m.2.1 O o r s) : MInv O (n + 1) (m.1, insC (m.2.1 ++ [mkc id r s o]), m.2.2) := by
  have hp := insC_perm (m.2.1 ++ [mkc id r s o])
  have hl := hi.len
  refine ⟨hi.o, ?_, fun c hc => ?_, ?_, insC_sorted _, ?_, hi.act.1, ?_⟩
  · show (insC _).length ≤ _
    rw [hp.length_eq]; simp; exact hl
  · exact wf_app hi.wf (wf_new hid (by omega) (by have := hf.1; omega) ho hf.2.1.1 hf.2.1.2.1) c (hp.mem_iff.1 hc)
  · refine (hp.map cid).nodup_iff.2 ?_
    rw [List.map_append, List.nodup_append]
    refine ⟨hi.ids, by simp, fun a ha b hb => ?_⟩
    have : b = id := by simpa [cid, mkc] using hb
    rw [this]
    exact fun e => hnew (e ▸ ha)
  · exact hp.symm.pairwise (ap_new hi.ap hf.2.1.2.2) (fun h => apart_symm h)
  · rcases hi.act.2 with h | ⟨d, hd, h⟩
    · exact .inl h
    · exact .inr ⟨d, hp.mem_iff.2 (List.mem_append_left _ hd), h⟩
end Go.Proofs.YtlpalhgiiodjoaaE
