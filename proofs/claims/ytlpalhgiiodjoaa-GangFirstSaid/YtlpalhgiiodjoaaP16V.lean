/- Gang: GangFirst, in plain words. -/
import Derived.Test.YtlpalhgiiodjoaaP16G
import Derived.Test.YtlpalhgiiodjoaaS16F7
set_option linter.all false
namespace Go.Proofs.YtlpalhgiiodjoaaE
open Go Go.Proofs
set_option maxRecDepth 100000
set_option linter.unusedVariables false
theorem L19_eq (K : Nat) (l : List Ce) (hl : l.length ≤ 900) : ∀ (n : Nat) (pre suf : List Ce), l = pre ++ suf → suf.length < n → L19_0 K l l n (pre.length : Int) = some true
  | 0, pre, suf, e, h => by omega
  | n + 1, pre, [], e, h => by
    have hf := fin e
    simp only [L19_0, b19_0, hf.1, Bool.false_eq_true, if_false]
  | n + 1, pre, x :: suf, e, h => by
    obtain ⟨h1, h2, h3, h4, h5, h6⟩ := mid e (zEl T34) (by omega)
    simp only [L19_0, b19_0, h1, h2, h3, h4, if_true, beq_self_eq_true, Bool.and_self, Bool.not_true, Bool.false_eq_true, if_false]
    exact L19_eq K l hl n (pre ++ [x]) suf h5 (by simpa using h)
theorem F19_eq (K : Nat) (hK : 2000 ≤ K) (l : List Ce) (hl : l.length ≤ 900) : F19 K l l = some true := by
  have b : ((l.length : Int) != (l.length : Int)) = false := by simp
  simp only [F19, G19, t19, b, Bool.false_eq_true, if_false]
  exact L19_eq K l hl K [] l rfl (by omega)
section
variable (K : Nat) (hK : 2000 ≤ K) (a0 : List (El T53)) (id a2 act b1 b2 : Int) (l q : List Ce) (r s o : Nat) (ho : o ≤ 4) (he : IntKind.i64.wrap ((IntKind.u64.wrap a2).tmod (5 : Int)) = (o : Int)) (hl : l.length ≤ 900) (hw : ∀ c ∈ l, WF 4 c) (hf : First l 4 o r s)
include hK ho he hl hw hf
theorem L6_2_eq (r0 : Int → Int → (El T34) → Int → Int → (List (El T34)) → (List (El T34)) → Option (Bool)) (r1 : Int → Int → Int → (El T34) → Int → Int → (List (El T34)) → (List (El T34)) → Option (Bool)) (i w : Nat) (hi : i ≤ r) (hwa : w % 2 ^ o = 0) (hw16 : w < 16) : ∀ (n : Nat) (pre suf : List Ce) (held : Bool), l = pre ++ suf → suf.length < n → (held || hit suf i w o) = hit l i w o →
    L6_2 (F10 K) (F11 K) (F14 K) (F21 K) (F19 K) (F16 K) (F15 K) (F22 K) K a0 id a2 r0 r1 n act (i : Int) (w : Int) held (pre.length : Int) (mkc id r s o) ((w : Int), (o : Int)) b1 b2 l q = r1 act (i : Int) ((w + 2 ^ o : Nat) : Int) (mkc id r s o) b1 b2 l q
  | 0, pre, suf, held, e, h, hh => by omega
  | n + 1, pre, [], held, e, h, hh => by
    have hfi := fin e
    have hh : held = hit l i w o := by rw [← hh]; simp [hit]
    have p := Nat.pow_le_pow_right (n := 2) (by omega) ho
    have g0 : IntKind.u64.wrap (o : Int) = (o : Int) := by rw [u64_in] <;> omega
    have g1 : decide ((0 : Int) ≤ (o : Int)) = true := decide_eq_true (by omega)
    have g2 : IntKind.i64.wrap ((1 : Int) * (2 : Int) ^ min ((o : Int)).toNat IntKind.i64.bits) = ((2 ^ o : Nat) : Int) := by rw [Int.toNat_natCast, pwi (by omega)]
    have g3 : IntKind.i64.wrap ((w : Int) + ((2 ^ o : Nat) : Int)) = ((w + 2 ^ o : Nat) : Int) := by rw [i64_in] <;> omega
    simp only [L6_2, b6_2, hfi.1, Bool.false_eq_true, if_false, he, g0, g1, g2, g3, if_true]
    by_cases c1 : i = r
    · have c1' : ((i : Int) == (mkc id r s o).2.1) = true := beq_iff_eq.2 (show (i : Int) = (r : Int) by omega)
      have c1l : decide ((i : Int) < (mkc id r s o).2.1) = false := decide_eq_false (show ¬ (i : Int) < (r : Int) by omega)
      simp only [c1', c1l, if_true, Bool.false_eq_true, if_false]
      by_cases c2 : w = s
      · have c2' : ((w : Int) == (mkc id r s o).2.2.1) = true := beq_iff_eq.2 (show (w : Int) = (s : Int) by omega)
        have hx : held = false := by rw [hh, c1, c2]; exact hf.2.1.2.2
        simp only [hx, c2', Bool.not_true, Bool.not_false, if_true, Bool.false_eq_true, if_false]
      · have c2' : ((w : Int) == (mkc id r s o).2.2.1) = false := beq_eq_false_iff_ne.2 (show (w : Int) ≠ (s : Int) by omega)
        cases hx : held with
        | true => simp only [c2', Bool.not_true, Bool.not_false, if_true, Bool.false_eq_true, if_false]
        | false =>
          have c3 : ¬ w < s := by
            intro h
            refine hf.2.2.1 w h ⟨hwa, hw16, ?_⟩
            rw [← c1, ← hh, hx]
          have c3' : decide ((w : Int) < (mkc id r s o).2.2.1) = false := decide_eq_false (show ¬ (w : Int) < (s : Int) by omega)
          simp only [c2', c1l, c3', Bool.not_true, Bool.not_false, if_true, Bool.false_eq_true, if_false]
    · have c1' : ((i : Int) == (mkc id r s o).2.1) = false := beq_eq_false_iff_ne.2 (show (i : Int) ≠ (r : Int) by omega)
      have hx : held = true := by
        cases hx : held with
        | true => rfl
        | false =>
          exfalso
          exact hf.2.2.2 i (by omega) w ⟨hwa, hw16, by rw [← hh, hx]⟩
      simp only [c1', hx, Bool.not_true, if_true, Bool.false_eq_true, if_false]
  | n + 1, pre, x :: suf, held, e, h, hh => by
    obtain ⟨h1, h2, h3, h4, h5, h6⟩ := mid e (zEl T34) (by omega)
    have ih := fun held' => L6_2_eq r0 r1 i w hi hwa hw16 n (pre ++ [x]) suf held' h5 (by simpa using h)
    have hwx := hw x (by rw [e]; simp)
    have p := p128 (show 4 ≤ 7 by omega)
    have f15 : F15 K x.2.2 ((w : Int), (o : Int)) = some (mtB (st x) (od x) w o) := by
      have x1 := hwx.2.2.2.2.2.1
      have x0 := Nat.le_trans (Nat.le_add_right _ _) x1
      rw [hwx.2.2.2.1]
      exact F15_eq K hK _ _ _ _ (Nat.le_trans hwx.2.2.2.2.1 (by omega)) (by omega) (Nat.le_trans x0 (by omega)) (by omega)
    simp only [L6_2, b6_2, h1, h2, h3, h4, if_true]
    have hc : hit (x :: suf) i w o = (decide (cr x = (i : Int) ∧ st x < w + 2 ^ o ∧ w < st x + 2 ^ od x) || hit suf i w o) := by simp [hit]
    rw [hc] at hh
    cases hk : held with
    | true =>
      rw [hk] at hh
      rw [if_pos rfl]
      exact ih true (by simpa using hh)
    | false =>
      rw [hk] at hh
      rw [if_neg (by decide)]
      by_cases c1 : x.2.1 = (i : Int)
      · have c1' : cr x = (i : Int) := c1
        rw [if_pos (beq_iff_eq.2 c1), f15, Option.bind_some]
        refine ih _ ?_
        simpa [c1', mtB] using hh
      · have c1' : ¬ cr x = (i : Int) := c1
        rw [if_neg (fun h => c1 (beq_iff_eq.1 h))]
        refine ih _ ?_
        simpa [c1'] using hh
theorem L6_1_eq (r0 : Int → Int → (El T34) → Int → Int → (List (El T34)) → (List (El T34)) → Option (Bool)) (i : Nat) (hi : i ≤ r) : ∀ (n w : Nat), w % 2 ^ o = 0 → 17 - w < n + 1 →
    L6_1 (F10 K) (F11 K) (F14 K) (F21 K) (F19 K) (F16 K) (F15 K) (F22 K) K a0 id a2 r0 (n + 1) act (i : Int) (w : Int) (mkc id r s o) b1 b2 l q = r0 act ((i + 1 : Nat) : Int) (mkc id r s o) b1 b2 l q
  | n, w, hwa, h => by
    by_cases c : w < 16
    · have g : decide ((w : Int) < (16 : Int)) = true := decide_eq_true (by omega)
      rw [L6_1]
      simp only [b6_1, g, if_true, he]
      obtain ⟨k, rfl⟩ : ∃ k, n = k + 1 := ⟨n - 1, by omega⟩
      have := L6_2_eq K hK a0 id a2 act b1 b2 l q r s o ho he hl hw hf r0 (L6_1 (F10 K) (F11 K) (F14 K) (F21 K) (F19 K) (F16 K) (F15 K) (F22 K) K a0 id a2 r0 (k + 1)) i w hi hwa c K [] l false rfl (by omega) (by simp)
      refine Eq.trans this ?_
      have q1 := Nat.two_pow_pos o
      exact L6_1_eq r0 i hi k (w + 2 ^ o) (by rw [Nat.add_mod_right, hwa]) (by omega)
    · have g : decide ((w : Int) < (16 : Int)) = false := decide_eq_false (by omega)
      have hr := hf.1
      have g4 : IntKind.i64.wrap ((i : Int) + (1 : Int)) = ((i + 1 : Nat) : Int) := by rw [i64_in] <;> omega
      simp only [L6_1, b6_1, g, Bool.false_eq_true, if_false, g4]
/-- what comes behind the rows -/
theorem L6_0_eq (X : Option Bool) (hend : ∀ n : Nat, L6_0 (F10 K) (F11 K) (F14 K) (F21 K) (F19 K) (F16 K) (F15 K) (F22 K) K a0 id a2 (n + 1) act ((r + 1 : Nat) : Int) (mkc id r s o) b1 b2 l q = X) : ∀ (n i : Nat), i ≤ r + 1 → 17 - i < n →
    L6_0 (F10 K) (F11 K) (F14 K) (F21 K) (F19 K) (F16 K) (F15 K) (F22 K) K a0 id a2 n act (i : Int) (mkc id r s o) b1 b2 l q = X
  | 0, i, h, h2 => by omega
  | n + 1, i, h, h2 => by
    by_cases c : i ≤ r
    · have g : decide ((i : Int) ≤ (r : Int)) = true := decide_eq_true (by omega)
      have hr := hf.1
      rw [L6_0]
      simp only [b6_0]
      rw [if_pos (show decide ((i : Int) ≤ (mkc id r s o).2.1) = true from g)]
      obtain ⟨k, hk⟩ : ∃ k, K = k + 1 := ⟨K - 1, by omega⟩
      have := L6_1_eq K hK a0 id a2 act b1 b2 l q r s o ho he hl hw hf (L6_0 (F10 K) (F11 K) (F14 K) (F21 K) (F19 K) (F16 K) (F15 K) (F22 K) K a0 id a2 n) i c k 0 (Nat.zero_mod _) (by omega)
      rw [← hk] at this
      refine Eq.trans this ?_
      exact L6_0_eq X hend n (i + 1) (by omega) (by omega)
    · have : i = r + 1 := by omega
      subst this
      exact hend n
end
theorem rem_new {O n : Nat} {m : Mx} (hi : MInv O n m) {id : Int} {o r s : Nat} (hid : id ≠ 0) (ho : o ≤ O) (hnew : id ∉ m.2.1.map cid) (hf : First m.2.1 O o r s) {pre suf : List Ce} {c : Ce} (e : insC (m.2.1 ++ [mkc id r s o]) = pre ++ c :: suf) (ec : cid c = id) : pre ++ suf = m.2.1 := by
  have hp := insC_perm (m.2.1 ++ [mkc id r s o])
  have hi' := place_inv hi hid ho hnew hf
  have hc : c = mkc id r s o := by
    have h1 : c ∈ m.2.1 ++ [mkc id r s o] := hp.mem_iff.1 (by rw [e]; simp)
    rcases List.mem_append.1 h1 with h | h
    · exact absurd (List.mem_map.2 ⟨c, h, ec⟩) hnew
    · exact List.mem_singleton.1 h
  have p1 : (c :: (pre ++ suf)).Perm (c :: m.2.1) := by
    have h1 : (pre ++ c :: suf).Perm (c :: (pre ++ suf)) := List.perm_middle
    have h2 : (m.2.1 ++ [c]).Perm (c :: m.2.1) := List.perm_append_comm
    rw [e] at hp
    rw [← hc] at hp
    exact (h1.symm.trans hp).trans h2
  have p2 : (pre ++ suf).Perm m.2.1 := List.Perm.cons_inv p1
  refine sorted_one (keys_nodup hi.wf hi.ap) p2 (List.Perm.refl _) ?_ hi.srt
  have hs := insC_sorted (m.2.1 ++ [mkc id r s o])
  rw [e] at hs
  exact hs.sublist (List.Sublist.append_left (List.sublist_cons_self c suf) pre)
theorem ord5 (a2 : Int) : ∃ o : Nat, o ≤ 4 ∧ IntKind.i64.wrap ((IntKind.u64.wrap a2).tmod (5 : Int)) = (o : Int) := by
  have h1 : IntKind.u64.wrap a2 = a2 % 18446744073709551616 := by rw [IntKind.wrap_u64]
  have h2 : 0 ≤ a2 % 18446744073709551616 := Int.emod_nonneg _ (by omega)
  rw [h1, Int.tmod_eq_emod_of_nonneg h2]
  refine ⟨(a2 % 18446744073709551616 % 5).toNat, by omega, ?_⟩
  rw [i64_in] <;> omega
theorem gangFirst (a : List (El T53)) (id a2 : Int) (_ : Gd (.sl T53) a) (_ : (Lit.int .u32 id).wf = true) (_ : (Lit.int .i64 a2).wf = true) : F6 2000 a id a2 = some true := by
  obtain ⟨m, e, hm⟩ := F10_eq 2000 (by omega) a
  obtain ⟨o, ho, he⟩ := ord5 a2
  have hl := hm.len
  have f11 := F11_eq 2000 m (by omega)
  have f19 := F19_eq 2000 (by omega) m.2.1 (by omega)
  unfold F6 G6 t6
  rw [e, Option.bind_some, f11, Option.bind_some, F14_eq, Option.bind_some, he]
  rcases place_eq (by omega) 2000 (by omega) m hm (by omega) id (o : Int) with ⟨h0, h⟩ | ⟨hh, ⟨h1, h⟩ | ⟨h1, ⟨h2, h⟩ | ⟨r, s, h2, h⟩⟩⟩
  · have hid : id = 0 := by
      rcases h0 with h | h | h
      · exact h
      · omega
      · omega
    rw [h, hid]
    simp only [Option.bind_some, f11, f19, F16_eq 2000 (by omega)]
    rfl
  · rw [h]
    simp only [Option.bind_some, f11, f19, F16_eq 2000 (by omega)]
    rfl
  · rw [h]
    simp only [Option.bind_some, f11, f19, F16_eq 2000 (by omega)]
    rfl
  · rw [Int.toNat_natCast] at h h2
    rw [h]
    have hid := hh.1
    have hi' := place_inv hm hid ho h1 h2
    have hp := insC_perm (m.2.1 ++ [mkc id r s o])
    have b0 : ((0 : Int) != 0) = false := rfl
    simp only [Option.bind_some, b0, Bool.false_eq_true, if_false]
    refine L6_0_eq 2000 (by omega) a id a2 m.2.2 m.1 m.2.2 m.2.1 (insC (m.2.1 ++ [mkc id r s o])) r s o ho he (by omega) hm.wf h2 (some true) (fun n => ?_) 2000 0 (by omega) (by omega)
    have g : decide (((r + 1 : Nat) : Int) ≤ (mkc id r s o).2.1) = false := decide_eq_false (show ¬ ((r + 1 : Nat) : Int) ≤ (r : Int) by omega)
    have hin : id ∈ (insC (m.2.1 ++ [mkc id r s o])).map cid := List.mem_map.2 ⟨mkc id r s o, hp.mem_iff.2 (by simp), rfl⟩
    have e13 : F21 2000 id 0 (m.1, insC (m.2.1 ++ [mkc id r s o]), m.2.2) = some ((zc, 30), (m.1, insC (m.2.1 ++ [mkc id r s o]), m.2.2)) := by
      rcases place_eq (by omega) 2000 (by omega) (m.1, insC (m.2.1 ++ [mkc id r s o]), m.2.2) hi' (by omega) id 0 with ⟨h0, _⟩ | ⟨_, ⟨_, h⟩ | ⟨hn, _⟩⟩
      · rcases h0 with h | h | h
        · exact absurd h hid
        · omega
        · omega
      · exact h
      · exact absurd hin hn
    rcases remove_eq 2000 (by omega) (m.1, insC (m.2.1 ++ [mkc id r s o]), m.2.2) hi' (by omega) id with ⟨hn, _⟩ | ⟨pre, c, suf, ac, e1, e2, e14, _, e4, i14⟩
    · exact absurd hin hn
    · have e5 := rem_new hm hid ho h1 h2 e1 e2
      rw [e5] at e4 e14 i14
      have eac : ac = m.2.2 := by
        rcases hm.act.2 with h | ⟨d, hd, h⟩
        · by_cases q : ∃ d ∈ m.2.1, m.2.2 ≤ cr d
          · exact e4 q
          · have := i14.act.2
            rcases this with h3 | ⟨d, hd, h3⟩
            · exact h3.trans h.symm
            · exact absurd ⟨d, hd, by have := (hm.wf d hd).2.1; omega⟩ q
        · exact e4 ⟨d, hd, h⟩
      rw [eac] at e14
      have e15 : F22 2000 id (m.1, m.2.1, m.2.2) = some (4, (m.1, m.2.1, m.2.2)) := by
        rcases remove_eq 2000 (by omega) m hm (by omega) id with ⟨_, h⟩ | ⟨pre, c, suf, ac, e1, e2, _⟩
        · exact h
        · exact absurd (List.mem_map.2 ⟨c, by rw [e1]; simp, e2⟩) h1
      have x1 : ((mkc id r s o).1 == id) = true := beq_iff_eq.2 (show id = id from rfl)
      have x2 : ((mkc id r s o).2.2.2 == (o : Int)) = true := beq_iff_eq.2 (show (o : Int) = (o : Int) from rfl)
      have x3 : ((30 : Int) == 30) = true := rfl
      have x4 : ((0 : Int) == 0) = true := rfl
      have x5 : ((4 : Int) == 4) = true := rfl
      have x6 : (m.2.2 == m.2.2) = true := beq_iff_eq.2 rfl
      have f11' : F11 2000 (m.1, m.2.1, m.2.2) = some m.2.1 := f11
      have f14' : F14 2000 (m.1, m.2.1, m.2.2) = some m.2.2 := rfl
      rw [L6_0]
      simp only [b6_0, g, Bool.false_eq_true, if_false, e13, Option.bind_some, e14, e15, x1, he, x2, x3, x4, x5, if_true, f11', f19, f14', x6, F16_eq 2000 (by omega)]
end Go.Proofs.YtlpalhgiiodjoaaE
