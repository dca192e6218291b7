/- Gang: Unify as a law on a matrix. -/
import Derived.Test.YtlpalhgiiodjoaaP16D
set_option linter.all false
namespace Go.Proofs.YtlpalhgiiodjoaaE
open Go Go.Proofs
set_option maxRecDepth 100000
set_option linter.unusedVariables false
/-- the cell in another row -/
def sr (c : Ce) (k : Int) : Ce := (c.1, k, c.2.2)
theorem sr_cid (c : Ce) (k : Int) : cid (sr c k) = cid c := rfl
theorem sr_cr (c : Ce) (k : Int) : cr (sr c k) = k := rfl
theorem sr_st (c : Ce) (k : Int) : st (sr c k) = st c := rfl
theorem sr_od (c : Ce) (k : Int) : od (sr c k) = od c := rfl
theorem sr_self (c : Ce) : sr c (cr c) = c := rfl
theorem sr_wf {O : Nat} {c : Ce} (h : WF O c) {k : Int} (h0 : 0 ≤ k) (h1 : k < 16) : WF O (sr c k) := ⟨h.1, h0, h1, h.2.2.2.1, h.2.2.2.2.1, h.2.2.2.2.2.1, h.2.2.2.2.2.2⟩
/-- the same jobs have the same blocks, in no later rows -/
def Rel (l l' : List Ce) : Prop := l'.length = l.length ∧ ∀ c ∈ l, ∃ c' ∈ l', cid c' = cid c ∧ c'.2.2 = c.2.2 ∧ cr c' ≤ cr c
theorem rel_refl (l : List Ce) : Rel l l := ⟨rfl, fun c hc => ⟨c, hc, rfl, rfl, by omega⟩⟩
theorem rel_trans {a b c : List Ce} (h1 : Rel a b) (h2 : Rel b c) : Rel a c := by
  refine ⟨h2.1.trans h1.1, fun x hx => ?_⟩
  obtain ⟨y, hy, e1, e2, e3⟩ := h1.2 x hx
  obtain ⟨z, hz, f1, f2, f3⟩ := h2.2 y hy
  exact ⟨z, hz, f1.trans e1, f2.trans e2, by omega⟩
theorem rel_perm {a b c : List Ce} (h1 : Rel a b) (h2 : c.Perm b) : Rel a c :=
  ⟨h2.length_eq.trans h1.1, fun x hx => by
    obtain ⟨y, hy, e⟩ := h1.2 x hx
    exact ⟨y, h2.mem_iff.2 hy, e⟩⟩
/-- no job's block is free in a row ahead of its own -/
def Tight (l : List Ce) : Prop := ∀ c ∈ l, ∀ r : Int, 0 ≤ r → r < cr c → hit l r (st c) (od c) = true
theorem hit_mono {l l' : List Ce} {r : Int} {s o : Nat} (h : hit l r s o = true) (hs : ∀ c ∈ l, c ∈ l') : hit l' r s o = true := by
  obtain ⟨c, hc, h⟩ := hit_true h
  exact List.any_eq_true.2 ⟨c, hs c hc, by simpa using h⟩
theorem tight_perm {l l' : List Ce} (h : Tight l) (hp : l'.Perm l) : Tight l' := fun c hc r h0 h1 => hit_mono (h c (hp.mem_iff.1 hc) r h0 h1) fun d hd => hp.mem_iff.2 hd
theorem set_mid (pre : List Ce) (c d : Ce) (suf : List Ce) : (pre ++ c :: suf).set pre.length d = pre ++ d :: suf := by
  rw [List.set_append]; simp
/-! ### one job goes ahead -/
section
variable {O : Nat} (hO : O ≤ 7) (K : Nat) (hK : 2000 ≤ K) (m : Mx)
include hO hK
theorem L20_1_eq (r0 : Int → Int → (List (El T34)) → Option (Int × (Int × (List (El T34) × Int)))) (pre suf : List Ce) (c : Ce) (cnt : Int) (hl : (pre ++ c :: suf).length ≤ 900) (hw : ∀ d ∈ pre ++ c :: suf, WF O d) (hc0 : 0 ≤ cnt) (hc1 : cnt ≤ 1000) :
    ∀ (n k : Nat), (k : Int) ≤ cr c → 17 - k < n → (∀ j : Int, 0 ≤ j → j < k → hit (pre ++ c :: suf) j (st c) (od c) = true) →
      ∃ k' : Int, 0 ≤ k' ∧ k' ≤ cr c ∧ (k' < cr c → hit (pre ++ c :: suf) k' (st c) (od c) = false) ∧ (∀ j : Int, 0 ≤ j → j < k' → hit (pre ++ c :: suf) j (st c) (od c) = true) ∧
        L20_1 (F37 K) (F32 K) (F33 K) (F38 K) K m r0 n cnt (pre.length : Int) (pre.length : Int) (cr c) (k : Int) c (pre ++ c :: suf) = r0 (if k' < cr c then cnt + 1 else cnt) ((pre.length : Int) + 1) (pre ++ sr c k' :: suf)
  | 0, k, _, h, _ => by omega
  | n + 1, k, hk, h, hj => by
    have hc : WF O c := hw c (by simp)
    have h16 := hc.2.2.1
    have p := p128 hO
    have hlen : pre.length + (suf.length + 1) ≤ 900 := by simpa using hl
    have e2 : IntKind.i64.wrap ((pre.length : Int) + (1 : Int)) = (pre.length : Int) + 1 := by rw [i64_in] <;> omega
    have e3 : IntKind.i64.wrap (cnt + (1 : Int)) = cnt + 1 := by rw [i64_in] <;> omega
    have e4 : IntKind.i64.wrap ((k : Int) + (1 : Int)) = ((k + 1 : Nat) : Int) := by rw [i64_in] <;> omega
    by_cases q : (k : Int) < cr c
    · have g1 : decide ((k : Int) < cr c) = true := decide_eq_true q
      have f1 : F37 K (m.1, pre ++ c :: suf, m.2.2) k = some (col (rm0 (pre ++ c :: suf) k)) := F37_eq hO K hK (m.1, pre ++ c :: suf, m.2.2) k (by show (pre ++ c :: suf).length ≤ _; omega) hw
      have f2 := wf_F32 hO K (by omega) hc
      have f3 := meets_eq hO K (pre ++ c :: suf) k (st c) (od c) hw (by have := hc.2.2.2.2.2.1; omega)
      cases hh : hit (pre ++ c :: suf) k (st c) (od c) with
      | false =>
        refine ⟨k, by omega, by omega, fun _ => hh, hj, ?_⟩
        have g2 : decide ((0 : Int) ≤ (pre.length : Int) ∧ (pre.length : Int) < ((pre ++ c :: suf).length : Int)) = true := decide_eq_true (by simp; omega)
        have g3 : (pre ++ c :: suf).getD ((pre.length : Int)).toNat (zEl T34) = c := by simp
        rw [if_pos q]
        simp only [L20_1, b20_1, g1, if_true, f1, f2, f3, Option.bind_some, hh, Bool.not_false, g2, g3, e2, e3]
        rw [Int.toNat_natCast, set_mid]
        rfl
      | true =>
        obtain ⟨k', h1, h2, h3, h4, h5⟩ := L20_1_eq r0 pre suf c cnt hl hw hc0 hc1 n (k + 1) (by omega) (by omega) (fun j h1 h2 => by
          by_cases e : j = k
          · rw [e]; exact hh
          · exact hj j h1 (by omega))
        refine ⟨k', h1, h2, h3, h4, ?_⟩
        rw [← h5]
        rw [L20_1]
        simp only [b20_1, g1, if_true, f1, f2, f3, Option.bind_some, hh, Bool.not_true, Bool.false_eq_true, if_false, e4]
    · have g1 : decide ((k : Int) < cr c) = false := decide_eq_false q
      have ek : (k : Int) = cr c := by omega
      refine ⟨cr c, hc.2.1, by omega, fun h => by omega, fun j h1 h2 => hj j h1 (by omega), ?_⟩
      rw [if_neg (by omega)]
      simp only [L20_1, b20_1, g1, Bool.false_eq_true, if_false, e2]
      rfl
/-! ### all go ahead -/
noncomputable def rest2 (K : Nat) (m : Mx) (cnt : Int) (q : List Ce) : Option (Int × (Int × (List (El T34) × Int))) :=
  Option.bind (F38 K (m.1, q, m.2.2)) fun x0 => L20_2 (F37 K) (F32 K) (F33 K) (F38 K) K m K cnt (-1) (-1) 0 (x0.2.2.1.length : Int) 0 x0.2.2.1 x0.2.1 x0.2.2.2
theorem L20_0_eq (hw : ∀ d ∈ m.2.1, WF O d) (hl : m.2.1.length ≤ 900) (hs : m.2.1.Pairwise LeC) : ∀ (n : Nat) (pre pre' suf : List Ce) (cnt : Int), m.2.1 = pre ++ suf → suf.length < n → pre'.length = pre.length → pre'.map cid = pre.map cid → (∀ d ∈ pre', WF O d) → (pre' ++ suf).Pairwise Apart → Rel pre pre' → Tight pre' → 0 ≤ cnt → cnt ≤ pre.length → (Tight m.2.1 → pre' = pre ∧ cnt = 0) →
    ∃ (cnt' : Int) (q : List Ce), q.length = m.2.1.length ∧ q.map cid = m.2.1.map cid ∧ (∀ d ∈ q, WF O d) ∧ q.Pairwise Apart ∧ Rel m.2.1 q ∧ Tight q ∧ (Tight m.2.1 → cnt' = 0) ∧
      L20_0 (F37 K) (F32 K) (F33 K) (F38 K) K m n cnt (pre.length : Int) (pre' ++ suf) = rest2 K m cnt' q
  | 0, pre, pre', suf, cnt, e, h, h1, h2, h3, h4, h5, h6, h7, h8, h9 => by omega
  | n + 1, pre, pre', [], cnt, e, h, h1, h2, h3, h4, h5, h6, h7, h8, h9 => by
    have hf := fin e
    rw [List.append_nil] at h4 e
    refine ⟨cnt, pre', by rw [e, h1], by rw [e, h2], h3, h4, by rw [e]; exact h5, h6, fun ht => (h9 ht).2, ?_⟩
    simp only [L20_0, b20_0, hf.1, Bool.false_eq_true, if_false, List.append_nil]
    rfl
  | n + 1, pre, pre', c :: suf, cnt, e, h, h1, h2, h3, h4, h5, h6, h7, h8, h9 => by
    have hlen : pre.length + (suf.length + 1) ≤ 900 := by rw [e] at hl; simpa using hl
    have hc : WF O c := hw c (by rw [e]; simp)
    have h16 := hc.2.2.1
    have hw' : ∀ d ∈ pre' ++ c :: suf, WF O d := by
      intro d hd
      rcases List.mem_append.1 hd with hd | hd
      · exact h3 d hd
      · exact hw d (by rw [e]; exact List.mem_append_right _ hd)
    obtain ⟨k', k1, k2, k3, k4, k5⟩ := L20_1_eq hO K hK m (L20_0 (F37 K) (F32 K) (F33 K) (F38 K) K m n) pre' suf c cnt (by simp; omega) hw' h7 (by omega) K 0 hc.2.1 (by omega) (fun j a b => by omega)
    have g1 : decide ((pre.length : Int) < (m.2.1.length : Int)) = true := decide_eq_true (by rw [e]; simp; omega)
    have g2 : decide ((0 : Int) ≤ (pre'.length : Int) ∧ (pre'.length : Int) < ((pre' ++ c :: suf).length : Int)) = true := decide_eq_true (by simp; omega)
    have g3 : (pre' ++ c :: suf).getD ((pre'.length : Int)).toNat (zEl T34) = c := by simp
    have step : L20_0 (F37 K) (F32 K) (F33 K) (F38 K) K m (n + 1) cnt (pre.length : Int) (pre' ++ c :: suf) = L20_0 (F37 K) (F32 K) (F33 K) (F38 K) K m n (if k' < cr c then cnt + 1 else cnt) (((pre ++ [c]).length : Nat) : Int) ((pre' ++ [sr c k']) ++ suf) := by
      rw [L20_0]
      simp only [b20_0, g1, if_true]
      rw [← h1]
      simp only [g2, if_true, g3]
      refine Eq.trans k5 ?_
      congr 1
      · simp [h1]
      · simp
    rw [step]
    -- nobody behind holds the place ahead
    have held : ∀ j : Int, 0 ≤ j → j < k' → hit pre' j (st c) (od c) = true := by
      intro j j0 j1
      obtain ⟨d, hd, e1, e2⟩ := hit_true (k4 j j0 j1)
      rcases List.mem_append.1 hd with hd | hd
      · exact List.any_eq_true.2 ⟨d, hd, by simp [e1, e2]⟩
      · exfalso
        rcases List.mem_cons.1 hd with rfl | hd
        · omega
        · rw [e, List.pairwise_append, List.pairwise_cons] at hs
          have := (leC_iff c d).1 (hs.2.1.1 d hd)
          unfold cr at *
          simp only [El] at *
          omega
    have hap : ((pre' ++ [sr c k']) ++ suf).Pairwise Apart := by
      by_cases q : k' = cr c
      · subst q
        rw [sr_self]
        simpa using h4
      · have hh := k3 (by omega)
        rw [List.append_assoc, List.singleton_append]
        rw [List.pairwise_append, List.pairwise_cons] at h4 ⊢
        refine ⟨h4.1, ⟨fun d hd e2 => ?_, h4.2.1.2⟩, fun a ha b hb => ?_⟩
        · rw [sr_st, sr_od]
          exact fun h2 => hit_false hh (List.mem_append_right _ (List.mem_cons_of_mem _ hd)) e2.symm ⟨h2.2, h2.1⟩
        · rcases List.mem_cons.1 hb with rfl | hb
          · intro e2
            rw [sr_st, sr_od]
            exact hit_false hh (List.mem_append_left _ ha) e2
          · exact h4.2.2 a ha b (List.mem_cons_of_mem _ hb)
    refine L20_0_eq hw hl hs n (pre ++ [c]) (pre' ++ [sr c k']) suf _ (by rw [e]; simp) (by simpa using h) (by simp [h1]) (by simp [h2, sr_cid]) ?_ hap ⟨by simp [h1], ?_⟩ ?_ (by split <;> omega) (by simp; split <;> omega) ?_
    · intro d hd
      rcases List.mem_append.1 hd with hd | hd
      · exact h3 d hd
      · rw [List.mem_singleton.1 hd]; exact sr_wf hc k1 (by omega)
    · intro d hd
      rcases List.mem_append.1 hd with hd | hd
      · obtain ⟨d', hd', x⟩ := h5.2 d hd
        exact ⟨d', List.mem_append_left _ hd', x⟩
      · rw [List.mem_singleton.1 hd]
        exact ⟨sr c k', by simp, rfl, rfl, k2⟩
    · intro d hd r r0 r1
      rcases List.mem_append.1 hd with hd | hd
      · exact hit_mono (h6 d hd r r0 r1) fun x hx => List.mem_append_left _ hx
      · rw [List.mem_singleton.1 hd] at r1 ⊢
        exact hit_mono (held r r0 r1) fun x hx => List.mem_append_left _ hx
    · intro ht
      obtain ⟨a1, a2⟩ := h9 ht
      have ek : k' = cr c := by
        by_cases q : k' < cr c
        · have := k3 q
          rw [a1, ← e] at this
          rw [ht c (by rw [e]; simp) k' k1 q] at this
          cases this
        · omega
      refine ⟨by rw [a1, ek, sr_self], ?_⟩
      rw [if_neg (by omega)]
      exact a2
end
end Go.Proofs.YtlpalhgiiodjoaaE
