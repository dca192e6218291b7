/- Gang: Unify's second pass: rows close up; Unify whole. -/
import Derived.Test.YtlpalhgiiodjoaaP16E
set_option linter.all false
namespace Go.Proofs.YtlpalhgiiodjoaaE
open Go Go.Proofs
set_option maxRecDepth 100000
set_option linter.unusedVariables false
/-- each cell with its new row -/
def cmP : Int → Int → List Ce → List (Ce × Int)
  | _, _, [] => []
  | last, now, c :: l => if cr c ≠ last then (c, now + 1) :: cmP (cr c) (now + 1) l else (c, now) :: cmP last now l
def cmA (a : Int) : Int → List (Ce × Int) → Int
  | act, [] => act
  | act, p :: l => cmA a (if cr p.1 = a then p.2 else act) l
def cmL (l : List (Ce × Int)) : List Ce := l.map fun p => sr p.1 p.2
theorem cmP_fst : ∀ (l : List Ce) (last now : Int), (cmP last now l).map (·.1) = l
  | [], _, _ => rfl
  | c :: l, last, now => by
    unfold cmP
    split
    · rw [List.map_cons, cmP_fst l]
    · rw [List.map_cons, cmP_fst l]
theorem cmP_facts : ∀ (l : List Ce) (last now : Int), l.Pairwise LeC → (∀ c ∈ l, last ≤ cr c) → -1 ≤ now → now ≤ last →
    (∀ p ∈ cmP last now l, now ≤ p.2 ∧ p.2 ≤ cr p.1 ∧ (cr p.1 = last → p.2 = now) ∧ (last < cr p.1 → now < p.2)) ∧
    ((cmP last now l).Pairwise fun p q => cr p.1 = cr q.1 ∧ p.2 = q.2 ∨ cr p.1 < cr q.1 ∧ p.2 < q.2) ∧
    (∀ p ∈ cmP last now l, ∀ z : Int, now < z → z ≤ p.2 → ∃ q ∈ cmP last now l, q.2 = z)
  | [], _, _, _, _, _, _ => ⟨fun p hp => (by cases hp), List.Pairwise.nil, fun p hp => (by cases hp)⟩
  | c :: l, last, now, hs, hl, h0, h1 => by
    have hs' := List.pairwise_cons.1 hs
    have hle : ∀ d ∈ l, cr c ≤ cr d := by
      intro d hd
      have := (leC_iff c d).1 (hs'.1 d hd)
      unfold cr
      simp only [El] at *
      omega
    have hc := hl c List.mem_cons_self
    unfold cmP
    split
    · rename_i q
      obtain ⟨A, B, C⟩ := cmP_facts l (cr c) (now + 1) hs'.2 hle (by omega) (by omega)
      refine ⟨fun p hp => ?_, ?_, fun p hp z z0 z1 => ?_⟩
      · rcases List.mem_cons.1 hp with rfl | hp
        · exact ⟨by show now ≤ now + 1; omega, by show now + 1 ≤ cr c; omega, fun h => absurd h q, fun _ => by show now < now + 1; omega⟩
        · obtain ⟨a1, a2, a3, a4⟩ := A p hp
          have hp1 : p.1 ∈ l := by rw [← cmP_fst l (cr c) (now + 1)]; exact List.mem_map.2 ⟨p, hp, rfl⟩
          have := hle _ hp1
          exact ⟨by omega, a2, fun h => by omega, fun h => by omega⟩
      · refine List.pairwise_cons.2 ⟨fun p hp => ?_, B⟩
        obtain ⟨a1, a2, a3, a4⟩ := A p hp
        have hp1 : p.1 ∈ l := by rw [← cmP_fst l (cr c) (now + 1)]; exact List.mem_map.2 ⟨p, hp, rfl⟩
        have := hle _ hp1
        by_cases e : cr p.1 = cr c
        · exact .inl ⟨e.symm, (a3 e).symm⟩
        · exact .inr ⟨by show cr c < _; omega, a4 (by omega)⟩
      · by_cases e : z = now + 1
        · exact ⟨(c, now + 1), List.mem_cons_self, e.symm⟩
        · rcases List.mem_cons.1 hp with rfl | hp
          · have : z ≤ now + 1 := z1
            omega
          · obtain ⟨q, hq, e⟩ := C p hp z (by omega) z1
            exact ⟨q, List.mem_cons_of_mem _ hq, e⟩
    · rename_i q
      have q : cr c = last := Classical.not_not.1 q
      obtain ⟨A, B, C⟩ := cmP_facts l last now hs'.2 (fun d hd => by have := hle d hd; omega) h0 h1
      refine ⟨fun p hp => ?_, ?_, fun p hp z z0 z1 => ?_⟩
      · rcases List.mem_cons.1 hp with rfl | hp
        · exact ⟨by show now ≤ now; omega, by show now ≤ cr c; omega, fun _ => rfl, fun h => by have h : last < cr c := h; omega⟩
        · exact A p hp
      · refine List.pairwise_cons.2 ⟨fun p hp => ?_, B⟩
        obtain ⟨a1, a2, a3, a4⟩ := A p hp
        have hp1 : p.1 ∈ l := by rw [← cmP_fst l last now]; exact List.mem_map.2 ⟨p, hp, rfl⟩
        have := hle _ hp1
        by_cases e : cr p.1 = cr c
        · exact .inl ⟨e.symm, (a3 (by omega)).symm⟩
        · exact .inr ⟨by show cr c < _; omega, a4 (by omega)⟩
      · rcases List.mem_cons.1 hp with rfl | hp
        · have : z ≤ now := z1
          omega
        · obtain ⟨q, hq, e⟩ := C p hp z z0 z1
          exact ⟨q, List.mem_cons_of_mem _ hq, e⟩
theorem cmA_mem (a : Int) : ∀ (l : List (Ce × Int)) (act : Int), cmA a act l = act ∨ ∃ p ∈ l, cmA a act l = p.2
  | [], act => .inl rfl
  | p :: l, act => by
    unfold cmA
    rcases cmA_mem a l (if cr p.1 = a then p.2 else act) with h | ⟨q, hq, h⟩
    · rw [h]
      split
      · exact .inr ⟨p, List.mem_cons_self, rfl⟩
      · exact .inl rfl
    · exact .inr ⟨q, List.mem_cons_of_mem _ hq, h⟩
section
variable (K : Nat) (hK : 2000 ≤ K) (m : Mx)
include hK
theorem L20_2_eq (cnt ord a : Int) (len : Nat) (hlen : len ≤ 900) : ∀ (n : Nat) (pre suf : List Ce) (last now act : Int), pre.length + suf.length = len → suf.length < n → -1 ≤ now → now ≤ (pre.length : Int) →
    L20_2 (F37 K) (F32 K) (F33 K) (F38 K) K m n cnt last now act (len : Int) (pre.length : Int) (pre ++ suf) ord a = some (cnt, (ord, pre ++ cmL (cmP last now suf), cmA a act (cmP last now suf)))
  | 0, pre, suf, last, now, act, e, h, h1, h2 => by omega
  | n + 1, pre, [], last, now, act, e, h, h1, h2 => by
    have g1 : decide ((pre.length : Int) < (len : Int)) = false := decide_eq_false (by simp at e; omega)
    simp only [L20_2, b20_2, g1, Bool.false_eq_true, if_false, cmP, cmL, cmA, List.map_nil]
  | n + 1, pre, c :: suf, last, now, act, e, h, h1, h2 => by
    have e' : pre.length + (suf.length + 1) = len := by simpa using e
    have g1 : decide ((pre.length : Int) < (len : Int)) = true := decide_eq_true (by omega)
    have g2 : decide ((0 : Int) ≤ (pre.length : Int) ∧ (pre.length : Int) < ((pre ++ c :: suf).length : Int)) = true := decide_eq_true (by simp; omega)
    have g3 : (pre ++ c :: suf).getD ((pre.length : Int)).toNat (zEl T34) = c := by simp
    have g4 : IntKind.i64.wrap (now + (1 : Int)) = now + 1 := by rw [i64_in] <;> omega
    have g5 : IntKind.i64.wrap ((pre.length : Int) + (1 : Int)) = (((pre ++ [sr c 0]).length : Nat) : Int) := by
      have : (pre ++ [sr c 0]).length = pre.length + 1 := by simp
      rw [this, i64_in] <;> omega
    have g6 : ∀ k, (pre ++ c :: suf).set ((pre.length : Int)).toNat (c.1, k, c.2.2) = (pre ++ [sr c k]) ++ suf := by
      intro k
      rw [Int.toNat_natCast, set_mid]
      simp [sr]
    rw [L20_2]
    simp only [b20_2, g1, if_true, g2, g3, g4, g5, g6, bne_iff_ne, ne_eq, beq_iff_eq]
    have ih := fun (k last now act : Int) (h1 : -1 ≤ now) (h2 : now ≤ (pre.length : Int) + 1) => L20_2_eq cnt ord a len hlen n (pre ++ [sr c k]) suf last now act (by simp; omega) (by simpa using h) h1 (by simp; omega)
    have hx : ∀ k : Int, (pre ++ [sr c k]).length = (pre ++ [sr c 0]).length := fun k => by simp
    by_cases q1 : c.2.1 = last
    · have q1' : ¬ cr c ≠ last := fun h => h q1
      have ec : cmP last now (c :: suf) = (c, now) :: cmP last now suf := by rw [cmP, if_neg q1']
      rw [if_neg (fun h => h q1)]
      by_cases q2 : c.2.1 = a
      · have := ih now last now now h1 (by omega)
        rw [hx] at this
        rw [if_pos q2, this]
        have q2' : cr c = a := q2
        simp [ec, cmL, cmA, q2']
      · have := ih now last now act h1 (by omega)
        rw [hx] at this
        rw [if_neg q2, this]
        have q2' : ¬ cr c = a := q2
        simp [ec, cmL, cmA, q2']
    · have q1' : cr c ≠ last := q1
      have ec : cmP last now (c :: suf) = (c, now + 1) :: cmP (cr c) (now + 1) suf := by rw [cmP, if_pos q1']
      rw [if_pos q1]
      by_cases q2 : c.2.1 = a
      · have := ih (now + 1) (cr c) (now + 1) (now + 1) (by omega) (by omega)
        rw [hx] at this
        rw [if_pos q2]
        refine Eq.trans this ?_
        have q2' : cr c = a := q2
        simp [ec, cmL, cmA, q2']
      · have := ih (now + 1) (cr c) (now + 1) act (by omega) (by omega)
        rw [hx] at this
        rw [if_neg q2]
        refine Eq.trans this ?_
        have q2' : ¬ cr c = a := q2
        simp [ec, cmL, cmA, q2']
end
theorem B_any {R : Ce × Int → Ce × Int → Prop} : ∀ {l : List (Ce × Int)}, l.Pairwise R → ∀ p ∈ l, ∀ q ∈ l, p = q ∨ R p q ∨ R q p
  | x :: l, h, p, hp, q, hq => by
    have h' := List.pairwise_cons.1 h
    rcases List.mem_cons.1 hp with rfl | hp' <;> rcases List.mem_cons.1 hq with rfl | hq'
    · exact .inl rfl
    · exact .inr (.inl (h'.1 q hq'))
    · exact .inr (.inr (h'.1 p hp'))
    · exact B_any h'.2 p hp' q hq'
/-- what closing up comes to -/
theorem close_inv {O n : Nat} {o a : Int} (ho : o = O) {Q : List Ce} (hlen : Q.length ≤ n) (hw : ∀ c ∈ Q, WF O c) (hid : (Q.map cid).Nodup) (hs : Q.Pairwise LeC) (hap : Q.Pairwise Apart) :
    MInv O n (o, cmL (cmP (-1) (-1) Q), cmA a 0 (cmP (-1) (-1) Q)) ∧ Rel Q (cmL (cmP (-1) (-1) Q)) ∧ (Tight Q → Tight (cmL (cmP (-1) (-1) Q))) := by
  obtain ⟨A, B, C⟩ := cmP_facts Q (-1) (-1) hs (fun c hc => by have := (hw c hc).2.1; omega) (by omega) (by omega)
  have hf := cmP_fst Q (-1) (-1)
  generalize cmP (-1) (-1) Q = P at *
  have hm : ∀ p ∈ P, p.1 ∈ Q := fun p hp => by rw [← hf]; exact List.mem_map.2 ⟨p, hp, rfl⟩
  have h0 : ∀ p ∈ P, 0 ≤ p.2 ∧ p.2 ≤ cr p.1 := fun p hp => by
    obtain ⟨a1, a2, a3, a4⟩ := A p hp
    have := (hw _ (hm p hp)).2.1
    have := a4 (by omega)
    omega
  have hL : ∀ c', c' ∈ cmL P → ∃ p ∈ P, c' = sr p.1 p.2 := fun c' hc => by
    obtain ⟨p, hp, e⟩ := List.mem_map.1 hc
    exact ⟨p, hp, e.symm⟩
  have hcid : (cmL P).map cid = Q.map cid := by
    rw [← hf]
    simp only [cmL, List.map_map]
    rfl
  have hlen' : (cmL P).length = Q.length := by
    rw [← hf]; simp [cmL]
  have hs' : P.Pairwise fun p q => LeC p.1 q.1 := by rw [← hf, List.pairwise_map] at hs; exact hs
  have hap' : P.Pairwise fun p q => Apart p.1 q.1 := by rw [← hf, List.pairwise_map] at hap; exact hap
  refine ⟨⟨ho, by show (cmL P).length ≤ n; omega, fun c' hc => ?_, by show ((cmL P).map cid).Nodup; rw [hcid]; exact hid, ?_, ?_, ?_, ?_⟩, ⟨hlen', fun c hc => ?_⟩, fun ht c' hc r r0 r1 => ?_⟩
  · obtain ⟨p, hp, rfl⟩ := hL c' hc
    have := h0 p hp
    have hwp := hw _ (hm p hp)
    exact sr_wf hwp this.1 (by have := hwp.2.2.1; omega)
  · show (cmL P).Pairwise LeC
    unfold cmL
    rw [List.pairwise_map]
    refine (B.and hs').imp fun {p q} h => ?_
    have h2 := (leC_iff p.1 q.1).1 h.2
    rw [leC_iff]
    show p.2 < q.2 ∨ p.2 = q.2 ∧ (p.1.2.2.1 : Int) ≤ q.1.2.2.1
    have h1 := h.1
    unfold cr at h1
    simp only [El] at *
    omega
  · show (cmL P).Pairwise Apart
    unfold cmL
    rw [List.pairwise_map]
    refine (B.and hap').imp fun {p q} h => ?_
    intro e
    have e : p.2 = q.2 := e
    exact h.2 (by have := h.1; omega)
  · show 0 ≤ cmA a 0 P
    rcases cmA_mem a P 0 with h | ⟨p, hp, h⟩
    · rw [h]; omega
    · rw [h]; exact (h0 p hp).1
  · show cmA a 0 P = 0 ∨ ∃ d ∈ cmL P, cmA a 0 P ≤ cr d
    rcases cmA_mem a P 0 with h | ⟨p, hp, h⟩
    · exact .inl h
    · exact .inr ⟨sr p.1 p.2, List.mem_map.2 ⟨p, hp, rfl⟩, by rw [h, sr_cr]; omega⟩
  · rw [← hf] at hc
    obtain ⟨p, hp, rfl⟩ := List.mem_map.1 hc
    exact ⟨sr p.1 p.2, List.mem_map.2 ⟨p, hp, rfl⟩, rfl, rfl, (h0 p hp).2⟩
  · obtain ⟨p, hp, rfl⟩ := hL c' hc
    rw [sr_cr] at r1
    rw [sr_st, sr_od]
    obtain ⟨q, hq, e⟩ := C p hp r (by omega) (by omega)
    have hlt : cr q.1 < cr p.1 := by
      rcases B_any B p hp q hq with h | h | h
      · subst h; omega
      · omega
      · omega
    obtain ⟨d, hd, e1, e2⟩ := hit_true (ht p.1 (hm p hp) (cr q.1) (hw _ (hm q hq)).2.1 hlt)
    rw [← hf] at hd
    obtain ⟨p', hp', rfl⟩ := List.mem_map.1 hd
    have e3 : p'.2 = r := by
      rcases B_any B p' hp' q hq with h | h | h
      · subst h; exact e
      · omega
      · omega
    exact List.any_eq_true.2 ⟨sr p'.1 p'.2, List.mem_map.2 ⟨p', hp', rfl⟩, by simp [sr_cr, sr_st, sr_od, e3, e2]⟩
theorem unify_eq {O n : Nat} (hO : O ≤ 7) (K : Nat) (hK : 2000 ≤ K) (m : Mx) (hi : MInv O n m) (hn : n ≤ 900) :
    ∃ cnt m', F20 K m = some (cnt, m') ∧ MInv O n m' ∧ Tight m'.2.1 ∧ Rel m.2.1 m'.2.1 ∧ (Tight m.2.1 → cnt = 0) := by
  have hl := hi.len
  obtain ⟨cnt, q, q1, q2, q3, q4, q5, q6, q7, q8⟩ := L20_0_eq hO K hK m hi.wf (by omega) hi.srt K [] [] m.2.1 0 rfl (by omega) rfl rfl (fun d hd => by cases hd) hi.ap (rel_refl []) (fun c hc => by cases hc) (by omega) (by simp) (fun _ => ⟨rfl, rfl⟩)
  have hk := keys_nodup q3 q4
  have f1 : F38 K (m.1, q, m.2.2) = some ((), m.1, insC q, m.2.2) := F38_eq K (m.1, q, m.2.2) (by show q.length ≤ _; omega) hk
  have hp := insC_perm q
  have f2 := L20_2_eq K hK m cnt m.1 m.2.2 (insC q).length (by rw [hp.length_eq]; omega) K [] (insC q) (-1) (-1) 0 (by simp) (by rw [hp.length_eq]; omega) (by omega) (by simp)
  have hw' : ∀ c ∈ insC q, WF O c := fun c hc => q3 c (hp.mem_iff.1 hc)
  obtain ⟨c1, c2, c3⟩ := close_inv (n := n) (o := m.1) (a := m.2.2) hi.o (by rw [hp.length_eq]; omega) hw' ((hp.map cid).nodup_iff.2 (by rw [q2]; exact hi.ids)) (insC_sorted q) (hp.symm.pairwise q4 fun h => apart_symm h)
  refine ⟨cnt, _, ?_, c1, c3 (tight_perm q6 hp), rel_trans (rel_perm q5 hp) c2, q7⟩
  have e : F20 K m = rest2 K m cnt q := q8
  rw [e]
  unfold rest2
  rw [f1]
  exact f2
end Go.Proofs.YtlpalhgiiodjoaaE
