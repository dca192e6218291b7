/- Gang: Remove and Turn as laws on a matrix. -/
import Derived.Test.YtlpalhgiiodjoaaP16C
set_option linter.all false
namespace Go.Proofs.YtlpalhgiiodjoaaE
open Go Go.Proofs
set_option maxRecDepth 100000
set_option linter.unusedVariables false
theorem act_le {O n : Nat} {m : Mx} (hi : MInv O n m) : 0 ≤ m.2.2 ∧ m.2.2 ≤ 15 := by
  refine ⟨hi.act.1, ?_⟩
  rcases hi.act.2 with h | ⟨d, hd, h⟩
  · omega
  · have := (hi.wf d hd).2.2.1
    omega
theorem sub_inv {O n : Nat} {m : Mx} (hi : MInv O n m) {l : List Ce} (hs : List.Sublist l m.2.1) {a : Int} (h0 : 0 ≤ a) (ha : a = 0 ∨ ∃ d ∈ l, a ≤ cr d) : MInv O n (m.1, l, a) :=
  ⟨hi.o, Nat.le_trans hs.length_le hi.len, fun c hc => hi.wf c (hs.mem hc), (hs.map cid).nodup hi.ids, hi.srt.sublist hs, hi.ap.sublist hs, h0, ha⟩
theorem remove_eq {O n : Nat} (K : Nat) (hK : 2000 ≤ K) (m : Mx) (hi : MInv O n m) (hn : n ≤ 900) (id : Int) :
    (id ∉ m.2.1.map cid ∧ F22 K id m = some (4, m)) ∨
    ∃ pre c suf a, m.2.1 = pre ++ c :: suf ∧ cid c = id ∧ F22 K id m = some (0, (m.1, pre ++ suf, a)) ∧ (a = 0 ∨ a = m.2.2) ∧ ((∃ d ∈ pre ++ suf, m.2.2 ≤ cr d) → a = m.2.2) ∧ MInv O n (m.1, pre ++ suf, a) := by
  have hl := hi.len
  have f0 := F39_eq K hK m id (by omega)
  cases ha : atN id m.2.1 with
  | none =>
    rw [ha] at f0
    refine .inl ⟨fun h => ?_, ?_⟩
    · obtain ⟨c, hc, e⟩ := List.mem_map.1 h
      exact atN_none.1 ha c hc e
    · have b4 : decide ((-1 : Int) < 0) = true := rfl
      simp only [F22, G22, t22]
      rw [f0]
      simp only [Option.bind_some, b4, if_true]
  | some j =>
    rw [ha] at f0
    obtain ⟨pre, c, suf, e, ej, ec⟩ := atN_some ha
    have hj : j < m.2.1.length := by rw [e]; simp; omega
    have b4 : decide ((j : Int) < 0) = false := decide_eq_false (by omega)
    have b5 : IntKind.i64.wrap ((j : Int) + (1 : Int)) = ((j + 1 : Nat) : Int) := by rw [i64_in] <;> omega
    have f1 : F40 K ((j : Int), ((j + 1 : Nat) : Int)) m.2.1 = some (pre ++ suf) := by
      unfold F40
      rw [if_pos (by simp only; omega)]
      simp only [Int.toNat_natCast]
      rw [e, ← ej]
      simp
    have hs : List.Sublist (pre ++ suf) m.2.1 := by rw [e]; exact List.Sublist.append_left (List.sublist_cons_self c suf) pre
    obtain ⟨R, f2, hR, hR2⟩ := F17_eq (O := O) (n := n) K (m.1, pre ++ suf, m.2.2) (by have := hs.length_le; show (pre ++ suf).length ≤ _; omega) (fun c hc => hi.wf c (hs.mem hc)) (hi.srt.sublist hs)
    have hact := hi.act.1
    refine .inr ⟨pre, c, suf, if m.2.2 ≥ R then 0 else m.2.2, e, ec, ?_, ?_, ?_, ?_⟩
    · simp only [F22, G22, t22]
      rw [f0]
      simp only [Option.bind_some, b4, Bool.false_eq_true, if_false, b5, f1, f2]
      by_cases c : m.2.2 ≥ R
      · rw [if_pos (decide_eq_true c), if_pos c]
      · rw [if_neg (by simpa using c), if_neg c]
    · split
      · exact .inl rfl
      · exact .inr rfl
    · rintro ⟨d, hd, h⟩
      have := hR2 d hd
      rw [if_neg (by omega)]
    · refine sub_inv hi hs ?_ ?_
      · split <;> omega
      · split
        · exact .inl rfl
        · rename_i h
          rcases hR with ⟨h1, h2⟩ | ⟨d, hd, h2⟩
          · omega
          · exact .inr ⟨d, hd, by omega⟩
theorem turn_eq {O n : Nat} (K : Nat) (m : Mx) (hi : MInv O n m) (hn : n ≤ 900) : ∃ a R, F18 K m = some ((), m.1, m.2.1, a) ∧ F17 K m = some R ∧ a = (if m.2.2 + 1 ≥ R then 0 else m.2.2 + 1) ∧ (m.2.1 = [] ∧ R = 0 ∨ ∃ d ∈ m.2.1, R = cr d + 1) ∧ (∀ c ∈ m.2.1, cr c < R) ∧ MInv O n (m.1, m.2.1, a) := by
  have hl := hi.len
  have ha := act_le hi
  have e1 : IntKind.i64.wrap (m.2.2 + (1 : Int)) = m.2.2 + 1 := by rw [i64_in] <;> omega
  obtain ⟨R, f2, hR, hR2⟩ := F17_eq (O := O) (n := n) K m (by omega) hi.wf hi.srt
  have f3 : F17 K (m.1, m.2.1, m.2.2 + 1) = some R := f2
  refine ⟨_, R, ?_, f2, rfl, hR, hR2, ?_⟩
  · simp only [F18, G18, t18, e1, f3, Option.bind_some]
    by_cases c : m.2.2 + 1 ≥ R
    · rw [if_pos (decide_eq_true c), if_pos c]
    · rw [if_neg (by simpa using c), if_neg c]
  · refine sub_inv hi (List.Sublist.refl _) ?_ ?_
    · split <;> omega
    · split
      · exact .inl rfl
      · rename_i h
        rcases hR with ⟨h1, h2⟩ | ⟨d, hd, h2⟩
        · omega
        · exact .inr ⟨d, hd, by omega⟩
end Go.Proofs.YtlpalhgiiodjoaaE
