/- Backfill: plans are apart. -/
import Derived.Test.YtipfamkhplkpmaaP15I
set_option linter.all false
namespace Go.Proofs.YtipfamkhplkpmaaE
open Go Go.Proofs
set_option maxRecDepth 100000
set_option linter.unusedVariables false
def cl0 (x : Int) : Int := if (8796093022208 : Int) < (if (0 : Int) > x then (0 : Int) else x) then 8796093022208 else (if (0 : Int) > x then (0 : Int) else x)
theorem cl0_in (x : Int) : 0 ≤ cl0 x ∧ cl0 x ≤ 8796093022208 := by
  unfold cl0
  (repeat' split) <;> omega
theorem cl0_id {x : Int} (h0 : 0 ≤ x) (h1 : x ≤ 8796093022208) : cl0 x = x := by
  unfold cl0
  (repeat' split) <;> omega
theorem L10_1_eq (s : Sc) (l : List Wn) (now : Int) (hl : l.length ≤ 1000) : ∀ (n : Nat) (pre suf : List Wn) (a : Int), l = pre ++ suf → suf.length < n → 0 ≤ a ∧ a ≤ 17592186044416 →
    ∃ b, L10_1 2000 s l now n a (pre.length : Int) = some b ∧ (b = false → suf.all okw = true → a + tot suf ≤ 4398046511104)
  | 0, pre, suf, a, e, h, ha => by omega
  | n + 1, pre, [], a, e, h, ha => by
    have := fin e
    simp only [L10_1, b10_1, this.1, Bool.false_eq_true, if_false]
    exact ⟨_, rfl, fun h _ => by simp [tot] at *; omega⟩
  | n + 1, pre, x :: xs, a, e, h, ha => by
    obtain ⟨h1, h2, h3, h4, h5, h6⟩ := mid e (zEl ((Ty.int IntKind.u32).pair T42)) (by omega)
    simp only [L10_1, b10_1, h1, h2, h3, h4, if_true]
    by_cases c : a ≤ 4398046511104
    · have hc := cl0_in x.2.2
      have ew : IntKind.i64.wrap (a + cl0 x.2.2) = a + cl0 x.2.2 := i64_in (by omega) (by omega)
      rw [if_pos (decide_eq_true c)]
      show ∃ b, L10_1 2000 s l now n (IntKind.i64.wrap (a + cl0 x.2.2)) ((pre ++ [x]).length : Int) = some b ∧ _
      rw [ew]
      obtain ⟨b, hb, hb'⟩ := L10_1_eq s l now hl n (pre ++ [x]) xs (a + cl0 x.2.2) h5 (by simpa using h) (by omega)
      refine ⟨b, hb, fun hf hall => ?_⟩
      rw [List.all_cons, Bool.and_eq_true] at hall
      have W := okw_of hall.1
      have e0 : cl0 x.2.2 = x.2.2 := cl0_id (by have := W.l0; simp only [El] at *; omega) (by have := W.l1; simp only [El] at *; omega)
      have := hb' hf hall.2
      rw [e0] at this
      unfold tot
      simp only [El] at *
      omega
    · rw [if_neg (by simpa using c)]
      exact ⟨_, rfl, fun h _ => by simp at h; omega⟩
theorem L10_0_eq (s : Sc) (l : List Wn) (now : Int) (hl : l.length ≤ 1000) (hs : List.length s.2.2 ≤ 1000) : ∀ (n : Nat) (pre suf : List Hd) (a : Int), s.2.2 = pre ++ suf → suf.length < n → 0 ≤ a ∧ a ≤ 8796093022208 →
    ∃ b, L10_0 2000 s l now n a (pre.length : Int) = some b ∧ (b = false → l.all okw = true → mx a suf + tot l ≤ 4398046511104)
  | 0, pre, suf, a, e, h, ha => by omega
  | n + 1, pre, [], a, e, h, ha => by
    have := fin (l := s.2.2) e
    simp only [L10_0, b10_0, this.1, Bool.false_eq_true, if_false]
    exact L10_1_eq s l now hl 2000 [] l a rfl (by omega) (by omega)
  | n + 1, pre, x :: xs, a, e, h, ha => by
    obtain ⟨h1, h2, h3, h4, h5, h6⟩ := mid (l := s.2.2) e (zEl T47) (by omega)
    simp only [L10_0, b10_0, h1, h2, h3, h4, if_true]
    have hc : cl x.2.2 ≤ 8796093022208 := by unfold cl; split <;> (simp only [El] at *; omega)
    exact L10_0_eq s l now hl hs n (pre ++ [x]) xs (if cl x.2.2 > a then cl x.2.2 else a) h5 (by simpa using h) (by split <;> omega)
theorem F10_eq (s : Sc) (l : List Wn) (now : Int) (hl : l.length ≤ 1000) (hs : List.length s.2.2 ≤ 1000) : ∃ b, F10 2000 s l now = some b ∧ (b = false → Near s now (mx (cl0 now) s.2.2) l) := by
  obtain ⟨b, hb, hb'⟩ := L10_0_eq s l now hl hs 2000 [] s.2.2 (cl0 now) rfl (by omega) (cl0_in now)
  refine ⟨b, hb, fun hf => ⟨fun hn => ?_, (mx_ge s.2.2 (cl0 now)).2, hb' hf⟩⟩
  have h1 := (mx_ge s.2.2 (cl0 now)).1
  have h2 := cl0_in now
  by_cases c : 0 ≤ now
  · rw [cl0_id c (by omega)] at *
    exact h1
  · omega
theorem planS_len {pr on : Int → Bool} {s : Sc} {now : Int} : ∀ (l : List Wn) (wait : Int) (L : List Hd), (planS pr on s now l wait L).length ≤ l.length
  | [], wait, L => Nat.le_refl _
  | w :: l, wait, L => by
    unfold planS
    cases skips s now w with
    | true => exact Nat.le_succ_of_le (planS_len l wait L)
    | false =>
      cases choice pr s now L wait w with
      | mk wait' r =>
        cases r with
        | none =>
          simp only
          cases on wait' with
          | true => exact Nat.le_succ_of_le (planS_len l wait' L)
          | false => exact Nat.zero_le _
        | some q =>
          simp only [List.length_cons]
          cases on wait' with
          | true => exact Nat.succ_le_succ (planS_len l wait' _)
          | false => simp
theorem F12_eq {s : Sc} (hf : List.length s.2.1 ≤ 1200) (l : List Wn) (now M p : Int) (hsum : List.length s.2.2 + l.length ≤ 300) (N : Near s now M l) : ∃ pr on, F12 2000 s l now p = some (planR pr on s now l) := by
  unfold F12 G12 t12
  rw [F26_eq hf l now M hsum N, F24_eq hf l now M hsum N, F27_eq hf l now M hsum N]
  split
  · exact ⟨_, _, rfl⟩
  · split
    · exact ⟨_, _, rfl⟩
    · exact ⟨_, _, rfl⟩
theorem L3_eq (m : Nat) (s : Sc) (hf : List.length s.2.1 ≤ 1200) (a1 : List Wn) (now p : Int) (l : List Wn) (hl : l.length ≤ 1000) {last0 : Int} (hr : risesW last0 l) (hn : 0 ≤ now) (slots : List Sl) (hsl : slots.length ≤ 1000) : ∀ (n : Nat) (pre suf : List Sl) (last : Int) (L : List Hd), slots = pre ++ suf → suf.length < n → Good s now l L last suf → L.length + suf.length ≤ 2000 →
    L3_0 (F8 m) (F9 2000) (F10 2000) (F11 2000) (F12 2000) (F1013 2000) (F14 2000) (F15 2000) 2000 s a1 now p n last (pre.length : Int) s.1 s.2.1 l slots L = some true
  | 0, pre, suf, last, L, e, h, hg, hL => by omega
  | n + 1, pre, [], last, L, e, h, hg, hL => by
    have := fin e
    simp only [L3_0, b3_0, this.1, Bool.false_eq_true, if_false, known_eq]
    rfl
  | n + 1, pre, x :: xs, last, L, e, h, hg, hL => by
    obtain ⟨g1, g2, g3, g4, g5, g6⟩ := mid e (zEl T44) (by omega)
    obtain ⟨w, hw, st, a, rfl, W, hlt, hna, hend, hok, hfree, hg'⟩ := hg
    have hL' : L.length + (xs.length + 1) ≤ 2000 := by simpa using hL
    have h14 : F14 2000 l (slotOf w st a) = some (w, true) := F14_eq hl hr hw rfl rfl
    have hw0 := W.l0
    have ew : IntKind.i64.wrap ((slotOf w st a).2.2 + w.2.2) = a + w.2.2 := i64_in (by show _ ≤ a + w.2.2; simp only [El] at *; omega) (by show a + w.2.2 ≤ _; simp only [El] at *; omega)
    have h15 : F15 2000 (s.1, s.2.1, L) (slotOf w st a).2.1 (slotOf w st a).2.2 (a + w.2.2) = some true := by
      have := F15_eq (s := cur s L) hf (st, w.2.1) a (a + w.2.2)
      rw [hfree] at this
      exact this
    have b47 : ∀ y : Hd, decide ((L.length + [y].length) * Try.prog.types[(47 : Nat)].bytes ≤ (140737488355328 : Nat)) = true := fun y => fits47 (by simp only [List.length_singleton]; omega)
    have c1 : ¬ (slotOf w st a).1 ≤ last := by show ¬ w.1 ≤ last; simp only [El] at *; omega
    have c2 : ¬ (slotOf w st a).2.2 < now := by show ¬ a < now; omega
    simp only [L3_0, b3_0, g1, g2, g3, g4, if_true, h14, Option.bind_some, ew, h15, b47, Bool.not_true, Bool.false_eq_true, if_false]
    rw [if_neg (by simpa using c1), if_neg (by simpa using c2)]
    exact L3_eq m s hf a1 now p l hl hr hn slots hsl n (pre ++ [slotOf w st a]) xs w.1 (L ++ [heldOf w st a]) g5 (by simpa using h) hg' (by simp; omega)
theorem F1013_eq (K : Nat) (s : Sc) (h1 : List.length s.2.1 ≤ 100000) (h2 : List.length s.2.2 ≤ 100000) : F1013 K s = some s := by
  have := Nat.mul_le_mul h1 by3
  have := Nat.mul_le_mul h2 by47
  unfold F1013 G1013 t1013
  rw [if_pos (decide_eq_true (by omega)), if_pos (decide_eq_true (by omega))]
theorem backfillApart (s : Sc) (l : List Wn) (now p : Int) (_ : Gd T25 s) (hl : Gd (.sl T38) l) (_ : (Lit.int .i64 now).wf = true) (_ : (Lit.int .i64 p).wf = true) (hb : l.length * Try.prog.types[(38 : Nat)].bytes ≤ 140737488355328) :
    G3 (F8 (l.length + 1)) (F9 2000) (F10 2000) (F11 2000) (F12 2000) (F1013 2000) (F14 2000) (F15 2000) 2000 s l now p = some true := by
  unfold G3 t3
  rw [F8_eq l hb hl.1, Option.bind_some]
  have hnl := nmw_len l 0
  obtain ⟨m, hm, hm'⟩ := F9_eq 2000 s (nmw 0 l)
  rw [hm, Option.bind_some]
  cases m with
  | true => rw [if_pos rfl, known_eq]; rfl
  | false =>
    obtain ⟨a1, a2, a3⟩ := hm' rfl
    have hf : List.length s.2.1 ≤ 1200 := by omega
    have ew : IntKind.i64.wrap ((List.length s.2.2 : Int) + ((nmw 0 l).length : Int)) = (List.length s.2.2 : Int) + ((nmw 0 l).length : Int) := i64_in (by omega) (by omega)
    rw [if_neg Bool.false_ne_true, ew]
    by_cases c : (List.length s.2.2 : Int) + ((nmw 0 l).length : Int) > 300
    · rw [if_pos (decide_eq_true c), known_eq]; rfl
    · rw [if_neg (by simpa using c)]
      obtain ⟨b, hb1, hb2⟩ := F10_eq s (nmw 0 l) now (by omega) (by omega)
      rw [hb1, Option.bind_some]
      cases b with
      | true => rw [if_pos rfl, known_eq]; rfl
      | false =>
        have N := hb2 rfl
        obtain ⟨pr, on, h12⟩ := F12_eq hf (nmw 0 l) now _ p (by omega) N
        rw [if_neg Bool.false_ne_true, h12, Option.bind_some]
        by_cases hc : okS s = true ∧ 0 ≤ now ∧ now ≤ 1099511627776 ∧ (nmw 0 l).length ≤ 300 ∧ (nmw 0 l).all okw = true
        · have hR : planR pr on s now (nmw 0 l) = (planS pr on s now (nmw 0 l) 0 s.2.2, 0) := if_pos hc
          have O := oks_of hc.1
          have hr := nmw_rises l 0 (by omega) (by omega)
          have PI : PInv s now (mx (cl0 now) s.2.2) s.2.2 := ⟨O, hc.2.1, hc.2.2.1, N.n hc.2.2.1, fun h hh => N.to h hh (by
            have := O.hh h hh
            unfold okH at this
            simp only [Bool.and_eq_true, decide_eq_true_eq] at this
            exact this.2.2.2)⟩
          have hgood := good_plan (pr := pr) (on := on) hc.1 (nmw 0 l) now ⟨hc.2.1, hc.2.2.1⟩ (nmw 0 l) 0 s.2.2 _ 0 (fun w h => h) (fun w h => okw_of (List.all_eq_true.1 hc.2.2.2.2 w h)) PI (by omega) (N.t hc.2.2.2.2) ⟨0, Int.le_refl _, hr⟩
          have hlen := planS_len (pr := pr) (on := on) (s := s) (now := now) (nmw 0 l) 0 s.2.2
          rw [hR, if_neg (by simp), F1013_eq 2000 s (by omega) (by omega), Option.bind_some]
          exact L3_eq (l.length + 1) s hf l now p (nmw 0 l) (Nat.le_trans a3 (by omega)) hr hc.2.1 _ (Nat.le_trans hlen (Nat.le_trans a3 (by omega))) 2000 [] _ 0 s.2.2 rfl (Nat.lt_of_le_of_lt hlen (Nat.lt_of_le_of_lt a3 (by omega))) hgood (Nat.le_trans (Nat.add_le_add_left (Nat.le_trans hlen a3) _) (by omega))
        · have hR : planR pr on s now (nmw 0 l) = ([], 2) := if_neg hc
          rw [hR, if_pos (by simp), if_pos (by simp), known_eq]
          rfl
theorem cok3m {D : Prop} (m : Nat) : CallOK D Try.prog (tab3 (F8 m) (F9 2000) (F10 2000) (F11 2000) (F12 2000) (F1013 2000) (F14 2000) (F15 2000)) := (add_ok (add_ok (add_ok (add_ok (add_ok (add_ok (add_ok (add_ok none_ok ent8 (ok8 m)) ent9 (ok9 2000)) ent10 (ok10 2000)) ent11 (ok11 2000)) ent12 (ok12 2000)) ent1013 (ok1013 2000)) ent14 (ok14 2000)) ent15 (ok15 2000))
end Go.Proofs.YtipfamkhplkpmaaE
