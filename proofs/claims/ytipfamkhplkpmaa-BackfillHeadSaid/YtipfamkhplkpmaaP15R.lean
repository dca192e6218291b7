/- Backfill: under Easy the first that waits is promised what it is told of alone; BackfillHead. -/
import Derived.Test.YtipfamkhplkpmaaP15Q
set_option linter.all false
namespace Go.Proofs.YtipfamkhplkpmaaE
open Go Go.Proofs
set_option maxRecDepth 100000
set_option linter.unusedVariables false
theorem Lay.head {nm : List Wn} {x : Sl} {B : List Sl} {hs : List Hd} (h : Lay nm (x :: B) hs) : ∃ w st a hs', x = slotOf w st a ∧ w ∈ nm ∧ OKw w ∧ hs = heldOf w st a :: hs' ∧ Lay nm B hs' := by
  cases h with
  | cons hw W hl => exact ⟨_, _, _, _, rfl, hw, W, rfl, hl⟩
theorem Lay.split {nm : List Wn} : ∀ {A B : List Sl} {hs : List Hd}, Lay nm (A ++ B) hs → ∃ h1 h2, hs = h1 ++ h2 ∧ Lay nm A h1 ∧ Lay nm B h2
  | [], B, hs, h => ⟨[], hs, rfl, .nil, h⟩
  | x :: A, B, hs, h => by
    obtain ⟨w, st, a, hs', rfl, hw, W, rfl, hl⟩ := Lay.head (B := A ++ B) h
    obtain ⟨h1, h2, rfl, l1, l2⟩ := Lay.split hl
    exact ⟨heldOf w st a :: h1, h2, rfl, .cons hw W l1, l2⟩
theorem Lay.len {nm : List Wn} : ∀ {A : List Sl} {hs : List Hd}, Lay nm A hs → hs.length = A.length
  | [], _, .nil => rfl
  | x :: A, hs, h => by
    obtain ⟨w, st, a, hs', rfl, hw, W, rfl, hl⟩ := Lay.head h
    simp [Lay.len hl]
theorem rises_inj : ∀ {l : List Wn} {last : Int} {w w' : Wn}, risesW last l → w ∈ l → w' ∈ l → w.1 = w'.1 → w = w'
  | x :: l, last, w, w', h, hw, hw', e => by
    rcases List.mem_cons.1 hw with h1 | h1
    · rcases List.mem_cons.1 hw' with h2 | h2
      · rw [h1, h2]
      · have := rises_ne h.2 w' h2
        rw [← e, h1] at this
        exact absurd this (Int.lt_irrefl _)
    · rcases List.mem_cons.1 hw' with h2 | h2
      · have := rises_ne h.2 w h1
        rw [e, h2] at this
        exact absurd this (Int.lt_irrefl _)
      · exact rises_inj h.2 h1 h2 e
/-- the last look -/
theorem L6_end (m : Nat) (s : Sc) (hf : List.length s.2.1 ≤ 1200) (a1 nm : List Wn) (now : Int) (hnm : nm.length ≤ 1000) {last0 : Int} (hr : risesW last0 nm) (A B : List Sl) (w : Wn) (st a : Int) (hsl : (A ++ slotOf w st a :: B).length ≤ 1000) (n : Nat) (X : List Hd)
    (hw : w ∈ nm) (W : OKw w) (ha : now ≤ a) (hend : a + w.2.2 ≤ 4398046511104) (hn0 : 0 ≤ now) (hn1 : now ≤ 1099511627776) (hk : okS (cur s X) = true) (ho : okH s (heldOf w st a) = true) (hfree : freeS (cur s X) (st, w.2.1) a (a + w.2.2) = true) :
    L6_1 (F8 m) (F9 2000) (F10 2000) (F11 2000) (F24 2000) (F25 2000) (F1013 2000) (F14 2000) (F16 2000) (F15 2000) 2000 s a1 now (n + 1) nm (A ++ slotOf w st a :: B) (A.length : Int) ((A ++ slotOf w st a :: B).length : Int) s.1 s.2.1 X = some true := by
  have hlen : (A ++ slotOf w st a :: B).length = A.length + (B.length + 1) := by simp
  obtain ⟨h1, h2, h3, h4, h5, h6⟩ := mid (l := A ++ slotOf w st a :: B) (xs := B) (pre := A) (x := slotOf w st a) rfl (zEl T44) (by omega)
  have hend' : decide (((A ++ slotOf w st a :: B).length : Int) < ((A ++ slotOf w st a :: B).length : Int)) = false := by simp
  have h14 : F14 2000 nm (slotOf w st a) = some (w, true) := F14_eq hnm hr hw rfl rfl
  have W0 := W.l0
  have ew : IntKind.i64.wrap ((slotOf w st a).2.2 + w.2.2) = a + w.2.2 := i64_in (by show _ ≤ a + w.2.2; simp only [El] at *; omega) (by show a + w.2.2 ≤ _; simp only [El] at *; omega)
  have hof : fitsS s (st, w.2.1) = true := by
    unfold okH at ho
    simp only [Bool.and_eq_true] at ho
    exact ho.1
  obtain ⟨o0, o1, s0, s1, s2⟩ := of_decide_eq_true hof
  have O : OKS (cur s X) := oks_of hk
  have AS : Ask (cur s X) w.2.1 now w.2.2 := ⟨O, o0, o1, hn0, hn1, W.l0, W.l1⟩
  have hfd : (findS (cur s X) w.2.1 a (a + w.2.2)).2 = true := find_full O ⟨o0, o1⟩ s0 s1 s2 hfree
  have he := earl_before hk AS ha hfd
  have h16 : F16 2000 (s.1, s.2.1, X) w.2.1 now w.2.2 = some (earl (cur s X) w.2.1 now w.2.2) := F16_eq (s := cur s X) hf _ _ _
  have h15 : F15 2000 (s.1, s.2.1, X) (slotOf w st a).2.1 (slotOf w st a).2.2 (a + w.2.2) = some true := by
    have := F15_eq (s := cur s X) hf (st, w.2.1) a (a + w.2.2)
    have hff : freeF (cur s X) (st, w.2.1) a (a + w.2.2) = true := by
      unfold freeF
      have e1 : fitsS (cur s X) (st, w.2.1) = true := hof
      rw [hk, e1, hfree, decide_eq_true (show 0 ≤ a by omega), decide_eq_true (show a < a + w.2.2 by simp only [El] at *; omega)]
      rfl
    rw [hff] at this
    exact this
  have c1 : ((earl (cur s X) w.2.1 now w.2.2).2.2 == (0 : Int)) = true := beq_iff_eq.2 he.1
  have c2 : decide ((earl (cur s X) w.2.1 now w.2.2).1 ≤ (slotOf w st a).2.2) = true := decide_eq_true he.2
  simp only [L6_1, b6_1, hend', Bool.false_eq_true, if_false, h2, h3, if_true, h14, Option.bind_some, h16, c1, c2, ew, h15, known_eq]
theorem L6_1_head (m : Nat) (s : Sc) (a1 nm : List Wn) (now : Int) (hnm : nm.length ≤ 1000) {last0 : Int} (hr : risesW last0 nm) (A B : List Sl) (w : Wn) (st a : Int) (hsl : (A ++ slotOf w st a :: B).length ≤ 1000) (n : Nat) (X : List Hd) (hw : w ∈ nm) :
    L6_1 (F8 m) (F9 2000) (F10 2000) (F11 2000) (F24 2000) (F25 2000) (F1013 2000) (F14 2000) (F16 2000) (F15 2000) 2000 s a1 now (n + 1) nm (A ++ slotOf w st a :: B) (A.length : Int) (A.length : Int) s.1 s.2.1 X =
      L6_1 (F8 m) (F9 2000) (F10 2000) (F11 2000) (F24 2000) (F25 2000) (F1013 2000) (F14 2000) (F16 2000) (F15 2000) 2000 s a1 now n nm (A ++ slotOf w st a :: B) (A.length : Int) ((A ++ [slotOf w st a]).length : Int) s.1 s.2.1 X := by
  have hlen : (A ++ slotOf w st a :: B).length = A.length + (B.length + 1) := by simp
  obtain ⟨h1, h2, h3, h4, h5, h6⟩ := mid (l := A ++ slotOf w st a :: B) (xs := B) (pre := A) (x := slotOf w st a) rfl (zEl T44) (by omega)
  have h14 : F14 2000 nm (slotOf w st a) = some (w, true) := F14_eq hnm hr hw rfl rfl
  have hne : ((A.length : Int) != (A.length : Int)) = false := by simp
  conv => lhs; rw [L6_1, b6_1]
  rw [if_pos h1, if_pos h2, h3, h14, Option.bind_some, hne, if_neg Bool.false_ne_true, h4]
theorem Good.at {s : Sc} {now : Int} {l : List Wn} {x : Sl} {B : List Sl} : ∀ {A : List Sl} {L : List Hd} {last : Int}, Good s now l L last (A ++ x :: B) → ∃ w ∈ l, ∃ st a, x = slotOf w st a ∧ OKw w ∧ now ≤ a ∧ a + w.2.2 ≤ 4398046511104
  | [], L, last, h => by
    obtain ⟨w, hw, st, a, e, W, h1, h2, h3, _⟩ := h
    exact ⟨w, hw, st, a, e, W, h2, h3⟩
  | y :: A, L, last, h => by
    obtain ⟨w, hw, st, a, e, W, h1, h2, h3, _, _, h4⟩ := h
    exact Good.at h4
theorem L6_none (m : Nat) (s : Sc) (a1 nm : List Wn) (now : Int) (slots : List Sl) (hsl : slots.length ≤ 1000) (h : allNow now slots) :
    L6_0 (F8 m) (F9 2000) (F10 2000) (F11 2000) (F24 2000) (F25 2000) (F1013 2000) (F14 2000) (F16 2000) (F15 2000) 2000 s a1 now 2000 nm slots (-1) 0 = some true := by
  have e := L6_skip m s a1 nm now slots hsl (-1) 2000 [] slots rfl (by omega) h
  refine Eq.trans e ?_
  have hend : decide ((slots.length : Int) < (slots.length : Int)) = false := by simp
  conv => lhs; rw [L6_0, b6_0]
  rw [hend, if_neg Bool.false_ne_true, if_pos (by decide), known_eq]
  rfl
theorem backfillHead (s : Sc) (l : List Wn) (now : Int) (_ : Gd T25 s) (hl : Gd (.sl T38) l) (_ : (Lit.int .i64 now).wf = true) (hb : l.length * Try.prog.types[(38 : Nat)].bytes ≤ 140737488355328) :
    G6 (F8 (l.length + 1)) (F9 2000) (F10 2000) (F11 2000) (F24 2000) (F25 2000) (F1013 2000) (F14 2000) (F16 2000) (F15 2000) 2000 s l now = some true := by
  unfold G6 t6
  rw [F8_eq l hb hl.1, Option.bind_some]
  have hnl := nmw_len l 0
  obtain ⟨m, hm, hm'⟩ := F9_eq 2000 s (nmw 0 l)
  rw [hm, Option.bind_some]
  cases m with
  | true => rw [if_pos rfl, known_eq]; rfl
  | false =>
    obtain ⟨a1, a2, a3⟩ := hm' rfl
    have hf : List.length s.2.1 ≤ 1200 := by omega
    have ew : IntKind.i64.wrap ((List.length s.2.2 : Int) + ((nmw 0 l).length : Int)) = (List.length s.2.2 : Int) + ((nmw 0 l).length : Int) := i64_in (by omega) (by omega)
    rw [if_neg Bool.false_ne_true, ew]
    by_cases c : (List.length s.2.2 : Int) + ((nmw 0 l).length : Int) > 300
    · rw [if_pos (decide_eq_true c), known_eq]; rfl
    · rw [if_neg (by simpa using c)]
      obtain ⟨b, hb1, hb2⟩ := F10_eq s (nmw 0 l) now (by omega) (by omega)
      rw [hb1, Option.bind_some]
      cases b with
      | true => rw [if_pos rfl, known_eq]; rfl
      | false =>
        have N := hb2 rfl
        have hnm : (nmw 0 l).length ≤ 300 := by omega
        rw [if_neg Bool.false_ne_true, F24_eq hf (nmw 0 l) now _ (by omega) N, Option.bind_some]
        generalize hnmw : nmw 0 l = nm at *
        by_cases hc : okS s = true ∧ 0 ≤ now ∧ now ≤ 1099511627776 ∧ nm.length ≤ 300 ∧ nm.all okw = true
        · have hR : easy s now nm = (planS one yes s now nm 0 s.2.2, 0) := if_pos hc
          have O := oks_of hc.1
          have hr : risesW 0 nm := hnmw ▸ nmw_rises l 0 (by omega) (by omega)
          have PI : PInv s now (mx (cl0 now) s.2.2) s.2.2 := ⟨O, hc.2.1, hc.2.2.1, N.n hc.2.2.1, fun h hh => N.to h hh (by
            have := O.hh h hh
            unfold okH at this
            simp only [Bool.and_eq_true, decide_eq_true_eq] at this
            exact this.2.2.2)⟩
          have hgood := good_plan (pr := one) (on := yes) hc.1 nm now ⟨hc.2.1, hc.2.2.1⟩ nm 0 s.2.2 _ 0 (fun w h => h) (fun w h => okw_of (List.all_eq_true.1 hc.2.2.2.2 w h)) PI (by omega) (N.t hc.2.2.2.2) ⟨0, Int.le_refl _, hr⟩
          have hlen := planS_len (pr := one) (on := yes) (s := s) (now := now) nm 0 s.2.2
          rw [hR, if_neg (by simp)]
          dsimp only
          generalize hsl : planS one yes s now nm 0 s.2.2 = slots at *
          rcases easy_shape s now nm s.2.2 with hall | ⟨l1, w, l2, A, B, st, a, e1, e2, e3, hA, hB⟩
          · rw [hsl] at hall
            exact L6_none _ s l nm now slots (by omega) hall
          · rw [hsl] at e2
            subst e2
            obtain ⟨w', hw', st', a', e4, W', hna, hend⟩ := Good.at hgood
            have hwn : w ∈ nm := by rw [e1]; simp
            have W : OKw w := okw_of (List.all_eq_true.1 hc.2.2.2.2 w hwn)
            have ea : a = a' := congrArg (fun x : Sl => x.2.2) e4
            have hid : w.1 = (l1.length : Int) + 1 := by
              exact (nmw_id l1 l 0 w l2 (by omega) (by omega) (hnmw.trans e1)).trans (by rw [Int.zero_add])
            have hlnm : nm.length = l1.length + (l2.length + 1) := by rw [e1]; simp
            have hlsl : (A ++ slotOf w st a :: B).length = A.length + (B.length + 1) := by simp
            by_cases hnow : a = now
            · exact L6_none _ s l nm now _ (by omega) (fun x hx => by
                rcases List.mem_append.1 hx with hx | hx
                · exact hA x hx
                · rcases List.mem_cons.1 hx with rfl | hx
                  · exact hnow
                  · exact hB x hx)
            · have hgt : now < a := by omega
              refine Eq.trans (L6_head _ s l nm now A B (slotOf w st a) (by omega) hA hB hgt) ?_
              obtain ⟨h1, h2, h3, h4, h5, h6⟩ := mid (l := A ++ slotOf w st a :: B) (xs := B) (pre := A) (x := slotOf w st a) rfl (zEl T44) (by omega)
              have hendd : decide (((A ++ slotOf w st a :: B).length : Int) < ((A ++ slotOf w st a :: B).length : Int)) = false := by simp
              have hwt : (slotOf w st a).1 = (l1.length : Int) + 1 := hid
              have htk : List.drop (Int.toNat (0 : Int)) (List.take (Int.toNat ((l1.length : Int) + 1)) nm) = l1 ++ [w] := by
                rw [show Int.toNat ((l1.length : Int) + 1) = (l1 ++ [w]).length by simp, e1, show l1 ++ w :: l2 = (l1 ++ [w]) ++ l2 by simp, List.take_left]
                rfl
              have hts : List.drop (Int.toNat (0 : Int)) (List.take (IntKind.i64.wrap ((A.length : Int) + 1)).toNat (A ++ slotOf w st a :: B)) = A ++ [slotOf w st a] := by
                rw [i64_in (by omega) (by omega), show ((A.length : Int) + 1).toNat = (A ++ [slotOf w st a]).length by simp, show A ++ slotOf w st a :: B = (A ++ [slotOf w st a]) ++ B by simp, List.take_left]
                rfl
              have e1' : nm = (l1 ++ [w]) ++ l2 := by rw [e1]; simp
              have hpr : easy s now (l1 ++ [w]) = (A ++ [slotOf w st a], 0) := by
                have := planR_take (pr := one) (on := yes) (s := s) (now := now) (l1 := l1 ++ [w]) (l2 := l2) (by rw [← e1']; exact hc)
                rw [e3] at this
                exact this
              have N' : Near s now (mx (cl0 now) s.2.2) (l1 ++ [w]) := near_take (l2 := l2) (by rw [← e1']; exact N) (by rw [← e1']; exact hc.2.2.2.2)
              have hpl : (l1 ++ [w]).length = l1.length + 1 := by simp
              have hps : (A ++ [slotOf w st a]).length = A.length + 1 := by simp
              obtain ⟨hs, y1, y2, y3⟩ := good_lay _ _ _ hgood
              obtain ⟨hsA, hsB', rfl, z1, z2⟩ := Lay.split y1
              obtain ⟨w3, st3, a3', hsB, e5, hw3, W3, rfl, z4⟩ := Lay.head z2
              have hw'w : w' = w := rises_inj hr hw' hwn (congrArg (fun x : Sl => x.1) e4).symm
              have hw3w : w3 = w := rises_inj hr hw3 hwn (congrArg (fun x : Sl => x.1) e5).symm
              have ea3 : a = a3' := congrArg (fun x : Sl => x.2.2) e5
              have es3 : st = st3 := congrArg (fun x : Sl => x.2.1.1) e5
              subst hw'w
              subst hw3w
              subst ea
              subst ea3
              subst es3
              have lA := z1.len
              have lB := z4.len
              have hp := List.pairwise_append.1 y3
              have hpB := List.pairwise_cons.1 hp.2.1
              have hk0 := y2 (heldOf w3 st a) (by simp)
              have hfree : freeS (cur s ((s.2.2 ++ hsA) ++ hsB)) (st, w3.2.1) a (a + w3.2.2) = true := by
                refine free_held (k := heldOf w3 st a) hk0.2.1 (fun h hh => ?_)
                rcases List.mem_append.1 hh with hh | hh
                · rcases List.mem_append.1 hh with hh | hh
                  · exact hk0.2.2 h hh
                  · exact hp.2.2 h hh _ (by simp)
                · exact noClash_comm (hpB.1 h hh)
              have hokX : okS (cur s ((s.2.2 ++ hsA) ++ hsB)) = true := by
                have hks := hc.1
                unfold okS at hks ⊢
                simp only [Bool.and_eq_true, decide_eq_true_eq] at hks ⊢
                refine ⟨⟨⟨hks.1.1.1, hks.1.1.2.1, ?_⟩, hks.1.2⟩, List.all_eq_true.2 fun h hh => ?_⟩
                · show ((s.2.2 ++ hsA) ++ hsB).length ≤ 300
                  simp only [List.length_append]
                  omega
                · have hh' : h ∈ (s.2.2 ++ hsA) ++ hsB := hh
                  rcases List.mem_append.1 hh' with hh | hh
                  · rcases List.mem_append.1 hh with hh | hh
                    · exact List.all_eq_true.1 hks.2 h hh
                    · exact (y2 h (by simp [hh])).1
                  · exact (y2 h (by simp [hh])).1
              have hc1 : ¬ ((A.length : Int) < 0) := by omega
              have hbd : decide ((0 : Int) ≤ (0 : Int) ∧ (0 : Int) ≤ (l1.length : Int) + 1 ∧ (l1.length : Int) + 1 ≤ (nm.length : Int)) = true := decide_eq_true ⟨by omega, by omega, by omega⟩
              have hbd2 : decide ((0 : Int) ≤ (0 : Int) ∧ (0 : Int) ≤ IntKind.i64.wrap ((A.length : Int) + 1) ∧ IntKind.i64.wrap ((A.length : Int) + 1) ≤ ((A ++ slotOf w3 st a :: B).length : Int)) = true := by
                rw [i64_in (by omega) (by omega)]
                exact decide_eq_true ⟨by omega, by omega, by omega⟩
              conv => lhs; rw [L6_0, b6_0]
              rw [hendd, if_neg Bool.false_ne_true, if_neg (by simpa using hc1), if_pos h2, h3, hwt, if_pos hbd, htk, F24_eq hf (l1 ++ [w3]) now _ (by omega) N', hpr, Option.bind_some,
                if_neg (by simp), if_pos hbd2, hts, show F25 2000 (A ++ [slotOf w3 st a], (0 : Int)).1 (A ++ [slotOf w3 st a]) = some true from F25_eq (A ++ [slotOf w3 st a]) (by omega), Option.bind_some, if_neg (by simp), F1013_eq 2000 s (by omega) (by omega), Option.bind_some]
              have u1 := L6_1_upto (l.length + 1) s l nm now (by omega) hr (A ++ slotOf w3 st a :: B) (by omega) (A.length : Int) (2000 - A.length) (slotOf w3 st a :: B) (fun _ _ _ _ => none) A [] s.2.2 hsA rfl z1 (fun k hk => (y2 k (by simp [hk])).1) (.inr (by simp)) (by omega)
              rw [show 2000 - A.length + A.length = 2000 by omega] at u1
              refine Eq.trans u1 ?_
              rw [List.nil_append]
              obtain ⟨k1, hk1⟩ : ∃ k, 2000 - A.length = k + 1 := ⟨1999 - A.length, by omega⟩
              rw [hk1, L6_1_head _ s l nm now (by omega) hr A B w3 st a (by omega) k1 _ hwn]
              have u2 := L6_1_upto (l.length + 1) s l nm now (by omega) hr (A ++ slotOf w3 st a :: B) (by omega) (A.length : Int) (k1 - B.length) [] (fun _ _ _ _ => none) B (A ++ [slotOf w3 st a]) (s.2.2 ++ hsA) hsB (by simp) z4 (fun k hk => (y2 k (by simp [hk])).1) (.inl (by omega)) (by simp only [List.length_append]; omega)
              rw [show k1 - B.length + B.length = k1 by omega] at u2
              refine Eq.trans u2 ?_
              rw [show (A ++ [slotOf w3 st a]) ++ B = A ++ slotOf w3 st a :: B by simp]
              obtain ⟨k2, hk2⟩ : ∃ k, k1 - B.length = k + 1 := ⟨k1 - B.length - 1, by omega⟩
              rw [hk2]
              exact L6_end _ s hf l nm now (by omega) hr A B w3 st a (by omega) k2 _ hwn W hna hend hc.2.1 hc.2.2.1 hokX hk0.1 hfree
        · have hR : easy s now nm = ([], 2) := if_neg hc
          rw [hR, if_pos (by simp), known_eq]
          rfl
theorem cok6m {D : Prop} (m : Nat) : CallOK D Try.prog (tab6 (F8 m) (F9 2000) (F10 2000) (F11 2000) (F24 2000) (F25 2000) (F1013 2000) (F14 2000) (F16 2000) (F15 2000)) := (add_ok (add_ok (add_ok (add_ok (add_ok (add_ok (add_ok (add_ok (add_ok (add_ok none_ok ent8 (ok8 m)) ent9 (ok9 2000)) ent10 (ok10 2000)) ent11 (ok11 2000)) ent24 (ok24 2000)) ent25 (ok25 2000)) ent1013 (ok1013 2000)) ent14 (ok14 2000)) ent16 (ok16 2000)) ent15 (ok15 2000))
end Go.Proofs.YtipfamkhplkpmaaE
