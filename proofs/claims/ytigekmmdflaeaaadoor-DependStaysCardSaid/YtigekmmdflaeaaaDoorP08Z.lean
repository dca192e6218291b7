/- Depend: DependStays, in plain words. -/
import Derived.Test.YtigekmmdflaeaaaDoorP08Y
set_option linter.all false
namespace Go.Proofs.YtigekmmdflaeaaaDoorE
open Go Go.Proofs
set_option maxRecDepth 100000
set_option linter.unusedVariables false
theorem by54 : Tryd.prog.types[(54 : Nat)].bytes ≤ 1000 := by decide +kernel
theorem fits54 {n : Nat} (h : n ≤ 100000) : decide (n * Tryd.prog.types[(54 : Nat)].bytes ≤ (140737488355328 : Nat)) = true := by
  have := Nat.mul_le_mul h by54
  exact decide_eq_true (by omega)
section
variable (K : Nat) (hK : 2000 ≤ K) (a : El T24) (l : List Wh) (on : List Int) (alone : Bool)
include hK
theorem L7_2_eq (last : Int) (now : List Wh) (hn : now.length ≤ 1000) (hend : (∀ w ∈ now, (3 : Int) ≤ w.2) → alone = true → last ≠ 1) : ∀ (n : Nat) (pre suf : List Wh) (b : Bool), now = pre ++ suf → suf.length < n → (b = true → ∀ w ∈ pre, (3 : Int) ≤ w.2) →
    L7_2 (F10 K) (F13 K) (F11 K) (F23 K) K a l on alone n last b (pre.length : Int) now = some true
  | 0, pre, suf, b, e, h, _ => by omega
  | n + 1, pre, [], b, e, h, hb => by
    have hf := fin e
    have f11 := F11_eq K (by omega)
    simp only [L7_2, b7_2, hf.1, Bool.false_eq_true, if_false, f11, Option.bind_some]
    cases b with
    | false => rw [if_pos (show (!false) = true from rfl)]
    | true =>
      rw [if_neg (show ¬ (!true) = true from by decide)]
      cases ha : alone with
      | false => rw [if_pos (show (!false) = true from rfl)]
      | true =>
        rw [if_neg (show ¬ (!true) = true from by decide)]
        have := hend (fun w hw => hb rfl w (hf.2 ▸ hw)) ha
        rw [if_pos (bne_iff_ne.2 this)]
  | n + 1, pre, x :: suf, b, e, h, hb => by
    obtain ⟨h1, h2, h3, h4, h5, h6⟩ := mid e (zEl T54) (by omega)
    have h5' := h5
    simp only [L7_2, b7_2, h1, h2, if_true, h3, h4]
    cases b with
    | true =>
      rw [if_pos rfl]
      refine L7_2_eq last now hn hend n (pre ++ [x]) suf _ h5 (by simpa using h) (fun hx w hw => ?_)
      rcases List.mem_append.1 hw with q | q
      · exact hb rfl w q
      · rw [List.mem_singleton.1 q]
        exact of_decide_eq_true hx
    | false =>
      rw [if_neg (by decide)]
      exact L7_2_eq last now hn hend n (pre ++ [x]) suf false h5 (by simpa using h) (fun hx => by cases hx)
theorem L7_1_eq (hon : ∀ x ∈ on, (0 : Int) ≤ x ∧ x ≤ 255) (honl : on.length ≤ 140737488355328) : ∀ (n i : Nat) (now : List Wh), 41 - i < n → now.length ≤ 1000 → i ≤ 41 →
    L7_1 (F10 K) (F13 K) (F11 K) (F23 K) K a l on alone n (sayP a now alone) (i : Int) now = some true
  | 0, i, now, h, _, _ => by omega
  | n + 1, i, now, h, hn, hi => by
    have out : L7_2 (F10 K) (F13 K) (F11 K) (F23 K) K a l on alone K (sayP a now alone) true (0 : Int) now = some true :=
      L7_2_eq K hK a l on alone (sayP a now alone) now hn (fun hw ha => by rw [ha]; exact sayP_end a now hw) K [] now true rfl (by omega) (fun _ w hw => by cases hw)
    have f23 := fun now' (hl' : now'.length ≤ 1000) => F23_eq K hK a now' hl' alone
    by_cases c1 : (i : Int) < (on.length : Int)
    · by_cases c2 : (i : Int) < 40
      · by_cases c3 : (now.length : Int) > 0
        · revert out
          have g1 : decide ((0 : Int) ≤ (i : Int) ∧ (i : Int) < (on.length : Int)) = true := decide_eq_true (by omega)
          have wi : IntKind.i64.wrap ((i : Int) + (1 : Int)) = ((i + 1 : Nat) : Int) := by rw [i64_in] <;> omega
          obtain ⟨y, hy⟩ : ∃ y : Int, on.getD ((i : Int)).toNat (zEl (Ty.int IntKind.u8)) = y := ⟨_, rfl⟩
          have hy2 : 0 ≤ y ∧ y ≤ 255 := by
            have hlt : i < on.length := by omega
            have e1 : on.getD ((i : Int)).toNat (zEl (Ty.int IntKind.u8)) = on[i] := by
              rw [Int.toNat_natCast]
              exact getD_lt hlt
            have : on[i] = y := e1.symm.trans hy
            rw [← this]
            exact hon _ (List.getElem_mem hlt)
          have wy : IntKind.i64.wrap y = y := i64_in (by omega) (by omega)
          have tm : Int.tmod y (now.length : Int) = ((y.toNat % now.length : Nat) : Int) := by
            rw [Int.tmod_eq_emod_of_nonneg hy2.1]
            conv => lhs; rw [← Int.toNat_of_nonneg hy2.1]
            exact (Int.natCast_emod _ _).symm
          have g2 : (!((now.length : Int) == (0 : Int))) = true := by
            have : ((now.length : Int) == (0 : Int)) = false := beq_eq_false_iff_ne.2 (by omega)
            rw [this]; rfl
          have kl : y.toNat % now.length < now.length := Nat.mod_lt _ (by omega)
          generalize y.toNat % now.length = k at tm kl
          have g3 : decide ((0 : Int) ≤ (k : Int) ∧ (k : Int) < (now.length : Int)) = true := decide_eq_true (by omega)
          have td : Int.tdiv y 128 = y / 128 := Int.tdiv_eq_ediv_of_nonneg hy2.1
          have wd : IntKind.i64.wrap (y / 128) = y / 128 := i64_in (by omega) (by omega)
          have wd3 : IntKind.i64.wrap ((3 : Int) + y / 128) = 3 + y / 128 := i64_in (by omega) (by omega)
          obtain ⟨w, hw⟩ : ∃ w : Wh, now[k]? = some w := ⟨now[k], List.getElem?_eq_getElem kl⟩
          have hwd : now.getD k (zEl T54) = w := by
            rw [List.getD_eq_getElem?_getD, hw]; rfl
          have hkt : ((k : Int)).toNat = k := Int.toNat_natCast k
          have stay : ∀ h' : Int, (∀ j, goesOn (howP now j) (howP (now.set k (w.1, h')) j)) → (if (sayP a now alone != (1 : Int)) = true then (if (sayP a (now.set k (w.1, h')) alone != sayP a now alone) = true then some false else L7_1 (F10 K) (F13 K) (F11 K) (F23 K) K a l on alone n (sayP a (now.set k (w.1, h')) alone) ((i + 1 : Nat) : Int) (now.set k (w.1, h'))) else L7_1 (F10 K) (F13 K) (F11 K) (F23 K) K a l on alone n (sayP a (now.set k (w.1, h')) alone) ((i + 1 : Nat) : Int) (now.set k (w.1, h'))) = some true := fun h' hg => by
            have ih := L7_1_eq hon honl n (i + 1) (now.set k (w.1, h')) (by omega) (by rw [List.length_set]; exact hn) (by omega)
            by_cases c : sayP a now alone = 1
            · rw [if_neg (fun h => (bne_iff_ne.1 h) c)]; exact ih
            · rw [if_pos (bne_iff_ne.2 c), if_neg (fun h => (bne_iff_ne.1 h) (sayP_stay a alone hg c))]; exact ih
          intro out
          clear out
          have hs : ∀ h' : Int, (now.set k (w.1, h')).length ≤ 1000 := fun h' => by rw [List.length_set]; exact hn
          simp only [L7_1, b7_1, decide_eq_true c1, decide_eq_true c2, decide_eq_true c3, g1, if_true, hy, wy, tm, g2, g3, hkt, hwd, td, wd, wd3, wi, f23 now hn, f23 _ (hs 2), f23 _ (hs (3 + y / 128)), Option.bind_some]
          by_cases d1 : (w.2 : Int) = 1
          · rw [if_pos (beq_iff_eq.2 d1)]
            refine stay 2 fun j => ?_
            rcases howP_set j 2 now k w hw with q | ⟨q1, q2⟩
            · exact .inl q
            · rw [q1, q2, d1]
              exact .inr (.inl ⟨rfl, rfl⟩)
          · rw [if_neg (fun h => d1 (beq_iff_eq.1 h))]
            by_cases d2 : (w.2 : Int) = 2
            · rw [if_pos (beq_iff_eq.2 d2)]
              refine stay (3 + y / 128) fun j => ?_
              rcases howP_set j (3 + y / 128) now k w hw with q | ⟨q1, q2⟩
              · exact .inl q
              · rw [q1, q2, d2]
                refine .inr (.inr ⟨rfl, ?_⟩)
                have : y / 128 = 0 ∨ y / 128 = 1 := by omega
                rcases this with e | e <;> rw [e]
                · exact .inl rfl
                · exact .inr rfl
            · rw [if_neg (fun h => d2 (beq_iff_eq.1 h))]
              have ih := L7_1_eq hon honl n (i + 1) now (by omega) hn (by omega)
              have : ¬ (sayP a now alone != sayP a now alone) = true := by simp
              rw [if_neg this]
              split <;> exact ih
        · simp only [L7_1, b7_1, decide_eq_true c1, decide_eq_true c2, decide_eq_false c3, if_true, Bool.false_eq_true, if_false]
          exact out
      · simp only [L7_1, b7_1, decide_eq_true c1, decide_eq_false c2, if_true, Bool.false_eq_true, if_false]
        exact out
    · simp only [L7_1, b7_1, decide_eq_false c1, Bool.false_eq_true, if_false]
      exact out
theorem L7_0_eq (hl : l.length ≤ 1000) (hon : ∀ x ∈ on, (0 : Int) ≤ x ∧ x ≤ 255) (honl : on.length ≤ 140737488355328) : ∀ (n : Nat) (pre suf : List Wh) (acc : List Wh), l = pre ++ suf → suf.length < n → acc.length = pre.length →
    L7_0 (F10 K) (F13 K) (F11 K) (F23 K) K a l on alone n (pre.length : Int) acc = some true
  | 0, pre, suf, acc, e, h, _ => by omega
  | n + 1, pre, [], acc, e, h, ha => by
    have hf := fin e
    have hp : acc.length ≤ 1000 := by rw [ha, hf.2]; exact hl
    simp only [L7_0, b7_0, hf.1, Bool.false_eq_true, if_false, F23_eq K hK a acc hp alone, Option.bind_some]
    exact L7_1_eq K hK a l on alone hon honl K 0 acc (by omega) hp (by omega)
  | n + 1, pre, x :: suf, acc, e, h, ha => by
    obtain ⟨h1, h2, h3, h4, h5, h6⟩ := mid e (zEl T54) (by omega)
    have hlen : pre.length < 1000 := by
      have := congrArg List.length e
      simp at this
      omega
    have g : ∀ y : Wh, decide ((acc.length + [y].length) * Tryd.prog.types[(54 : Nat)].bytes ≤ (140737488355328 : Nat)) = true := fun y => fits54 (by simp; omega)
    simp only [L7_0, b7_0, h1, h2, if_true, h3, h4, g]
    exact L7_0_eq hl hon honl n (pre ++ [x]) suf _ h5 (by simpa using h) (by simp; omega)
end
theorem dependStays (a : El T24) (l : List (El T54)) (on : List Int) (alone : Bool) (ha : Gd T24 a) (hl : Gd (.sl T54) l) (ho : Gd (.sl (.int .u8)) on) (_ : Gd .bool alone) : F7 2000 a l on alone = some true := by
  obtain ⟨b, hb, hb2⟩ := F10_eq 2000 (by omega) a l (by have := ha.2.1; show List.length a.2 ≤ _; omega) (by have := hl.1; omega)
  have f11 := F11_eq 2000 (by omega)
  unfold F7 G7 t7
  rw [hb, Option.bind_some]
  cases b with
  | true =>
    rw [if_pos rfl, f11]
    rfl
  | false =>
    have hlen := hb2 rfl
    rw [if_neg (by decide), F13_eq 2000 (by omega) a, Option.bind_some]
    cases okD a with
    | false =>
      rw [if_pos (by decide), f11]
      rfl
    | true =>
      rw [if_neg (by decide)]
      exact L7_0_eq 2000 (by omega) a l on alone (by omega) (fun x hx => wf_u8 (ho.2 x hx)) (by have := ho.1; omega) 2000 [] l [] rfl (by omega) rfl
end Go.Proofs.YtigekmmdflaeaaaDoorE
