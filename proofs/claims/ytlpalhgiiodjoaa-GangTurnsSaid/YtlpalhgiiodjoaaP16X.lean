/- Gang: GangRuns, in plain words. -/
import Derived.Test.YtlpalhgiiodjoaaP16W
set_option linter.all false
namespace Go.Proofs.YtlpalhgiiodjoaaE
open Go Go.Proofs
set_option maxRecDepth 100000
set_option linter.unusedVariables false
noncomputable def dcd (p : Prop) : Bool := @decide p (Classical.propDecidable p)
theorem dcd_true {p : Prop} (h : p) : dcd p = true := @decide_eq_true p (Classical.propDecidable p) h
theorem dcd_false {p : Prop} (h : ¬ p) : dcd p = false := @decide_eq_false p (Classical.propDecidable p) h
theorem dcd_iff {p : Prop} : dcd p = true ↔ p := @decide_eq_true_iff p (Classical.propDecidable p)
theorem L13_eq (K : Nat) (l : List Int) (id : Int) (hl : l.length ≤ 100000) : ∀ (n : Nat) (pre suf : List Int), l = pre ++ suf → suf.length < n → L13_0 K l id n (pre.length : Int) = some (decide (id ∈ suf))
  | 0, pre, suf, e, h => by omega
  | n + 1, pre, [], e, h => by
    have := fin e
    simp only [L13_0, b13_0, this.1, Bool.false_eq_true, if_false]
    rfl
  | n + 1, pre, x :: suf, e, h => by
    obtain ⟨h1, h2, h3, h4, h5, h6⟩ := mid e z32 (by omega)
    simp only [L13_0, b13_0, h1, h2, if_true, h4]
    rw [show l.getD ((pre.length : Int)).toNat (zEl (Ty.int IntKind.u32)) = x from h3]
    by_cases c : x = id
    · subst c
      simp
    · have c1 : ¬ (x == id) = true := fun h => c (beq_iff_eq.1 h)
      rw [if_neg c1, L13_eq K l id hl n (pre ++ [x]) suf h5 (by simpa using h)]
      congr 1
      exact decide_eq_decide.2 ⟨fun h => List.mem_cons_of_mem _ h, fun h => (List.mem_cons.1 h).resolve_left fun h => c h.symm⟩
theorem F13_eq (K : Nat) (l : List Int) (id : Int) (hl : l.length < K) (hl2 : l.length ≤ 100000) : F13 K l id = some (decide (id ∈ l)) := L13_eq K l id hl2 K [] l rfl hl
theorem split_uniq {α : Type} {c : α} : ∀ {p q s t : List α}, p ++ c :: s = q ++ c :: t → c ∉ p → c ∉ q → p.length = q.length
  | [], [], _, _, _, _, _ => rfl
  | [], y :: q, s, t, h, _, h2 => by
    have : c = y := by simpa using (List.cons.inj h).1
    exact absurd (this ▸ List.mem_cons_self) h2
  | x :: p, [], s, t, h, h1, _ => by
    have : x = c := by simpa using (List.cons.inj h).1
    exact absurd (this ▸ List.mem_cons_self) h1
  | x :: p, y :: q, s, t, h, h1, h2 => by
    have := split_uniq (List.cons.inj h).2 (fun h => h1 (List.mem_cons_of_mem _ h)) (fun h => h2 (List.mem_cons_of_mem _ h))
    simp [this]
theorem not_mem_pre {pre suf : List Ce} {c : Ce} (h : ((pre ++ c :: suf).map cid).Nodup) : c ∉ pre := by
  intro hm
  rw [List.map_append, List.map_cons, List.Nodup, List.pairwise_append] at h
  exact h.2.2 _ (List.mem_map.2 ⟨c, hm, rfl⟩) _ List.mem_cons_self rfl
theorem ids_inj : ∀ {l : List Ce}, (l.map cid).Nodup → ∀ {c d : Ce}, c ∈ l → d ∈ l → cid c = cid d → c = d
  | [], _, c, d, hc, _, _ => by cases hc
  | x :: l, h, c, d, hc, hd, e => by
    rw [List.map_cons, List.nodup_cons] at h
    rcases List.mem_cons.1 hc with q | q <;> rcases List.mem_cons.1 hd with q' | q'
    · rw [q, q']
    · subst q
      exact absurd (e ▸ List.mem_map.2 ⟨d, q', rfl⟩) h.1
    · subst q'
      exact absurd (e ▸ List.mem_map.2 ⟨c, q, rfl⟩) h.1
    · exact ids_inj h.2 q q' e
theorem rs_mem {l : List Ce} {a : Int} {s : Ce → Prop} {x : Nat} {acc : List Ce} {r : List Int} (h : RS l a s x acc) (hp : r.Perm (acc.map cid)) (hid : (l.map cid).Nodup) {c : Ce} (hc : c ∈ l) : cid c ∈ r ↔ c ∈ acc := by
  rw [hp.mem_iff, List.mem_map]
  constructor
  · rintro ⟨d, hd, e⟩
    exact ids_inj hid (h.sub d hd).1 hc e ▸ hd
  · exact fun h => ⟨c, h, rfl⟩
theorem rs_count {l : List Ce} {a : Int} {s : Ce → Prop} {x : Nat} {acc : List Ce} {r : List Int} (h : RS l a s x acc) (hp : r.Perm (acc.map cid)) (hid : (l.map cid).Nodup) : l.countP (fun c => decide (cid c ∈ r)) = r.length := by
  rw [hp.length_eq, List.length_map, List.countP_eq_length_filter]
  have hl : l.Nodup := by
    rw [List.Nodup, List.pairwise_map] at hid
    exact hid.imp fun h e => h (congrArg cid e)
  refine ((List.perm_ext_iff_of_nodup (hl.filter _) h.nd).2 fun c => ?_).length_eq
  rw [List.mem_filter, decide_eq_true_eq]
  constructor
  · rintro ⟨hc, hr⟩
    exact (rs_mem h hp hid hc).1 hr
  · exact fun hc => ⟨(h.sub c hc).1, (rs_mem h hp hid (h.sub c hc).1).2 hc⟩
section
variable (K : Nat) (hK : 2010 ≤ K) (a : List (El T53)) (o b : Int) (l q : List Ce) (r : List Int) (hl : l.length ≤ 900) (hr : r.length ≤ 900) (hw : ∀ c ∈ l, WF 4 c) (hid : (l.map cid).Nodup)
include hK hl hr hw hid
/-- does one that runs meet this one? -/
noncomputable def clash (r : List Int) (c : Ce) (s : List Ce) : Bool := s.any fun d => dcd (d ≠ c ∧ cid d ∈ r ∧ mt d c)
theorem L3_1_eq (r0 : Int → Int → Int → Int → List (El T34) → List Int → List (El T34) → Option Bool) (cnt : Int) (i : Nat) (c : Ce) (p s : List Ce) (hc : l = p ++ c :: s) (hi : p.length = i) (on : Bool) : ∀ (n : Nat) (pre suf : List Ce) (cl : Bool), l = pre ++ suf → suf.length < n →
    L3_1 (F10 K) (F11 K) (F12 K) (F13 K) (F14 K) (F15 K) (F16 K) K a r0 n cnt (i : Int) on cl (pre.length : Int) o b l r q = if (on == (cl || clash r c suf)) = true then some false else r0 cnt ((i + 1 : Nat) : Int) o b l r q
  | 0, pre, suf, cl, e, h => by omega
  | n + 1, pre, [], cl, e, h => by
    have hf := fin e
    have hil : i < l.length := by rw [hc]; simp; omega
    have w : IntKind.i64.wrap ((i : Int) + (1 : Int)) = ((i + 1 : Nat) : Int) := by rw [i64_in] <;> omega
    simp only [L3_1, b3_1, hf.1, Bool.false_eq_true, if_false, w, clash, List.any_nil, Bool.or_false]
  | n + 1, pre, d :: suf, cl, e, h => by
    obtain ⟨h1, h2, h3, h4, h5, h6⟩ := mid e (zEl T34) (by omega)
    have hil : i < l.length := by rw [hc]; simp; omega
    have ci : decide ((0 : Int) ≤ (i : Int) ∧ (i : Int) < (l.length : Int)) = true := decide_eq_true (by omega)
    have gi : l.getD ((i : Int)).toNat (zEl T34) = c := by rw [hc, ← hi]; simp
    have hd : d ∈ l := by rw [e]; simp
    have hcm : c ∈ l := by rw [hc]; simp
    have ih := fun cl' => L3_1_eq r0 cnt i c p s hc hi on n (pre ++ [d]) suf cl' h5 (by simpa using h)
    have hcons : clash r c (d :: suf) = (dcd (d ≠ c ∧ cid d ∈ r ∧ mt d c) || clash r c suf) := rfl
    have wd := hw d hd
    have wc := hw c hcm
    have f15 : F15 K d.2.2 c.2.2 = some (mtB (st d) (od d) (st c) (od c)) := by
      rw [wd.2.2.2.1, wc.2.2.2.1]
      have p1 := wd.2.2.2.2.2.1
      have p2 := wc.2.2.2.2.2.1
      have := Nat.two_pow_pos (od d)
      have := Nat.two_pow_pos (od c)
      exact F15_eq K (by omega) _ _ _ _ (by have := wd.2.2.2.2.1; omega) (by have := wc.2.2.2.2.1; omega) (by omega) (by omega)
    have f13 := F13_eq K r (cid d) (by omega) (by omega)
    have f13' : F13 K r d.1 = some (decide (cid d ∈ r)) := f13
    simp only [L3_1, b3_1, h1, h2, h3, h4, ci, gi, if_true, f13', f15, Option.bind_some]
    by_cases c1 : d = c
    · have z : pre.length = p.length := by
        subst c1
        refine split_uniq (e.symm.trans hc) ?_ ?_
        · exact not_mem_pre (e ▸ hid)
        · exact not_mem_pre (hc ▸ hid)
      have z1 : ¬ (((pre.length : Int) != (i : Int)) = true) := by
        rw [z, hi]; simp
      rw [if_neg z1, ih, hcons]
      have : dcd (d ≠ c ∧ cid d ∈ r ∧ mt d c) = false := dcd_false fun h => h.1 c1
      rw [this, Bool.false_or]
    · have z : pre.length ≠ p.length := by
        intro h
        have := (List.append_inj (e.symm.trans hc) h).2
        exact c1 (List.cons.inj this).1
      have z1 : ((pre.length : Int) != (i : Int)) = true := by
        rw [bne_iff_ne]; omega
      rw [if_pos z1, hcons]
      by_cases c2 : cid d ∈ r
      · rw [decide_eq_true c2, if_pos rfl]
        by_cases c3 : mt d c
        · have m1 : mtB (st d) (od d) (st c) (od c) = true := decide_eq_true c3
          rw [m1, if_pos rfl, ih]
          have : dcd (d ≠ c ∧ cid d ∈ r ∧ mt d c) = true := dcd_true ⟨c1, c2, c3⟩
          simp only [this, Bool.true_or, Bool.or_true]
        · have m1 : mtB (st d) (od d) (st c) (od c) = false := decide_eq_false c3
          rw [m1, if_neg (by decide), ih]
          have : dcd (d ≠ c ∧ cid d ∈ r ∧ mt d c) = false := dcd_false fun h => c3 h.2.2
          rw [this, Bool.false_or]
      · rw [decide_eq_false c2, if_neg (by decide), ih]
        have : dcd (d ≠ c ∧ cid d ∈ r ∧ mt d c) = false := dcd_false fun h => c2 h.2.1
        rw [this, Bool.false_or]
theorem L3_0_eq {x : Nat} {acc : List Ce} (h : RS l b (fun _ => True) x acc) (hp : r.Perm (acc.map cid)) : ∀ (n : Nat) (pre suf : List Ce), l = pre ++ suf → suf.length < n →
    L3_0 (F10 K) (F11 K) (F12 K) (F13 K) (F14 K) (F15 K) (F16 K) K a n ((pre.countP fun c => decide (cid c ∈ r) : Nat) : Int) (pre.length : Int) o b l r q = some true
  | 0, pre, suf, e, hh => by omega
  | n + 1, pre, [], e, hh => by
    have hf := fin e
    have z : (((pre.countP fun c => decide (cid c ∈ r) : Nat) : Int) == (r.length : Int)) = true := by
      rw [hf.2, rs_count h hp hid]; simp
    simp only [L3_0, b3_0, hf.1, Bool.false_eq_true, if_false, z, if_true, F16_eq K (by omega), Option.bind_some]
  | n + 1, pre, c :: suf, e, hh => by
    obtain ⟨h1, h2, h3, h4, h5, h6⟩ := mid e (zEl T34) (by omega)
    have hc : c ∈ l := by rw [e]; simp
    have ih := L3_0_eq h hp n (pre ++ [c]) suf h5 (by simpa using hh)
    have hcp : (pre.countP fun c => decide (cid c ∈ r)) ≤ pre.length := List.countP_le_length
    have hpl : pre.length < l.length := by rw [e]; simp
    have f13' : F13 K r c.1 = some (decide (cid c ∈ r)) := F13_eq K r (cid c) (by omega) (by omega)
    have f14 : F14 K (o, q, b) = some b := rfl
    have w : IntKind.i64.wrap (((pre.countP fun c => decide (cid c ∈ r) : Nat) : Int) + (1 : Int)) = (((pre.countP fun c => decide (cid c ∈ r)) + 1 : Nat) : Int) := by rw [i64_in] <;> omega
    have hcl : (decide (cid c ∈ r) == (false || clash r c l)) = false := by
      rw [Bool.false_or]
      by_cases m : cid c ∈ r
      · have ca := (rs_mem h hp hid hc).1 m
        have : clash r c l = false := by
          cases hx : clash r c l with
          | false => rfl
          | true =>
            obtain ⟨d, hd, hdd⟩ := List.any_eq_true.1 hx
            rw [dcd_iff] at hdd
            have da := (rs_mem h hp hid hd).1 hdd.2.1
            exfalso
            obtain ⟨s1, s2, es⟩ := List.append_of_mem ca
            have ap := h.ap
            rw [es, List.pairwise_append, List.pairwise_cons] at ap
            rw [es] at da
            rcases List.mem_append.1 da with g | g
            · exact ap.2.2 d g c List.mem_cons_self hdd.2.2
            · rcases List.mem_cons.1 g with g | g
              · exact hdd.1 g
              · exact ap.2.1.1 d g (mt_symm hdd.2.2)
        rw [this, decide_eq_true m]; rfl
      · have ca : c ∉ acc := fun h' => m ((rs_mem h hp hid hc).2 h')
        obtain ⟨d, hd, hm⟩ := h.out c hc trivial ca
        have : clash r c l = true := List.any_eq_true.2 ⟨d, (h.sub d hd).1, dcd_true ⟨fun z => ca (z ▸ hd), (rs_mem h hp hid (h.sub d hd).1).2 hd, hm⟩⟩
        rw [this, decide_eq_false m]; rfl
    have L := fun cnt on => L3_1_eq K hK a o b l q r hl hr hw hid (L3_0 (F10 K) (F11 K) (F12 K) (F13 K) (F14 K) (F15 K) (F16 K) K a n) cnt pre.length c pre suf e rfl on K [] l false rfl (by omega)
    simp only [L3_0, b3_0, h1, h2, h3, h4, if_true, f13', f14, Option.bind_some, w]
    by_cases m : cid c ∈ r
    · have cnt1 : ((pre ++ [c]).countP fun c => decide (cid c ∈ r)) = (pre.countP fun c => decide (cid c ∈ r)) + 1 := by
        rw [List.countP_append]; simp [m]
      rw [decide_eq_true m] at hcl ⊢
      rw [if_pos rfl]
      have e1 : L3_1 (F10 K) (F11 K) (F12 K) (F13 K) (F14 K) (F15 K) (F16 K) K a (L3_0 (F10 K) (F11 K) (F12 K) (F13 K) (F14 K) (F15 K) (F16 K) K a n) K (((pre.countP fun c => decide (cid c ∈ r)) + 1 : Nat) : Int) (pre.length : Int) true false (0 : Int) o b l r q = some true := by
        refine (L _ true).trans ?_
        rw [hcl, if_neg (by decide), ← cnt1]
        rw [show pre.length + 1 = (pre ++ [c]).length by simp]
        exact ih
      by_cases z : (c.2.1 == b) = true
      · rw [if_pos z]
        simp only [Bool.not_true, Bool.false_eq_true, if_false]
        exact e1
      · rw [if_neg z]
        exact e1
    · have cnt1 : ((pre ++ [c]).countP fun c => decide (cid c ∈ r)) = (pre.countP fun c => decide (cid c ∈ r)) := by
        rw [List.countP_append]; simp [m]
      rw [decide_eq_false m] at hcl ⊢
      rw [if_neg (by decide)]
      have e1 : L3_1 (F10 K) (F11 K) (F12 K) (F13 K) (F14 K) (F15 K) (F16 K) K a (L3_0 (F10 K) (F11 K) (F12 K) (F13 K) (F14 K) (F15 K) (F16 K) K a n) K ((pre.countP fun c => decide (cid c ∈ r) : Nat) : Int) (pre.length : Int) false false (0 : Int) o b l r q = some true := by
        refine (L _ false).trans ?_
        rw [hcl, if_neg (by decide), ← cnt1]
        rw [show pre.length + 1 = (pre ++ [c]).length by simp]
        exact ih
      have z : ¬ (c.2.1 == b) = true := fun z => m ((rs_mem h hp hid hc).2 (h.act c hc trivial (beq_iff_eq.1 z)))
      rw [if_neg z]
      exact e1
end
theorem gangRuns (a : List (El T53)) (_ : Gd (.sl T53) a) : F3 2100 a = some true := by
  obtain ⟨m, e, hm⟩ := F10_eq 2100 (by omega) a
  obtain ⟨x, acc, r, e12, hp, hr⟩ := F12_eq 2100 (by omega) m hm (by omega)
  have hl := hm.len
  have hlen := hr.len hm.wf
  have hrl := hp.length_eq
  rw [List.length_map] at hrl
  unfold F3 G3 t3
  rw [e, Option.bind_some, F11_eq 2100 m (by omega), Option.bind_some, e12, Option.bind_some]
  exact L3_0_eq 2100 (by omega) a m.1 m.2.2 m.2.1 m.2.1 r (by omega) (by omega) hm.wf hm.ids hr hp 2100 [] m.2.1 rfl (by omega)
end Go.Proofs.YtlpalhgiiodjoaaE
