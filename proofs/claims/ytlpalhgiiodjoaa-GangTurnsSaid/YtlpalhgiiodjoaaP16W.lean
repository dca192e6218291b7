/- Gang: who runs. -/
import Derived.Test.YtlpalhgiiodjoaaP16G
import Derived.Test.YtlpalhgiiodjoaaP16T3
set_option linter.all false
namespace Go.Proofs.YtlpalhgiiodjoaaE
open Go Go.Proofs
set_option maxRecDepth 100000
set_option linter.unusedVariables false
theorem F35_eq (K : Nat) (hK : 2010 ≤ K) (l : List Int) (hl : l.length ≤ 16) : ∃ l' : List Int, l'.Perm l ∧ F35 K l = some ((), l') := by
  have w : IntKind.u64.wrap (l.length : Int) = (l.length : Int) := u64_in (by omega) (by omega)
  have b : ∀ n : Nat, n < 17 → (n : Int) - 11 ≤ (Lib.bitLen n : Int) ∧ (Lib.bitLen n : Int) ≤ 100 := by decide
  obtain ⟨b1, b2⟩ := b l.length (by omega)
  have f48 : F48 K (l.length : Int) = some (Lib.bitLen l.length : Int) := by
    unfold F48
    rw [if_pos (by omega), Int.toNat_natCast]
  obtain ⟨l', p, e⟩ := F1047_eq K hK (l.length : Int) (Lib.bitLen l.length : Int) l rfl (by omega) b1 b2
  refine ⟨l', p, ?_⟩
  simp only [F35, G35, t35, w, f48, e, Option.bind_some]
/-- have two cells a worker in common? -/
def mt (c d : Ce) : Prop := st c < st d + 2 ^ od d ∧ st d < st c + 2 ^ od c
theorem mt_symm {c d : Ce} (h : mt c d) : mt d c := ⟨h.2, h.1⟩
theorem nodup_lt : ∀ (n : Nat) (l : List Nat), l.Nodup → (∀ x ∈ l, x < n) → l.length ≤ n
  | 0, [], _, _ => Nat.le_refl _
  | 0, x :: l, _, h => absurd (h x List.mem_cons_self) (by omega)
  | n + 1, l, hd, h => by
    have h2 := nodup_lt n (l.erase n) (hd.erase n) (fun x hx => by
      have h1 := h x (List.mem_of_mem_erase hx)
      have : x ≠ n := fun e => by
        subst e
        exact (List.Nodup.not_mem_erase hd) hx
      omega)
    by_cases c : n ∈ l
    · rw [List.length_erase_of_mem c] at h2
      omega
    · rw [List.erase_of_not_mem c] at h2
      omega
/-- those that run (acc), of those that were looked at (seen); x: their columns -/
structure RS (l : List Ce) (act : Int) (seen : Ce → Prop) (x : Nat) (acc : List Ce) : Prop where
  lt : x < B128
  x : ∀ s o, (x &&& bm s o ≠ 0) ↔ ∃ d ∈ acc, st d < s + 2 ^ o ∧ s < st d + 2 ^ od d
  sub : ∀ d ∈ acc, d ∈ l ∧ seen d
  nd : acc.Nodup
  ap : acc.Pairwise fun c d => ¬ mt c d
  out : ∀ c ∈ l, seen c → c ∉ acc → ∃ d ∈ acc, mt d c
  act : ∀ c ∈ l, seen c → cr c = act → c ∈ acc
theorem RS.congr {l : List Ce} {act : Int} {s s' : Ce → Prop} {x : Nat} {acc : List Ce} (h : RS l act s x acc) (e : ∀ c ∈ l, s c ↔ s' c) : RS l act s' x acc :=
  ⟨h.lt, h.x, fun d hd => ⟨(h.sub d hd).1, (e d (h.sub d hd).1).1 (h.sub d hd).2⟩, h.nd, h.ap, fun c hc hs => h.out c hc ((e c hc).2 hs), fun c hc hs => h.act c hc ((e c hc).2 hs)⟩
theorem rs0 (l : List Ce) (act : Int) {s : Ce → Prop} (h : ∀ c ∈ l, ¬ s c) : RS l act s 0 [] :=
  ⟨by show 0 < B128; decide, fun s o => (by simp), fun d hd => (by cases hd), List.nodup_nil, List.Pairwise.nil, fun c hc hs => absurd hs (h c hc), fun c hc hs => absurd hs (h c hc)⟩
theorem RS.len {l : List Ce} {act : Int} {s : Ce → Prop} {x : Nat} {acc : List Ce} (h : RS l act s x acc) {O : Nat} (hw : ∀ c ∈ l, WF O c) : acc.length ≤ 2 ^ O := by
  have := nodup_lt (2 ^ O) (acc.map st) (by
    rw [List.Nodup, List.pairwise_map]
    refine h.ap.imp fun {c d} hn e => hn ?_
    have p1 := Nat.two_pow_pos (od c)
    have p2 := Nat.two_pow_pos (od d)
    exact ⟨by omega, by omega⟩) (fun y hy => by
    obtain ⟨c, hc, rfl⟩ := List.mem_map.1 hy
    have := (hw c (h.sub c hc).1).2.2.2.2.2.1
    have p1 := Nat.two_pow_pos (od c)
    omega)
  simpa using this
theorem RS.step {l : List Ce} {act : Int} {s s' : Ce → Prop} {x : Nat} {acc : List Ce} (h : RS l act s x acc) {O : Nat} (hO : O ≤ 7) (hw : ∀ c ∈ l, WF O c) (hap : l.Pairwise Apart)
    {c : Ce} (hc : c ∈ l) (hn : ¬ s c) (hs' : ∀ d ∈ l, s' d ↔ s d ∨ d = c) (hact : cr c = act → ∀ d ∈ acc, cr d = act) :
    ((x &&& bm (st c) (od c) ≠ 0) → RS l act s' x acc) ∧ (¬ (x &&& bm (st c) (od c) ≠ 0) → RS l act s' (x ||| bm (st c) (od c)) (acc ++ [c])) := by
  have hwc := hw c hc
  have p := p128 hO
  have hca : c ∉ acc := fun hm => hn (h.sub c hm).2
  have hap2 : ∀ d ∈ l, d ≠ c → Apart d c := by
    intro d hd hne
    obtain ⟨pre, suf, e⟩ := List.append_of_mem hc
    rw [e] at hap hd
    rw [List.pairwise_append, List.pairwise_cons] at hap
    rcases List.mem_append.1 hd with h | h
    · exact hap.2.2 d h c List.mem_cons_self
    · rcases List.mem_cons.1 h with h | h
      · exact absurd h hne
      · exact apart_symm (hap.2.1.1 d h)
  constructor
  · intro hx
    obtain ⟨d, hd, hm⟩ := (h.x _ _).1 hx
    refine ⟨h.lt, h.x, fun d hd => ⟨(h.sub d hd).1, (hs' d (h.sub d hd).1).2 (.inl (h.sub d hd).2)⟩, h.nd, h.ap, ?_, ?_⟩
    · intro e he hse hne
      rcases (hs' e he).1 hse with q | q
      · exact h.out e he q hne
      · subst q
        exact ⟨d, hd, hm⟩
    · intro e he hse hr
      rcases (hs' e he).1 hse with q | q
      · exact h.act e he q hr
      · subst q
        have h1 := hact hr d hd
        exact absurd hm (hap2 d (h.sub d hd).1 (fun q => hca (q ▸ hd)) (h1.trans hr.symm))
  · intro hx
    have hb : bm (st c) (od c) < B128 := bm_lt (by have := hwc.2.2.2.2.2.1; omega)
    refine ⟨Nat.or_lt_two_pow (n := 128) h.lt hb, ?_, ?_, ?_, ?_, ?_, ?_⟩
    · intro t o
      rw [or_and_ne, h.x, bm_meet]
      constructor
      · rintro (⟨d, hd, hm⟩ | hm)
        · exact ⟨d, List.mem_append_left _ hd, hm⟩
        · exact ⟨c, List.mem_append_right _ (List.mem_singleton.2 rfl), hm⟩
      · rintro ⟨d, hd, hm⟩
        rcases List.mem_append.1 hd with h | h
        · exact .inl ⟨d, h, hm⟩
        · rw [List.mem_singleton.1 h] at hm
          exact .inr hm
    · intro d hd
      rcases List.mem_append.1 hd with q | q
      · exact ⟨(h.sub d q).1, (hs' d (h.sub d q).1).2 (.inl (h.sub d q).2)⟩
      · rw [List.mem_singleton.1 q]
        exact ⟨hc, (hs' c hc).2 (.inr rfl)⟩
    · rw [List.Nodup, List.pairwise_append]
      refine ⟨h.nd, List.pairwise_singleton _ _, fun d hd e he => ?_⟩
      rw [List.mem_singleton.1 he]
      exact fun q => hca (q ▸ hd)
    · rw [List.pairwise_append]
      refine ⟨h.ap, List.pairwise_singleton _ _, fun d hd e he => ?_⟩
      rw [List.mem_singleton.1 he]
      exact fun q => hx ((h.x _ _).2 ⟨d, hd, q⟩)
    · intro e he hse hne
      rcases (hs' e he).1 hse with q | q
      · obtain ⟨d, hd, hm⟩ := h.out e he q (fun q => hne (List.mem_append_left _ q))
        exact ⟨d, List.mem_append_left _ hd, hm⟩
      · exact absurd (List.mem_append_right _ (List.mem_singleton.2 q)) hne
    · intro e he hse hr
      rcases (hs' e he).1 hse with q | q
      · exact List.mem_append_left _ (h.act e he q hr)
      · exact List.mem_append_right _ (List.mem_singleton.2 q)
def rk (act R j : Int) : Int := if act + j < R then act + j else act + j - R
theorem rk_eq {act R j : Int} (h0 : 0 ≤ act) (h1 : act < R) (h2 : 0 ≤ j) (h3 : j < R) (h4 : R ≤ 1000) : Int.tmod (IntKind.i64.wrap (act + j)) R = rk act R j := by
  rw [i64_in (by omega) (by omega), Int.tmod_eq_emod_of_nonneg (by omega)]
  unfold rk
  split
  · exact Int.emod_eq_of_lt (by omega) (by omega)
  · have e : act + j = (act + j - R) + R := by omega
    rw [e, Int.add_emod_right, Int.emod_eq_of_lt (by omega) (by omega)]
    omega
theorem by30 : Try.prog.types[(30 : Nat)].bytes ≤ 100 := by decide +kernel
theorem fits30 {n : Nat} (h : n ≤ 100000) : decide (n * Try.prog.types[(30 : Nat)].bytes ≤ (140737488355328 : Nat)) = true := by
  have := Nat.mul_le_mul h by30
  exact decide_eq_true (by omega)
section
variable {O : Nat} (hO : O ≤ 7) (K : Nat) (hK : 2010 ≤ K) (m : Mx) (hl : m.2.1.length ≤ 1000) (hw : ∀ c ∈ m.2.1, WF O c) (hap : m.2.1.Pairwise Apart) (hid : (m.2.1.map cid).Nodup)
include hO hK hl hw hap hid
theorem L12_1_eq (r0 : Int → Int → Int → El T65 → List Int → Option (List Int)) (R row : Int) (k : Int) (s : Ce → Prop) (hs : ∀ c ∈ m.2.1, s c → cr c ≠ row) (hrow : (∀ c ∈ m.2.1, ¬ s c) ∨ row ≠ m.2.2) : ∀ (n : Nat) (pre suf : List Ce) (x : Nat) (acc : List Ce), m.2.1 = pre ++ suf → suf.length < n → RS m.2.1 m.2.2 (fun c => s c ∨ (cr c = row ∧ c ∈ pre)) x acc →
    ∃ (x' : Nat) (acc' : List Ce), RS m.2.1 m.2.2 (fun c => s c ∨ cr c = row) x' acc' ∧ L12_1 (F17 K) (F32 K) (F33 K) (F34 K) (F35 K) K m r0 n R row R k (pre.length : Int) (col x) (acc.map cid) = r0 R R (IntKind.i64.wrap (k + (1 : Int))) (col x') (acc'.map cid)
  | 0, pre, suf, x, acc, e, h, _ => by omega
  | n + 1, pre, [], x, acc, e, h, hr => by
    have hf := fin e
    refine ⟨x, acc, hr.congr fun c hc => ?_, ?_⟩
    · rw [hf.2]
      exact ⟨fun q => q.imp id (·.1), fun q => q.imp id fun q => ⟨q, hc⟩⟩
    · simp only [L12_1, b12_1, hf.1, Bool.false_eq_true, if_false]
  | n + 1, pre, c :: suf, x, acc, e, h, hr => by
    obtain ⟨h1, h2, h3, h4, h5, h6⟩ := mid e (zEl T34) (by omega)
    have hc : c ∈ m.2.1 := by rw [e]; simp
    have hwc := hw c hc
    have p := p128 hO
    have hb : bm (st c) (od c) < B128 := bm_lt (by have := hwc.2.2.2.2.2.1; omega)
    have hpre : c ∉ pre := by
      intro hm
      rw [e, List.map_append, List.map_cons] at hid
      rw [List.Nodup, List.pairwise_append] at hid
      exact hid.2.2 _ (List.mem_map.2 ⟨c, hm, rfl⟩) _ List.mem_cons_self rfl
    have hacc := hr.len hw
    have fit : ∀ y : Int, decide (((acc.map cid).length + [y].length) * Try.prog.types[(30 : Nat)].bytes ≤ (140737488355328 : Nat)) = true := fun y => fits30 (by simp; omega)
    have g33 := F33_eq K hr.lt hb
    have g34 := F34_eq K hr.lt hb
    have f32 := wf_F32 hO K (by omega) hwc
    simp only [L12_1, b12_1, h1, h2, h3, h4, if_true, f32, Option.bind_some, g33, g34, fit]
    by_cases q : cr c = row
    · have q1 : (c.2.1 == row) = true := beq_iff_eq.2 q
      rw [if_pos q1]
      obtain ⟨s1, s2⟩ := hr.step (s' := fun d => s d ∨ (cr d = row ∧ d ∈ pre ++ [c])) hO hw hap hc (by
          rintro (h | ⟨_, h⟩)
          · exact hs c hc h q
          · exact hpre h) (by
          intro d hd
          constructor
          · rintro (h | ⟨h, h'⟩)
            · exact .inl (.inl h)
            · rcases List.mem_append.1 h' with h' | h'
              · exact .inl (.inr ⟨h, h'⟩)
              · exact .inr (List.mem_singleton.1 h')
          · rintro ((h | ⟨h, h'⟩) | h)
            · exact .inl h
            · exact .inr ⟨h, List.mem_append_left _ h'⟩
            · exact .inr ⟨h ▸ q, List.mem_append_right _ (List.mem_singleton.2 h)⟩) (by
          intro ha d hd
          rcases hrow with h | h
          · rcases (hr.sub d hd).2 with h' | ⟨h', _⟩
            · exact absurd h' (h d (hr.sub d hd).1)
            · rw [h', ← q, ha]
          · exact absurd (q.symm.trans ha) h)
      by_cases d : x &&& bm (st c) (od c) ≠ 0
      · rw [decide_eq_true d, if_neg (by decide)]
        exact L12_1_eq r0 R row k s hs hrow n (pre ++ [c]) suf x acc h5 (by simpa using h) (s1 d)
      · rw [decide_eq_false d, if_pos (by decide)]
        have := L12_1_eq r0 R row k s hs hrow n (pre ++ [c]) suf _ (acc ++ [c]) h5 (by simpa using h) (s2 d)
        rw [List.map_append] at this
        exact this
    · have q1 : ¬ (c.2.1 == row) = true := fun h => q (beq_iff_eq.1 h)
      rw [if_neg q1]
      refine L12_1_eq r0 R row k s hs hrow n (pre ++ [c]) suf x acc h5 (by simpa using h) (hr.congr fun d hd => ?_)
      constructor
      · exact fun h => h.imp id fun h => ⟨h.1, List.mem_append_left _ h.2⟩
      · rintro (h | ⟨h, h'⟩)
        · exact .inl h
        · rcases List.mem_append.1 h' with h' | h'
          · exact .inr ⟨h, h'⟩
          · rw [List.mem_singleton.1 h'] at h
            exact absurd h q
theorem L12_0_eq (R : Int) (hR : R ≤ 1000) (hRl : ∀ c ∈ m.2.1, cr c < R) (ha0 : 0 ≤ m.2.2) (haR : R ≤ 0 ∨ m.2.2 < R) : ∀ (n : Nat) (k : Int) (x : Nat) (acc : List Ce), (R - k).toNat < n → 0 ≤ k → k ≤ R → RS m.2.1 m.2.2 (fun c => ∃ j : Int, 0 ≤ j ∧ j < k ∧ cr c = rk m.2.2 R j) x acc →
    ∃ (x' : Nat) (acc' : List Ce), RS m.2.1 m.2.2 (fun _ => True) x' acc' ∧ L12_0 (F17 K) (F32 K) (F33 K) (F34 K) (F35 K) K m n R R k (col x) (acc.map cid) = Option.bind (F35 K (acc'.map cid)) fun x1 => some (x1.2)
  | 0, k, x, acc, h, _, _, _ => by omega
  | n + 1, k, x, acc, h, h0, hk, hr => by
    by_cases c : k < R
    · have c0 : decide (k < R) = true := decide_eq_true c
      have c1 : (!(R == (0 : Int))) = true := by
        have : (R == (0 : Int)) = false := beq_eq_false_iff_ne.2 (by omega)
        rw [this]; rfl
      have e := rk_eq (act := m.2.2) (R := R) (j := k) ha0 (by omega) h0 c hR
      have wk : IntKind.i64.wrap (k + (1 : Int)) = k + 1 := i64_in (by omega) (by omega)
      obtain ⟨x', acc', hr', e'⟩ := L12_1_eq hO K hK m hl hw hap hid (L12_0 (F17 K) (F32 K) (F33 K) (F34 K) (F35 K) K m n) R (rk m.2.2 R k) k (fun c => ∃ j : Int, 0 ≤ j ∧ j < k ∧ cr c = rk m.2.2 R j) (by
          rintro d hd ⟨j, j0, jk, ej⟩ ed
          rw [ed] at ej
          unfold rk at ej
          split at ej <;> split at ej <;> omega) (by
          by_cases z : k = 0
          · left
            rintro d hd ⟨j, j0, jk, _⟩
            omega
          · right
            unfold rk
            split <;> omega) K [] m.2.1 x acc rfl (by omega) (hr.congr fun d hd => by simp)
      simp only [L12_0, b12_0, c0, c1, if_true, e]
      obtain ⟨x2, acc2, hr2, e2⟩ := L12_0_eq R hR hRl ha0 haR n (k + 1) x' acc' (by omega) (by omega) (by omega) (hr'.congr fun d hd => by
        constructor
        · rintro (⟨j, j0, jk, ej⟩ | h)
          · exact ⟨j, j0, by omega, ej⟩
          · exact ⟨k, h0, by omega, h⟩
        · rintro ⟨j, j0, jk, ej⟩
          by_cases z : j = k
          · subst z; exact .inr ej
          · exact .inl ⟨j, j0, by omega, ej⟩)
      refine ⟨x2, acc2, hr2, ?_⟩
      rw [← e2, ← wk]
      exact e'
    · have c0 : decide (k < R) = false := decide_eq_false c
      refine ⟨x, acc, hr.congr fun d hd => ⟨fun _ => trivial, fun _ => ?_⟩, ?_⟩
      · have h1 := hRl d hd
        have h2 := (hw d hd).2.1
        by_cases z : m.2.2 ≤ cr d
        · exact ⟨cr d - m.2.2, by omega, by omega, by unfold rk; split <;> omega⟩
        · exact ⟨cr d - m.2.2 + R, by omega, by omega, by unfold rk; split <;> omega⟩
      · simp only [L12_0, b12_0, c0, Bool.false_eq_true, if_false]
end
/-- who runs -/
theorem F12_eq {n : Nat} (K : Nat) (hK : 2010 ≤ K) (m : Mx) (hi : MInv 4 n m) (hn : n ≤ 900) : ∃ (x : Nat) (acc : List Ce) (r : List Int), F12 K m = some r ∧ r.Perm (acc.map cid) ∧ RS m.2.1 m.2.2 (fun _ => True) x acc := by
  have hl := hi.len
  obtain ⟨R, f2, hR, hR2⟩ := F17_eq (O := 4) (n := n) K m (by omega) hi.wf hi.srt
  have hRb : 0 ≤ R ∧ R ≤ 16 := by
    rcases hR with ⟨_, h⟩ | ⟨d, hd, h⟩
    · omega
    · have := (hi.wf d hd).2.2.1
      have := (hi.wf d hd).2.1
      omega
  have haR : R ≤ 0 ∨ m.2.2 < R := by
    by_cases c : R ≤ 0
    · exact .inl c
    · right
      rcases hi.act.2 with h | ⟨d, hd, h⟩
      · omega
      · have := hR2 d hd
        omega
  obtain ⟨x, acc, hr, e⟩ := L12_0_eq (O := 4) (by omega) K hK m (by omega) hi.wf hi.ap hi.ids R (by omega) hR2 hi.act.1 haR K 0 0 [] (by omega) (by omega) hRb.1 (rs0 _ _ (by
    rintro c _ ⟨j, j0, jk, _⟩
    omega))
  have hlen := hr.len hi.wf
  obtain ⟨r, p, e35⟩ := F35_eq K hK (acc.map cid) (by simpa using hlen)
  refine ⟨x, acc, r, ?_, p, hr⟩
  have e0 : col 0 = ((0 : Int), (0 : Int), (0 : Int), (0 : Int), (0 : Int), (0 : Int), (0 : Int), (0 : Int), (0 : Int), (0 : Int), (0 : Int), (0 : Int), (0 : Int), (0 : Int), (0 : Int), (0 : Int)) := by simp [col]
  rw [e0] at e
  unfold F12 G12 t12
  simp only [f2, Option.bind_some]
  refine e.trans ?_
  rw [e35]
  rfl
end Go.Proofs.YtlpalhgiiodjoaaE
