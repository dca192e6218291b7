/- Gang: GangRows, in plain words. -/
import Derived.Test.YtlpalhgiiodjoaaP16G
import Derived.Test.YtlpalhgiiodjoaaS16F8
set_option linter.all false
namespace Go.Proofs.YtlpalhgiiodjoaaE
open Go Go.Proofs
set_option maxRecDepth 100000
set_option linter.unusedVariables false
/-- how many of the first n bits are set -/
def pcN : Nat → Nat → Nat
  | 0, _ => 0
  | n + 1, x => x % 2 + pcN n (x / 2)
def pc (x : Nat) : Nat := pcN 16 x
def nA (x : Nat) : Nat := ((x / 2 &&& 6148914691236517205) + (x &&& 6148914691236517205)) % 18446744073709551616
def nB (x : Nat) : Nat := ((x / 4 &&& 3689348814741910323) + (x &&& 3689348814741910323)) % 18446744073709551616
def nC (x : Nat) : Nat := ((x / 16 + x) % 18446744073709551616 &&& 1085102592571150095)
def nD (x : Nat) : Nat := (x + x / 256) % 18446744073709551616
def nE (x : Nat) : Nat := (x + x / 65536) % 18446744073709551616
def nF (x : Nat) : Nat := (x + x / 4294967296) % 18446744073709551616
def popN (x : Nat) : Nat := nF (nE (nD (nC (nB (nA x))))) &&& 127
def popC (k : Nat) : Bool := (List.range 16).all fun a => (List.range 256).all fun b => Nat.beq (popN ((k * 16 + a) * 256 + b)) (pcN 16 ((k * 16 + a) * 256 + b))
theorem pop_c0 : popC 0 = true := by kernel_rfl
theorem pop_c1 : popC 1 = true := by kernel_rfl
theorem pop_c2 : popC 2 = true := by kernel_rfl
theorem pop_c3 : popC 3 = true := by kernel_rfl
theorem pop_c4 : popC 4 = true := by kernel_rfl
theorem pop_c5 : popC 5 = true := by kernel_rfl
theorem pop_c6 : popC 6 = true := by kernel_rfl
theorem pop_c7 : popC 7 = true := by kernel_rfl
theorem pop_c8 : popC 8 = true := by kernel_rfl
theorem pop_c9 : popC 9 = true := by kernel_rfl
theorem pop_c10 : popC 10 = true := by kernel_rfl
theorem pop_c11 : popC 11 = true := by kernel_rfl
theorem pop_c12 : popC 12 = true := by kernel_rfl
theorem pop_c13 : popC 13 = true := by kernel_rfl
theorem pop_c14 : popC 14 = true := by kernel_rfl
theorem pop_c15 : popC 15 = true := by kernel_rfl
theorem pop_all {k : Nat} (h : k < 16) : popC k = true := by
  have : k = 0 ∨ k = 1 ∨ k = 2 ∨ k = 3 ∨ k = 4 ∨ k = 5 ∨ k = 6 ∨ k = 7 ∨ k = 8 ∨ k = 9 ∨ k = 10 ∨ k = 11 ∨ k = 12 ∨ k = 13 ∨ k = 14 ∨ k = 15 := by omega
  rcases this with rfl | rfl | rfl | rfl | rfl | rfl | rfl | rfl | rfl | rfl | rfl | rfl | rfl | rfl | rfl | rfl
  · exact pop_c0
  · exact pop_c1
  · exact pop_c2
  · exact pop_c3
  · exact pop_c4
  · exact pop_c5
  · exact pop_c6
  · exact pop_c7
  · exact pop_c8
  · exact pop_c9
  · exact pop_c10
  · exact pop_c11
  · exact pop_c12
  · exact pop_c13
  · exact pop_c14
  · exact pop_c15
theorem popN_pc {x : Nat} (h : x < 65536) : popN x = pc x := by
  have h1 := List.all_eq_true.1 (pop_all (k := x / 4096) (by omega)) (x / 256 % 16) (List.mem_range.2 (by omega))
  have h2 := List.all_eq_true.1 h1 (x % 256) (List.mem_range.2 (by omega))
  have := Nat.eq_of_beq_eq_true h2
  rwa [show (x / 4096 * 16 + x / 256 % 16) * 256 + x % 256 = x by omega] at this
theorem and_u {x m : Nat} (hx : x < 18446744073709551616) (hm : m < 18446744073709551616) : bits BinOp.and IntKind.u64 (x : Int) (m : Int) = ((x &&& m : Nat) : Int) := and64 hx hm
theorem wr_u (x : Nat) : IntKind.u64.wrap (x : Int) = ((x % 18446744073709551616 : Nat) : Int) := by simp [IntKind.wrap, IntKind.bits, IntKind.signed]
theorem m_lt (x : Nat) : x % 18446744073709551616 < 18446744073709551616 := Nat.mod_lt _ (by omega)
theorem pA_n {x : Nat} (h : x < 18446744073709551616) : pA (x : Int) = (nA x : Int) := by
  have e : ((x : Int) / 2) = ((x / 2 : Nat) : Int) := rfl
  unfold pA nA
  rw [e, show (6148914691236517205 : Int) = ((6148914691236517205 : Nat) : Int) from rfl, and_u (by omega) (by omega), and_u h (by omega), ← Int.natCast_add, wr_u]
theorem pB_n {x : Nat} (h : x < 18446744073709551616) : pB (x : Int) = (nB x : Int) := by
  have e : ((x : Int) / 4) = ((x / 4 : Nat) : Int) := rfl
  unfold pB nB
  rw [e, show (3689348814741910323 : Int) = ((3689348814741910323 : Nat) : Int) from rfl, and_u (by omega) (by omega), and_u h (by omega), ← Int.natCast_add, wr_u]
theorem pC_n {x : Nat} (h : x < 18446744073709551616) : pC (x : Int) = (nC x : Int) := by
  have e : ((x : Int) / 16) = ((x / 16 : Nat) : Int) := rfl
  unfold pC nC
  rw [e, ← Int.natCast_add, wr_u, show (1085102592571150095 : Int) = ((1085102592571150095 : Nat) : Int) from rfl, and_u (m_lt _) (by omega)]
theorem pD_n (x : Nat) : pD (x : Int) = (nD x : Int) := by
  have e : ((x : Int) / 256) = ((x / 256 : Nat) : Int) := rfl
  unfold pD nD
  rw [e, ← Int.natCast_add, wr_u]
theorem pE_n (x : Nat) : pE (x : Int) = (nE x : Int) := by
  have e : ((x : Int) / 65536) = ((x / 65536 : Nat) : Int) := rfl
  unfold pE nE
  rw [e, ← Int.natCast_add, wr_u]
theorem pF_n (x : Nat) : pF (x : Int) = (nF x : Int) := by
  have e : ((x : Int) / 4294967296) = ((x / 4294967296 : Nat) : Int) := rfl
  unfold pF nF
  rw [e, ← Int.natCast_add, wr_u]
theorem and_i {x : Nat} (h : x < 18446744073709551616) : bits BinOp.and IntKind.i64 (RowKit.wrap64 (x : Int)) 127 = ((x &&& 127 : Nat) : Int) := by
  have e1 : (BitVec.ofInt 64 (RowKit.wrap64 (x : Int))).toNat = x := by
    rw [BitVec.toNat_ofInt]
    unfold RowKit.wrap64
    omega
  have e2 : (BitVec.ofInt 64 (RowKit.wrap64 (x : Int)) &&& BitVec.ofInt 64 127).toNat = x &&& 127 := by
    rw [BitVec.toNat_and, e1]
    rfl
  have e3 : x &&& 127 ≤ 127 := Nat.and_le_right
  show IntKind.i64.wrap (((BitVec.ofInt 64 (RowKit.wrap64 (x : Int)) &&& BitVec.ofInt 64 127).toNat : Nat) : Int) = _
  rw [e2, i64_in] <;> omega
theorem or16 {x y : Nat} (hx : x < 65536) (hy : y < 65536) : x ||| y < 65536 := by
  have h1 : x < 2 ^ 16 := hx
  have h2 : y < 2 ^ 16 := hy
  exact Nat.or_lt_two_pow h1 h2
theorem pop_pc {x : Nat} (h : x < 65536) : pop (x : Int) = (pc x : Int) := by
  rw [← popN_pc h]
  unfold pop popN
  rw [pA_n (by omega), pB_n (show nA x < _ from m_lt _), pC_n (show nB (nA x) < _ from m_lt _), pD_n, pE_n, pF_n, and_i (show nF _ < _ from m_lt _)]
theorem mod2_or (x y : Nat) : (x ||| y) % 2 = (x % 2 ||| y % 2) := Nat.or_mod_two_pow (n := 1)
theorem mod2_and (x y : Nat) : (x &&& y) % 2 = (x % 2 &&& y % 2) := Nat.and_mod_two_pow (n := 1)
theorem div2_or (x y : Nat) : (x ||| y) / 2 = (x / 2 ||| y / 2) := Nat.or_div_two_pow (n := 1)
theorem div2_and (x y : Nat) : (x &&& y) / 2 = (x / 2 &&& y / 2) := Nat.and_div_two_pow (n := 1)
theorem pcN_or : ∀ (n x y : Nat), x &&& y = 0 → pcN n (x ||| y) = pcN n x + pcN n y
  | 0, _, _, _ => rfl
  | n + 1, x, y, h => by
    have h1 : x / 2 &&& y / 2 = 0 := by rw [← div2_and, h]
    have h2 : x % 2 &&& y % 2 = 0 := by rw [← mod2_and, h]
    have h3 : (x ||| y) % 2 = x % 2 + y % 2 := by
      rw [mod2_or]
      rcases Nat.mod_two_eq_zero_or_one x with a | a <;> rcases Nat.mod_two_eq_zero_or_one y with b | b <;> rw [a, b] at h2 ⊢
      · rfl
      · rfl
      · rfl
      · exact absurd h2 (by decide)
    simp only [pcN, h3, div2_or, pcN_or n _ _ h1]
    omega
theorem pcN_le : ∀ (n x : Nat), pcN n x ≤ n
  | 0, _ => Nat.le_refl _
  | n + 1, x => by
    have := pcN_le n (x / 2)
    have := Nat.mod_lt x (show 0 < 2 by omega)
    simp only [pcN]
    omega
theorem pc_or {x y : Nat} (h : x &&& y = 0) : pc (x ||| y) = pc x + pc y := pcN_or 16 x y h
theorem pc_bm0 : ∀ s < 17, ∀ n < 17, s + n ≤ 16 → pcN 16 (msk s n) = n := by decide +kernel
theorem pc_bm {s o : Nat} (h : s + 2 ^ o ≤ 16) : pc (bm s o) = 2 ^ o := by
  have p := Nat.two_pow_pos o
  exact pc_bm0 s (Nat.lt_of_le_of_lt (Nat.le_trans (Nat.le_add_right _ _) h) (by omega)) (2 ^ o) (Nat.lt_of_le_of_lt (Nat.le_trans (Nat.le_add_left _ _) h) (by omega)) h
theorem msk16 (s : Nat) : ∀ n, s + n ≤ 16 → msk s n < 65536
  | 0, _ => by show 0 < 65536; omega
  | n + 1, h => or16 (msk16 s n (by omega)) (show 2 ^ (s + n) < 2 ^ 16 from Nat.pow_lt_pow_right (by omega) (by omega))
/-- how many columns of row r its cells take -/
def sumR (r : Int) : List Ce → Nat
  | [] => 0
  | c :: l => (if cr c = r then 2 ^ od c else 0) + sumR r l
theorem rmA_pc (r : Int) : ∀ (l : List Ce) (x : Nat), (∀ c ∈ l, WF 4 c) → l.Pairwise Apart → x < 65536 → (∀ c ∈ l, cr c = r → x &&& bm (st c) (od c) = 0) → rmA r x l < 65536 ∧ pc (rmA r x l) = pc x + sumR r l
  | [], x, _, _, hx, _ => ⟨hx, by rw [rmA, sumR, Nat.add_zero]⟩
  | c :: l, x, hw, ha, hx, h => by
    have hc := hw c List.mem_cons_self
    have ha' := List.pairwise_cons.1 ha
    have hs : st c + 2 ^ od c ≤ 16 := hc.2.2.2.2.2.1
    unfold rmA sumR
    by_cases q : cr c = r
    · rw [if_pos q, if_pos q]
      have h0 := h c List.mem_cons_self q
      obtain ⟨i1, i2⟩ := rmA_pc r l (x ||| bm (st c) (od c)) (fun d hd => hw d (List.mem_cons_of_mem _ hd)) ha'.2 (or16 hx (msk16 _ _ hs)) (fun d hd hd2 => by
        have h1 := h d (List.mem_cons_of_mem _ hd) hd2
        have h2 := ha'.1 d hd (q.trans hd2.symm)
        have h3 := fun hh => h2 ((bm_meet (st c) (od c) (st d) (od d)).1 hh)
        by_cases e : (x ||| bm (st c) (od c)) &&& bm (st d) (od d) = 0
        · exact e
        · rcases (or_and_ne _ _ _).1 e with h | h
          · exact absurd h1 h
          · exact absurd h h3)
      refine ⟨i1, ?_⟩
      rw [i2, pc_or h0, pc_bm hs, Nat.add_assoc]
    · rw [if_neg q, if_neg q, Nat.zero_add]
      exact rmA_pc r l x (fun d hd => hw d (List.mem_cons_of_mem _ hd)) ha'.2 hx fun d hd => h d (List.mem_cons_of_mem _ hd)
theorem row_pc {l : List Ce} (r : Int) (hw : ∀ c ∈ l, WF 4 c) (ha : l.Pairwise Apart) : rm0 l r < 65536 ∧ pc (rm0 l r) = sumR r l := by
  have := rmA_pc r l 0 hw ha (by omega) (fun c _ _ => Nat.zero_and _)
  refine ⟨this.1, ?_⟩
  have e : pc 0 = 0 := by decide
  have h2 := this.2
  rw [e, Nat.zero_add] at h2
  exact h2
theorem pop0 : pop 0 = 0 := by decide +kernel
theorem F27_eq (K : Nat) (hK : 2000 ≤ K) {n : Nat} (m : Mx) (hm : MInv 4 n m) (hn : n ≤ 900) (r : Nat) : F27 K m (r : Int) = some (16 - (sumR r m.2.1 : Int)) ∧ sumR r m.2.1 ≤ 16 := by
  have hl := hm.len
  obtain ⟨h1, h2⟩ := row_pc r hm.wf hm.ap
  have h3 : pc (rm0 m.2.1 r) ≤ 16 := pcN_le 16 _
  have g1 : decide ((r : Int) < 0) = false := decide_eq_false (by omega)
  have g2 : decide ((0 : Int) ≤ m.1) = true := decide_eq_true (by rw [hm.o]; omega)
  have g3 : IntKind.i64.wrap ((1 : Int) * (2 : Int) ^ min (Int.toNat m.1) IntKind.i64.bits) = 16 := by rw [hm.o]; rfl
  have f1 := F37_eq (by omega) K hK m r (by omega) hm.wf
  have f2 : ∀ x, F45 K x = some (pop x) := fun _ => rfl
  have z1 : rm0 m.2.1 r % 18446744073709551616 = rm0 m.2.1 r := by omega
  have z2 : rm0 m.2.1 r / 18446744073709551616 = 0 := by omega
  have w0 : ∀ x : Int, 0 ≤ x → x ≤ 16 → IntKind.i64.wrap x = x := fun x h0 h1 => i64_in (by omega) (by omega)
  refine ⟨?_, by omega⟩
  simp only [F27, G27, t27, g1, g2, g3, f1, f2, if_true, Bool.false_eq_true, if_false, Option.bind_some, col, z1, z2, pop_pc h1, h2]
  have e0 : ((0 : Nat) : Int) = 0 := rfl
  simp only [e0, pop0, Int.sub_zero]
  rw [w0 (16 - (sumR r m.2.1 : Int)) (by omega) (by omega)]
  simp only [w0 (16 - (sumR r m.2.1 : Int)) (by omega) (by omega)]
section
variable (K : Nat) (hK : 2000 ≤ K) (a : List (El T53)) (m : Mx) (hm : MInv 4 50 m)
include hK hm
theorem L8_3_eq (r2 : Int → Int → Int → (List (El T34)) → (List (El T34)) → Option (Bool)) (r : Nat) (hr : r ≤ 100) : ∀ (n : Nat) (pre suf : List Ce) (done : Nat), m.2.1 = pre ++ suf → suf.length < n → done + sumR r suf = sumR r m.2.1 →
    L8_3 (F10 K) (F11 K) (F17 K) (F15 K) (F27 K) (F14 K) (F16 K) K a r2 n (r : Int) (16 - (done : Int)) (pre.length : Int) m.1 m.2.2 m.2.1 m.2.1 = r2 ((r + 1 : Nat) : Int) m.1 m.2.2 m.2.1 m.2.1
  | 0, pre, suf, done, e, h, hd => by omega
  | n + 1, pre, [], done, e, h, hd => by
    have hf := fin e
    obtain ⟨f27, hle⟩ := F27_eq K hK m hm (by omega) r
    have f27' : F27 K (m.1, m.2.1, m.2.2) (r : Int) = some (16 - (sumR r m.2.1 : Int)) := f27
    have hd' : done = sumR r m.2.1 := by rw [← hd]; simp [sumR]
    have g1 : ((16 - (sumR r m.2.1 : Int)) != (16 - (done : Int))) = false := by rw [hd']; simp
    have g2 : decide (16 - (done : Int) < 0) = false := decide_eq_false (by omega)
    have g4 : IntKind.i64.wrap ((r : Int) + (1 : Int)) = ((r + 1 : Nat) : Int) := by rw [i64_in] <;> omega
    simp only [L8_3, b8_3, hf.1, Bool.false_eq_true, if_false, f27', Option.bind_some, g1, g2, g4]
  | n + 1, pre, x :: suf, done, e, h, hd => by
    have hl := hm.len
    obtain ⟨h1, h2, h3, h4, h5, h6⟩ := mid e (zEl T34) (by omega)
    have hx := hm.wf x (by rw [e]; simp)
    have hle := (F27_eq K hK m hm (by omega) r).2
    have ih := fun done' => L8_3_eq r2 r hr n (pre ++ [x]) suf done' h5 (by simpa using h)
    rw [sumR] at hd
    simp only [L8_3, b8_3, h1, h2, h3, h4, if_true]
    by_cases q : x.2.1 = (r : Int)
    · have q' : cr x = (r : Int) := q
      rw [if_pos q'] at hd
      have eo : x.2.2.2 = (od x : Int) := by rw [hx.2.2.2.1]
      have g0 : IntKind.u64.wrap (od x : Int) = (od x : Int) := by
        have := hx.2.2.2.2.1
        rw [u64_in] <;> omega
      have g1 : decide ((0 : Int) ≤ (od x : Int)) = true := decide_eq_true (by omega)
      have g2 : IntKind.i64.wrap ((1 : Int) * (2 : Int) ^ min ((od x : Int)).toNat IntKind.i64.bits) = ((2 ^ od x : Nat) : Int) := by
        have := hx.2.2.2.2.1
        rw [Int.toNat_natCast, pwi (by omega)]
      rw [if_pos (beq_iff_eq.2 q)]
      rw [eo]
      simp only [g0, g1, g2, if_true]
      have g3 : IntKind.i64.wrap (16 - (done : Int) - ((2 ^ od x : Nat) : Int)) = 16 - ((done + 2 ^ od x : Nat) : Int) := by
        clear g2 ih
        generalize 2 ^ od x = P at *
        rw [i64_in] <;> omega
      rw [g3]
      exact ih (done + 2 ^ od x) (by omega)
    · have q' : ¬ cr x = (r : Int) := q
      rw [if_neg q', Nat.zero_add] at hd
      rw [if_neg (fun h => q (beq_iff_eq.1 h))]
      exact ih done hd
theorem L8_2_eq : ∀ (n r : Nat), r ≤ 17 → 18 - r < n →
    L8_2 (F10 K) (F11 K) (F17 K) (F15 K) (F27 K) (F14 K) (F16 K) K a n (r : Int) m.1 m.2.2 m.2.1 m.2.1 = some true
  | 0, r, _, h => by omega
  | n + 1, r, hr, h => by
    have hl := hm.len
    obtain ⟨R, f2, hR, hR2⟩ := F17_eq (O := 4) (n := 50) K m (by omega) hm.wf hm.srt
    have f2' : F17 K (m.1, m.2.1, m.2.2) = some R := f2
    have f14 : F14 K (m.1, m.2.1, m.2.2) = some m.2.2 := rfl
    have hR16 : R ≤ 16 := by
      rcases hR with ⟨_, h⟩ | ⟨d, hd, h⟩
      · omega
      · have := (hm.wf d hd).2.2.1; omega
    simp only [L8_2, b8_2, f2', f14, Option.bind_some]
    by_cases c : (r : Int) < R
    · rw [if_pos (decide_eq_true c)]
      have := L8_3_eq K hK a m hm (L8_2 (F10 K) (F11 K) (F17 K) (F15 K) (F27 K) (F14 K) (F16 K) K a n) r (by omega) K [] m.2.1 0 rfl (by omega) (Nat.zero_add _)
      refine Eq.trans this ?_
      exact L8_2_eq n (r + 1) (by omega) (by omega)
    · rw [if_neg (fun h => c (of_decide_eq_true h)), if_pos (decide_eq_true hR16), if_pos (decide_eq_true hm.act.1)]
      have k16 := F16_eq K hK
      rcases hm.act.2 with h0 | ⟨d, hd, h0⟩
      · by_cases c2 : m.2.2 < R
        · rw [if_pos (decide_eq_true c2), k16]; rfl
        · rw [if_neg (fun h => c2 (of_decide_eq_true h)), if_pos (beq_iff_eq.2 h0), k16]; rfl
      · have := hR2 d hd
        rw [if_pos (decide_eq_true (by omega)), k16]; rfl
theorem L8_1_eq (r0 : Int → Int → Int → (List (El T34)) → (List (El T34)) → Option (Bool)) (p0 s0 : List Ce) (c : Ce) (he : m.2.1 = p0 ++ c :: s0) : ∀ (n : Nat) (pre suf : List Ce), p0 = pre ++ suf → suf.length < n →
    L8_1 (F10 K) (F11 K) (F17 K) (F15 K) (F27 K) (F14 K) (F16 K) K a r0 n (p0.length : Int) (pre.length : Int) m.1 m.2.2 m.2.1 m.2.1 = r0 ((p0.length + 1 : Nat) : Int) m.1 m.2.2 m.2.1 m.2.1
  | 0, pre, suf, e, h => by omega
  | n + 1, pre, [], e, h => by
    have hl := hm.len
    have hlen : m.2.1.length = p0.length + (s0.length + 1) := by rw [he]; simp
    have hf := fin e
    have g4 : IntKind.i64.wrap ((p0.length : Int) + (1 : Int)) = ((p0.length + 1 : Nat) : Int) := by rw [i64_in] <;> omega
    simp only [L8_1, b8_1, hf.1, Bool.false_eq_true, if_false, g4]
  | n + 1, pre, x :: suf, e, h => by
    have hl := hm.len
    have hlen : m.2.1.length = p0.length + (s0.length + 1) := by rw [he]; simp
    have hlen2 : p0.length = pre.length + (suf.length + 1) := by rw [e]; simp
    have e' : m.2.1 = pre ++ x :: (suf ++ c :: s0) := by rw [he, e]; simp
    obtain ⟨h1, h2, h3, h4, h5, h6⟩ := mid e' (zEl T34) (by omega)
    obtain ⟨k1, k2, k3, k4, k5, k6⟩ := mid he (zEl T34) (by omega)
    have g1 : decide ((pre.length : Int) < (p0.length : Int)) = true := decide_eq_true (by omega)
    have hx := hm.wf x (by rw [e']; simp)
    have hc := hm.wf c (by rw [he]; simp)
    have hids : ¬ x.1 = c.1 := by
      have := hm.ids
      rw [e', List.map_append, List.map_cons, List.nodup_append] at this
      have h2 := (List.nodup_cons.1 this.2.1).1
      intro hh
      exact h2 (List.mem_map.2 ⟨c, by simp, hh.symm⟩)
    have hap : Apart x c := by
      have := hm.ap
      rw [e', List.pairwise_append, List.pairwise_cons] at this
      exact this.2.1.1 c (by simp)
    have ih := L8_1_eq r0 p0 s0 c he n (pre ++ [x]) suf (by rw [e]; simp) (by simpa using h)
    have f15 := wf_F15 (by omega) K hK hx hc
    simp only [L8_1, b8_1, g1, h2, h3, h4, k2, k3, if_true]
    rw [if_neg (fun h => hids (beq_iff_eq.1 h))]
    by_cases q : x.2.1 = c.2.1
    · have q' : cr x = cr c := q
      rw [if_pos (beq_iff_eq.2 q), f15, Option.bind_some]
      have : mtB (st x) (od x) (st c) (od c) = false := decide_eq_false (hap q')
      rw [this, if_neg (by decide)]
      exact ih
    · rw [if_neg (fun h => q (beq_iff_eq.1 h))]
      exact ih
theorem L8_0_eq : ∀ (n : Nat) (pre suf : List Ce), m.2.1 = pre ++ suf → suf.length < n →
    L8_0 (F10 K) (F11 K) (F17 K) (F15 K) (F27 K) (F14 K) (F16 K) K a n (pre.length : Int) m.1 m.2.2 m.2.1 m.2.1 = some true
  | 0, pre, suf, e, h => by omega
  | n + 1, pre, [], e, h => by
    have hf := fin e
    simp only [L8_0, b8_0, hf.1, Bool.false_eq_true, if_false]
    exact L8_2_eq K hK a m hm K 0 (by omega) (by omega)
  | n + 1, pre, x :: suf, e, h => by
    have hl := hm.len
    obtain ⟨h1, h2, h3, h4, h5, h6⟩ := mid e (zEl T34) (by omega)
    have hx : WF 4 x := hm.wf x (by rw [e]; simp)
    have hxm : x ∈ m.2.1 := by rw [e]; simp
    obtain ⟨R, f2, hR, hR2⟩ := F17_eq (O := 4) (n := 50) K m (by omega) hm.wf hm.srt
    have f2' : F17 K (m.1, m.2.1, m.2.2) = some R := f2
    have hlt := hR2 x hxm
    obtain ⟨id, row, s', o'⟩ := x
    have eb := hx.2.2.2.1
    generalize hs : st (id, row, s', o') = s at *
    generalize ho : od (id, row, s', o') = o at *
    have es : s' = (s : Int) := congrArg (fun p : Int × Int => p.1) eb
    have eo : o' = (o : Int) := congrArg (fun p : Int × Int => p.2) eb
    subst es
    subst eo
    have x1 : o ≤ 4 := by have := hx.2.2.2.2.1; rwa [ho] at this
    have x2 : s + 2 ^ o ≤ 16 := by have := hx.2.2.2.2.2.1; rwa [hs, ho] at this
    have x3 : s % 2 ^ o = 0 := by have := hx.2.2.2.2.2.2; rwa [hs, ho] at this
    have x0 : ¬ id = 0 := hx.1
    have x4 : ¬ row < (0 : Int) := Int.not_lt.2 hx.2.1
    have x5 : ¬ row ≥ R := Int.not_le.2 hlt
    have p := Nat.two_pow_pos o
    have a1 : ¬ ((20 : Int) < (o : Int)) := by omega
    have a2 : ¬ ((0 : Int) > (o : Int)) := by omega
    have g0 : IntKind.u64.wrap (o : Int) = (o : Int) := by rw [u64_in] <;> omega
    have g1 : decide ((0 : Int) ≤ (o : Int)) = true := decide_eq_true (by omega)
    have g2 : IntKind.i64.wrap ((1 : Int) * (2 : Int) ^ min ((o : Int)).toNat IntKind.i64.bits) = ((2 ^ o : Nat) : Int) := by rw [Int.toNat_natCast, pwi (by omega)]
    have b1 : (id == (0 : Int)) = false := beq_eq_false_iff_ne.2 x0
    have b2 : decide (row < (0 : Int)) = false := decide_eq_false x4
    have b3 : decide (row ≥ R) = false := decide_eq_false x5
    have b4 : decide ((o : Int) < 0) = false := decide_eq_false (by omega)
    have b5 : decide ((o : Int) > 4) = false := decide_eq_false (by omega)
    have b6 : decide ((s : Int) < 0) = false := decide_eq_false (by omega)
    have b7 : decide (IntKind.i64.wrap ((s : Int) + ((2 ^ o : Nat) : Int)) > 16) = false := decide_eq_false (by rw [i64_in] <;> omega)
    have b8 : (((2 ^ o : Nat) : Int) == 0) = false := beq_eq_false_iff_ne.2 (by omega)
    have b9 : (Int.tmod (s : Int) ((2 ^ o : Nat) : Int) != 0) = false := by
      have : Int.tmod (s : Int) ((2 ^ o : Nat) : Int) = ((s % 2 ^ o : Nat) : Int) := rfl
      rw [this, x3]; rfl
    simp only [L8_0, b8_0, h1, h2, h3, if_true, f2', Option.bind_some, a1, a2, if_false, g0, g1, g2, b1, b2, b3, b4, b5, b6, b7, b8, b9, Bool.false_eq_true, Bool.not_false]
    have := L8_1_eq K hK a m hm (L8_0 (F10 K) (F11 K) (F17 K) (F15 K) (F27 K) (F14 K) (F16 K) K a n) pre suf _ e K [] pre rfl (by rw [e] at hl; simp at hl; omega)
    refine Eq.trans this ?_
    have := L8_0_eq n _ suf h5 (by simpa using h)
    rw [show (pre ++ [((id, row, (s : Int), (o : Int)) : Ce)]).length = pre.length + 1 by simp] at this
    exact this
end
theorem gangRows (a : List (El T53)) (_ : Gd (.sl T53) a) : F8 2000 a = some true := by
  obtain ⟨m, e, hm⟩ := F10_eq 2000 (by omega) a
  have hl := hm.len
  unfold F8 G8 t8
  rw [e, Option.bind_some, F11_eq 2000 m (by omega), Option.bind_some]
  exact L8_0_eq 2000 (by omega) a m hm 2000 [] m.2.1 rfl (by omega)
end Go.Proofs.YtlpalhgiiodjoaaE
