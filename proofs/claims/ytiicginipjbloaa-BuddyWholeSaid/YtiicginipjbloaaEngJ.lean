/- The engine and the library's Insert, at rows of whatever flat cells. -/
import Derived.Test.YtiicginipjbloaaEngI
import Derived.Lib.AppendZerosOnto
import Derived.Lib.Overlaps
set_option linter.all false
namespace Go.Proofs.YtiicginipjbloaaE
open Go Go.Proofs Go.RowKit
set_option linter.unusedVariables false
section
variable {P : Program} {w : World}
theorem copy_run {dT sT ty e T : TypeId} {i : TypeInfo} {g o dLen dCap sLen sCap n : Nat} {a : Addr} {cur : Array Value} {cs : List Value} (hu : P.underlying dT = some (.slice e)) (hi : P.info? e = some i) (hg : w.heap[g]? = some (.cells cur T (0, 0)))
    (hn : Nat.min sLen dLen = n) (hl : cs.length = n * i.size) (hsrc : ∀ j v, cs[j]? = some v → w.cell? (a.add j) = some v) (hfit : o + cs.length ≤ cur.size) (h1 : ∀ v ∈ cs, v.oneCell' = true) :
    (Builtin.copy_ #[dT, sT] ty #[.slice (some ⟨g, o, none⟩) dLen dCap, .slice (some a) sLen sCap]).run P w =
      .ok (goInt n) (w.setRow g (cur.toList.take o ++ cs ++ cur.toList.drop (o + cs.length)).toArray) := by
  have hf := firstCells_of (P := P) (w := w) (len := sLen) (cap := sCap) (A := some a) hl (fun h => by cases h) (fun ad h j v hv => by cases h; exact hsrc j v hv)
  have hst := run_storeCells_at P g o T cs 0 cur w hg (by simpa using hfit) h1
  simp only [Nat.add_zero] at hst
  simp [Builtin.copy_, run_underlying hu, sizeOf, typeInfo, hi, Builtin.lenOf, hn, hf, hst]
theorem step_copy_run {ops : Array Oper} {o : Oper} {a : Act} {K : Act → World → Prop} {Q : Exit → Act → World → Prop} {E : Prop}
    (hg : o.guard = none) (d x : Operand) (dT sT : TypeId) (hop : o.op = Op.call { callee := Callee.builtin Builtin.copy, args := #[d, x], argTypes := #[dT, sT] })
    (v u : Value) (hd : a.eval d = v) (hx : a.eval x = u) {v' : Value} {w' : World} (hr : (Builtin.copy_ #[dT, sT] o.type #[v, u]).run P w = .ok v' w') (hK : K (a.put o.dst v') w') :
    if Region.wanted o (yielded ops a.tmps) = true then Oper.wp P o a w K Q else E := by
  have hw : Region.wanted o (yielded ops a.tmps) = true := by simp [Region.wanted, hg]
  rw [if_pos hw]
  unfold Oper.wp
  simp [execOp, hop, resolve, invoke, builtin, hd, hx, hr, Result.andThen]
  exact hK
theorem wp_copy_run' {o : Oper} {a : Act} {K : Act → World → Prop} {Q : Exit → Act → World → Prop} (d s : Operand) (t t' : TypeId)
    (ho : o.op = .call { callee := .builtin .copy, args := #[d, s], argTypes := #[t, t'] }) (v u : Value) (hd : a.eval d = v) (hs : a.eval s = u) {v' : Value} {w' : World}
    (hr : (Builtin.copy_ #[t, t'] o.type #[v, u]).run P w = .ok v' w') (h : K (a.put o.dst v') w') : o.wp P a w K Q := by
  unfold Oper.wp execOp
  simp only [ho, resolve, invoke, builtin, Sem.run_bind, Sem.run_pure, Result.andThen_ok, List.map_toArray, List.map_cons, List.map_nil, hd, hs, hr]
  exact h
theorem wpList_copy_run' {ops : Array Oper} {rest : List Oper} {o : Oper} {a : Act} {Q : Exit → Act → World → Prop} (hgd : o.guard = none) (d s : Operand) (t t' : TypeId)
    (ho : o.op = .call { callee := .builtin .copy, args := #[d, s], argTypes := #[t, t'] }) (v u : Value) (hd : a.eval d = v) (hs : a.eval s = u) {v' : Value} {w' : World}
    (hr : (Builtin.copy_ #[t, t'] o.type #[v, u]).run P w = .ok v' w') (h : wpList P ops Q rest (a.put o.dst v') w') : wpList P ops Q (o :: rest) a w :=
  wpList_plain hgd fun _ hK => wp_copy_run' d s t t' ho v u hd hs hr (hK _ _ h)
end
theorem overlaps_run {P : Program} (w : World) (tS tR e : TypeId) (ht : P.underlying tS = some (.slice e)) (size : Nat) (hz : ∀ w, (Go.sizeOf e).run P w = .ok size w)
    (a b : Addr) (la ca lb cb : Nat) (hne : a.block ≠ b.block) (tA tB : TypeId) (kA kB : Nat)
    (hsa : w.shape? a.block = some (tA, kA)) (hsb : w.shape? b.block = some (tB, kB)) (hkB : kB ≠ 0) (hkA : kA ≠ 0)
    (hfb : w.frozen? b = false) (hfe : w.frozen? { block := b.block, off := kB } = false) :
    (Extern.SlicesOverlaps.overlaps #[tS, tS] #[tR] #[.slice (some a) la ca, .slice (some b) lb cb]).run P w = .ok (.bool false) w := by
  have hnb : (a.block != b.block) = true := by simpa using hne
  have hnb' : (a.block == b.block) = false := by simpa using hne
  change Sem.run P (α := Value) (do
    let some t := (#[tS, tS] : Array TypeId)[0]? | stuck "slices.overlaps: no parameter types"
    let .slice elem ← underlying t | stuck "slices.overlaps: slice type expected"
    let size ← sizeOf elem
    match (some a : Option Addr), (some b : Option Addr) with
    | some a, some b =>
      if la = 0 ∨ lb = 0 ∨ size = 0 then pure (Value.bool false)
      else if a.block != b.block && (← frozen a) && (← frozen b) then unsupported .addressObserved
      else do
        if a.block != b.block then do
          noView a; noView b
          if ← mayBeOne a b then return Value.bool ((← choose (.extern "sameAddr.stringBytes" 2)) == 1)
        pure (Value.bool (a.block == b.block && a.off < b.off + lb * size && b.off < a.off + la * size))
    | _, _ => pure (Value.bool false)) w = _
  by_cases h0 : la = 0 ∨ lb = 0 ∨ size = 0
  · simp [run_underlying ht, hz, h0]
  · cases kB with
    | zero => exact absurd rfl hkB
    | succ kB =>
      obtain ⟨kA, rfl⟩ : ∃ k, kA = k + 1 := ⟨kA - 1, by omega⟩
      by_cases h1 : w.frozen? a = true
      · simp [run_underlying ht, hz, h0, hnb, hnb', frozen, noView, viewAt, mayBeOne, stringish, shape, Sem.run, hsa, hsb, hfb, hfe, h1]
      · have h1 : w.frozen? a = false := by simpa using h1
        by_cases h2 : w.frozen? { block := a.block, off := kA } = true
        · simp [run_underlying ht, hz, h0, hnb, hnb', frozen, noView, viewAt, mayBeOne, stringish, shape, Sem.run, hsa, hsb, hfb, hfe, h1, h2]
        · have h2 : w.frozen? { block := a.block, off := kA } = false := by simpa using h2
          simp [run_underlying ht, hz, h0, hnb, hnb', frozen, noView, viewAt, mayBeOne, stringish, shape, Sem.run, hsa, hsb, hfb, hfe, h1, h2]
theorem ins_shift {α : Type} (us rest news : List α) (p q : Nat) (hp : p ≤ us.length) (hq : news.length = q) (hfit : us.length + q ≤ (us ++ rest).length) (c1 : List α)
    (h1 : c1 = (us ++ rest).take (p + q) ++ us.drop p ++ (us ++ rest).drop (p + q + (us.drop p).length)) :
    c1.take p ++ news ++ c1.drop (p + news.length) = us.take p ++ news ++ us.drop p ++ rest.drop q := by
  have hl : ((us ++ rest).take (p + q)).length = p + q := by rw [List.length_take]; omega
  have e1 : c1.take p = us.take p := by
    rw [h1, List.append_assoc, List.take_append_of_le_length (by omega), List.take_take, Nat.min_eq_left (by omega), List.take_append_of_le_length hp]
  have e2 : c1.drop (p + news.length) = us.drop p ++ rest.drop q := by
    rw [h1, hq, List.append_assoc, List.drop_left' hl, List.length_drop, show p + q + (us.length - p) = us.length + q by omega, ← List.drop_drop, List.drop_left]
  rw [e1, e2]
  simp
theorem ins_grow {α : Type} (us R0 news : List α) (p q : Nat) (hp : p ≤ us.length) (hq : news.length = q) (hR : R0.take p = us.take p) (hfit : us.length + q ≤ R0.length) (R1 : List α)
    (h1 : R1 = R0.take p ++ news ++ R0.drop (p + news.length)) :
    R1.take (p + q) ++ us.drop p ++ R1.drop (p + q + (us.drop p).length) = us.take p ++ news ++ us.drop p ++ R0.drop (us.length + q) := by
  have hl : (R0.take p ++ news).length = p + q := by rw [List.length_append, List.length_take, hq]; omega
  have e1 : R1.take (p + q) = us.take p ++ news := by
    rw [h1, ← hl, List.take_left, hR]
  have e2 : R1.drop (p + q + (us.drop p).length) = R0.drop (us.length + q) := by
    rw [← List.drop_drop, h1, List.drop_left' hl, List.drop_drop, List.length_drop, hq]
    congr 1
    omega
  rw [e1, e2]
/-- slices.Insert, as a call that turns its array, or hands back a new one. -/
theorem insert_has {D : Prop} {P : Program} {g g2 : FuncId} {t : Ty} {T Ti e : TypeId} {ki : IntKind} {zl : List AV} (hf : flatT t = true) (hT : P.underlying T = some (.slice e)) (hTi : P.underlying Ti = some (.int ki)) (hsz0 : szT P e = some (sz t)) (hz0 : zeroAV P e = some zl) (hzl : zl.length = sz t)
    (B : Nat) (hB0 : 0 < B) (hB : (P.info? e).map (·.bytes) = some B)
    (hOv : ∀ (w : World) (a b : Addr) (la ca lb cb : Nat) (tA tB : TypeId) (kA kB : Nat), a.block ≠ b.block → w.shape? a.block = some (tA, kA) → w.shape? b.block = some (tB, kB) → kB ≠ 0 → kA ≠ 0 → w.frozen? b = false → w.frozen? ⟨b.block, kB, none⟩ = false →
      (callFunc g2 #[.slice (some a) la ca, .slice (some b) lb cb]).run P w = .ok (.value (.bool false)) w)
    (hEnd : ∀ (A : Option Addr) (n c : Nat) (va : Addr) (m vc : Nat) (w w1 : World) (v1 : Value), 0 < m → n ≤ c → c ≤ 9223372036854775807 → (∀ ty, (Builtin.append_ #[T, T] ty #[.slice A n c, .slice (some va) m vc]).run P w = .ok v1 w1) →
      Calls P g #[.slice A n c, .int .i64 n, .slice (some va) m vc] w fun ex w' => ex = .returned v1 ∧ w' = w1)
    (hShift : ∀ (b n c i : Nat) (vb vo m vc : Nat) (w W1 W2 : World) (x1 x2 : Value), i < n → 0 < m → n + m ≤ c → c ≤ 9223372036854775807 →
      (∀ lb cb, (callFunc g2 #[.slice (some ⟨vb, vo, none⟩) m vc, .slice (some ⟨b, 0 + (i + m) * sz t, none⟩) lb cb]).run P w = .ok (.value (.bool false)) w) →
      (∀ ty dc sc, (Builtin.copy_ #[T, T] ty #[.slice (some ⟨b, 0 + (i + m) * sz t, none⟩) (n + m - (i + m)) dc, .slice (some ⟨b, 0 + i * sz t, none⟩) (n + m - i) sc]).run P w.drew = .ok x1 W1) →
      (∀ ty dc, (Builtin.copy_ #[T, T] ty #[.slice (some ⟨b, 0 + i * sz t, none⟩) (n + m - i) dc, .slice (some ⟨vb, vo, none⟩) m vc]).run P W1 = .ok x2 W2) →
      Calls P g #[.slice (some ⟨b, 0, none⟩) n c, .int .i64 i, .slice (some ⟨vb, vo, none⟩) m vc] w fun ex w' => ex = .returned (.slice (some ⟨b, 0, none⟩) (n + m) c) ∧ w' = W2)
    (hGrow : ∀ (b n c i : Nat) (vb vo m vc nb G : Nat) (w W1 W2 W3 : World) (x1 x2 : Value), i < n → 0 < m → n ≤ c → c < n + m → n + m ≤ G → G ≤ 9223372036854775807 → n + m ≤ 1000000000000 →
      (∀ ty, (Builtin.append_ #[T, Ti] ty #[.slice (some ⟨b, 0, none⟩) i c, .int .i64 ((n : Int) + (m : Int) - (i : Int))]).run P w = .ok (.slice (some ⟨nb, 0, none⟩) (n + m) G) W1) →
      (∀ ty dc, (Builtin.copy_ #[T, T] ty #[.slice (some ⟨nb, 0 + i * sz t, none⟩) (n + m - i) dc, .slice (some ⟨vb, vo, none⟩) m vc]).run P W1 = .ok x1 W2) →
      (∀ ty dc sc, (Builtin.copy_ #[T, T] ty #[.slice (some ⟨nb, 0 + (i + m) * sz t, none⟩) (n + m - (i + m)) dc, .slice (some ⟨b, 0 + i * sz t, none⟩) (n - i) sc]).run P W2.drew = .ok x2 W3) →
      Calls P g #[.slice (some ⟨b, 0, none⟩) n c, .int .i64 i, .slice (some ⟨vb, vo, none⟩) m vc] w fun ex w' => ex = .returned (.slice (some ⟨nb, 0, none⟩) (n + m) G) ∧ w' = W3)
    {l m : List (El t)} {i : Nat} (hi : i ≤ l.length) (hm : 0 < m.length) (hbig : (l.length + m.length) * B ≤ 140737488355328) (hbig2 : l.length + m.length ≤ 1000000000000) : WHasE e D P g t l (l.take i ++ m ++ l.drop i) [I .i64 i, .row t m] true := by
  obtain ⟨inf, z, hin, hz, hzz⟩ := zeroAV_eq hz0
  have hsz : inf.size = sz t := by
    unfold szT at hsz0
    rw [hin] at hsz0
    exact Option.some.inj hsz0
  have hzs : z.cells.size = sz t := by
    rw [← hzl, hzz, List.length_map, Array.length_toList]
  have hib : inf.bytes = B := by simpa [hin] using hB
  have k0 := sz_pos t
  intro S w v vals hS hBk hvS hV
  obtain ⟨x1, r1, rfl, v1, x2, r2, rfl, v2, v3⟩ := hV
  rw [VsOK] at v3
  subst v3
  have v1' : x1 = .int .i64 i := v1
  subst v1'
  have v2' : Rd S w (.sl t) m [x2] := v2
  rw [Rd] at v2'
  obtain ⟨A2, vc, hx2, hvc1, hvc2, hrow⟩ := v2'
  have hx2' : x2 = .slice A2 m.length vc := by cases hx2; rfl
  subst hx2'
  -- the inserted elements' cells
  have hnews : ∃ (vb vo : Nat) (news : List Value), A2 = some ⟨vb, vo, none⟩ ∧ S vb ∧ news = m.flatMap (encT t) ∧ ∀ j u, news[j]? = some u → w.cell? ⟨vb, vo + j, none⟩ = some u := by
    obtain ⟨b, o, cs', hA, hSb, hlt, hrd, hc⟩ := hrow 0 m[0] (List.getElem?_eq_getElem hm)
    refine ⟨b, o, _, hA, hSb, rfl, fun j u hj => ?_⟩
    have hjl : j < m.length * sz t := by
      have := (List.getElem?_eq_some_iff.1 hj).1
      rwa [flatMap_len _ _ (fun x => encT_len x hf)] at this
    have hd1 : j / sz t < m.length := (Nat.div_lt_iff_lt_mul k0).2 hjl
    obtain ⟨b2, o2, cs2, hA2, _, _, hrd2, hc2⟩ := hrow (j / sz t) m[j / sz t] (List.getElem?_eq_getElem hd1)
    rw [hA] at hA2
    cases hA2
    have e2 := Rd_enc hf hrd2
    have hsplit : m.flatMap (encT t) = (m.take (j / sz t)).flatMap (encT t) ++ (encT t m[j / sz t] ++ (m.drop (j / sz t + 1)).flatMap (encT t)) := by
      conv => lhs; rw [← List.take_append_drop (j / sz t) m, List.drop_eq_getElem_cons hd1]
      rw [List.flatMap_append, List.flatMap_cons]
    have hl1 : ((m.take (j / sz t)).flatMap (encT t)).length = j / sz t * sz t := by
      rw [flatMap_len _ _ (fun x => encT_len x hf), List.length_take, Nat.min_eq_left (Nat.le_of_lt hd1)]
    have hmd : j / sz t * sz t + j % sz t = j := by rw [Nat.mul_comm]; exact Nat.div_add_mod j (sz t)
    have hj2 : (encT t m[j / sz t])[j % sz t]? = some u := by
      rw [hsplit, List.getElem?_append_right (by rw [hl1]; exact Nat.div_mul_le_self _ _), hl1, show j - j / sz t * sz t = j % sz t by omega, List.getElem?_append_left (by rw [encT_len _ hf]; exact Nat.mod_lt _ k0)] at hj
      exact hj
    have := hc2 (j % sz t) u (by rw [e2]; exact hj2)
    rwa [Nat.add_assoc, hmd] at this
  obtain ⟨vb, vo, news, rfl, hSvb, hne, hncell⟩ := hnews
  have hvbw : vb < w.heap.size := hS vb hSvb
  have hnl : news.length = m.length * sz t := by rw [hne]; exact flatMap_len _ _ (fun x => encT_len x hf) m
  have hn1 : ∀ u ∈ news, u.oneCell' = true := by
    intro u hu
    rw [hne] at hu
    obtain ⟨x, _, hx⟩ := List.mem_flatMap.1 hu
    exact encT_one x u hx
  have hadd : ∀ (bb oo j : Nat), (⟨bb, oo, none⟩ : Addr).add j = ⟨bb, oo + j, none⟩ := fun bb oo j => add_none _ _ _
  -- what is left to say at the end
  have fin : ∀ (W : World) (nb c' : Nat) (cur : List Value), W.os = w.os → W.tape = w.tape → W.output = w.output → w.heap.size ≤ W.heap.size → w.drawn ≤ W.drawn → (∀ k, k < w.heap.size → bof v ≠ some k → W.heap[k]? = w.heap[k]?) →
      (bof v = some nb ∨ w.heap.size ≤ nb) → ¬ S nb → W.heap[nb]? = some (.cells ((l.take i ++ m ++ l.drop i).flatMap (encT t) ++ cur).toArray e (0, 0)) → ((l.take i ++ m ++ l.drop i).flatMap (encT t) ++ cur).length = c' * sz t → c' ≤ maxLen →
      ∃ v' S', (.returned (.slice (some ⟨nb, 0, none⟩) (l.length + m.length) c') : Ending) = .returned v' ∧ (true = false → v' = v) ∧ BelBut D v w W ∧ (∀ b, S b → S' b) ∧ (∀ b, S' b → (S b ∨ w.heap.size ≤ b) ∧ b < W.heap.size) ∧
        BOK (fun _ => v') S' W 0 (.arr e t (l.take i ++ m ++ l.drop i)) ∧ ∀ b, bof v' = some b → (bof v = some b ∨ w.heap.size ≤ b) ∧ ¬ S' b := by
    intro W nb c' cur h1 h2 h3 h4 h5 h6 h7 h8 h9 h10 h11
    have hlen : (l.take i ++ m ++ l.drop i).length = l.length + m.length := by
      rw [List.length_append, List.length_append, List.length_take, List.length_drop, Nat.min_eq_left hi]; omega
    have hc' : l.length + m.length ≤ c' := by
      have := flatMap_len (encT t) _ (fun x => encT_len x hf) (l.take i ++ m ++ l.drop i)
      rw [List.length_append, this, hlen] at h10
      exact Nat.le_of_mul_le_mul_right (by omega : (l.length + m.length) * sz t ≤ c' * sz t) k0
    obtain ⟨c, rfl⟩ : ∃ c, c' = c + 1 := ⟨c' - 1, by omega⟩
    refine ⟨_, S, rfl, fun h => (by cases h), ⟨h1, h2, h3, h4, fun _ => h5, h6⟩, fun b h => h, fun b h => ⟨.inl h, Nat.lt_of_lt_of_le (hS b h) h4⟩, .inr ⟨nb, c, _, cur, by rw [hlen], by rw [hlen]; exact hc', h11, h9, h10, enc_RdL hf _⟩, fun k hk => ?_⟩
    cases hk
    exact ⟨h7, h8⟩
  have hmax : l.length + m.length ≤ maxLen := by unfold maxLen; omega
  have hnS : ¬ S w.heap.size := fun h => absurd (hS _ h) (Nat.lt_irrefl _)
  rcases hBk with ⟨A, q1, q2⟩ | ⟨b, c, us, rest, q1, q2, q3, q4, q5, q6⟩
  · -- the row that holds nothing
    have q1' : v = .slice A 0 0 := q1
    subst q1'
    subst q2
    have hi0 : i = 0 := by simpa using hi
    subst hi0
    have hml : 0 < 0 + m.length := by omega
    have hg := fun ty => append_grow (P := P) (w := w) (t := T) (ty := ty) (e := e) (i := inf) (z := z) (sLen := 0) (sCap := 0) (m := m.length) (c := vc) (A := some ⟨vb, vo, none⟩) (A0 := A) (olds := []) (news := news) hT hin hz (by simp) (fun _ => rfl) (fun ad h j v hv => by simp at hv)
      (by rw [hnl, hsz]) (fun h => by cases h) (fun ad h j v hv => by cases h; rw [hadd]; exact hncell j v hv) hml (by simp at hbig2 ⊢; omega) (growslice_fits hml (by rw [hib]; simpa using hbig))
    refine (hEnd A 0 0 ⟨vb, vo, none⟩ m.length vc w _ _ hm (Nat.le_refl _) (by omega) hg).mono ?_
    rintro ex w' ⟨rfl, rfl⟩
    have hge := grownCap_ge w (0 + m.length) 0 e
    have hle := grownCap_le_maxLen w (0 + m.length) 0 e (by unfold maxLen; simp at hbig2; omega)
    have := fin (w.drew.alloc (.cells (#[] ++ news.toArray ++ Builtin.zeroCells z.cells (grownCap w (0 + m.length) 0 e - (0 + m.length))) e)) w.heap.size (grownCap w (0 + m.length) 0 e) (Builtin.zeroCells z.cells (grownCap w (0 + m.length) 0 e - (0 + m.length))).toList rfl rfl rfl (by simp) (Nat.le_succ _) (fun k hk _ => heap_alloc_lt w.drew _ hk) (.inr (Nat.le_refl _)) hnS
      (by
        rw [show w.heap.size = w.drew.heap.size from rfl, heap_alloc_new w.drew]
        congr 2
        apply Array.toList_inj.1
        simp [hne]) (by
        simp only [List.take_nil, List.drop_nil, List.nil_append, List.append_nil, List.length_append, ← hne, hnl, Array.length_toList, size_zeroCells, hzs]
        rw [← Nat.add_mul]
        congr 1
        omega) hle
    simpa using this
  · have q1' : v = .slice (some ⟨b, 0, none⟩) l.length (c + 1) := q1
    subst q1'
    have hb : b < w.heap.size := (Array.getElem?_eq_some_iff.1 q4).1
    have hue := RdL_enc hf q6
    have hul : us.length = l.length * sz t := RdL.len' hf q6
    have hcells := cellsAt_heap q4
    have hvbb : vb ≠ b := fun e => hvS b rfl (e ▸ hSvb)
    have hone : ∀ u ∈ us, u.oneCell' = true := by
      intro u hu
      rw [hue] at hu
      obtain ⟨x, _, hx⟩ := List.mem_flatMap.1 hu
      exact encT_one x u hx
    have hqq : ∀ j u, us[j]? = some u → w.cell? ⟨b, 0 + j, none⟩ = some u := fun j u hj => by
      have := hcells j u (by
        rw [List.getElem?_append_left (List.getElem?_eq_some_iff.1 hj).1]
        exact hj)
      exact this
    have henc : (l.take i ++ m ++ l.drop i).flatMap (encT t) = us.take (i * sz t) ++ news ++ us.drop (i * sz t) := by
      rw [List.flatMap_append, List.flatMap_append, hue, flat_take hf, flat_drop hf, hne]
    have hcm : c + 1 ≤ 9223372036854775807 := by unfold maxLen at q3; omega
    have hfrb : ∀ o, w.frozen? ⟨b, o, none⟩ = false := fun o => by simp [World.frozen?, q4]
    have hik : i * sz t ≤ us.length := by rw [hul]; exact Nat.mul_le_mul_right _ hi
    by_cases hroom : l.length + m.length ≤ c + 1
    · have hfitk : us.length + news.length ≤ (us ++ rest).length := by
        rw [q5, hul, hnl, ← Nat.add_mul]
        exact Nat.mul_le_mul_right _ hroom
      have hdrop : (us ++ rest).drop (us.length + news.length) = rest.drop news.length := by rw [← List.drop_drop, List.drop_left]
      by_cases hie : i = l.length
      · -- at the end, with room
        subst hie
        have hr := fun ty => append_in (P := P) (w := w) (t := T) (ty := ty) (T := e) (A := some ⟨vb, vo, none⟩) (m := m.length) (c := vc) (sLen := l.length) (sCap := c + 1) (news := news) hT hin q4 (by rw [hnl, hsz]) (fun h => by cases h) (fun ad h j v hv => by cases h; rw [hadd]; exact hncell j v hv) hn1 hroom (by
          rw [hsz, ← hul]
          simpa using hfitk)
        refine (hEnd _ l.length (c + 1) ⟨vb, vo, none⟩ m.length vc w _ _ hm q2 hcm hr).mono ?_
        rintro ex w' ⟨rfl, rfl⟩
        refine fin _ b (c + 1) (rest.drop news.length) rfl rfl rfl (by simp) (Nat.le_refl _) (fun k hk hne => setRow_other w b k _ (fun e => hne (by rw [e]; rfl))) (.inl rfl) (hvS b rfl) ?_ ?_ q3
        · rw [setRow_heap w b _ _ _ _ q4]
          congr 3
          rw [henc, List.toList_toArray, hsz, ← hul, List.take_left, List.take_length, List.drop_length, hdrop]
          simp
        · rw [henc, List.length_append, List.length_append, List.length_append, List.length_take, List.length_drop, List.length_drop, ← q5, List.length_append]
          rw [List.length_append] at hfitk
          omega
      · have hlt : i < l.length := by omega
        -- between, with room
        have hdl : (us.drop (i * sz t)).length = (l.length - i) * sz t := by rw [List.length_drop, hul, Nat.sub_mul]
        have hsum : (i + m.length) * sz t + (l.length - i) * sz t = us.length + news.length := by
          rw [hul, hnl, ← Nat.add_mul, ← Nat.add_mul]
          congr 1
          omega
        have hq4' : w.drew.heap[b]? = some (.cells (us ++ rest).toArray e (0, 0)) := q4
        have hc1 := fun ty dc sc => copy_run (P := P) (w := w.drew) (dT := T) (sT := T) (ty := ty) (e := e) (T := e) (g := b) (o := 0 + (i + m.length) * sz t) (dLen := l.length + m.length - (i + m.length)) (dCap := dc) (sLen := l.length + m.length - i) (sCap := sc) (n := l.length - i) (a := ⟨b, 0 + i * sz t, none⟩) (cs := us.drop (i * sz t)) hT hin hq4'
          (by simp only [Nat.min_def]; split <;> omega) (by rw [hdl, hsz]) (fun j v hv => by
            rw [hadd, Nat.add_assoc]
            rw [List.getElem?_drop] at hv
            exact hqq _ v hv) (by
            rw [hdl, Nat.zero_add, hsum]
            simpa using hfitk) (fun v hv => hone v (List.mem_of_mem_drop hv))
        obtain ⟨cur1, hcur1⟩ : ∃ cur1 : List Value, cur1 = (us ++ rest).take (i * sz t + news.length) ++ us.drop (i * sz t) ++ (us ++ rest).drop (i * sz t + news.length + (us.drop (i * sz t)).length) := ⟨_, rfl⟩
        have him : 0 + (i + m.length) * sz t = i * sz t + news.length := by rw [hnl, Nat.add_mul, Nat.zero_add]
        rw [him] at hc1
        simp only [List.toList_toArray] at hc1
        rw [← hcur1, ← him] at hc1
        have hs1 : cur1.length = (us ++ rest).length := by
          rw [hcur1]
          simp only [List.length_append, List.length_take, List.length_drop]
          rw [List.length_append] at hfitk
          omega
        have hheap1 : (w.drew.setRow b cur1.toArray).heap[b]? = some (.cells cur1.toArray e (0, 0)) := setRow_heap w.drew b _ _ _ _ hq4'
        have hc2 := fun ty dc => copy_run (P := P) (w := w.drew.setRow b cur1.toArray) (dT := T) (sT := T) (ty := ty) (e := e) (T := e) (g := b) (o := 0 + i * sz t) (dLen := l.length + m.length - i) (dCap := dc) (sLen := m.length) (sCap := vc) (n := m.length) (a := ⟨vb, vo, none⟩) (cs := news) hT hin hheap1
          (by simp only [Nat.min_def]; split <;> omega) (by rw [hnl, hsz]) (fun j v hv => by
            rw [hadd]
            have := hncell j v hv
            rw [cell?_of_heap (setRow_other w.drew b vb cur1.toArray hvbb)]
            exact this) (by
            simp only [List.size_toArray, hs1]
            omega) hn1
        rw [Nat.zero_add] at hc2
        simp only [List.toList_toArray] at hc2
        rw [ins_shift us rest news (i * sz t) news.length hik rfl hfitk cur1 hcur1] at hc2
        have hov : ∀ lb cb, (callFunc g2 #[.slice (some ⟨vb, vo, none⟩) m.length vc, .slice (some ⟨b, 0 + (i + m.length) * sz t, none⟩) lb cb]).run P w = .ok (.value (.bool false)) w := fun lb cb => by
          have hshB : w.shape? b = some (e, (us ++ rest).length) := by simp [World.shape?, q4]
          have hcv := hncell 0 (news[0]'(by rw [hnl]; exact Nat.mul_pos hm k0)) (List.getElem?_eq_getElem _)
          obtain ⟨tA, kA, hshA, hkA⟩ : ∃ tA kA, w.shape? vb = some (tA, kA) ∧ kA ≠ 0 := by
            unfold World.cell? at hcv
            split at hcv
            · rename_i cc tt ff hh
              refine ⟨tt, cc.size, by simp [World.shape?, hh], fun h0 => ?_⟩
              have hcv' : cc[vo + 0]? = some (news[0]'(by rw [hnl]; exact Nat.mul_pos hm k0)) := hcv
              have := (Array.getElem?_eq_some_iff.1 hcv').1
              omega
            · cases hcv
          refine hOv w ⟨vb, vo, none⟩ ⟨b, 0 + (i + m.length) * sz t, none⟩ m.length vc lb cb tA e kA _ hvbb hshA hshB (by rw [q5]; exact Nat.ne_of_gt (Nat.mul_pos (by omega) k0)) hkA (hfrb _) (hfrb _)
        rw [show i * sz t = 0 + i * sz t from (Nat.zero_add _).symm] at hc2
        refine (hShift b l.length (c + 1) i vb vo m.length vc w _ _ _ _ hlt hm hroom hcm hov hc1 hc2).mono ?_
        rintro ex w' ⟨rfl, rfl⟩
        refine fin _ b (c + 1) (rest.drop news.length) rfl rfl rfl (by simp) (Nat.le_succ _) (fun k hk hne => ?_) (.inl rfl) (hvS b rfl) ?_ ?_ q3
        · have hne' : k ≠ b := fun e => hne (by rw [e]; rfl)
          rw [setRow_other _ b k _ hne', setRow_other _ b k _ hne']
          rfl
        · rw [setRow_heap _ b _ _ _ _ hheap1, henc, Nat.zero_add]
        · rw [henc, List.length_append, List.length_append, List.length_append, List.length_take, List.length_drop, List.length_drop, ← q5, List.length_append]
          rw [List.length_append] at hfitk
          omega
    · have hg : c + 1 < l.length + m.length := by omega
      have hge := grownCap_ge w (l.length + m.length) (c + 1) e
      have hle := grownCap_le_maxLen w (l.length + m.length) (c + 1) e hmax
      have hzl : ∀ k, (Builtin.zeroCells z.cells k).toList.length = k * sz t := fun k => by rw [Array.length_toList, size_zeroCells, hzs]
      by_cases hie : i = l.length
      · -- at the end, without room
        subst hie
        have hgr := fun ty => append_grow (P := P) (w := w) (t := T) (ty := ty) (e := e) (i := inf) (z := z) (sLen := l.length) (sCap := c + 1) (m := m.length) (c := vc) (A := some ⟨vb, vo, none⟩) (A0 := some ⟨b, 0, none⟩) (olds := us) (news := news) hT hin hz (by rw [hul, hsz]) (fun h => by cases h) (fun ad h j v hv => by cases h; rw [hadd]; exact hqq j v hv)
          (by rw [hnl, hsz]) (fun h => by cases h) (fun ad h j v hv => by cases h; rw [hadd]; exact hncell j v hv) hg (by omega) (growslice_fits hg (by rw [hib]; exact hbig))
        refine (hEnd _ l.length (c + 1) ⟨vb, vo, none⟩ m.length vc w _ _ hm q2 hcm hgr).mono ?_
        rintro ex w' ⟨rfl, rfl⟩
        refine fin _ w.heap.size _ (Builtin.zeroCells z.cells (grownCap w (l.length + m.length) (c + 1) e - (l.length + m.length))).toList rfl rfl rfl (by simp) (Nat.le_succ _) (fun k hk _ => heap_alloc_lt w.drew _ hk) (.inr (Nat.le_refl _)) hnS ?_ ?_ hle
        · rw [show w.heap.size = w.drew.heap.size from rfl, heap_alloc_new w.drew]
          congr 2
          apply Array.toList_inj.1
          rw [henc, ← hul]
          simp
        · rw [henc, ← hul]
          simp only [List.length_append, List.length_take, List.length_drop, hzl, Nat.min_self, Nat.sub_self, Nat.add_zero]
          rw [hul, hnl, ← Nat.add_mul, ← Nat.add_mul]
          congr 1
          omega
      · have hlt : i < l.length := by omega
        have hold : (Builtin.firstCells inf.size i (.slice (some ⟨b, 0, none⟩) i (c + 1))).run P w.drew = .ok (us.take (i * sz t)).toArray w.drew := by
          refine firstCells_of (P := P) (w := w.drew) (len := i) (cap := c + 1) (by rw [List.length_take, hsz]; omega) (fun h => by cases h) (fun ad h j v hv => ?_)
          cases h
          rw [hadd]
          rw [List.getElem?_take] at hv
          split at hv
          · exact hqq j v hv
          · cases hv
        have hkk : (l.length : Int) + (m.length : Int) - (i : Int) = ((l.length + m.length - i : Nat) : Int) := by omega
        have hik2 : i + (l.length + m.length - i) = l.length + m.length := by omega
        have hap := fun ty => Lib.run_append_grow_zeros (P := P) w T Ti ty e inf z .i64 ki hT hTi hin hz (some ⟨b, 0, none⟩) i (c + 1) (us.take (i * sz t)) hold (l.length + m.length - i) (by omega) (by rw [hsz]; exact k0) (by omega) (by omega) (by
          rw [hib]
          have : (l.length + m.length - i) * B ≤ (l.length + m.length) * B := Nat.mul_le_mul_right _ (by omega)
          omega) (by rw [hib, hik2]; exact growslice_fits hg hbig)
        rw [hik2, ← hkk] at hap
        obtain ⟨G, hG⟩ : ∃ G, G = grownCap w (l.length + m.length) (c + 1) e := ⟨_, rfl⟩
        rw [← hG] at hap hge hle
        obtain ⟨R0, hR0⟩ : ∃ R0 : List Value, R0 = us.take (i * sz t) ++ (Builtin.zeroCells z.cells (l.length + m.length - i)).toList ++ (Builtin.zeroCells z.cells (G - (l.length + m.length))).toList := ⟨_, rfl⟩
        have hR0a : (us.take (i * sz t)).toArray ++ Builtin.zeroCells z.cells (l.length + m.length - i) ++ Builtin.zeroCells z.cells (G - (l.length + m.length)) = R0.toArray := by
          apply Array.toList_inj.1
          rw [hR0]
          simp
        rw [hR0a] at hap
        have htl : (us.take (i * sz t)).length = i * sz t := by rw [List.length_take]; omega
        have hR0l : R0.length = G * sz t := by
          rw [hR0, List.length_append, List.length_append, hzl, hzl, htl, ← Nat.add_mul, ← Nat.add_mul]
          congr 1
          omega
        have hR0t : R0.take (i * sz t) = us.take (i * sz t) := by
          rw [hR0, List.append_assoc]
          exact List.take_left' htl
        have hfit : us.length + news.length ≤ R0.length := by
          rw [hR0l, hul, hnl, ← Nat.add_mul]
          exact Nat.mul_le_mul_right _ hge
        have hh1 : (w.drew.alloc (.cells R0.toArray e)).heap[w.heap.size]? = some (.cells R0.toArray e (0, 0)) := heap_alloc_new w.drew _
        have hcA := fun ty dc => copy_run (P := P) (w := w.drew.alloc (.cells R0.toArray e)) (dT := T) (sT := T) (ty := ty) (e := e) (T := e) (g := w.heap.size) (o := 0 + i * sz t) (dLen := l.length + m.length - i) (dCap := dc) (sLen := m.length) (sCap := vc) (n := m.length) (a := ⟨vb, vo, none⟩) (cs := news) hT hin hh1
          (by simp only [Nat.min_def]; split <;> omega) (by rw [hnl, hsz]) (fun j v hv => by
            rw [hadd, cell?_of_heap (heap_alloc_lt w.drew _ hvbw)]
            exact hncell j v hv) (by
            simp only [List.size_toArray]
            omega) hn1
        simp only [List.toList_toArray, Nat.zero_add] at hcA
        obtain ⟨R1, hR1⟩ : ∃ R1 : List Value, R1 = R0.take (i * sz t) ++ news ++ R0.drop (i * sz t + news.length) := ⟨_, rfl⟩
        rw [← hR1] at hcA
        have hR1l : R1.length = R0.length := by
          rw [hR1]
          simp only [List.length_append, List.length_take, List.length_drop]
          omega
        have hdl : (us.drop (i * sz t)).length = (l.length - i) * sz t := by rw [List.length_drop, hul, Nat.sub_mul]
        have hsum : (i + m.length) * sz t + (l.length - i) * sz t = us.length + news.length := by
          rw [hul, hnl, ← Nat.add_mul, ← Nat.add_mul]
          congr 1
          omega
        have hh2 : ((w.drew.alloc (.cells R0.toArray e)).setRow w.heap.size R1.toArray).heap[w.heap.size]? = some (.cells R1.toArray e (0, 0)) := setRow_heap _ _ _ _ _ _ hh1
        have hcB := fun ty dc sc => copy_run (P := P) (w := ((w.drew.alloc (.cells R0.toArray e)).setRow w.heap.size R1.toArray).drew) (dT := T) (sT := T) (ty := ty) (e := e) (T := e) (g := w.heap.size) (o := 0 + (i + m.length) * sz t) (dLen := l.length + m.length - (i + m.length)) (dCap := dc) (sLen := l.length - i) (sCap := sc) (n := l.length - i) (a := ⟨b, 0 + i * sz t, none⟩) (cs := us.drop (i * sz t)) hT hin hh2
          (by simp only [Nat.min_def]; split <;> omega) (by rw [hdl, hsz]) (fun j v hv => by
            rw [hadd, Nat.add_assoc]
            rw [List.getElem?_drop] at hv
            have hob : ((w.drew.alloc (.cells R0.toArray e)).setRow w.heap.size R1.toArray).heap[b]? = w.heap[b]? := by
              rw [setRow_other _ _ b _ (by omega)]
              exact heap_alloc_lt w.drew _ hb
            have := hqq _ v hv
            rw [← this]
            exact cell?_of_heap hob) (by
            rw [hdl, Nat.zero_add, hsum]
            simp only [List.size_toArray]
            omega) (fun v hv => hone v (List.mem_of_mem_drop hv))
        simp only [List.toList_toArray] at hcB
        have him : 0 + (i + m.length) * sz t = i * sz t + news.length := by rw [hnl, Nat.add_mul, Nat.zero_add]
        rw [him, ins_grow us R0 news (i * sz t) news.length hik rfl hR0t hfit R1 hR1, ← him] at hcB
        rw [show i * sz t = 0 + i * sz t from (Nat.zero_add _).symm] at hcA
        refine (hGrow b l.length (c + 1) i vb vo m.length vc w.heap.size G w _ _ _ _ _ hlt hm q2 hg hge (by unfold maxLen at hle; omega) hbig2 hap hcA hcB).mono ?_
        rintro ex w' ⟨rfl, rfl⟩
        refine fin _ w.heap.size G (R0.drop (us.length + news.length)) rfl rfl rfl (by simp) (Nat.le_trans (Nat.le_succ _) (Nat.le_succ _)) (fun k hk hne => ?_) (.inr (Nat.le_refl _)) hnS ?_ ?_ hle
        · have hne' : k ≠ w.heap.size := by omega
          rw [setRow_other _ _ k _ hne']
          show ((w.drew.alloc (.cells R0.toArray e)).setRow w.heap.size R1.toArray).heap[k]? = _
          rw [setRow_other _ _ k _ hne']
          exact heap_alloc_lt w.drew _ hk
        · have hh3 : ((w.drew.alloc (.cells R0.toArray e)).setRow w.heap.size R1.toArray).drew.heap[w.heap.size]? = some (.cells R1.toArray e (0, 0)) := hh2
          rw [setRow_heap _ _ _ _ _ _ hh3, henc]
        · rw [henc]
          simp only [List.length_append, List.length_take, List.length_drop]
          rw [← hR0l]
          omega
end Go.Proofs.YtiicginipjbloaaE
