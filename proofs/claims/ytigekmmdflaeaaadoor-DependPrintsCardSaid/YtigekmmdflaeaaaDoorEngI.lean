/- The engine and the library's calls that shift a row's elements: what append, clear and copy do to rows of whatever cells. -/
import Derived.Test.YtigekmmdflaeaaaDoorEngU
import Derived.Shelf.RegionOpenPlain
import Derived.WalkKit
import Derived.Lib.Walk
import Derived.Lib.SliceRun
import Derived.Lib.AppendZeros
set_option linter.all false
namespace Go.Proofs.YtigekmmdflaeaaaDoorE
open Go Go.Proofs Go.RowKit
set_option linter.unusedVariables false
section
variable {P : Program} {S : Nat → Prop} {w : World}
theorem zero_cells {e : TypeId} {i : TypeInfo} {z : Value} (hi : P.info? e = some i) (hz : i.zero = some z) : (zeroValue e).run P w = .ok z w := by
  simp [zeroValue, typeInfo, hi, hz, go_sem]
theorem zero_one {n : Nat} {cs : Array Value} (h : ∀ v ∈ cs.toList, v.oneCell' = true) (hs : 0 < cs.size) : ∀ v ∈ (Builtin.zeroCells cs n).toList, v.oneCell' = true := by
  intro v hv
  unfold Builtin.zeroCells at hv
  rw [Array.toList_map] at hv
  obtain ⟨k, _, rfl⟩ := List.mem_map.1 hv
  have hlt : k % cs.size < cs.size := Nat.mod_lt _ hs
  rw [getElem!_pos cs _ hlt]
  exact h _ (by simp)
theorem zero_size {n : Nat} {cs : Array Value} : (Builtin.zeroCells cs n).toList.length = n * cs.size := by
  simp [Builtin.zeroCells]
/-- clear: what stands ahead stays -/
theorem clear_run {t e ty T : TypeId} {i : TypeInfo} {z : Value} {b off n c : Nat} {cur : Array Value} (ht : P.underlying t = some (.slice e)) (hi : P.info? e = some i) (hz : i.zero = some z) (hs : 0 < z.cells.size) (h1 : ∀ v ∈ z.cells.toList, v.oneCell' = true)
    (hb : w.heap[b]? = some (.cells cur T (0, 0))) (hfit : off + n * z.cells.size ≤ cur.size) :
    ∃ cur', (Builtin.clear_ #[t] ty #[.slice (some ⟨b, off, none⟩) n c]).run P w = .ok (.tuple #[]) (w.setRow b cur') ∧ cur'.toList.take off = cur.toList.take off ∧ cur'.size = cur.size := by
  cases n with
  | zero =>
    refine ⟨cur, ?_, rfl, rfl⟩
    rw [setRow_self w b cur T (0, 0) hb]
    simp [Builtin.clear_, run_underlying ht]
  | succ n =>
    have hl := zero_size (n := n + 1) (cs := z.cells)
    have hst := run_storeCells_at P b off T (Builtin.zeroCells z.cells (n + 1)).toList 0 cur w hb (by rw [hl]; simpa using hfit) (zero_one h1 hs)
    simp only [Nat.add_zero] at hst
    refine ⟨(cur.toList.take off ++ (Builtin.zeroCells z.cells (n + 1)).toList ++ cur.toList.drop (off + (Builtin.zeroCells z.cells (n + 1)).toList.length)).toArray, ?_, ?_, ?_⟩
    · simp [Builtin.clear_, run_underlying ht, zero_cells hi hz, hst]
    · simp only [List.toList_toArray]
      rw [List.append_assoc, List.take_append_of_le_length (by simp; omega), List.take_take, Nat.min_self]
    · simp only [List.size_toArray, List.length_append, List.length_take, List.length_drop, hl, Array.length_toList]
      omega
theorem step_append_run {ops : Array Oper} {o : Oper} {a : Act} {K : Act → World → Prop} {Q : Exit → Act → World → Prop} {E : Prop}
    (hg : o.guard = none) (d x : Operand) (dT sT : TypeId) (hop : o.op = Op.call { callee := Callee.builtin Builtin.append, args := #[d, x], argTypes := #[dT, sT] })
    (v u : Value) (hd : a.eval d = v) (hx : a.eval x = u) {v' : Value} {w' : World} (hr : (Builtin.append_ #[dT, sT] o.type #[v, u]).run P w = .ok v' w') (hK : K (a.put o.dst v') w') :
    if Region.wanted o (yielded ops a.tmps) = true then Oper.wp P o a w K Q else E := by
  have hw : Region.wanted o (yielded ops a.tmps) = true := by simp [Region.wanted, hg]
  rw [if_pos hw]
  unfold Oper.wp
  simp [execOp, hop, resolve, invoke, builtin, hd, hx, hr, Result.andThen]
  exact hK
theorem append_in {t ty e T : TypeId} {i : TypeInfo} {g sLen sCap m c : Nat} {A : Option Addr} {cur : Array Value} {news : List Value} (ht : P.underlying t = some (.slice e)) (hi : P.info? e = some i) (hg : w.heap[g]? = some (.cells cur T (0, 0)))
    (hl : news.length = m * i.size) (hA : A = none → news = []) (hn : ∀ ad, A = some ad → ∀ j v, news[j]? = some v → w.cell? (ad.add j) = some v) (h1 : ∀ u ∈ news, u.oneCell' = true) (hroom : sLen + m ≤ sCap) (hfit : sLen * i.size + news.length ≤ cur.size) :
    (Builtin.append_ #[t, t] ty #[.slice (some ⟨g, 0, none⟩) sLen sCap, .slice A m c]).run P w =
      .ok (.slice (some ⟨g, 0, none⟩) (sLen + m) sCap) (w.setRow g (cur.toList.take (sLen * i.size) ++ news ++ cur.toList.drop (sLen * i.size + news.length)).toArray) := by
  have hf := firstCells_of (P := P) (w := w) (len := m) (cap := c) hl hA hn
  have hst := run_storeCells_at P g (sLen * i.size) T news 0 cur w hg (by simpa using hfit) h1
  simp only [Nat.add_zero] at hst
  have hadd : (⟨g, 0, none⟩ : Addr).add (sLen * i.size) = ⟨g, sLen * i.size, none⟩ := by rw [add_none, Nat.zero_add]
  simp [Builtin.append_, run_underlying ht, sizeOf, typeInfo, hi, Builtin.lenOf, hroom, hf, hadd, hst]
end
theorem RdL.len' {S : Nat → Prop} {w : World} {t : Ty} (hf : flatT t = true) {l : List (El t)} {us : List Value} (h : RdL S w t l us) : us.length = l.length * sz t := by
  rw [RdL_enc hf h]; exact flatMap_len _ _ (fun x => encT_len x hf) l
theorem flat_take {t : Ty} (hf : flatT t = true) : ∀ (l : List (El t)) (i : Nat), (l.flatMap (encT t)).take (i * sz t) = (l.take i).flatMap (encT t)
  | [], i => by simp
  | x :: l, 0 => by simp
  | x :: l, i + 1 => by
    have hx := encT_len x hf
    rw [List.flatMap_cons, List.take_succ_cons, List.flatMap_cons, show (i + 1) * sz t = (encT t x).length + i * sz t by rw [hx, Nat.add_mul, Nat.one_mul, Nat.add_comm], List.take_length_add_append, flat_take hf l i]
theorem flat_drop {t : Ty} (hf : flatT t = true) : ∀ (l : List (El t)) (i : Nat), (l.flatMap (encT t)).drop (i * sz t) = (l.drop i).flatMap (encT t)
  | [], i => by simp
  | x :: l, 0 => by simp
  | x :: l, i + 1 => by
    have hx := encT_len x hf
    rw [List.flatMap_cons, List.drop_succ_cons, show (i + 1) * sz t = (encT t x).length + i * sz t by rw [hx, Nat.add_mul, Nat.one_mul, Nat.add_comm], List.drop_length_add_append, flat_drop hf l i]
/-- slices.Delete, as a call that turns its array. -/
theorem delete_has {D : Cx} {P : Program} {g : FuncId} {t : Ty} {T e : TypeId} {zl : List AV} (hf : flatT t = true) (hT : P.underlying T = some (.slice e)) (hsz0 : szT P e = some (sz t)) (hz0 : zeroAV P e = some zl) (hzl : zl.length = sz t) (hza : allOne zl = true)
    (h0 : ∀ (A : Option Addr) (n c i : Nat) (w : World), i ≤ n → n ≤ c → c ≤ 9223372036854775807 → Calls P g #[.slice A n c, .int .i64 i, .int .i64 i] w fun e w' => e = .returned (.slice A n c) ∧ w' = w)
    (h1 : ∀ (b n c i j : Nat) (w W1 W2 : World), i < j → j ≤ n → n ≤ c → c ≤ 9223372036854775807 →
      (∀ ty, (Builtin.append_ #[T, T] ty #[.slice (some ⟨b, 0, none⟩) i c, .slice (if c = j then some ⟨b, 0, none⟩ else some ⟨b, 0 + j * sz t, none⟩) (n - j) (c - j)]).run P w.drew = .ok (.slice (some ⟨b, 0, none⟩) (i + (n - j)) c) W1) →
      (∀ ty, (Builtin.clear_ #[T] ty #[.slice (some ⟨b, (i + (n - j)) * sz t, none⟩) (n - (i + (n - j))) (c - (i + (n - j)))]).run P W1 = .ok (.tuple #[]) W2) →
      Calls P g #[.slice (some ⟨b, 0, none⟩) n c, .int .i64 i, .int .i64 j] w fun e w' => e = .returned (.slice (some ⟨b, 0, none⟩) (i + (n - j)) c) ∧ w' = W2)
    {l : List (El t)} {i j : Nat} (hij : i ≤ j) (hj : j ≤ l.length) : WHas D P g t l (l.take i ++ l.drop j) [I .i64 i, I .i64 j] true := by
  obtain ⟨inf, z, hi, hz, hzz⟩ := zeroAV_eq hz0
  have hsz : inf.size = sz t := by
    unfold szT at hsz0
    rw [hi] at hsz0
    exact Option.some.inj hsz0
  have hzs : z.cells.size = sz t := by
    rw [← hzl, hzz, List.length_map, Array.length_toList]
  have hz1 : ∀ v ∈ z.cells.toList, v.oneCell' = true := by
    subst hzz
    exact all_of (μ := fun _ => undef) (S := fun _ => False) (w := default) (vs_sc z.cells.toList) hza
  intro S w v vals e' hS hB hvS hV _ _
  obtain ⟨x1, r1, rfl, v1, x2, r2, rfl, v2, v3⟩ := hV
  rw [VsOK] at v3
  subst v3
  have v1' : x1 = .int .i64 i := v1
  have v2' : x2 = .int .i64 j := v2
  subst v1' v2'
  by_cases e0 : i = j
  · subst e0
    rw [List.take_append_drop]
    have same : ∀ A c, v = .slice A l.length c → l.length ≤ c → c ≤ 9223372036854775807 → Calls P g (v :: [.int .i64 i, .int .i64 i]).toArray w fun ex w' => ∃ v' S', ex = .returned v' ∧ (true = false → v' = v) ∧ BelBut D v w w' ∧ (∀ b, S b → S' b) ∧ (∀ b, S' b → (S b ∨ w.heap.size ≤ b) ∧ b < w'.heap.size) ∧
      BOK (fun _ => v') S' w' 0 (.arr e' t l) ∧ ∀ b, bof v' = some b → (bof v = some b ∨ w.heap.size ≤ b) ∧ ¬ S' b := by
      intro A c hv h2 h3
      subst hv
      refine (h0 A l.length c i w hj h2 h3).mono ?_
      rintro ex w' ⟨rfl, rfl⟩
      exact ⟨_, S, rfl, fun _ => rfl, ⟨rfl, rfl, rfl, Nat.le_refl _, fun _ => Nat.le_refl _, fun _ _ _ => rfl⟩, fun b h => h, fun b h => ⟨.inl h, hS b h⟩, hB, fun b hb => ⟨.inl hb, hvS b hb⟩⟩
    have hB' := hB
    rcases hB' with ⟨A, q1, q2⟩ | ⟨b, c, us, rest, q1, q2, q3, q4, q5, q6⟩
    · have q1' : v = .slice A 0 0 := q1
      exact same A 0 (by rw [q2]; exact q1') (by rw [q2]; exact Nat.le_refl _) (by omega)
    · exact same _ _ q1 q2 (by unfold maxLen at q3; omega)
  · have hlt : i < j := by omega
    rcases hB with ⟨A, q1, q2⟩ | ⟨b, c, us, rest, q1, q2, q3, q4, q5, q6⟩
    · rw [q2] at hj; simp at hj; omega
    · have q1' : v = .slice (some ⟨b, 0, none⟩) l.length (c + 1) := q1
      subst q1'
      have hb : b < w.heap.size := (Array.getElem?_eq_some_iff.1 q4).1
      have k0 := sz_pos t
      have hul := RdL.len' hf q6
      have hue := RdL_enc hf q6
      have hd4 : w.drew.heap[b]? = some (.cells (us ++ rest).toArray e' (0, 0)) := q4
      obtain ⟨news, hnews⟩ : ∃ news, news = us.drop (j * sz t) := ⟨_, rfl⟩
      have hnl : news.length = (l.length - j) * sz t := by rw [hnews, List.length_drop, hul, Nat.sub_mul]
      have hmono : j * sz t ≤ l.length * sz t := Nat.mul_le_mul_right _ hj
      have himono : i * sz t ≤ j * sz t := Nat.mul_le_mul_right _ (Nat.le_of_lt hlt)
      have hcells := cellsAt_heap hd4
      have hone : ∀ u ∈ us, u.oneCell' = true := by
        intro u hu
        rw [hue] at hu
        obtain ⟨x, _, hx⟩ := List.mem_flatMap.1 hu
        exact encT_one x u hx
      have ha : ∀ ty, (Builtin.append_ #[T, T] ty #[.slice (some ⟨b, 0, none⟩) i (c + 1), .slice (if c + 1 = j then some ⟨b, 0, none⟩ else some ⟨b, 0 + j * sz t, none⟩) (l.length - j) (c + 1 - j)]).run P w.drew = _ := fun ty =>
        append_in (w := w.drew) (ty := ty) hT hi hd4 (A := if c + 1 = j then some ⟨b, 0, none⟩ else some ⟨b, 0 + j * sz t, none⟩) (m := l.length - j) (c := c + 1 - j) (sLen := i) (sCap := c + 1) (news := news) (by rw [hnl, hsz]) (fun h => by split at h <;> cases h) (by
          intro ad had q u hq
          split at had
          · rename_i hcj
            have hlj : l.length - j = 0 := by omega
            rw [hlj, Nat.zero_mul] at hnl
            rw [List.length_eq_zero_iff.1 hnl] at hq
            simp at hq
          · cases had
            rw [add_none, Nat.zero_add]
            rw [hnews, List.getElem?_drop] at hq
            have := hcells (j * sz t + q) u (by
              rw [List.getElem?_append_left]
              · exact hq
              · exact (List.getElem?_eq_some_iff.1 hq).1)
            rwa [Nat.zero_add] at this) (fun u hu => hone u (List.mem_of_mem_drop (hnews ▸ hu))) (by omega) (by
          rw [hsz, hnl, ← Nat.add_mul]
          simp only [List.size_toArray, q5]
          exact Nat.mul_le_mul_right _ (by omega))
      rw [hsz] at ha
      obtain ⟨cur1, hcur1⟩ : ∃ cur1 : Array Value, cur1 = ((us ++ rest).toArray.toList.take (i * sz t) ++ news ++ (us ++ rest).toArray.toList.drop (i * sz t + news.length)).toArray := ⟨_, rfl⟩
      rw [← hcur1] at ha
      have hs1 : cur1.size = (c + 1) * sz t := by
        rw [hcur1]
        simp only [List.size_toArray, List.length_append, List.length_take, List.length_drop, hnl]
        rw [List.length_append] at q5
        have e1 : i * sz t + (l.length - j) * sz t ≤ us.length + rest.length := by
          rw [q5, ← Nat.add_mul]
          exact Nat.mul_le_mul_right _ (by omega)
        omega
      have hp1 : cur1.toList.take ((i + (l.length - j)) * sz t) = (l.take i ++ l.drop j).flatMap (encT t) := by
        rw [hcur1, List.toList_toArray, List.toList_toArray, Nat.add_mul]
        have e1 : ((us ++ rest).take (i * sz t) ++ news).length = i * sz t + (l.length - j) * sz t := by
          rw [List.length_append, hnl, List.length_take, Nat.min_eq_left]
          rw [List.length_append, hul]; omega
        rw [← e1, List.take_left, List.take_append_of_le_length (by rw [hul]; omega), hnews, hue, flat_take hf, flat_drop hf, List.flatMap_append]
      have hr1 : (w.drew.setRow b cur1).heap[b]? = some (.cells cur1 e' (0, 0)) := setRow_heap w.drew b _ _ _ _ hd4
      have hcl : ∃ cur2 : Array Value, (∀ ty, (Builtin.clear_ #[T] ty #[.slice (some ⟨b, (i + (l.length - j)) * sz t, none⟩) (l.length - (i + (l.length - j))) (c + 1 - (i + (l.length - j)))]).run P (w.drew.setRow b cur1) = .ok (.tuple #[]) ((w.drew.setRow b cur1).setRow b cur2)) ∧ cur2.toList.take ((i + (l.length - j)) * sz t) = cur1.toList.take ((i + (l.length - j)) * sz t) ∧ cur2.size = cur1.size := by
        obtain ⟨cur2, p1, p2, p3⟩ := clear_run (w := w.drew.setRow b cur1) (ty := 0) (n := l.length - (i + (l.length - j))) (c := c + 1 - (i + (l.length - j))) (off := (i + (l.length - j)) * sz t) hT hi hz (by omega) hz1 hr1 (by
          rw [hs1, hzs, ← Nat.add_mul]
          exact Nat.mul_le_mul_right _ (by omega))
        exact ⟨cur2, fun ty => p1, p2, p3⟩
      obtain ⟨cur2, p1, p2, p3⟩ := hcl
      refine (h1 b l.length (c + 1) i j w _ _ hlt hj q2 (by unfold maxLen at q3; omega) ha p1).mono ?_
      rintro ex w' ⟨rfl, rfl⟩
      have hlen : (l.take i ++ l.drop j).length = i + (l.length - j) := by
        rw [List.length_append, List.length_take, List.length_drop, Nat.min_eq_left (by omega)]
      have hheap : ((w.drew.setRow b cur1).setRow b cur2).heap[b]? = some (.cells cur2 e' (0, 0)) := setRow_heap _ b _ _ _ _ hr1
      refine ⟨.slice (some ⟨b, 0, none⟩) (i + (l.length - j)) (c + 1), S, rfl, fun h => (by cases h), ⟨rfl, rfl, rfl, by simp, fun _ => Nat.le_succ _, fun k hk hne => ?_⟩, fun b h => h, fun k h => ⟨.inl h, by simpa using hS k h⟩, .inr ⟨b, c, cur2.toList.take ((i + (l.length - j)) * sz t), cur2.toList.drop ((i + (l.length - j)) * sz t), by rw [hlen], by rw [hlen]; omega, q3, ?_, ?_, ?_⟩, fun k hk => ⟨.inl hk, hvS k hk⟩⟩
      · have hne' : k ≠ b := fun e => hne (by rw [e]; rfl)
        rw [setRow_other _ b k _ hne', setRow_other _ b k _ hne']
        rfl
      · rw [List.take_append_drop]; exact hheap
      · rw [List.take_append_drop, Array.length_toList, p3, hs1]
      · rw [p2, hp1]
        exact enc_RdL hf _
end Go.Proofs.YtigekmmdflaeaaaDoorE
