/- Rank: the library's DeleteFunc of keys by their number, as a plain function. -/
import Derived.Test.YtcnfilanbmkpaaaS03W45
import Derived.Test.YtcnfilanbmkpaaaEngI
import Derived.Lib.Slices
import Derived.Shelf.SlicesQ.Load
import Derived.Lib.Walk
set_option linter.all false
namespace Go.Proofs.YtcnfilanbmkpaaaE
open Go Go.Proofs Go.RowKit
set_option linter.unusedVariables false
/-- a world in which but one block, and what is new, is otherwise -/
structure Bb (D : Prop) (b : Nat) (w w' : World) : Prop where
  os : w'.os = w.os
  tape : w'.tape = w.tape
  output : w'.output = w.output
  size : w.heap.size ≤ w'.heap.size
  drawn : D → w.drawn ≤ w'.drawn
  block : ∀ k, k < w.heap.size → k ≠ b → w'.heap[k]? = w.heap[k]?
theorem Bb.refl {D : Prop} {b : Nat} (w : World) : Bb D b w w := ⟨rfl, rfl, rfl, Nat.le_refl _, fun _ => Nat.le_refl _, fun _ _ _ => rfl⟩
theorem Bb.bel {D : Prop} {b : Nat} {w w1 w2 : World} (h : Bb D b w w1) (k : Bel D w1 w2) : Bb D b w w2 :=
  ⟨k.os.trans h.os, k.tape.trans h.tape, k.output.trans h.output, Nat.le_trans h.size k.size, fun d => Nat.le_trans (h.drawn d) (k.drawn d), fun j hj hb => (k.block j (Nat.lt_of_lt_of_le hj h.size)).trans (h.block j hj hb)⟩
theorem Bb.alloc {D : Prop} {b : Nat} {w w1 : World} (h : Bb D b w w1) (o : Obj) : Bb D b w (w1.alloc o) :=
  ⟨h.os, h.tape, h.output, Nat.le_trans h.size (by simp), h.drawn, fun j hj hb => (heap_alloc_lt w1 o (Nat.lt_of_lt_of_le hj h.size)).trans (h.block j hj hb)⟩
theorem Bb.row {D : Prop} {b : Nat} {w w1 : World} (h : Bb D b w w1) (g : Nat) (cs : Array Value) (hg : g = b ∨ w.heap.size ≤ g) : Bb D b w (w1.setRow g cs) :=
  ⟨h.os, h.tape, h.output, Nat.le_trans h.size (by simp), h.drawn, fun j hj hb => (setRow_other w1 g j cs (by rcases hg with rfl | hg <;> omega)).trans (h.block j hj hb)⟩
theorem call47 {D : Prop} {S : Nat → Prop} {W : World} {cap : Value} {id : Int} {u : El T35} (hS : ∀ b, S b → b < W.heap.size) (hc : VOK (fun _ => undef) S W (.eptr (.int .u32) id 0) cap) :
    Calls Try.prog 47 #[.agg (encT T35 u).toArray, cap] W fun e w' => e = .returned (.bool (u.2.2 == id)) ∧ Bel D W w' := by
  have H : Has D Try.prog 47 [.agg (cellsOf T35 u), .eptr (.int .u32) id 0] dq47 (u.2.2 == id) := has_of (cok47 1) Try.func47 ((ev47 1 u id).trans rfl)
  refine (H S W [.agg (encT T35 u).toArray, cap] hS ⟨_, _, rfl, ⟨_, rfl, Rd.cells (enc_Rd u rfl)⟩, _, _, rfl, hc, rfl⟩).mono ?_
  rintro e w' ⟨v, u', S', rfl, hb, _, _, hv, _⟩
  have hv' : v = .bool (u.2.2 == id) := hv 0
  exact ⟨by rw [hv'], hb⟩
theorem set_flat {t : Ty} (hf : flatT t = true) (ys : List (El t)) (i : Nat) (u : El t) (rest : List Value) (hi : i < ys.length) :
    (ys.flatMap (encT t) ++ rest).take (i * sz t) ++ encT t u ++ (ys.flatMap (encT t) ++ rest).drop (i * sz t + (encT t u).length) = (ys.set i u).flatMap (encT t) ++ rest := by
  have hfl : (ys.flatMap (encT t)).length = ys.length * sz t := flatMap_len _ _ (fun x => encT_len x hf) ys
  have h1 : (i + 1) * sz t ≤ ys.length * sz t := Nat.mul_le_mul_right _ hi
  have h2 : i * sz t + (encT t u).length = (i + 1) * sz t := by rw [encT_len u hf, Nat.add_mul, Nat.one_mul]
  have h3 : i * sz t ≤ (i + 1) * sz t := Nat.mul_le_mul_right _ (Nat.le_succ i)
  rw [h2, List.take_append_of_le_length (by omega), List.drop_append_of_le_length (by omega), flat_take hf, flat_drop hf, List.set_eq_take_append_cons_drop, if_pos hi, List.flatMap_append, List.flatMap_cons]
  simp
def keepK (id : Int) (u : El T35) : Bool := !(u.2.2 == id)
set_option maxHeartbeats 4000000 in
set_option maxRecDepth 100000 in
theorem del46 {D : Prop} (b n c : Nat) (w : World) (id : Int) (cap : Value) (l : List (El T35)) (rest : List Value) (e : TypeId) (hl : l.length = n) (hnc : n ≤ c) (hc63 : c ≤ 9223372036854775807) (hq : w.heap[b]? = some (.cells (l.flatMap (encT T35) ++ rest).toArray e (0, 0)))
    (k : Nat) (hidx : Calls Try.prog 54 #[.slice (some ⟨b, 0, none⟩) n c, .func (.func 47) #[] #[cap]] w fun e w' => e = .returned (.int .i64 k) ∧ Bel D w w')
    (hcl : ∀ (W : World) (u : El T35), Bb D b w W → Calls Try.prog 47 #[.agg (encT T35 u).toArray, cap] W fun e w' => e = .returned (.bool (u.2.2 == id)) ∧ Bel D W w')
    (hk : k < n) (hkd : ∀ u, l[k]? = some u → keepK id u = false) (hkk : (l.take k).filter (keepK id) = l.take k) :
    Calls Try.prog 46 #[.slice (some ⟨b, 0, none⟩) n c, .func (.func 47) #[] #[cap]] w fun ex w' => ex = .returned (.slice (some ⟨b, 0, none⟩) (l.filter (keepK id)).length c) ∧ Bb D b w w' ∧ ∃ cur : List Value, w'.heap[b]? = some (.cells ((l.filter (keepK id)).flatMap (encT T35) ++ cur).toArray e (0, 0)) ∧ ((l.filter (keepK id)).flatMap (encT T35) ++ cur).length = (l.flatMap (encT T35) ++ rest).length := by
  have mixed : Try.prog.follows .mixedOrders = true := by kernel_rfl
  have u22 := run_underlying (w := w) Try.underlying22
  have a35 := Try.isAgg35
  obtain ⟨kk, KK⟩ : ∃ kk : Nat, Hid (kk = 3) := ⟨3, rfl⟩
  have z35 : ∀ w, (Go.sizeOf 35).run Try.prog w = .ok kk w := by rw [KK.out]; exact Try.sizeOf35
  have v35 := Try.zeroValue35
  have e54 : ∀ args w, (callFunc 54 args).run Try.prog w = .ok (.enter 54 args) w := fun args w => ent54 args w
  have e47 : ∀ args w, (callFunc 47 args).run Try.prog w = .ok (.enter 47 args) w := fun args w => ent47 args w
  have hne1 : ((k : Int) == -1) = false := beq_eq_false_iff_ne.2 (by omega)
  have HQ : Aside (w.heap[b]? = some (.cells (l.flatMap (encT T35) ++ rest).toArray e (0, 0))) := hq
  have HC : Aside _ := hcl
  have HK : Aside (∀ u, l[k]? = some u → keepK id u = false) := hkd
  have HKK : Aside ((l.take k).filter (keepK id) = l.take k) := hkk
  have HL : Aside (l.length = n) := hl
  clear hq hcl hkd hkk hl
  go_enter Try.func46, Try.ntmps46
  go_wp2_with (go_at_fn 54; refine hidx.mono ?_; rintro e w' ⟨rfl, hb'⟩)
  go_loopg [5, 6, 7] n (fun gg s5 s6 _ wr => ∃ (i j : Nat) (ys : List (El T35)), s5 = .int .i64 i ∧ s6 = .int .i64 j ∧ i < j ∧ j ≤ n ∧ n - j ≤ gg ∧ Aside (ys.length = n ∧ ys.take i = (l.take j).filter (keepK id) ∧ ys.drop j = l.drop j) ∧ Aside (Bb D b w wr) ∧ Aside (wr.heap[b]? = some (.cells (ys.flatMap (encT T35) ++ rest).toArray e (0, 0))))
  case atStart =>
    have hbw : b < w.heap.size := (Array.getElem?_eq_some_iff.1 HQ.out).1
    refine ⟨k, k + 1, l, rfl, by go_num, by omega, by omega, by omega, (show Aside _ from ⟨HL.out, ?_, rfl⟩), (show Aside _ from (Bb.refl w).bel hb'), (show Aside _ from (hb'.block b hbw).trans HQ.out)⟩
    have hkl : k < l.length := by rw [HL.out]; exact hk
    rw [List.take_succ_eq_append_getElem hkl, List.filter_append, HKK.out]
    have := HK.out l[k] (List.getElem?_eq_getElem hkl)
    simp [this]
  case round =>
    obtain ⟨i, j, ys, rfl, rfl, hij, hjn, hgg, hys, hbb, hqq⟩ := hrel
    by_cases hlt : j < n
    · have hltz : (j : Int) < (n : Int) := by omega
      obtain ⟨u, hu⟩ : ∃ u : El T35, Aside (l[j]? = some u) := ⟨l[j]'(by rw [HL.out]; exact hlt), List.getElem?_eq_getElem _⟩
      have hu0 : ys[j]? = some u := by
        have h1 := hys.out.2.2
        have h2 : (ys.drop j)[0]? = (l.drop j)[0]? := by rw [h1]
        rw [List.getElem?_drop, List.getElem?_drop, Nat.add_zero] at h2
        rw [h2]; exact hu.out
      obtain ⟨cs, hcs⟩ : ∃ cs : List Value, Hid (cs = encT T35 u) := ⟨_, rfl⟩
      have hcl3 : cs.length = 3 := by rw [hcs.out]; rfl
      have hcs1 : ∀ v ∈ cs, v.oneCell' = true := by rw [hcs.out]; exact encT_one u
      have hcs1' := hcs1
      have hyl : ys.length = n := hys.out.1
      have hfl : (ys.flatMap (encT T35)).length = n * 3 := by rw [flatMap_len _ 3 (fun x => rfl), hyl]
      have hbw : b < wr.heap.size := (Array.getElem?_eq_some_iff.1 hqq.out).1
      have hget : ∀ q v, cs[q]? = some v → (ys.flatMap (encT T35))[j * 3 + q]? = some v := fun q v hv => by
        obtain ⟨c2, g1, g2⟩ := RdL.get (t := T35) (enc_RdL (S := fun _ => False) (w := wr) rfl ys) hu0
        have := Rd_enc rfl g1
        rw [hcs.out, ← this] at hv
        exact g2 q v hv
      have l2 : Sem.run Try.prog (loadCellsFrom ⟨b, j * kk, none⟩ 0 kk #[]) wr = .ok cs.toArray wr := by
        rw [KK.out]
        exact run_loadCellsFrom_list Try.prog _ _ cs 3 hcl3 (fun q v hv => by
          rw [add_none]
          have := cellsAt_heap hqq.out (j * 3 + q) v (by
            rw [List.getElem?_append_left]
            · exact hget q v hv
            · have := (List.getElem?_eq_some_iff.1 (hget q v hv)).1; exact this)
          rwa [Nat.zero_add] at this)
      obtain ⟨nb, hnb⟩ : ∃ nb, nb = wr.heap.size := ⟨_, rfl⟩
      obtain ⟨W1, hW1⟩ : ∃ W1, W1 = wr.alloc (.cells #[.int .i64 0, .int .i64 0, .int .u32 0] 35) := ⟨_, rfl⟩
      have hn1 : W1.heap[nb]? = some (.cells #[.int .i64 0, .int .i64 0, .int .u32 0] 35 (0, 0)) := by rw [hW1, hnb]; exact heap_alloc_new wr _
      obtain ⟨W2, hW2⟩ : ∃ W2, W2 = W1.setRow nb cs.toArray := ⟨_, rfl⟩
      have s1 : Sem.run Try.prog (storeCells ⟨nb, 0, none⟩ cs 0) W1 = .ok () W2 := by
        have := run_storeCells_at Try.prog nb 0 35 cs 0 _ W1 hn1 (by rw [hcl3]; simp) hcs1
        rw [this, hW2]
        congr 3
        simp [hcl3]
      have hn2 : W2.heap[nb]? = some (.cells cs.toArray 35 (0, 0)) := by rw [hW2]; exact setRow_heap _ _ _ _ _ _ hn1
      have l3 : ∀ W : World, W.heap[nb]? = some (.cells cs.toArray 35 (0, 0)) → Sem.run Try.prog (loadCellsFrom ⟨nb, 0, none⟩ 0 kk #[]) W = .ok cs.toArray W := fun W hW => by
        rw [KK.out]
        exact run_loadCellsFrom_list Try.prog _ _ cs 3 hcl3 (fun q v hv => by
          rw [add_none]
          exact cellsAt_heap hW q v hv)
      have l4 := l3 W2 hn2
      have B2 : Aside (Bb D b w W2) := by
        show Bb D b w W2
        rw [hW2, hW1, hnb]
        exact (hbb.out.alloc _).row _ _ (.inr hbb.out.size)
      have hck : cs.length = kk := by rw [hcl3, KK.out]
      have hcall := HC.out W2 u B2.out
      rw [← hcs.out] at hcall
      rw [hnb, hW1] at s1
      rw [hnb] at l4
      have hq2 : Aside (W2.heap[b]? = some (.cells (ys.flatMap (encT T35) ++ rest).toArray e (0, 0))) := by
        show W2.heap[b]? = _
        rw [hW2, setRow_other _ _ _ _ (by rw [hnb]; omega), hW1, heap_alloc_lt _ _ hbw]
        exact hqq.out
      have L3 : Aside _ := l3
      have N2 : Aside (W2.heap[nb]? = some (.cells cs.toArray 35 (0, 0))) := hn2
      have NB : Aside (nb = wr.heap.size) := hnb
      clear l3 hn2 hnb hn1 hW1 hW2 hbw hget hfl hcs1 hu0 hyl
      have CSO : Aside (∀ v ∈ cs, v.oneCell' = true) := hcs1'
      cases hqv : (u.2.2 == id) with
      | true =>
        rw [hqv] at hcall
        go_wp2_with (go_at_fn 47; refine hcall.mono ?_; rintro e w' ⟨rfl, hb2⟩)
        go_roundg (n - (j + 1))
        case measure => omega
        case rel =>
          refine ⟨i, j + 1, ys, rfl, by go_num, by omega, by omega, by omega, (show Aside _ from ⟨hys.out.1, ?_, ?_⟩), (show Aside _ from B2.out.bel hb2), (show Aside _ from ?_)⟩
          · have hjl : j < l.length := by rw [HL.out]; exact hlt
            have hju : l[j] = u := by
              have := hu.out
              rw [List.getElem?_eq_getElem hjl] at this
              exact Option.some.inj this
            rw [List.take_succ_eq_append_getElem hjl, List.filter_append, hju, hys.out.2.1]
            simp [keepK, hqv]
          · rw [← List.drop_drop, ← List.drop_drop, hys.out.2.2]
          · exact (hb2.block b (Array.getElem?_eq_some_iff.1 hq2.out).1).trans hq2.out
      | false =>
        rw [hqv] at hcall
        have IJ : i < n := by omega
        have NBw : wr.heap.size < W2.heap.size := by
          have := (Array.getElem?_eq_some_iff.1 N2.out).1
          rw [NB.out] at this
          exact this
        have nxt : ∀ w', Bel D W2 w' → ∃ W6, Sem.run Try.prog (loadCellsFrom ⟨wr.heap.size, 0, none⟩ 0 kk #[]) w' = .ok cs.toArray w' ∧ Sem.run Try.prog (storeCells ⟨b, i * kk, none⟩ cs 0) w' = .ok () W6 ∧ Aside (Bb D b w W6 ∧ W6.heap[b]? = some (.cells ((ys.set i u).flatMap (encT T35) ++ rest).toArray e (0, 0))) := fun w' hb2 => by
          have h1 : w'.heap[b]? = some (.cells (ys.flatMap (encT T35) ++ rest).toArray e (0, 0)) := (hb2.block b (Array.getElem?_eq_some_iff.1 hq2.out).1).trans hq2.out
          have h2 : w'.heap[nb]? = some (.cells cs.toArray 35 (0, 0)) := (hb2.block nb (Array.getElem?_eq_some_iff.1 N2.out).1).trans N2.out
          have hfl : (ys.flatMap (encT T35)).length = n * 3 := by rw [flatMap_len _ 3 (fun x => rfl), hys.out.1]
          have h3 := run_storeCells_at Try.prog b (i * 3) e cs 0 _ w' h1 (by rw [hcl3]; simp only [List.size_toArray, List.length_append, hfl]; omega) CSO.out
          simp only [Nat.add_zero] at h3
          refine ⟨_, by rw [← NB.out]; exact L3.out w' h2, by rw [KK.out]; exact h3, (show Aside _ from ⟨(B2.out.bel hb2).row _ _ (.inl rfl), ?_⟩)⟩
          rw [setRow_heap _ _ _ _ _ _ h1]
          congr 3
          rw [hcs.out]
          exact set_flat rfl ys i u rest (by rw [hys.out.1]; exact IJ)
        have NX : Aside _ := nxt
        clear nxt
        go_wp2_with (go_at_fn 47; refine hcall.mono ?_; rintro e w' ⟨rfl, hb2⟩; obtain ⟨W6, l5, s5, hW6⟩ := NX.out w' hb2)
        go_roundg (n - (j + 1))
        case measure => omega
        case rel =>
          refine ⟨i + 1, j + 1, ys.set i u, by go_num, by go_num, by omega, by omega, by omega, (show Aside _ from ⟨by rw [List.length_set]; exact hys.out.1, ?_, ?_⟩), (show Aside _ from hW6.out.1), (show Aside _ from hW6.out.2)⟩
          · have hjl : j < l.length := by rw [HL.out]; exact hlt
            have hju : l[j] = u := by
              have := hu.out
              rw [List.getElem?_eq_getElem hjl] at this
              exact Option.some.inj this
            have hiy : i < ys.length := by rw [hys.out.1]; exact IJ
            rw [List.take_succ_eq_append_getElem hjl, List.filter_append, hju, List.take_succ_eq_append_getElem (by rw [List.length_set]; exact hiy), List.take_set, List.getElem_set_self, List.set_eq_of_length_le (by rw [List.length_take]; omega), hys.out.2.1]
            simp [keepK, hqv]
          · rw [List.drop_set_of_lt (by omega), ← List.drop_drop, ← List.drop_drop, hys.out.2.2]
    · have hjn' : j = n := by omega
      subst hjn'
      have hltz : ¬ (j : Int) < (j : Int) := by omega
      have hci : ¬ (c = i) := by omega
      have hfl : (ys.flatMap (encT T35)).length = j * 3 := by rw [flatMap_len _ 3 (fun x => rfl), hys.out.1]
      obtain ⟨inf, z, hin, hz, hzz⟩ := zeroAV_eq (P := Try.prog) (T := 35) (z := cellsOf T35 (zEl T35)) (by kernel_rfl)
      have hzs : z.cells.size = 3 := by
        have : (cellsOf T35 (zEl T35)).length = 3 := rfl
        rw [← this, hzz, List.length_map, Array.length_toList]
      have hz1 : ∀ v ∈ z.cells.toList, v.oneCell' = true := by
        have hza : allOne (cellsOf T35 (zEl T35)) = true := rfl
        rw [hzz] at hza
        exact all_of (μ := fun _ => undef) (S := fun _ => False) (w := default) (vs_sc z.cells.toList) hza
      obtain ⟨cur', p1, p2, p3⟩ := clear_run (P := Try.prog) (w := wr) (ty := 0) (n := j - i) (c := c - i) (off := i * 3) Try.underlying22 hin hz (by omega) hz1 hqq.out (by
        rw [hzs]
        simp only [List.size_toArray, List.length_append, hfl]
        omega)
      obtain ⟨W7, hW7⟩ : ∃ W7, Aside (W7 = wr.setRow b cur') := ⟨_, rfl⟩
      rw [← hW7.out] at p1
      have hcl : ∀ ty, (Builtin.clear_ #[22] ty #[.slice (some ⟨b, i * kk, none⟩) (j - i) (c - i)]).run Try.prog wr = .ok (.tuple #[]) W7 := fun ty => by rw [KK.out]; exact p1
      have P2 : Aside (cur'.toList.take (i * 3) = (ys.flatMap (encT T35) ++ rest).take (i * 3)) := p2
      have P3 : Aside (cur'.size = (ys.flatMap (encT T35) ++ rest).toArray.size) := p3
      have FL : Aside ((ys.flatMap (encT T35)).length = j * 3) := hfl
      have hij2 : i ≤ j := by omega
      clear p1 p2 p3 hfl hzs hz1 hin hz hzz
      go_wp2
      go_ret
      have hfi : l.filter (keepK id) = ys.take i := by
        rw [hys.out.2.1, ← HL.out, List.take_length]
      have hli : (ys.take i).length = i := by rw [List.length_take, hys.out.1]; omega
      rw [hfi, hli]
      have hte : (ys.take i).flatMap (encT T35) = (ys.flatMap (encT T35)).take (i * 3) := (flat_take (t := T35) rfl ys i).symm
      have hp : cur'.toList.take (i * 3) = (ys.take i).flatMap (encT T35) := by
        rw [P2.out, hte, List.take_append_of_le_length (by rw [FL.out]; omega)]
      refine ⟨rfl, ?_, cur'.toList.drop (i * 3), ?_, ?_⟩
      · rw [hW7.out]; exact hbb.out.row _ _ (.inl rfl)
      · rw [hW7.out, ← hp, List.take_append_drop]
        exact setRow_heap _ _ _ _ _ _ hqq.out
      · have hL : (l.flatMap (encT T35)).length = j * 3 := by rw [flatMap_len _ 3 (fun x => rfl), HL.out]
        have h9 : ((ys.take i).flatMap (encT T35) ++ cur'.toList.drop (i * 3)).length = (l.flatMap (encT T35) ++ rest).length := by
          rw [← hp, List.take_append_drop, Array.length_toList, P3.out, List.size_toArray, List.length_append, List.length_append, FL.out, hL]
        simpa using h9
set_option maxHeartbeats 4000000 in
set_option maxRecDepth 100000 in
theorem del46_none {D : Prop} (A : Option Addr) (n c : Nat) (w : World) (cap : Value) (hidx : Calls Try.prog 54 #[.slice A n c, .func (.func 47) #[] #[cap]] w fun e w' => e = .returned (.int .i64 (-1)) ∧ Bel D w w') :
    Calls Try.prog 46 #[.slice A n c, .func (.func 47) #[] #[cap]] w fun ex w' => ex = .returned (.slice A n c) ∧ Bel D w w' := by
  have mixed : Try.prog.follows .mixedOrders = true := by kernel_rfl
  have e54 : ∀ args w, (callFunc 54 args).run Try.prog w = .ok (.enter 54 args) w := fun args w => ent54 args w
  go_enter Try.func46, Try.ntmps46
  go_wp2_with (go_at_fn 54; refine hidx.mono ?_; rintro e w' ⟨rfl, hb'⟩)
  go_ret
  exact ⟨rfl, hb'⟩
theorem idx54 {K : Nat} {l : List (El T35)} {id : Int} (hl : l.length ≤ maxLen) : ∀ (n k : Nat), l.length - k < n → k ≤ l.length →
    (∃ j : Nat, k ≤ j ∧ j < l.length ∧ L54_0 (F47 K) K l id n (k : Int) = some (j : Int) ∧ (∀ u, l[j]? = some u → keepK id u = false) ∧ ∀ q, k ≤ q → q < j → ∀ u, l[q]? = some u → keepK id u = true) ∨
    (L54_0 (F47 K) K l id n (k : Int) = some (-1) ∧ ∀ q, k ≤ q → ∀ u, l[q]? = some u → keepK id u = true)
  | 0, k, h, _ => by omega
  | n + 1, k, h, hk => by
    unfold maxLen at hl
    by_cases hlt : k < l.length
    · have hg : l.getD ((k : Int)).toNat (zEl T35) = l[k] := by rw [Int.toNat_natCast, List.getD_eq_getElem?_getD, List.getElem?_eq_getElem hlt]; rfl
      have hw : IntKind.i64.wrap ((k : Int) + 1) = ((k + 1 : Nat) : Int) := by rw [IntKind.wrap_i64]; omega
      have c1 : decide ((k : Int) < (l.length : Int)) = true := decide_eq_true (by omega)
      have c2 : decide ((0 : Int) ≤ (k : Int) ∧ (k : Int) < (l.length : Int)) = true := decide_eq_true (by omega)
      have e : L54_0 (F47 K) K l id (n + 1) (k : Int) = if (l[k].2.2 == id) = true then some (k : Int) else L54_0 (F47 K) K l id n ((k + 1 : Nat) : Int) := by
        rw [show L54_0 (F47 K) K l id (n + 1) (k : Int) = b54_0 (F47 K) K l id (L54_0 (F47 K) K l id n) (k : Int) from rfl]
        unfold b54_0
        rw [if_pos c1, if_pos c2, hg, hw]
        rfl
      rw [e]
      have hone : ∀ u, l[k]? = some u → keepK id u = !(l[k].2.2 == id) := fun u hu => by
        rw [List.getElem?_eq_getElem hlt] at hu
        cases hu
        rfl
      by_cases hc : (l[k].2.2 == id) = true
      · rw [if_pos hc]
        exact .inl ⟨k, Nat.le_refl _, hlt, rfl, fun u hu => by rw [hone u hu, hc]; rfl, fun q h1 h2 => by omega⟩
      · rw [if_neg hc]
        have hc' : (l[k].2.2 == id) = false := by simpa using hc
        rcases idx54 (K := K) (id := id) (l := l) (by unfold maxLen; exact hl) n (k + 1) (by omega) hlt with ⟨j, h1, h2, h3, h4, h5⟩ | ⟨h3, h5⟩
        · refine .inl ⟨j, by omega, h2, h3, h4, fun q h6 h7 u hu => ?_⟩
          by_cases hq : q = k
          · subst hq; rw [hone u hu, hc']; rfl
          · exact h5 q (by omega) h7 u hu
        · refine .inr ⟨h3, fun q h6 u hu => ?_⟩
          by_cases hq : q = k
          · subst hq; rw [hone u hu, hc']; rfl
          · exact h5 q (by omega) u hu
    · have c1 : ¬ decide ((k : Int) < (l.length : Int)) = true := by rw [decide_eq_true_iff]; omega
      refine .inr ⟨?_, fun q h1 u hu => ?_⟩
      · rw [show L54_0 (F47 K) K l id (n + 1) (k : Int) = b54_0 (F47 K) K l id (L54_0 (F47 K) K l id n) (k : Int) from rfl]
        unfold b54_0
        rw [if_neg c1]
      · have := (List.getElem?_eq_some_iff.1 hu).1
        omega
theorem filter_all {α : Type} {p : α → Bool} {l : List α} (h : ∀ (q : Nat) u, l[q]? = some u → p u = true) : l.filter p = l := by
  rw [List.filter_eq_self]
  intro u hu
  obtain ⟨q, hq, rfl⟩ := List.mem_iff_getElem.1 hu
  exact h q _ (List.getElem?_eq_getElem hq)
noncomputable def F46 (K : Nat) (id : Int) (l : List (El T35)) : Option (List (El T35)) := some (l.filter (keepK id))
theorem ok46 {D : Prop} (K : Nat) : RowW D Try.prog 46 (rowW T35 ad46 (F46 K) true) := rowW_ok fun id l r h => by
  cases h
  intro S w v vals e hS hB hvS hV
  obtain ⟨fv, rs, rfl, ⟨us, rfl, cap, r2, rfl, hcap, h3⟩, h4⟩ := hV
  rw [VsOK] at h3 h4
  subst h3 h4
  have hlen : l.length ≤ maxLen := by
    rcases hB with ⟨A, _, q2⟩ | ⟨b, c, us, rest, q1, q2, q3, q4, q5, q6⟩
    · rw [q2]; exact Nat.zero_le _
    · exact Nat.le_trans q2 q3
  -- the search ahead
  have hS2 : ∀ k, (S k ∨ bof v = some k) → k < w.heap.size := by
    rintro k (hk | hk)
    · exact hS k hk
    · exact bof_lt (μ := fun _ => v) (id := 0) hB hk
  have hrow : Rd (fun k => S k ∨ bof v = some k) w (.sl T35) l [v] := arr_row hB
  have hcap2 : VOK (fun _ => undef) (fun k => S k ∨ bof v = some k) w (.eptr (.int .u32) id 0) cap := VOK.mono (fun _ h => .inl h) (Nat.le_refl _) (fun _ _ => rfl) hcap
  have hidx : ∀ i0, F54 (l.length + 1) l id = some i0 → Calls Try.prog 54 #[v, .func (.func 47) #[] #[cap]] w fun e w' => e = .returned (.int .i64 i0) ∧ Bel D w w' := fun i0 hi => by
    have H : Has D Try.prog 54 [.row T35 l, .fn 47 [.eptr (.int .u32) id 0]] dq54 i0 := has_of (cok54 (l.length + 1)) Try.func54 ((ev54 (F47 (l.length + 1)) (l.length + 1) l id).trans hi)
    refine (H _ w [v, .func (.func 47) #[] #[cap]] hS2 ⟨_, _, rfl, hrow, _, _, rfl, ⟨[cap], rfl, _, _, rfl, hcap2, rfl⟩, rfl⟩).mono ?_
    rintro ex w' ⟨v', u', S', rfl, hb, _, _, hv, _⟩
    have hv' : v' = .int .i64 i0 := hv 0
    exact ⟨by rw [hv'], hb⟩
  have e0 : F54 (l.length + 1) l id = L54_0 (F47 (l.length + 1)) (l.length + 1) l id (l.length + 1) ((0 : Nat) : Int) := rfl
  have same : (∀ (q : Nat) u, l[q]? = some u → keepK id u = true) → F54 (l.length + 1) l id = some (-1) → ∀ (A : Option Addr) (n c : Nat), v = .slice A n c →
      Calls Try.prog 46 #[v, .func (.func 47) #[] #[cap]] w fun ex w' => ∃ v' S', ex = .returned v' ∧ (true = false → v' = v) ∧ BelBut D v w w' ∧ (∀ b, S b → S' b) ∧ (∀ b, S' b → (S b ∨ w.heap.size ≤ b) ∧ b < w'.heap.size) ∧
        BOK (fun _ => v') S' w' 0 (.arr e T35 (l.filter (keepK id))) ∧ ∀ b, bof v' = some b → (bof v = some b ∨ w.heap.size ≤ b) ∧ ¬ S' b := by
    intro hall hm A n c hv
    rw [filter_all hall]
    have := hidx (-1) hm
    rw [hv] at this ⊢
    refine (del46_none A n c w cap this).mono ?_
    rintro ex w' ⟨rfl, hb⟩
    refine ⟨_, S, rfl, fun h => (by cases h), ⟨hb.os, hb.tape, hb.output, hb.size, hb.drawn, fun k hk _ => hb.block k hk⟩, fun b h => h, fun b h => ⟨.inl h, Nat.lt_of_lt_of_le (hS b h) hb.size⟩, ?_, fun b h => ⟨.inl h, ?_⟩⟩
    · rw [hv] at hB
      exact BOK.mono (μ := fun _ => Value.slice A n c) (id := 0) (fun _ h => h) hb.size (fun b h => hb.block b (hS b h)) (fun b h => hb.block b (bof_lt (μ := fun _ => .slice A n c) (id := 0) hB h)) hB
    · rw [hv] at hvS
      exact hvS b h
  rcases idx54 (K := l.length + 1) (id := id) hlen (l.length + 1) 0 (by omega) (Nat.zero_le _) with ⟨k, _, hk, h3, h5, h6⟩ | ⟨h3, h5⟩
  · rcases hB with ⟨A, q1, q2⟩ | ⟨b, c, us, rest, q1, q2, q3, q4, q5, q6⟩
    · rw [q2] at hk; simp at hk
    · have q1' : v = .slice (some ⟨b, 0, none⟩) l.length (c + 1) := q1
      subst q1'
      have hue := RdL_enc (t := T35) rfl q6
      rw [hue] at q4 q5
      have hnSb : ¬ S b := hvS b rfl
      refine (del46 b l.length (c + 1) w id cap l rest e rfl q2 (by unfold maxLen at q3; omega) q4 k (hidx _ (e0.trans h3)) (fun W u hW => call47 (S := S) (fun k hk => Nat.lt_of_lt_of_le (hS k hk) hW.size) (VOK.mono (fun _ h => h) hW.size (fun k hk => hW.block k (hS k hk) (fun e => hnSb (e ▸ hk))) hcap)) hk h5 (filter_all fun q u hu => ?_)).mono ?_
      · rw [List.getElem?_take] at hu
        split at hu
        · rename_i hq
          exact h6 q (Nat.zero_le _) hq u hu
        · cases hu
      · rintro ex w' ⟨rfl, hb, cur, g1, g2⟩
        have hfl : (l.filter (keepK id)).length ≤ l.length := List.length_filter_le _ _
        refine ⟨_, S, rfl, fun h => (by cases h), ⟨hb.os, hb.tape, hb.output, hb.size, hb.drawn, fun k hk hne => hb.block k hk (fun e => hne (by rw [e]; rfl))⟩, fun b h => h, fun b h => ⟨.inl h, Nat.lt_of_lt_of_le (hS b h) hb.size⟩, .inr ⟨b, c, _, cur, rfl, by omega, q3, g1, by rw [g2]; exact q5, enc_RdL rfl _⟩, fun k hk => ⟨.inl hk, hvS k hk⟩⟩
  · have hm : F54 (l.length + 1) l id = some (-1) := e0.trans h3
    have hall : ∀ (q : Nat) u, l[q]? = some u → keepK id u = true := fun q u hu => h5 q (Nat.zero_le _) u hu
    rcases hB with ⟨A, q1, q2⟩ | ⟨b, c, us, rest, q1, q2, q3, q4, q5, q6⟩
    · exact same hall hm A 0 0 q1
    · exact same hall hm _ _ _ q1
end Go.Proofs.YtcnfilanbmkpaaaE
