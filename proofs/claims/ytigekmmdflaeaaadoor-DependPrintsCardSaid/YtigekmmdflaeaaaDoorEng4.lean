/- The engine, part 4: all pure operations. -/
import Derived.Test.YtigekmmdflaeaaaDoorEng3
import Derived.Laws.Cells
set_option linter.all false
namespace Go.Proofs.YtigekmmdflaeaaaDoorE
open Go
set_option linter.unusedVariables false
section
variable {P : Program} {μ : Nat → Value} {S : Nat → Prop} {w : World}

theorem index_agg_ok {t e : TypeId} {len : Nat} {us : List Value} {k : IntKind} {n : Int} {s : Nat} {v : Value} {w' : World} (hu : P.underlying t = some (.array len e)) (hs : szT P e = some s) (h0 : 0 ≤ n) (h1 : n < len) (hp : (part e us.toArray (n.toNat * s)).run P w = .ok v w') :
    (Instr.index t (.agg us.toArray) (.int k n)).run P w = .ok v w' := by
  simp only [Instr.index, asIntOf, Sem.run_bind, Sem.run_pure, Result.andThen_ok, run_und hu, h0, h1, and_self, if_true, run_sz hs, hp]

theorem index_str_ok {t : TypeId} {s : ByteArray} {k : IntKind} {n : Int} (hu : P.underlying t = some .string) (h0 : 0 ≤ n) (h1 : n < s.size) :
    (Instr.index t (.string s) (.int k n)).run P w = .ok (.int .u8 (s.data.getD n.toNat 0).toNat) w := by
  have hlt : n.toNat < s.size := by omega
  have e : s[n.toNat]? = some s[n.toNat] := by simp [hlt]
  simp only [Instr.index, asIntOf, Sem.run_bind, Sem.run_pure, Result.andThen_ok, run_und hu, h0, if_true, e]
  have e2 : s.data.getD n.toNat 0 = s[n.toNat] := by
    rw [Array.getD_eq_getD_getElem?, Array.getElem?_eq_getElem (by simpa using hlt)]
    rfl
  rw [e2]

theorem field_ok {s : TypeId} {fs : Array Field} {f : Nat} {fd : Field} {n bl o : Nat} (hu : P.underlying s = some (.struct fs)) (hf : fs[f]? = some fd) (hn : szT P fd.type = some (n + 1)) :
    (Instr.fieldAt s (.pointer (some ⟨bl, o, none⟩)) f).run P w = .ok (.pointer (some ⟨bl, o + fd.offset, none⟩)) w := by
  simp [Instr.fieldAt, run_und hu, go_sem, hf, Instr.sureAddr, fieldPlace, run_sz hn, add_none]

theorem indexAt_row_ok {t e : TypeId} {l c : Nat} {bl o : Nat} {k : IntKind} {n : Int} {s : Nat} (hu : P.underlying t = some (.slice e)) (hs : szT P e = some s) (h0 : 0 ≤ n) (h1 : n < l) :
    (Instr.indexAt t (.slice (some ⟨bl, o, none⟩) l c) (.int k n)).run P w = .ok (.pointer (some ⟨bl, o + n.toNat * s, none⟩)) w := by
  simp [Instr.indexAt, asIntOf, run_und hu, go_sem, h0, h1, run_sz hs, add_none]

theorem indexAt_arr_ok {t e : TypeId} {len : Nat} {bl o : Nat} {k : IntKind} {n : Int} {s : Nat} (hu : P.underlying t = some (.array len e)) (hs : szT P e = some s) (h0 : 0 ≤ n) (h1 : n < len) :
    (Instr.indexAt t (.pointer (some ⟨bl, o, none⟩)) (.int k n)).run P w = .ok (.pointer (some ⟨bl, o + n.toNat * s, none⟩)) w := by
  simp [Instr.indexAt, asIntOf, run_und hu, go_sem, h0, h1, run_sz hs, add_none, Instr.sureAddr]

theorem toPtr_notrow {off : Nat} {a b : AV} (h : toPtr off a = some b) : True := trivial

theorem conv_loop {f : Value → ByteArray → Sem (ForInStep ByteArray)} (hf : ∀ n r, f (.int .u8 n) r = pure (.yield (r.push (UInt8.ofNat n.toNat)))) : ∀ (l : List Int) (s : ByteArray), Sem.run P (forIn (l.map (Value.int .u8)) s f) w = .ok (bytesStr s l) w
  | [], s => by simp [bytesStr, go_sem]
  | n :: l, s => by
    simp only [List.map_cons, List.forIn_cons, hf, Sem.run_bind, Sem.run_pure, Result.andThen_ok]
    exact conv_loop hf l _
theorem bytesToString_run {S : Nat → Prop} {l : List Int} {u : Value} (h : Rd S w (.sl (.int .u8)) l [u]) : (Conv.bytesToString u).run P w = .ok (.string (bytesStr .empty l)) w := by
  obtain ⟨A, c, h1, h2, h3, h4⟩ := h
  cases h1
  cases A with
  | none =>
    cases l with
    | nil => simp [Conv.bytesToString, go_sem, bytesStr]
    | cons x l =>
      obtain ⟨b, o, cs, h5, _⟩ := h4 0 x rfl
      cases h5
  | some a =>
    have hl := run_loadCells_list (P := P) (w := w) a (l.map (Value.int .u8)) (by
      intro j v hv
      rw [List.getElem?_map] at hv
      obtain ⟨x, hx, rfl⟩ := Option.map_eq_some_iff.1 hv
      obtain ⟨b, o, cs, h5, _, _, h6, h7⟩ := h4 j x hx
      cases h5
      have h8 := h7 0 (.int .u8 x) (by rw [h6]; rfl)
      rcases j with _ | j <;> simpa [sz, Addr.add] using h8)
    rw [List.length_map] at hl
    simp only [Conv.bytesToString, Sem.run_bind, hl, Result.andThen_ok, List.forIn_toArray]
    rw [conv_loop (fun n r => rfl) l .empty]
    rfl
theorem convert_bytes {S : Nat → Prop} {src dst e : TypeId} {l : List Int} {u : Value} (h1 : P.underlying src = some (.slice e)) (h2 : P.underlying dst = some .string) (h3 : P.underlying e = some (.int .u8)) (h : Rd S w (.sl (.int .u8)) l [u]) : (convert src dst u).run P w = .ok (.string (bytesStr .empty l)) w := by
  have h4 := bytesToString_run (P := P) h
  obtain ⟨A, c, h5, _⟩ := h
  cases h5
  simp only [convert, run_und h1, run_und h2, run_und h3, Sem.run_bind, Result.andThen_ok]
  exact h4
theorem convert_int {src dst : TypeId} {k k' : IntKind} {n : Int} {d : TypeDesc} (h1 : P.underlying src = some d) (h2 : P.underlying dst = some (.int k')) : (convert src dst (.int k n)).run P w = .ok (.int k' (k'.wrap n)) w := by
  simp [convert, run_und h1, run_und h2, go_sem, Conv.intToInt]
theorem convert_str {src dst : TypeId} {s : ByteArray} (h1 : P.underlying src = some .string) (h2 : P.underlying dst = some .string) : (convert src dst (.string s)).run P w = .ok (.string s) w := by
  simp [convert, run_und h1, run_und h2, go_sem]

theorem slice_row_ok {t e : TypeId} {A : Option Addr} {len cap : Nat} {lo hi : Option Value} {a b : Int} {ka kb : IntKind} {s : Nat} (hu : P.underlying t = some (.slice e)) (hs : szT P e = some s) (hlo : lo = none ∧ a = 0 ∨ lo = some (.int ka a)) (hhi : hi = none ∧ b = len ∨ hi = some (.int kb b)) (h0 : 0 ≤ a) (h1 : a ≤ b) (h2 : b ≤ len) (h3 : len ≤ cap) :
    (Instr.sliceAt t (.slice A len cap) lo hi none).run P w = .ok (.slice (if cap = a.toNat then A else A.map (·.add (a.toNat * s))) (b.toNat - a.toNat) (cap - a.toNat)) w := by
  simp only [Instr.sliceAt, Instr.slice, Sem.run_bind, run_und hu, Result.andThen_ok, bounds_ok (P := P) (w := w) (isSlice := true) hlo hhi h0 h1 h2 h3, run_sz hs, Sem.run_pure]

theorem slice_str_ok {t : TypeId} {s : ByteArray} {lo hi : Option Value} {a b : Int} {ka kb : IntKind} (hu : P.underlying t = some .string) (hlo : lo = none ∧ a = 0 ∨ lo = some (.int ka a)) (hhi : hi = none ∧ b = s.size ∨ hi = some (.int kb b)) (h0 : 0 ≤ a) (h1 : a ≤ b) (h2 : b ≤ s.size) :
    (Instr.sliceAt t (.string s) lo hi none).run P w = .ok (.string (s.extract a.toNat b.toNat)) w := by
  simp only [Instr.sliceAt, Instr.slice, Sem.run_bind, run_und hu, Result.andThen_ok, Option.isSome_none, Bool.false_eq_true, if_false, bounds_ok (P := P) (w := w) (isSlice := false) hlo hhi h0 h1 h2 (Nat.le_refl _), Sem.run_pure]

theorem len_ok {c : Call} {t : TypeId} {x : Operand} {v : Value} {ρ' : Operand → Value} {ty : TypeId} {w' : World} (hc : c.callee = .builtin .len) (hx : c.args[0]? = some x) (ht : c.argTypes[0]? = some t)
    (h : (Builtin.len_ c.argTypes ty (c.args.map ρ')).run P w = .ok v w') : (do let d ← resolve ρ' c ty; invoke d.target d.args : Sem Next).run P w = .ok (.value v) w' := by
  simp only [resolve, hc, Sem.run_bind, Sem.run_pure, Result.andThen_ok, invoke, builtin, h]

theorem VsOK.one {a : AV} {us : List Value} (h : VsOK μ S w [a] us) : ∃ u, us = [u] ∧ VOK μ S w a u := by
  obtain ⟨u, us', rfl, h1, h2⟩ := h
  rw [VsOK] at h2
  exact ⟨u, by rw [h2], h1⟩

theorem goes_e {ρ' : Operand → Value} {op : Op} {av : AV} {v : Value} (hv : VOK μ S w av v) (h : ∀ o : Oper, o.op = op → (execOp ρ' o).run P w = .ok (.value v) w) : Goes P ρ' op μ S w av :=
  fun o ho => ⟨v, h o ho, hv⟩
theorem run_val {e : Sem Value} {v : Value} {w' : World} (h : e.run P w = .ok v w') : (do pure (.value (← e)) : Sem Next).run P w = .ok (.value v) w' := by
  simp only [Sem.run_bind, h, Result.andThen_ok, Sem.run_pure]

theorem pureOp_ok {op : Op} {ρ : Operand → AV} {ρ' : Operand → Value} (hρ : ∀ x, VOK μ S w (ρ x) (ρ' x)) : (pureOp P op ρ).sat (Goes P ρ' op μ S w) := by
  unfold pureOp
  split
  · rename_i x
    exact goes_val (fun o ho => by simp only [execOp, ho]) (hρ x)
  · rename_i x
    exact goes_val (fun o ho => by simp only [execOp, ho]) (hρ x)
  · rename_i c a b
    split
    · rename_i cb hc
      have h1 := hρ c
      rw [hc, VOK] at h1
      have main : ∀ {av : AV}, VOK μ S w av (if cb = true then ρ' a else ρ' b) → Goes P ρ' (.pick c a b) μ S w av := by
        intro av hv
        refine goes_val (v := if cb = true then ρ' a else ρ' b) (fun o ho => ?_) hv
        simp only [execOp, ho, h1, asBool]
        rfl
      split
      · rename_i x y hx hy
        have h2 := hρ a
        have h3 := hρ b
        rw [hx, VOK] at h2
        rw [hy, VOK] at h3
        refine main ?_
        cases cb <;> simp [h2, h3, B, VOK]
      · rename_i hx
        refine main ?_
        cases cb <;> simp [pickAV, hρ]
    · trivial
  · rename_i op t x y t'
    exact bin_ok (hρ x) (hρ y)
  · rename_i t x
    split
    · rename_i b hx
      have h1 := hρ x
      rw [hx, VOK] at h1
      exact goes_e rfl (fun o ho => by simp only [execOp, ho]; refine run_val ?_; rw [h1]; simp [Op.unary, go_sem])
    · trivial
  · rename_i t x
    split
    · rename_i k n hx
      have h1 := hρ x
      rw [hx, VOK] at h1
      exact goes_e rfl (fun o ho => by simp only [execOp, ho]; refine run_val ?_; rw [h1]; simp only [Op.unary, Op.intArith, Sem.run_pure])
    · trivial
  · rename_i t x
    split
    · rename_i k n hx
      have h1 := hρ x
      rw [hx, VOK] at h1
      exact goes_e rfl (fun o ho => by simp only [execOp, ho]; refine run_val ?_; rw [h1]; simp only [Op.unary, Op.intBits, Sem.run_pure])
    · trivial
  · rename_i src dst x
    split
    · rename_i k n d k' hx h2 h3
      have h1 := hρ x
      rw [hx, VOK] at h1
      exact goes_e rfl (fun o ho => by simp only [execOp, ho]; refine run_val ?_; rw [h1]; exact convert_int h2 h3)
    · rename_i s hx h2 h3
      have h1 := hρ x
      rw [hx, VOK] at h1
      exact goes_e rfl (fun o ho => by simp only [execOp, ho]; refine run_val ?_; rw [h1]; exact convert_str h2 h3)
    · rename_i t l e hx h2 h3
      split
      · rename_i bs h4 h5
        have h1 := hρ x
        rw [hx, VOK] at h1
        unfold u8L at h5
        split at h5
        · cases h5
          exact goes_e rfl (fun o ho => by simp only [execOp, ho]; refine run_val ?_; exact convert_bytes h2 h3 h4 h1)
        · cases h5
      · trivial
    · trivial
  · rename_i f first caps
    split
    · rename_i hf
      have hfe : first = #[] := Array.eq_empty_of_size_eq_zero hf
      refine goes_e (v := .func (.func f) #[] (caps.map ρ')) ⟨caps.toList.map ρ', by rw [← Array.toList_map], map_ok hρ _⟩ (fun o ho => ?_)
      simp only [execOp, ho]
      refine run_val ?_
      simp [Instr.makeFunc, hfe, go_sem]
    · trivial
  · rename_i t ix
    split
    · rename_i l ht
      split
      · rename_i a hl
        have h1 := hρ t
        rw [ht] at h1
        obtain ⟨us, hu, hvs⟩ := h1
        obtain ⟨u, hu', hv⟩ := VsOK.get hvs hl
        exact goes_e hv (fun o ho => by simp only [execOp, ho]; refine run_val ?_; rw [hu]; simp [Instr.extract, hu', go_sem])
      · trivial
    · trivial
  · rename_i t x f
    split
    · rename_i l fs hx hu
      split
      · rename_i fd hf
        have h1 := hρ x
        rw [hx] at h1
        obtain ⟨us, hus, hvs⟩ := h1
        refine PR.sat_mono (fun av h => ?_) (part_ok (P := P) (t := fd.type) (off := fd.offset) hvs)
        obtain ⟨v, h2, h3⟩ := h
        refine goes_e h3 (fun o ho => ?_)
        simp only [execOp, ho]
        refine run_val ?_
        rw [hus]
        simp only [Instr.field, Sem.run_bind, run_und hu, Result.andThen_ok, hf, asAgg, Sem.run_pure, h2]
      · trivial
    · trivial
  · rename_i t x i
    split
    · rename_i l k n len e hx hi hu
      split
      · rename_i s d hs hd
        split
        · rename_i a hp
          have h1 := hρ x
          have h2 := hρ i
          rw [hx] at h1
          rw [hi, VOK] at h2
          obtain ⟨us, hus, hvs⟩ := h1
          have h3 := part_ok (P := P) (t := e) (off := n.toNat * s) hvs
          rw [hp] at h3
          obtain ⟨v, h4, h5⟩ := h3
          intro hc
          have hc' := of_decide_eq_true hc
          refine goes_e h5 (fun o ho => ?_)
          simp only [execOp, ho]
          refine run_val ?_
          rw [hus, h2]
          exact index_agg_ok hu hs hc'.1 hc'.2 h4
        · trivial
      · trivial
    · rename_i s k n hx hi hu
      have h1 := hρ x
      have h2 := hρ i
      rw [hx, VOK] at h1
      rw [hi, VOK] at h2
      intro hc
      have hc' := of_decide_eq_true hc
      refine goes_e rfl (fun o ho => ?_)
      simp only [execOp, ho]
      refine run_val ?_
      rw [h1, h2]
      exact index_str_ok hu hc'.1 hc'.2
    · trivial
  · rename_i s x f
    split
    · rename_i fs hu
      split
      · rename_i fd hf
        split
        · rename_i n a hn ha
          obtain ⟨bl, o, h1, h2⟩ := toPtr_ok ha (hρ x)
          refine goes_e h2 (fun o ho => ?_)
          simp only [execOp, ho]
          refine run_val ?_
          rw [h1]
          exact field_ok hu hf hn
        · trivial
      · trivial
    · trivial
  · rename_i t x i
    split
    · rename_i ty l k n e hx hi hu
      split
      · rename_i s hs
        split
        · rename_i he
          intro hc
          have hc' := of_decide_eq_true hc
          have h1 := hρ x
          have h2 := hρ i
          rw [hx] at h1
          rw [hi, VOK] at h2
          obtain ⟨A, c, h3, h4, h5, h6⟩ := h1
          simp only [List.cons.injEq, and_true] at h3
          have hlt : n.toNat < l.length := by omega
          have hg : l[n.toNat]? = some (l.getD n.toNat (zEl ty)) := by rw [List.getD_eq_getElem?_getD, List.getElem?_eq_getElem hlt]; rfl
          obtain ⟨bl, o, cs, h7, h8, h9, h10, h11⟩ := h6 n.toNat _ hg
          refine goes_e ⟨bl, o + n.toNat * sz ty, cs, rfl, h8, h9, h10, h11⟩ (fun o ho => ?_)
          simp only [execOp, ho]
          refine run_val ?_
          rw [h3, h2, h7, Nat.add_zero, ← he]
          exact indexAt_row_ok hu hs hc'.1 hc'.2
        · trivial
      · trivial
    · rename_i k n len e _ hi hu
      split
      · rename_i s b hs hb
        split
        · trivial
        · intro hc
          have hc' := of_decide_eq_true hc
          obtain ⟨bl, o, h1, h2⟩ := toPtr_ok hb (hρ x)
          have h3 := hρ i
          rw [hi, VOK] at h3
          refine goes_e h2 (fun o ho => ?_)
          simp only [execOp, ho]
          refine run_val ?_
          rw [h1, h3, hs]
          exact indexAt_arr_ok hu hs hc'.1 hc'.2
      · trivial
    · trivial
  · rename_i x
    split
    · rename_i id o hx
      have h1 := hρ x
      rw [hx] at h1
      have h1' := h1
      obtain ⟨bl, h2, h3⟩ := h1
      exact goes_val (fun o ho => by simp only [execOp, ho, h3]) (h3 ▸ h1')
    · rename_i t y o hx
      have h1 := hρ x
      rw [hx] at h1
      have h1' := h1
      obtain ⟨bl, o', cs, h2, h3⟩ := h1
      exact goes_val (fun o ho => by simp only [execOp, ho, h2]) (h2 ▸ h1')
    · rename_i id i s o hx
      have h1 := hρ x
      rw [hx] at h1
      have h1' := h1
      obtain ⟨bl, n, c, h2, h3⟩ := h1
      exact goes_val (fun o ho => by simp only [execOp, ho, h3]) (h3 ▸ h1')
    · rename_i f l hx
      have h1 := hρ x
      rw [hx] at h1
      have h1' := h1
      obtain ⟨us, h2, h3⟩ := h1
      exact goes_val (fun o ho => by simp only [execOp, ho, h2]) (h2 ▸ h1')
    · trivial
  · rename_i t x lo hi
    split
    · rename_i ty l e hx hu
      split
      · rename_i s ka a kb b hs hlo hhi
        split
        · rename_i he
          intro hc
          have hc' := of_decide_eq_true hc
          have h1 := hρ x
          rw [hx] at h1
          obtain ⟨A, c, h3, h4, h5⟩ := extract_row h1 a.toNat b.toNat (by omega) (by omega)
          refine goes_e h5 (fun o ho => ?_)
          simp only [execOp, ho]
          refine run_val ?_
          rw [h3, ← he]
          exact slice_row_ok hu hs (opt_ok hρ hlo) (opt_ok hρ hhi) hc'.1 hc'.2.1 hc'.2.2 h4
        · trivial
      · trivial
    · rename_i s hx hu
      split
      · rename_i ka a kb b hlo hhi
        intro hc
        have hc' := of_decide_eq_true hc
        have h1 := hρ x
        rw [hx, VOK] at h1
        refine goes_e rfl (fun o ho => ?_)
        simp only [execOp, ho]
        refine run_val ?_
        rw [h1]
        exact slice_str_ok hu (opt_ok hρ hlo) (opt_ok hρ hhi) hc'.1 hc'.2.1 hc'.2.2
      · trivial
    · trivial
  · rename_i c
    split
    · rename_i hcal
      split
      · rename_i ty l e hx ht
        obtain ⟨x, hx1, hx2⟩ := Option.map_eq_some_iff.1 hx
        obtain ⟨t, ht1, ht2⟩ := Option.bind_eq_some_iff.1 ht
        have h1 := hρ x
        rw [hx2] at h1
        obtain ⟨A, c', h3, h4, _⟩ := h1
        simp only [List.cons.injEq, and_true] at h3
        intro o ho
        refine ⟨.int .i64 l.length, ?_, rfl⟩
        simp only [execOp, ho]
        refine len_ok hcal hx1 ht1 ?_
        simp [Builtin.len_, ht1, hx1, run_und ht2, go_sem, h3, goInt]
      · rename_i s hx ht
        obtain ⟨x, hx1, hx2⟩ := Option.map_eq_some_iff.1 hx
        obtain ⟨t, ht1, ht2⟩ := Option.bind_eq_some_iff.1 ht
        have h1 := hρ x
        rw [hx2, VOK] at h1
        intro o ho
        refine ⟨.int .i64 s.size, ?_, rfl⟩
        simp only [execOp, ho]
        refine len_ok hcal hx1 ht1 ?_
        simp [Builtin.len_, ht1, hx1, run_und ht2, go_sem, h1, goInt]
      · rename_i e hx ht
        obtain ⟨x, hx1, hx2⟩ := Option.map_eq_some_iff.1 hx
        obtain ⟨t, ht1, ht2⟩ := Option.bind_eq_some_iff.1 ht
        have h1 := hρ x
        rw [hx2, VOK] at h1
        intro o ho
        refine ⟨.int .i64 0, ?_, rfl⟩
        simp only [execOp, ho]
        refine len_ok hcal hx1 ht1 ?_
        simp [Builtin.len_, ht1, hx1, run_und ht2, go_sem, h1, goInt]
      · trivial
    · rename_i hcal
      split
      · rename_i k x k' y hl
        have h1 := map_ok hρ c.args.toList
        rw [hl] at h1
        obtain ⟨u, us, h2, h3, u2, us2, h4, h5, h6⟩ := h1
        rw [VOK] at h3 h5
        rw [VsOK] at h6
        intro o ho
        refine ⟨_, ?_, rfl⟩
        simp only [execOp, ho, resolve, hcal, Sem.run_bind, Sem.run_pure, Result.andThen_ok, invoke, builtin, Builtin.min_, Array.toList_map, h2, h4, h6, h3, h5]
        simp [Builtin.min2, go_sem]
      · trivial
    · rename_i hcal
      split
      · rename_i k x k' y hl
        have h1 := map_ok hρ c.args.toList
        rw [hl] at h1
        obtain ⟨u, us, h2, h3, u2, us2, h4, h5, h6⟩ := h1
        rw [VOK] at h3 h5
        rw [VsOK] at h6
        intro o ho
        refine ⟨_, ?_, rfl⟩
        simp only [execOp, ho, resolve, hcal, Sem.run_bind, Sem.run_pure, Result.andThen_ok, invoke, builtin, Builtin.max_, Array.toList_map, h2, h4, h6, h3, h5]
        simp [Builtin.max2, go_sem]
      · trivial
    · trivial
  · trivial
end
end Go.Proofs.YtigekmmdflaeaaaDoorE
