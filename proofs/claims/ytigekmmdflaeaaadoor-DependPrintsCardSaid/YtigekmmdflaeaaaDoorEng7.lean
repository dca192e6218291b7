/- The engine, part 7: struct and slice literals, append, make. -/
import Derived.Test.YtigekmmdflaeaaaDoorEng6
import Derived.Laws.MakeOwn
set_option linter.all false
namespace Go.Proofs.YtigekmmdflaeaaaDoorE
open Go
set_option linter.unusedVariables false

def buildAV (P : Program) (t : TypeId) (parts : List (Nat × AV)) : Option (List AV) :=
  match zeroAV P t, P.underlying t with
  | some z, some (.array _ e) => match szT P e with
    | some s => fillAV (fun i => some (i * s, s)) z parts
    | none => none
  | some z, some (.struct fields) => match fields.toList.mapM (fun f => (P.info? f.type).map fun i => (f.offset, i.size)) with
    | some places => fillAV (places.toArray[·]?) z parts
    | none => none
  | _, _ => none

/-- What kind of data a type's values are. -/
def tyOf (P : Program) : Nat → TypeId → Option Ty
  | 0, _ => none
  | n + 1, t => match P.underlying t with
    | some (.int k) => some (.int k)
    | some .bool => some .bool
    | some .string => some .str
    | some (.slice e) => (tyOf P n e).map .sl
    | some (.struct fs) => chain (fs.toList.map fun f => tyOf P n f.type)
    | some (.array k e) => chain (List.replicate k (tyOf P n e))
    | _ => none
where chain : List (Option Ty) → Option Ty
  | [] => none
  | [a] => a
  | a :: l => a.bind fun x => (chain l).bind fun y => some (.pair x y)

/-- a row of so many data out of cells -/
def ofRow (t : Ty) : Nat → List AV → Option (List (El t))
  | 0, [] => some []
  | 0, _ :: _ => none
  | n + 1, l => (ofCells t l).bind fun p => (ofRow t n p.2).bind fun r => some (p.1 :: r)

/-- what an appended operand holds -/
def srcOf (H : Hp) : AV → Option ((t : Ty) × List (El t))
  | .row t l => some ⟨t, l⟩
  | .own j => match lk H j with
    | some (.arr _ t l) => some ⟨t, l⟩
    | _ => none
  | _ => none

def fit : Nat := 140737488355328

def evG (P : Program) (H : Hp) (op : Op) (ρ : Operand → AV) (id : Nat) : OR :=
  match op with
  | .build t parts => match buildAV P t (parts.toList.map fun p => (p.1, ρ p.2)) with
    | some l => .go true (.agg l) H none
    | none => .no
  | .alloc T => match P.underlying T with
    | some (.array len e) => match szT P e, zeroAV P T, tyOf P 20 e with
      | some s, some z, some ty => if s = sz ty ∧ 0 < len ∧ len ≤ maxLen then
        match ofRow ty len z with
        | some l => .go true (.optr id 0 s 0) ((id, .arr T ty l) :: keepH (but id) (rm id H)) (some id)
        | none => .no
        else .no
      | _, _, _ => .no
    | _ => .no
  | .buildSlice t len parts => match P.underlying t with
    | some (.slice e) => match szT P e, zeroAV P e, tyOf P 20 e with
      | some s, some z, some ty => if s = sz ty ∧ len * s ≤ 16777216 ∧ len ≤ maxLen ∧ z.length = s then
        match fillAV (fun i => some (i * s, s)) ((List.range (len * s)).map fun i => z.getD (i % s) .top) (parts.toList.map fun p => (p.1, ρ p.2)) with
        | some cells => match ofRow ty len cells with
          | some l => .go true (.own id) ((id, .arr e ty l) :: keepH (but id) (rm id H)) (some id)
          | none => .no
        | none => .no
        else .no
      | _, _, _ => .no
    | _ => .no
  | .makeSlice t l c => match P.underlying t, ρ l, ρ c with
    | some (.slice e), .sc (.int kl n), .sc (.int kc m) => match P.info? e, zeroAV P e, tyOf P 20 e with
      | some i, some z, some ty => match i.size, ofCells ty z with
        | s, some (x, []) => if s = sz ty ∧ z.length = s then .go (decide (0 ≤ n ∧ n ≤ m ∧ (i.bytes : Int) * m ≤ 281474976710656 ∧ m ≤ 9223372036854775807)) (.own id) ((id, .arr e ty (List.replicate n.toNat x)) :: keepH (but id) (rm id H)) (some id) else .no
        | _, _ => .no
      | _, _, _ => .no
    | _, _, _ => .no
  | .slice t x none (some hi) (some mx) => match ρ x, P.underlying t, ρ hi, ρ mx with
    | .row ty l, some (.slice e), .sc (.int _ 0), .sc (.int _ 0) => match szT P e with
      | some s => .go true (.own id) ((id, .arr e ty []) :: keepH (but id) (rm id H)) (some id)
      | none => .no
    | _, _, _, _ => .no
  | .call c => match c.callee, c.args.toList, c.argTypes.toList with
    | .builtin .append, [s, x], [t, t'] => if t = t' then match P.underlying t with
      | some (.slice e) => match P.info? e, zeroAV P e, srcOf H (ρ x) with
        | some i, some z, some ⟨ty, m⟩ => if i.size = sz ty ∧ z.length = sz ty ∧ 0 < i.bytes then
          match ρ s with
          | .sc (.slice none 0 0) => .go (decide (m.length * i.bytes ≤ fit)) (.own id) ((id, .arr e ty m) :: keepH (but id) (rm id H)) (some id)
          | .own j => match lk H j with
            | some (.arr e' ty' l) => if h : ty.eq ty' = true then
                if e' = e then .go (decide ((l.length + m.length) * i.bytes ≤ fit)) (.own id) ((id, .arr e ty' (l ++ (Ty.of_eq h ▸ m))) :: keepH (but id) (rm id (rm j H))) (some id) else .no
              else .no
            | _ => .no
          | _ => .no
          else .no
        | _, _, _ => .no
      | _ => .no
      else .no
    | _, _, _ => .no
  | _ => .no

section
variable {P : Program} {D : Cx} {F : Fr D} {μ : Nat → Value} {S : Nat → Prop} {w : World} {H : Hp} {tm : List AV} {a : Act}

theorem ofRow_ok {t : Ty} : ∀ {n : Nat} {l : List AV} {r : List (El t)} {us : List Value}, ofRow t n l = some r → VsOK μ S w l us → r.length = n ∧ RdL S w t r us
  | 0, [], r, us, h, hu => by
    cases h
    exact ⟨rfl, hu⟩
  | 0, _ :: _, r, us, h, hu => by cases h
  | n + 1, l, r, us, h, hu => by
    simp only [ofRow, Option.bind_eq_some_iff] at h
    obtain ⟨⟨x, l1⟩, h1, r1, h2, h3⟩ := h
    cases h3
    obtain ⟨u1, u2, rfl, h4, h5⟩ := ofCells_ok h1 hu
    obtain ⟨h6, h7⟩ := ofRow_ok h2 h5
    exact ⟨by simp [h6], u1, u2, rfl, h4, h7⟩

theorem zeroAV_eq {T : TypeId} {z : List AV} (h : zeroAV P T = some z) : ∃ i v, P.info? T = some i ∧ i.zero = some v ∧ z = v.cells.toList.map .sc := by
  unfold zeroAV at h
  obtain ⟨i, h1, h2⟩ := Option.bind_eq_some_iff.1 h
  obtain ⟨v, h3, h4⟩ := Option.map_eq_some_iff.1 h2
  exact ⟨i, v, h1, h3, h4.symm⟩

theorem evG_build {t : TypeId} {parts : Array (Nat × Operand)} {id : Nat} {av : AV} {c : Bool} {H' : Hp} {g : Option Nat} (hI : Inv F μ S H w) (hT : VsOK μ S w tm a.tmps.toList) {ρ : Operand → AV} (hρ : ∀ x, VOK μ S w (ρ x) (a.eval x))
    (h : evG P H (.build t parts) ρ id = .go c av H' g) (hc : c = true) : Step P F (.build t parts) a w (tmGone tm g) H' av := by
  simp only [evG] at h
  split at h
  · rename_i l hl
    cases h
    have hm : (parts.map fun p => (p.1, a.eval p.2)).toList = parts.toList.map fun p => (p.1, a.eval p.2) := by simp
    have key : ∃ cells, P.built t (parts.map fun p => (p.1, a.eval p.2)).toList = some cells ∧ VsOK μ S w l cells.toList := by
      rw [hm]
      unfold buildAV at hl
      split at hl
      · rename_i z n e hz hu
        obtain ⟨it, v, h1, h2, rfl⟩ := zeroAV_eq hz
        split at hl
        · rename_i s hs
          unfold szT at hs
          obtain ⟨ie, h3, rfl⟩ := Option.map_eq_some_iff.1 hs
          obtain ⟨vs, h4, h5⟩ := fill_ok hρ hl (vs_sc (μ := μ) (S := S) (w := w) v.cells.toList)
          exact ⟨vs, by simp only [Program.built, h1, hu, h2, h3]; exact h4, h5⟩
        · cases hl
      · rename_i z fields hz hu
        obtain ⟨it, v, h1, h2, rfl⟩ := zeroAV_eq hz
        split at hl
        · rename_i places hp
          obtain ⟨vs, h4, h5⟩ := fill_ok hρ hl (vs_sc (μ := μ) (S := S) (w := w) v.cells.toList)
          exact ⟨vs, by simp only [Program.built, h1, hu, h2, hp]; exact h4, h5⟩
        · cases hl
      · cases hl
    obtain ⟨cells, h1, h2⟩ := key
    refine step_of (fun o ho => ?_) (.inl rfl) hI hT ⟨cells.toList, rfl, h2⟩
    simp only [execOp, ho]
    refine run_val ?_
    rw [run_build w t _ cells h1]
  · cases h

/-- A new array. -/
theorem newArr_ok (hI : Inv F μ S H w) (hT : VsOK μ S w tm a.tmps.toList) {e : TypeId} {ty : Ty} {l : List (El ty)} {us rest : List Value} {c : Nat} (id : Nat) (hd : F.fix id = none) (hl : RdL S w ty l us) (hlen : (us ++ rest).length = c * sz ty) (hlc : l.length ≤ c) (hc : c ≤ maxLen) :
    Inv F (upd μ id (.slice (some ⟨w.heap.size, 0, none⟩) l.length c)) S ((id, .arr e ty l) :: keepH (but id) (rm id H)) (w.alloc (.cells (us ++ rest).toArray e)) ∧
    VsOK (upd μ id (.slice (some ⟨w.heap.size, 0, none⟩) l.length c)) S (w.alloc (.cells (us ++ rest).toArray e)) (keeps (but id) tm) a.tmps.toList ∧
    VOK (upd μ id (.slice (some ⟨w.heap.size, 0, none⟩) l.length c)) S (w.alloc (.cells (us ++ rest).toArray e)) (.own id) (.slice (some ⟨w.heap.size, 0, none⟩) l.length c) := by
  have hμ : ∀ j, but id j = true → upd μ id (.slice (some ⟨w.heap.size, 0, none⟩) l.length c) j = μ j := fun j hj => upd_other μ _ (but_iff.1 hj)
  have hSw : ∀ b, S b → (w.alloc (.cells (us ++ rest).toArray e)).heap[b]? = w.heap[b]? := fun b hb => heap_alloc_lt w _ (hI.Slt b hb)
  have hz : w.heap.size ≤ (w.alloc (.cells (us ++ rest).toArray e)).heap.size := by simp
  refine ⟨?_, VsOK.keep hμ (fun _ h => h) hz hSw hT, (upd_same _ _ _).symm, _, _, _, rfl⟩
  cases c with
  | zero =>
    have hl0 : l = [] := List.eq_nil_of_length_eq_zero (by omega)
    subst hl0
    -- nothing is owned: the block is nobody's
    have hI2 : Inv F μ S H (w.alloc (.cells (us ++ rest).toArray e)) := by
      refine ⟨fun i B hB => BOK.mono (fun _ h => h) hz hSw (fun b hb => heap_alloc_lt w _ (bof_lt (hI.blk i B hB) hb)) (hI.blk i B hB), hI.apart, hI.notS, fun b hb => Nat.lt_of_lt_of_le (hI.Slt b hb) hz, hI.S0, hI.Sfrom, fun b hb hO => (heap_alloc_lt w _ (Nat.lt_of_lt_of_le hb hI.size)).trans (hI.frame b hb hO), Nat.le_trans hI.size hz, hI.os, hI.tape, hI.output, hI.drawn, hI.fixd, hI.hy⟩
    exact hI2.nil id hd e ty _
  | succ c =>
    refine hI.new (.cells (us ++ rest).toArray e) id hd _ _ rfl (.inr ⟨w.heap.size, c, us, rest, upd_same _ _ _, hlc, hc, heap_alloc_new w _, hlen, RdL.mono (fun _ h => h) hz hSw hl⟩)

theorem range_cells {z : Value} {s n : Nat} (hz : z.cells.size = s) (hs : 0 < s) :
    VsOK μ S w ((List.range n).map fun i => (z.cells.toList.map AV.sc).getD (i % s) .top) ((Array.range n).map (z.cells[· % z.cells.size]!)).toList := by
  have : ((Array.range n).map (z.cells[· % z.cells.size]!)).toList = (List.range n).map fun i => z.cells[i % z.cells.size]! := by simp [Array.toList_range]
  rw [this]
  have : ((List.range n).map fun i => (z.cells.toList.map AV.sc).getD (i % s) .top) = ((List.range n).map fun i => z.cells[i % z.cells.size]!).map .sc := by
    rw [List.map_map]
    refine List.map_congr_left fun i _ => ?_
    have hlt : i % s < z.cells.size := by rw [hz]; exact Nat.mod_lt _ hs
    simp only [Function.comp]
    rw [List.getD_eq_getElem?_getD, List.getElem?_map, hz]
    rw [getElem!_pos z.cells (i % s) hlt]
    simp [hlt]
  rw [this]
  exact vs_sc _

theorem sz_pos : ∀ t : Ty, 0 < sz t
  | .int _ => Nat.one_pos
  | .bool => Nat.one_pos
  | .str => Nat.one_pos
  | .sl _ => Nat.one_pos
  | .pair a b => Nat.add_pos_left (sz_pos a) _

theorem buildSlice_run {t : TypeId} {len : Nat} {parts : Array (Nat × Operand)} {id : Nat} {av : AV} {c : Bool} {H' : Hp} {g : Option Nat} {ρ : Operand → AV} (hρ : ∀ x, VOK μ S w (ρ x) (a.eval x))
    (h : evG P H (.buildSlice t len parts) ρ id = .go c av H' g) : ∃ (e : TypeId) (ty : Ty) (l : List (El ty)) (vs : Array Value), av = .own id ∧ H' = (id, .arr e ty l) :: keepH (but id) (rm id H) ∧ g = some id ∧ c = true ∧ l.length = len ∧ len ≤ maxLen ∧ RdL S w ty l vs.toList ∧
      ∀ o : Oper, o.op = .buildSlice t len parts → (execOp a.eval o).run P w = .ok (.value (.slice (some ⟨w.heap.size, 0, none⟩) len len)) (w.alloc (.cells vs e)) := by
  simp only [evG] at h
  split at h
  · rename_i e hu
    split at h
    · rename_i s z ty hs hz hty
      split at h
      · rename_i hcs
        split at h
        · rename_i cells hf
          split at h
          · rename_i l hl
            cases h
            obtain ⟨it, v, h1, h2, rfl⟩ := zeroAV_eq hz
            have hsz : v.cells.size = s := by simpa using hcs.2.2.2
            have hs0 : 0 < s := by rw [hcs.1]; exact sz_pos ty
            obtain ⟨vs, h4, h5⟩ := fill_ok (us := (Array.range (len * s)).map (v.cells[· % v.cells.size]!)) hρ hf (range_cells hsz hs0)
            obtain ⟨h6, h7⟩ := ofRow_ok hl h5
            have hm : (parts.map fun p => (p.1, a.eval p.2)).toList = parts.toList.map fun p => (p.1, a.eval p.2) := by simp
            refine ⟨e, ty, l, vs, rfl, rfl, rfl, rfl, h6, hcs.2.2.1, h7, fun o ho => ?_⟩
            simp only [execOp, ho]
            refine run_val ?_
            have hno : ¬ (len * s > 2 ^ 24) := by have := hcs.2.1; omega
            by_cases hn0 : len * s = 0
            · have e0 : Array.map (fun x => v.cells[x % v.cells.size]!) (Array.range (len * s)) = #[] := by rw [hn0]; simp
              rw [e0] at h4
              simp only [Instr.buildSlice, Sem.run_bind, run_und hu, Result.andThen_ok, run_sz hs, if_neg hno, if_pos hn0, Sem.run_pure]
              have e1 : (Array.range (len * s)).map (fun x => (#[] : Array Value)[x % (#[] : Array Value).size]!) = #[] := by rw [hn0]; simp
              rw [e1, hm, h4]
              simp [newRow, newObj, go_sem, Sem.run]
            · simp only [Instr.buildSlice, Sem.run_bind, run_und hu, Result.andThen_ok, run_sz hs, if_neg hno, if_neg hn0, Sem.run_pure]
              have hzv : (zeroValue e).run P w = .ok v w := by simp [zeroValue, typeInfo, go_sem, h1, h2]
              simp only [hzv, Result.andThen_ok]
              rw [hm, h4]
              simp [newRow, newObj, go_sem, Sem.run]
          · cases h
        · cases h
      · cases h
    · cases h
  · cases h

theorem evG_buildSlice {t : TypeId} {len : Nat} {parts : Array (Nat × Operand)} {id : Nat} {av : AV} {c : Bool} {H' : Hp} {g : Option Nat} (hI : Inv F μ S H w) (hd : F.fix id = none) (hT : VsOK μ S w tm a.tmps.toList) {ρ : Operand → AV} (hρ : ∀ x, VOK μ S w (ρ x) (a.eval x))
    (h : evG P H (.buildSlice t len parts) ρ id = .go c av H' g) (hc : c = true) : Step P F (.buildSlice t len parts) a w (tmGone tm g) H' av := by
  obtain ⟨e, ty, l, vs, rfl, rfl, rfl, _, h6, hmax, h7, hr⟩ := buildSlice_run hρ h
  have h8 := RdL.len h7
  have hlen : (vs.toList ++ []).length = len * sz ty := by rw [List.append_nil, h8, h6]
  obtain ⟨n1, n2, n3⟩ := newArr_ok hI hT (e := e) (c := len) (rest := []) id hd h7 hlen (Nat.le_of_eq h6) hmax
  rw [List.append_nil, Array.toArray_toList, h6] at n1 n2 n3
  exact step_of hr (.inl rfl) n1 n2 n3

theorem evG_alloc {T : TypeId} {id : Nat} {av : AV} {c : Bool} {H' : Hp} {g : Option Nat} (hI : Inv F μ S H w) (hd : F.fix id = none) (hT : VsOK μ S w tm a.tmps.toList) {ρ : Operand → AV} (hρ : ∀ x, VOK μ S w (ρ x) (a.eval x))
    (h : evG P H (.alloc T) ρ id = .go c av H' g) (hc : c = true) : Step P F (.alloc T) a w (tmGone tm g) H' av := by
  simp only [evG] at h
  split at h
  · rename_i len e hu
    split at h
    · rename_i s z ty hs hz hty
      split at h
      · rename_i hcs
        split at h
        · rename_i l hl
          cases h
          obtain ⟨v, h1, h2⟩ := zero_ok (P := P) (μ := μ) (S := S) (w := w) hz
          obtain ⟨h6, h7⟩ := ofRow_ok hl h2
          have h8 := RdL.len h7
          have hlen : (v.cells.toList ++ []).length = len * sz ty := by rw [List.append_nil, h8, h6]
          obtain ⟨n1, n2, n3⟩ := newArr_ok hI hT (e := T) (c := len) (rest := []) id hd h7 hlen (Nat.le_of_eq h6) hcs.2.2
          rw [List.append_nil, Array.toArray_toList] at n1 n2 n3
          refine step_of (nx := .value (.pointer (some ⟨w.heap.size, 0, none⟩))) (fun o ho => ?_) (.inl rfl) n1 n2 ⟨w.heap.size, l.length, len, ⟨upd_same _ _ _, by rw [h6]; exact hcs.2.1⟩, by rw [Nat.zero_mul]⟩
          simp only [execOp, ho]
          exact run_val (alloc_run h1)
        · cases h
      · cases h
    · cases h
  · cases h

theorem evG_slice {t : TypeId} {x hi mx : Operand} {id : Nat} {av : AV} {c : Bool} {H' : Hp} {g : Option Nat} (hI : Inv F μ S H w) (hd : F.fix id = none) (hT : VsOK μ S w tm a.tmps.toList) {ρ : Operand → AV} (hρ : ∀ x, VOK μ S w (ρ x) (a.eval x))
    (h : evG P H (.slice t x none (some hi) (some mx)) ρ id = .go c av H' g) (hc : c = true) : Step P F (.slice t x none (some hi) (some mx)) a w (tmGone tm g) H' av := by
  have hx := hρ x
  have hh := hρ hi
  have hm := hρ mx
  simp only [evG] at h
  split at h
  · rename_i ty l e k1 k2 hx1 hu h1 h2
    split at h
    · rename_i s hs
      cases h
      rw [hx1] at hx
      rw [h1, VOK] at hh
      rw [h2, VOK] at hm
      obtain ⟨A, cp, h3, _⟩ := hx
      simp only [List.cons.injEq, and_true] at h3
      have hI' := hI.nil id hd e ty (if 0 = 0 then A else A.map (·.add (0 * s)))
      have hμ : ∀ j, but id j = true → upd μ id (.slice A 0 0) j = μ j := fun j hj => upd_other μ _ (but_iff.1 hj)
      rw [if_pos rfl] at hI'
      refine step_of (nx := .value (.slice A 0 0)) (fun o ho => ?_) (.inl rfl) hI' (VsOK.keep hμ (fun _ h => h) (Nat.le_refl _) (fun _ _ => rfl) hT) ⟨(upd_same _ _ _).symm, _, _, _, rfl⟩
      simp only [execOp, ho]
      refine run_val ?_
      have e1 : (Instr.sliceBounds true l.length cp none (some (.int k1 0)) (some (.int k2 0))).run P w = .ok (0, 0, 0) w := by
        simp only [Instr.sliceBounds, Sem.run_bind, Sem.run_pure, Result.andThen_ok]
        rw [bound_ok (Int.le_refl _) (by omega)]
        simp only [Result.andThen_ok]
        rw [bound_ok (Int.le_refl _) (by omega)]
        simp [go_sem]
      simp only [Option.map_none, Option.map_some, h3, hh, hm, Instr.sliceAt, Instr.slice, Sem.run_bind, run_und hu, Result.andThen_ok, e1, run_sz hs, Sem.run_pure]
      simp
    · cases h
  · cases h

/-- The cells of what is appended. -/
theorem src_ok {x : AV} {ty : Ty} {m : List (El ty)} {u : Value} (hI : Inv F μ S H w) (hs : srcOf H x = some ⟨ty, m⟩) (hu : VOK μ S w x u) :
    ∃ A c us, u = .slice A m.length c ∧ RdL S w ty m us ∧ (A = none → m = []) ∧ ∀ ad, A = some ad → ∀ j v, us[j]? = some v → w.cell? (ad.add j) = some v := by
  unfold srcOf at hs
  split at hs
  · rename_i t l
    cases hs
    obtain ⟨A, c, h1, h2, h3, h4⟩ := hu
    simp only [List.cons.injEq, and_true] at h1
    cases m with
    | nil => exact ⟨A, c, [], h1, rfl, fun _ => rfl, fun ad _ j v hv => by simp at hv⟩
    | cons x0 l =>
      obtain ⟨b, o, cs0, h5, h6, h7, h8, h9⟩ := h4 0 x0 rfl
      have all : ∀ (k : Nat) (l' : List (El ty)), (∀ i x, l'[i]? = some x → ∃ cs', Rd S w ty x cs' ∧ CellsAt w b (o + (k + i) * sz ty) cs') →
          ∃ us, RdL S w ty l' us ∧ CellsAt w b (o + k * sz ty) us := by
        intro k l'
        induction l' generalizing k with
        | nil => intro _; exact ⟨[], rfl, fun j v hv => by simp at hv⟩
        | cons y l' ih =>
          intro hl
          obtain ⟨cs, r1, r2⟩ := hl 0 y rfl
          obtain ⟨us, r3, r4⟩ := ih (k + 1) (fun i x hx => by
            obtain ⟨cs', r5, r6⟩ := hl (i + 1) x (by simpa using hx)
            exact ⟨cs', r5, by rw [show k + 1 + i = k + (i + 1) by omega]; exact r6⟩)
          refine ⟨cs ++ us, ⟨cs, us, rfl, r1, r3⟩, fun j v hv => ?_⟩
          have hcl := Rd.len r1
          by_cases hj : j < cs.length
          · rw [List.getElem?_append_left hj] at hv
            exact r2 j v hv
          · rw [List.getElem?_append_right (by omega)] at hv
            have := r4 (j - cs.length) v hv
            rw [show o + k * sz ty + j = o + (k + 1) * sz ty + (j - cs.length) by rw [Nat.add_mul, hcl]; omega]
            exact this
      obtain ⟨us, r1, r2⟩ := all 0 (x0 :: l) (fun i x hx => by
        obtain ⟨b', o', cs', q1, q2, q3, q4, q5⟩ := h4 i x hx
        rw [h5] at q1
        cases q1
        exact ⟨cs', q4, by rw [Nat.zero_add]; exact q5⟩)
      refine ⟨A, c, us, h1, r1, fun hA => (by rw [hA] at h5; cases h5), fun ad had j v hv => ?_⟩
      rw [h5] at had
      cases had
      rw [add_none]
      have := r2 j v hv
      rw [Nat.zero_mul, Nat.add_zero] at this
      exact this
  · rename_i j
    split at hs
    · rename_i e t l hk
      cases hs
      rcases hI.blk j _ hk with ⟨A, h1, h2⟩ | ⟨b, c, us, rest, h1, h2, h3, h4, h5, h6⟩
      · subst h2
        exact ⟨A, 0, [], by rw [hu.1, h1]; rfl, rfl, fun _ => rfl, fun ad _ k v hv => by simp at hv⟩
      · refine ⟨_, _, us, by rw [hu.1, h1], h6, fun hA => by simp at hA, fun ad had k v hv => ?_⟩
        cases had
        rw [add_none, Nat.zero_add]
        have hlt : k < us.length := (List.getElem?_eq_some_iff.1 hv).1
        rw [show w.cell? ⟨b, k, none⟩ = (us ++ rest)[k]? from by simp [World.cell?, h4], List.getElem?_append_left hlt]
        exact hv
    · cases hs
  · cases hs

theorem Rd.one : ∀ {t : Ty} {x : El t} {cs : List Value}, Rd S w t x cs → ∀ u ∈ cs, u.oneCell' = true
  | .int k, x, cs, h, u, hu => by rw [Rd] at h; rw [h] at hu; simp at hu; rw [hu]; rfl
  | .bool, x, cs, h, u, hu => by rw [Rd] at h; rw [h] at hu; simp at hu; rw [hu]; rfl
  | .str, x, cs, h, u, hu => by rw [Rd] at h; rw [h] at hu; simp at hu; rw [hu]; rfl
  | .sl t, l, cs, h, u, hu => by obtain ⟨A, c, h1, _⟩ := h; rw [h1] at hu; simp at hu; rw [hu]; rfl
  | .pair a b, x, cs, h, u, hu => by
    obtain ⟨c1, c2, rfl, h1, h2⟩ := h
    rcases List.mem_append.1 hu with h3 | h3
    · exact Rd.one h1 u h3
    · exact Rd.one h2 u h3
theorem RdL.one {t : Ty} : ∀ {l : List (El t)} {us : List Value}, RdL S w t l us → ∀ u ∈ us, u.oneCell' = true
  | [], us, h, u, hu => by rw [RdL] at h; rw [h] at hu; cases hu
  | x :: l, us, h, u, hu => by
    obtain ⟨c1, c2, rfl, h1, h2⟩ := h
    rcases List.mem_append.1 hu with h3 | h3
    · exact Rd.one h1 u h3
    · exact RdL.one h2 u h3

theorem firstCells_of {size n : Nat} {A : Option Addr} {len cap : Nat} {us : List Value} (hl : us.length = n * size) (hA : A = none → us = []) (h : ∀ ad, A = some ad → ∀ j v, us[j]? = some v → w.cell? (ad.add j) = some v) :
    (Builtin.firstCells size n (.slice A len cap)).run P w = .ok us.toArray w := by
  cases A with
  | none => rw [hA rfl]; exact run_firstCells_none w size n len cap
  | some ad => exact run_firstCells_some w size n ad len cap us hl (h ad rfl)

/-- append where there is room -/
theorem append_room {t ty e : TypeId} {i : TypeInfo} {g sLen sCap m c : Nat} {A : Option Addr} {cur : Array Value} {news : List Value} (ht : P.underlying t = some (.slice e)) (hi : P.info? e = some i) (hg : w.heap[g]? = some (.cells cur e (0, 0)))
    (hl : news.length = m * i.size) (hA : A = none → news = []) (hn : ∀ ad, A = some ad → ∀ j v, news[j]? = some v → w.cell? (ad.add j) = some v) (h1 : ∀ u ∈ news, u.oneCell' = true) (hroom : sLen + m ≤ sCap) (hfit : sLen * i.size + news.length ≤ cur.size) :
    (Builtin.append_ #[t, t] ty #[.slice (some ⟨g, 0, none⟩) sLen sCap, .slice A m c]).run P w =
      .ok (.slice (some ⟨g, 0, none⟩) (sLen + m) sCap) (w.setRow g (cur.toList.take (sLen * i.size) ++ news ++ cur.toList.drop (sLen * i.size + news.length)).toArray) := by
  have hf := firstCells_of (P := P) (w := w) (len := m) (cap := c) hl hA hn
  have hst := run_storeCells_at P g (sLen * i.size) e news 0 cur w hg (by simpa using hfit) h1
  simp only [Nat.add_zero] at hst
  have hadd : (⟨g, 0, none⟩ : Addr).add (sLen * i.size) = ⟨g, sLen * i.size, none⟩ := by rw [add_none, Nat.zero_add]
  simp [Builtin.append_, run_underlying ht, sizeOf, typeInfo, hi, Builtin.lenOf, hroom, hf, hadd, hst]

/-- append where there is none -/
theorem append_grow {t ty e : TypeId} {i : TypeInfo} {z : Value} {sLen sCap m c : Nat} {A A0 : Option Addr} {olds news : List Value} (ht : P.underlying t = some (.slice e)) (hi : P.info? e = some i) (hz : i.zero = some z)
    (hlo : olds.length = sLen * i.size) (hA0 : A0 = none → olds = []) (ho : ∀ ad, A0 = some ad → ∀ j v, olds[j]? = some v → w.cell? (ad.add j) = some v)
    (hl : news.length = m * i.size) (hA : A = none → news = []) (hn : ∀ ad, A = some ad → ∀ j v, news[j]? = some v → w.cell? (ad.add j) = some v)
    (hg : sCap < sLen + m) (h63 : ((sLen + m : Nat) : Int) ≤ 9223372036854775807) (hfit : Builtin.nextslicecap (sLen + m) sCap * i.bytes ≤ 281474976710656) :
    (Builtin.append_ #[t, t] ty #[.slice A0 sLen sCap, .slice A m c]).run P w =
      .ok (.slice (some ⟨w.heap.size, 0, none⟩) (sLen + m) (grownCap w (sLen + m) sCap e))
        (w.drew.alloc (.cells (olds.toArray ++ news.toArray ++ Builtin.zeroCells z.cells (grownCap w (sLen + m) sCap e - (sLen + m))) e)) := by
  have hn' : ¬ (sLen + m ≤ sCap) := by omega
  have h63' : ¬ (9223372036854775807 < ((sLen : Int) + (m : Int))) := by omega
  have h48' : ¬ (281474976710656 < Builtin.nextslicecap (sLen + m) sCap * i.bytes) := by omega
  have hf0 := firstCells_of (P := P) (w := w.drew) (len := sLen) (cap := sCap) hlo hA0 (fun ad h j v hv => by simpa using ho ad h j v hv)
  have hf := firstCells_of (P := P) (w := w.drew) (len := m) (cap := c) hl hA (fun ad h j v hv => by simpa using hn ad h j v hv)
  simp [Builtin.append_, run_underlying ht, sizeOf, typeInfo, zeroValue, hi, hz, Builtin.lenOf, hn', h63', h48', Question.forced, hf0, hf, newRow, grownCap]
  have e2 : ∀ Z : Array Value, olds.toArray ++ (news.toArray ++ Z) = (olds ++ news).toArray ++ Z := fun Z => by rw [← List.append_toArray, Array.append_assoc]
  rw [e2]
end
end Go.Proofs.YtigekmmdflaeaaaDoorE
