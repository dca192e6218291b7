/- The engine, part 5: variables and arrays: made, read, written. -/
import Derived.Test.YtigekmmdflaeaaaDoorEng4
import Derived.Laws.AppendOwn
import Derived.Laws.CopyRow
import Derived.Laws.Cells
import Derived.Laws.Tables
set_option linter.all false
namespace Go.Proofs.YtigekmmdflaeaaaDoorE
open Go
set_option linter.unusedVariables false

inductive OR where
  | no
  | go (c : Bool) (av : AV) (H : Hp) (gone : Option Nat)

/-- What a value's cells are. -/
def avCells : AV → Option (List AV)
  | .top => none
  | .tup _ => none
  | .agg l => some l
  | .sc v => match v with
    | .agg cs => some (cs.toList.map .sc)
    | .tuple _ => none
    | v => some [.sc v]
  | .row t l => some [.row t l]
  | .own id => some [.own id]
  | .ptr id o => some [.ptr id o]
  | .eptr t x o => some [.eptr t x o]
  | .optr id i s o => some [.optr id i s o]
  | .fn f l => some [.fn f l]
  | .mp id => some [.mp id]

def isOne : AV → Bool
  | .top => false
  | .tup _ => false
  | .agg _ => false
  | .sc v => match v with
    | .agg _ => false
    | .tuple _ => false
    | _ => true
  | _ => true

def allOne : List AV → Bool
  | [] => true
  | a :: l => match isOne a with
    | true => allOne l
    | false => false

def loadAV (P : Program) (T : TypeId) (cells : List AV) (off : Nat) : Option AV :=
  match P.underlying T, szT P T with
  | some _, some n => if isAggT P T then (if off + n ≤ cells.length then some (.agg ((cells.drop off).take n)) else none) else cells[off]?
  | _, _ => none

def putCells (cells : List AV) (off : Nat) (l : List AV) : List AV := cells.take off ++ l ++ cells.drop (off + l.length)

def zeroAV (P : Program) (T : TypeId) : Option (List AV) := (P.info? T).bind fun i => i.zero.map fun v => v.cells.toList.map .sc

section
variable {P : Program} {μ : Nat → Value} {S : Nat → Prop} {w : World}

theorem vs_sc : ∀ l : List Value, VsOK μ S w (l.map .sc) l
  | [] => rfl
  | v :: l => ⟨v, l, rfl, rfl, vs_sc l⟩

theorem one_of {a : AV} {u : Value} (h : VOK μ S w a u) (ha : isOne a = true) : u.oneCell' = true := by
  cases a with
  | top => simp [isOne] at ha
  | tup l => simp [isOne] at ha
  | agg l => simp [isOne] at ha
  | sc v =>
    rw [VOK] at h
    subst h
    cases u <;> first | rfl | simp [isOne] at ha
  | row t l => obtain ⟨A, c, h1, _⟩ := h; simp only [List.cons.injEq, and_true] at h1; rw [h1]; rfl
  | own id => obtain ⟨_, A, n, c, h⟩ := h; rw [h]; rfl
  | ptr id o => obtain ⟨b, _, h⟩ := h; rw [h]; rfl
  | eptr t x o => obtain ⟨b, o, cs, h, _⟩ := h; rw [h]; rfl
  | optr id i s o => obtain ⟨b, n, c, _, h⟩ := h; rw [h]; rfl
  | fn f l => obtain ⟨us, h, _⟩ := h; rw [h]; rfl
  | mp id => obtain ⟨_, b, h⟩ := h; rw [h]; rfl
theorem all_of : ∀ {l : List AV} {us : List Value}, VsOK μ S w l us → allOne l = true → ∀ u ∈ us, u.oneCell' = true
  | [], us, h, _, u, hu => by rw [VsOK] at h; rw [h] at hu; cases hu
  | a :: l, us, h, ha, u, hu => by
    obtain ⟨v, us', rfl, h2, h3⟩ := h
    have h1 : isOne a = true ∧ allOne l = true := by
      unfold allOne at ha
      cases he : isOne a with
      | true => rw [he] at ha; exact ⟨rfl, ha⟩
      | false => rw [he] at ha; cases ha
    cases hu with
    | head => exact one_of h2 h1.1
    | tail _ hu => exact all_of h3 h1.2 u hu

theorem avCells_ok {a : AV} {l : List AV} {u : Value} (h : avCells a = some l) (hu : VOK μ S w a u) : VsOK μ S w l u.cells.toList := by
  have one : ∀ {b : AV}, VOK μ S w b u → u.oneCell' = true → VsOK μ S w [b] u.cells.toList := by
    intro b hb h1
    cases u <;> first | exact ⟨_, [], rfl, hb, rfl⟩ | simp [Value.oneCell'] at h1
  cases a with
  | top => cases h
  | tup l => cases h
  | agg l' =>
    cases h
    obtain ⟨us, rfl, h2⟩ := hu
    exact h2
  | sc v =>
    rw [VOK] at hu
    subst hu
    cases u <;> first
      | (cases h; exact ⟨_, [], rfl, rfl, rfl⟩)
      | (cases h; exact vs_sc _)
      | cases h
  | row t l => cases h; exact one hu (one_of hu rfl)
  | own id => cases h; exact one hu (one_of hu rfl)
  | ptr id o => cases h; exact one hu (one_of hu rfl)
  | eptr t x o => cases h; exact one hu (one_of hu rfl)
  | optr id i s o => cases h; exact one hu (one_of hu rfl)
  | fn f l => cases h; exact one hu (one_of hu rfl)
  | mp id => cases h; exact one hu (one_of hu rfl)

theorem zero_ok {T : TypeId} {l : List AV} (h : zeroAV P T = some l) : ∃ v, (zeroValue T).run P w = .ok v w ∧ VsOK μ S w l v.cells.toList := by
  unfold zeroAV at h
  obtain ⟨i, h1, h2⟩ := Option.bind_eq_some_iff.1 h
  obtain ⟨v, h3, rfl⟩ := Option.map_eq_some_iff.1 h2
  exact ⟨v, by simp [zeroValue, typeInfo, go_sem, h1, h3], vs_sc _⟩

/-- Cells that lie in a row are loaded. -/
theorem load_ok {T : TypeId} {cells : List AV} {off : Nat} {av : AV} {us : List Value} {b o : Nat} (h : loadAV P T cells off = some av) (hu : VsOK μ S w cells us) (hc : CellsAt w b o us) :
    ∃ v, (Instr.loadAt T (.pointer (some ⟨b, o + off, none⟩))).run P w = .ok v w ∧ VOK μ S w av v := by
  unfold loadAV at h
  split at h
  · rename_i d n hd hn
    split at h
    · rename_i ha
      split at h
      · rename_i hle
        cases h
        have hlen := VsOK.len hu
        have hcs : ((us.drop off).take n).length = n := by simp [List.length_take, List.length_drop]; omega
        refine ⟨.agg ((us.drop off).take n).toArray, ?_, _, rfl, VsOK.take n (VsOK.drop off hu)⟩
        simp only [Instr.loadAt, Instr.sureAddr, loadVar, Sem.run_bind, Sem.run_pure, Result.andThen_ok, run_isAgg hd, ha, if_true, run_sz hn]
        have hl := run_loadCells_list (P := P) w (⟨b, o + off, none⟩ : Addr) ((us.drop off).take n) (fun j v hv => by
          rw [add_none, Nat.add_assoc]
          refine hc (off + j) v ?_
          have hj : j < n := by rw [← hcs]; exact (List.getElem?_eq_some_iff.1 hv).1
          rw [List.getElem?_take_of_lt hj, List.getElem?_drop] at hv
          exact hv)
        rw [hcs] at hl
        rw [hl]
        rfl
      · cases h
    · rename_i ha
      have ha' : isAggT P T = false := by simpa using ha
      obtain ⟨u, hu', hv⟩ := VsOK.get hu h
      refine ⟨u, ?_, hv⟩
      simp only [Instr.loadAt, Instr.sureAddr, loadVar, Sem.run_bind, Sem.run_pure, Result.andThen_ok, run_isAgg hd, ha', Bool.false_eq_true, if_false]
      have hld : (load ⟨b, o + off, none⟩).run P w = .ok u w := by simp [load, Sem.run, hc off u hu']
      exact hld
  · cases h

theorem cellsAt_heap {b : Nat} {us : List Value} {T : TypeId} {fz : Nat × Nat} (h : w.heap[b]? = some (.cells us.toArray T fz)) : CellsAt w b 0 us := by
  intro j u hu
  simp [World.cell?, h, hu]

/-- Cells are stored into a row. -/
theorem store_ok {T T' : TypeId} {b off : Nat} {us vs : List Value} {n : Nat} {v : Value} (hn : szT P T = some n) (hb : w.heap[b]? = some (.cells us.toArray T' (0, 0))) (hv : v.cells.toList = vs) (hl : vs.length = n) (hle : off + vs.length ≤ us.length) (h1 : ∀ u ∈ vs, u.oneCell' = true) :
    (Instr.storeAt T (.pointer (some ⟨b, off, none⟩)) v).run P w = .ok () (w.setRow b (us.take off ++ vs ++ us.drop (off + vs.length)).toArray) := by
  have hsz : v.cells.size = n := by rw [← Array.length_toList, hv, hl]
  have hst := run_storeCells_at P b off T' vs 0 us.toArray w hb (by simpa using hle) h1
  simp only [Nat.add_zero, List.toList_toArray] at hst
  simp only [Instr.storeAt, Instr.sureAddr, storeVar, Sem.run_bind, Sem.run_pure, Result.andThen_ok, run_sz hn, hsz, hv, hst, ne_eq, not_true_eq_false, if_false]

theorem VsOK.putCells {cells l : List AV} {us vs : List Value} {off : Nat} (h : VsOK μ S w cells us) (k : VsOK μ S w l vs) : VsOK μ S w (putCells cells off l) (us.take off ++ vs ++ us.drop (off + vs.length)) := by
  unfold Go.Proofs.YtigekmmdflaeaaaDoorE.putCells
  rw [VsOK.len k]
  exact VsOK.append (VsOK.append (VsOK.take off h) k) (VsOK.drop _ h)

theorem setRow_size (b : Nat) (cs : Array Value) : (w.setRow b cs).heap.size = w.heap.size := by simp [World.setRow]
end

/-! ### what one operation does -/
/-- The operation runs; the new state's parts are as told. -/
def Step (P : Program) {D : Cx} (F : Fr D) (op : Op) (a : Act) (w : World) (tm : List AV) (H : Hp) (av : AV) : Prop :=
  ∀ o : Oper, o.op = op → ∃ nx v w' μ S, (execOp a.eval o).run P w = .ok nx w' ∧ (nx = .value v ∨ nx = .skip ∧ v = undef) ∧ Inv F μ S H w' ∧ VsOK μ S w' tm a.tmps.toList ∧ VOK μ S w' av v

theorem idf {x y : Nat} (h : x = y) : x = y := h

def tmGone (tm : List AV) : Option Nat → List AV
  | none => tm
  | some d => keeps (but d) tm

/-- an array of numbers: kept as a row -/
def arrFlat (P : Program) (T : TypeId) : Bool := match P.underlying T with
  | some (.array len e) => match P.underlying e with
    | some (.int _) => Nat.blt 1 len
    | _ => false
  | _ => false
def evH (P : Program) (H : Hp) (op : Op) (ρ : Operand → AV) (id : Nat) : OR :=
  match op with
  | .alloc T => match arrFlat P T with
    | true => .no
    | false => match zeroAV P T with
      | some l => .go true (.ptr id 0) ((id, .box T l) :: keepH (but id) (rm id H)) (some id)
      | none => .no
  | .box T x => match avCells (ρ x) with
    | some l => .go true (.ptr id 0) ((id, .box T (keeps (but id) l)) :: keepH (but id) (rm id H)) (some id)
    | none => .no
  | .load T p => match ρ p with
    | .ptr i off => match lk H i with
      | some (.box _ cells) => match loadAV P T cells off with
        | some a => .go true a H none
        | none => .no
      | _ => .no
    | .eptr t x off => match loadAV P T (cellsOf t x) off with
      | some a => .go true a H none
      | none => .no
    | .optr i n s off => match lk H i with
      | some (.arr e t l) => if s = sz t then match loadAV P T (cellsOf t (l.getD n (zEl t))) off with
        | some a => .go true a H none
        | none => .no
        else .no
      | _ => .no
    | _ => .no
  | .store T p x => match avCells (ρ x), szT P T with
    | some vs, some n => if vs.length = n ∧ allOne vs = true then match ρ p with
      | .ptr i off => match lk H i with
        | some (.box T' cells) => if off + vs.length ≤ cells.length then .go true .top ((i, .box T' (putCells cells off vs)) :: rm i H) none else .no
        | _ => .no
      | .optr i k s off => match lk H i with
        | some (.arr e t l) => if s = sz t ∧ off + vs.length ≤ sz t then match ofCells t (putCells (cellsOf t (l.getD k (zEl t))) off vs) with
          | some (y, []) => .go true .top ((i, .arr e t (l.set k y)) :: rm i H) none
          | _ => .no
          else .no
        | _ => .no
      | _ => .no
      else .no
    | _, _ => .no
  | .indexAddr t x i => match ρ x, ρ i, P.underlying t with
    | .own j, .sc (.int _ n), some (.slice e) => match lk H j, szT P e with
      | some (.arr _ ty l), some s => if s = sz ty then .go (decide (0 ≤ n ∧ n < (l.length : Int))) (.optr j n.toNat s 0) H none else .no
      | _, _ => .no
    | .optr j i0 s0 off, .sc (.int _ n), some (.array len e) => match lk H j, szT P e with
      | some (.arr _ ty l), some s => if s = sz ty ∧ s0 = s ∧ off = 0 then .go (decide (i0 = 0 ∧ 0 ≤ n ∧ n < (l.length : Int) ∧ n < (len : Int))) (.optr j n.toNat s 0) H none else .no
      | _, _ => .no
    | _, _, _ => .no
  | .call c => match c.callee with
    | .builtin .len => match (c.args[0]?).map ρ, (c.argTypes[0]?).bind P.underlying with
      | some (.own j), some (.slice _) => match lk H j with
        | some (.arr _ ty l) => .go true (I .i64 l.length) H none
        | _ => .no
      | _, _ => .no
    | _ => .no
  | _ => .no


theorem step_of {P : Program} {D : Cx} {F : Fr D} {op : Op} {a : Act} {w : World} {tm : List AV} {H : Hp} {av : AV} {nx : Next} {v : Value} {w' : World} {μ : Nat → Value} {S : Nat → Prop}
    (hr : ∀ o : Oper, o.op = op → (execOp a.eval o).run P w = .ok nx w') (hx : nx = .value v ∨ nx = .skip ∧ v = undef) (hI : Inv F μ S H w') (hT : VsOK μ S w' tm a.tmps.toList) (hv : VOK μ S w' av v) : Step P F op a w tm H av :=
  fun o ho => ⟨nx, v, w', μ, S, hr o ho, hx, hI, hT, hv⟩

section
variable {P : Program} {D : Cx} {F : Fr D} {μ : Nat → Value} {S : Nat → Prop} {w : World} {H : Hp} {tm : List AV} {a : Act}

/-- A new variable. -/
theorem new_ok (hI : Inv F μ S H w) (hT : VsOK μ S w tm a.tmps.toList) {T : TypeId} {l : List AV} {us : List Value} (id : Nat) (hd : F.fix id = none) (hl : VsOK μ S w l us) :
    Inv F (upd μ id (.pointer (some ⟨w.heap.size, 0, none⟩))) S ((id, .box T (keeps (but id) l)) :: keepH (but id) (rm id H)) (w.alloc (.cells us.toArray T)) ∧
    VsOK (upd μ id (.pointer (some ⟨w.heap.size, 0, none⟩))) S (w.alloc (.cells us.toArray T)) (keeps (but id) tm) a.tmps.toList ∧
    VOK (upd μ id (.pointer (some ⟨w.heap.size, 0, none⟩))) S (w.alloc (.cells us.toArray T)) (.ptr id 0) (.pointer (some ⟨w.heap.size, 0, none⟩)) := by
  have hμ : ∀ j, but id j = true → upd μ id (.pointer (some ⟨w.heap.size, 0, none⟩)) j = μ j := fun j hj => upd_other μ _ (but_iff.1 hj)
  have hSw : ∀ b, S b → (w.alloc (.cells us.toArray T)).heap[b]? = w.heap[b]? := fun b hb => heap_alloc_lt w _ (hI.Slt b hb)
  have hz : w.heap.size ≤ (w.alloc (.cells us.toArray T)).heap.size := by simp
  refine ⟨hI.new (.cells us.toArray T) id hd _ _ rfl ⟨w.heap.size, us, upd_same _ _ _, ?_, VsOK.keep hμ (fun _ h => h) hz hSw hl⟩, VsOK.keep hμ (fun _ h => h) hz hSw hT, w.heap.size, upd_same _ _ _, rfl⟩
  exact heap_alloc_new w _

theorem alloc_run {T : TypeId} {v : Value} (hz : (zeroValue T).run P w = .ok v w) : (Instr.alloc T true (.tuple #[])).run P w = .ok (.pointer (some ⟨w.heap.size, 0, none⟩)) (w.alloc (.cells v.cells T)) := by
  simp only [Instr.alloc, Sem.run_bind, hz, Result.andThen_ok]
  simp [newVar, newRow, newObj, go_sem, Sem.run]
theorem box_run {T : TypeId} {v : Value} : (Instr.box T v).run P w = .ok (.pointer (some ⟨w.heap.size, 0, none⟩)) (w.alloc (.cells v.cells T)) := by
  simp [Instr.box, newVar, newRow, newObj, go_sem, Sem.run]

theorem keeps_sc (p : Nat → Bool) : ∀ l : List Value, keeps p (l.map .sc) = l.map .sc
  | [] => rfl
  | v :: l => by simp [keeps, keep, keeps_sc p l]

theorem RdL.split {t : Ty} : ∀ {l : List (El t)} {us : List Value} {k : Nat} {x : El t}, RdL S w t l us → l[k]? = some x →
    ∃ u1 u2 u3, us = u1 ++ u2 ++ u3 ∧ u1.length = k * sz t ∧ Rd S w t x u2 ∧ ∀ y v2, Rd S w t y v2 → RdL S w t (l.set k y) (u1 ++ v2 ++ u3)
  | [], us, k, x, h, hk => by simp at hk
  | z :: l, us, 0, x, h, hk => by
    obtain ⟨c1, c2, rfl, h2, h3⟩ := h
    simp only [List.getElem?_cons_zero, Option.some.injEq] at hk
    subst hk
    exact ⟨[], c1, c2, rfl, by simp, h2, fun y v2 hy => ⟨v2, c2, rfl, hy, h3⟩⟩
  | z :: l, us, k + 1, x, h, hk => by
    obtain ⟨c1, c2, rfl, h2, h3⟩ := h
    obtain ⟨u1, u2, u3, rfl, h4, h5, h6⟩ := RdL.split h3 (k := k) (x := x) (by simpa using hk)
    refine ⟨c1 ++ u1, u2, u3, by simp, by rw [List.length_append, Rd.len h2, h4, Nat.add_mul]; omega, h5, fun y v2 hy => ⟨c1, u1 ++ v2 ++ u3, by simp, h2, h6 y v2 hy⟩⟩

theorem evH_load {T : TypeId} {p : Operand} {id : Nat} {av : AV} {c : Bool} {H' : Hp} {g : Option Nat} (hI : Inv F μ S H w) (hT : VsOK μ S w tm a.tmps.toList) {ρ : Operand → AV} (hρ : ∀ x, VOK μ S w (ρ x) (a.eval x))
    (h : evH P H (.load T p) ρ id = .go c av H' g) (hc : c = true) : Step P F (.load T p) a w (tmGone tm g) H' av := by
  have hp := hρ p
  have fin : ∀ {v : Value}, (Instr.loadAt T (a.eval p)).run P w = .ok v w → VOK μ S w av v → Step P F (.load T p) a w tm H av := by
    intro v hr hv
    exact step_of (fun o ho => by simp only [execOp, ho]; exact run_val hr) (.inl rfl) hI hT hv
  simp only [evH] at h
  split at h
  · rename_i i off he
    split at h
    · rename_i T' cells hk
      split at h
      · rename_i a' hl
        cases h
        rw [he] at hp
        obtain ⟨b, h1, h2⟩ := hp
        obtain ⟨b', us, h3, h4, h5⟩ := hI.blk i _ hk
        rw [h1] at h3
        cases h3
        obtain ⟨v, h6, h7⟩ := load_ok hl h5 (cellsAt_heap h4)
        rw [Nat.zero_add] at h6
        exact fin (by rw [h2]; exact h6) h7
      · cases h
    · cases h
  · rename_i t x off he
    split at h
    · rename_i a' hl
      cases h
      rw [he] at hp
      obtain ⟨b, o, cs, h1, h2, h3, h4, h5⟩ := hp
      obtain ⟨v, h6, h7⟩ := load_ok hl (Rd.cells h4) h5
      exact fin (by rw [h1]; exact h6) h7
    · cases h
  · rename_i i n s off he
    split at h
    · rename_i e t l hk
      split at h
      · rename_i hs
        split at h
        · rename_i a' hl
          cases h
          rw [he] at hp
          obtain ⟨b, m, c', ⟨h1, hlt⟩, h2⟩ := hp
          rcases hI.blk i _ hk with ⟨A, h3, hnil⟩ | ⟨b', c'', us, rest, h3, h4, h5, h6, h7, h8⟩
          · rw [h1] at h3; injection h3 with _ h3b _; omega
          · rw [h1] at h3
            cases h3
            have hg : l[n]? = some (l.getD n (zEl t)) := by rw [List.getD_eq_getElem?_getD, List.getElem?_eq_getElem hlt]; rfl
            obtain ⟨cs, h9, h10⟩ := RdL.get h8 hg
            have hcs : CellsAt w b (n * sz t) cs := by
              intro j u hu
              have := h10 j u hu
              have hlt2 : n * sz t + j < us.length := (List.getElem?_eq_some_iff.1 this).1
              rw [show w.cell? ⟨b, n * sz t + j, none⟩ = (us ++ rest)[n * sz t + j]? from by simp [World.cell?, h6]]
              rw [List.getElem?_append_left hlt2]
              exact this
            obtain ⟨v, h11, h12⟩ := load_ok hl (Rd.cells h9) hcs
            exact fin (by rw [h2, hs]; exact h11) h12
        · cases h
      · cases h
    · cases h
  · cases h

theorem evH_store {T : TypeId} {p x : Operand} {id : Nat} {av : AV} {c : Bool} {H' : Hp} {g : Option Nat} (hI : Inv F μ S H w) (hT : VsOK μ S w tm a.tmps.toList) {ρ : Operand → AV} (hρ : ∀ x, VOK μ S w (ρ x) (a.eval x))
    (h : evH P H (.store T p x) ρ id = .go c av H' g) (hc : c = true) : Step P F (.store T p x) a w (tmGone tm g) H' av := by
  have hp := hρ p
  have hx := hρ x
  simp only [evH] at h
  split at h
  · rename_i vs n hvs hn
    have hxs := avCells_ok hvs hx
    have hlen := VsOK.len hxs
    split at h
    · rename_i hc1
      have hone := all_of hxs hc1.2
      split at h
      · rename_i i off he
        split at h
        · rename_i T' cells hk
          split at h
          · rename_i hle
            cases h
            rw [he] at hp
            obtain ⟨b, h1, h2⟩ := hp
            obtain ⟨b', us, h3, h4, h5⟩ := hI.blk i _ hk
            have h3' := h3
            rw [h1] at h3
            cases h3
            have hle' : off + (a.eval x).cells.toList.length ≤ us.length := by rw [hlen, VsOK.len h5]; exact hle
            have hr := store_ok (P := P) (T := T) hn h4 rfl (by rw [hlen]; exact hc1.1) hle' hone
            have hI' := hI.set (w' := w.setRow b (us.take off ++ (a.eval x).cells.toList ++ us.drop (off + (a.eval x).cells.toList.length)).toArray) i b _ (.box T' (putCells cells off vs)) hk (by rw [h1]; rfl)
              (fun k hk' => setRow_other w b k _ hk') (setRow_size b _) rfl rfl rfl (Nat.le_refl _) (fun hS => ⟨b, _, h1, setRow_heap w b _ _ _ _ h4, VsOK.mono (fun _ h => h) (Nat.le_of_eq (setRow_size b _).symm) hS (VsOK.putCells h5 hxs)⟩)
            have hnS := (hI.notS i _ hk b (by rw [h1]; rfl)).1
            refine step_of (fun o ho => ?_) (.inr ⟨rfl, rfl⟩) hI' (VsOK.mono (fun _ h => h) (Nat.le_of_eq (setRow_size b _).symm) (fun k hk' => setRow_other w b k _ (fun e => hnS (e ▸ hk'))) hT) trivial
            simp only [execOp, ho, h2, Sem.run_bind, hr, Result.andThen_ok, Sem.run_pure]
          · cases h
        · cases h
      · rename_i i k s off he
        split at h
        · rename_i e t l hk
          split at h
          · rename_i hs
            split at h
            · rename_i y hof
              cases h
              rw [he] at hp
              obtain ⟨b, m, c', ⟨h1, hlt⟩, h2⟩ := hp
              rcases hI.blk i _ hk with ⟨A, h3, hnil⟩ | ⟨b', c'', us, rest, h3, h4, h5, h6, h7, h8⟩
              · rw [h1] at h3; injection h3 with _ h3b _; omega
              · have h3' := h3
                rw [h1] at h3
                cases h3
                have hg : l[k]? = some (l.getD k (zEl t)) := by rw [List.getD_eq_getElem?_getD, List.getElem?_eq_getElem hlt]; rfl
                obtain ⟨u1, u2, u3, rfl, h9, h10, h11⟩ := RdL.split h8 hg
                have hu2 : u2.length = sz t := Rd.len h10
                have hput := VsOK.putCells (off := off) (Rd.cells (μ := μ) h10) hxs
                obtain ⟨q1, q2, hq, hq1, hq2⟩ := ofCells_ok hof hput
                rw [VsOK] at hq2
                rw [hq2, List.append_nil] at hq
                have hle' : k * sz t + off + (a.eval x).cells.toList.length ≤ (u1 ++ u2 ++ u3 ++ rest).length := by
                  have := hs.2
                  simp only [List.length_append]
                  rw [hlen]
                  omega
                have hr := store_ok (P := P) (T := T) hn h6 rfl (by rw [hlen]; exact hc1.1) hle' hone
                have hrow : (u1 ++ u2 ++ u3 ++ rest).take (k * sz t + off) ++ (a.eval x).cells.toList ++ (u1 ++ u2 ++ u3 ++ rest).drop (k * sz t + off + (a.eval x).cells.toList.length) = u1 ++ q1 ++ u3 ++ rest := by
                  rw [← hq, ← h9]
                  have e1 : (u1 ++ u2 ++ u3 ++ rest).take (u1.length + off) = u1 ++ u2.take off := by
                    rw [List.append_assoc, List.append_assoc, List.take_length_add_append, List.take_append_of_le_length (by have := hs.2; omega)]
                  have e2 : (u1 ++ u2 ++ u3 ++ rest).drop (u1.length + off + (a.eval x).cells.toList.length) = u2.drop (off + (a.eval x).cells.toList.length) ++ u3 ++ rest := by
                    rw [Nat.add_assoc, List.append_assoc, List.append_assoc, List.drop_length_add_append, List.drop_append_of_le_length (by have := hs.2; rw [hlen]; omega), List.append_assoc]
                  rw [e1, e2]
                  simp
                rw [hrow] at hr
                have hl' : (l.set k y).length = l.length := List.length_set
                have hI' := hI.set (w' := w.setRow b (u1 ++ q1 ++ u3 ++ rest).toArray) i b _ (.arr e t (l.set k y)) hk (by rw [h1]; rfl)
                  (fun j hk' => setRow_other w b j _ hk') (setRow_size b _) rfl rfl rfl (Nat.le_refl _) (fun hS => .inr ⟨b, c'', u1 ++ q1 ++ u3, rest, by rw [hl']; exact h1, by rw [hl']; exact h4, h5, setRow_heap w b _ _ _ _ h6, by
                    have hq1l := Rd.len hq1
                    simp only [List.length_append] at h7 ⊢
                    omega, RdL.mono (fun _ h => h) (Nat.le_of_eq (setRow_size b _).symm) hS (h11 y q1 hq1)⟩)
                have hnS := (hI.notS i _ hk b (by rw [h1]; rfl)).1
                refine step_of (fun o ho => ?_) (.inr ⟨rfl, rfl⟩) hI' (VsOK.mono (fun _ h => h) (Nat.le_of_eq (setRow_size b _).symm) (fun j hk' => setRow_other w b j _ (fun e => hnS (e ▸ hk'))) hT) trivial
                simp only [execOp, ho, h2, hs.1, Sem.run_bind, hr, Result.andThen_ok, Sem.run_pure]
            · cases h
          · cases h
        · cases h
      · cases h
    · cases h
  · cases h

theorem evH_alloc {T : TypeId} {id : Nat} {av : AV} {c : Bool} {H' : Hp} {g : Option Nat} (hI : Inv F μ S H w) (hd : F.fix id = none) (hT : VsOK μ S w tm a.tmps.toList) {ρ : Operand → AV} (hρ : ∀ x, VOK μ S w (ρ x) (a.eval x))
    (h : evH P H (.alloc T) ρ id = .go c av H' g) (hc : c = true) : Step P F (.alloc T) a w (tmGone tm g) H' av := by
  simp only [evH] at h
  split at h
  · cases h
  split at h
  · rename_i l hl
    cases h
    obtain ⟨v, h1, h2⟩ := zero_ok (P := P) (μ := μ) (S := S) (w := w) hl
    obtain ⟨n1, n2, n3⟩ := new_ok hI hT (T := T) id hd h2
    have hk : keeps (but id) l = l := by
      unfold zeroAV at hl
      obtain ⟨i, _, h3⟩ := Option.bind_eq_some_iff.1 hl
      obtain ⟨v, _, rfl⟩ := Option.map_eq_some_iff.1 h3
      exact keeps_sc _ _
    rw [hk] at n1
    refine step_of (fun o ho => ?_) (.inl rfl) n1 n2 n3
    simp only [execOp, ho]
    exact run_val (alloc_run h1)
  · cases h
theorem evH_box {T : TypeId} {x : Operand} {id : Nat} {av : AV} {c : Bool} {H' : Hp} {g : Option Nat} (hI : Inv F μ S H w) (hd : F.fix id = none) (hT : VsOK μ S w tm a.tmps.toList) {ρ : Operand → AV} (hρ : ∀ x, VOK μ S w (ρ x) (a.eval x))
    (h : evH P H (.box T x) ρ id = .go c av H' g) (hc : c = true) : Step P F (.box T x) a w (tmGone tm g) H' av := by
  simp only [evH] at h
  split at h
  · rename_i l hl
    cases h
    have h2 := avCells_ok hl (hρ x)
    obtain ⟨n1, n2, n3⟩ := new_ok hI hT (T := T) id hd h2
    refine step_of (fun o ho => ?_) (.inl rfl) n1 n2 n3
    simp only [execOp, ho]
    exact run_val box_run
  · cases h
theorem evH_index {t : TypeId} {x i : Operand} {id : Nat} {av : AV} {c : Bool} {H' : Hp} {g : Option Nat} (hI : Inv F μ S H w) (hT : VsOK μ S w tm a.tmps.toList) {ρ : Operand → AV} (hρ : ∀ x, VOK μ S w (ρ x) (a.eval x))
    (h : evH P H (.indexAddr t x i) ρ id = .go c av H' g) (hc : c = true) : Step P F (.indexAddr t x i) a w (tmGone tm g) H' av := by
  have hx := hρ x
  have hi := hρ i
  simp only [evH] at h
  split at h
  · rename_i j k n e hx' hi' hu
    split at h
    · rename_i e' ty l s hk hs
      split at h
      · rename_i hsz
        cases h
        have hc' := of_decide_eq_true hc
        rw [hx'] at hx
        rw [hi', VOK] at hi
        obtain ⟨h1, A, n', c', h2⟩ := hx
        rcases hI.blk j _ hk with ⟨A', h3, h4⟩ | ⟨b', c'', us, rest, h3, h4, h5, h6, h7, h8⟩
        · rw [h4] at hc'; simp at hc'; omega
        · refine step_of (nx := .value (.pointer (some ⟨b', n.toNat * s, none⟩))) (fun o ho => ?_) (.inl rfl) hI hT ⟨b', l.length, c'' + 1, ⟨h3, by omega⟩, by rw [Nat.add_zero]⟩
          simp only [execOp, ho]
          refine run_val ?_
          rw [h1, h3, hi]
          have := indexAt_row_ok (P := P) (w := w) (bl := b') (o := 0) (c := c'' + 1) (k := k) hu hs hc'.1 hc'.2
          rw [Nat.zero_add] at this
          exact this
      · cases h
    · cases h
  · rename_i j i0 s0 off k n len e hx' hi' hu
    split at h
    · rename_i e' ty l s hk hs
      split at h
      · rename_i hsz
        cases h
        have hc' := of_decide_eq_true hc
        rw [hx'] at hx
        rw [hi', VOK] at hi
        obtain ⟨b, n', c', ⟨h1, h2⟩, h3⟩ := hx
        rw [hc'.1, hsz.2.2, Nat.zero_mul, Nat.zero_add] at h3
        rcases hI.blk j _ hk with ⟨A', h4, h5⟩ | ⟨b', c'', us, rest, h4, h5, h6, h7, h8, h9⟩
        · rw [h5] at hc'; simp at hc'; omega
        · have h4' := h4
          rw [h1] at h4
          cases h4
          refine step_of (nx := .value (.pointer (some ⟨b, n.toNat * s, none⟩))) (fun o ho => ?_) (.inl rfl) hI hT ⟨b, l.length, c'' + 1, ⟨h4', by omega⟩, by rw [Nat.add_zero]⟩
          simp only [execOp, ho]
          refine run_val ?_
          rw [h3, hi]
          have := indexAt_arr_ok (P := P) (w := w) (bl := b) (o := 0) (k := k) hu hs hc'.2.1 hc'.2.2.2
          rw [Nat.zero_add] at this
          exact this
      · cases h
    · cases h
  · cases h
theorem evH_len {cl : Call} {id : Nat} {av : AV} {c : Bool} {H' : Hp} {g : Option Nat} (hcal : cl.callee = .builtin .len) (hI : Inv F μ S H w) (hT : VsOK μ S w tm a.tmps.toList) {ρ : Operand → AV} (hρ : ∀ x, VOK μ S w (ρ x) (a.eval x))
    (h : evH P H (.call cl) ρ id = .go c av H' g) (hc : c = true) : Step P F (.call cl) a w (tmGone tm g) H' av := by
  simp only [evH, hcal] at h
  split at h
  · rename_i j e hx ht
    split at h
    · rename_i e' ty l hk
      cases h
      obtain ⟨x, hx1, hx2⟩ := Option.map_eq_some_iff.1 hx
      obtain ⟨t, ht1, ht2⟩ := Option.bind_eq_some_iff.1 ht
      have h1 := hρ x
      rw [hx2] at h1
      obtain ⟨h2, _⟩ := h1
      have hv : ∃ A c, μ j = .slice A l.length c := by
        rcases hI.blk j _ hk with ⟨A', h3, h4⟩ | ⟨b', c'', us, rest, h3, _⟩
        · exact ⟨A', 0, by rw [h3, h4]; rfl⟩
        · exact ⟨_, _, h3⟩
      obtain ⟨A, c', hv⟩ := hv
      refine step_of (nx := .value (.int .i64 l.length)) (fun o ho => ?_) (.inl rfl) hI hT rfl
      simp only [execOp, ho]
      refine len_ok hcal hx1 ht1 ?_
      have h3 := h2.trans hv
      simp only [Builtin.len_, ht1, Array.getElem?_map, hx1, Option.map_some, Sem.run_bind, run_und ht2, Result.andThen_ok, h3, goInt, Sem.run_pure]
    · cases h
  · cases h
end
end Go.Proofs.YtigekmmdflaeaaaDoorE
