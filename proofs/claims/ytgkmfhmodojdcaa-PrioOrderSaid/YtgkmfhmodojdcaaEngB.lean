/- Several texts, as one: what is named of them. -/
import Derived.Test.YtgkmfhmodojdcaaEngA
import Derived.Laws.AppendOwn
import Derived.Laws.CopyRow
import Derived.Laws.Cells
import Derived.Laws.Tables
import Derived.Laws.MakeOwn
set_option linter.all false
namespace Go.Proofs.YtgkmfhmodojdcaaE
open Go
set_option linter.unusedVariables false

inductive OR where
  | no
  | go (c : Bool) (av : AV) (H : Hp) (gone : Option Nat)

def avCells : AV → Option (List AV)
  | .top => none
  | .tup _ => none
  | .agg l => some l
  | .sc v => match v with
    | .agg cs => some (cs.toList.map .sc)
    | .tuple _ => none
    | v => some [.sc v]
  | .row t l => some [.row t l]
  | .own id => some [.own id]
  | .ptr id o => some [.ptr id o]
  | .eptr t x o => some [.eptr t x o]
  | .optr id i s o => some [.optr id i s o]
  | .fn f l => some [.fn f l]
  | .mp id => some [.mp id]

def isOne : AV → Bool
  | .top => false
  | .tup _ => false
  | .agg _ => false
  | .sc v => match v with
    | .agg _ => false
    | .tuple _ => false
    | _ => true
  | _ => true

def allOne : List AV → Bool
  | [] => true
  | a :: l => match isOne a with
    | true => allOne l
    | false => false

def loadAV (P : Program) (T : TypeId) (cells : List AV) (off : Nat) : Option AV :=
  match P.underlying T, szT P T with
  | some _, some n => if isAggT P T then (if off + n ≤ cells.length then some (.agg ((cells.drop off).take n)) else none) else cells[off]?
  | _, _ => none

def putCells (cells : List AV) (off : Nat) (l : List AV) : List AV := cells.take off ++ l ++ cells.drop (off + l.length)

def zeroAV (P : Program) (T : TypeId) : Option (List AV) := (P.info? T).bind fun i => i.zero.map fun v => v.cells.toList.map .sc

section
variable {P : Program} {μ : Nat → Value} {S : Nat → Prop} {w : World}

theorem vs_sc : ∀ l : List Value, VsOK μ S w (l.map .sc) l
  | [] => rfl
  | v :: l => ⟨v, l, rfl, rfl, vs_sc l⟩

theorem one_of {a : AV} {u : Value} (h : VOK μ S w a u) (ha : isOne a = true) : u.oneCell' = true := by
  cases a with
  | top => simp [isOne] at ha
  | tup l => simp [isOne] at ha
  | agg l => simp [isOne] at ha
  | sc v =>
    rw [VOK] at h
    subst h
    cases u <;> first | rfl | simp [isOne] at ha
  | row t l => obtain ⟨A, c, h1, _⟩ := h; simp only [List.cons.injEq, and_true] at h1; rw [h1]; rfl
  | own id => obtain ⟨_, A, n, c, h⟩ := h; rw [h]; rfl
  | ptr id o => obtain ⟨b, _, h⟩ := h; rw [h]; rfl
  | eptr t x o => obtain ⟨b, o, cs, h, _⟩ := h; rw [h]; rfl
  | optr id i s o => obtain ⟨b, n, c, _, h⟩ := h; rw [h]; rfl
  | fn f l => obtain ⟨us, h, _⟩ := h; rw [h]; rfl
  | mp id => obtain ⟨_, b, h⟩ := h; rw [h]; rfl
theorem all_of : ∀ {l : List AV} {us : List Value}, VsOK μ S w l us → allOne l = true → ∀ u ∈ us, u.oneCell' = true
  | [], us, h, _, u, hu => by rw [VsOK] at h; rw [h] at hu; cases hu
  | a :: l, us, h, ha, u, hu => by
    obtain ⟨v, us', rfl, h2, h3⟩ := h
    have h1 : isOne a = true ∧ allOne l = true := by
      unfold allOne at ha
      cases he : isOne a with
      | true => rw [he] at ha; exact ⟨rfl, ha⟩
      | false => rw [he] at ha; cases ha
    cases hu with
    | head => exact one_of h2 h1.1
    | tail _ hu => exact all_of h3 h1.2 u hu

theorem avCells_ok {a : AV} {l : List AV} {u : Value} (h : avCells a = some l) (hu : VOK μ S w a u) : VsOK μ S w l u.cells.toList := by
  have one : ∀ {b : AV}, VOK μ S w b u → u.oneCell' = true → VsOK μ S w [b] u.cells.toList := by
    intro b hb h1
    cases u <;> first | exact ⟨_, [], rfl, hb, rfl⟩ | simp [Value.oneCell'] at h1
  cases a with
  | top => cases h
  | tup l => cases h
  | agg l' =>
    cases h
    obtain ⟨us, rfl, h2⟩ := hu
    exact h2
  | sc v =>
    rw [VOK] at hu
    subst hu
    cases u <;> first
      | (cases h; exact ⟨_, [], rfl, rfl, rfl⟩)
      | (cases h; exact vs_sc _)
      | cases h
  | row t l => cases h; exact one hu (one_of hu rfl)
  | own id => cases h; exact one hu (one_of hu rfl)
  | ptr id o => cases h; exact one hu (one_of hu rfl)
  | eptr t x o => cases h; exact one hu (one_of hu rfl)
  | optr id i s o => cases h; exact one hu (one_of hu rfl)
  | fn f l => cases h; exact one hu (one_of hu rfl)
  | mp id => cases h; exact one hu (one_of hu rfl)

theorem zero_ok {T : TypeId} {l : List AV} (h : zeroAV P T = some l) : ∃ v, (zeroValue T).run P w = .ok v w ∧ VsOK μ S w l v.cells.toList := by
  unfold zeroAV at h
  obtain ⟨i, h1, h2⟩ := Option.bind_eq_some_iff.1 h
  obtain ⟨v, h3, rfl⟩ := Option.map_eq_some_iff.1 h2
  exact ⟨v, by simp [zeroValue, typeInfo, go_sem, h1, h3], vs_sc _⟩

theorem load_ok {T : TypeId} {cells : List AV} {off : Nat} {av : AV} {us : List Value} {b o : Nat} (h : loadAV P T cells off = some av) (hu : VsOK μ S w cells us) (hc : CellsAt w b o us) :
    ∃ v, (Instr.loadAt T (.pointer (some ⟨b, o + off, none⟩))).run P w = .ok v w ∧ VOK μ S w av v := by
  unfold loadAV at h
  split at h
  · rename_i d n hd hn
    split at h
    · rename_i ha
      split at h
      · rename_i hle
        cases h
        have hlen := VsOK.len hu
        have hcs : ((us.drop off).take n).length = n := by simp [List.length_take, List.length_drop]; omega
        refine ⟨.agg ((us.drop off).take n).toArray, ?_, _, rfl, VsOK.take n (VsOK.drop off hu)⟩
        simp only [Instr.loadAt, Instr.sureAddr, loadVar, Sem.run_bind, Sem.run_pure, Result.andThen_ok, run_isAgg hd, ha, if_true, run_sz hn]
        have hl := run_loadCells_list (P := P) w (⟨b, o + off, none⟩ : Addr) ((us.drop off).take n) (fun j v hv => by
          rw [add_none, Nat.add_assoc]
          refine hc (off + j) v ?_
          have hj : j < n := by rw [← hcs]; exact (List.getElem?_eq_some_iff.1 hv).1
          rw [List.getElem?_take_of_lt hj, List.getElem?_drop] at hv
          exact hv)
        rw [hcs] at hl
        rw [hl]
        rfl
      · cases h
    · rename_i ha
      have ha' : isAggT P T = false := by simpa using ha
      obtain ⟨u, hu', hv⟩ := VsOK.get hu h
      refine ⟨u, ?_, hv⟩
      simp only [Instr.loadAt, Instr.sureAddr, loadVar, Sem.run_bind, Sem.run_pure, Result.andThen_ok, run_isAgg hd, ha', Bool.false_eq_true, if_false]
      have hld : (load ⟨b, o + off, none⟩).run P w = .ok u w := by simp [load, Sem.run, hc off u hu']
      exact hld
  · cases h

theorem cellsAt_heap {b : Nat} {us : List Value} {T : TypeId} {fz : Nat × Nat} (h : w.heap[b]? = some (.cells us.toArray T fz)) : CellsAt w b 0 us := by
  intro j u hu
  simp [World.cell?, h, hu]

theorem store_ok {T T' : TypeId} {b off : Nat} {us vs : List Value} {n : Nat} {v : Value} (hn : szT P T = some n) (hb : w.heap[b]? = some (.cells us.toArray T' (0, 0))) (hv : v.cells.toList = vs) (hl : vs.length = n) (hle : off + vs.length ≤ us.length) (h1 : ∀ u ∈ vs, u.oneCell' = true) :
    (Instr.storeAt T (.pointer (some ⟨b, off, none⟩)) v).run P w = .ok () (w.setRow b (us.take off ++ vs ++ us.drop (off + vs.length)).toArray) := by
  have hsz : v.cells.size = n := by rw [← Array.length_toList, hv, hl]
  have hst := run_storeCells_at P b off T' vs 0 us.toArray w hb (by simpa using hle) h1
  simp only [Nat.add_zero, List.toList_toArray] at hst
  simp only [Instr.storeAt, Instr.sureAddr, storeVar, Sem.run_bind, Sem.run_pure, Result.andThen_ok, run_sz hn, hsz, hv, hst, ne_eq, not_true_eq_false, if_false]

theorem VsOK.putCells {cells l : List AV} {us vs : List Value} {off : Nat} (h : VsOK μ S w cells us) (k : VsOK μ S w l vs) : VsOK μ S w (putCells cells off l) (us.take off ++ vs ++ us.drop (off + vs.length)) := by
  unfold Go.Proofs.YtgkmfhmodojdcaaE.putCells
  rw [VsOK.len k]
  exact VsOK.append (VsOK.append (VsOK.take off h) k) (VsOK.drop _ h)

theorem setRow_size (b : Nat) (cs : Array Value) : (w.setRow b cs).heap.size = w.heap.size := by simp [World.setRow]
end

def Step (P : Program) {D : Prop} (F : Fr D) (op : Op) (a : Act) (w : World) (tm : List AV) (H : Hp) (av : AV) : Prop :=
  ∀ o : Oper, o.op = op → ∃ nx v w' μ S, (execOp a.eval o).run P w = .ok nx w' ∧ (nx = .value v ∨ nx = .skip ∧ v = undef) ∧ Inv F μ S H w' ∧ VsOK μ S w' tm a.tmps.toList ∧ VOK μ S w' av v

def tmGone (tm : List AV) : Option Nat → List AV
  | none => tm
  | some d => keeps (but d) tm

def evH (P : Program) (H : Hp) (op : Op) (ρ : Operand → AV) (id : Nat) : OR :=
  match op with
  | .alloc T => match zeroAV P T with
    | some l => .go true (.ptr id 0) ((id, .box T l) :: keepH (but id) (rm id H)) (some id)
    | none => .no
  | .box T x => match avCells (ρ x) with
    | some l => .go true (.ptr id 0) ((id, .box T (keeps (but id) l)) :: keepH (but id) (rm id H)) (some id)
    | none => .no
  | .load T p => match ρ p with
    | .ptr i off => match lk H i with
      | some (.box _ cells) => match loadAV P T cells off with
        | some a => .go true a H none
        | none => .no
      | _ => .no
    | .eptr t x off => match loadAV P T (cellsOf t x) off with
      | some a => .go true a H none
      | none => .no
    | .optr i n s off => match lk H i with
      | some (.arr e t l) => if s = sz t then match loadAV P T (cellsOf t (l.getD n (zEl t))) off with
        | some a => .go true a H none
        | none => .no
        else .no
      | _ => .no
    | _ => .no
  | .store T p x => match avCells (ρ x), szT P T with
    | some vs, some n => if vs.length = n ∧ allOne vs = true then match ρ p with
      | .ptr i off => match lk H i with
        | some (.box T' cells) => if off + vs.length ≤ cells.length then .go true .top ((i, .box T' (putCells cells off vs)) :: rm i H) none else .no
        | _ => .no
      | .optr i k s off => match lk H i with
        | some (.arr e t l) => if s = sz t ∧ off + vs.length ≤ sz t then match ofCells t (putCells (cellsOf t (l.getD k (zEl t))) off vs) with
          | some (y, []) => .go true .top ((i, .arr e t (l.set k y)) :: rm i H) none
          | _ => .no
          else .no
        | _ => .no
      | _ => .no
      else .no
    | _, _ => .no
  | .indexAddr t x i => match ρ x, ρ i, P.underlying t with
    | .own j, .sc (.int _ n), some (.slice e) => match lk H j, szT P e with
      | some (.arr _ ty l), some s => if s = sz ty then .go (decide (0 ≤ n ∧ n < (l.length : Int))) (.optr j n.toNat s 0) H none else .no
      | _, _ => .no
    | _, _, _ => .no
  | .call c => match c.callee with
    | .builtin .len => match (c.args[0]?).map ρ, (c.argTypes[0]?).bind P.underlying with
      | some (.own j), some (.slice _) => match lk H j with
        | some (.arr _ ty l) => .go true (I .i64 l.length) H none
        | _ => .no
      | _, _ => .no
    | _ => .no
  | _ => .no


theorem step_of {P : Program} {D : Prop} {F : Fr D} {op : Op} {a : Act} {w : World} {tm : List AV} {H : Hp} {av : AV} {nx : Next} {v : Value} {w' : World} {μ : Nat → Value} {S : Nat → Prop}
    (hr : ∀ o : Oper, o.op = op → (execOp a.eval o).run P w = .ok nx w') (hx : nx = .value v ∨ nx = .skip ∧ v = undef) (hI : Inv F μ S H w') (hT : VsOK μ S w' tm a.tmps.toList) (hv : VOK μ S w' av v) : Step P F op a w tm H av :=
  fun o ho => ⟨nx, v, w', μ, S, hr o ho, hx, hI, hT, hv⟩

section
variable {P : Program} {D : Prop} {F : Fr D} {μ : Nat → Value} {S : Nat → Prop} {w : World} {H : Hp} {tm : List AV} {a : Act}

theorem new_ok (hI : Inv F μ S H w) (hT : VsOK μ S w tm a.tmps.toList) {T : TypeId} {l : List AV} {us : List Value} (id : Nat) (hl : VsOK μ S w l us) :
    Inv F (upd μ id (.pointer (some ⟨w.heap.size, 0, none⟩))) S ((id, .box T (keeps (but id) l)) :: keepH (but id) (rm id H)) (w.alloc (.cells us.toArray T)) ∧
    VsOK (upd μ id (.pointer (some ⟨w.heap.size, 0, none⟩))) S (w.alloc (.cells us.toArray T)) (keeps (but id) tm) a.tmps.toList ∧
    VOK (upd μ id (.pointer (some ⟨w.heap.size, 0, none⟩))) S (w.alloc (.cells us.toArray T)) (.ptr id 0) (.pointer (some ⟨w.heap.size, 0, none⟩)) := by
  have hμ : ∀ j, but id j = true → upd μ id (.pointer (some ⟨w.heap.size, 0, none⟩)) j = μ j := fun j hj => upd_other μ _ (but_iff.1 hj)
  have hSw : ∀ b, S b → (w.alloc (.cells us.toArray T)).heap[b]? = w.heap[b]? := fun b hb => heap_alloc_lt w _ (hI.Slt b hb)
  have hz : w.heap.size ≤ (w.alloc (.cells us.toArray T)).heap.size := by simp
  refine ⟨hI.new (.cells us.toArray T) id _ _ rfl ⟨w.heap.size, us, upd_same _ _ _, ?_, VsOK.keep hμ (fun _ h => h) hz hSw hl⟩, VsOK.keep hμ (fun _ h => h) hz hSw hT, w.heap.size, upd_same _ _ _, rfl⟩
  exact heap_alloc_new w _

theorem alloc_run {T : TypeId} {v : Value} (hz : (zeroValue T).run P w = .ok v w) : (Instr.alloc T true (.tuple #[])).run P w = .ok (.pointer (some ⟨w.heap.size, 0, none⟩)) (w.alloc (.cells v.cells T)) := by
  simp only [Instr.alloc, Sem.run_bind, hz, Result.andThen_ok]
  simp [newVar, newRow, newObj, go_sem, Sem.run]
theorem box_run {T : TypeId} {v : Value} : (Instr.box T v).run P w = .ok (.pointer (some ⟨w.heap.size, 0, none⟩)) (w.alloc (.cells v.cells T)) := by
  simp [Instr.box, newVar, newRow, newObj, go_sem, Sem.run]

theorem keeps_sc (p : Nat → Bool) : ∀ l : List Value, keeps p (l.map .sc) = l.map .sc
  | [] => rfl
  | v :: l => by simp [keeps, keep, keeps_sc p l]

theorem RdL.split {t : Ty} : ∀ {l : List (El t)} {us : List Value} {k : Nat} {x : El t}, RdL S w t l us → l[k]? = some x →
    ∃ u1 u2 u3, us = u1 ++ u2 ++ u3 ∧ u1.length = k * sz t ∧ Rd S w t x u2 ∧ ∀ y v2, Rd S w t y v2 → RdL S w t (l.set k y) (u1 ++ v2 ++ u3)
  | [], us, k, x, h, hk => by simp at hk
  | z :: l, us, 0, x, h, hk => by
    obtain ⟨c1, c2, rfl, h2, h3⟩ := h
    simp only [List.getElem?_cons_zero, Option.some.injEq] at hk
    subst hk
    exact ⟨[], c1, c2, rfl, by simp, h2, fun y v2 hy => ⟨v2, c2, rfl, hy, h3⟩⟩
  | z :: l, us, k + 1, x, h, hk => by
    obtain ⟨c1, c2, rfl, h2, h3⟩ := h
    obtain ⟨u1, u2, u3, rfl, h4, h5, h6⟩ := RdL.split h3 (k := k) (x := x) (by simpa using hk)
    refine ⟨c1 ++ u1, u2, u3, by simp, by rw [List.length_append, Rd.len h2, h4, Nat.add_mul]; omega, h5, fun y v2 hy => ⟨c1, u1 ++ v2 ++ u3, by simp, h2, h6 y v2 hy⟩⟩

theorem evH_load {T : TypeId} {p : Operand} {id : Nat} {av : AV} {c : Bool} {H' : Hp} {g : Option Nat} (hI : Inv F μ S H w) (hT : VsOK μ S w tm a.tmps.toList) {ρ : Operand → AV} (hρ : ∀ x, VOK μ S w (ρ x) (a.eval x))
    (h : evH P H (.load T p) ρ id = .go c av H' g) (hc : c = true) : Step P F (.load T p) a w (tmGone tm g) H' av := by
  have hp := hρ p
  have fin : ∀ {v : Value}, (Instr.loadAt T (a.eval p)).run P w = .ok v w → VOK μ S w av v → Step P F (.load T p) a w tm H av := by
    intro v hr hv
    exact step_of (fun o ho => by simp only [execOp, ho]; exact run_val hr) (.inl rfl) hI hT hv
  simp only [evH] at h
  split at h
  · rename_i i off he
    split at h
    · rename_i T' cells hk
      split at h
      · rename_i a' hl
        cases h
        rw [he] at hp
        obtain ⟨b, h1, h2⟩ := hp
        obtain ⟨b', us, h3, h4, h5⟩ := hI.blk i _ hk
        rw [h1] at h3
        cases h3
        obtain ⟨v, h6, h7⟩ := load_ok hl h5 (cellsAt_heap h4)
        rw [Nat.zero_add] at h6
        exact fin (by rw [h2]; exact h6) h7
      · cases h
    · cases h
  · rename_i t x off he
    split at h
    · rename_i a' hl
      cases h
      rw [he] at hp
      obtain ⟨b, o, cs, h1, h2, h3, h4, h5⟩ := hp
      obtain ⟨v, h6, h7⟩ := load_ok hl (Rd.cells h4) h5
      exact fin (by rw [h1]; exact h6) h7
    · cases h
  · rename_i i n s off he
    split at h
    · rename_i e t l hk
      split at h
      · rename_i hs
        split at h
        · rename_i a' hl
          cases h
          rw [he] at hp
          obtain ⟨b, m, c', ⟨h1, hlt⟩, h2⟩ := hp
          rcases hI.blk i _ hk with ⟨A, h3, hnil⟩ | ⟨b', c'', us, rest, h3, h4, h5, h6, h7, h8⟩
          · rw [h1] at h3; injection h3 with _ h3b _; omega
          · rw [h1] at h3
            cases h3
            have hg : l[n]? = some (l.getD n (zEl t)) := by rw [List.getD_eq_getElem?_getD, List.getElem?_eq_getElem hlt]; rfl
            obtain ⟨cs, h9, h10⟩ := RdL.get h8 hg
            have hcs : CellsAt w b (n * sz t) cs := by
              intro j u hu
              have := h10 j u hu
              have hlt2 : n * sz t + j < us.length := (List.getElem?_eq_some_iff.1 this).1
              rw [show w.cell? ⟨b, n * sz t + j, none⟩ = (us ++ rest)[n * sz t + j]? from by simp [World.cell?, h6]]
              rw [List.getElem?_append_left hlt2]
              exact this
            obtain ⟨v, h11, h12⟩ := load_ok hl (Rd.cells h9) hcs
            exact fin (by rw [h2, hs]; exact h11) h12
        · cases h
      · cases h
    · cases h
  · cases h

theorem evH_store {T : TypeId} {p x : Operand} {id : Nat} {av : AV} {c : Bool} {H' : Hp} {g : Option Nat} (hI : Inv F μ S H w) (hT : VsOK μ S w tm a.tmps.toList) {ρ : Operand → AV} (hρ : ∀ x, VOK μ S w (ρ x) (a.eval x))
    (h : evH P H (.store T p x) ρ id = .go c av H' g) (hc : c = true) : Step P F (.store T p x) a w (tmGone tm g) H' av := by
  have hp := hρ p
  have hx := hρ x
  simp only [evH] at h
  split at h
  · rename_i vs n hvs hn
    have hxs := avCells_ok hvs hx
    have hlen := VsOK.len hxs
    split at h
    · rename_i hc1
      have hone := all_of hxs hc1.2
      split at h
      · rename_i i off he
        split at h
        · rename_i T' cells hk
          split at h
          · rename_i hle
            cases h
            rw [he] at hp
            obtain ⟨b, h1, h2⟩ := hp
            obtain ⟨b', us, h3, h4, h5⟩ := hI.blk i _ hk
            have h3' := h3
            rw [h1] at h3
            cases h3
            have hle' : off + (a.eval x).cells.toList.length ≤ us.length := by rw [hlen, VsOK.len h5]; exact hle
            have hr := store_ok (P := P) (T := T) hn h4 rfl (by rw [hlen]; exact hc1.1) hle' hone
            have hI' := hI.set (w' := w.setRow b (us.take off ++ (a.eval x).cells.toList ++ us.drop (off + (a.eval x).cells.toList.length)).toArray) i b _ (.box T' (putCells cells off vs)) hk (by rw [h1]; rfl)
              (fun k hk' => setRow_other w b k _ hk') (setRow_size b _) rfl rfl rfl (Nat.le_refl _) (fun hS => ⟨b, _, h1, setRow_heap w b _ _ _ _ h4, VsOK.mono (fun _ h => h) (Nat.le_of_eq (setRow_size b _).symm) hS (VsOK.putCells h5 hxs)⟩)
            have hnS := (hI.notS i _ hk b (by rw [h1]; rfl)).1
            refine step_of (fun o ho => ?_) (.inr ⟨rfl, rfl⟩) hI' (VsOK.mono (fun _ h => h) (Nat.le_of_eq (setRow_size b _).symm) (fun k hk' => setRow_other w b k _ (fun e => hnS (e ▸ hk'))) hT) trivial
            simp only [execOp, ho, h2, Sem.run_bind, hr, Result.andThen_ok, Sem.run_pure]
          · cases h
        · cases h
      · rename_i i k s off he
        split at h
        · rename_i e t l hk
          split at h
          · rename_i hs
            split at h
            · rename_i y hof
              cases h
              rw [he] at hp
              obtain ⟨b, m, c', ⟨h1, hlt⟩, h2⟩ := hp
              rcases hI.blk i _ hk with ⟨A, h3, hnil⟩ | ⟨b', c'', us, rest, h3, h4, h5, h6, h7, h8⟩
              · rw [h1] at h3; injection h3 with _ h3b _; omega
              · have h3' := h3
                rw [h1] at h3
                cases h3
                have hg : l[k]? = some (l.getD k (zEl t)) := by rw [List.getD_eq_getElem?_getD, List.getElem?_eq_getElem hlt]; rfl
                obtain ⟨u1, u2, u3, rfl, h9, h10, h11⟩ := RdL.split h8 hg
                have hu2 : u2.length = sz t := Rd.len h10
                have hput := VsOK.putCells (off := off) (Rd.cells (μ := μ) h10) hxs
                obtain ⟨q1, q2, hq, hq1, hq2⟩ := ofCells_ok hof hput
                rw [VsOK] at hq2
                rw [hq2, List.append_nil] at hq
                have hle' : k * sz t + off + (a.eval x).cells.toList.length ≤ (u1 ++ u2 ++ u3 ++ rest).length := by
                  have := hs.2
                  simp only [List.length_append]
                  rw [hlen]
                  omega
                have hr := store_ok (P := P) (T := T) hn h6 rfl (by rw [hlen]; exact hc1.1) hle' hone
                have hrow : (u1 ++ u2 ++ u3 ++ rest).take (k * sz t + off) ++ (a.eval x).cells.toList ++ (u1 ++ u2 ++ u3 ++ rest).drop (k * sz t + off + (a.eval x).cells.toList.length) = u1 ++ q1 ++ u3 ++ rest := by
                  rw [← hq, ← h9]
                  have e1 : (u1 ++ u2 ++ u3 ++ rest).take (u1.length + off) = u1 ++ u2.take off := by
                    rw [List.append_assoc, List.append_assoc, List.take_length_add_append, List.take_append_of_le_length (by have := hs.2; omega)]
                  have e2 : (u1 ++ u2 ++ u3 ++ rest).drop (u1.length + off + (a.eval x).cells.toList.length) = u2.drop (off + (a.eval x).cells.toList.length) ++ u3 ++ rest := by
                    rw [Nat.add_assoc, List.append_assoc, List.append_assoc, List.drop_length_add_append, List.drop_append_of_le_length (by have := hs.2; rw [hlen]; omega), List.append_assoc]
                  rw [e1, e2]
                  simp
                rw [hrow] at hr
                have hl' : (l.set k y).length = l.length := List.length_set
                have hI' := hI.set (w' := w.setRow b (u1 ++ q1 ++ u3 ++ rest).toArray) i b _ (.arr e t (l.set k y)) hk (by rw [h1]; rfl)
                  (fun j hk' => setRow_other w b j _ hk') (setRow_size b _) rfl rfl rfl (Nat.le_refl _) (fun hS => .inr ⟨b, c'', u1 ++ q1 ++ u3, rest, by rw [hl']; exact h1, by rw [hl']; exact h4, h5, setRow_heap w b _ _ _ _ h6, by
                    have hq1l := Rd.len hq1
                    simp only [List.length_append] at h7 ⊢
                    omega, RdL.mono (fun _ h => h) (Nat.le_of_eq (setRow_size b _).symm) hS (h11 y q1 hq1)⟩)
                have hnS := (hI.notS i _ hk b (by rw [h1]; rfl)).1
                refine step_of (fun o ho => ?_) (.inr ⟨rfl, rfl⟩) hI' (VsOK.mono (fun _ h => h) (Nat.le_of_eq (setRow_size b _).symm) (fun j hk' => setRow_other w b j _ (fun e => hnS (e ▸ hk'))) hT) trivial
                simp only [execOp, ho, h2, hs.1, Sem.run_bind, hr, Result.andThen_ok, Sem.run_pure]
            · cases h
          · cases h
        · cases h
      · cases h
    · cases h
  · cases h

theorem evH_alloc {T : TypeId} {id : Nat} {av : AV} {c : Bool} {H' : Hp} {g : Option Nat} (hI : Inv F μ S H w) (hT : VsOK μ S w tm a.tmps.toList) {ρ : Operand → AV} (hρ : ∀ x, VOK μ S w (ρ x) (a.eval x))
    (h : evH P H (.alloc T) ρ id = .go c av H' g) (hc : c = true) : Step P F (.alloc T) a w (tmGone tm g) H' av := by
  simp only [evH] at h
  split at h
  · rename_i l hl
    cases h
    obtain ⟨v, h1, h2⟩ := zero_ok (P := P) (μ := μ) (S := S) (w := w) hl
    obtain ⟨n1, n2, n3⟩ := new_ok hI hT (T := T) id h2
    have hk : keeps (but id) l = l := by
      unfold zeroAV at hl
      obtain ⟨i, _, h3⟩ := Option.bind_eq_some_iff.1 hl
      obtain ⟨v, _, rfl⟩ := Option.map_eq_some_iff.1 h3
      exact keeps_sc _ _
    rw [hk] at n1
    refine step_of (fun o ho => ?_) (.inl rfl) n1 n2 n3
    simp only [execOp, ho]
    exact run_val (alloc_run h1)
  · cases h
theorem evH_box {T : TypeId} {x : Operand} {id : Nat} {av : AV} {c : Bool} {H' : Hp} {g : Option Nat} (hI : Inv F μ S H w) (hT : VsOK μ S w tm a.tmps.toList) {ρ : Operand → AV} (hρ : ∀ x, VOK μ S w (ρ x) (a.eval x))
    (h : evH P H (.box T x) ρ id = .go c av H' g) (hc : c = true) : Step P F (.box T x) a w (tmGone tm g) H' av := by
  simp only [evH] at h
  split at h
  · rename_i l hl
    cases h
    have h2 := avCells_ok hl (hρ x)
    obtain ⟨n1, n2, n3⟩ := new_ok hI hT (T := T) id h2
    refine step_of (fun o ho => ?_) (.inl rfl) n1 n2 n3
    simp only [execOp, ho]
    exact run_val box_run
  · cases h
theorem evH_index {t : TypeId} {x i : Operand} {id : Nat} {av : AV} {c : Bool} {H' : Hp} {g : Option Nat} (hI : Inv F μ S H w) (hT : VsOK μ S w tm a.tmps.toList) {ρ : Operand → AV} (hρ : ∀ x, VOK μ S w (ρ x) (a.eval x))
    (h : evH P H (.indexAddr t x i) ρ id = .go c av H' g) (hc : c = true) : Step P F (.indexAddr t x i) a w (tmGone tm g) H' av := by
  have hx := hρ x
  have hi := hρ i
  simp only [evH] at h
  split at h
  · rename_i j k n e hx' hi' hu
    split at h
    · rename_i e' ty l s hk hs
      split at h
      · rename_i hsz
        cases h
        have hc' := of_decide_eq_true hc
        rw [hx'] at hx
        rw [hi', VOK] at hi
        obtain ⟨h1, A, n', c', h2⟩ := hx
        rcases hI.blk j _ hk with ⟨A', h3, h4⟩ | ⟨b', c'', us, rest, h3, h4, h5, h6, h7, h8⟩
        · rw [h4] at hc'; simp at hc'; omega
        · refine step_of (nx := .value (.pointer (some ⟨b', n.toNat * s, none⟩))) (fun o ho => ?_) (.inl rfl) hI hT ⟨b', l.length, c'' + 1, ⟨h3, by omega⟩, by rw [Nat.add_zero]⟩
          simp only [execOp, ho]
          refine run_val ?_
          rw [h1, h3, hi]
          have := indexAt_row_ok (P := P) (w := w) (bl := b') (o := 0) (c := c'' + 1) (k := k) hu hs hc'.1 hc'.2
          rw [Nat.zero_add] at this
          exact this
      · cases h
    · cases h
  · cases h
theorem evH_len {cl : Call} {id : Nat} {av : AV} {c : Bool} {H' : Hp} {g : Option Nat} (hcal : cl.callee = .builtin .len) (hI : Inv F μ S H w) (hT : VsOK μ S w tm a.tmps.toList) {ρ : Operand → AV} (hρ : ∀ x, VOK μ S w (ρ x) (a.eval x))
    (h : evH P H (.call cl) ρ id = .go c av H' g) (hc : c = true) : Step P F (.call cl) a w (tmGone tm g) H' av := by
  simp only [evH, hcal] at h
  split at h
  · rename_i j e hx ht
    split at h
    · rename_i e' ty l hk
      cases h
      obtain ⟨x, hx1, hx2⟩ := Option.map_eq_some_iff.1 hx
      obtain ⟨t, ht1, ht2⟩ := Option.bind_eq_some_iff.1 ht
      have h1 := hρ x
      rw [hx2] at h1
      obtain ⟨h2, _⟩ := h1
      have hv : ∃ A c, μ j = .slice A l.length c := by
        rcases hI.blk j _ hk with ⟨A', h3, h4⟩ | ⟨b', c'', us, rest, h3, _⟩
        · exact ⟨A', 0, by rw [h3, h4]; rfl⟩
        · exact ⟨_, _, h3⟩
      obtain ⟨A, c', hv⟩ := hv
      refine step_of (nx := .value (.int .i64 l.length)) (fun o ho => ?_) (.inl rfl) hI hT rfl
      simp only [execOp, ho]
      refine len_ok hcal hx1 ht1 ?_
      have h3 := h2.trans hv
      simp only [Builtin.len_, ht1, Array.getElem?_map, hx1, Option.map_some, Sem.run_bind, run_und ht2, Result.andThen_ok, h3, goInt, Sem.run_pure]
    · cases h
  · cases h
end
end Go.Proofs.YtgkmfhmodojdcaaE

namespace Go.Proofs.YtgkmfhmodojdcaaE
open Go
set_option linter.unusedVariables false

mutual
def frz (id : Nat) (t : Ty) (l : List (El t)) : AV → AV
  | .own j => match Nat.beq j id with
    | true => .row t l
    | false => .own j
  | .agg m => .agg (frzs id t l m)
  | .tup m => .tup (frzs id t l m)
  | .fn f m => .fn f (frzs id t l m)
  | .top => .top
  | .sc v => .sc v
  | .row t l => .row t l
  | .eptr t x off => .eptr t x off
  | .ptr i o => .ptr i o
  | .optr i n s o => .optr i n s o
  | .mp i => .mp i
def frzs (id : Nat) (t : Ty) (l : List (El t)) : List AV → List AV
  | [] => []
  | a :: m => frz id t l a :: frzs id t l m
end
def frzB (id : Nat) (t : Ty) (l : List (El t)) : ABlk → ABlk
  | .box T cells => .box T (frzs id t l cells)
  | .arr e t l => .arr e t l
  | .mp kt vt m => .mp kt vt m
def frzH (id : Nat) (t : Ty) (l : List (El t)) : Hp → Hp
  | [] => []
  | (n, B) :: H => (n, frzB id t l B) :: frzH id t l H
def freeze (id : Nat) (st : St) : St := match lk st.H id with
  | some (.arr e t l) => ⟨frzs id t l st.tm, frzH id t l (rm id st.H)⟩
  | _ => st

section
variable {μ : Nat → Value} {S S' : Nat → Prop} {w : World} {id : Nat} {t : Ty} {l : List (El t)}
variable (hS : ∀ b, S b → S' b) (hrow : Rd S' w (.sl t) l [μ id])
include hS hrow
mutual
theorem VOK.frz : ∀ {a : AV} {u : Value}, VOK μ S w a u → VOK μ S' w (frz id t l a) u
  | .own j, u, h => by
    unfold Go.Proofs.YtgkmfhmodojdcaaE.frz
    cases hj : Nat.beq j id with
    | true =>
      have := Nat.eq_of_beq_eq_true hj
      subst this
      show Rd S' w (.sl t) l [u]
      rw [h.1]
      exact hrow
    | false => exact h
  | .top, u, h => trivial
  | .sc v, u, h => h
  | .row t l, u, h => Rd.mono hS (Nat.le_refl _) (fun _ _ => rfl) h
  | .ptr i o, u, h => h
  | .optr i n s o, u, h => h
  | .mp i, u, h => h
  | .eptr t x off, u, h => by
    obtain ⟨b, o, cs, h1, h2, h3, h4, h5⟩ := h
    exact ⟨b, o, cs, h1, hS b h2, h3, Rd.mono hS (Nat.le_refl _) (fun _ _ => rfl) h4, h5⟩
  | .agg l, u, h => by obtain ⟨us, h1, h2⟩ := h; exact ⟨us, h1, VsOK.frz h2⟩
  | .tup l, u, h => by obtain ⟨us, h1, h2⟩ := h; exact ⟨us, h1, VsOK.frz h2⟩
  | .fn f l, u, h => by obtain ⟨us, h1, h2⟩ := h; exact ⟨us, h1, VsOK.frz h2⟩
theorem VsOK.frz : ∀ {m : List AV} {us : List Value}, VsOK μ S w m us → VsOK μ S' w (frzs id t l m) us
  | [], us, h => h
  | a :: m, us, h => by
    obtain ⟨u, us', h1, h2, h3⟩ := h
    exact ⟨u, us', h1, VOK.frz h2, VsOK.frz h3⟩
end
end

theorem lk_frzH (id : Nat) (t : Ty) (l : List (El t)) : ∀ (H : Hp) (j : Nat), lk (frzH id t l H) j = (lk H j).map (frzB id t l)
  | [], _ => rfl
  | (n, B) :: H, j => by
    unfold frzH lk
    cases h : Nat.beq n j with
    | true => rfl
    | false => exact lk_frzH id t l H j

theorem arr_row {μ : Nat → Value} {S : Nat → Prop} {w : World} {id : Nat} {e : TypeId} {t : Ty} {l : List (El t)} (h : BOK μ S w id (.arr e t l)) :
    Rd (fun b => S b ∨ bof (μ id) = some b) w (.sl t) l [μ id] := by
  rcases h with ⟨A, h1, h2⟩ | ⟨b, c, us, rest, h1, h2, h3, h4, h5, h6⟩
  · subst h2
    exact ⟨A, 0, by rw [h1]; rfl, Nat.le_refl _, by simp, fun i x hx => by simp at hx⟩
  · have hlt : b < w.heap.size := (Array.getElem?_eq_some_iff.1 h4).1
    refine ⟨some ⟨b, 0, none⟩, c + 1, by rw [h1], h2, h3, fun i x hx => ?_⟩
    obtain ⟨cs, h7, h8⟩ := RdL.get h6 hx
    refine ⟨b, 0, cs, rfl, .inr (by rw [h1]; rfl), hlt, Rd.mono (fun _ h => .inl h) (Nat.le_refl _) (fun _ _ => rfl) h7, fun j u hu => ?_⟩
    have h9 := h8 j u hu
    have hl9 : i * sz t + j < us.length := (List.getElem?_eq_some_iff.1 h9).1
    rw [Nat.zero_add, show w.cell? ⟨b, i * sz t + j, none⟩ = (us ++ rest)[i * sz t + j]? from by simp [World.cell?, h4], List.getElem?_append_left hl9]
    exact h9

theorem Inv.freeze {D : Prop} {F : Fr D} {μ : Nat → Value} {S : Nat → Prop} {H : Hp} {w : World} {id : Nat} {e : TypeId} {t : Ty} {l : List (El t)} (h : Inv F μ S H w) (hk : lk H id = some (.arr e t l)) :
    Inv F μ (fun b => S b ∨ bof (μ id) = some b) (frzH id t l (rm id H)) w := by
  have hrow := arr_row (h.blk id _ hk)
  have old : ∀ j B, lk (frzH id t l (rm id H)) j = some B → j ≠ id ∧ ∃ B0, lk H j = some B0 ∧ B = frzB id t l B0 := by
    intro j B hj
    rw [lk_frzH] at hj
    by_cases e : j = id
    · subst e; rw [lk_rm_same] at hj; cases hj
    · rw [lk_rm_other e] at hj
      obtain ⟨B0, h0, h1⟩ := Option.map_eq_some_iff.1 hj
      exact ⟨e, B0, h0, h1.symm⟩
  refine ⟨?_, ?_, ?_, ?_, fun b hb => .inl (h.S0 b hb), ?_, h.frame, h.size, h.os, h.tape, h.output, h.drawn⟩
  · intro j B hj
    obtain ⟨hne, B0, h0, rfl⟩ := old j B hj
    have hb := h.blk j B0 h0
    cases B0 with
    | box T cells =>
      obtain ⟨b, us, h1, h2, h3⟩ := hb
      exact ⟨b, us, h1, h2, VsOK.frz (fun _ h => .inl h) hrow h3⟩
    | arr e' t' l' => exact BOK.mono (B := .arr e' t' l') (fun _ h => .inl h) (Nat.le_refl _) (fun _ _ => rfl) (fun _ _ => rfl) hb
    | mp kt vt m => exact BOK.mono (B := .mp kt vt m) (fun _ h => .inl h) (Nat.le_refl _) (fun _ _ => rfl) (fun _ _ => rfl) hb
  · intro i j Bi Bj hi hj
    obtain ⟨_, B0, h0, _⟩ := old i Bi hi
    obtain ⟨_, B1, h1, _⟩ := old j Bj hj
    exact h.apart i j B0 B1 h0 h1
  · intro i Bi hi b hb
    obtain ⟨hne, B0, h0, _⟩ := old i Bi hi
    refine ⟨?_, (h.notS i B0 h0 b hb).2⟩
    rintro (hs | hs)
    · exact (h.notS i B0 h0 b hb).1 hs
    · exact h.apart i id B0 _ h0 hk hne b hb hs
  · rintro b (hs | hs)
    · exact h.Slt b hs
    · exact bof_lt (h.blk id _ hk) hs
  · rintro b (hs | hs)
    · exact h.Sfrom b hs
    · rcases (h.notS id _ hk b hs).2 with h1 | h1
      · exact .inr (.inr h1)
      · exact .inr (.inl h1)

theorem Gam.freeze {D : Prop} {F : Fr D} {st : St} {a : Act} {w : World} (h : Gam F st a w) (id : Nat) : Gam F (freeze id st) a w := by
  unfold Go.Proofs.YtgkmfhmodojdcaaE.freeze
  split
  · rename_i e t l hk
    obtain ⟨μ, S, h1, h2, h3⟩ := h
    exact ⟨μ, _, h1.freeze hk, VsOK.frz (fun _ h => .inl h) (arr_row (h1.blk id _ hk)) h2, h3⟩
  · exact h

def fillAV (place : Nat → Option (Nat × Nat)) : List AV → List (Nat × AV) → Option (List AV)
  | cells, [] => some cells
  | cells, (i, v) :: rest => match place i, avCells v with
    | some (off, n), some cs => if cs.length = n ∧ off + n ≤ cells.length then fillAV place (putCells cells off cs) rest else none
    | _, _ => none

theorem foldl_set (off : Nat) : ∀ (vs : List Value) (k : Nat) (cells : Array Value), off + k + vs.length ≤ cells.size →
    ((vs.zipIdx k).foldl (fun cs (c : Value × Nat) => cs.setIfInBounds (off + c.2) c.1) cells).toList = cells.toList.take (off + k) ++ vs ++ cells.toList.drop (off + k + vs.length)
  | [], k, cells, _ => by simp
  | v :: vs, k, cells, h => by
    have h' : off + k < cells.size := by simp at h; omega
    rw [List.zipIdx_cons, List.foldl_cons, foldl_set off vs (k + 1) _ (by simp at h ⊢; omega)]
    simp only [Array.toList_setIfInBounds, List.length_cons]
    have hl : off + k < cells.toList.length := by simpa using h'
    rw [List.drop_set_of_lt (by omega), show off + (k + 1) + vs.length = off + k + (vs.length + 1) by omega]
    have e : List.take (off + (k + 1)) (cells.toList.set (off + k) v) = List.take (off + k) cells.toList ++ [v] := by
      rw [← Nat.add_assoc, List.take_succ_eq_append_getElem (by simpa using hl), List.take_set_of_le (Nat.le_refl _)]
      simp
    rw [e]
    simp

section
variable {P : Program} {μ : Nat → Value} {S : Nat → Prop} {w : World}

theorem fill_ok {place : Nat → Option (Nat × Nat)} {ρ : Operand → AV} {ρ' : Operand → Value} (hρ : ∀ x, VOK μ S w (ρ x) (ρ' x)) : ∀ {parts : List (Nat × Operand)} {cells out : List AV} {us : Array Value},
    fillAV place cells (parts.map fun p => (p.1, ρ p.2)) = some out → VsOK μ S w cells us.toList → ∃ vs, Instr.fill place us (parts.map fun p => (p.1, ρ' p.2)) = some vs ∧ VsOK μ S w out vs.toList
  | [], cells, out, us, h, hu => by
    cases h
    exact ⟨us, rfl, hu⟩
  | (i, x) :: rest, cells, out, us, h, hu => by
    have hv := hρ x
    simp only [fillAV, List.map_cons] at h
    split at h
    · rename_i off n cs hpl hcs
      split at h
      · rename_i hc
        have hcv := avCells_ok hcs hv
        have hlen := VsOK.len hcv
        have hsz : (ρ' x).cells.size = n := by rw [← Array.length_toList, hlen]; exact hc.1
        have hfold : ((ρ' x).cells.zipIdx.foldl (fun cs (c, j) => cs.setIfInBounds (off + j) c) us).toList = us.toList.take off ++ (ρ' x).cells.toList ++ us.toList.drop (off + (ρ' x).cells.toList.length) := by
          have hle : off + 0 + (ρ' x).cells.toList.length ≤ us.size := by
            rw [← Array.length_toList, VsOK.len hu, hlen]; simpa [hc.1] using hc.2
          have hf := foldl_set off (ρ' x).cells.toList 0 us hle
          rw [Nat.add_zero] at hf
          rw [← hf, ← Array.foldl_toList, Array.toList_zipIdx]
        obtain ⟨vs, h3, h4⟩ := fill_ok hρ (us := (ρ' x).cells.zipIdx.foldl (fun cs (c, j) => cs.setIfInBounds (off + j) c) us) h (by rw [hfold]; exact VsOK.putCells hu hcv)
        refine ⟨vs, ?_, h4⟩
        have hle2 : off + n ≤ us.size := by rw [← Array.length_toList, VsOK.len hu]; exact hc.2
        have hc2 : ¬ ((decide ((ρ' x).cells.size ≠ n) || decide (off + (ρ' x).cells.size > us.size)) = true) := by
          simp [hsz]; omega
        simp only [Instr.fill, List.map_cons, hpl]
        rw [if_neg hc2]
        exact h3
      · cases h
    · cases h
end
end Go.Proofs.YtgkmfhmodojdcaaE

namespace Go.Proofs.YtgkmfhmodojdcaaE
open Go
set_option linter.unusedVariables false

def buildAV (P : Program) (t : TypeId) (parts : List (Nat × AV)) : Option (List AV) :=
  match zeroAV P t, P.underlying t with
  | some z, some (.array _ e) => match szT P e with
    | some s => fillAV (fun i => some (i * s, s)) z parts
    | none => none
  | some z, some (.struct fields) => match fields.toList.mapM (fun f => (P.info? f.type).map fun i => (f.offset, i.size)) with
    | some places => fillAV (places.toArray[·]?) z parts
    | none => none
  | _, _ => none

def tyOf (P : Program) : Nat → TypeId → Option Ty
  | 0, _ => none
  | n + 1, t => match P.underlying t with
    | some (.int k) => some (.int k)
    | some .bool => some .bool
    | some .string => some .str
    | some (.slice e) => (tyOf P n e).map .sl
    | some (.struct fs) => chain (fs.toList.map fun f => tyOf P n f.type)
    | some (.array k e) => chain (List.replicate k (tyOf P n e))
    | _ => none
where chain : List (Option Ty) → Option Ty
  | [] => none
  | [a] => a
  | a :: l => a.bind fun x => (chain l).bind fun y => some (.pair x y)

def ofRow (t : Ty) : Nat → List AV → Option (List (El t))
  | 0, [] => some []
  | 0, _ :: _ => none
  | n + 1, l => (ofCells t l).bind fun p => (ofRow t n p.2).bind fun r => some (p.1 :: r)

def srcOf (H : Hp) : AV → Option ((t : Ty) × List (El t))
  | .row t l => some ⟨t, l⟩
  | .own j => match lk H j with
    | some (.arr _ t l) => some ⟨t, l⟩
    | _ => none
  | _ => none

def fit : Nat := 140737488355328

def evG (P : Program) (H : Hp) (op : Op) (ρ : Operand → AV) (id : Nat) : OR :=
  match op with
  | .build t parts => match buildAV P t (parts.toList.map fun p => (p.1, ρ p.2)) with
    | some l => .go true (.agg l) H none
    | none => .no
  | .buildSlice t len parts => match P.underlying t with
    | some (.slice e) => match szT P e, zeroAV P e, tyOf P 20 e with
      | some s, some z, some ty => if s = sz ty ∧ len * s ≤ 16777216 ∧ len ≤ maxLen ∧ z.length = s then
        match fillAV (fun i => some (i * s, s)) ((List.range (len * s)).map fun i => z.getD (i % s) .top) (parts.toList.map fun p => (p.1, ρ p.2)) with
        | some cells => match ofRow ty len cells with
          | some l => .go true (.own id) ((id, .arr e ty l) :: keepH (but id) (rm id H)) (some id)
          | none => .no
        | none => .no
        else .no
      | _, _, _ => .no
    | _ => .no
  | .makeSlice t l c => match P.underlying t, ρ l, ρ c with
    | some (.slice e), .sc (.int kl n), .sc (.int kc m) => match P.info? e, zeroAV P e, tyOf P 20 e with
      | some i, some z, some ty => match i.size, ofCells ty z with
        | s, some (x, []) => if s = sz ty ∧ z.length = s then .go (decide (0 ≤ n ∧ n ≤ m ∧ (i.bytes : Int) * m ≤ 281474976710656 ∧ m ≤ 9223372036854775807)) (.own id) ((id, .arr e ty (List.replicate n.toNat x)) :: keepH (but id) (rm id H)) (some id) else .no
        | _, _ => .no
      | _, _, _ => .no
    | _, _, _ => .no
  | .slice t x none (some hi) (some mx) => match ρ x, P.underlying t, ρ hi, ρ mx with
    | .row ty l, some (.slice e), .sc (.int _ 0), .sc (.int _ 0) => match szT P e with
      | some s => .go true (.own id) ((id, .arr e ty []) :: keepH (but id) (rm id H)) (some id)
      | none => .no
    | _, _, _, _ => .no
  | .call c => match c.callee, c.args.toList, c.argTypes.toList with
    | .builtin .append, [s, x], [t, t'] => if t = t' then match P.underlying t with
      | some (.slice e) => match P.info? e, zeroAV P e, srcOf H (ρ x) with
        | some i, some z, some ⟨ty, m⟩ => if i.size = sz ty ∧ z.length = sz ty ∧ 0 < i.bytes then
          match ρ s with
          | .sc (.slice none 0 0) => .go (decide (m.length * i.bytes ≤ fit)) (.own id) ((id, .arr e ty m) :: keepH (but id) (rm id H)) (some id)
          | .own j => match lk H j with
            | some (.arr e' ty' l) => if h : ty.eq ty' = true then
                if e' = e then .go (decide ((l.length + m.length) * i.bytes ≤ fit)) (.own id) ((id, .arr e ty' (l ++ (Ty.of_eq h ▸ m))) :: keepH (but id) (rm id (rm j H))) (some id) else .no
              else .no
            | _ => .no
          | _ => .no
          else .no
        | _, _, _ => .no
      | _ => .no
      else .no
    | _, _, _ => .no
  | _ => .no

section
variable {P : Program} {D : Prop} {F : Fr D} {μ : Nat → Value} {S : Nat → Prop} {w : World} {H : Hp} {tm : List AV} {a : Act}

theorem ofRow_ok {t : Ty} : ∀ {n : Nat} {l : List AV} {r : List (El t)} {us : List Value}, ofRow t n l = some r → VsOK μ S w l us → r.length = n ∧ RdL S w t r us
  | 0, [], r, us, h, hu => by
    cases h
    exact ⟨rfl, hu⟩
  | 0, _ :: _, r, us, h, hu => by cases h
  | n + 1, l, r, us, h, hu => by
    simp only [ofRow, Option.bind_eq_some_iff] at h
    obtain ⟨⟨x, l1⟩, h1, r1, h2, h3⟩ := h
    cases h3
    obtain ⟨u1, u2, rfl, h4, h5⟩ := ofCells_ok h1 hu
    obtain ⟨h6, h7⟩ := ofRow_ok h2 h5
    exact ⟨by simp [h6], u1, u2, rfl, h4, h7⟩

theorem zeroAV_eq {T : TypeId} {z : List AV} (h : zeroAV P T = some z) : ∃ i v, P.info? T = some i ∧ i.zero = some v ∧ z = v.cells.toList.map .sc := by
  unfold zeroAV at h
  obtain ⟨i, h1, h2⟩ := Option.bind_eq_some_iff.1 h
  obtain ⟨v, h3, h4⟩ := Option.map_eq_some_iff.1 h2
  exact ⟨i, v, h1, h3, h4.symm⟩

theorem evG_build {t : TypeId} {parts : Array (Nat × Operand)} {id : Nat} {av : AV} {c : Bool} {H' : Hp} {g : Option Nat} (hI : Inv F μ S H w) (hT : VsOK μ S w tm a.tmps.toList) {ρ : Operand → AV} (hρ : ∀ x, VOK μ S w (ρ x) (a.eval x))
    (h : evG P H (.build t parts) ρ id = .go c av H' g) (hc : c = true) : Step P F (.build t parts) a w (tmGone tm g) H' av := by
  simp only [evG] at h
  split at h
  · rename_i l hl
    cases h
    have hm : (parts.map fun p => (p.1, a.eval p.2)).toList = parts.toList.map fun p => (p.1, a.eval p.2) := by simp
    have key : ∃ cells, P.built t (parts.map fun p => (p.1, a.eval p.2)).toList = some cells ∧ VsOK μ S w l cells.toList := by
      rw [hm]
      unfold buildAV at hl
      split at hl
      · rename_i z n e hz hu
        obtain ⟨it, v, h1, h2, rfl⟩ := zeroAV_eq hz
        split at hl
        · rename_i s hs
          unfold szT at hs
          obtain ⟨ie, h3, rfl⟩ := Option.map_eq_some_iff.1 hs
          obtain ⟨vs, h4, h5⟩ := fill_ok hρ hl (vs_sc (μ := μ) (S := S) (w := w) v.cells.toList)
          exact ⟨vs, by simp only [Program.built, h1, hu, h2, h3]; exact h4, h5⟩
        · cases hl
      · rename_i z fields hz hu
        obtain ⟨it, v, h1, h2, rfl⟩ := zeroAV_eq hz
        split at hl
        · rename_i places hp
          obtain ⟨vs, h4, h5⟩ := fill_ok hρ hl (vs_sc (μ := μ) (S := S) (w := w) v.cells.toList)
          exact ⟨vs, by simp only [Program.built, h1, hu, h2, hp]; exact h4, h5⟩
        · cases hl
      · cases hl
    obtain ⟨cells, h1, h2⟩ := key
    refine step_of (fun o ho => ?_) (.inl rfl) hI hT ⟨cells.toList, rfl, h2⟩
    simp only [execOp, ho]
    refine run_val ?_
    rw [run_build w t _ cells h1]
  · cases h

theorem newArr_ok (hI : Inv F μ S H w) (hT : VsOK μ S w tm a.tmps.toList) {e : TypeId} {ty : Ty} {l : List (El ty)} {us rest : List Value} {c : Nat} (id : Nat) (hl : RdL S w ty l us) (hlen : (us ++ rest).length = c * sz ty) (hlc : l.length ≤ c) (hc : c ≤ maxLen) :
    Inv F (upd μ id (.slice (some ⟨w.heap.size, 0, none⟩) l.length c)) S ((id, .arr e ty l) :: keepH (but id) (rm id H)) (w.alloc (.cells (us ++ rest).toArray e)) ∧
    VsOK (upd μ id (.slice (some ⟨w.heap.size, 0, none⟩) l.length c)) S (w.alloc (.cells (us ++ rest).toArray e)) (keeps (but id) tm) a.tmps.toList ∧
    VOK (upd μ id (.slice (some ⟨w.heap.size, 0, none⟩) l.length c)) S (w.alloc (.cells (us ++ rest).toArray e)) (.own id) (.slice (some ⟨w.heap.size, 0, none⟩) l.length c) := by
  have hμ : ∀ j, but id j = true → upd μ id (.slice (some ⟨w.heap.size, 0, none⟩) l.length c) j = μ j := fun j hj => upd_other μ _ (but_iff.1 hj)
  have hSw : ∀ b, S b → (w.alloc (.cells (us ++ rest).toArray e)).heap[b]? = w.heap[b]? := fun b hb => heap_alloc_lt w _ (hI.Slt b hb)
  have hz : w.heap.size ≤ (w.alloc (.cells (us ++ rest).toArray e)).heap.size := by simp
  refine ⟨?_, VsOK.keep hμ (fun _ h => h) hz hSw hT, (upd_same _ _ _).symm, _, _, _, rfl⟩
  cases c with
  | zero =>
    have hl0 : l = [] := List.eq_nil_of_length_eq_zero (by omega)
    subst hl0
    have hI2 : Inv F μ S H (w.alloc (.cells (us ++ rest).toArray e)) := by
      refine ⟨fun i B hB => BOK.mono (fun _ h => h) hz hSw (fun b hb => heap_alloc_lt w _ (bof_lt (hI.blk i B hB) hb)) (hI.blk i B hB), hI.apart, hI.notS, fun b hb => Nat.lt_of_lt_of_le (hI.Slt b hb) hz, hI.S0, hI.Sfrom, fun b hb hO => (heap_alloc_lt w _ (Nat.lt_of_lt_of_le hb hI.size)).trans (hI.frame b hb hO), Nat.le_trans hI.size hz, hI.os, hI.tape, hI.output, hI.drawn⟩
    exact hI2.nil id e ty _
  | succ c =>
    refine hI.new (.cells (us ++ rest).toArray e) id _ _ rfl (.inr ⟨w.heap.size, c, us, rest, upd_same _ _ _, hlc, hc, heap_alloc_new w _, hlen, RdL.mono (fun _ h => h) hz hSw hl⟩)

theorem range_cells {z : Value} {s n : Nat} (hz : z.cells.size = s) (hs : 0 < s) :
    VsOK μ S w ((List.range n).map fun i => (z.cells.toList.map AV.sc).getD (i % s) .top) ((Array.range n).map (z.cells[· % z.cells.size]!)).toList := by
  have : ((Array.range n).map (z.cells[· % z.cells.size]!)).toList = (List.range n).map fun i => z.cells[i % z.cells.size]! := by simp [Array.toList_range]
  rw [this]
  have : ((List.range n).map fun i => (z.cells.toList.map AV.sc).getD (i % s) .top) = ((List.range n).map fun i => z.cells[i % z.cells.size]!).map .sc := by
    rw [List.map_map]
    refine List.map_congr_left fun i _ => ?_
    have hlt : i % s < z.cells.size := by rw [hz]; exact Nat.mod_lt _ hs
    simp only [Function.comp]
    rw [List.getD_eq_getElem?_getD, List.getElem?_map, hz]
    rw [getElem!_pos z.cells (i % s) hlt]
    simp [hlt]
  rw [this]
  exact vs_sc _

theorem sz_pos : ∀ t : Ty, 0 < sz t
  | .int _ => Nat.one_pos
  | .bool => Nat.one_pos
  | .str => Nat.one_pos
  | .sl _ => Nat.one_pos
  | .pair a b => Nat.add_pos_left (sz_pos a) _

theorem buildSlice_run {t : TypeId} {len : Nat} {parts : Array (Nat × Operand)} {id : Nat} {av : AV} {c : Bool} {H' : Hp} {g : Option Nat} {ρ : Operand → AV} (hρ : ∀ x, VOK μ S w (ρ x) (a.eval x))
    (h : evG P H (.buildSlice t len parts) ρ id = .go c av H' g) : ∃ (e : TypeId) (ty : Ty) (l : List (El ty)) (vs : Array Value), av = .own id ∧ H' = (id, .arr e ty l) :: keepH (but id) (rm id H) ∧ g = some id ∧ c = true ∧ l.length = len ∧ len ≤ maxLen ∧ RdL S w ty l vs.toList ∧
      ∀ o : Oper, o.op = .buildSlice t len parts → (execOp a.eval o).run P w = .ok (.value (.slice (some ⟨w.heap.size, 0, none⟩) len len)) (w.alloc (.cells vs e)) := by
  simp only [evG] at h
  split at h
  · rename_i e hu
    split at h
    · rename_i s z ty hs hz hty
      split at h
      · rename_i hcs
        split at h
        · rename_i cells hf
          split at h
          · rename_i l hl
            cases h
            obtain ⟨it, v, h1, h2, rfl⟩ := zeroAV_eq hz
            have hsz : v.cells.size = s := by simpa using hcs.2.2.2
            have hs0 : 0 < s := by rw [hcs.1]; exact sz_pos ty
            obtain ⟨vs, h4, h5⟩ := fill_ok (us := (Array.range (len * s)).map (v.cells[· % v.cells.size]!)) hρ hf (range_cells hsz hs0)
            obtain ⟨h6, h7⟩ := ofRow_ok hl h5
            have hm : (parts.map fun p => (p.1, a.eval p.2)).toList = parts.toList.map fun p => (p.1, a.eval p.2) := by simp
            refine ⟨e, ty, l, vs, rfl, rfl, rfl, rfl, h6, hcs.2.2.1, h7, fun o ho => ?_⟩
            simp only [execOp, ho]
            refine run_val ?_
            have hno : ¬ (len * s > 2 ^ 24) := by have := hcs.2.1; omega
            by_cases hn0 : len * s = 0
            · have e0 : Array.map (fun x => v.cells[x % v.cells.size]!) (Array.range (len * s)) = #[] := by rw [hn0]; simp
              rw [e0] at h4
              simp only [Instr.buildSlice, Sem.run_bind, run_und hu, Result.andThen_ok, run_sz hs, if_neg hno, if_pos hn0, Sem.run_pure]
              have e1 : (Array.range (len * s)).map (fun x => (#[] : Array Value)[x % (#[] : Array Value).size]!) = #[] := by rw [hn0]; simp
              rw [e1, hm, h4]
              simp [newRow, newObj, go_sem, Sem.run]
            · simp only [Instr.buildSlice, Sem.run_bind, run_und hu, Result.andThen_ok, run_sz hs, if_neg hno, if_neg hn0, Sem.run_pure]
              have hzv : (zeroValue e).run P w = .ok v w := by simp [zeroValue, typeInfo, go_sem, h1, h2]
              simp only [hzv, Result.andThen_ok]
              rw [hm, h4]
              simp [newRow, newObj, go_sem, Sem.run]
          · cases h
        · cases h
      · cases h
    · cases h
  · cases h

theorem evG_buildSlice {t : TypeId} {len : Nat} {parts : Array (Nat × Operand)} {id : Nat} {av : AV} {c : Bool} {H' : Hp} {g : Option Nat} (hI : Inv F μ S H w) (hT : VsOK μ S w tm a.tmps.toList) {ρ : Operand → AV} (hρ : ∀ x, VOK μ S w (ρ x) (a.eval x))
    (h : evG P H (.buildSlice t len parts) ρ id = .go c av H' g) (hc : c = true) : Step P F (.buildSlice t len parts) a w (tmGone tm g) H' av := by
  obtain ⟨e, ty, l, vs, rfl, rfl, rfl, _, h6, hmax, h7, hr⟩ := buildSlice_run hρ h
  have h8 := RdL.len h7
  have hlen : (vs.toList ++ []).length = len * sz ty := by rw [List.append_nil, h8, h6]
  obtain ⟨n1, n2, n3⟩ := newArr_ok hI hT (e := e) (c := len) (rest := []) id h7 hlen (Nat.le_of_eq h6) hmax
  rw [List.append_nil, Array.toArray_toList, h6] at n1 n2 n3
  exact step_of hr (.inl rfl) n1 n2 n3

theorem evG_slice {t : TypeId} {x hi mx : Operand} {id : Nat} {av : AV} {c : Bool} {H' : Hp} {g : Option Nat} (hI : Inv F μ S H w) (hT : VsOK μ S w tm a.tmps.toList) {ρ : Operand → AV} (hρ : ∀ x, VOK μ S w (ρ x) (a.eval x))
    (h : evG P H (.slice t x none (some hi) (some mx)) ρ id = .go c av H' g) (hc : c = true) : Step P F (.slice t x none (some hi) (some mx)) a w (tmGone tm g) H' av := by
  have hx := hρ x
  have hh := hρ hi
  have hm := hρ mx
  simp only [evG] at h
  split at h
  · rename_i ty l e k1 k2 hx1 hu h1 h2
    split at h
    · rename_i s hs
      cases h
      rw [hx1] at hx
      rw [h1, VOK] at hh
      rw [h2, VOK] at hm
      obtain ⟨A, cp, h3, _⟩ := hx
      simp only [List.cons.injEq, and_true] at h3
      have hI' := hI.nil id e ty (if 0 = 0 then A else A.map (·.add (0 * s)))
      have hμ : ∀ j, but id j = true → upd μ id (.slice A 0 0) j = μ j := fun j hj => upd_other μ _ (but_iff.1 hj)
      rw [if_pos rfl] at hI'
      refine step_of (nx := .value (.slice A 0 0)) (fun o ho => ?_) (.inl rfl) hI' (VsOK.keep hμ (fun _ h => h) (Nat.le_refl _) (fun _ _ => rfl) hT) ⟨(upd_same _ _ _).symm, _, _, _, rfl⟩
      simp only [execOp, ho]
      refine run_val ?_
      have e1 : (Instr.sliceBounds true l.length cp none (some (.int k1 0)) (some (.int k2 0))).run P w = .ok (0, 0, 0) w := by
        simp only [Instr.sliceBounds, Sem.run_bind, Sem.run_pure, Result.andThen_ok]
        rw [bound_ok (Int.le_refl _) (by omega)]
        simp only [Result.andThen_ok]
        rw [bound_ok (Int.le_refl _) (by omega)]
        simp [go_sem]
      simp only [Option.map_none, Option.map_some, h3, hh, hm, Instr.sliceAt, Instr.slice, Sem.run_bind, run_und hu, Result.andThen_ok, e1, run_sz hs, Sem.run_pure]
      simp
    · cases h
  · cases h

theorem src_ok {x : AV} {ty : Ty} {m : List (El ty)} {u : Value} (hI : Inv F μ S H w) (hs : srcOf H x = some ⟨ty, m⟩) (hu : VOK μ S w x u) :
    ∃ A c us, u = .slice A m.length c ∧ RdL S w ty m us ∧ (A = none → m = []) ∧ ∀ ad, A = some ad → ∀ j v, us[j]? = some v → w.cell? (ad.add j) = some v := by
  unfold srcOf at hs
  split at hs
  · rename_i t l
    cases hs
    obtain ⟨A, c, h1, h2, h3, h4⟩ := hu
    simp only [List.cons.injEq, and_true] at h1
    cases m with
    | nil => exact ⟨A, c, [], h1, rfl, fun _ => rfl, fun ad _ j v hv => by simp at hv⟩
    | cons x0 l =>
      obtain ⟨b, o, cs0, h5, h6, h7, h8, h9⟩ := h4 0 x0 rfl
      have all : ∀ (k : Nat) (l' : List (El ty)), (∀ i x, l'[i]? = some x → ∃ cs', Rd S w ty x cs' ∧ CellsAt w b (o + (k + i) * sz ty) cs') →
          ∃ us, RdL S w ty l' us ∧ CellsAt w b (o + k * sz ty) us := by
        intro k l'
        induction l' generalizing k with
        | nil => intro _; exact ⟨[], rfl, fun j v hv => by simp at hv⟩
        | cons y l' ih =>
          intro hl
          obtain ⟨cs, r1, r2⟩ := hl 0 y rfl
          obtain ⟨us, r3, r4⟩ := ih (k + 1) (fun i x hx => by
            obtain ⟨cs', r5, r6⟩ := hl (i + 1) x (by simpa using hx)
            exact ⟨cs', r5, by rw [show k + 1 + i = k + (i + 1) by omega]; exact r6⟩)
          refine ⟨cs ++ us, ⟨cs, us, rfl, r1, r3⟩, fun j v hv => ?_⟩
          have hcl := Rd.len r1
          by_cases hj : j < cs.length
          · rw [List.getElem?_append_left hj] at hv
            exact r2 j v hv
          · rw [List.getElem?_append_right (by omega)] at hv
            have := r4 (j - cs.length) v hv
            rw [show o + k * sz ty + j = o + (k + 1) * sz ty + (j - cs.length) by rw [Nat.add_mul, hcl]; omega]
            exact this
      obtain ⟨us, r1, r2⟩ := all 0 (x0 :: l) (fun i x hx => by
        obtain ⟨b', o', cs', q1, q2, q3, q4, q5⟩ := h4 i x hx
        rw [h5] at q1
        cases q1
        exact ⟨cs', q4, by rw [Nat.zero_add]; exact q5⟩)
      refine ⟨A, c, us, h1, r1, fun hA => (by rw [hA] at h5; cases h5), fun ad had j v hv => ?_⟩
      rw [h5] at had
      cases had
      rw [add_none]
      have := r2 j v hv
      rw [Nat.zero_mul, Nat.add_zero] at this
      exact this
  · rename_i j
    split at hs
    · rename_i e t l hk
      cases hs
      rcases hI.blk j _ hk with ⟨A, h1, h2⟩ | ⟨b, c, us, rest, h1, h2, h3, h4, h5, h6⟩
      · subst h2
        exact ⟨A, 0, [], by rw [hu.1, h1]; rfl, rfl, fun _ => rfl, fun ad _ k v hv => by simp at hv⟩
      · refine ⟨_, _, us, by rw [hu.1, h1], h6, fun hA => by simp at hA, fun ad had k v hv => ?_⟩
        cases had
        rw [add_none, Nat.zero_add]
        have hlt : k < us.length := (List.getElem?_eq_some_iff.1 hv).1
        rw [show w.cell? ⟨b, k, none⟩ = (us ++ rest)[k]? from by simp [World.cell?, h4], List.getElem?_append_left hlt]
        exact hv
    · cases hs
  · cases hs

theorem Rd.one : ∀ {t : Ty} {x : El t} {cs : List Value}, Rd S w t x cs → ∀ u ∈ cs, u.oneCell' = true
  | .int k, x, cs, h, u, hu => by rw [Rd] at h; rw [h] at hu; simp at hu; rw [hu]; rfl
  | .bool, x, cs, h, u, hu => by rw [Rd] at h; rw [h] at hu; simp at hu; rw [hu]; rfl
  | .str, x, cs, h, u, hu => by rw [Rd] at h; rw [h] at hu; simp at hu; rw [hu]; rfl
  | .sl t, l, cs, h, u, hu => by obtain ⟨A, c, h1, _⟩ := h; rw [h1] at hu; simp at hu; rw [hu]; rfl
  | .pair a b, x, cs, h, u, hu => by
    obtain ⟨c1, c2, rfl, h1, h2⟩ := h
    rcases List.mem_append.1 hu with h3 | h3
    · exact Rd.one h1 u h3
    · exact Rd.one h2 u h3
theorem RdL.one {t : Ty} : ∀ {l : List (El t)} {us : List Value}, RdL S w t l us → ∀ u ∈ us, u.oneCell' = true
  | [], us, h, u, hu => by rw [RdL] at h; rw [h] at hu; cases hu
  | x :: l, us, h, u, hu => by
    obtain ⟨c1, c2, rfl, h1, h2⟩ := h
    rcases List.mem_append.1 hu with h3 | h3
    · exact Rd.one h1 u h3
    · exact RdL.one h2 u h3

theorem firstCells_of {size n : Nat} {A : Option Addr} {len cap : Nat} {us : List Value} (hl : us.length = n * size) (hA : A = none → us = []) (h : ∀ ad, A = some ad → ∀ j v, us[j]? = some v → w.cell? (ad.add j) = some v) :
    (Builtin.firstCells size n (.slice A len cap)).run P w = .ok us.toArray w := by
  cases A with
  | none => rw [hA rfl]; exact run_firstCells_none w size n len cap
  | some ad => exact run_firstCells_some w size n ad len cap us hl (h ad rfl)

theorem append_room {t ty e : TypeId} {i : TypeInfo} {g sLen sCap m c : Nat} {A : Option Addr} {cur : Array Value} {news : List Value} (ht : P.underlying t = some (.slice e)) (hi : P.info? e = some i) (hg : w.heap[g]? = some (.cells cur e (0, 0)))
    (hl : news.length = m * i.size) (hA : A = none → news = []) (hn : ∀ ad, A = some ad → ∀ j v, news[j]? = some v → w.cell? (ad.add j) = some v) (h1 : ∀ u ∈ news, u.oneCell' = true) (hroom : sLen + m ≤ sCap) (hfit : sLen * i.size + news.length ≤ cur.size) :
    (Builtin.append_ #[t, t] ty #[.slice (some ⟨g, 0, none⟩) sLen sCap, .slice A m c]).run P w =
      .ok (.slice (some ⟨g, 0, none⟩) (sLen + m) sCap) (w.setRow g (cur.toList.take (sLen * i.size) ++ news ++ cur.toList.drop (sLen * i.size + news.length)).toArray) := by
  have hf := firstCells_of (P := P) (w := w) (len := m) (cap := c) hl hA hn
  have hst := run_storeCells_at P g (sLen * i.size) e news 0 cur w hg (by simpa using hfit) h1
  simp only [Nat.add_zero] at hst
  have hadd : (⟨g, 0, none⟩ : Addr).add (sLen * i.size) = ⟨g, sLen * i.size, none⟩ := by rw [add_none, Nat.zero_add]
  simp [Builtin.append_, run_underlying ht, sizeOf, typeInfo, hi, Builtin.lenOf, hroom, hf, hadd, hst]

theorem append_grow {t ty e : TypeId} {i : TypeInfo} {z : Value} {sLen sCap m c : Nat} {A A0 : Option Addr} {olds news : List Value} (ht : P.underlying t = some (.slice e)) (hi : P.info? e = some i) (hz : i.zero = some z)
    (hlo : olds.length = sLen * i.size) (hA0 : A0 = none → olds = []) (ho : ∀ ad, A0 = some ad → ∀ j v, olds[j]? = some v → w.cell? (ad.add j) = some v)
    (hl : news.length = m * i.size) (hA : A = none → news = []) (hn : ∀ ad, A = some ad → ∀ j v, news[j]? = some v → w.cell? (ad.add j) = some v)
    (hg : sCap < sLen + m) (h63 : ((sLen + m : Nat) : Int) ≤ 9223372036854775807) (hfit : Builtin.nextslicecap (sLen + m) sCap * i.bytes ≤ 281474976710656) :
    (Builtin.append_ #[t, t] ty #[.slice A0 sLen sCap, .slice A m c]).run P w =
      .ok (.slice (some ⟨w.heap.size, 0, none⟩) (sLen + m) (grownCap w (sLen + m) sCap e))
        (w.drew.alloc (.cells (olds.toArray ++ news.toArray ++ Builtin.zeroCells z.cells (grownCap w (sLen + m) sCap e - (sLen + m))) e)) := by
  have hn' : ¬ (sLen + m ≤ sCap) := by omega
  have h63' : ¬ (9223372036854775807 < ((sLen : Int) + (m : Int))) := by omega
  have h48' : ¬ (281474976710656 < Builtin.nextslicecap (sLen + m) sCap * i.bytes) := by omega
  have hf0 := firstCells_of (P := P) (w := w.drew) (len := sLen) (cap := sCap) hlo hA0 (fun ad h j v hv => by simpa using ho ad h j v hv)
  have hf := firstCells_of (P := P) (w := w.drew) (len := m) (cap := c) hl hA (fun ad h j v hv => by simpa using hn ad h j v hv)
  simp [Builtin.append_, run_underlying ht, sizeOf, typeInfo, zeroValue, hi, hz, Builtin.lenOf, hn', h63', h48', Question.forced, hf0, hf, newRow, grownCap]
  have e2 : ∀ Z : Array Value, olds.toArray ++ (news.toArray ++ Z) = (olds ++ news).toArray ++ Z := fun Z => by rw [← List.append_toArray, Array.append_assoc]
  rw [e2]
end
end Go.Proofs.YtgkmfhmodojdcaaE

namespace Go.Proofs.YtgkmfhmodojdcaaE
open Go
set_option linter.unusedVariables false
section
variable {P : Program} {D : Prop} {F : Fr D} {μ : Nat → Value} {S : Nat → Prop} {w : World} {H : Hp} {tm : List AV} {a : Act}

theorem append_call {c : Call} {s x : Operand} {t ty : TypeId} {ρ' : Operand → Value} {v : Value} {w' : World} (hc : c.callee = .builtin .append) (ha : c.args.toList = [s, x]) (hat : c.argTypes.toList = [t, t])
    (h : (Builtin.append_ #[t, t] ty #[ρ' s, ρ' x]).run P w = .ok v w') : (do let d ← resolve ρ' c ty; invoke d.target d.args : Sem Next).run P w = .ok (.value v) w' := by
  have e1 : c.args.map ρ' = #[ρ' s, ρ' x] := by apply Array.toList_inj.1; simp [ha]
  have e2 : c.argTypes = #[t, t] := by apply Array.toList_inj.1; simp [hat]
  simp only [resolve, hc, Sem.run_bind, Sem.run_pure, Result.andThen_ok, invoke, builtin, e1, e2, h]

theorem grown_le {n m bytes : Nat} (h : (n + m) * bytes ≤ fit) (hb : 0 < bytes) : n + m ≤ 140737488355328 := by
  unfold fit at h
  exact Nat.le_trans (Nat.le_mul_of_pos_right _ hb) h

theorem grow_ok (hI : Inv F μ S H w) (hT : VsOK μ S w tm a.tmps.toList) {t ty' e : TypeId} {i : TypeInfo} {z : Value} {ty : Ty} {l m : List (El ty)} {sCap c : Nat} {A A0 : Option Addr} {olds news : List Value} (id : Nat)
    (ht : P.underlying t = some (.slice e)) (hi : P.info? e = some i) (hz : i.zero = some z) (hsz : i.size = sz ty) (hzs : z.cells.size = sz ty) (hb : 0 < i.bytes)
    (hlo : RdL S w ty l olds) (hA0 : A0 = none → olds = []) (ho : ∀ ad, A0 = some ad → ∀ j v, olds[j]? = some v → w.cell? (ad.add j) = some v)
    (hln : RdL S w ty m news) (hA : A = none → m = []) (hn : ∀ ad, A = some ad → ∀ j v, news[j]? = some v → w.cell? (ad.add j) = some v)
    (hg : sCap < l.length + m.length) (hfit : (l.length + m.length) * i.bytes ≤ fit) :
    ∃ v w', (Builtin.append_ #[t, t] ty' #[.slice A0 l.length sCap, .slice A m.length c]).run P w = .ok v w' ∧
      Inv F (upd μ id v) S ((id, .arr e ty (l ++ m)) :: keepH (but id) (rm id H)) w' ∧ VsOK (upd μ id v) S w' (keeps (but id) tm) a.tmps.toList ∧ VOK (upd μ id v) S w' (.own id) v := by
  have hle := grown_le hfit hb
  have hcap : grownCap w (l.length + m.length) sCap e ≤ maxLen := grownCap_le_maxLen w _ _ e (by unfold maxLen; omega)
  have hge := grownCap_ge w (l.length + m.length) sCap e
  have hr := append_grow (P := P) (w := w) (ty := ty') (c := c) ht hi hz (by rw [hsz]; exact RdL.len hlo) hA0 ho (by rw [hsz]; exact RdL.len hln) (fun h => by
    have := hA h
    subst this
    rw [RdL] at hln
    exact hln) hn hg (by omega) (growslice_fits hg (by unfold fit at hfit; exact hfit))
  have hI2 := hI.drew
  have hT2 : VsOK μ S w.drew tm a.tmps.toList := VsOK.mono (w := w) (w' := w.drew) (fun _ h => h) (Nat.le_refl _) (fun _ _ => rfl) hT
  have hL := RdL.append hlo hln
  have hL2 : RdL S w.drew ty (l ++ m) (olds ++ news) := RdL.mono (w := w) (w' := w.drew) (fun _ h => h) (Nat.le_refl _) (fun _ _ => rfl) hL
  have hlen : (olds ++ news ++ (Builtin.zeroCells z.cells (grownCap w (l.length + m.length) sCap e - (l.length + m.length))).toList).length = grownCap w (l.length + m.length) sCap e * sz ty := by
    have hzc : ∀ k, (Builtin.zeroCells z.cells k).toList.length = k * sz ty := fun k => by rw [Array.length_toList, size_zeroCells, hzs]
    rw [List.length_append, RdL.len hL, List.length_append, hzc, ← Nat.add_mul]
    congr 1
    omega
  obtain ⟨n1, n2, n3⟩ := newArr_ok hI2 hT2 (e := e) id hL2 hlen (by rw [List.length_append]; exact hge) hcap
  have ev : (olds ++ news ++ (Builtin.zeroCells z.cells (grownCap w (l.length + m.length) sCap e - (l.length + m.length))).toList).toArray = olds.toArray ++ news.toArray ++ Builtin.zeroCells z.cells (grownCap w (l.length + m.length) sCap e - (l.length + m.length)) := by
    apply Array.toList_inj.1
    simp
  rw [ev, List.length_append] at n1 n2 n3
  exact ⟨_, _, hr, n1, n2, n3⟩

theorem evG_append {cl : Call} {id : Nat} {av : AV} {c : Bool} {H' : Hp} {g : Option Nat} (hI : Inv F μ S H w) (hT : VsOK μ S w tm a.tmps.toList) {ρ : Operand → AV} (hρ : ∀ x, VOK μ S w (ρ x) (a.eval x))
    (h : evG P H (.call cl) ρ id = .go c av H' g) (hc : c = true) : Step P F (.call cl) a w (tmGone tm g) H' av := by
  simp only [evG] at h
  split at h
  · rename_i s x t t' hcal hargs hat
    split at h
    · rename_i htt
      subst htt
      split at h
      · rename_i e hu
        split at h
        · rename_i i z ty m hi hz hsrc
          split at h
          · rename_i hcs
            obtain ⟨it, vz, hi2, hz2, rfl⟩ := zeroAV_eq hz
            rw [hi] at hi2
            cases hi2
            have hzs : vz.cells.size = sz ty := by simpa using hcs.2.1
            have hs := hρ s
            obtain ⟨A, cx, news, hx, hln, hA, hn⟩ := src_ok hI hsrc (hρ x)
            split at h
            · rename_i hsv
              rw [hsv, VOK] at hs
              cases h
              have hfit := of_decide_eq_true hc
              by_cases hm : m.length = 0
              · have hm0 : m = [] := List.eq_nil_of_length_eq_zero hm
                subst hm0
                rw [RdL] at hln
                subst hln
                have hI' := hI.nil id e ty none
                have hμ : ∀ j, but id j = true → upd μ id (.slice none 0 0) j = μ j := fun j hj => upd_other μ _ (but_iff.1 hj)
                refine step_of (nx := .value (.slice none 0 0)) (fun o ho => ?_) (.inl rfl) hI' (VsOK.keep hμ (fun _ h => h) (Nat.le_refl _) (fun _ _ => rfl) hT) ⟨(upd_same _ _ _).symm, _, _, _, rfl⟩
                simp only [execOp, ho]
                refine append_call hcal hargs hat ?_
                rw [hs, hx]
                have hf := firstCells_of (P := P) (w := w) (size := i.size) (n := 0) (len := 0) (cap := cx) (us := []) (A := A) (by simp) (fun _ => rfl) (fun _ _ j v hv => by simp at hv)
                simp [Builtin.append_, run_underlying hu, sizeOf, typeInfo, hi, Builtin.lenOf, hf]
              · obtain ⟨v, w', hr, n1, n2, n3⟩ := grow_ok hI hT (l := []) (m := m) (sCap := 0) (A0 := none) (olds := []) (ty' := (0 : Nat)) (c := cx) id hu hi hz2 hcs.1 hzs hcs.2.2 rfl (fun _ => rfl) (fun ad h => by cases h) hln hA hn (by simp; omega) (by simpa using hfit)
                simp only [List.nil_append] at n1
                intro o ho
                obtain ⟨v2, w2, hr2, m1, m2, m3⟩ := grow_ok hI hT (l := []) (m := m) (sCap := 0) (A0 := none) (olds := []) (ty' := o.type) (c := cx) id hu hi hz2 hcs.1 hzs hcs.2.2 rfl (fun _ => rfl) (fun ad h => by cases h) hln hA hn (by simp; omega) (by simpa using hfit)
                simp only [List.nil_append] at m1
                refine ⟨.value v2, v2, w2, _, S, ?_, .inl rfl, m1, m2, m3⟩
                simp only [execOp, ho]
                refine append_call hcal hargs hat ?_
                rw [hs, hx]
                exact hr2
            · rename_i j hsv
              rw [hsv] at hs
              split at h
              · rename_i e' ty' l hk
                split at h
                · rename_i hty
                  split at h
                  · rename_i hee
                    subst hee
                    cases Ty.of_eq hty
                    cases h
                    have hfit := of_decide_eq_true hc
                    simp only at hfit ⊢
                    have hle := grown_le hfit hcs.2.2
                    have hId := hI.drop j
                    intro o ho
                    rcases hI.blk j _ hk with ⟨A0, h1, h2⟩ | ⟨b, cp, us, rest, h1, h2, h3, h4, h5, h6⟩
                    · subst h2
                      by_cases hm : m.length = 0
                      · have hm0 : m = [] := List.eq_nil_of_length_eq_zero hm
                        subst hm0
                        rw [RdL] at hln
                        subst hln
                        have hI' := hId.nil id e' ty A0
                        have hμ : ∀ j, but id j = true → upd μ id (.slice A0 0 0) j = μ j := fun j hj => upd_other μ _ (but_iff.1 hj)
                        refine ⟨.value (.slice A0 0 0), .slice A0 0 0, w, _, S, ?_, .inl rfl, hI', VsOK.keep hμ (fun _ h => h) (Nat.le_refl _) (fun _ _ => rfl) hT, ⟨(upd_same _ _ _).symm, _, _, _, rfl⟩⟩
                        simp only [execOp, ho]
                        refine append_call hcal hargs hat ?_
                        rw [hs.1, h1, hx]
                        have hf := firstCells_of (P := P) (w := w) (size := i.size) (n := 0) (len := 0) (cap := cx) (us := []) (A := A) (by simp) (fun _ => rfl) (fun _ _ j v hv => by simp at hv)
                        cases A0 with
                        | none => simp [Builtin.append_, run_underlying hu, sizeOf, typeInfo, hi, Builtin.lenOf, hf]
                        | some ad => simp [Builtin.append_, run_underlying hu, sizeOf, typeInfo, hi, Builtin.lenOf, hf, storeCells]
                      · obtain ⟨v2, w2, hr2, m1, m2, m3⟩ := grow_ok hId hT (l := []) (m := m) (sCap := 0) (A0 := A0) (olds := []) (ty' := o.type) (c := cx) id hu hi hz2 hcs.1 hzs hcs.2.2 rfl (fun _ => rfl) (fun ad h j v hv => by simp at hv) hln hA hn (by simp; omega) hfit
                        refine ⟨.value v2, v2, w2, _, S, ?_, .inl rfl, m1, m2, m3⟩
                        simp only [execOp, ho]
                        refine append_call hcal hargs hat ?_
                        rw [hs.1, h1, hx]
                        exact hr2
                    · by_cases hroom : l.length + m.length ≤ cp + 1
                      · have hmlen := RdL.len hln
                        have hllen := RdL.len h6
                        have hr := append_room (P := P) (w := w) (ty := o.type) (c := cx) (A := A) (g := b) (sLen := l.length) (sCap := cp + 1) (m := m.length) (cur := (us ++ rest).toArray) (news := news) hu hi h4 (by rw [hcs.1]; exact hmlen) (fun h => by
                          have := hA h
                          subst this
                          rw [RdL] at hln
                          exact hln) hn (RdL.one hln) hroom (by
                            rw [hmlen, hcs.1, List.size_toArray, h5, ← Nat.add_mul]
                            exact Nat.mul_le_mul_right _ hroom)
                        have hrow : (us ++ rest).toArray.toList.take (l.length * i.size) ++ news ++ (us ++ rest).toArray.toList.drop (l.length * i.size + news.length) = us ++ news ++ (us ++ rest).drop (us.length + news.length) := by
                          rw [hcs.1, ← hllen, List.toList_toArray, List.take_left]
                        rw [hrow] at hr
                        have hnS := hI.notS j _ hk b (by rw [h1]; rfl)
                        have hI' := hId.give (w' := w.setRow b (us ++ news ++ (us ++ rest).drop (us.length + news.length)).toArray) id b (.slice (some ⟨b, 0, none⟩) (l.length + m.length) (cp + 1)) (.arr e' ty (l ++ m))
                          (fun j' Bj hj' hb' => by
                            by_cases e : j' = j
                            · rw [e, lk_rm_same] at hj'; cases hj'
                            · rw [lk_rm_other e] at hj'
                              exact hI.apart j' j Bj _ hj' hk e b hb' (by rw [h1]; rfl))
                          hnS.1 hnS.2 (fun k hk' => setRow_other w b k _ hk') (setRow_size b _) rfl rfl rfl (Nat.le_refl _) rfl
                          (fun hS => .inr ⟨b, cp, us ++ news, (us ++ rest).drop (us.length + news.length), by rw [upd_same, List.length_append], by rw [List.length_append]; exact hroom, h3, setRow_heap w b _ _ _ _ h4, by
                            rw [List.length_append, List.length_append, List.length_drop, h5, hllen, hmlen, ← Nat.add_mul]
                            have := Nat.mul_le_mul_right (sz ty) hroom
                            omega, RdL.mono (fun _ h => h) (Nat.le_of_eq (setRow_size b _).symm) hS (RdL.append h6 hln)⟩)
                        have hμ : ∀ k, but id k = true → upd μ id (.slice (some ⟨b, 0, none⟩) (l.length + m.length) (cp + 1)) k = μ k := fun k hk' => upd_other μ _ (but_iff.1 hk')
                        refine ⟨.value (.slice (some ⟨b, 0, none⟩) (l.length + m.length) (cp + 1)), _, _, _, S, ?_, .inl rfl, hI', VsOK.keep hμ (fun _ h => h) (Nat.le_of_eq (setRow_size b _).symm) (fun k hk' => setRow_other w b k _ (fun e => hnS.1 (e ▸ hk'))) hT, ⟨(upd_same _ _ _).symm, _, _, _, rfl⟩⟩
                        simp only [execOp, ho]
                        refine append_call hcal hargs hat ?_
                        rw [hs.1, h1, hx]
                        exact hr
                      · obtain ⟨v2, w2, hr2, m1, m2, m3⟩ := grow_ok hId hT (l := l) (m := m) (sCap := cp + 1) (A0 := some ⟨b, 0, none⟩) (olds := us) (ty' := o.type) (c := cx) id hu hi hz2 hcs.1 hzs hcs.2.2 h6 (fun h => by cases h) (fun ad had k v hv => by
                          cases had
                          rw [add_none, Nat.zero_add]
                          have hlt : k < us.length := (List.getElem?_eq_some_iff.1 hv).1
                          rw [show w.cell? ⟨b, k, none⟩ = (us ++ rest)[k]? from by simp [World.cell?, h4], List.getElem?_append_left hlt]
                          exact hv) hln hA hn (by omega) hfit
                        refine ⟨.value v2, v2, w2, _, S, ?_, .inl rfl, m1, m2, m3⟩
                        simp only [execOp, ho]
                        refine append_call hcal hargs hat ?_
                        rw [hs.1, h1, hx]
                        exact hr2
                  · cases h
                · cases h
              · cases h
            · cases h
          · cases h
        · cases h
      · cases h
    · cases h
  · cases h

theorem evG_make {t : TypeId} {lo co : Operand} {id : Nat} {av : AV} {c : Bool} {H' : Hp} {g : Option Nat} (hI : Inv F μ S H w) (hT : VsOK μ S w tm a.tmps.toList) {ρ : Operand → AV} (hρ : ∀ x, VOK μ S w (ρ x) (a.eval x))
    (h : evG P H (.makeSlice t lo co) ρ id = .go c av H' g) (hc : c = true) : Step P F (.makeSlice t lo co) a w (tmGone tm g) H' av := by
  have hl := hρ lo
  have hcp := hρ co
  simp only [evG] at h
  split at h
  · rename_i e kl n kc m hu hl' hc'
    split at h
    · rename_i i z ty hi hz hty
      split at h
      · rename_i x hof
        split at h
        · rename_i hcs
          cases h
          have hd := of_decide_eq_true hc
          rw [hl', VOK] at hl
          rw [hc', VOK] at hcp
          obtain ⟨it, vz, hi2, hz2, rfl⟩ := zeroAV_eq hz
          rw [hi] at hi2
          cases hi2
          have hzs : vz.cells.size = i.size := by simpa using hcs.2
          obtain ⟨q1, q2, hq, hq1, hq2⟩ := ofCells_ok hof (vs_sc (μ := μ) (S := S) (w := w) vz.cells.toList)
          rw [VsOK] at hq2
          rw [hq2, List.append_nil] at hq
          have hr := run_make (P := P) w t e i vz hu hi hz2 kl kc n m hd.1 hd.2.1 hd.2.2.1 hd.2.2.2
          have hrep : ∀ k : Nat, RdL S w ty (List.replicate k x) (List.replicate k q1).flatten := by
            intro k
            induction k with
            | zero => exact rfl
            | succ k ih => exact ⟨q1, (List.replicate k q1).flatten, by simp [List.replicate_succ], hq1, ih⟩
          have hmade : ∀ k : Nat, (madeCells vz.cells (k * i.size)).toList = (List.replicate k q1).flatten := by
            intro k
            induction k with
            | zero => simp [madeCells]
            | succ k ih =>
              have hs0 : 0 < i.size := by rw [hcs.1]; exact sz_pos ty
              have e1 : (madeCells vz.cells ((k + 1) * i.size)).toList = (madeCells vz.cells (k * i.size)).toList ++ vz.cells.toList := by
                have e2 : ∀ n, (madeCells vz.cells n).toList = (List.range n).map fun j => vz.cells[j % vz.cells.size]! := by
                  intro n; simp [madeCells, Array.toList_range]
                rw [e2, e2, Nat.add_mul, Nat.one_mul, List.range_add, List.map_append]
                congr 1
                apply List.ext_getElem
                · simp [hzs]
                · intro j h1 h2
                  simp only [List.getElem_map, List.getElem_range]
                  have hj : j < i.size := by simpa using h1
                  have e3 : (k * i.size + j) % vz.cells.size = j := by rw [hzs, Nat.mul_comm, Nat.mul_add_mod]; exact Nat.mod_eq_of_lt hj
                  rw [e3, getElem!_pos vz.cells j (by rw [hzs]; exact hj)]
                  simp
              rw [e1, ih, hq, List.replicate_succ', List.flatten_append]
              simp
          have hnm : n.toNat ≤ m.toNat := by omega
          have hsplit : (madeCells vz.cells (m.toNat * i.size)).toList = (List.replicate n.toNat q1).flatten ++ (List.replicate (m.toNat - n.toNat) q1).flatten := by
            rw [hmade, ← List.flatten_append, List.replicate_append_replicate]
            congr 2
            omega
          have hlenm : ((List.replicate n.toNat q1).flatten ++ (List.replicate (m.toNat - n.toNat) q1).flatten).length = m.toNat * sz ty := by
            rw [← hsplit, Array.length_toList, size_madeCells, hcs.1]
          obtain ⟨n1, n2, n3⟩ := newArr_ok hI hT (e := e) (c := m.toNat) id (hrep n.toNat) hlenm (by simp; omega) (by unfold maxLen; omega)
          have ea : ((List.replicate n.toNat q1).flatten ++ (List.replicate (m.toNat - n.toNat) q1).flatten).toArray = madeCells vz.cells (m.toNat * i.size) := by
            apply Array.toList_inj.1; rw [List.toList_toArray, hsplit]
          rw [ea, List.length_replicate] at n1 n2 n3
          refine step_of (fun o ho => ?_) (.inl rfl) n1 n2 n3
          simp only [execOp, ho]
          refine run_val ?_
          rw [hl, hcp]
          exact hr
        · cases h
      · cases h
    · cases h
  · cases h
end
end Go.Proofs.YtgkmfhmodojdcaaE

namespace Go.Proofs.YtgkmfhmodojdcaaE
open Go
set_option linter.unusedVariables false

def scTy (P : Program) (t : TypeId) : Option Ty := match P.underlying t with
  | some (.int k) => some (.int k)
  | some .bool => some .bool
  | some .string => some .str
  | _ => none
def mapTy (P : Program) (t : TypeId) : Option (Ty × Ty) := match P.underlying t with
  | some (.map k e) => match scTy P k, scTy P e with
    | some a, some b => some (a, b)
    | _, _ => none
  | _ => none
def keq : (t : Ty) → El t → El t → Bool
  | .int _, a, b => (show Int from a) == (show Int from b)
  | .bool, a, b => (show Bool from a) == (show Bool from b)
  | .str, a, b => (show ByteArray from a).toList == (show ByteArray from b).toList
  | _, _, _ => false
def mfind (kt vt : Ty) (k : El kt) : List (El kt × El vt) → Option (Nat × El vt)
  | [] => none
  | p :: m => match keq kt k p.1 with
    | true => some (0, p.2)
    | false => match mfind kt vt k m with
      | some (i, x) => some (i + 1, x)
      | none => none
def mget (kt vt : Ty) (k : El kt) (m : List (El kt × El vt)) (z : El vt) : El vt := match mfind kt vt k m with
  | some (_, x) => x
  | none => z
def mhas (kt vt : Ty) (k : El kt) (m : List (El kt × El vt)) : Bool := match mfind kt vt k m with
  | some _ => true
  | none => false
def mput (kt vt : Ty) (k : El kt) (v : El vt) (m : List (El kt × El vt)) : List (El kt × El vt) := match mfind kt vt k m with
  | some (i, _) => m.set i (k, v)
  | none => m ++ [(k, v)]
def mdel (kt vt : Ty) (k : El kt) (m : List (El kt × El vt)) : List (El kt × El vt) := match mfind kt vt k m with
  | some (i, _) => m.eraseIdx i
  | none => m
def scAV : (t : Ty) → El t → AV
  | .int k, x => .sc (.int k x)
  | .bool, x => .sc (.bool x)
  | .str, x => .sc (.string x)
  | _, _ => .top

def mapKey (P : Program) (H : Hp) (t : TypeId) (x i : AV) : Option ((j : Nat) × (kt : Ty) × (vt : Ty) × List (El kt × El vt) × El kt) := match x with
  | .mp j => match lk H j, mapTy P t with
    | some (.mp kt vt m), some (kt', vt') => match kt.eq kt', vt.eq vt' with
      | true, true => match ofCell kt i with
        | some k => some ⟨j, kt, vt, m, k⟩
        | none => none
      | _, _ => none
    | _, _ => none
  | _ => none
def zeroOf (P : Program) (t : TypeId) (vt : Ty) : Option (El vt) := match P.underlying t with
  | some (.map _ e) => (P.info? e).bind fun i => i.zero.bind fun v => ofCell vt (.sc v)
  | _ => none

def evM (P : Program) (H : Hp) (op : Op) (ρ : Operand → AV) (id : Nat) : OR := match op with
  | .makeMap t none => match mapTy P t with
    | some (kt, vt) => .go true (.mp id) ((id, .mp kt vt []) :: keepH (but id) (rm id H)) (some id)
    | none => .no
  | .lookup t x i ok => match mapKey P H t (ρ x) (ρ i) with
    | some ⟨j, kt, vt, m, k⟩ => match zeroOf P t vt with
      | some z => match ok with
        | true => .go true (.tup [scAV vt (mget kt vt k m z), .sc (.bool (mhas kt vt k m))]) H none
        | false => .go true (scAV vt (mget kt vt k m z)) H none
      | none => .no
    | none => .no
  | .mapUpdate t x i v => match mapKey P H t (ρ x) (ρ i) with
    | some ⟨j, kt, vt, m, k⟩ => match ofCell vt (ρ v) with
      | some y => .go true .top ((j, .mp kt vt (mput kt vt k y m)) :: rm j H) none
      | none => .no
    | none => .no
  | .insert t x i v => match mapKey P H t (ρ x) (ρ i) with
    | some ⟨j, kt, vt, m, k⟩ => match ofCell vt (ρ v) with
      | some y => .go true .top ((j, .mp kt vt (mput kt vt k y m)) :: rm j H) none
      | none => .no
    | none => .no
  | .call c => match c.callee with
    | .builtin .delete => match c.args[0]?, c.args[1]?, c.argTypes[0]? with
      | some x, some i, some t => match c.args.size with
        | 2 => match mapKey P H t (ρ x) (ρ i) with
          | some ⟨j, kt, vt, m, k⟩ => .go true (.sc (.tuple #[])) ((j, .mp kt vt (mdel kt vt k m)) :: rm j H) none
          | none => .no
        | _ => .no
      | _, _, _ => .no
    | _ => .no
  | _ => .no

section
variable {P : Program} {D : Prop} {F : Fr D} {μ : Nat → Value} {S : Nat → Prop} {w : World} {H : Hp} {tm : List AV} {a : Act}

theorem scTy_und {t : TypeId} {ty : Ty} (h : scTy P t = some ty) : (∃ k, P.underlying t = some (.int k) ∧ ty = .int k) ∨ (P.underlying t = some .bool ∧ ty = .bool) ∨ (P.underlying t = some .string ∧ ty = .str) := by
  unfold scTy at h
  split at h
  · rename_i k hk; cases h; exact .inl ⟨k, hk, rfl⟩
  · rename_i hk; cases h; exact .inr (.inl ⟨hk, rfl⟩)
  · rename_i hk; cases h; exact .inr (.inr ⟨hk, rfl⟩)
  · cases h
theorem mapTy_und {t : TypeId} {kt vt : Ty} (h : mapTy P t = some (kt, vt)) : ∃ k e, P.underlying t = some (.map k e) ∧ scTy P k = some kt ∧ scTy P e = some vt := by
  unfold mapTy at h
  split at h
  · rename_i k e hk
    split at h
    · rename_i a b h1 h2
      cases h
      exact ⟨k, e, hk, h1, h2⟩
    · cases h
  · cases h
theorem mapKey_ok {t : TypeId} {x i : AV} {j : Nat} {kt vt : Ty} {m : List (El kt × El vt)} {k : El kt} (h : mapKey P H t x i = some ⟨j, kt, vt, m, k⟩) :
    x = .mp j ∧ lk H j = some (.mp kt vt m) ∧ (∃ kd e, P.underlying t = some (.map kd e) ∧ scTy P kd = some kt ∧ scTy P e = some vt) ∧ ofCell kt i = some k := by
  unfold mapKey at h
  split at h
  · rename_i j
    split at h
    · rename_i kt vt m kt' vt' h1 h2
      split at h
      · rename_i h3 h4
        split at h
        · rename_i k hk
          cases h
          cases Ty.of_eq h3
          cases Ty.of_eq h4
          exact ⟨rfl, h1, mapTy_und h2, hk⟩
        · cases h
      · cases h
    · cases h
  · cases h

theorem sc_of {kd : TypeId} {kt : Ty} (hk : scTy P kd = some kt) {c : AV} {k : El kt} {u : Value} (h : ofCell kt c = some k) (hu : VOK μ S w c u) : scV kt k = some u := by
  have hr := ofCell_ok h hu
  rcases scTy_und hk with ⟨q, _, rfl⟩ | ⟨_, rfl⟩ | ⟨_, rfl⟩
  · simp only [Rd, List.cons.injEq, and_true] at hr; simp only [scV, hr]
  · simp only [Rd, List.cons.injEq, and_true] at hr; simp only [scV, hr]
  · simp only [Rd, List.cons.injEq, and_true] at hr; simp only [scV, hr]
theorem scAV_ok {e : TypeId} {vt : Ty} (hk : scTy P e = some vt) {x : El vt} {u : Value} (h : scV vt x = some u) : VOK μ S w (scAV vt x) u := by
  rcases scTy_und hk with ⟨q, _, rfl⟩ | ⟨_, rfl⟩ | ⟨_, rfl⟩ <;> (simp only [scV, Option.some.injEq] at h; exact h.symm)

theorem sameNow_ok {kd : TypeId} {kt : Ty} (hk : scTy P kd = some kt) {d : TypeDesc} (hd : P.underlying kd = some d) {a b : El kt} {u v : Value} (hu : scV kt a = some u) (hv : scV kt b = some v) : Instr.sameNow d u v = some (keq kt a b) := by
  rcases scTy_und hk with ⟨q, h, rfl⟩ | ⟨h, rfl⟩ | ⟨h, rfl⟩
  · rw [h] at hd; cases hd
    simp only [scV, Option.some.injEq] at hu hv
    subst hu; subst hv
    simp [Instr.sameNow, keq]
  · rw [h] at hd; cases hd
    simp only [scV, Option.some.injEq] at hu hv
    subst hu; subst hv
    simp [Instr.sameNow, keq]
  · rw [h] at hd; cases hd
    simp only [scV, Option.some.injEq] at hu hv
    subst hu; subst hv
    simp only [Instr.sameNow, keq, beq_toListBytes]
theorem findNow_ok {kd : TypeId} {kt vt : Ty} (hk : scTy P kd = some kt) {d : TypeDesc} (hd : P.underlying kd = some d) {k : El kt} {u : Value} (hu : scV kt k = some u) : ∀ {m : List (El kt × El vt)} {es : List MapEntry} {i : Nat}, MpRd kt vt m es →
    (mfind kt vt k m = none ∧ Instr.findNow d u es i = some none) ∨ ∃ j x v, mfind kt vt k m = some (j, x) ∧ scV vt x = some v ∧ Instr.findNow d u es i = some (some (i + j, v)) ∧ j < m.length ∧ (∃ e, es[j]? = some e ∧ keq kt k (m.getD j (zEl kt, zEl vt)).1 = true ∧ scV kt (m.getD j (zEl kt, zEl vt)).1 = some e.key)
  | [], es, i, h => by
    rw [MpRd] at h
    subst h
    exact .inl ⟨rfl, rfl⟩
  | p :: m, es, i, h => by
    obtain ⟨e, es', rfl, h1, h2, h3⟩ := h
    have hs := sameNow_ok hk hd hu h1
    cases hq : keq kt k p.1 with
    | true =>
      refine .inr ⟨0, p.2, e.val, by simp [mfind, hq], h2, ?_, by simp, e, rfl, hq, h1⟩
      simp only [Instr.findNow, hs, hq, Nat.add_zero]
    | false =>
      rcases findNow_ok hk hd hu (i := i + 1) h3 with ⟨h4, h5⟩ | ⟨j, x, v, h4, h5, h6, h7, h8⟩
      · refine .inl ⟨by simp [mfind, hq, h4], ?_⟩
        simp only [Instr.findNow, hs, hq, h5]
      · refine .inr ⟨j + 1, x, v, by simp [mfind, hq, h4], h5, ?_, by simpa using h7, by simpa using h8⟩
        simp only [Instr.findNow, hs, hq, h6]
        congr 3
        omega

theorem run_checkKey {kd : TypeId} {kt : Ty} (hk : scTy P kd = some kt) (b : Bool) (v : Value) : (Instr.checkKey b 10000 kd v).run P w = .ok () w := by
  rcases scTy_und hk with ⟨q, h, _⟩ | ⟨h, _⟩ | ⟨h, _⟩ <;>
    (unfold Instr.checkKey; simp only [Sem.run_bind, run_und h, Result.andThen_ok]; rfl)
theorem run_findKey {kd : TypeId} {d : TypeDesc} (hd : P.underlying kd = some d) {u : Value} {es : List MapEntry} {r : Option (Nat × Value)} (h : Instr.findNow d u es 0 = some r) : (Instr.findKey kd u es).run P w = .ok r w := by
  simp only [Instr.findKey, Sem.run_bind, run_und hd, Result.andThen_ok, h]
  rfl
theorem run_getMap {b : Nat} {es : Array MapEntry} {cl : Nat} (h : w.heap[b]? = some (.map es cl)) : (getObj b).run P w = .ok (.map es cl) w := by simp [getObj, Sem.run, h]
theorem und_of {t : TypeId} {ty : Ty} (h : scTy P t = some ty) : ∃ d, P.underlying t = some d := by
  rcases scTy_und h with ⟨q, h, _⟩ | ⟨h, _⟩ | ⟨h, _⟩ <;> exact ⟨_, h⟩

theorem evM_make {t : TypeId} {id : Nat} {av : AV} {c : Bool} {H' : Hp} {g : Option Nat} (hI : Inv F μ S H w) (hT : VsOK μ S w tm a.tmps.toList) {ρ : Operand → AV}
    (h : evM P H (.makeMap t none) ρ id = .go c av H' g) : Step P F (.makeMap t none) a w (tmGone tm g) H' av := by
  simp only [evM] at h
  split at h
  · rename_i kt vt hm
    cases h
    have hμ : ∀ j, but id j = true → upd μ id (.map (some w.heap.size)) j = μ j := fun j hj => upd_other μ _ (but_iff.1 hj)
    have hSw : ∀ b, S b → (w.alloc (.map #[] 0)).heap[b]? = w.heap[b]? := fun b hb => heap_alloc_lt w _ (hI.Slt b hb)
    have hz : w.heap.size ≤ (w.alloc (.map #[] 0)).heap.size := by simp
    refine step_of (fun o ho => ?_) (.inl rfl) (hI.new (.map #[] 0) id (.map (some w.heap.size)) (.mp kt vt []) rfl ⟨w.heap.size, #[], 0, upd_same _ _ _, heap_alloc_new w _, rfl⟩) (VsOK.keep hμ (fun _ h => h) hz hSw hT) ⟨(upd_same _ _ _).symm, _, rfl⟩
    simp only [execOp, ho]
    refine run_val ?_
    simp [Instr.makeMap, newObj, go_sem, Sem.run]
  · cases h

theorem evM_lookup {t : TypeId} {x i : Operand} {ok : Bool} {id : Nat} {av : AV} {c : Bool} {H' : Hp} {g : Option Nat} (hI : Inv F μ S H w) (hT : VsOK μ S w tm a.tmps.toList) {ρ : Operand → AV} (hρ : ∀ x, VOK μ S w (ρ x) (a.eval x))
    (h : evM P H (.lookup t x i ok) ρ id = .go c av H' g) : Step P F (.lookup t x i ok) a w (tmGone tm g) H' av := by
  simp only [evM] at h
  split at h
  · rename_i j kt vt m k hmk
    split at h
    · rename_i z hz
      obtain ⟨h1, h2, ⟨kd, e, h3, h4, h5⟩, h6⟩ := mapKey_ok hmk
      have hx := hρ x
      rw [h1] at hx
      obtain ⟨hx1, b, hx2⟩ := hx
      obtain ⟨b', es, cl, h7, h8, h9⟩ := hI.blk j _ h2
      rw [hx1] at hx2
      rw [hx2] at h7
      cases h7
      have hku := sc_of h4 h6 (hρ i)
      obtain ⟨d, hd⟩ := und_of h4
      have hzz : ∃ zv, (zeroValue e).run P w = .ok zv w ∧ scV vt z = some zv := by
        unfold zeroOf at hz
        rw [h3] at hz
        obtain ⟨ii, hi1, hz⟩ := Option.bind_eq_some_iff.1 hz
        obtain ⟨v, hi2, hz⟩ := Option.bind_eq_some_iff.1 hz
        exact ⟨v, by simp [zeroValue, typeInfo, go_sem, hi1, hi2], sc_of (μ := μ) (S := S) (w := w) h5 hz rfl⟩
      obtain ⟨zv, hz1, hz2⟩ := hzz
      have run : ∀ (r : Value) (bb : Bool), (∃ q, Instr.findNow d (a.eval i) es.toList 0 = some q ∧ (match q with | some (_, v) => (r = v ∧ bb = true) | none => (r = zv ∧ bb = false))) → (Instr.lookup t (a.eval x) (a.eval i) ok).run P w = .ok (if ok then .tuple #[r, .bool bb] else r) w := by
        rintro r bb ⟨q, hq, hr⟩
        rw [hx1, hx2]
        simp only [Instr.lookup, Sem.run_bind, run_und h3, Result.andThen_ok, run_getMap h8, run_checkKey h4, run_findKey hd hq, Sem.run_pure]
        cases q with
        | none => obtain ⟨rfl, rfl⟩ := hr; simp [hz1, go_sem]
        | some p => obtain ⟨rfl, rfl⟩ := hr; simp [go_sem]
      have res : ∃ r bb, (Instr.lookup t (a.eval x) (a.eval i) ok).run P w = .ok (if ok then .tuple #[r, .bool bb] else r) w ∧ scV vt (mget kt vt k m z) = some r ∧ mhas kt vt k m = bb := by
        rcases findNow_ok h4 hd hku (i := 0) h9 with ⟨q1, q2⟩ | ⟨jj, y, v, q1, q2, q3, _⟩
        · exact ⟨zv, false, run zv false ⟨none, q2, rfl, rfl⟩, by simp [mget, q1, hz2], by simp [mhas, q1]⟩
        · exact ⟨v, true, run v true ⟨_, q3, rfl, rfl⟩, by simp [mget, q1, q2], by simp [mhas, q1]⟩
      obtain ⟨r, bb, r1, r2, r3⟩ := res
      split at h
      · cases h
        refine step_of (fun o ho => ?_) (.inl rfl) hI hT ⟨_, rfl, _, _, rfl, scAV_ok h5 r2, _, _, rfl, rfl, rfl⟩
        simp only [execOp, ho]
        rw [r3]
        exact run_val (by simpa using r1)
      · cases h
        refine step_of (fun o ho => ?_) (.inl rfl) hI hT (scAV_ok h5 r2)
        simp only [execOp, ho]
        exact run_val (by simpa using r1)
    · cases h
  · cases h

theorem MpRd.len {kt vt : Ty} : ∀ {m : List (El kt × El vt)} {es : List MapEntry}, MpRd kt vt m es → es.length = m.length
  | [], es, h => by rw [MpRd] at h; rw [h]; rfl
  | p :: m, es, h => by obtain ⟨e, es', rfl, _, _, h3⟩ := h; simp [MpRd.len h3]
theorem MpRd.set {kt vt : Ty} {k : El kt} {x : El vt} {e0 : MapEntry} (h1 : scV kt k = some e0.key) (h2 : scV vt x = some e0.val) : ∀ {m : List (El kt × El vt)} {es : List MapEntry} {j : Nat}, MpRd kt vt m es → MpRd kt vt (m.set j (k, x)) (es.set j e0)
  | [], es, j, h => by rw [MpRd] at h; rw [h]; exact rfl
  | p :: m, es, 0, h => by obtain ⟨e, es', rfl, _, _, h3⟩ := h; exact ⟨e0, es', rfl, h1, h2, h3⟩
  | p :: m, es, j + 1, h => by obtain ⟨e, es', rfl, h4, h5, h3⟩ := h; exact ⟨e, es'.set j e0, rfl, h4, h5, MpRd.set h1 h2 h3⟩
theorem MpRd.push {kt vt : Ty} {k : El kt} {x : El vt} {e0 : MapEntry} (h1 : scV kt k = some e0.key) (h2 : scV vt x = some e0.val) : ∀ {m : List (El kt × El vt)} {es : List MapEntry}, MpRd kt vt m es → MpRd kt vt (m ++ [(k, x)]) (es ++ [e0])
  | [], es, h => by rw [MpRd] at h; rw [h]; exact ⟨e0, [], rfl, h1, h2, rfl⟩
  | p :: m, es, h => by obtain ⟨e, es', rfl, h4, h5, h3⟩ := h; exact ⟨e, es' ++ [e0], rfl, h4, h5, MpRd.push h1 h2 h3⟩
theorem MpRd.erase {kt vt : Ty} : ∀ {m : List (El kt × El vt)} {es : List MapEntry} {j : Nat}, MpRd kt vt m es → MpRd kt vt (m.eraseIdx j) (es.eraseIdx j)
  | [], es, j, h => by rw [MpRd] at h; rw [h]; simp [MpRd]
  | p :: m, es, 0, h => by obtain ⟨e, es', rfl, h4, h5, h3⟩ := h; exact h3
  | p :: m, es, j + 1, h => by obtain ⟨e, es', rfl, h4, h5, h3⟩ := h; exact ⟨e, es'.eraseIdx j, rfl, h4, h5, MpRd.erase h3⟩

def putMap (w : World) (b : Nat) (o : Obj) : World := { w with heap := w.heap.setIfInBounds b o }
theorem putMap_other (w : World) (b k : Nat) (o : Obj) (h : k ≠ b) : (putMap w b o).heap[k]? = w.heap[k]? := by
  simp only [putMap]
  rw [Array.getElem?_setIfInBounds_ne (Ne.symm h)]
theorem putMap_same {b : Nat} {o o' : Obj} (h : w.heap[b]? = some o') : (putMap w b o).heap[b]? = some o := by
  have := (Array.getElem?_eq_some_iff.1 h).1
  simp [putMap, this]
theorem putMap_size (w : World) (b : Nat) (o : Obj) : (putMap w b o).heap.size = w.heap.size := by simp [putMap]

theorem map_set {j : Nat} {kt vt : Ty} {m m' : List (El kt × El vt)} {b : Nat} {es es' : Array MapEntry} {cl cl' : Nat} (hI : Inv F μ S H w) (hT : VsOK μ S w tm a.tmps.toList) (hj : lk H j = some (.mp kt vt m)) (hm : μ j = .map (some b)) (hb : w.heap[b]? = some (.map es cl)) (h' : MpRd kt vt m' es'.toList) :
    Inv F μ S ((j, .mp kt vt m') :: rm j H) (putMap w b (.map es' cl')) ∧ VsOK μ S (putMap w b (.map es' cl')) tm a.tmps.toList := by
  have hbm : bof (μ j) = some b := by rw [hm]; rfl
  have hnS := hI.notS j _ hj b hbm
  exact ⟨hI.set j b _ _ hj hbm (fun k hk => putMap_other w b k _ hk) (putMap_size w b _) rfl rfl rfl (Nat.le_refl _) (fun _ => ⟨b, es', cl', hm, putMap_same hb, h'⟩),
    VsOK.mono (fun _ h => h) (Nat.le_of_eq (putMap_size w b _).symm) (fun k hk => putMap_other w b k _ (fun e => hnS.1 (e ▸ hk))) hT⟩

theorem keep_same {kd : TypeId} {kt : Ty} (hk : scTy P kd = some kt) {x y : El kt} {u v : Value} (hu : scV kt x = some u) (hv : scV kt y = some v) (h : keq kt x y = true) : (Instr.keyThatStays v u).run P w = .ok u w := by
  have hs : Instr.sameBits 10000 v u = true := by
    rcases scTy_und hk with ⟨q, _, rfl⟩ | ⟨_, rfl⟩ | ⟨_, rfl⟩
    · simp only [scV, Option.some.injEq] at hu hv
      subst hu; subst hv
      simp only [keq, beq_iff_eq] at h
      subst h
      simp [Instr.sameBits]
    · simp only [scV, Option.some.injEq] at hu hv
      subst hu; subst hv
      simp only [keq, beq_iff_eq] at h
      subst h
      simp [Instr.sameBits]
    · simp only [scV, Option.some.injEq] at hu hv
      subst hu; subst hv
      simp only [keq] at h
      have h' : (y == x) = true := by rw [beq_toListBytes, beq_iff_eq.1 h]; simp
      simpa [Instr.sameBits] using h'
  simp [Instr.keyThatStays, hs, go_sem]

theorem update_run {t : TypeId} {kd e : TypeId} {kt vt : Ty} {m : List (El kt × El vt)} {k : El kt} {y : El vt} {b : Nat} {es : Array MapEntry} {cl : Nat} {ku vu : Value} (h3 : P.underlying t = some (.map kd e)) (h4 : scTy P kd = some kt) (hb : w.heap[b]? = some (.map es cl)) (hr : MpRd kt vt m es.toList) (hk : scV kt k = some ku) (hv : scV vt y = some vu) :
    ∃ es' cl', (Instr.mapUpdate t (.map (some b)) ku vu).run P w = .ok () (putMap w b (.map es' cl')) ∧ MpRd kt vt (mput kt vt k y m) es'.toList := by
  obtain ⟨d, hd⟩ := und_of h4
  have hset : ∀ o, (setObj b o).run P w = .ok () (putMap w b o) := by
    intro o
    simp [setObj, Sem.run, hb, putMap]
  rcases findNow_ok h4 hd hk (i := 0) hr with ⟨q1, q2⟩ | ⟨j, x, v, q1, q2, q3, q4, e0, q5, q6, q7⟩
  · refine ⟨es.push { key := ku, val := vu, born := cl }, cl + 1, ?_, ?_⟩
    · simp only [Instr.mapUpdate, Sem.run_bind, run_und h3, Result.andThen_ok, run_getMap hb, run_checkKey h4, run_findKey hd q2, hset]
    · have := MpRd.push (e0 := { key := ku, val := vu, born := cl }) hk hv hr
      simpa [mput, q1] using this
  · have hj : j < es.size := by
      have := MpRd.len hr
      simp at this
      omega
    have hek : es[j]? = some e0 := by simpa [← Array.getElem?_toList] using q5
    refine ⟨es.modify j fun e => { e with key := ku, val := vu }, cl, ?_, ?_⟩
    · rw [Nat.zero_add] at q3
      simp only [Instr.mapUpdate, Sem.run_bind, run_und h3, Result.andThen_ok, run_getMap hb, run_checkKey h4, run_findKey hd q3, hek, Option.map_some, Option.getD_some, keep_same h4 hk q7 q6, hset]
    · have hm : mput kt vt k y m = m.set j (k, y) := by simp [mput, q1]
      rw [hm]
      have := MpRd.set (e0 := { e0 with key := ku, val := vu }) (j := j) hk hv hr
      have e2 : (es.modify j fun e => { e with key := ku, val := vu }).toList = es.toList.set j { e0 with key := ku, val := vu } := by
        apply List.ext_getElem?
        intro i
        rw [Array.toList_modify, List.getElem?_modify, List.getElem?_set]
        by_cases hi : j = i
        · subst hi
          simp [hj, hek, ← Array.getElem?_toList] at *
          simp [q5]
        · simp [hi]
      rw [e2]
      exact this

theorem delete_run {t : TypeId} {kd e : TypeId} {kt vt : Ty} {m : List (El kt × El vt)} {k : El kt} {b : Nat} {es : Array MapEntry} {cl : Nat} {ku : Value} {ts : Array TypeId} (ht : ts[0]? = some t) (h3 : P.underlying t = some (.map kd e)) (h4 : scTy P kd = some kt) (hb : w.heap[b]? = some (.map es cl)) (hr : MpRd kt vt m es.toList) (hk : scV kt k = some ku) :
    ∃ es' cl', (∀ ty, (Builtin.delete_ ts ty #[.map (some b), ku]).run P w = .ok (.tuple #[]) (putMap w b (.map es' cl'))) ∧ MpRd kt vt (mdel kt vt k m) es'.toList := by
  obtain ⟨d, hd⟩ := und_of h4
  have hset : ∀ o, (setObj b o).run P w = .ok () (putMap w b o) := by
    intro o
    simp [setObj, Sem.run, hb, putMap]
  rcases findNow_ok h4 hd hk (i := 0) hr with ⟨q1, q2⟩ | ⟨j, x, v, q1, q2, q3, q4, _⟩
  · refine ⟨es, cl, fun ty => ?_, by simpa [mdel, q1] using hr⟩
    simp [Builtin.delete_, ht, Sem.run_bind, run_und h3, run_getMap hb, run_checkKey h4, run_findKey hd q2, hset, go_sem]
  · rw [Nat.zero_add] at q3
    refine ⟨es.eraseIdxIfInBounds j, cl, fun ty => ?_, ?_⟩
    · simp [Builtin.delete_, ht, Sem.run_bind, run_und h3, run_getMap hb, run_checkKey h4, run_findKey hd q3, hset, go_sem]
    · have hj : j < es.size := by
        have := MpRd.len hr
        simp at this
        omega
      have := MpRd.erase (j := j) hr
      simpa [mdel, q1, Array.eraseIdxIfInBounds, hj] using this

theorem evM_put {t : TypeId} {x i v : Operand} {id : Nat} {av : AV} {c : Bool} {H' : Hp} {g : Option Nat} {op : Op} (hop : op = .mapUpdate t x i v ∨ op = .insert t x i v) (hI : Inv F μ S H w) (hT : VsOK μ S w tm a.tmps.toList) {ρ : Operand → AV} (hρ : ∀ x, VOK μ S w (ρ x) (a.eval x))
    (h : evM P H op ρ id = .go c av H' g) : Step P F op a w (tmGone tm g) H' av := by
  have h : (match mapKey P H t (ρ x) (ρ i) with
    | some ⟨j, kt, vt, m, k⟩ => match ofCell vt (ρ v) with
      | some y => OR.go true .top ((j, .mp kt vt (mput kt vt k y m)) :: rm j H) none
      | none => .no
    | none => .no) = .go c av H' g := by rcases hop with rfl | rfl <;> exact h
  split at h
  · rename_i j kt vt m k hmk
    split at h
    · rename_i y hy
      cases h
      obtain ⟨h1, h2, ⟨kd, e, h3, h4, h5⟩, h6⟩ := mapKey_ok hmk
      have hx := hρ x
      rw [h1] at hx
      obtain ⟨hx1, b, hx2⟩ := hx
      obtain ⟨b', es, cl, h7, h8, h9⟩ := hI.blk j _ h2
      rw [hx1] at hx2
      rw [hx2] at h7
      cases h7
      obtain ⟨es', cl', r1, r2⟩ := update_run (P := P) (t := t) h3 h4 h8 h9 (sc_of h4 h6 (hρ i)) (sc_of h5 hy (hρ v))
      obtain ⟨n1, n2⟩ := map_set (cl' := cl') hI hT h2 hx2 h8 r2
      refine step_of (fun o ho => ?_) (.inr ⟨rfl, rfl⟩) n1 n2 trivial
      rcases hop with rfl | rfl <;> (simp only [execOp, ho, hx1, hx2, Sem.run_bind, r1, Result.andThen_ok]; rfl)
    · cases h
  · cases h
theorem evM_delete {cl : Call} {id : Nat} {av : AV} {c : Bool} {H' : Hp} {g : Option Nat} (hI : Inv F μ S H w) (hT : VsOK μ S w tm a.tmps.toList) {ρ : Operand → AV} (hρ : ∀ x, VOK μ S w (ρ x) (a.eval x))
    (h : evM P H (.call cl) ρ id = .go c av H' g) : Step P F (.call cl) a w (tmGone tm g) H' av := by
  simp only [evM] at h
  split at h
  · rename_i hcal
    split at h
    · rename_i x i t hx0 hx1 ht
      split at h
      · rename_i hsz
        split at h
        · rename_i j kt vt m k hmk
          cases h
          obtain ⟨h1, h2, ⟨kd, e, h3, h4, h5⟩, h6⟩ := mapKey_ok hmk
          have hx := hρ x
          rw [h1] at hx
          obtain ⟨hxa, b, hxb⟩ := hx
          obtain ⟨b', es, clk, h7, h8, h9⟩ := hI.blk j _ h2
          rw [hxa] at hxb
          rw [hxb] at h7
          cases h7
          have hargs : cl.args = #[x, i] := by
            apply Array.ext'
            apply List.ext_getElem?
            intro n
            rw [Array.getElem?_toList]
            match n with
            | 0 => simpa using hx0
            | 1 => simpa using hx1
            | n + 2 => simp [hsz]
          obtain ⟨es', cl', r1, r2⟩ := delete_run (P := P) ht h3 h4 h8 h9 (sc_of h4 h6 (hρ i))
          obtain ⟨n1, n2⟩ := map_set (cl' := cl') hI hT h2 hxb h8 r2
          refine step_of (fun o ho => ?_) (.inl rfl) n1 n2 rfl
          simp only [execOp, ho, resolve, hcal, Sem.run_bind, Sem.run_pure, Result.andThen_ok, invoke, builtin, hargs, List.map_toArray, List.map_cons, List.map_nil, hxa, hxb]
          rw [r1]
          rfl
        · cases h
      · cases h
    · cases h
  · cases h

theorem evM_ok {op : Op} {H' : Hp} {id : Nat} {c : Bool} {av : AV} {g : Option Nat} (hI : Inv F μ S H w) (hT : VsOK μ S w tm a.tmps.toList) {ρ : Operand → AV} (hρ : ∀ x, VOK μ S w (ρ x) (a.eval x))
    (h : evM P H op ρ id = .go c av H' g) : Step P F op a w (tmGone tm g) H' av := by
  cases op with
  | makeMap t r => cases r with
    | none => exact evM_make hI hT h
    | some r => simp [evM] at h
  | lookup t x i ok => exact evM_lookup hI hT hρ h
  | mapUpdate t x i v => exact evM_put (.inl rfl) hI hT hρ h
  | insert t x i v => exact evM_put (.inr rfl) hI hT hρ h
  | call cl => exact evM_delete hI hT hρ h
  | _ => simp [evM] at h
end
end Go.Proofs.YtgkmfhmodojdcaaE

