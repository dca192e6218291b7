/- The engine, part 1: states and what they say. -/
import Derived.Test.YtigekmmdflaeaaaDoorEng0
import Derived.Below
set_option linter.all false
namespace Go.Proofs.YtigekmmdflaeaaaDoorE
open Go
set_option linter.unusedVariables false

/-- What a name stands for: a variable in a block of its own, or an array that nobody else has. -/
inductive ABlk where
  | box (T : TypeId) (cells : List AV)
  | arr (e : TypeId) (t : Ty) (l : List (El t))
  | mp (kt vt : Ty) (m : List (El kt × El vt))

abbrev Hp := List (Nat × ABlk)

def lk : Hp → Nat → Option ABlk
  | [], _ => none
  | (n, B) :: H, id => match Nat.beq n id with
    | true => some B
    | false => lk H id

def rm (id : Nat) : Hp → Hp
  | [] => []
  | (n, B) :: H => match Nat.beq n id with
    | true => rm id H
    | false => (n, B) :: rm id H

def keepB (p : Nat → Bool) : ABlk → ABlk
  | .box T cells => .box T (keeps p cells)
  | .arr e t l => .arr e t l
  | .mp kt vt m => .mp kt vt m

def keepH (p : Nat → Bool) : Hp → Hp
  | [] => []
  | (n, B) :: H => (n, keepB p B) :: keepH p H

structure St where
  tm : List AV
  H : Hp

def bof : Value → Option Nat
  | .pointer (some a) => some a.block
  | .slice (some a) _ (_ + 1) => some a.block
  | .map (some b) => some b
  | _ => none

/-- a plain value -/
def scV : (t : Ty) → El t → Option Value
  | .int k, x => some (.int k x)
  | .bool, x => some (.bool x)
  | .str, x => some (.string x)
  | _, _ => none
/-- The entries of a map. -/
def MpRd (kt vt : Ty) : List (El kt × El vt) → List MapEntry → Prop
  | [], es => es = []
  | p :: m, es => ∃ e es', es = e :: es' ∧ scV kt p.1 = some e.key ∧ scV vt p.2 = some e.val ∧ MpRd kt vt m es'
def BOK (μ : Nat → Value) (S : Nat → Prop) (w : World) (id : Nat) : ABlk → Prop
  | .box T cells => ∃ b us, μ id = .pointer (some ⟨b, 0, none⟩) ∧ w.heap[b]? = some (.cells us.toArray T (0, 0)) ∧ VsOK μ S w cells us
  | .arr e t l => (∃ A, μ id = .slice A 0 0 ∧ l = []) ∨
      ∃ b c us rest, μ id = .slice (some ⟨b, 0, none⟩) l.length (c + 1) ∧ l.length ≤ c + 1 ∧ c + 1 ≤ maxLen ∧ w.heap[b]? = some (.cells (us ++ rest).toArray e (0, 0)) ∧
        (us ++ rest).length = (c + 1) * sz t ∧ RdL S w t l us
  | .mp kt vt m => ∃ b es clock, μ id = .map (some b) ∧ w.heap[b]? = some (.map es clock) ∧ MpRd kt vt m es.toList

/-- What is asked of the world besides: whether draws are counted; blocks that stand for ever, and what they hold. -/
structure Cx where
  p : Prop
  B : Nat → Prop
  hy : World → Prop
  st : ∀ w w' : World, (∀ b, B b → w'.heap[b]? = w.heap[b]?) → hy w → hy w'
  lt : ∀ w b, hy w → B b → b < w.heap.size
instance : Coe Prop Cx := ⟨fun p => ⟨p, fun _ => False, fun _ => True, fun _ _ _ h => h, fun _ _ _ h => h.elim⟩⟩
structure Fr (D : Cx) where
  w0 : World
  O : Nat → Prop
  S0 : Nat → Prop
  /-- names that stand for ever for what they stand for -/
  fix : Nat → Option Value
  low : ∀ d, Nat.blt d 2000000 = true → fix d = none

structure Inv {D : Cx} (F : Fr D) (μ : Nat → Value) (S : Nat → Prop) (H : Hp) (w : World) : Prop where
  blk : ∀ id B, lk H id = some B → BOK μ S w id B
  apart : ∀ i j Bi Bj, lk H i = some Bi → lk H j = some Bj → i ≠ j → ∀ b, bof (μ i) = some b → bof (μ j) = some b → False
  notS : ∀ i B, lk H i = some B → ∀ b, bof (μ i) = some b → ¬ S b ∧ (F.w0.heap.size ≤ b ∨ F.O b)
  Slt : ∀ b, S b → b < w.heap.size
  S0 : ∀ b, F.S0 b → S b
  Sfrom : ∀ b, S b → F.S0 b ∨ F.O b ∨ F.w0.heap.size ≤ b
  frame : ∀ b, b < F.w0.heap.size → ¬ F.O b → w.heap[b]? = F.w0.heap[b]?
  size : F.w0.heap.size ≤ w.heap.size
  os : w.os = F.w0.os
  tape : w.tape = F.w0.tape
  output : w.output = F.w0.output
  drawn : D.p → F.w0.drawn ≤ w.drawn
  fixd : ∀ i v B, F.fix i = some v → lk H i = some B → μ i = v
  hy : D.hy F.w0 ∧ ∀ b, D.B b → ¬ F.O b

theorem Inv.hyw {D : Cx} {F : Fr D} {μ : Nat → Value} {S : Nat → Prop} {H : Hp} {w : World} (h : Inv F μ S H w) : D.hy w :=
  D.st F.w0 w (fun b hb => h.frame b (D.lt F.w0 b h.hy.1 hb) (h.hy.2 b hb)) h.hy.1
/-- What lies under a name is not what stands for ever. -/
theorem Inv.hyb {D : Cx} {F : Fr D} {μ : Nat → Value} {S : Nat → Prop} {H : Hp} {w : World} (h : Inv F μ S H w) {i : Nat} {B : ABlk} (hi : lk H i = some B) {b : Nat} (hb : bof (μ i) = some b) : ¬ D.B b := fun hB => by
  rcases (h.notS i B hi b hb).2 with h1 | h1
  · exact absurd (D.lt F.w0 b h.hy.1 hB) (by omega)
  · exact h.hy.2 b hB h1
/-- What is asked of a world behind a call. -/
structure Bel (D : Cx) (w w' : World) : Prop extends Go.RowKit.Below w.heap.size w w' where
  drawn : D.p → w.drawn ≤ w'.drawn

def Gam {D : Cx} (F : Fr D) (st : St) (a : Act) (w : World) : Prop :=
  ∃ μ S, Inv F μ S st.H w ∧ VsOK μ S w st.tm a.tmps.toList ∧ a.defers = []

/-! ### names -/
theorem lk_rm_same (id : Nat) : ∀ H : Hp, lk (rm id H) id = none
  | [] => rfl
  | (n, B) :: H => by
    unfold rm
    cases h : Nat.beq n id with
    | true => simpa [h] using lk_rm_same id H
    | false => simp [lk, h, lk_rm_same id H]
theorem lk_rm_other {id j : Nat} (hj : j ≠ id) : ∀ H : Hp, lk (rm id H) j = lk H j
  | [] => rfl
  | (n, B) :: H => by
    unfold rm
    cases h : Nat.beq n id with
    | true =>
      have hn : n = id := Nat.eq_of_beq_eq_true h
      have hnj : Nat.beq n j = false := by
        cases h' : Nat.beq n j with
        | false => rfl
        | true => exact absurd ((Nat.eq_of_beq_eq_true h').symm.trans hn) hj
      simp [lk, hnj, lk_rm_other hj H]
    | false => simp [lk, lk_rm_other hj H]
theorem lk_cons_same (id : Nat) (B : ABlk) (H : Hp) : lk ((id, B) :: H) id = some B := by
  have : Nat.beq id id = true := by simp
  simp [lk, this]
theorem lk_cons_other {id j : Nat} (hj : j ≠ id) (B : ABlk) (H : Hp) : lk ((id, B) :: H) j = lk H j := by
  have : Nat.beq id j = false := by
    cases h' : Nat.beq id j with
    | false => rfl
    | true => exact absurd (Nat.eq_of_beq_eq_true h').symm hj
  simp [lk, this]
theorem lk_keepH (p : Nat → Bool) : ∀ (H : Hp) (id : Nat), lk (keepH p H) id = (lk H id).map (keepB p)
  | [], _ => rfl
  | (n, B) :: H, id => by
    unfold keepH lk
    cases h : Nat.beq n id with
    | true => rfl
    | false => exact lk_keepH p H id

def upd (μ : Nat → Value) (id : Nat) (v : Value) : Nat → Value := fun j => if j = id then v else μ j
theorem upd_same (μ : Nat → Value) (id : Nat) (v : Value) : upd μ id v id = v := by simp [upd]
theorem upd_other (μ : Nat → Value) {id j : Nat} (v : Value) (h : j ≠ id) : upd μ id v j = μ j := by simp [upd, h]

/-- every name but one -/
def but (d : Nat) : Nat → Bool := fun j => !(Nat.beq j d)
theorem but_iff {d j : Nat} : but d j = true ↔ j ≠ d := by
  unfold but
  cases h : Nat.beq j d with
  | true => simp [Nat.eq_of_beq_eq_true h]
  | false =>
    simp
    intro e
    subst e
    simp at h

theorem bof_lt {μ : Nat → Value} {S : Nat → Prop} {w : World} {id : Nat} {B : ABlk} (h : BOK μ S w id B) {b : Nat} (hb : bof (μ id) = some b) : b < w.heap.size := by
  cases B with
  | box T cells =>
    obtain ⟨b', us, h1, h2, _⟩ := h
    rw [h1] at hb
    simp only [bof, Option.some.injEq] at hb
    subst hb
    exact (Array.getElem?_eq_some_iff.1 h2).1
  | arr e t l =>
    rcases h with ⟨A, h1, _⟩ | ⟨b', c, us, rest, h1, _, _, h2, _⟩
    · rw [h1] at hb; simp [bof] at hb
    · rw [h1] at hb
      simp only [bof, Option.some.injEq] at hb
      subst hb
      exact (Array.getElem?_eq_some_iff.1 h2).1
  | mp kt vt m =>
    obtain ⟨b', es, cl, h1, h2, _⟩ := h
    rw [h1] at hb
    simp only [bof, Option.some.injEq] at hb
    subst hb
    exact (Array.getElem?_eq_some_iff.1 h2).1

section
variable {μ μ' : Nat → Value} {S S' : Nat → Prop} {w w' : World} {p : Nat → Bool}
/-- What a name says stands where its own block and what is read only stand. -/
theorem BOK.keep (hμ : ∀ id, p id = true → μ' id = μ id) (hS : ∀ b, S b → S' b) (hz : w.heap.size ≤ w'.heap.size) (hw : ∀ b, S b → w'.heap[b]? = w.heap[b]?) {id : Nat} (hid : μ' id = μ id)
    (hb : ∀ b, bof (μ id) = some b → w'.heap[b]? = w.heap[b]?) : ∀ {B : ABlk}, BOK μ S w id B → BOK μ' S' w' id (keepB p B)
  | .box T cells, h => by
    obtain ⟨b, us, h1, h2, h3⟩ := h
    exact ⟨b, us, hid.trans h1, (hb b (by rw [h1]; rfl)).trans h2, VsOK.keep hμ hS hz hw h3⟩
  | .arr e t l, h => by
    rcases h with ⟨A, h1, h2⟩ | ⟨b, c, us, rest, h1, h2, h3, h4, h5, h6⟩
    · exact .inl ⟨A, hid.trans h1, h2⟩
    · exact .inr ⟨b, c, us, rest, hid.trans h1, h2, h3, (hb b (by rw [h1]; rfl)).trans h4, h5, RdL.mono hS hz hw h6⟩
  | .mp kt vt m, h => by
    obtain ⟨b, es, cl, h1, h2, h3⟩ := h
    exact ⟨b, es, cl, hid.trans h1, (hb b (by rw [h1]; rfl)).trans h2, h3⟩
theorem BOK.mono (hS : ∀ b, S b → S' b) (hz : w.heap.size ≤ w'.heap.size) (hw : ∀ b, S b → w'.heap[b]? = w.heap[b]?) {id : Nat}
    (hb : ∀ b, bof (μ id) = some b → w'.heap[b]? = w.heap[b]?) : ∀ {B : ABlk}, BOK μ S w id B → BOK μ S' w' id B
  | .box T cells, h => by
    obtain ⟨b, us, h1, h2, h3⟩ := h
    exact ⟨b, us, h1, (hb b (by rw [h1]; rfl)).trans h2, VsOK.mono hS hz hw h3⟩
  | .arr e t l, h => by
    rcases h with ⟨A, h1, h2⟩ | ⟨b, c, us, rest, h1, h2, h3, h4, h5, h6⟩
    · exact .inl ⟨A, h1, h2⟩
    · exact .inr ⟨b, c, us, rest, h1, h2, h3, (hb b (by rw [h1]; rfl)).trans h4, h5, RdL.mono hS hz hw h6⟩
  | .mp kt vt m, h => by
    obtain ⟨b, es, cl, h1, h2, h3⟩ := h
    exact ⟨b, es, cl, h1, (hb b (by rw [h1]; rfl)).trans h2, h3⟩
end

/-! ### operands and results -/
def evl (tm : List AV) : Operand → AV
  | .tmp t => tm.getD t .top
  | .const v => .sc v
  | .global _ => .top
  | .func f => .fn f []

theorem evl_ok {μ : Nat → Value} {S : Nat → Prop} {w : World} {tm : List AV} {a : Act} (h : VsOK μ S w tm a.tmps.toList) (x : Operand) : VOK μ S w (evl tm x) (a.eval x) := by
  cases x with
  | tmp t =>
    show VOK μ S w (tm.getD t .top) (a.tmps.getD t undef)
    rw [List.getD_eq_getElem?_getD]
    cases ht : tm[t]? with
    | none => trivial
    | some av =>
      obtain ⟨u, hu, hv⟩ := VsOK.get h ht
      rw [Array.getD_eq_getD_getElem?, ← Array.getElem?_toList, hu]
      exact hv
  | const v => rfl
  | global g => trivial
  | func f => exact ⟨[], rfl, rfl⟩

def putA (tm : List AV) (dst : Option Nat) (av : AV) : List AV := match dst with
  | some d => tm.set d av
  | none => tm

theorem putA_ok {μ : Nat → Value} {S : Nat → Prop} {w : World} {tm : List AV} {a : Act} {dst : Option Nat} {av : AV} {v : Value} (h : VsOK μ S w tm a.tmps.toList) (hv : VOK μ S w av v) :
    VsOK μ S w (putA tm dst av) (a.put dst v).tmps.toList := by
  cases dst with
  | none => exact h
  | some d =>
    simp only [putA, Act.put, Array.toList_setIfInBounds]
    exact VsOK.set hv h

theorem put_defers (a : Act) (dst : Option Nat) (v : Value) : (a.put dst v).defers = a.defers := by cases dst <;> rfl

/-- A pure value is put. -/
theorem Gam.put {D : Cx} {F : Fr D} {st : St} {a : Act} {w : World} {dst : Option Nat} {av : AV} {v : Value} {μ : Nat → Value} {S : Nat → Prop} (hI : Inv F μ S st.H w) (hT : VsOK μ S w st.tm a.tmps.toList) (hD : a.defers = [])
    (hv : VOK μ S w av v) : Gam F { st with tm := putA st.tm dst av } (a.put dst v) w :=
  ⟨μ, S, hI, putA_ok hT hv, by rw [put_defers]; exact hD⟩

/-- One more draw changes nothing. -/
theorem Inv.drew {D : Cx} {F : Fr D} {μ : Nat → Value} {S : Nat → Prop} {H : Hp} {w : World} (h : Inv F μ S H w) : Inv F μ S H w.drew :=
  ⟨fun id B hB => BOK.mono (w := w) (w' := w.drew) (fun _ h => h) (Nat.le_refl _) (fun _ _ => rfl) (fun _ _ => rfl) (h.blk id B hB), h.apart, h.notS, h.Slt, h.S0, h.Sfrom, h.frame, h.size, h.os, h.tape, h.output, fun x => Nat.le_succ_of_le (h.drawn x), h.fixd, h.hy⟩
theorem Gam.drew {D : Cx} {F : Fr D} {st : St} {a : Act} {w : World} (h : Gam F st a w) : Gam F st a w.drew := by
  obtain ⟨μ, S, h1, h2, h3⟩ := h
  exact ⟨μ, S, h1.drew, VsOK.mono (w := w) (w' := w.drew) (fun _ h => h) (Nat.le_refl _) (fun _ _ => rfl) h2, h3⟩

/-! ### a new block -/
theorem heap_alloc_lt (w : World) (o : Obj) {b : Nat} (h : b < w.heap.size) : (w.alloc o).heap[b]? = w.heap[b]? := by
  show (w.heap.push o)[b]? = _
  rw [Array.getElem?_push]
  split
  · omega
  · rfl

/-- A new block under a name (what had that name has none any more). -/
theorem Inv.new {D : Cx} {F : Fr D} {μ : Nat → Value} {S : Nat → Prop} {H : Hp} {w : World} (h : Inv F μ S H w) (o : Obj) (d : Nat) (hd : F.fix d = none) (v : Value) (B : ABlk)
    (hv : bof v = some w.heap.size) (hB : BOK (upd μ d v) S (w.alloc o) d B) :
    Inv F (upd μ d v) S ((d, B) :: keepH (but d) (rm d H)) (w.alloc o) := by
  have hSw : ∀ b, S b → (w.alloc o).heap[b]? = w.heap[b]? := fun b hb => heap_alloc_lt w o (h.Slt b hb)
  have hz : w.heap.size ≤ (w.alloc o).heap.size := by simp
  have hμ : ∀ id, but d id = true → upd μ d v id = μ id := fun id hid => upd_other μ v (but_iff.1 hid)
  have old : ∀ id B', lk ((d, B) :: keepH (but d) (rm d H)) id = some B' → id ≠ d → ∃ B0, lk H id = some B0 ∧ B' = keepB (but d) B0 := by
    intro id B' hid hne
    rw [lk_cons_other hne, lk_keepH, lk_rm_other hne] at hid
    cases hk : lk H id with
    | none => rw [hk] at hid; cases hid
    | some B0 => rw [hk] at hid; exact ⟨B0, rfl, (Option.some.inj hid).symm⟩
  refine ⟨?_, ?_, ?_, ?_, h.S0, h.Sfrom, ?_, Nat.le_trans h.size hz, h.os, h.tape, h.output, h.drawn, ?_, h.hy⟩
  · intro id B' hid
    by_cases hne : id = d
    · subst hne
      rw [lk_cons_same] at hid
      cases hid
      exact hB
    · obtain ⟨B0, h0, rfl⟩ := old id B' hid hne
      exact BOK.keep hμ (fun _ h => h) hz hSw (upd_other μ v hne) (fun b hb => heap_alloc_lt w o (bof_lt (h.blk id B0 h0) hb)) (h.blk id B0 h0)
  · intro i j Bi Bj hi hj hne b hbi hbj
    by_cases ei : i = d
    · by_cases ej : j = d
      · exact hne (ei.trans ej.symm)
      · obtain ⟨B0, h0, rfl⟩ := old j Bj hj ej
        rw [ei, upd_same, hv] at hbi
        rw [upd_other μ v ej] at hbj
        have := bof_lt (h.blk j B0 h0) hbj
        cases hbi
        omega
    · obtain ⟨B0, h0, rfl⟩ := old i Bi hi ei
      rw [upd_other μ v ei] at hbi
      by_cases ej : j = d
      · rw [ej, upd_same, hv] at hbj
        have := bof_lt (h.blk i B0 h0) hbi
        cases hbj
        omega
      · obtain ⟨B1, h1, rfl⟩ := old j Bj hj ej
        rw [upd_other μ v ej] at hbj
        exact h.apart i j B0 B1 h0 h1 hne b hbi hbj
  · intro i Bi hi b hb
    by_cases ei : i = d
    · rw [ei, upd_same, hv] at hb
      cases hb
      exact ⟨fun hs => Nat.lt_irrefl _ (h.Slt _ hs), .inl h.size⟩
    · obtain ⟨B0, h0, rfl⟩ := old i Bi hi ei
      rw [upd_other μ v ei] at hb
      exact h.notS i B0 h0 b hb
  · intro b hb
    exact Nat.lt_of_lt_of_le (h.Slt b hb) hz
  · intro b hb hO
    exact (heap_alloc_lt w o (Nat.lt_of_lt_of_le hb h.size)).trans (h.frame b hb hO)
  · intro i x Bi hx hi
    by_cases ei : i = d
    · rw [ei, hd] at hx; cases hx
    · obtain ⟨B0, h0, rfl⟩ := old i Bi hi ei
      exact (upd_other μ _ ei).trans (h.fixd i x B0 hx h0)

/-- A new name for nothing (an empty array that lies nowhere). -/
theorem Inv.nil {D : Cx} {F : Fr D} {μ : Nat → Value} {S : Nat → Prop} {H : Hp} {w : World} (h : Inv F μ S H w) (d : Nat) (hd : F.fix d = none) (e : TypeId) (t : Ty) (A : Option Addr) :
    Inv F (upd μ d (.slice A 0 0)) S ((d, .arr e t []) :: keepH (but d) (rm d H)) w := by
  have hμ : ∀ id, but d id = true → upd μ d (.slice A 0 0) id = μ id := fun id hid => upd_other μ _ (but_iff.1 hid)
  have old : ∀ id B', lk ((d, ABlk.arr e t []) :: keepH (but d) (rm d H)) id = some B' → id ≠ d → ∃ B0, lk H id = some B0 ∧ B' = keepB (but d) B0 := by
    intro id B' hid hne
    rw [lk_cons_other hne, lk_keepH, lk_rm_other hne] at hid
    cases hk : lk H id with
    | none => rw [hk] at hid; cases hid
    | some B0 => rw [hk] at hid; exact ⟨B0, rfl, (Option.some.inj hid).symm⟩
  refine ⟨?_, ?_, ?_, h.Slt, h.S0, h.Sfrom, h.frame, h.size, h.os, h.tape, h.output, h.drawn, ?_, h.hy⟩
  · intro id B' hid
    by_cases hne : id = d
    · subst hne
      rw [lk_cons_same] at hid
      cases hid
      exact .inl ⟨A, upd_same _ _ _, rfl⟩
    · obtain ⟨B0, h0, rfl⟩ := old id B' hid hne
      exact BOK.keep hμ (fun _ h => h) (Nat.le_refl _) (fun _ _ => rfl) (upd_other μ _ hne) (fun b hb => rfl) (h.blk id B0 h0)
  · intro i j Bi Bj hi hj hne b hbi hbj
    by_cases ei : i = d
    · rw [ei, upd_same] at hbi; simp [bof] at hbi
    · by_cases ej : j = d
      · rw [ej, upd_same] at hbj; simp [bof] at hbj
      · obtain ⟨B0, h0, rfl⟩ := old i Bi hi ei
        obtain ⟨B1, h1, rfl⟩ := old j Bj hj ej
        rw [upd_other μ _ ei] at hbi
        rw [upd_other μ _ ej] at hbj
        exact h.apart i j B0 B1 h0 h1 hne b hbi hbj
  · intro i Bi hi b hb
    by_cases ei : i = d
    · rw [ei, upd_same] at hb; simp [bof] at hb
    · obtain ⟨B0, h0, rfl⟩ := old i Bi hi ei
      rw [upd_other μ _ ei] at hb
      exact h.notS i B0 h0 b hb
  · intro i x Bi hx hi
    by_cases ei : i = d
    · rw [ei, hd] at hx; cases hx
    · obtain ⟨B0, h0, rfl⟩ := old i Bi hi ei
      exact (upd_other μ _ ei).trans (h.fixd i x B0 hx h0)

/-- A name is given up. -/
theorem Inv.drop {D : Cx} {F : Fr D} {μ : Nat → Value} {S : Nat → Prop} {H : Hp} {w : World} (h : Inv F μ S H w) (d : Nat) : Inv F μ S (rm d H) w := by
  have old : ∀ id B, lk (rm d H) id = some B → lk H id = some B := by
    intro id B hid
    by_cases e : id = d
    · rw [e, lk_rm_same] at hid; cases hid
    · rwa [lk_rm_other e] at hid
  exact ⟨fun id B hB => h.blk id B (old id B hB), fun i j Bi Bj hi hj => h.apart i j Bi Bj (old i Bi hi) (old j Bj hj), fun i B hi => h.notS i B (old i B hi), h.Slt, h.S0, h.Sfrom, h.frame, h.size, h.os, h.tape, h.output, h.drawn, fun i x B hx hi => h.fixd i x B hx (old i B hi), h.hy⟩

/-- A name's content is another, in its own block. -/
theorem Inv.set {D : Cx} {F : Fr D} {μ : Nat → Value} {S : Nat → Prop} {H : Hp} {w w' : World} (h : Inv F μ S H w) (d : Nat) (b0 : Nat) (B0 B : ABlk) (h0 : lk H d = some B0) (hb0 : bof (μ d) = some b0)
    (hw : ∀ b, b ≠ b0 → w'.heap[b]? = w.heap[b]?) (hz : w'.heap.size = w.heap.size) (ho : w'.os = w.os) (ht : w'.tape = w.tape) (hu : w'.output = w.output) (hdr : w.drawn ≤ w'.drawn)
    (hB : (∀ b, S b → w'.heap[b]? = w.heap[b]?) → BOK μ S w' d B) : Inv F μ S ((d, B) :: rm d H) w' := by
  have hnS := h.notS d B0 h0 b0 hb0
  have hSw : ∀ b, S b → w'.heap[b]? = w.heap[b]? := fun b hb => hw b (fun e => hnS.1 (e ▸ hb))
  have old : ∀ id B', lk ((d, B) :: rm d H) id = some B' → id ≠ d → lk H id = some B' := by
    intro id B' hid hne
    rwa [lk_cons_other hne, lk_rm_other hne] at hid
  have any : ∀ id B', lk ((d, B) :: rm d H) id = some B' → ∃ B1, lk H id = some B1 := by
    intro id B' hid
    by_cases e : id = d
    · exact ⟨B0, e ▸ h0⟩
    · exact ⟨B', old id B' hid e⟩
  refine ⟨?_, ?_, ?_, ?_, h.S0, h.Sfrom, ?_, by rw [hz]; exact h.size, ho.trans h.os, ht.trans h.tape, hu.trans h.output, fun x => Nat.le_trans (h.drawn x) hdr, ?_, h.hy⟩
  · intro id B' hid
    by_cases e : id = d
    · subst e
      rw [lk_cons_same] at hid
      cases hid
      exact hB hSw
    · have hid' := old id B' hid e
      exact BOK.mono (fun _ h => h) (Nat.le_of_eq hz.symm) hSw (fun b hb => hw b (fun eb => h.apart id d B' B0 hid' h0 e b hb (eb ▸ hb0))) (h.blk id B' hid')
  · intro i j Bi Bj hi hj
    obtain ⟨B1, h1⟩ := any i Bi hi
    obtain ⟨B2, h2⟩ := any j Bj hj
    exact h.apart i j B1 B2 h1 h2
  · intro i Bi hi
    obtain ⟨B1, h1⟩ := any i Bi hi
    exact h.notS i B1 h1
  · intro b hb
    rw [hz]
    exact h.Slt b hb
  · intro b hb hO
    have : b ≠ b0 := by
      intro e
      rcases hnS.2 with h1 | h1
      · omega
      · exact hO (e ▸ h1)
    exact (hw b this).trans (h.frame b hb hO)
  · intro i x Bi hx hi
    obtain ⟨B1, h1⟩ := any i Bi hi
    exact h.fixd i x B1 hx h1

/-- A block that nobody has is given a name. -/
theorem Inv.give {D : Cx} {F : Fr D} {μ : Nat → Value} {S : Nat → Prop} {H : Hp} {w w' : World} (h : Inv F μ S H w) (d : Nat) (hd : F.fix d = none) (b0 : Nat) (v : Value) (B : ABlk)
    (hfree : ∀ j Bj, lk H j = some Bj → bof (μ j) = some b0 → False) (hnS : ¬ S b0) (hfrom : F.w0.heap.size ≤ b0 ∨ F.O b0)
    (hw : ∀ b, b ≠ b0 → w'.heap[b]? = w.heap[b]?) (hz : w'.heap.size = w.heap.size) (ho : w'.os = w.os) (ht : w'.tape = w.tape) (hu : w'.output = w.output) (hdr : w.drawn ≤ w'.drawn)
    (hv : bof v = some b0) (hB : (∀ b, S b → w'.heap[b]? = w.heap[b]?) → BOK (upd μ d v) S w' d B) :
    Inv F (upd μ d v) S ((d, B) :: keepH (but d) (rm d H)) w' := by
  have hSw : ∀ b, S b → w'.heap[b]? = w.heap[b]? := fun b hb => hw b (fun e => hnS (e ▸ hb))
  have hμ : ∀ id, but d id = true → upd μ d v id = μ id := fun id hid => upd_other μ v (but_iff.1 hid)
  have old : ∀ id B', lk ((d, B) :: keepH (but d) (rm d H)) id = some B' → id ≠ d → ∃ B0, lk H id = some B0 ∧ B' = keepB (but d) B0 := by
    intro id B' hid hne
    rw [lk_cons_other hne, lk_keepH, lk_rm_other hne] at hid
    cases hk : lk H id with
    | none => rw [hk] at hid; cases hid
    | some B0 => rw [hk] at hid; exact ⟨B0, rfl, (Option.some.inj hid).symm⟩
  refine ⟨?_, ?_, ?_, ?_, h.S0, h.Sfrom, ?_, by rw [hz]; exact h.size, ho.trans h.os, ht.trans h.tape, hu.trans h.output, fun x => Nat.le_trans (h.drawn x) hdr, ?_, h.hy⟩
  · intro id B' hid
    by_cases hne : id = d
    · subst hne
      rw [lk_cons_same] at hid
      cases hid
      exact hB hSw
    · obtain ⟨B0, h0, rfl⟩ := old id B' hid hne
      exact BOK.keep hμ (fun _ h => h) (Nat.le_of_eq hz.symm) hSw (upd_other μ v hne) (fun b hb => hw b (fun e => hfree id B0 h0 (e ▸ hb))) (h.blk id B0 h0)
  · intro i j Bi Bj hi hj hne b hbi hbj
    by_cases ei : i = d
    · by_cases ej : j = d
      · exact hne (ei.trans ej.symm)
      · obtain ⟨B0, h0, rfl⟩ := old j Bj hj ej
        rw [ei, upd_same, hv] at hbi
        rw [upd_other μ v ej] at hbj
        cases hbi
        exact hfree j B0 h0 hbj
    · obtain ⟨B0, h0, rfl⟩ := old i Bi hi ei
      rw [upd_other μ v ei] at hbi
      by_cases ej : j = d
      · rw [ej, upd_same, hv] at hbj
        cases hbj
        exact hfree i B0 h0 hbi
      · obtain ⟨B1, h1, rfl⟩ := old j Bj hj ej
        rw [upd_other μ v ej] at hbj
        exact h.apart i j B0 B1 h0 h1 hne b hbi hbj
  · intro i Bi hi b hb
    by_cases ei : i = d
    · rw [ei, upd_same, hv] at hb
      cases hb
      exact ⟨hnS, hfrom⟩
    · obtain ⟨B0, h0, rfl⟩ := old i Bi hi ei
      rw [upd_other μ v ei] at hb
      exact h.notS i B0 h0 b hb
  · intro b hb
    rw [hz]
    exact h.Slt b hb
  · intro b hb hO
    have : b ≠ b0 := by
      intro e
      rcases hfrom with h1 | h1
      · omega
      · exact hO (e ▸ h1)
    exact (hw b this).trans (h.frame b hb hO)
  · intro i x Bi hx hi
    by_cases ei : i = d
    · rw [ei, hd] at hx; cases hx
    · obtain ⟨B0, h0, rfl⟩ := old i Bi hi ei
      exact (upd_other μ _ ei).trans (h.fixd i x B0 hx h0)

theorem bof_cases (v : Value) : bof v = none ∨ ∃ b, bof v = some b := by cases bof v <;> simp
end Go.Proofs.YtigekmmdflaeaaaDoorE
