/- The engine, part 0: data by value, abstract values, and what they say of a world. -/
import Derived.Calls
import Derived.Below
import Derived.WalkKit
import Derived.KernelRfl
import GoSem.ClaimData
set_option linter.all false
namespace Go.Proofs.YtigekmmdflaeaaaDoorE
open Go
set_option linter.unusedVariables false

/-- Types of data that lie in rows: a struct is a chain of pairs, its cells laid flat. -/
inductive Ty where
  | int (k : IntKind)
  | bool
  | str
  | sl (t : Ty)
  | pair (a b : Ty)

@[reducible] def El : Ty → Type
  | .int _ => Int
  | .bool => Bool
  | .str => ByteArray
  | .sl t => List (El t)
  | .pair a b => El a × El b

def sz : Ty → Nat
  | .pair a b => sz a + sz b
  | _ => 1

def Ty.eq : Ty → Ty → Bool
  | .int .i8, .int .i8 => true
  | .int .i16, .int .i16 => true
  | .int .i32, .int .i32 => true
  | .int .i64, .int .i64 => true
  | .int .u8, .int .u8 => true
  | .int .u16, .int .u16 => true
  | .int .u32, .int .u32 => true
  | .int .u64, .int .u64 => true
  | .bool, .bool => true
  | .str, .str => true
  | .sl a, .sl b => a.eq b
  | .pair a b, .pair c d => a.eq c && b.eq d
  | _, _ => false

theorem Ty.of_eq : ∀ {a b : Ty}, a.eq b = true → a = b
  | .int k, .int l, h => by cases k <;> cases l <;> first | rfl | (exact absurd h (by decide))
  | .bool, .bool, _ => rfl
  | .str, .str, _ => rfl
  | .sl a, .sl b, h => by rw [Ty.of_eq (a := a) (b := b) h]
  | .pair a b, .pair c d, h => by
    have h' : a.eq c = true ∧ b.eq d = true := by simpa [Ty.eq] using h
    rw [Ty.of_eq h'.1, Ty.of_eq h'.2]
  | .int _, .bool, h | .int _, .str, h | .int _, .sl _, h | .int _, .pair _ _, h => by simp [Ty.eq] at h
  | .bool, .int _, h | .bool, .str, h | .bool, .sl _, h | .bool, .pair _ _, h => by simp [Ty.eq] at h
  | .str, .int _, h | .str, .bool, h | .str, .sl _, h | .str, .pair _ _, h => by simp [Ty.eq] at h
  | .sl _, .int _, h | .sl _, .bool, h | .sl _, .str, h | .sl _, .pair _ _, h => by simp [Ty.eq] at h
  | .pair _ _, .int _, h | .pair _ _, .bool, h | .pair _ _, .str, h | .pair _ _, .sl _, h => by simp [Ty.eq] at h

/-- What stands where nothing stands. -/
def zEl : (t : Ty) → El t
  | .int _ => (0 : Int)
  | .bool => false
  | .str => (⟨#[]⟩ : ByteArray)
  | .sl _ => []
  | .pair a b => (zEl a, zEl b)

/-! ### memory that reads as data -/
def CellsAt (w : World) (b o : Nat) (cs : List Value) : Prop := ∀ j u, cs[j]? = some u → w.cell? ⟨b, o + j, none⟩ = some u

/-- cs are the cells of x; what they lead to lies in blocks of S. -/
def Rd (S : Nat → Prop) (w : World) : (t : Ty) → El t → List Value → Prop
  | .int k, x, cs => cs = [.int k x]
  | .bool, x, cs => cs = [.bool x]
  | .str, x, cs => cs = [.string x]
  | .sl t, l, cs => ∃ A c, cs = [.slice A l.length c] ∧ l.length ≤ c ∧ c ≤ maxLen ∧
      ∀ (i : Nat) (x : El t), l[i]? = some x → ∃ b o cs', A = some ⟨b, o, none⟩ ∧ S b ∧ b < w.heap.size ∧ Rd S w t x cs' ∧ CellsAt w b (o + i * sz t) cs'
  | .pair a b, x, cs => ∃ c1 c2, cs = c1 ++ c2 ∧ Rd S w a x.1 c1 ∧ Rd S w b x.2 c2

theorem Rd.len {S : Nat → Prop} {w : World} : ∀ {t : Ty} {x : El t} {cs : List Value}, Rd S w t x cs → cs.length = sz t
  | .int k, x, cs, h => by rw [Rd] at h; rw [h]; rfl
  | .bool, x, cs, h => by rw [Rd] at h; rw [h]; rfl
  | .str, x, cs, h => by rw [Rd] at h; rw [h]; rfl
  | .sl t, l, cs, h => by obtain ⟨A, c, h, _⟩ := h; rw [h]; rfl
  | .pair a b, x, cs, h => by
    obtain ⟨c1, c2, rfl, h1, h2⟩ := h
    rw [List.length_append, Rd.len h1, Rd.len h2]; rfl

theorem cell?_of_heap {w w' : World} {b o : Nat} (h : w'.heap[b]? = w.heap[b]?) : w'.cell? ⟨b, o, none⟩ = w.cell? ⟨b, o, none⟩ := by
  simp [World.cell?, h]

theorem Rd.mono {S S' : Nat → Prop} {w w' : World} (hS : ∀ b, S b → S' b) (hz : w.heap.size ≤ w'.heap.size) (hw : ∀ b, S b → w'.heap[b]? = w.heap[b]?) :
    ∀ {t : Ty} {x : El t} {cs : List Value}, Rd S w t x cs → Rd S' w' t x cs
  | .int k, x, cs, h => h
  | .bool, x, cs, h => h
  | .str, x, cs, h => h
  | .sl t, l, cs, h => by
    obtain ⟨A, c, h1, h2, h3, h4⟩ := h
    refine ⟨A, c, h1, h2, h3, fun i x hx => ?_⟩
    obtain ⟨b, o, cs', h5, h6, h7, h8, h9⟩ := h4 i x hx
    exact ⟨b, o, cs', h5, hS b h6, Nat.lt_of_lt_of_le h7 hz, Rd.mono hS hz hw h8, fun j u hu => (cell?_of_heap (hw b h6)).trans (h9 j u hu)⟩
  | .pair a b, x, cs, h => by
    obtain ⟨c1, c2, h1, h2, h3⟩ := h
    exact ⟨c1, c2, h1, Rd.mono hS hz hw h2, Rd.mono hS hz hw h3⟩

/-! ### abstract values -/
inductive AV where
  | top
  | sc (v : Value)
  | row (t : Ty) (l : List (El t))
  | own (id : Nat)
  | ptr (id off : Nat)
  | eptr (t : Ty) (x : El t) (off : Nat)
  | optr (id i s off : Nat)
  | mp (id : Nat)
  | agg (l : List AV)
  | tup (l : List AV)
  | fn (f : FuncId) (l : List AV)

mutual
/-- The value u is as told; μ: what the names stand for. -/
def VOK (μ : Nat → Value) (S : Nat → Prop) (w : World) : AV → Value → Prop
  | .top, _ => True
  | .sc v, u => u = v
  | .row t l, u => Rd S w (.sl t) l [u]
  | .own id, u => u = μ id ∧ ∃ A n c, u = .slice A n c
  | .ptr id off, u => ∃ b, μ id = .pointer (some ⟨b, 0, none⟩) ∧ u = .pointer (some ⟨b, off, none⟩)
  | .eptr t x off, u => ∃ b o cs, u = .pointer (some ⟨b, o + off, none⟩) ∧ S b ∧ b < w.heap.size ∧ Rd S w t x cs ∧ CellsAt w b o cs
  | .optr id i s off, u => ∃ b n c, (μ id = .slice (some ⟨b, 0, none⟩) n c ∧ i < n) ∧ u = .pointer (some ⟨b, i * s + off, none⟩)
  | .mp id, u => u = μ id ∧ ∃ b, u = .map (some b)
  | .agg l, u => ∃ us, u = .agg us.toArray ∧ VsOK μ S w l us
  | .tup l, u => ∃ us, u = .tuple us.toArray ∧ VsOK μ S w l us
  | .fn f l, u => ∃ us, u = .func (.func f) #[] us.toArray ∧ VsOK μ S w l us
def VsOK (μ : Nat → Value) (S : Nat → Prop) (w : World) : List AV → List Value → Prop
  | [], us => us = []
  | a :: l, us => ∃ u us', us = u :: us' ∧ VOK μ S w a u ∧ VsOK μ S w l us'
end

mutual
/-- What names no name but those that p lets stand. -/
def keep (p : Nat → Bool) : AV → AV
  | .own id => if p id then .own id else .top
  | .ptr id off => if p id then .ptr id off else .top
  | .optr id i s off => if p id then .optr id i s off else .top
  | .mp id => if p id then .mp id else .top
  | .agg l => .agg (keeps p l)
  | .tup l => .tup (keeps p l)
  | .fn f l => .fn f (keeps p l)
  | .top => .top
  | .sc v => .sc v
  | .row t l => .row t l
  | .eptr t x off => .eptr t x off
def keeps (p : Nat → Bool) : List AV → List AV
  | [] => []
  | a :: l => keep p a :: keeps p l
end

section
variable {μ μ' : Nat → Value} {S S' : Nat → Prop} {w w' : World} {p : Nat → Bool}
variable (hμ : ∀ id, p id = true → μ' id = μ id) (hS : ∀ b, S b → S' b) (hz : w.heap.size ≤ w'.heap.size) (hw : ∀ b, S b → w'.heap[b]? = w.heap[b]?)
include hμ hS hz hw
mutual
theorem VOK.keep : ∀ {a : AV} {u : Value}, VOK μ S w a u → VOK μ' S' w' (keep p a) u
  | .top, u, h => trivial
  | .sc v, u, h => h
  | .row t l, u, h => Rd.mono hS hz hw h
  | .own id, u, h => by
    unfold Go.Proofs.YtigekmmdflaeaaaDoorE.keep
    split
    · rename_i hp; rw [VOK] at h ⊢; rw [hμ id hp]; exact h
    · trivial
  | .ptr id off, u, h => by
    unfold Go.Proofs.YtigekmmdflaeaaaDoorE.keep
    split
    · rename_i hp; rw [VOK] at h ⊢; rw [hμ id hp]; exact h
    · trivial
  | .optr id i s off, u, h => by
    unfold Go.Proofs.YtigekmmdflaeaaaDoorE.keep
    split
    · rename_i hp; rw [VOK] at h ⊢; rw [hμ id hp]; exact h
    · trivial
  | .eptr t x off, u, h => by
    obtain ⟨b, o, cs, h1, h2, h3, h4, h5⟩ := h
    exact ⟨b, o, cs, h1, hS b h2, Nat.lt_of_lt_of_le h3 hz, Rd.mono hS hz hw h4, fun j v hv => (cell?_of_heap (hw b h2)).trans (h5 j v hv)⟩
  | .mp id, u, h => by
    unfold Go.Proofs.YtigekmmdflaeaaaDoorE.keep
    split
    · rename_i hp; rw [VOK] at h ⊢; rw [hμ id hp]; exact h
    · trivial
  | .agg l, u, h => by obtain ⟨us, h1, h2⟩ := h; exact ⟨us, h1, VsOK.keep h2⟩
  | .tup l, u, h => by obtain ⟨us, h1, h2⟩ := h; exact ⟨us, h1, VsOK.keep h2⟩
  | .fn f l, u, h => by obtain ⟨us, h1, h2⟩ := h; exact ⟨us, h1, VsOK.keep h2⟩
theorem VsOK.keep : ∀ {l : List AV} {us : List Value}, VsOK μ S w l us → VsOK μ' S' w' (keeps p l) us
  | [], us, h => h
  | a :: l, us, h => by
    obtain ⟨u, us', h1, h2, h3⟩ := h
    exact ⟨u, us', h1, VOK.keep h2, VsOK.keep h3⟩
end
end

section
variable {μ : Nat → Value} {S S' : Nat → Prop} {w w' : World}
variable (hS : ∀ b, S b → S' b) (hz : w.heap.size ≤ w'.heap.size) (hw : ∀ b, S b → w'.heap[b]? = w.heap[b]?)
include hS hz hw
mutual
theorem VOK.mono : ∀ {a : AV} {u : Value}, VOK μ S w a u → VOK μ S' w' a u
  | .top, u, h => trivial
  | .sc v, u, h => h
  | .row t l, u, h => Rd.mono hS hz hw h
  | .own id, u, h => h
  | .ptr id off, u, h => h
  | .optr id i s off, u, h => h
  | .mp id, u, h => h
  | .eptr t x off, u, h => by
    obtain ⟨b, o, cs, h1, h2, h3, h4, h5⟩ := h
    exact ⟨b, o, cs, h1, hS b h2, Nat.lt_of_lt_of_le h3 hz, Rd.mono hS hz hw h4, fun j v hv => (cell?_of_heap (hw b h2)).trans (h5 j v hv)⟩
  | .agg l, u, h => by obtain ⟨us, h1, h2⟩ := h; exact ⟨us, h1, VsOK.mono h2⟩
  | .tup l, u, h => by obtain ⟨us, h1, h2⟩ := h; exact ⟨us, h1, VsOK.mono h2⟩
  | .fn f l, u, h => by obtain ⟨us, h1, h2⟩ := h; exact ⟨us, h1, VsOK.mono h2⟩
theorem VsOK.mono : ∀ {l : List AV} {us : List Value}, VsOK μ S w l us → VsOK μ S' w' l us
  | [], us, h => h
  | a :: l, us, h => by
    obtain ⟨u, us', h1, h2, h3⟩ := h
    exact ⟨u, us', h1, VOK.mono h2, VsOK.mono h3⟩
end
end

theorem VsOK.len {μ : Nat → Value} {S : Nat → Prop} {w : World} : ∀ {l : List AV} {us : List Value}, VsOK μ S w l us → us.length = l.length
  | [], us, h => by rw [VsOK] at h; rw [h]; rfl
  | a :: l, us, h => by
    obtain ⟨u, us', rfl, _, h3⟩ := h
    simp [VsOK.len h3]
theorem VsOK.append {μ : Nat → Value} {S : Nat → Prop} {w : World} : ∀ {l m : List AV} {us vs : List Value}, VsOK μ S w l us → VsOK μ S w m vs → VsOK μ S w (l ++ m) (us ++ vs)
  | [], m, us, vs, h, k => by rw [VsOK] at h; rw [h]; exact k
  | a :: l, m, us, vs, h, k => by
    obtain ⟨u, us', rfl, h2, h3⟩ := h
    exact ⟨u, us' ++ vs, rfl, h2, VsOK.append h3 k⟩
theorem VsOK.get {μ : Nat → Value} {S : Nat → Prop} {w : World} : ∀ {l : List AV} {us : List Value}, VsOK μ S w l us → ∀ {i : Nat} {a : AV}, l[i]? = some a → ∃ u, us[i]? = some u ∧ VOK μ S w a u
  | [], us, h, i, a, hi => by simp at hi
  | a :: l, us, h, 0, b, hi => by
    obtain ⟨u, us', rfl, h2, h3⟩ := h
    exact ⟨u, rfl, by cases hi; exact h2⟩
  | a :: l, us, h, i + 1, b, hi => by
    obtain ⟨u, us', rfl, h2, h3⟩ := h
    simpa using VsOK.get h3 (i := i) (by simpa using hi)
theorem VsOK.set {μ : Nat → Value} {S : Nat → Prop} {w : World} {a : AV} {u : Value} (h : VOK μ S w a u) : ∀ {l : List AV} {us : List Value}, VsOK μ S w l us → ∀ {i : Nat}, VsOK μ S w (l.set i a) (us.set i u)
  | [], us, k, i => by rw [VsOK] at k; rw [k]; exact rfl
  | b :: l, us, k, 0 => by
    obtain ⟨v, us', rfl, h2, h3⟩ := k
    exact ⟨u, us', rfl, h, h3⟩
  | b :: l, us, k, i + 1 => by
    obtain ⟨v, us', rfl, h2, h3⟩ := k
    exact ⟨v, us'.set i u, rfl, h2, VsOK.set h h3⟩

/-- A datum's cells, told. -/
def cellsOf : (t : Ty) → El t → List AV
  | .int k, x => [.sc (.int k x)]
  | .bool, x => [.sc (.bool x)]
  | .str, x => [.sc (.string x)]
  | .sl t, l => [.row t l]
  | .pair a b, x => cellsOf a x.1 ++ cellsOf b x.2

theorem Rd.cells {μ : Nat → Value} {S : Nat → Prop} {w : World} : ∀ {t : Ty} {x : El t} {cs : List Value}, Rd S w t x cs → VsOK μ S w (cellsOf t x) cs
  | .int k, x, cs, h => ⟨_, _, h, rfl, rfl⟩
  | .bool, x, cs, h => ⟨_, _, h, rfl, rfl⟩
  | .str, x, cs, h => ⟨_, _, h, rfl, rfl⟩
  | .sl t, l, cs, h => by
    have h' := h
    obtain ⟨A, c, rfl, _⟩ := h
    exact ⟨_, _, rfl, h', rfl⟩
  | .pair a b, x, cs, h => by
    obtain ⟨c1, c2, rfl, h1, h2⟩ := h
    exact VsOK.append (Rd.cells h1) (Rd.cells h2)

/-- Data out of told cells. -/
def ofCell : (t : Ty) → AV → Option (El t)
  | .int .i64, .sc (.int .i64 x) => some x
  | .int .i32, .sc (.int .i32 x) => some x
  | .int .i16, .sc (.int .i16 x) => some x
  | .int .i8, .sc (.int .i8 x) => some x
  | .int .u64, .sc (.int .u64 x) => some x
  | .int .u32, .sc (.int .u32 x) => some x
  | .int .u16, .sc (.int .u16 x) => some x
  | .int .u8, .sc (.int .u8 x) => some x
  | .bool, .sc (.bool x) => some x
  | .str, .sc (.string x) => some x
  | .sl t, .row t' l => if h : t'.eq t = true then some (Ty.of_eq h ▸ l) else none
  | .sl _, .sc (.slice none 0 0) => some []
  | _, _ => none
def ofCells : (t : Ty) → List AV → Option (El t × List AV)
  | .pair a b, l => (ofCells a l).bind fun p => (ofCells b p.2).bind fun q => some ((p.1, q.1), q.2)
  | t, c :: l => (ofCell t c).bind fun x => some (x, l)
  | _, [] => none

theorem ofCell_ok {μ : Nat → Value} {S : Nat → Prop} {w : World} {t : Ty} {c : AV} {x : El t} {u : Value} (h : ofCell t c = some x) (hu : VOK μ S w c u) : Rd S w t x [u] := by
  unfold ofCell at h
  split at h
  all_goals first
    | (cases h; rw [VOK] at hu; rw [hu]; rfl)
    | skip
  · rename_i t t' l
    split at h
    · rename_i he
      cases Ty.of_eq he
      cases h
      exact hu
    · cases h
  · cases h
    rw [VOK] at hu
    exact ⟨none, 0, by rw [hu]; rfl, Nat.le_refl _, by simp, fun i x hx => by simp at hx⟩
  · cases h
theorem ofCells_ok {μ : Nat → Value} {S : Nat → Prop} {w : World} : ∀ {t : Ty} {l m : List AV} {x : El t} {us : List Value}, ofCells t l = some (x, m) → VsOK μ S w l us →
    ∃ u1 u2, us = u1 ++ u2 ∧ Rd S w t x u1 ∧ VsOK μ S w m u2
  | .pair a b, l, m, x, us, h, hu => by
    simp only [ofCells, Option.bind_eq_some_iff] at h
    obtain ⟨⟨x1, l1⟩, h1, ⟨x2, l2⟩, h2, h3⟩ := h
    obtain ⟨u1, u2, rfl, r1, v1⟩ := ofCells_ok h1 hu
    obtain ⟨u3, u4, rfl, r2, v2⟩ := ofCells_ok h2 v1
    cases h3
    exact ⟨u1 ++ u3, u4, by simp, ⟨u1, u3, rfl, r1, r2⟩, v2⟩
  | .int k, [], m, x, us, h, hu | .bool, [], m, x, us, h, hu | .str, [], m, x, us, h, hu | .sl t, [], m, x, us, h, hu => by simp [ofCells] at h
  | .int k, c :: l, m, x, us, h, hu => by
    simp only [ofCells, Option.bind_eq_some_iff] at h
    obtain ⟨y, h1, h2⟩ := h
    cases h2
    obtain ⟨u, us', rfl, h3, h4⟩ := hu
    exact ⟨[u], us', rfl, ofCell_ok h1 h3, h4⟩
  | .bool, c :: l, m, x, us, h, hu => by
    simp only [ofCells, Option.bind_eq_some_iff] at h
    obtain ⟨y, h1, h2⟩ := h
    cases h2
    obtain ⟨u, us', rfl, h3, h4⟩ := hu
    exact ⟨[u], us', rfl, ofCell_ok h1 h3, h4⟩
  | .str, c :: l, m, x, us, h, hu => by
    simp only [ofCells, Option.bind_eq_some_iff] at h
    obtain ⟨y, h1, h2⟩ := h
    cases h2
    obtain ⟨u, us', rfl, h3, h4⟩ := hu
    exact ⟨[u], us', rfl, ofCell_ok h1 h3, h4⟩
  | .sl t, c :: l, m, x, us, h, hu => by
    simp only [ofCells, Option.bind_eq_some_iff] at h
    obtain ⟨y, h1, h2⟩ := h
    cases h2
    obtain ⟨u, us', rfl, h3, h4⟩ := hu
    exact ⟨[u], us', rfl, ofCell_ok h1 h3, h4⟩

/-- The cells of a row of data. -/
def RdL (S : Nat → Prop) (w : World) (t : Ty) : List (El t) → List Value → Prop
  | [], us => us = []
  | x :: l, us => ∃ c1 c2, us = c1 ++ c2 ∧ Rd S w t x c1 ∧ RdL S w t l c2
section
variable {S S' : Nat → Prop} {w w' : World} {t : Ty}
theorem RdL.mono (hS : ∀ b, S b → S' b) (hz : w.heap.size ≤ w'.heap.size) (hw : ∀ b, S b → w'.heap[b]? = w.heap[b]?) :
    ∀ {l : List (El t)} {us : List Value}, RdL S w t l us → RdL S' w' t l us
  | [], us, h => h
  | x :: l, us, h => by
    obtain ⟨c1, c2, h1, h2, h3⟩ := h
    exact ⟨c1, c2, h1, Rd.mono hS hz hw h2, RdL.mono hS hz hw h3⟩
theorem RdL.len : ∀ {l : List (El t)} {us : List Value}, RdL S w t l us → us.length = l.length * sz t
  | [], us, h => by rw [RdL] at h; rw [h]; simp
  | x :: l, us, h => by
    obtain ⟨c1, c2, rfl, h2, h3⟩ := h
    rw [List.length_append, Rd.len h2, RdL.len h3, List.length_cons, Nat.add_mul, Nat.one_mul, Nat.add_comm]
theorem RdL.append : ∀ {l m : List (El t)} {us vs : List Value}, RdL S w t l us → RdL S w t m vs → RdL S w t (l ++ m) (us ++ vs)
  | [], m, us, vs, h, k => by rw [RdL] at h; rw [h]; exact k
  | x :: l, m, us, vs, h, k => by
    obtain ⟨c1, c2, rfl, h2, h3⟩ := h
    exact ⟨c1, c2 ++ vs, by simp, h2, RdL.append h3 k⟩
theorem RdL.get : ∀ {l : List (El t)} {us : List Value}, RdL S w t l us → ∀ {i : Nat} {x : El t}, l[i]? = some x →
    ∃ cs, Rd S w t x cs ∧ ∀ j u, cs[j]? = some u → us[i * sz t + j]? = some u
  | [], us, h, i, x, hi => by simp at hi
  | y :: l, us, h, 0, x, hi => by
    obtain ⟨c1, c2, rfl, h2, h3⟩ := h
    cases hi
    refine ⟨c1, h2, fun j u hu => ?_⟩
    rw [Nat.zero_mul, Nat.zero_add, List.getElem?_append_left (by rw [List.getElem?_eq_some_iff] at hu; exact hu.1)]
    exact hu
  | y :: l, us, h, i + 1, x, hi => by
    obtain ⟨c1, c2, rfl, h2, h3⟩ := h
    obtain ⟨cs, h4, h5⟩ := RdL.get h3 (i := i) (x := x) (by simpa using hi)
    refine ⟨cs, h4, fun j u hu => ?_⟩
    have e : (i + 1) * sz t + j = c1.length + (i * sz t + j) := by rw [Rd.len h2, Nat.add_mul]; omega
    rw [e, List.getElem?_append_right (by omega)]
    simpa using h5 j u hu
end
end Go.Proofs.YtigekmmdflaeaaaDoorE
