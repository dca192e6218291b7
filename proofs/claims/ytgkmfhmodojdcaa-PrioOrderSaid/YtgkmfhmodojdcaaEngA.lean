/- Several texts, as one: what is named of them. -/
import Derived.Calls
import Derived.Below
import Derived.WalkKit
import Derived.KernelRfl
import GoSem.ClaimData
import Derived.Laws.StructEq
import Derived.Laws.Cells
set_option linter.all false
namespace Go.Proofs.YtgkmfhmodojdcaaE
open Go
set_option linter.unusedVariables false

inductive Ty where
  | int (k : IntKind)
  | bool
  | str
  | sl (t : Ty)
  | pair (a b : Ty)

@[reducible] def El : Ty → Type
  | .int _ => Int
  | .bool => Bool
  | .str => ByteArray
  | .sl t => List (El t)
  | .pair a b => El a × El b

def sz : Ty → Nat
  | .pair a b => sz a + sz b
  | _ => 1

def Ty.eq : Ty → Ty → Bool
  | .int .i8, .int .i8 => true
  | .int .i16, .int .i16 => true
  | .int .i32, .int .i32 => true
  | .int .i64, .int .i64 => true
  | .int .u8, .int .u8 => true
  | .int .u16, .int .u16 => true
  | .int .u32, .int .u32 => true
  | .int .u64, .int .u64 => true
  | .bool, .bool => true
  | .str, .str => true
  | .sl a, .sl b => a.eq b
  | .pair a b, .pair c d => a.eq c && b.eq d
  | _, _ => false

theorem Ty.of_eq : ∀ {a b : Ty}, a.eq b = true → a = b
  | .int k, .int l, h => by cases k <;> cases l <;> first | rfl | (exact absurd h (by decide))
  | .bool, .bool, _ => rfl
  | .str, .str, _ => rfl
  | .sl a, .sl b, h => by rw [Ty.of_eq (a := a) (b := b) h]
  | .pair a b, .pair c d, h => by
    have h' : a.eq c = true ∧ b.eq d = true := by simpa [Ty.eq] using h
    rw [Ty.of_eq h'.1, Ty.of_eq h'.2]
  | .int _, .bool, h | .int _, .str, h | .int _, .sl _, h | .int _, .pair _ _, h => by simp [Ty.eq] at h
  | .bool, .int _, h | .bool, .str, h | .bool, .sl _, h | .bool, .pair _ _, h => by simp [Ty.eq] at h
  | .str, .int _, h | .str, .bool, h | .str, .sl _, h | .str, .pair _ _, h => by simp [Ty.eq] at h
  | .sl _, .int _, h | .sl _, .bool, h | .sl _, .str, h | .sl _, .pair _ _, h => by simp [Ty.eq] at h
  | .pair _ _, .int _, h | .pair _ _, .bool, h | .pair _ _, .str, h | .pair _ _, .sl _, h => by simp [Ty.eq] at h

def zEl : (t : Ty) → El t
  | .int _ => (0 : Int)
  | .bool => false
  | .str => (⟨#[]⟩ : ByteArray)
  | .sl _ => []
  | .pair a b => (zEl a, zEl b)

def CellsAt (w : World) (b o : Nat) (cs : List Value) : Prop := ∀ j u, cs[j]? = some u → w.cell? ⟨b, o + j, none⟩ = some u

def Rd (S : Nat → Prop) (w : World) : (t : Ty) → El t → List Value → Prop
  | .int k, x, cs => cs = [.int k x]
  | .bool, x, cs => cs = [.bool x]
  | .str, x, cs => cs = [.string x]
  | .sl t, l, cs => ∃ A c, cs = [.slice A l.length c] ∧ l.length ≤ c ∧ c ≤ maxLen ∧
      ∀ (i : Nat) (x : El t), l[i]? = some x → ∃ b o cs', A = some ⟨b, o, none⟩ ∧ S b ∧ b < w.heap.size ∧ Rd S w t x cs' ∧ CellsAt w b (o + i * sz t) cs'
  | .pair a b, x, cs => ∃ c1 c2, cs = c1 ++ c2 ∧ Rd S w a x.1 c1 ∧ Rd S w b x.2 c2

theorem Rd.len {S : Nat → Prop} {w : World} : ∀ {t : Ty} {x : El t} {cs : List Value}, Rd S w t x cs → cs.length = sz t
  | .int k, x, cs, h => by rw [Rd] at h; rw [h]; rfl
  | .bool, x, cs, h => by rw [Rd] at h; rw [h]; rfl
  | .str, x, cs, h => by rw [Rd] at h; rw [h]; rfl
  | .sl t, l, cs, h => by obtain ⟨A, c, h, _⟩ := h; rw [h]; rfl
  | .pair a b, x, cs, h => by
    obtain ⟨c1, c2, rfl, h1, h2⟩ := h
    rw [List.length_append, Rd.len h1, Rd.len h2]; rfl

theorem cell?_of_heap {w w' : World} {b o : Nat} (h : w'.heap[b]? = w.heap[b]?) : w'.cell? ⟨b, o, none⟩ = w.cell? ⟨b, o, none⟩ := by
  simp [World.cell?, h]

theorem Rd.mono {S S' : Nat → Prop} {w w' : World} (hS : ∀ b, S b → S' b) (hz : w.heap.size ≤ w'.heap.size) (hw : ∀ b, S b → w'.heap[b]? = w.heap[b]?) :
    ∀ {t : Ty} {x : El t} {cs : List Value}, Rd S w t x cs → Rd S' w' t x cs
  | .int k, x, cs, h => h
  | .bool, x, cs, h => h
  | .str, x, cs, h => h
  | .sl t, l, cs, h => by
    obtain ⟨A, c, h1, h2, h3, h4⟩ := h
    refine ⟨A, c, h1, h2, h3, fun i x hx => ?_⟩
    obtain ⟨b, o, cs', h5, h6, h7, h8, h9⟩ := h4 i x hx
    exact ⟨b, o, cs', h5, hS b h6, Nat.lt_of_lt_of_le h7 hz, Rd.mono hS hz hw h8, fun j u hu => (cell?_of_heap (hw b h6)).trans (h9 j u hu)⟩
  | .pair a b, x, cs, h => by
    obtain ⟨c1, c2, h1, h2, h3⟩ := h
    exact ⟨c1, c2, h1, Rd.mono hS hz hw h2, Rd.mono hS hz hw h3⟩

inductive AV where
  | top
  | sc (v : Value)
  | row (t : Ty) (l : List (El t))
  | own (id : Nat)
  | ptr (id off : Nat)
  | eptr (t : Ty) (x : El t) (off : Nat)
  | optr (id i s off : Nat)
  | mp (id : Nat)
  | agg (l : List AV)
  | tup (l : List AV)
  | fn (f : FuncId) (l : List AV)

mutual
def VOK (μ : Nat → Value) (S : Nat → Prop) (w : World) : AV → Value → Prop
  | .top, _ => True
  | .sc v, u => u = v
  | .row t l, u => Rd S w (.sl t) l [u]
  | .own id, u => u = μ id ∧ ∃ A n c, u = .slice A n c
  | .ptr id off, u => ∃ b, μ id = .pointer (some ⟨b, 0, none⟩) ∧ u = .pointer (some ⟨b, off, none⟩)
  | .eptr t x off, u => ∃ b o cs, u = .pointer (some ⟨b, o + off, none⟩) ∧ S b ∧ b < w.heap.size ∧ Rd S w t x cs ∧ CellsAt w b o cs
  | .optr id i s off, u => ∃ b n c, (μ id = .slice (some ⟨b, 0, none⟩) n c ∧ i < n) ∧ u = .pointer (some ⟨b, i * s + off, none⟩)
  | .mp id, u => u = μ id ∧ ∃ b, u = .map (some b)
  | .agg l, u => ∃ us, u = .agg us.toArray ∧ VsOK μ S w l us
  | .tup l, u => ∃ us, u = .tuple us.toArray ∧ VsOK μ S w l us
  | .fn f l, u => ∃ us, u = .func (.func f) #[] us.toArray ∧ VsOK μ S w l us
def VsOK (μ : Nat → Value) (S : Nat → Prop) (w : World) : List AV → List Value → Prop
  | [], us => us = []
  | a :: l, us => ∃ u us', us = u :: us' ∧ VOK μ S w a u ∧ VsOK μ S w l us'
end

mutual
def keep (p : Nat → Bool) : AV → AV
  | .own id => if p id then .own id else .top
  | .ptr id off => if p id then .ptr id off else .top
  | .optr id i s off => if p id then .optr id i s off else .top
  | .mp id => if p id then .mp id else .top
  | .agg l => .agg (keeps p l)
  | .tup l => .tup (keeps p l)
  | .fn f l => .fn f (keeps p l)
  | .top => .top
  | .sc v => .sc v
  | .row t l => .row t l
  | .eptr t x off => .eptr t x off
def keeps (p : Nat → Bool) : List AV → List AV
  | [] => []
  | a :: l => keep p a :: keeps p l
end

section
variable {μ μ' : Nat → Value} {S S' : Nat → Prop} {w w' : World} {p : Nat → Bool}
variable (hμ : ∀ id, p id = true → μ' id = μ id) (hS : ∀ b, S b → S' b) (hz : w.heap.size ≤ w'.heap.size) (hw : ∀ b, S b → w'.heap[b]? = w.heap[b]?)
include hμ hS hz hw
mutual
theorem VOK.keep : ∀ {a : AV} {u : Value}, VOK μ S w a u → VOK μ' S' w' (keep p a) u
  | .top, u, h => trivial
  | .sc v, u, h => h
  | .row t l, u, h => Rd.mono hS hz hw h
  | .own id, u, h => by
    unfold Go.Proofs.YtgkmfhmodojdcaaE.keep
    split
    · rename_i hp; rw [VOK] at h ⊢; rw [hμ id hp]; exact h
    · trivial
  | .ptr id off, u, h => by
    unfold Go.Proofs.YtgkmfhmodojdcaaE.keep
    split
    · rename_i hp; rw [VOK] at h ⊢; rw [hμ id hp]; exact h
    · trivial
  | .optr id i s off, u, h => by
    unfold Go.Proofs.YtgkmfhmodojdcaaE.keep
    split
    · rename_i hp; rw [VOK] at h ⊢; rw [hμ id hp]; exact h
    · trivial
  | .eptr t x off, u, h => by
    obtain ⟨b, o, cs, h1, h2, h3, h4, h5⟩ := h
    exact ⟨b, o, cs, h1, hS b h2, Nat.lt_of_lt_of_le h3 hz, Rd.mono hS hz hw h4, fun j v hv => (cell?_of_heap (hw b h2)).trans (h5 j v hv)⟩
  | .mp id, u, h => by
    unfold Go.Proofs.YtgkmfhmodojdcaaE.keep
    split
    · rename_i hp; rw [VOK] at h ⊢; rw [hμ id hp]; exact h
    · trivial
  | .agg l, u, h => by obtain ⟨us, h1, h2⟩ := h; exact ⟨us, h1, VsOK.keep h2⟩
  | .tup l, u, h => by obtain ⟨us, h1, h2⟩ := h; exact ⟨us, h1, VsOK.keep h2⟩
  | .fn f l, u, h => by obtain ⟨us, h1, h2⟩ := h; exact ⟨us, h1, VsOK.keep h2⟩
theorem VsOK.keep : ∀ {l : List AV} {us : List Value}, VsOK μ S w l us → VsOK μ' S' w' (keeps p l) us
  | [], us, h => h
  | a :: l, us, h => by
    obtain ⟨u, us', h1, h2, h3⟩ := h
    exact ⟨u, us', h1, VOK.keep h2, VsOK.keep h3⟩
end
end

section
variable {μ : Nat → Value} {S S' : Nat → Prop} {w w' : World}
variable (hS : ∀ b, S b → S' b) (hz : w.heap.size ≤ w'.heap.size) (hw : ∀ b, S b → w'.heap[b]? = w.heap[b]?)
include hS hz hw
mutual
theorem VOK.mono : ∀ {a : AV} {u : Value}, VOK μ S w a u → VOK μ S' w' a u
  | .top, u, h => trivial
  | .sc v, u, h => h
  | .row t l, u, h => Rd.mono hS hz hw h
  | .own id, u, h => h
  | .ptr id off, u, h => h
  | .optr id i s off, u, h => h
  | .mp id, u, h => h
  | .eptr t x off, u, h => by
    obtain ⟨b, o, cs, h1, h2, h3, h4, h5⟩ := h
    exact ⟨b, o, cs, h1, hS b h2, Nat.lt_of_lt_of_le h3 hz, Rd.mono hS hz hw h4, fun j v hv => (cell?_of_heap (hw b h2)).trans (h5 j v hv)⟩
  | .agg l, u, h => by obtain ⟨us, h1, h2⟩ := h; exact ⟨us, h1, VsOK.mono h2⟩
  | .tup l, u, h => by obtain ⟨us, h1, h2⟩ := h; exact ⟨us, h1, VsOK.mono h2⟩
  | .fn f l, u, h => by obtain ⟨us, h1, h2⟩ := h; exact ⟨us, h1, VsOK.mono h2⟩
theorem VsOK.mono : ∀ {l : List AV} {us : List Value}, VsOK μ S w l us → VsOK μ S' w' l us
  | [], us, h => h
  | a :: l, us, h => by
    obtain ⟨u, us', h1, h2, h3⟩ := h
    exact ⟨u, us', h1, VOK.mono h2, VsOK.mono h3⟩
end
end

theorem VsOK.len {μ : Nat → Value} {S : Nat → Prop} {w : World} : ∀ {l : List AV} {us : List Value}, VsOK μ S w l us → us.length = l.length
  | [], us, h => by rw [VsOK] at h; rw [h]; rfl
  | a :: l, us, h => by
    obtain ⟨u, us', rfl, _, h3⟩ := h
    simp [VsOK.len h3]
theorem VsOK.append {μ : Nat → Value} {S : Nat → Prop} {w : World} : ∀ {l m : List AV} {us vs : List Value}, VsOK μ S w l us → VsOK μ S w m vs → VsOK μ S w (l ++ m) (us ++ vs)
  | [], m, us, vs, h, k => by rw [VsOK] at h; rw [h]; exact k
  | a :: l, m, us, vs, h, k => by
    obtain ⟨u, us', rfl, h2, h3⟩ := h
    exact ⟨u, us' ++ vs, rfl, h2, VsOK.append h3 k⟩
theorem VsOK.get {μ : Nat → Value} {S : Nat → Prop} {w : World} : ∀ {l : List AV} {us : List Value}, VsOK μ S w l us → ∀ {i : Nat} {a : AV}, l[i]? = some a → ∃ u, us[i]? = some u ∧ VOK μ S w a u
  | [], us, h, i, a, hi => by simp at hi
  | a :: l, us, h, 0, b, hi => by
    obtain ⟨u, us', rfl, h2, h3⟩ := h
    exact ⟨u, rfl, by cases hi; exact h2⟩
  | a :: l, us, h, i + 1, b, hi => by
    obtain ⟨u, us', rfl, h2, h3⟩ := h
    simpa using VsOK.get h3 (i := i) (by simpa using hi)
theorem VsOK.set {μ : Nat → Value} {S : Nat → Prop} {w : World} {a : AV} {u : Value} (h : VOK μ S w a u) : ∀ {l : List AV} {us : List Value}, VsOK μ S w l us → ∀ {i : Nat}, VsOK μ S w (l.set i a) (us.set i u)
  | [], us, k, i => by rw [VsOK] at k; rw [k]; exact rfl
  | b :: l, us, k, 0 => by
    obtain ⟨v, us', rfl, h2, h3⟩ := k
    exact ⟨u, us', rfl, h, h3⟩
  | b :: l, us, k, i + 1 => by
    obtain ⟨v, us', rfl, h2, h3⟩ := k
    exact ⟨v, us'.set i u, rfl, h2, VsOK.set h h3⟩

def cellsOf : (t : Ty) → El t → List AV
  | .int k, x => [.sc (.int k x)]
  | .bool, x => [.sc (.bool x)]
  | .str, x => [.sc (.string x)]
  | .sl t, l => [.row t l]
  | .pair a b, x => cellsOf a x.1 ++ cellsOf b x.2

theorem Rd.cells {μ : Nat → Value} {S : Nat → Prop} {w : World} : ∀ {t : Ty} {x : El t} {cs : List Value}, Rd S w t x cs → VsOK μ S w (cellsOf t x) cs
  | .int k, x, cs, h => ⟨_, _, h, rfl, rfl⟩
  | .bool, x, cs, h => ⟨_, _, h, rfl, rfl⟩
  | .str, x, cs, h => ⟨_, _, h, rfl, rfl⟩
  | .sl t, l, cs, h => by
    have h' := h
    obtain ⟨A, c, rfl, _⟩ := h
    exact ⟨_, _, rfl, h', rfl⟩
  | .pair a b, x, cs, h => by
    obtain ⟨c1, c2, rfl, h1, h2⟩ := h
    exact VsOK.append (Rd.cells h1) (Rd.cells h2)

def ofCell : (t : Ty) → AV → Option (El t)
  | .int .i64, .sc (.int .i64 x) => some x
  | .int .i32, .sc (.int .i32 x) => some x
  | .int .i16, .sc (.int .i16 x) => some x
  | .int .i8, .sc (.int .i8 x) => some x
  | .int .u64, .sc (.int .u64 x) => some x
  | .int .u32, .sc (.int .u32 x) => some x
  | .int .u16, .sc (.int .u16 x) => some x
  | .int .u8, .sc (.int .u8 x) => some x
  | .bool, .sc (.bool x) => some x
  | .str, .sc (.string x) => some x
  | .sl t, .row t' l => if h : t'.eq t = true then some (Ty.of_eq h ▸ l) else none
  | .sl _, .sc (.slice none 0 0) => some []
  | _, _ => none
def ofCells : (t : Ty) → List AV → Option (El t × List AV)
  | .pair a b, l => (ofCells a l).bind fun p => (ofCells b p.2).bind fun q => some ((p.1, q.1), q.2)
  | t, c :: l => (ofCell t c).bind fun x => some (x, l)
  | _, [] => none

theorem ofCell_ok {μ : Nat → Value} {S : Nat → Prop} {w : World} {t : Ty} {c : AV} {x : El t} {u : Value} (h : ofCell t c = some x) (hu : VOK μ S w c u) : Rd S w t x [u] := by
  unfold ofCell at h
  split at h
  all_goals first
    | (cases h; rw [VOK] at hu; rw [hu]; rfl)
    | skip
  · rename_i t t' l
    split at h
    · rename_i he
      cases Ty.of_eq he
      cases h
      exact hu
    · cases h
  · cases h
    rw [VOK] at hu
    exact ⟨none, 0, by rw [hu]; rfl, Nat.le_refl _, by simp, fun i x hx => by simp at hx⟩
  · cases h
theorem ofCells_ok {μ : Nat → Value} {S : Nat → Prop} {w : World} : ∀ {t : Ty} {l m : List AV} {x : El t} {us : List Value}, ofCells t l = some (x, m) → VsOK μ S w l us →
    ∃ u1 u2, us = u1 ++ u2 ∧ Rd S w t x u1 ∧ VsOK μ S w m u2
  | .pair a b, l, m, x, us, h, hu => by
    simp only [ofCells, Option.bind_eq_some_iff] at h
    obtain ⟨⟨x1, l1⟩, h1, ⟨x2, l2⟩, h2, h3⟩ := h
    obtain ⟨u1, u2, rfl, r1, v1⟩ := ofCells_ok h1 hu
    obtain ⟨u3, u4, rfl, r2, v2⟩ := ofCells_ok h2 v1
    cases h3
    exact ⟨u1 ++ u3, u4, by simp, ⟨u1, u3, rfl, r1, r2⟩, v2⟩
  | .int k, [], m, x, us, h, hu | .bool, [], m, x, us, h, hu | .str, [], m, x, us, h, hu | .sl t, [], m, x, us, h, hu => by simp [ofCells] at h
  | .int k, c :: l, m, x, us, h, hu => by
    simp only [ofCells, Option.bind_eq_some_iff] at h
    obtain ⟨y, h1, h2⟩ := h
    cases h2
    obtain ⟨u, us', rfl, h3, h4⟩ := hu
    exact ⟨[u], us', rfl, ofCell_ok h1 h3, h4⟩
  | .bool, c :: l, m, x, us, h, hu => by
    simp only [ofCells, Option.bind_eq_some_iff] at h
    obtain ⟨y, h1, h2⟩ := h
    cases h2
    obtain ⟨u, us', rfl, h3, h4⟩ := hu
    exact ⟨[u], us', rfl, ofCell_ok h1 h3, h4⟩
  | .str, c :: l, m, x, us, h, hu => by
    simp only [ofCells, Option.bind_eq_some_iff] at h
    obtain ⟨y, h1, h2⟩ := h
    cases h2
    obtain ⟨u, us', rfl, h3, h4⟩ := hu
    exact ⟨[u], us', rfl, ofCell_ok h1 h3, h4⟩
  | .sl t, c :: l, m, x, us, h, hu => by
    simp only [ofCells, Option.bind_eq_some_iff] at h
    obtain ⟨y, h1, h2⟩ := h
    cases h2
    obtain ⟨u, us', rfl, h3, h4⟩ := hu
    exact ⟨[u], us', rfl, ofCell_ok h1 h3, h4⟩

def RdL (S : Nat → Prop) (w : World) (t : Ty) : List (El t) → List Value → Prop
  | [], us => us = []
  | x :: l, us => ∃ c1 c2, us = c1 ++ c2 ∧ Rd S w t x c1 ∧ RdL S w t l c2
section
variable {S S' : Nat → Prop} {w w' : World} {t : Ty}
theorem RdL.mono (hS : ∀ b, S b → S' b) (hz : w.heap.size ≤ w'.heap.size) (hw : ∀ b, S b → w'.heap[b]? = w.heap[b]?) :
    ∀ {l : List (El t)} {us : List Value}, RdL S w t l us → RdL S' w' t l us
  | [], us, h => h
  | x :: l, us, h => by
    obtain ⟨c1, c2, h1, h2, h3⟩ := h
    exact ⟨c1, c2, h1, Rd.mono hS hz hw h2, RdL.mono hS hz hw h3⟩
theorem RdL.len : ∀ {l : List (El t)} {us : List Value}, RdL S w t l us → us.length = l.length * sz t
  | [], us, h => by rw [RdL] at h; rw [h]; simp
  | x :: l, us, h => by
    obtain ⟨c1, c2, rfl, h2, h3⟩ := h
    rw [List.length_append, Rd.len h2, RdL.len h3, List.length_cons, Nat.add_mul, Nat.one_mul, Nat.add_comm]
theorem RdL.append : ∀ {l m : List (El t)} {us vs : List Value}, RdL S w t l us → RdL S w t m vs → RdL S w t (l ++ m) (us ++ vs)
  | [], m, us, vs, h, k => by rw [RdL] at h; rw [h]; exact k
  | x :: l, m, us, vs, h, k => by
    obtain ⟨c1, c2, rfl, h2, h3⟩ := h
    exact ⟨c1, c2 ++ vs, by simp, h2, RdL.append h3 k⟩
theorem RdL.get : ∀ {l : List (El t)} {us : List Value}, RdL S w t l us → ∀ {i : Nat} {x : El t}, l[i]? = some x →
    ∃ cs, Rd S w t x cs ∧ ∀ j u, cs[j]? = some u → us[i * sz t + j]? = some u
  | [], us, h, i, x, hi => by simp at hi
  | y :: l, us, h, 0, x, hi => by
    obtain ⟨c1, c2, rfl, h2, h3⟩ := h
    cases hi
    refine ⟨c1, h2, fun j u hu => ?_⟩
    rw [Nat.zero_mul, Nat.zero_add, List.getElem?_append_left (by rw [List.getElem?_eq_some_iff] at hu; exact hu.1)]
    exact hu
  | y :: l, us, h, i + 1, x, hi => by
    obtain ⟨c1, c2, rfl, h2, h3⟩ := h
    obtain ⟨cs, h4, h5⟩ := RdL.get h3 (i := i) (x := x) (by simpa using hi)
    refine ⟨cs, h4, fun j u hu => ?_⟩
    have e : (i + 1) * sz t + j = c1.length + (i * sz t + j) := by rw [Rd.len h2, Nat.add_mul]; omega
    rw [e, List.getElem?_append_right (by omega)]
    simpa using h5 j u hu
end
end Go.Proofs.YtgkmfhmodojdcaaE

namespace Go.Proofs.YtgkmfhmodojdcaaE
open Go
set_option linter.unusedVariables false

inductive ABlk where
  | box (T : TypeId) (cells : List AV)
  | arr (e : TypeId) (t : Ty) (l : List (El t))
  | mp (kt vt : Ty) (m : List (El kt × El vt))

abbrev Hp := List (Nat × ABlk)

def lk : Hp → Nat → Option ABlk
  | [], _ => none
  | (n, B) :: H, id => match Nat.beq n id with
    | true => some B
    | false => lk H id

def rm (id : Nat) : Hp → Hp
  | [] => []
  | (n, B) :: H => match Nat.beq n id with
    | true => rm id H
    | false => (n, B) :: rm id H

def keepB (p : Nat → Bool) : ABlk → ABlk
  | .box T cells => .box T (keeps p cells)
  | .arr e t l => .arr e t l
  | .mp kt vt m => .mp kt vt m

def keepH (p : Nat → Bool) : Hp → Hp
  | [] => []
  | (n, B) :: H => (n, keepB p B) :: keepH p H

structure St where
  tm : List AV
  H : Hp

def bof : Value → Option Nat
  | .pointer (some a) => some a.block
  | .slice (some a) _ (_ + 1) => some a.block
  | .map (some b) => some b
  | _ => none

def scV : (t : Ty) → El t → Option Value
  | .int k, x => some (.int k x)
  | .bool, x => some (.bool x)
  | .str, x => some (.string x)
  | _, _ => none
def MpRd (kt vt : Ty) : List (El kt × El vt) → List MapEntry → Prop
  | [], es => es = []
  | p :: m, es => ∃ e es', es = e :: es' ∧ scV kt p.1 = some e.key ∧ scV vt p.2 = some e.val ∧ MpRd kt vt m es'
def BOK (μ : Nat → Value) (S : Nat → Prop) (w : World) (id : Nat) : ABlk → Prop
  | .box T cells => ∃ b us, μ id = .pointer (some ⟨b, 0, none⟩) ∧ w.heap[b]? = some (.cells us.toArray T (0, 0)) ∧ VsOK μ S w cells us
  | .arr e t l => (∃ A, μ id = .slice A 0 0 ∧ l = []) ∨
      ∃ b c us rest, μ id = .slice (some ⟨b, 0, none⟩) l.length (c + 1) ∧ l.length ≤ c + 1 ∧ c + 1 ≤ maxLen ∧ w.heap[b]? = some (.cells (us ++ rest).toArray e (0, 0)) ∧
        (us ++ rest).length = (c + 1) * sz t ∧ RdL S w t l us
  | .mp kt vt m => ∃ b es clock, μ id = .map (some b) ∧ w.heap[b]? = some (.map es clock) ∧ MpRd kt vt m es.toList

structure Fr (D : Prop) where
  w0 : World
  O : Nat → Prop
  S0 : Nat → Prop

structure Inv {D : Prop} (F : Fr D) (μ : Nat → Value) (S : Nat → Prop) (H : Hp) (w : World) : Prop where
  blk : ∀ id B, lk H id = some B → BOK μ S w id B
  apart : ∀ i j Bi Bj, lk H i = some Bi → lk H j = some Bj → i ≠ j → ∀ b, bof (μ i) = some b → bof (μ j) = some b → False
  notS : ∀ i B, lk H i = some B → ∀ b, bof (μ i) = some b → ¬ S b ∧ (F.w0.heap.size ≤ b ∨ F.O b)
  Slt : ∀ b, S b → b < w.heap.size
  S0 : ∀ b, F.S0 b → S b
  Sfrom : ∀ b, S b → F.S0 b ∨ F.O b ∨ F.w0.heap.size ≤ b
  frame : ∀ b, b < F.w0.heap.size → ¬ F.O b → w.heap[b]? = F.w0.heap[b]?
  size : F.w0.heap.size ≤ w.heap.size
  os : w.os = F.w0.os
  tape : w.tape = F.w0.tape
  output : w.output = F.w0.output
  drawn : D → F.w0.drawn ≤ w.drawn

structure Bel (D : Prop) (w w' : World) : Prop extends Go.RowKit.Below w.heap.size w w' where
  drawn : D → w.drawn ≤ w'.drawn

def Gam {D : Prop} (F : Fr D) (st : St) (a : Act) (w : World) : Prop :=
  ∃ μ S, Inv F μ S st.H w ∧ VsOK μ S w st.tm a.tmps.toList ∧ a.defers = []

theorem lk_rm_same (id : Nat) : ∀ H : Hp, lk (rm id H) id = none
  | [] => rfl
  | (n, B) :: H => by
    unfold rm
    cases h : Nat.beq n id with
    | true => simpa [h] using lk_rm_same id H
    | false => simp [lk, h, lk_rm_same id H]
theorem lk_rm_other {id j : Nat} (hj : j ≠ id) : ∀ H : Hp, lk (rm id H) j = lk H j
  | [] => rfl
  | (n, B) :: H => by
    unfold rm
    cases h : Nat.beq n id with
    | true =>
      have hn : n = id := Nat.eq_of_beq_eq_true h
      have hnj : Nat.beq n j = false := by
        cases h' : Nat.beq n j with
        | false => rfl
        | true => exact absurd ((Nat.eq_of_beq_eq_true h').symm.trans hn) hj
      simp [lk, hnj, lk_rm_other hj H]
    | false => simp [lk, lk_rm_other hj H]
theorem lk_cons_same (id : Nat) (B : ABlk) (H : Hp) : lk ((id, B) :: H) id = some B := by
  have : Nat.beq id id = true := by simp
  simp [lk, this]
theorem lk_cons_other {id j : Nat} (hj : j ≠ id) (B : ABlk) (H : Hp) : lk ((id, B) :: H) j = lk H j := by
  have : Nat.beq id j = false := by
    cases h' : Nat.beq id j with
    | false => rfl
    | true => exact absurd (Nat.eq_of_beq_eq_true h').symm hj
  simp [lk, this]
theorem lk_keepH (p : Nat → Bool) : ∀ (H : Hp) (id : Nat), lk (keepH p H) id = (lk H id).map (keepB p)
  | [], _ => rfl
  | (n, B) :: H, id => by
    unfold keepH lk
    cases h : Nat.beq n id with
    | true => rfl
    | false => exact lk_keepH p H id

def upd (μ : Nat → Value) (id : Nat) (v : Value) : Nat → Value := fun j => if j = id then v else μ j
theorem upd_same (μ : Nat → Value) (id : Nat) (v : Value) : upd μ id v id = v := by simp [upd]
theorem upd_other (μ : Nat → Value) {id j : Nat} (v : Value) (h : j ≠ id) : upd μ id v j = μ j := by simp [upd, h]

def but (d : Nat) : Nat → Bool := fun j => !(Nat.beq j d)
theorem but_iff {d j : Nat} : but d j = true ↔ j ≠ d := by
  unfold but
  cases h : Nat.beq j d with
  | true => simp [Nat.eq_of_beq_eq_true h]
  | false =>
    simp
    intro e
    subst e
    simp at h

theorem bof_lt {μ : Nat → Value} {S : Nat → Prop} {w : World} {id : Nat} {B : ABlk} (h : BOK μ S w id B) {b : Nat} (hb : bof (μ id) = some b) : b < w.heap.size := by
  cases B with
  | box T cells =>
    obtain ⟨b', us, h1, h2, _⟩ := h
    rw [h1] at hb
    simp only [bof, Option.some.injEq] at hb
    subst hb
    exact (Array.getElem?_eq_some_iff.1 h2).1
  | arr e t l =>
    rcases h with ⟨A, h1, _⟩ | ⟨b', c, us, rest, h1, _, _, h2, _⟩
    · rw [h1] at hb; simp [bof] at hb
    · rw [h1] at hb
      simp only [bof, Option.some.injEq] at hb
      subst hb
      exact (Array.getElem?_eq_some_iff.1 h2).1
  | mp kt vt m =>
    obtain ⟨b', es, cl, h1, h2, _⟩ := h
    rw [h1] at hb
    simp only [bof, Option.some.injEq] at hb
    subst hb
    exact (Array.getElem?_eq_some_iff.1 h2).1

section
variable {μ μ' : Nat → Value} {S S' : Nat → Prop} {w w' : World} {p : Nat → Bool}
theorem BOK.keep (hμ : ∀ id, p id = true → μ' id = μ id) (hS : ∀ b, S b → S' b) (hz : w.heap.size ≤ w'.heap.size) (hw : ∀ b, S b → w'.heap[b]? = w.heap[b]?) {id : Nat} (hid : μ' id = μ id)
    (hb : ∀ b, bof (μ id) = some b → w'.heap[b]? = w.heap[b]?) : ∀ {B : ABlk}, BOK μ S w id B → BOK μ' S' w' id (keepB p B)
  | .box T cells, h => by
    obtain ⟨b, us, h1, h2, h3⟩ := h
    exact ⟨b, us, hid.trans h1, (hb b (by rw [h1]; rfl)).trans h2, VsOK.keep hμ hS hz hw h3⟩
  | .arr e t l, h => by
    rcases h with ⟨A, h1, h2⟩ | ⟨b, c, us, rest, h1, h2, h3, h4, h5, h6⟩
    · exact .inl ⟨A, hid.trans h1, h2⟩
    · exact .inr ⟨b, c, us, rest, hid.trans h1, h2, h3, (hb b (by rw [h1]; rfl)).trans h4, h5, RdL.mono hS hz hw h6⟩
  | .mp kt vt m, h => by
    obtain ⟨b, es, cl, h1, h2, h3⟩ := h
    exact ⟨b, es, cl, hid.trans h1, (hb b (by rw [h1]; rfl)).trans h2, h3⟩
theorem BOK.mono (hS : ∀ b, S b → S' b) (hz : w.heap.size ≤ w'.heap.size) (hw : ∀ b, S b → w'.heap[b]? = w.heap[b]?) {id : Nat}
    (hb : ∀ b, bof (μ id) = some b → w'.heap[b]? = w.heap[b]?) : ∀ {B : ABlk}, BOK μ S w id B → BOK μ S' w' id B
  | .box T cells, h => by
    obtain ⟨b, us, h1, h2, h3⟩ := h
    exact ⟨b, us, h1, (hb b (by rw [h1]; rfl)).trans h2, VsOK.mono hS hz hw h3⟩
  | .arr e t l, h => by
    rcases h with ⟨A, h1, h2⟩ | ⟨b, c, us, rest, h1, h2, h3, h4, h5, h6⟩
    · exact .inl ⟨A, h1, h2⟩
    · exact .inr ⟨b, c, us, rest, h1, h2, h3, (hb b (by rw [h1]; rfl)).trans h4, h5, RdL.mono hS hz hw h6⟩
  | .mp kt vt m, h => by
    obtain ⟨b, es, cl, h1, h2, h3⟩ := h
    exact ⟨b, es, cl, h1, (hb b (by rw [h1]; rfl)).trans h2, h3⟩
end

def evl (tm : List AV) : Operand → AV
  | .tmp t => tm.getD t .top
  | .const v => .sc v
  | .global _ => .top
  | .func f => .fn f []

theorem evl_ok {μ : Nat → Value} {S : Nat → Prop} {w : World} {tm : List AV} {a : Act} (h : VsOK μ S w tm a.tmps.toList) (x : Operand) : VOK μ S w (evl tm x) (a.eval x) := by
  cases x with
  | tmp t =>
    show VOK μ S w (tm.getD t .top) (a.tmps.getD t undef)
    rw [List.getD_eq_getElem?_getD]
    cases ht : tm[t]? with
    | none => trivial
    | some av =>
      obtain ⟨u, hu, hv⟩ := VsOK.get h ht
      rw [Array.getD_eq_getD_getElem?, ← Array.getElem?_toList, hu]
      exact hv
  | const v => rfl
  | global g => trivial
  | func f => exact ⟨[], rfl, rfl⟩

def putA (tm : List AV) (dst : Option Nat) (av : AV) : List AV := match dst with
  | some d => tm.set d av
  | none => tm

theorem putA_ok {μ : Nat → Value} {S : Nat → Prop} {w : World} {tm : List AV} {a : Act} {dst : Option Nat} {av : AV} {v : Value} (h : VsOK μ S w tm a.tmps.toList) (hv : VOK μ S w av v) :
    VsOK μ S w (putA tm dst av) (a.put dst v).tmps.toList := by
  cases dst with
  | none => exact h
  | some d =>
    simp only [putA, Act.put, Array.toList_setIfInBounds]
    exact VsOK.set hv h

theorem put_defers (a : Act) (dst : Option Nat) (v : Value) : (a.put dst v).defers = a.defers := by cases dst <;> rfl

theorem Gam.put {D : Prop} {F : Fr D} {st : St} {a : Act} {w : World} {dst : Option Nat} {av : AV} {v : Value} {μ : Nat → Value} {S : Nat → Prop} (hI : Inv F μ S st.H w) (hT : VsOK μ S w st.tm a.tmps.toList) (hD : a.defers = [])
    (hv : VOK μ S w av v) : Gam F { st with tm := putA st.tm dst av } (a.put dst v) w :=
  ⟨μ, S, hI, putA_ok hT hv, by rw [put_defers]; exact hD⟩

theorem Inv.drew {D : Prop} {F : Fr D} {μ : Nat → Value} {S : Nat → Prop} {H : Hp} {w : World} (h : Inv F μ S H w) : Inv F μ S H w.drew :=
  ⟨fun id B hB => BOK.mono (w := w) (w' := w.drew) (fun _ h => h) (Nat.le_refl _) (fun _ _ => rfl) (fun _ _ => rfl) (h.blk id B hB), h.apart, h.notS, h.Slt, h.S0, h.Sfrom, h.frame, h.size, h.os, h.tape, h.output, fun x => Nat.le_succ_of_le (h.drawn x)⟩
theorem Gam.drew {D : Prop} {F : Fr D} {st : St} {a : Act} {w : World} (h : Gam F st a w) : Gam F st a w.drew := by
  obtain ⟨μ, S, h1, h2, h3⟩ := h
  exact ⟨μ, S, h1.drew, VsOK.mono (w := w) (w' := w.drew) (fun _ h => h) (Nat.le_refl _) (fun _ _ => rfl) h2, h3⟩

theorem heap_alloc_lt (w : World) (o : Obj) {b : Nat} (h : b < w.heap.size) : (w.alloc o).heap[b]? = w.heap[b]? := by
  show (w.heap.push o)[b]? = _
  rw [Array.getElem?_push]
  split
  · omega
  · rfl

theorem Inv.new {D : Prop} {F : Fr D} {μ : Nat → Value} {S : Nat → Prop} {H : Hp} {w : World} (h : Inv F μ S H w) (o : Obj) (d : Nat) (v : Value) (B : ABlk)
    (hv : bof v = some w.heap.size) (hB : BOK (upd μ d v) S (w.alloc o) d B) :
    Inv F (upd μ d v) S ((d, B) :: keepH (but d) (rm d H)) (w.alloc o) := by
  have hSw : ∀ b, S b → (w.alloc o).heap[b]? = w.heap[b]? := fun b hb => heap_alloc_lt w o (h.Slt b hb)
  have hz : w.heap.size ≤ (w.alloc o).heap.size := by simp
  have hμ : ∀ id, but d id = true → upd μ d v id = μ id := fun id hid => upd_other μ v (but_iff.1 hid)
  have old : ∀ id B', lk ((d, B) :: keepH (but d) (rm d H)) id = some B' → id ≠ d → ∃ B0, lk H id = some B0 ∧ B' = keepB (but d) B0 := by
    intro id B' hid hne
    rw [lk_cons_other hne, lk_keepH, lk_rm_other hne] at hid
    cases hk : lk H id with
    | none => rw [hk] at hid; cases hid
    | some B0 => rw [hk] at hid; exact ⟨B0, rfl, (Option.some.inj hid).symm⟩
  refine ⟨?_, ?_, ?_, ?_, h.S0, h.Sfrom, ?_, Nat.le_trans h.size hz, h.os, h.tape, h.output, h.drawn⟩
  · intro id B' hid
    by_cases hne : id = d
    · subst hne
      rw [lk_cons_same] at hid
      cases hid
      exact hB
    · obtain ⟨B0, h0, rfl⟩ := old id B' hid hne
      exact BOK.keep hμ (fun _ h => h) hz hSw (upd_other μ v hne) (fun b hb => heap_alloc_lt w o (bof_lt (h.blk id B0 h0) hb)) (h.blk id B0 h0)
  · intro i j Bi Bj hi hj hne b hbi hbj
    by_cases ei : i = d
    · by_cases ej : j = d
      · exact hne (ei.trans ej.symm)
      · obtain ⟨B0, h0, rfl⟩ := old j Bj hj ej
        rw [ei, upd_same, hv] at hbi
        rw [upd_other μ v ej] at hbj
        have := bof_lt (h.blk j B0 h0) hbj
        cases hbi
        omega
    · obtain ⟨B0, h0, rfl⟩ := old i Bi hi ei
      rw [upd_other μ v ei] at hbi
      by_cases ej : j = d
      · rw [ej, upd_same, hv] at hbj
        have := bof_lt (h.blk i B0 h0) hbi
        cases hbj
        omega
      · obtain ⟨B1, h1, rfl⟩ := old j Bj hj ej
        rw [upd_other μ v ej] at hbj
        exact h.apart i j B0 B1 h0 h1 hne b hbi hbj
  · intro i Bi hi b hb
    by_cases ei : i = d
    · rw [ei, upd_same, hv] at hb
      cases hb
      exact ⟨fun hs => Nat.lt_irrefl _ (h.Slt _ hs), .inl h.size⟩
    · obtain ⟨B0, h0, rfl⟩ := old i Bi hi ei
      rw [upd_other μ v ei] at hb
      exact h.notS i B0 h0 b hb
  · intro b hb
    exact Nat.lt_of_lt_of_le (h.Slt b hb) hz
  · intro b hb hO
    exact (heap_alloc_lt w o (Nat.lt_of_lt_of_le hb h.size)).trans (h.frame b hb hO)

theorem Inv.nil {D : Prop} {F : Fr D} {μ : Nat → Value} {S : Nat → Prop} {H : Hp} {w : World} (h : Inv F μ S H w) (d : Nat) (e : TypeId) (t : Ty) (A : Option Addr) :
    Inv F (upd μ d (.slice A 0 0)) S ((d, .arr e t []) :: keepH (but d) (rm d H)) w := by
  have hμ : ∀ id, but d id = true → upd μ d (.slice A 0 0) id = μ id := fun id hid => upd_other μ _ (but_iff.1 hid)
  have old : ∀ id B', lk ((d, ABlk.arr e t []) :: keepH (but d) (rm d H)) id = some B' → id ≠ d → ∃ B0, lk H id = some B0 ∧ B' = keepB (but d) B0 := by
    intro id B' hid hne
    rw [lk_cons_other hne, lk_keepH, lk_rm_other hne] at hid
    cases hk : lk H id with
    | none => rw [hk] at hid; cases hid
    | some B0 => rw [hk] at hid; exact ⟨B0, rfl, (Option.some.inj hid).symm⟩
  refine ⟨?_, ?_, ?_, h.Slt, h.S0, h.Sfrom, h.frame, h.size, h.os, h.tape, h.output, h.drawn⟩
  · intro id B' hid
    by_cases hne : id = d
    · subst hne
      rw [lk_cons_same] at hid
      cases hid
      exact .inl ⟨A, upd_same _ _ _, rfl⟩
    · obtain ⟨B0, h0, rfl⟩ := old id B' hid hne
      exact BOK.keep hμ (fun _ h => h) (Nat.le_refl _) (fun _ _ => rfl) (upd_other μ _ hne) (fun b hb => rfl) (h.blk id B0 h0)
  · intro i j Bi Bj hi hj hne b hbi hbj
    by_cases ei : i = d
    · rw [ei, upd_same] at hbi; simp [bof] at hbi
    · by_cases ej : j = d
      · rw [ej, upd_same] at hbj; simp [bof] at hbj
      · obtain ⟨B0, h0, rfl⟩ := old i Bi hi ei
        obtain ⟨B1, h1, rfl⟩ := old j Bj hj ej
        rw [upd_other μ _ ei] at hbi
        rw [upd_other μ _ ej] at hbj
        exact h.apart i j B0 B1 h0 h1 hne b hbi hbj
  · intro i Bi hi b hb
    by_cases ei : i = d
    · rw [ei, upd_same] at hb; simp [bof] at hb
    · obtain ⟨B0, h0, rfl⟩ := old i Bi hi ei
      rw [upd_other μ _ ei] at hb
      exact h.notS i B0 h0 b hb

theorem Inv.drop {D : Prop} {F : Fr D} {μ : Nat → Value} {S : Nat → Prop} {H : Hp} {w : World} (h : Inv F μ S H w) (d : Nat) : Inv F μ S (rm d H) w := by
  have old : ∀ id B, lk (rm d H) id = some B → lk H id = some B := by
    intro id B hid
    by_cases e : id = d
    · rw [e, lk_rm_same] at hid; cases hid
    · rwa [lk_rm_other e] at hid
  exact ⟨fun id B hB => h.blk id B (old id B hB), fun i j Bi Bj hi hj => h.apart i j Bi Bj (old i Bi hi) (old j Bj hj), fun i B hi => h.notS i B (old i B hi), h.Slt, h.S0, h.Sfrom, h.frame, h.size, h.os, h.tape, h.output, h.drawn⟩

theorem Inv.set {D : Prop} {F : Fr D} {μ : Nat → Value} {S : Nat → Prop} {H : Hp} {w w' : World} (h : Inv F μ S H w) (d : Nat) (b0 : Nat) (B0 B : ABlk) (h0 : lk H d = some B0) (hb0 : bof (μ d) = some b0)
    (hw : ∀ b, b ≠ b0 → w'.heap[b]? = w.heap[b]?) (hz : w'.heap.size = w.heap.size) (ho : w'.os = w.os) (ht : w'.tape = w.tape) (hu : w'.output = w.output) (hd : w.drawn ≤ w'.drawn)
    (hB : (∀ b, S b → w'.heap[b]? = w.heap[b]?) → BOK μ S w' d B) : Inv F μ S ((d, B) :: rm d H) w' := by
  have hnS := h.notS d B0 h0 b0 hb0
  have hSw : ∀ b, S b → w'.heap[b]? = w.heap[b]? := fun b hb => hw b (fun e => hnS.1 (e ▸ hb))
  have old : ∀ id B', lk ((d, B) :: rm d H) id = some B' → id ≠ d → lk H id = some B' := by
    intro id B' hid hne
    rwa [lk_cons_other hne, lk_rm_other hne] at hid
  have any : ∀ id B', lk ((d, B) :: rm d H) id = some B' → ∃ B1, lk H id = some B1 := by
    intro id B' hid
    by_cases e : id = d
    · exact ⟨B0, e ▸ h0⟩
    · exact ⟨B', old id B' hid e⟩
  refine ⟨?_, ?_, ?_, ?_, h.S0, h.Sfrom, ?_, by rw [hz]; exact h.size, ho.trans h.os, ht.trans h.tape, hu.trans h.output, fun x => Nat.le_trans (h.drawn x) hd⟩
  · intro id B' hid
    by_cases e : id = d
    · subst e
      rw [lk_cons_same] at hid
      cases hid
      exact hB hSw
    · have hid' := old id B' hid e
      exact BOK.mono (fun _ h => h) (Nat.le_of_eq hz.symm) hSw (fun b hb => hw b (fun eb => h.apart id d B' B0 hid' h0 e b hb (eb ▸ hb0))) (h.blk id B' hid')
  · intro i j Bi Bj hi hj
    obtain ⟨B1, h1⟩ := any i Bi hi
    obtain ⟨B2, h2⟩ := any j Bj hj
    exact h.apart i j B1 B2 h1 h2
  · intro i Bi hi
    obtain ⟨B1, h1⟩ := any i Bi hi
    exact h.notS i B1 h1
  · intro b hb
    rw [hz]
    exact h.Slt b hb
  · intro b hb hO
    have : b ≠ b0 := by
      intro e
      rcases hnS.2 with h1 | h1
      · omega
      · exact hO (e ▸ h1)
    exact (hw b this).trans (h.frame b hb hO)

theorem Inv.give {D : Prop} {F : Fr D} {μ : Nat → Value} {S : Nat → Prop} {H : Hp} {w w' : World} (h : Inv F μ S H w) (d : Nat) (b0 : Nat) (v : Value) (B : ABlk)
    (hfree : ∀ j Bj, lk H j = some Bj → bof (μ j) = some b0 → False) (hnS : ¬ S b0) (hfrom : F.w0.heap.size ≤ b0 ∨ F.O b0)
    (hw : ∀ b, b ≠ b0 → w'.heap[b]? = w.heap[b]?) (hz : w'.heap.size = w.heap.size) (ho : w'.os = w.os) (ht : w'.tape = w.tape) (hu : w'.output = w.output) (hd : w.drawn ≤ w'.drawn)
    (hv : bof v = some b0) (hB : (∀ b, S b → w'.heap[b]? = w.heap[b]?) → BOK (upd μ d v) S w' d B) :
    Inv F (upd μ d v) S ((d, B) :: keepH (but d) (rm d H)) w' := by
  have hSw : ∀ b, S b → w'.heap[b]? = w.heap[b]? := fun b hb => hw b (fun e => hnS (e ▸ hb))
  have hμ : ∀ id, but d id = true → upd μ d v id = μ id := fun id hid => upd_other μ v (but_iff.1 hid)
  have old : ∀ id B', lk ((d, B) :: keepH (but d) (rm d H)) id = some B' → id ≠ d → ∃ B0, lk H id = some B0 ∧ B' = keepB (but d) B0 := by
    intro id B' hid hne
    rw [lk_cons_other hne, lk_keepH, lk_rm_other hne] at hid
    cases hk : lk H id with
    | none => rw [hk] at hid; cases hid
    | some B0 => rw [hk] at hid; exact ⟨B0, rfl, (Option.some.inj hid).symm⟩
  refine ⟨?_, ?_, ?_, ?_, h.S0, h.Sfrom, ?_, by rw [hz]; exact h.size, ho.trans h.os, ht.trans h.tape, hu.trans h.output, fun x => Nat.le_trans (h.drawn x) hd⟩
  · intro id B' hid
    by_cases hne : id = d
    · subst hne
      rw [lk_cons_same] at hid
      cases hid
      exact hB hSw
    · obtain ⟨B0, h0, rfl⟩ := old id B' hid hne
      exact BOK.keep hμ (fun _ h => h) (Nat.le_of_eq hz.symm) hSw (upd_other μ v hne) (fun b hb => hw b (fun e => hfree id B0 h0 (e ▸ hb))) (h.blk id B0 h0)
  · intro i j Bi Bj hi hj hne b hbi hbj
    by_cases ei : i = d
    · by_cases ej : j = d
      · exact hne (ei.trans ej.symm)
      · obtain ⟨B0, h0, rfl⟩ := old j Bj hj ej
        rw [ei, upd_same, hv] at hbi
        rw [upd_other μ v ej] at hbj
        cases hbi
        exact hfree j B0 h0 hbj
    · obtain ⟨B0, h0, rfl⟩ := old i Bi hi ei
      rw [upd_other μ v ei] at hbi
      by_cases ej : j = d
      · rw [ej, upd_same, hv] at hbj
        cases hbj
        exact hfree i B0 h0 hbi
      · obtain ⟨B1, h1, rfl⟩ := old j Bj hj ej
        rw [upd_other μ v ej] at hbj
        exact h.apart i j B0 B1 h0 h1 hne b hbi hbj
  · intro i Bi hi b hb
    by_cases ei : i = d
    · rw [ei, upd_same, hv] at hb
      cases hb
      exact ⟨hnS, hfrom⟩
    · obtain ⟨B0, h0, rfl⟩ := old i Bi hi ei
      rw [upd_other μ v ei] at hb
      exact h.notS i B0 h0 b hb
  · intro b hb
    rw [hz]
    exact h.Slt b hb
  · intro b hb hO
    have : b ≠ b0 := by
      intro e
      rcases hfrom with h1 | h1
      · omega
      · exact hO (e ▸ h1)
    exact (hw b this).trans (h.frame b hb hO)

end Go.Proofs.YtgkmfhmodojdcaaE

namespace Go.Proofs.YtgkmfhmodojdcaaE
open Go
set_option linter.unusedVariables false

inductive PR where
  | no
  | ok (a : AV)
  | chk (c : Bool) (a : AV)

def PR.sat (Q : AV → Prop) : PR → Prop
  | .no => True
  | .ok a => Q a
  | .chk c a => c = true → Q a

def I (k : IntKind) (n : Int) : AV := .sc (.int k n)
def B (b : Bool) : AV := .sc (.bool b)

def intBin (op : BinOp) (k : IntKind) (a b : Int) : PR :=
  match op with
  | .add => .ok (I k (k.wrap (a + b)))
  | .sub => .ok (I k (k.wrap (a - b)))
  | .mul => .ok (I k (k.wrap (a * b)))
  | .quo => .chk (!(b == 0)) (I k (k.wrap (a.tdiv b)))
  | .rem => .chk (!(b == 0)) (I k (a.tmod b))
  | .and => .ok (I k (k.wrap (BitVec.ofInt k.bits a &&& BitVec.ofInt k.bits b).toNat))
  | .or => .ok (I k (k.wrap (BitVec.ofInt k.bits a ||| BitVec.ofInt k.bits b).toNat))
  | .xor => .ok (I k (k.wrap (BitVec.ofInt k.bits a ^^^ BitVec.ofInt k.bits b).toNat))
  | .andNot => .ok (I k (k.wrap (BitVec.ofInt k.bits a &&& ~~~ BitVec.ofInt k.bits b).toNat))
  | .eql => .ok (B (a == b))
  | .neq => .ok (B (a != b))
  | .lss => .ok (B (decide (a < b)))
  | .leq => .ok (B (decide (a ≤ b)))
  | .gtr => .ok (B (decide (a > b)))
  | .geq => .ok (B (decide (a ≥ b)))
  | _ => .no

def shiftBin (op : BinOp) (k : IntKind) (a b : Int) : PR :=
  match op with
  | .shl => .chk (decide (0 ≤ b)) (I k (k.wrap (a * 2 ^ (min b.toNat k.bits))))
  | .shr => .chk (decide (0 ≤ b)) (I k (a.fdiv (2 ^ (min b.toNat k.bits))))
  | _ => .no

def strBin (op : BinOp) (x y : ByteArray) : PR :=
  match op with
  | .add => .chk (decide (((x.size + y.size : Nat) : Int) ≤ 9223372036854775807)) (.sc (.string (x ++ y)))
  | .eql => .ok (B (x.toList == y.toList))
  | .neq => .ok (B (!(x.toList == y.toList)))
  | .lss => .ok (B (Op.bytesLess x.toList y.toList))
  | .leq => .ok (B (Op.bytesLess x.toList y.toList || x.toList == y.toList))
  | .gtr => .ok (B (!(Op.bytesLess x.toList y.toList || x.toList == y.toList)))
  | .geq => .ok (B (!(Op.bytesLess x.toList y.toList)))
  | _ => .no

def isPtr : AV → Bool
  | .ptr _ _ | .eptr _ _ _ | .optr _ _ _ _ => true
  | _ => false

def isAggT (P : Program) (t : TypeId) : Bool := match P.underlying t with
  | some (.struct _) => true
  | some (.array _ _) => true
  | _ => false

def szT (P : Program) (t : TypeId) : Option Nat := (P.info? t).map (·.size)

def aggPart (P : Program) (t : TypeId) (l : List AV) (off : Nat) : Option AV := match P.underlying t, szT P t with
  | some _, some n => if isAggT P t then some (.agg ((l.drop off).take n)) else l[off]?
  | _, _ => none
def eqFs (P : Program) (eq : TypeId → AV → AV → Option Bool) : List Field → List AV → List AV → Option Bool
  | [], _, _ => some true
  | f :: fs, l, m => match f.name == "_" with
    | true => eqFs P eq fs l m
    | false => match aggPart P f.type l f.offset, aggPart P f.type m f.offset with
      | some a, some b => match fs with
        | [] => eq f.type a b
        | g :: gs => (eq f.type a b).bind fun r => (eqFs P eq (g :: gs) l m).bind fun s => some (r && s)
      | _, _ => none
def eqAV (P : Program) : Nat → TypeId → AV → AV → Option Bool
  | 0, _, _, _ => none
  | n + 1, t, a, b => match P.underlying t with
    | some (.int _) => match a, b with
      | .sc (.int k x), .sc (.int k' y) => if k = k' then some (x == y) else none
      | _, _ => none
    | some .bool => match a, b with
      | .sc (.bool x), .sc (.bool y) => some (x == y)
      | _, _ => none
    | some .string => match a, b with
      | .sc (.string x), .sc (.string y) => some (x.toList == y.toList)
      | _, _ => none
    | some (.struct fs) => match a, b with
      | .agg l, .agg m => match P.stoodInHeld t with
        | false => eqFs P (eqAV P n) fs.toList l m
        | true => none
      | _, _ => none
    | _ => none
def binPR (P : Program) (op : BinOp) (t : TypeId) (x y : AV) : PR :=
  match x, y with
  | .sc (.int k a), .sc (.int k' b) =>
    match op with
    | .shl | .shr => shiftBin op k a b
    | _ => if k = k' then intBin op k a b else .no
  | .sc (.string a), .sc (.string b) => strBin op a b
  | .sc (.bool a), .sc (.bool b) =>
    match P.underlying t, op with
    | some .bool, .eql => .ok (B (a == b))
    | some .bool, .neq => .ok (B (!(a == b)))
    | _, _ => .no
  | .agg l, .agg m =>
    match op, P.eqGuardType P.depth t with
    | .eql, false => match eqAV P 20 t (.agg l) (.agg m) with
      | some r => .ok (B r)
      | none => .no
    | .neq, false => match eqAV P 20 t (.agg l) (.agg m) with
      | some r => .ok (B (!r))
      | none => .no
    | _, _ => .no
  | .sc (.slice none 0 0), .sc (.slice none 0 0) =>
    match P.underlying t, op with
    | some (.slice _), .eql => .ok (B true)
    | some (.slice _), .neq => .ok (B false)
    | _, _ => .no
  | .sc (.pointer none), .sc (.pointer none) =>
    match P.underlying t, op with
    | some (.pointer _), .eql => .ok (B true)
    | some (.pointer _), .neq => .ok (B false)
    | _, _ => .no
  | x, .sc (.pointer none) =>
    match P.underlying t, op, isPtr x with
    | some (.pointer _), .eql, true => .ok (B false)
    | some (.pointer _), .neq, true => .ok (B true)
    | _, _, _ => .no
  | _, _ => .no

def partAV (P : Program) (t : TypeId) (l : List AV) (off : Nat) : PR :=
  match P.underlying t, szT P t with
  | some _, some n => if isAggT P t then .ok (.agg ((l.drop off).take n)) else match l[off]? with
    | some a => .ok a
    | none => .no
  | _, _ => .no

def pickAV (c : Bool) (a b : AV) : AV := match c with
  | true => a
  | false => b

def toPtr (off : Nat) : AV → Option AV
  | .ptr id o => some (.ptr id (o + off))
  | .eptr t x o => some (.eptr t x (o + off))
  | .optr id i s o => some (.optr id i s (o + off))
  | _ => none

def u8L : (t : Ty) → List (El t) → Option (List Int)
  | .int .u8, l => some l
  | _, _ => none
def bytesStr (s : ByteArray) : List Int → ByteArray
  | [] => s
  | n :: l => bytesStr (s.push (UInt8.ofNat n.toNat)) l

def pureOp (P : Program) (op : Op) (ρ : Operand → AV) : PR :=
  match op with
  | .move x => .ok (ρ x)
  | .assign x => .ok (ρ x)
  | .pick c a b => match ρ c with
    | .sc (.bool c) => match ρ a, ρ b with
      | .sc (.bool x), .sc (.bool y) => .ok (B (match c with | true => x | false => y))
      | a, b => .ok (pickAV c a b)
    | _ => .no
  | .binOp op t x y _ => binPR P op t (ρ x) (ρ y)
  | .unOp .not _ x => match ρ x with
    | .sc (.bool b) => .ok (B (!b))
    | _ => .no
  | .unOp .neg _ x => match ρ x with
    | .sc (.int k n) => .ok (I k (k.wrap (0 - n)))
    | _ => .no
  | .unOp .xor _ x => match ρ x with
    | .sc (.int k n) => intBin .xor k (if k.signed then -1 else k.max) n
    | _ => .no
  | .convert src dst x => match ρ x, P.underlying src, P.underlying dst with
    | .sc (.int k n), some _, some (.int k') => .ok (I k' (k'.wrap n))
    | .sc (.string s), some .string, some .string => .ok (.sc (.string s))
    | .row t l, some (.slice e), some .string => match P.underlying e, u8L t l with
      | some (.int .u8), some bs => .ok (.sc (.string (bytesStr .empty bs)))
      | _, _ => .no
    | _, _, _ => .no
  | .makeFunc (.func f) first caps => if first.size = 0 then .ok (.fn f (caps.toList.map ρ)) else .no
  | .extract t ix => match ρ t with
    | .tup l => match l[ix]? with
      | some a => .ok a
      | none => .no
    | _ => .no
  | .field t x f => match ρ x, P.underlying t with
    | .agg l, some (.struct fs) => match fs[f]? with
      | some fd => partAV P fd.type l fd.offset
      | none => .no
    | _, _ => .no
  | .index t x i => match ρ x, ρ i, P.underlying t with
    | .agg l, .sc (.int _ n), some (.array len e) => match szT P e, P.underlying e with
      | some s, some _ => match partAV P e l (n.toNat * s) with
        | .ok a => .chk (decide (0 ≤ n ∧ n < (len : Int))) a
        | _ => .no
      | _, _ => .no
    | .sc (.string s), .sc (.int _ n), some .string => .chk (decide (0 ≤ n ∧ n < (s.size : Int))) (I .u8 (s.data.getD n.toNat 0).toNat)
    | _, _, _ => .no
  | .fieldAddr s x f => match P.underlying s with
    | some (.struct fs) => match fs[f]? with
      | some fd => match szT P fd.type, toPtr fd.offset (ρ x) with
        | some (n + 1), some a => .ok a
        | _, _ => .no
      | none => .no
    | _ => .no
  | .indexAddr t x i => match ρ x, ρ i, P.underlying t with
    | .row ty l, .sc (.int _ n), some (.slice e) => match szT P e with
      | some s => if s = sz ty then .chk (decide (0 ≤ n ∧ n < (l.length : Int))) (.eptr ty (l.getD n.toNat (zEl ty)) 0) else .no
      | none => .no
    | a, .sc (.int _ n), some (.array len e) => match szT P e, toPtr (n.toNat * (szT P e).getD 0) a with
      | some s, some b => .chk (decide (0 ≤ n ∧ n < (len : Int))) b
      | _, _ => .no
    | _, _, _ => .no
  | .nilCheck x => match ρ x with
    | .ptr id o => .ok (.ptr id o)
    | .eptr t y o => .ok (.eptr t y o)
    | .optr id i s o => .ok (.optr id i s o)
    | .fn f l => .ok (.fn f l)
    | _ => .no
  | .slice t x lo hi none => match ρ x, P.underlying t with
    | .row ty l, some (.slice e) => match szT P e, (lo.map ρ).getD (.sc (.int .i64 0)), (hi.map ρ).getD (.sc (.int .i64 l.length)) with
      | some s, .sc (.int _ a), .sc (.int _ b) => if s = sz ty then .chk (decide (0 ≤ a ∧ a ≤ b ∧ b ≤ (l.length : Int))) (.row ty ((l.take b.toNat).drop a.toNat)) else .no
      | _, _, _ => .no
    | .sc (.string s), some .string => match (lo.map ρ).getD (.sc (.int .i64 0)), (hi.map ρ).getD (.sc (.int .i64 s.size)) with
      | .sc (.int _ a), .sc (.int _ b) => .chk (decide (0 ≤ a ∧ a ≤ b ∧ b ≤ (s.size : Int))) (.sc (.string (s.extract a.toNat b.toNat)))
      | _, _ => .no
    | _, _ => .no
  | .call c => match c.callee with
    | .builtin .len => match (c.args[0]?).map ρ, (c.argTypes[0]?).bind P.underlying with
      | some (.row ty l), some (.slice _) => .ok (I .i64 l.length)
      | some (.sc (.string s)), some .string => .ok (I .i64 s.size)
      | some (.sc (.slice none 0 0)), some (.slice _) => .ok (I .i64 0)
      | _, _ => .no
    | .builtin .min => match c.args.toList.map ρ with
      | [.sc (.int k x), .sc (.int k' y)] => .ok (I k (if y < x then y else x))
      | _ => .no
    | .builtin .max => match c.args.toList.map ρ with
      | [.sc (.int k x), .sc (.int k' y)] => .ok (I k (if y > x then y else x))
      | _ => .no
    | _ => .no
  | _ => .no

section
variable {P : Program} {μ : Nat → Value} {S : Nat → Prop} {w : World}

theorem toPtr_ok {off : Nat} {a b : AV} {u : Value} (h : toPtr off a = some b) (hu : VOK μ S w a u) : ∃ bl o, u = .pointer (some ⟨bl, o, none⟩) ∧ VOK μ S w b (.pointer (some ⟨bl, o + off, none⟩)) := by
  unfold toPtr at h
  split at h
  · cases h
    obtain ⟨bl, h1, h2⟩ := hu
    exact ⟨bl, _, h2, bl, h1, rfl⟩
  · cases h
    obtain ⟨bl, o, cs, h1, h2⟩ := hu
    exact ⟨bl, _, h1, bl, o, cs, by rw [Nat.add_assoc], h2⟩
  · cases h
    obtain ⟨bl, n, c, h1, h2⟩ := hu
    exact ⟨bl, _, h2, bl, n, c, h1, by rw [Nat.add_assoc]⟩
  · cases h

theorem isPtr_ok {a : AV} {u : Value} (h : isPtr a = true) (hu : VOK μ S w a u) : ∃ ad, u = .pointer (some ad) := by
  cases a <;> simp [isPtr] at h
  · obtain ⟨bl, h1, h2⟩ := hu; exact ⟨_, h2⟩
  · obtain ⟨bl, o, cs, h1, h2⟩ := hu; exact ⟨_, h1⟩
  · obtain ⟨bl, n, c, h1, h2⟩ := hu; exact ⟨_, h2⟩

theorem intBin_ok {op : BinOp} {t : TypeId} {k : IntKind} {a b : Int} (h1 : op ≠ .shl) (h2 : op ≠ .shr) : (intBin op k a b).sat fun av => ∃ v, (binOp op t (.int k a) (.int k b)).run P w = .ok v w ∧ VOK μ S w av v := by
  cases op <;> first
    | exact absurd rfl h1
    | exact absurd rfl h2
    | (refine ⟨_, ?_, rfl⟩; simp [binOp, Op.intArith, Op.intBits, Op.intCmp, go_sem]; done)
    | (intro hc; refine ⟨_, ?_, rfl⟩; simp at hc; simp [binOp, Op.intDiv, hc, go_sem]; done)
    | trivial
theorem shiftBin_ok {op : BinOp} {t : TypeId} {k k' : IntKind} {a b : Int} : (shiftBin op k a b).sat fun av => ∃ v, (binOp op t (.int k a) (.int k' b)).run P w = .ok v w ∧ VOK μ S w av v := by
  cases op <;> first
    | trivial
    | (intro hc
       refine ⟨_, ?_, rfl⟩
       have hb : ¬ b < 0 := by simp at hc; omega
       simp [binOp, Op.shift, hb, go_sem]; done)
theorem strBin_ok {op : BinOp} {t : TypeId} {x y : ByteArray} : (strBin op x y).sat fun av => ∃ v, (binOp op t (.string x) (.string y)).run P w = .ok v w ∧ VOK μ S w av v := by
  cases op <;> first
    | trivial
    | (refine ⟨_, ?_, rfl⟩; simp [binOp, Op.stringOp, go_sem]; done)
    | (intro hc
       refine ⟨_, ?_, rfl⟩
       have hb : ¬ ((x.size + y.size : Nat) : Int) > IntKind.i64.max := by
         have e : IntKind.i64.max = 9223372036854775807 := by decide
         have := of_decide_eq_true hc
         rw [e]; omega
       simp only [binOp, Op.stringOp, if_neg hb]
       simp [go_sem]; done)

def Goes (P : Program) (ρ' : Operand → Value) (op : Op) (μ : Nat → Value) (S : Nat → Prop) (w : World) (av : AV) : Prop :=
  ∀ o : Oper, o.op = op → ∃ v, (execOp ρ' o).run P w = .ok (.value v) w ∧ VOK μ S w av v

theorem goes_of {ρ' : Operand → Value} {op : Op} {av : AV} {e : Sem Value} (he : ∀ o : Oper, o.op = op → execOp ρ' o = (do pure (.value (← e)))) (h : ∃ v, e.run P w = .ok v w ∧ VOK μ S w av v) : Goes P ρ' op μ S w av := by
  intro o ho
  obtain ⟨v, h1, h2⟩ := h
  exact ⟨v, by rw [he o ho]; simp [go_sem, h1], h2⟩

theorem PR.sat_mono {Q R : AV → Prop} (h : ∀ a, Q a → R a) : ∀ {r : PR}, r.sat Q → r.sat R
  | .no, _ => trivial
  | .ok a, k => h a k
  | .chk c a, k => fun hc => h a (k hc)

theorem guard_int {op : BinOp} {t : TypeId} {x y : Operand} {k k' : IntKind} {a b : Int} : (eqGuard op t x y (.int k a) (.int k' b)).run P w = .ok () w := by
  cases op <;> simp [eqGuard, go_sem]
theorem guard_str {op : BinOp} {t : TypeId} {x y : Operand} {a b : ByteArray} : (eqGuard op t x y (.string a) (.string b)).run P w = .ok () w := by
  cases op <;> simp [eqGuard, go_sem]
theorem guard_bool {op : BinOp} {t : TypeId} {x y : Operand} {a b : Bool} : (eqGuard op t x y (.bool a) (.bool b)).run P w = .ok () w := by
  cases op <;> simp [eqGuard, go_sem]
theorem guard_ptr {op : BinOp} {t : TypeId} {x y : Operand} {a b : Option Addr} : (eqGuard op t x y (.pointer a) (.pointer b)).run P w = .ok () w := by
  cases op <;> simp [eqGuard, go_sem]

theorem guard_sl {op : BinOp} {t : TypeId} {x y : Operand} {a b : Option Addr} {n c m d : Nat} : (eqGuard op t x y (.slice a n c) (.slice b m d)).run P w = .ok () w := by
  cases op <;> simp [eqGuard, go_sem]
theorem run_und {t : TypeId} {d : TypeDesc} (h : P.underlying t = some d) : (underlying t).run P w = .ok d w := by
  simp [underlying, go_sem, h]
theorem run_sz {t : TypeId} {n : Nat} (h : szT P t = some n) : (sizeOf t).run P w = .ok n w := by
  unfold szT at h
  obtain ⟨i, h1, h2⟩ := Option.map_eq_some_iff.1 h
  simp [sizeOf, typeInfo, go_sem, h1, h2]
theorem run_isAgg {t : TypeId} {d : TypeDesc} (h : P.underlying t = some d) : (isAgg t).run P w = .ok (isAggT P t) w := by
  unfold isAggT
  simp only [isAgg, Sem.run_bind, run_und h, Result.andThen_ok, h]
  cases d <;> simp [go_sem]

theorem equalIn_bool {t : TypeId} {a b : Bool} (h : P.underlying t = some .bool) (d : Nat) : (Op.equalIn (d + 1) t (.bool a) (.bool b)).run P w = .ok (a == b) w := by
  simp only [Op.equalIn, Sem.run_bind, run_und h, Result.andThen_ok]
  simp [go_sem]
theorem equalIn_nil {t e : TypeId} {b : Option Addr} (h : P.underlying t = some (.pointer e)) (d : Nat) : (Op.equalIn (d + 1) t (.pointer none) (.pointer b)).run P w = .ok b.isNone w := by
  simp only [Op.equalIn, Sem.run_bind, run_und h, Result.andThen_ok]
  simp [go_sem]
theorem equalIn_ptr {t e : TypeId} {a : Addr} (h : P.underlying t = some (.pointer e)) (d : Nat) : (Op.equalIn (d + 1) t (.pointer (some a)) (.pointer none)).run P w = .ok false w := by
  simp only [Op.equalIn, Sem.run_bind, run_und h, Result.andThen_ok]
  simp [go_sem]
theorem equalIn_sl0 {t e : TypeId} {b : Option Addr} {n c m d : Nat} (h : P.underlying t = some (.slice e)) (k : Nat) : (Op.equalIn (k + 1) t (.slice none n c) (.slice b m d)).run P w = .ok b.isNone w := by
  simp only [Op.equalIn, Sem.run_bind, run_und h, Result.andThen_ok]
  simp [go_sem]
theorem equalIn_sl1 {t e : TypeId} {a : Option Addr} {n c m d : Nat} (h : P.underlying t = some (.slice e)) (k : Nat) : (Op.equalIn (k + 1) t (.slice a n c) (.slice none m d)).run P w = .ok a.isNone w := by
  cases a with
  | none => exact equalIn_sl0 h k
  | some a =>
    simp only [Op.equalIn, Sem.run_bind, run_und h, Result.andThen_ok]
    simp [go_sem]
theorem equal_of {t : TypeId} {x y : Value} {r : Bool} (h : ∀ d, (Op.equalIn (d + 1) t x y).run P w = .ok r w) : (Op.equal t x y).run P w = .ok r w := h 9999

end
end Go.Proofs.YtgkmfhmodojdcaaE

namespace Go.Proofs.YtgkmfhmodojdcaaE
open Go
set_option linter.unusedVariables false
section
variable {P : Program} {μ : Nat → Value} {S : Nat → Prop} {w : World}

theorem VsOK.drop {l : List AV} {us : List Value} (n : Nat) : VsOK μ S w l us → VsOK μ S w (l.drop n) (us.drop n) := by
  induction n generalizing l us with
  | zero => exact fun h => h
  | succ n ih =>
    cases l with
    | nil => intro h; rw [VsOK] at h; rw [h]; exact rfl
    | cons a l =>
      rintro ⟨u, us', rfl, _, h3⟩
      exact ih h3
theorem VsOK.take {l : List AV} {us : List Value} (n : Nat) : VsOK μ S w l us → VsOK μ S w (l.take n) (us.take n) := by
  induction n generalizing l us with
  | zero => intro h; exact rfl
  | succ n ih =>
    cases l with
    | nil => intro h; rw [VsOK] at h; rw [h]; exact rfl
    | cons a l =>
      rintro ⟨u, us', rfl, h2, h3⟩
      exact ⟨u, us'.take n, rfl, h2, ih h3⟩

theorem part_ok {t : TypeId} {l : List AV} {us : List Value} {off : Nat} (h : VsOK μ S w l us) : (partAV P t l off).sat fun av => ∃ v, (part t us.toArray off).run P w = .ok v w ∧ VOK μ S w av v := by
  unfold partAV
  split
  · rename_i d n hu hn
    split
    · rename_i ha
      refine ⟨.agg ((us.drop off).take n).toArray, ?_, _, rfl, VsOK.take n (VsOK.drop off h)⟩
      simp only [part, Sem.run_bind, run_isAgg hu, ha, Result.andThen_ok, if_true, run_sz hn, Sem.run_pure]
      congr 2
      apply Array.toList_inj.1
      simp [Array.toList_extract, List.extract_eq_take_drop]
    · rename_i ha
      split
      · rename_i a hl
        obtain ⟨u, hu', hv⟩ := VsOK.get h hl
        refine ⟨u, ?_, hv⟩
        have ha' : isAggT P t = false := by simpa using ha
        simp [part, go_sem, run_isAgg hu, ha', hu']
      · trivial
  · trivial

theorem aggPart_ok {t : TypeId} {l : List AV} {us : List Value} {off : Nat} {a : AV} (h : VsOK μ S w l us) (ha : aggPart P t l off = some a) : ∃ v, (part t us.toArray off).run P w = .ok v w ∧ VOK μ S w a v := by
  have hp := part_ok (P := P) (t := t) (off := off) h
  unfold aggPart at ha
  unfold partAV at hp
  split at ha
  · rename_i d n hu hn
    simp only [hu, hn] at hp
    split at ha
    · rename_i hag
      rw [if_pos hag] at hp
      cases ha
      exact hp
    · rename_i hag
      rw [if_neg hag, ha] at hp
      exact hp
  · cases ha

theorem eqFs_ok {eq : TypeId → AV → AV → Option Bool} {d : Nat} (heq : ∀ {t : TypeId} {a b : AV} {u v : Value} {r : Bool}, eq t a b = some r → VOK μ S w a u → VOK μ S w b v → (Op.equalIn d t u v).run P w = .ok r w) {l m : List AV} {xs ys : List Value} (hl : VsOK μ S w l xs) (hm : VsOK μ S w m ys) :
    ∀ {fs : List Field} {r : Bool}, eqFs P eq fs l m = some r → (Op.eqFields d xs.toArray ys.toArray fs).run P w = .ok r w
  | [], r, h => by
    cases h
    simp [Op.eqFields]
  | f :: fs, r, h => by
    unfold eqFs at h
    split at h
    · rename_i hn
      have hn' : ¬ (f.name ≠ "_") := by simpa using hn
      rw [Op.eqFields, if_neg hn']
      exact eqFs_ok heq hl hm h
    · rename_i hn
      have hn' : f.name ≠ "_" := by simpa using hn
      split at h
      · rename_i a b ha hb
        obtain ⟨u, hu, hva⟩ := aggPart_ok hl ha
        obtain ⟨v, hv, hvb⟩ := aggPart_ok hm hb
        split at h
        · have he := heq h hva hvb
          simp only [Op.eqFields, if_pos hn', Sem.run_bind, hu, hv, he, Result.andThen_ok]
          cases r <;> simp
        · rename_i g gs
          obtain ⟨r1, h1, h⟩ := Option.bind_eq_some_iff.1 h
          obtain ⟨s, h2, h⟩ := Option.bind_eq_some_iff.1 h
          cases h
          have he := heq h1 hva hvb
          have hr := eqFs_ok heq hl hm h2
          rw [Op.eqFields]
          simp only [if_pos hn', Sem.run_bind, hu, hv, he, Result.andThen_ok]
          cases r1
          · simp
          · simpa using hr
      · cases h
theorem eqAV_ok {m : Nat} : ∀ {n : Nat} {t : TypeId} {a b : AV} {u v : Value} {r : Bool}, eqAV P n t a b = some r → VOK μ S w a u → VOK μ S w b v → (Op.equalIn (n + m) t u v).run P w = .ok r w
  | 0, t, a, b, u, v, r, h, _, _ => by cases h
  | n + 1, t, a, b, u, v, r, h, hu, hv => by
    have e : n + 1 + m = (n + m) + 1 := by omega
    rw [e]
    unfold eqAV at h
    split at h
    · rename_i k0 ht
      split at h
      · rename_i k x k' y
        split at h
        · rename_i hk
          subst hk
          cases h
          rw [VOK] at hu hv
          rw [hu, hv]
          exact run_equalIn_int w _ t _ _ _ _ ht
        · cases h
      · cases h
    · rename_i ht
      split at h
      · cases h
        rw [VOK] at hu hv
        rw [hu, hv]
        exact equalIn_bool ht _
      · cases h
    · rename_i ht
      split at h
      · cases h
        rw [VOK] at hu hv
        rw [hu, hv]
        exact run_equalIn_string w _ t _ _ ht
      · cases h
    · rename_i fs ht
      split at h
      · rename_i l1 l2
        split at h
        · rename_i hp
          obtain ⟨xs, rfl, hx⟩ := hu
          obtain ⟨ys, rfl, hy⟩ := hv
          have hf : P.fieldsOf t = fs := by simp [Program.fieldsOf, ht]
          rw [run_equalIn_struct (P := P) w _ t xs.toArray ys.toArray (by rw [hf]; exact ht) hp, hf]
          exact eqFs_ok (fun h1 h2 h3 => eqAV_ok h1 h2 h3) hx hy h
        · cases h
      · cases h
    · cases h

theorem bin_ok {ρ' : Operand → Value} {op : BinOp} {t t' : TypeId} {x y : Operand} {a b : AV} (hx : VOK μ S w a (ρ' x)) (hy : VOK μ S w b (ρ' y)) : (binPR P op t a b).sat (Goes P ρ' (.binOp op t x y t') μ S w) := by
  have he : ∀ o : Oper, o.op = .binOp op t x y t' → execOp ρ' o = (do pure (.value (← (do eqGuard op t x y (ρ' x) (ρ' y); binOp op t (ρ' x) (ρ' y))))) := by
    intro o ho; simp only [execOp, ho]
  unfold binPR
  split
  · rename_i k a k' b
    rw [VOK] at hx hy
    have main : ∀ {r : PR}, (r.sat fun av => ∃ v, (binOp op t (.int k a) (.int k' b)).run P w = .ok v w ∧ VOK μ S w av v) → r.sat (Goes P ρ' (.binOp op t x y t') μ S w) := by
      intro r hr
      refine PR.sat_mono (fun av h => ?_) hr
      obtain ⟨v, h1, h2⟩ := h
      exact goes_of he ⟨v, by rw [hx, hy]; simp [go_sem, guard_int, h1], h2⟩
    split
    · exact main shiftBin_ok
    · exact main shiftBin_ok
    · rename_i h1 h2
      split
      · rename_i e; subst e; exact main (intBin_ok h1 h2)
      · trivial
  · rw [VOK] at hx hy
    refine PR.sat_mono (fun av h => ?_) (strBin_ok (t := t) (P := P) (μ := μ) (S := S) (w := w))
    obtain ⟨v, h1, h2⟩ := h
    exact goes_of he ⟨v, by rw [hx, hy]; simp [go_sem, guard_str, h1], h2⟩
  · rw [VOK] at hx hy
    split
    · rename_i hu
      exact goes_of he ⟨_, by rw [hx, hy]; simp [go_sem, guard_bool, binOp, equal_of (equalIn_bool hu)], rfl⟩
    · rename_i hu
      exact goes_of he ⟨_, by rw [hx, hy]; simp [go_sem, guard_bool, binOp, equal_of (equalIn_bool hu)], rfl⟩
    · trivial
  · rename_i l m
    obtain ⟨xs, hx1, hx2⟩ := id hx
    obtain ⟨ys, hy1, hy2⟩ := id hy
    split
    · rename_i hg
      split
      · rename_i r hr
        have hq := eqAV_ok (w := w) (m := 9980) hr hx hy
        rw [hx1, hy1] at hq
        refine goes_of he ⟨.bool r, ?_, rfl⟩
        rw [hx1, hy1]
        simp only [Sem.run_bind, run_eqGuard_agg w .eql t x y _ _ hg, Result.andThen_ok, run_eql_struct]
        rw [hq]
        rfl
      · trivial
    · rename_i hg
      split
      · rename_i r hr
        have hq := eqAV_ok (w := w) (m := 9980) hr hx hy
        rw [hx1, hy1] at hq
        refine goes_of he ⟨.bool (!r), ?_, rfl⟩
        rw [hx1, hy1]
        simp only [Sem.run_bind, run_eqGuard_agg w .neq t x y _ _ hg, Result.andThen_ok, run_neq_struct]
        rw [hq]
        rfl
      · trivial
    · trivial
  · rw [VOK] at hx hy
    split
    · rename_i hu
      exact goes_of he ⟨_, by rw [hx, hy]; simp [go_sem, guard_sl, binOp, equal_of (equalIn_sl0 hu)], rfl⟩
    · rename_i hu
      exact goes_of he ⟨_, by rw [hx, hy]; simp [go_sem, guard_sl, binOp, equal_of (equalIn_sl0 hu)], rfl⟩
    · trivial
  · rw [VOK] at hx hy
    split
    · rename_i hu
      exact goes_of he ⟨_, by rw [hx, hy]; simp [go_sem, guard_ptr, binOp, equal_of (equalIn_nil hu)], rfl⟩
    · rename_i hu
      exact goes_of he ⟨_, by rw [hx, hy]; simp [go_sem, guard_ptr, binOp, equal_of (equalIn_nil hu)], rfl⟩
    · trivial
  · rw [VOK] at hy
    split
    · rename_i hu hp
      obtain ⟨ad, had⟩ := isPtr_ok hp hx
      exact goes_of he ⟨_, by rw [had, hy]; simp [go_sem, guard_ptr, binOp, equal_of (equalIn_ptr hu)], rfl⟩
    · rename_i hu hp
      obtain ⟨ad, had⟩ := isPtr_ok hp hx
      exact goes_of he ⟨_, by rw [had, hy]; simp [go_sem, guard_ptr, binOp, equal_of (equalIn_ptr hu)], rfl⟩
    · trivial
  · trivial
theorem map_ok {ρ : Operand → AV} {ρ' : Operand → Value} (hρ : ∀ x, VOK μ S w (ρ x) (ρ' x)) : ∀ l : List Operand, VsOK μ S w (l.map ρ) (l.map ρ')
  | [] => rfl
  | x :: l => ⟨_, _, rfl, hρ x, map_ok hρ l⟩

theorem goes_val {ρ' : Operand → Value} {op : Op} {av : AV} {v : Value} (he : ∀ o : Oper, o.op = op → execOp ρ' o = pure (.value v)) (h : VOK μ S w av v) : Goes P ρ' op μ S w av := by
  intro o ho
  exact ⟨v, by rw [he o ho]; simp [go_sem], h⟩

theorem add_none (b o n : Nat) : (⟨b, o, none⟩ : Addr).add n = ⟨b, o + n, none⟩ := by
  unfold Addr.add
  split
  · rename_i h; subst h; rfl
  · rfl

theorem extract_row {ty : Ty} {l : List (El ty)} {u : Value} (h : VOK μ S w (.row ty l) u) (a b : Nat) (hab : a ≤ b) (hb : b ≤ l.length) :
    ∃ A c, u = .slice A l.length c ∧ l.length ≤ c ∧ VOK μ S w (.row ty ((l.take b).drop a)) (.slice (if c = a then A else A.map (·.add (a * sz ty))) (b - a) (c - a)) := by
  obtain ⟨A, c, h1, h2, h3, h4⟩ := h
  simp only [List.cons.injEq, and_true] at h1
  have hl : ((l.take b).drop a).length = b - a := by simp only [List.length_drop, List.length_take]; omega
  refine ⟨A, c, h1, h2, (if c = a then A else A.map (·.add (a * sz ty))), c - a, by rw [hl], by rw [hl]; omega, by omega, ?_⟩
  intro i x hx
  have hi : i < b - a := by rw [← hl]; exact (List.getElem?_eq_some_iff.1 hx).1
  have hx' : l[a + i]? = some x := by
    rw [List.getElem?_drop, List.getElem?_take_of_lt (by omega)] at hx
    exact hx
  obtain ⟨bl, o, cs, h5, h6, h7, h8, h9⟩ := h4 (a + i) x hx'
  refine ⟨bl, o + a * sz ty, cs, ?_, h6, h7, h8, ?_⟩
  · rw [if_neg (by omega), h5]
    simp only [Option.map_some, add_none]
  · have e : o + a * sz ty + i * sz ty = o + (a + i) * sz ty := by rw [Nat.add_mul]; omega
    rw [e]
    exact h9

theorem bound_ok {k : IntKind} {n : Int} {y : Nat} {code : BoundsCode} (h0 : 0 ≤ n) (h1 : n ≤ y) : (Instr.sliceBound (.int k n) y code).run P w = .ok n.toNat w := by
  simp [Instr.sliceBound, asIntOf, go_sem, h0, h1]

theorem bounds_ok {isSlice : Bool} {len cap : Nat} {lo hi : Option Value} {a b : Int} {ka kb : IntKind} (hlo : lo = none ∧ a = 0 ∨ lo = some (.int ka a)) (hhi : hi = none ∧ b = len ∨ hi = some (.int kb b)) (h0 : 0 ≤ a) (h1 : a ≤ b) (h2 : b ≤ len) (h3 : len ≤ cap) :
    (Instr.sliceBounds isSlice len cap lo hi none).run P w = .ok (a.toNat, b.toNat, cap) w := by
  have hb : b.toNat ≤ cap := by omega
  rcases hhi with ⟨rfl, rfl⟩ | rfl
  · rcases hlo with ⟨rfl, rfl⟩ | rfl
    · simp [Instr.sliceBounds, go_sem]
    · simp only [Instr.sliceBounds, Sem.run_bind, Sem.run_pure, Result.andThen_ok]
      rw [bound_ok h0 (by omega)]
      simp [go_sem]
  · rcases hlo with ⟨rfl, rfl⟩ | rfl
    · simp only [Instr.sliceBounds, Sem.run_bind, Sem.run_pure, Result.andThen_ok]
      rw [bound_ok (by omega) (by omega)]
      simp [go_sem]
    · simp only [Instr.sliceBounds, Sem.run_bind, Sem.run_pure, Result.andThen_ok]
      rw [bound_ok (by omega) (by omega)]
      simp only [Result.andThen_ok]
      rw [bound_ok h0 (by omega)]
      simp [go_sem]

theorem opt_ok {ρ : Operand → AV} {ρ' : Operand → Value} (hρ : ∀ x, VOK μ S w (ρ x) (ρ' x)) {lo : Option Operand} {k k' : IntKind} {a d : Int} (h : (lo.map ρ).getD (.sc (.int k d)) = .sc (.int k' a)) : lo.map ρ' = none ∧ a = d ∨ lo.map ρ' = some (.int k' a) := by
  cases lo with
  | none =>
    simp only [Option.map_none, Option.getD_none, AV.sc.injEq, Value.int.injEq] at h
    exact .inl ⟨rfl, h.2.symm⟩
  | some x =>
    simp only [Option.map_some, Option.getD_some] at h
    have := hρ x
    rw [h, VOK] at this
    exact .inr (by rw [Option.map_some, this])
end
end Go.Proofs.YtgkmfhmodojdcaaE

namespace Go.Proofs.YtgkmfhmodojdcaaE
open Go
set_option linter.unusedVariables false
section
variable {P : Program} {μ : Nat → Value} {S : Nat → Prop} {w : World}

theorem index_agg_ok {t e : TypeId} {len : Nat} {us : List Value} {k : IntKind} {n : Int} {s : Nat} {v : Value} {w' : World} (hu : P.underlying t = some (.array len e)) (hs : szT P e = some s) (h0 : 0 ≤ n) (h1 : n < len) (hp : (part e us.toArray (n.toNat * s)).run P w = .ok v w') :
    (Instr.index t (.agg us.toArray) (.int k n)).run P w = .ok v w' := by
  simp only [Instr.index, asIntOf, Sem.run_bind, Sem.run_pure, Result.andThen_ok, run_und hu, h0, h1, and_self, if_true, run_sz hs, hp]

theorem index_str_ok {t : TypeId} {s : ByteArray} {k : IntKind} {n : Int} (hu : P.underlying t = some .string) (h0 : 0 ≤ n) (h1 : n < s.size) :
    (Instr.index t (.string s) (.int k n)).run P w = .ok (.int .u8 (s.data.getD n.toNat 0).toNat) w := by
  have hlt : n.toNat < s.size := by omega
  have e : s[n.toNat]? = some s[n.toNat] := by simp [hlt]
  simp only [Instr.index, asIntOf, Sem.run_bind, Sem.run_pure, Result.andThen_ok, run_und hu, h0, if_true, e]
  have e2 : s.data.getD n.toNat 0 = s[n.toNat] := by
    rw [Array.getD_eq_getD_getElem?, Array.getElem?_eq_getElem (by simpa using hlt)]
    rfl
  rw [e2]

theorem field_ok {s : TypeId} {fs : Array Field} {f : Nat} {fd : Field} {n bl o : Nat} (hu : P.underlying s = some (.struct fs)) (hf : fs[f]? = some fd) (hn : szT P fd.type = some (n + 1)) :
    (Instr.fieldAt s (.pointer (some ⟨bl, o, none⟩)) f).run P w = .ok (.pointer (some ⟨bl, o + fd.offset, none⟩)) w := by
  simp [Instr.fieldAt, run_und hu, go_sem, hf, Instr.sureAddr, fieldPlace, run_sz hn, add_none]

theorem indexAt_row_ok {t e : TypeId} {l c : Nat} {bl o : Nat} {k : IntKind} {n : Int} {s : Nat} (hu : P.underlying t = some (.slice e)) (hs : szT P e = some s) (h0 : 0 ≤ n) (h1 : n < l) :
    (Instr.indexAt t (.slice (some ⟨bl, o, none⟩) l c) (.int k n)).run P w = .ok (.pointer (some ⟨bl, o + n.toNat * s, none⟩)) w := by
  simp [Instr.indexAt, asIntOf, run_und hu, go_sem, h0, h1, run_sz hs, add_none]

theorem indexAt_arr_ok {t e : TypeId} {len : Nat} {bl o : Nat} {k : IntKind} {n : Int} {s : Nat} (hu : P.underlying t = some (.array len e)) (hs : szT P e = some s) (h0 : 0 ≤ n) (h1 : n < len) :
    (Instr.indexAt t (.pointer (some ⟨bl, o, none⟩)) (.int k n)).run P w = .ok (.pointer (some ⟨bl, o + n.toNat * s, none⟩)) w := by
  simp [Instr.indexAt, asIntOf, run_und hu, go_sem, h0, h1, run_sz hs, add_none, Instr.sureAddr]

theorem conv_loop {f : Value → ByteArray → Sem (ForInStep ByteArray)} (hf : ∀ n r, f (.int .u8 n) r = pure (.yield (r.push (UInt8.ofNat n.toNat)))) : ∀ (l : List Int) (s : ByteArray), Sem.run P (forIn (l.map (Value.int .u8)) s f) w = .ok (bytesStr s l) w
  | [], s => by simp [bytesStr, go_sem]
  | n :: l, s => by
    simp only [List.map_cons, List.forIn_cons, hf, Sem.run_bind, Sem.run_pure, Result.andThen_ok]
    exact conv_loop hf l _
theorem bytesToString_run {S : Nat → Prop} {l : List Int} {u : Value} (h : Rd S w (.sl (.int .u8)) l [u]) : (Conv.bytesToString u).run P w = .ok (.string (bytesStr .empty l)) w := by
  obtain ⟨A, c, h1, h2, h3, h4⟩ := h
  cases h1
  cases A with
  | none =>
    cases l with
    | nil => simp [Conv.bytesToString, go_sem, bytesStr]
    | cons x l =>
      obtain ⟨b, o, cs, h5, _⟩ := h4 0 x rfl
      cases h5
  | some a =>
    have hl := run_loadCells_list (P := P) (w := w) a (l.map (Value.int .u8)) (by
      intro j v hv
      rw [List.getElem?_map] at hv
      obtain ⟨x, hx, rfl⟩ := Option.map_eq_some_iff.1 hv
      obtain ⟨b, o, cs, h5, _, _, h6, h7⟩ := h4 j x hx
      cases h5
      have h8 := h7 0 (.int .u8 x) (by rw [h6]; rfl)
      rcases j with _ | j <;> simpa [sz, Addr.add] using h8)
    rw [List.length_map] at hl
    simp only [Conv.bytesToString, Sem.run_bind, hl, Result.andThen_ok, List.forIn_toArray]
    rw [conv_loop (fun n r => rfl) l .empty]
    rfl
theorem convert_bytes {S : Nat → Prop} {src dst e : TypeId} {l : List Int} {u : Value} (h1 : P.underlying src = some (.slice e)) (h2 : P.underlying dst = some .string) (h3 : P.underlying e = some (.int .u8)) (h : Rd S w (.sl (.int .u8)) l [u]) : (convert src dst u).run P w = .ok (.string (bytesStr .empty l)) w := by
  have h4 := bytesToString_run (P := P) h
  obtain ⟨A, c, h5, _⟩ := h
  cases h5
  simp only [convert, run_und h1, run_und h2, run_und h3, Sem.run_bind, Result.andThen_ok]
  exact h4
theorem convert_int {src dst : TypeId} {k k' : IntKind} {n : Int} {d : TypeDesc} (h1 : P.underlying src = some d) (h2 : P.underlying dst = some (.int k')) : (convert src dst (.int k n)).run P w = .ok (.int k' (k'.wrap n)) w := by
  simp [convert, run_und h1, run_und h2, go_sem, Conv.intToInt]
theorem convert_str {src dst : TypeId} {s : ByteArray} (h1 : P.underlying src = some .string) (h2 : P.underlying dst = some .string) : (convert src dst (.string s)).run P w = .ok (.string s) w := by
  simp [convert, run_und h1, run_und h2, go_sem]

theorem slice_row_ok {t e : TypeId} {A : Option Addr} {len cap : Nat} {lo hi : Option Value} {a b : Int} {ka kb : IntKind} {s : Nat} (hu : P.underlying t = some (.slice e)) (hs : szT P e = some s) (hlo : lo = none ∧ a = 0 ∨ lo = some (.int ka a)) (hhi : hi = none ∧ b = len ∨ hi = some (.int kb b)) (h0 : 0 ≤ a) (h1 : a ≤ b) (h2 : b ≤ len) (h3 : len ≤ cap) :
    (Instr.sliceAt t (.slice A len cap) lo hi none).run P w = .ok (.slice (if cap = a.toNat then A else A.map (·.add (a.toNat * s))) (b.toNat - a.toNat) (cap - a.toNat)) w := by
  simp only [Instr.sliceAt, Instr.slice, Sem.run_bind, run_und hu, Result.andThen_ok, bounds_ok (P := P) (w := w) (isSlice := true) hlo hhi h0 h1 h2 h3, run_sz hs, Sem.run_pure]

theorem slice_str_ok {t : TypeId} {s : ByteArray} {lo hi : Option Value} {a b : Int} {ka kb : IntKind} (hu : P.underlying t = some .string) (hlo : lo = none ∧ a = 0 ∨ lo = some (.int ka a)) (hhi : hi = none ∧ b = s.size ∨ hi = some (.int kb b)) (h0 : 0 ≤ a) (h1 : a ≤ b) (h2 : b ≤ s.size) :
    (Instr.sliceAt t (.string s) lo hi none).run P w = .ok (.string (s.extract a.toNat b.toNat)) w := by
  simp only [Instr.sliceAt, Instr.slice, Sem.run_bind, run_und hu, Result.andThen_ok, Option.isSome_none, Bool.false_eq_true, if_false, bounds_ok (P := P) (w := w) (isSlice := false) hlo hhi h0 h1 h2 (Nat.le_refl _), Sem.run_pure]

theorem len_ok {c : Call} {t : TypeId} {x : Operand} {v : Value} {ρ' : Operand → Value} {ty : TypeId} {w' : World} (hc : c.callee = .builtin .len) (hx : c.args[0]? = some x) (ht : c.argTypes[0]? = some t)
    (h : (Builtin.len_ c.argTypes ty (c.args.map ρ')).run P w = .ok v w') : (do let d ← resolve ρ' c ty; invoke d.target d.args : Sem Next).run P w = .ok (.value v) w' := by
  simp only [resolve, hc, Sem.run_bind, Sem.run_pure, Result.andThen_ok, invoke, builtin, h]

theorem VsOK.one {a : AV} {us : List Value} (h : VsOK μ S w [a] us) : ∃ u, us = [u] ∧ VOK μ S w a u := by
  obtain ⟨u, us', rfl, h1, h2⟩ := h
  rw [VsOK] at h2
  exact ⟨u, by rw [h2], h1⟩

theorem goes_e {ρ' : Operand → Value} {op : Op} {av : AV} {v : Value} (hv : VOK μ S w av v) (h : ∀ o : Oper, o.op = op → (execOp ρ' o).run P w = .ok (.value v) w) : Goes P ρ' op μ S w av :=
  fun o ho => ⟨v, h o ho, hv⟩
theorem run_val {e : Sem Value} {v : Value} {w' : World} (h : e.run P w = .ok v w') : (do pure (.value (← e)) : Sem Next).run P w = .ok (.value v) w' := by
  simp only [Sem.run_bind, h, Result.andThen_ok, Sem.run_pure]

theorem pureOp_ok {op : Op} {ρ : Operand → AV} {ρ' : Operand → Value} (hρ : ∀ x, VOK μ S w (ρ x) (ρ' x)) : (pureOp P op ρ).sat (Goes P ρ' op μ S w) := by
  unfold pureOp
  split
  · rename_i x
    exact goes_val (fun o ho => by simp only [execOp, ho]) (hρ x)
  · rename_i x
    exact goes_val (fun o ho => by simp only [execOp, ho]) (hρ x)
  · rename_i c a b
    split
    · rename_i cb hc
      have h1 := hρ c
      rw [hc, VOK] at h1
      have main : ∀ {av : AV}, VOK μ S w av (if cb = true then ρ' a else ρ' b) → Goes P ρ' (.pick c a b) μ S w av := by
        intro av hv
        refine goes_val (v := if cb = true then ρ' a else ρ' b) (fun o ho => ?_) hv
        simp only [execOp, ho, h1, asBool]
        rfl
      split
      · rename_i x y hx hy
        have h2 := hρ a
        have h3 := hρ b
        rw [hx, VOK] at h2
        rw [hy, VOK] at h3
        refine main ?_
        cases cb <;> simp [h2, h3, B, VOK]
      · rename_i hx
        refine main ?_
        cases cb <;> simp [pickAV, hρ]
    · trivial
  · rename_i op t x y t'
    exact bin_ok (hρ x) (hρ y)
  · rename_i t x
    split
    · rename_i b hx
      have h1 := hρ x
      rw [hx, VOK] at h1
      exact goes_e rfl (fun o ho => by simp only [execOp, ho]; refine run_val ?_; rw [h1]; simp [Op.unary, go_sem])
    · trivial
  · rename_i t x
    split
    · rename_i k n hx
      have h1 := hρ x
      rw [hx, VOK] at h1
      exact goes_e rfl (fun o ho => by simp only [execOp, ho]; refine run_val ?_; rw [h1]; simp only [Op.unary, Op.intArith, Sem.run_pure])
    · trivial
  · rename_i t x
    split
    · rename_i k n hx
      have h1 := hρ x
      rw [hx, VOK] at h1
      exact goes_e rfl (fun o ho => by simp only [execOp, ho]; refine run_val ?_; rw [h1]; simp only [Op.unary, Op.intBits, Sem.run_pure])
    · trivial
  · rename_i src dst x
    split
    · rename_i k n d k' hx h2 h3
      have h1 := hρ x
      rw [hx, VOK] at h1
      exact goes_e rfl (fun o ho => by simp only [execOp, ho]; refine run_val ?_; rw [h1]; exact convert_int h2 h3)
    · rename_i s hx h2 h3
      have h1 := hρ x
      rw [hx, VOK] at h1
      exact goes_e rfl (fun o ho => by simp only [execOp, ho]; refine run_val ?_; rw [h1]; exact convert_str h2 h3)
    · rename_i t l e hx h2 h3
      split
      · rename_i bs h4 h5
        have h1 := hρ x
        rw [hx, VOK] at h1
        unfold u8L at h5
        split at h5
        · cases h5
          exact goes_e rfl (fun o ho => by simp only [execOp, ho]; refine run_val ?_; exact convert_bytes h2 h3 h4 h1)
        · cases h5
      · trivial
    · trivial
  · rename_i f first caps
    split
    · rename_i hf
      have hfe : first = #[] := Array.eq_empty_of_size_eq_zero hf
      refine goes_e (v := .func (.func f) #[] (caps.map ρ')) ⟨caps.toList.map ρ', by rw [← Array.toList_map], map_ok hρ _⟩ (fun o ho => ?_)
      simp only [execOp, ho]
      refine run_val ?_
      simp [Instr.makeFunc, hfe, go_sem]
    · trivial
  · rename_i t ix
    split
    · rename_i l ht
      split
      · rename_i a hl
        have h1 := hρ t
        rw [ht] at h1
        obtain ⟨us, hu, hvs⟩ := h1
        obtain ⟨u, hu', hv⟩ := VsOK.get hvs hl
        exact goes_e hv (fun o ho => by simp only [execOp, ho]; refine run_val ?_; rw [hu]; simp [Instr.extract, hu', go_sem])
      · trivial
    · trivial
  · rename_i t x f
    split
    · rename_i l fs hx hu
      split
      · rename_i fd hf
        have h1 := hρ x
        rw [hx] at h1
        obtain ⟨us, hus, hvs⟩ := h1
        refine PR.sat_mono (fun av h => ?_) (part_ok (P := P) (t := fd.type) (off := fd.offset) hvs)
        obtain ⟨v, h2, h3⟩ := h
        refine goes_e h3 (fun o ho => ?_)
        simp only [execOp, ho]
        refine run_val ?_
        rw [hus]
        simp only [Instr.field, Sem.run_bind, run_und hu, Result.andThen_ok, hf, asAgg, Sem.run_pure, h2]
      · trivial
    · trivial
  · rename_i t x i
    split
    · rename_i l k n len e hx hi hu
      split
      · rename_i s d hs hd
        split
        · rename_i a hp
          have h1 := hρ x
          have h2 := hρ i
          rw [hx] at h1
          rw [hi, VOK] at h2
          obtain ⟨us, hus, hvs⟩ := h1
          have h3 := part_ok (P := P) (t := e) (off := n.toNat * s) hvs
          rw [hp] at h3
          obtain ⟨v, h4, h5⟩ := h3
          intro hc
          have hc' := of_decide_eq_true hc
          refine goes_e h5 (fun o ho => ?_)
          simp only [execOp, ho]
          refine run_val ?_
          rw [hus, h2]
          exact index_agg_ok hu hs hc'.1 hc'.2 h4
        · trivial
      · trivial
    · rename_i s k n hx hi hu
      have h1 := hρ x
      have h2 := hρ i
      rw [hx, VOK] at h1
      rw [hi, VOK] at h2
      intro hc
      have hc' := of_decide_eq_true hc
      refine goes_e rfl (fun o ho => ?_)
      simp only [execOp, ho]
      refine run_val ?_
      rw [h1, h2]
      exact index_str_ok hu hc'.1 hc'.2
    · trivial
  · rename_i s x f
    split
    · rename_i fs hu
      split
      · rename_i fd hf
        split
        · rename_i n a hn ha
          obtain ⟨bl, o, h1, h2⟩ := toPtr_ok ha (hρ x)
          refine goes_e h2 (fun o ho => ?_)
          simp only [execOp, ho]
          refine run_val ?_
          rw [h1]
          exact field_ok hu hf hn
        · trivial
      · trivial
    · trivial
  · rename_i t x i
    split
    · rename_i ty l k n e hx hi hu
      split
      · rename_i s hs
        split
        · rename_i he
          intro hc
          have hc' := of_decide_eq_true hc
          have h1 := hρ x
          have h2 := hρ i
          rw [hx] at h1
          rw [hi, VOK] at h2
          obtain ⟨A, c, h3, h4, h5, h6⟩ := h1
          simp only [List.cons.injEq, and_true] at h3
          have hlt : n.toNat < l.length := by omega
          have hg : l[n.toNat]? = some (l.getD n.toNat (zEl ty)) := by rw [List.getD_eq_getElem?_getD, List.getElem?_eq_getElem hlt]; rfl
          obtain ⟨bl, o, cs, h7, h8, h9, h10, h11⟩ := h6 n.toNat _ hg
          refine goes_e ⟨bl, o + n.toNat * sz ty, cs, rfl, h8, h9, h10, h11⟩ (fun o ho => ?_)
          simp only [execOp, ho]
          refine run_val ?_
          rw [h3, h2, h7, Nat.add_zero, ← he]
          exact indexAt_row_ok hu hs hc'.1 hc'.2
        · trivial
      · trivial
    · rename_i k n len e _ hi hu
      split
      · rename_i s b hs hb
        intro hc
        have hc' := of_decide_eq_true hc
        obtain ⟨bl, o, h1, h2⟩ := toPtr_ok hb (hρ x)
        have h3 := hρ i
        rw [hi, VOK] at h3
        refine goes_e h2 (fun o ho => ?_)
        simp only [execOp, ho]
        refine run_val ?_
        rw [h1, h3, hs]
        exact indexAt_arr_ok hu hs hc'.1 hc'.2
      · trivial
    · trivial
  · rename_i x
    split
    · rename_i id o hx
      have h1 := hρ x
      rw [hx] at h1
      have h1' := h1
      obtain ⟨bl, h2, h3⟩ := h1
      exact goes_val (fun o ho => by simp only [execOp, ho, h3]) (h3 ▸ h1')
    · rename_i t y o hx
      have h1 := hρ x
      rw [hx] at h1
      have h1' := h1
      obtain ⟨bl, o', cs, h2, h3⟩ := h1
      exact goes_val (fun o ho => by simp only [execOp, ho, h2]) (h2 ▸ h1')
    · rename_i id i s o hx
      have h1 := hρ x
      rw [hx] at h1
      have h1' := h1
      obtain ⟨bl, n, c, h2, h3⟩ := h1
      exact goes_val (fun o ho => by simp only [execOp, ho, h3]) (h3 ▸ h1')
    · rename_i f l hx
      have h1 := hρ x
      rw [hx] at h1
      have h1' := h1
      obtain ⟨us, h2, h3⟩ := h1
      exact goes_val (fun o ho => by simp only [execOp, ho, h2]) (h2 ▸ h1')
    · trivial
  · rename_i t x lo hi
    split
    · rename_i ty l e hx hu
      split
      · rename_i s ka a kb b hs hlo hhi
        split
        · rename_i he
          intro hc
          have hc' := of_decide_eq_true hc
          have h1 := hρ x
          rw [hx] at h1
          obtain ⟨A, c, h3, h4, h5⟩ := extract_row h1 a.toNat b.toNat (by omega) (by omega)
          refine goes_e h5 (fun o ho => ?_)
          simp only [execOp, ho]
          refine run_val ?_
          rw [h3, ← he]
          exact slice_row_ok hu hs (opt_ok hρ hlo) (opt_ok hρ hhi) hc'.1 hc'.2.1 hc'.2.2 h4
        · trivial
      · trivial
    · rename_i s hx hu
      split
      · rename_i ka a kb b hlo hhi
        intro hc
        have hc' := of_decide_eq_true hc
        have h1 := hρ x
        rw [hx, VOK] at h1
        refine goes_e rfl (fun o ho => ?_)
        simp only [execOp, ho]
        refine run_val ?_
        rw [h1]
        exact slice_str_ok hu (opt_ok hρ hlo) (opt_ok hρ hhi) hc'.1 hc'.2.1 hc'.2.2
      · trivial
    · trivial
  · rename_i c
    split
    · rename_i hcal
      split
      · rename_i ty l e hx ht
        obtain ⟨x, hx1, hx2⟩ := Option.map_eq_some_iff.1 hx
        obtain ⟨t, ht1, ht2⟩ := Option.bind_eq_some_iff.1 ht
        have h1 := hρ x
        rw [hx2] at h1
        obtain ⟨A, c', h3, h4, _⟩ := h1
        simp only [List.cons.injEq, and_true] at h3
        intro o ho
        refine ⟨.int .i64 l.length, ?_, rfl⟩
        simp only [execOp, ho]
        refine len_ok hcal hx1 ht1 ?_
        simp [Builtin.len_, ht1, hx1, run_und ht2, go_sem, h3, goInt]
      · rename_i s hx ht
        obtain ⟨x, hx1, hx2⟩ := Option.map_eq_some_iff.1 hx
        obtain ⟨t, ht1, ht2⟩ := Option.bind_eq_some_iff.1 ht
        have h1 := hρ x
        rw [hx2, VOK] at h1
        intro o ho
        refine ⟨.int .i64 s.size, ?_, rfl⟩
        simp only [execOp, ho]
        refine len_ok hcal hx1 ht1 ?_
        simp [Builtin.len_, ht1, hx1, run_und ht2, go_sem, h1, goInt]
      · rename_i e hx ht
        obtain ⟨x, hx1, hx2⟩ := Option.map_eq_some_iff.1 hx
        obtain ⟨t, ht1, ht2⟩ := Option.bind_eq_some_iff.1 ht
        have h1 := hρ x
        rw [hx2, VOK] at h1
        intro o ho
        refine ⟨.int .i64 0, ?_, rfl⟩
        simp only [execOp, ho]
        refine len_ok hcal hx1 ht1 ?_
        simp [Builtin.len_, ht1, hx1, run_und ht2, go_sem, h1, goInt]
      · trivial
    · rename_i hcal
      split
      · rename_i k x k' y hl
        have h1 := map_ok hρ c.args.toList
        rw [hl] at h1
        obtain ⟨u, us, h2, h3, u2, us2, h4, h5, h6⟩ := h1
        rw [VOK] at h3 h5
        rw [VsOK] at h6
        intro o ho
        refine ⟨_, ?_, rfl⟩
        simp only [execOp, ho, resolve, hcal, Sem.run_bind, Sem.run_pure, Result.andThen_ok, invoke, builtin, Builtin.min_, Array.toList_map, h2, h4, h6, h3, h5]
        simp [Builtin.min2, go_sem]
      · trivial
    · rename_i hcal
      split
      · rename_i k x k' y hl
        have h1 := map_ok hρ c.args.toList
        rw [hl] at h1
        obtain ⟨u, us, h2, h3, u2, us2, h4, h5, h6⟩ := h1
        rw [VOK] at h3 h5
        rw [VsOK] at h6
        intro o ho
        refine ⟨_, ?_, rfl⟩
        simp only [execOp, ho, resolve, hcal, Sem.run_bind, Sem.run_pure, Result.andThen_ok, invoke, builtin, Builtin.max_, Array.toList_map, h2, h4, h6, h3, h5]
        simp [Builtin.max2, go_sem]
      · trivial
    · trivial
  · trivial
end
end Go.Proofs.YtgkmfhmodojdcaaE

