/- The engine, part 9: calls of functions that turn nothing that was there. -/
import Derived.Test.YtigekmmdflaeaaaDoorEngM
set_option linter.all false
namespace Go.Proofs.YtigekmmdflaeaaaDoorE
open Go
set_option linter.unusedVariables false

/-! ### what a callee sees: no names, data only -/
def dat1 : AV → Option ((t : Ty) × El t)
  | .sc (.int k n) => some ⟨.int k, n⟩
  | .sc (.bool b) => some ⟨.bool, b⟩
  | .sc (.string s) => some ⟨.str, s⟩
  | .row t l => some ⟨.sl t, l⟩
  | _ => none
def datOf : List AV → Option ((t : Ty) × El t)
  | [] => none
  | [a] => dat1 a
  | a :: b :: l => match dat1 a, datOf (b :: l) with
    | some ⟨t, x⟩, some ⟨t', y⟩ => some ⟨.pair t t', (x, y)⟩
    | _, _ => none

def viewC (H : Hp) : AV → AV
  | .own j => match lk H j with
    | some (.arr _ t l) => .row t l
    | _ => .top
  | a => a

mutual
def viewA (H : Hp) : AV → AV
  | .own j => match lk H j with
    | some (.arr _ t l) => .row t l
    | _ => .top
  | .ptr j off => match lk H j with
    | some (.box _ cells) => match datOf (cells.map (viewC H)) with
      | some ⟨t, x⟩ => .eptr t x off
      | none => .top
    | _ => .top
  | .optr _ _ _ _ => .top
  | .mp _ => .top
  | .fn f l => .fn f (viewAs H l)
  | .agg l => .agg (viewAs H l)
  | .tup l => .tup (viewAs H l)
  | .sc v => .sc v
  | .row t l => .row t l
  | .eptr t x off => .eptr t x off
  | .top => .top
def viewAs (H : Hp) : List AV → List AV
  | [] => []
  | a :: l => viewA H a :: viewAs H l
end

mutual
/-- names nothing -/
def noId : AV → Bool
  | .own _ | .ptr _ _ | .optr _ _ _ _ | .mp _ => false
  | .agg l => noIds l
  | .tup l => noIds l
  | .fn _ l => noIds l
  | _ => true
def noIds : List AV → Bool
  | [] => true
  | a :: l => match noId a with
    | true => noIds l
    | false => false
end

def flatT : Ty → Bool
  | .sl _ => false
  | .pair a b => flatT a && flatT b
  | _ => true
mutual
/-- leads nowhere but to its own names -/
def flatA : AV → Bool
  | .row _ _ | .eptr _ _ _ => false
  | .agg l => flatAs l
  | .tup l => flatAs l
  | .fn _ l => flatAs l
  | _ => true
def flatAs : List AV → Bool
  | [] => true
  | a :: l => match flatA a with
    | true => flatAs l
    | false => false
end
def flatB : Option ABlk → Bool
  | none => true
  | some (.arr _ t _) => flatT t
  | some (.mp _ _ _) => true
  | some (.box _ l) => flatAs l

/-- What a call comes to: a plain value, and what is told of it; a new array, perhaps, under a name that the caller gives. -/
structure Out where
  α : Type
  o : Option α
  f : α → Nat → AV
  nb : α → Option ABlk

/-- What a call comes to that turns the array that it is given: the array's new content; ret: it hands the array back. -/
structure OutW (t : Ty) where
  o : Option (List (El t))
  ret : Bool

/-- What a call comes to that turns things that lie under names: its result, and what lies there then; c: which of two forms that has. -/
structure OutG where
  α : Type
  o : Option α
  c : Option (α → Bool)
  f1 : α → AV × Hp
  f2 : α → AV × Hp
def resG {α : Type} (c : Option (α → Bool)) (f1 f2 : α → AV × Hp) (x : α) : AV × Hp := match c with
  | none => f1 x
  | some c => match c x with
    | true => f1 x
    | false => f2 x
def OutG.res (out : OutG) (x : out.α) : AV × Hp := resG out.c out.f1 out.f2 x
structure Tab where
  f : FuncId → List AV → Option Out
  w : FuncId → TypeId → (t : Ty) → List (El t) → List AV → Option (OutW t)
  g : FuncId → Option (List AV → Hp → Option OutG)
  /-- those that turn the array that they are given -/
  v : FuncId → Bool
instance : CoeFun Tab (fun _ => FuncId → List AV → Option Out) := ⟨Tab.f⟩

/-- a world behind a call that may turn the block of v -/
structure BelBut (D : Cx) (v : Value) (w w' : World) : Prop where
  os : w'.os = w.os
  tape : w'.tape = w.tape
  output : w'.output = w.output
  size : w.heap.size ≤ w'.heap.size
  drawn : D.p → w.drawn ≤ w'.drawn
  block : ∀ k, k < w.heap.size → bof v ≠ some k → w'.heap[k]? = w.heap[k]?

/-- The contract of a call that turns the array that it is given. -/
def WHas (D : Cx) (P : Program) (g : FuncId) (t : Ty) (l l' : List (El t)) (args : List AV) (ret : Bool) : Prop :=
  ∀ (S : Nat → Prop) (w : World) (v : Value) (vals : List Value) (e : TypeId), (∀ b, S b → b < w.heap.size) → BOK (fun _ => v) S w 0 (.arr e t l) → (∀ b, bof v = some b → ¬ S b) → VsOK (fun _ => undef) S w args vals → D.hy w → (∀ b, bof v = some b → ¬ D.B b) →
    Calls P g (v :: vals).toArray w fun ex w' => ∃ v' S', ex = .returned (match ret with | true => v' | false => .tuple #[]) ∧ (ret = false → v' = v) ∧ BelBut D v w w' ∧ (∀ b, S b → S' b) ∧ (∀ b, S' b → (S b ∨ w.heap.size ≤ b) ∧ b < w'.heap.size) ∧
      BOK (fun _ => v') S' w' 0 (.arr e t l') ∧ ∀ b, bof v' = some b → (bof v = some b ∨ w.heap.size ≤ b) ∧ ¬ S' b

/-- .. of an array whose elements are of that type. -/
def WHasE (e : TypeId) (D : Cx) (P : Program) (g : FuncId) (t : Ty) (l l' : List (El t)) (args : List AV) (ret : Bool) : Prop :=
  ∀ (S : Nat → Prop) (w : World) (v : Value) (vals : List Value), (∀ b, S b → b < w.heap.size) → BOK (fun _ => v) S w 0 (.arr e t l) → (∀ b, bof v = some b → ¬ S b) → VsOK (fun _ => undef) S w args vals → D.hy w → (∀ b, bof v = some b → ¬ D.B b) →
    Calls P g (v :: vals).toArray w fun ex w' => ∃ v' S', ex = .returned (match ret with | true => v' | false => .tuple #[]) ∧ (ret = false → v' = v) ∧ BelBut D v w w' ∧ (∀ b, S b → S' b) ∧ (∀ b, S' b → (S b ∨ w.heap.size ≤ b) ∧ b < w'.heap.size) ∧
      BOK (fun _ => v') S' w' 0 (.arr e t l') ∧ ∀ b, bof v' = some b → (bof v = some b ∨ w.heap.size ≤ b) ∧ ¬ S' b
theorem WHas.at {D : Cx} {P : Program} {g : FuncId} {t : Ty} {l l' : List (El t)} {args : List AV} {ret : Bool} (h : WHas D P g t l l' args ret) (e : TypeId) : WHasE e D P g t l l' args ret := fun S w v vals => h S w v vals e

/-- The contract of a call that turns what lies under names. -/
def GHas (D : Cx) (P : Program) (g : FuncId) (args : List AV) (H0 : Hp) (r : AV × Hp) : Prop :=
  ∀ (F : Fr D) (μ : Nat → Value) (S : Nat → Prop) (vals : List Value), Inv F μ S H0 F.w0 → VsOK μ S F.w0 args vals →
    Calls P g vals.toArray F.w0 fun e w' => ∃ v μ' S', e = .returned v ∧ Inv F μ' S' r.2 w' ∧ VOK μ' S' w' r.1 v

section
variable {P : Program} {D : Cx} {F : Fr D} {μ : Nat → Value} {S : Nat → Prop} {w : World} {H : Hp}

/-- all that lies under names, besides -/
def SH (μ : Nat → Value) (S : Nat → Prop) (H : Hp) : Nat → Prop := fun b => S b ∨ ∃ j B, lk H j = some B ∧ bof (μ j) = some b

theorem dat1_ok {a : AV} {t : Ty} {x : El t} {u : Value} (h : dat1 a = some ⟨t, x⟩) (hu : VOK μ S w a u) : Rd S w t x [u] := by
  unfold dat1 at h
  split at h
  all_goals first
    | (cases h; rw [VOK] at hu; rw [hu]; rfl)
    | (cases h; exact hu)
    | cases h
theorem datOf_ok : ∀ {l : List AV} {t : Ty} {x : El t} {us : List Value}, datOf l = some ⟨t, x⟩ → VsOK μ S w l us → Rd S w t x us
  | [], t, x, us, h, hu => by cases h
  | [a], t, x, us, h, hu => by
    obtain ⟨u, us', rfl, h2, h3⟩ := hu
    rw [VsOK] at h3
    subst h3
    exact dat1_ok h h2
  | a :: b :: l, t, x, us, h, hu => by
    obtain ⟨u, us', rfl, h2, h3⟩ := hu
    simp only [datOf] at h
    split at h
    · rename_i t1 x1 t2 x2 h4 h5
      cases h
      exact ⟨[u], us', rfl, dat1_ok h4 h2, datOf_ok h5 h3⟩
    · cases h

theorem SH_S {b : Nat} (h : S b) : SH μ S H b := .inl h

theorem viewC_ok (hI : Inv F μ S H w) {a : AV} {u : Value} (h : VOK μ S w a u) : VOK μ (SH μ S H) w (viewC H a) u := by
  cases a with
  | own j =>
    simp only [viewC]
    split
    · rename_i e t l hk
      have hr := arr_row (hI.blk j _ hk)
      show Rd _ w (.sl t) l [u]
      rw [h.1]
      exact Rd.mono (fun b hb => hb.elim (fun h => .inl h) (fun h => .inr ⟨j, _, hk, h⟩)) (Nat.le_refl _) (fun _ _ => rfl) hr
    · trivial
  | _ => exact VOK.mono (fun b hb => SH_S hb) (Nat.le_refl _) (fun _ _ => rfl) h
theorem viewCs_ok (hI : Inv F μ S H w) : ∀ {l : List AV} {us : List Value}, VsOK μ S w l us → VsOK μ (SH μ S H) w (l.map (viewC H)) us
  | [], us, h => h
  | a :: l, us, h => by
    obtain ⟨u, us', h1, h2, h3⟩ := h
    exact ⟨u, us', h1, viewC_ok hI h2, viewCs_ok hI h3⟩

mutual
theorem viewA_ok (hI : Inv F μ S H w) : ∀ {a : AV} {u : Value}, VOK μ S w a u → VOK μ (SH μ S H) w (viewA H a) u
  | .own j, u, h => by
    simp only [viewA]
    exact viewC_ok hI h
  | .ptr j off, u, h => by
    simp only [viewA]
    split
    · rename_i T cells hk
      split
      · rename_i t x hd
        obtain ⟨b, h1, h2⟩ := h
        obtain ⟨b', us, h3, h4, h5⟩ := hI.blk j _ hk
        rw [h1] at h3
        cases h3
        refine ⟨b, 0, us, by rw [h2, Nat.zero_add], .inr ⟨j, _, hk, by rw [h1]; rfl⟩, (Array.getElem?_eq_some_iff.1 h4).1, datOf_ok hd (viewCs_ok hI h5), cellsAt_heap h4⟩
      · trivial
    · trivial
  | .optr _ _ _ _, u, h => trivial
  | .mp _, u, h => trivial
  | .top, u, h => trivial
  | .sc v, u, h => h
  | .row t l, u, h => Rd.mono (fun b hb => SH_S hb) (Nat.le_refl _) (fun _ _ => rfl) h
  | .eptr t x off, u, h => VOK.mono (a := .eptr t x off) (fun b hb => SH_S hb) (Nat.le_refl _) (fun _ _ => rfl) h
  | .fn f l, u, h => by obtain ⟨us, h1, h2⟩ := h; exact ⟨us, h1, viewAs_ok hI h2⟩
  | .agg l, u, h => by obtain ⟨us, h1, h2⟩ := h; exact ⟨us, h1, viewAs_ok hI h2⟩
  | .tup l, u, h => by obtain ⟨us, h1, h2⟩ := h; exact ⟨us, h1, viewAs_ok hI h2⟩
theorem viewAs_ok (hI : Inv F μ S H w) : ∀ {l : List AV} {us : List Value}, VsOK μ S w l us → VsOK μ (SH μ S H) w (viewAs H l) us
  | [], us, h => h
  | a :: l, us, h => by
    obtain ⟨u, us', h1, h2, h3⟩ := h
    exact ⟨u, us', h1, viewA_ok hI h2, viewAs_ok hI h3⟩
end

mutual
theorem noId_ok {μ' : Nat → Value} : ∀ {a : AV} {u : Value}, noId a = true → VOK μ S w a u → VOK μ' S w a u
  | .own _, u, h, _ => by simp [noId] at h
  | .ptr _ _, u, h, _ => by simp [noId] at h
  | .optr _ _ _ _, u, h, _ => by simp [noId] at h
  | .mp _, u, h, _ => by simp [noId] at h
  | .top, u, _, h => h
  | .sc v, u, _, h => h
  | .row t l, u, _, h => h
  | .eptr t x off, u, _, h => h
  | .fn f l, u, hn, h => by obtain ⟨us, h1, h2⟩ := h; exact ⟨us, h1, noIds_ok (by simpa [noId] using hn) h2⟩
  | .agg l, u, hn, h => by obtain ⟨us, h1, h2⟩ := h; exact ⟨us, h1, noIds_ok (by simpa [noId] using hn) h2⟩
  | .tup l, u, hn, h => by obtain ⟨us, h1, h2⟩ := h; exact ⟨us, h1, noIds_ok (by simpa [noId] using hn) h2⟩
theorem noIds_ok {μ' : Nat → Value} : ∀ {l : List AV} {us : List Value}, noIds l = true → VsOK μ S w l us → VsOK μ' S w l us
  | [], us, _, h => h
  | a :: l, us, hn, h => by
    obtain ⟨u, us', h1, h2, h3⟩ := h
    unfold noIds at hn
    cases ha : noId a with
    | true => rw [ha] at hn; exact ⟨u, us', h1, noId_ok ha h2, noIds_ok hn h3⟩
    | false => rw [ha] at hn; cases hn
end

mutual
theorem view_same (H : Hp) : ∀ {a : AV}, noId a = true → viewA H a = a
  | .own _, h => by simp [noId] at h
  | .ptr _ _, h => by simp [noId] at h
  | .optr _ _ _ _, h => by simp [noId] at h
  | .mp _, h => by simp [noId] at h
  | .top, _ => rfl
  | .sc v, _ => rfl
  | .row t l, _ => rfl
  | .eptr t x off, _ => rfl
  | .fn f l, hn => by rw [viewA, views_same H (by simpa [noId] using hn)]
  | .agg l, hn => by rw [viewA, views_same H (by simpa [noId] using hn)]
  | .tup l, hn => by rw [viewA, views_same H (by simpa [noId] using hn)]
theorem views_same (H : Hp) : ∀ {l : List AV}, noIds l = true → viewAs H l = l
  | [], _ => rfl
  | a :: l, hn => by
    unfold noIds at hn
    cases ha : noId a with
    | true => rw [ha] at hn; rw [viewAs, view_same H ha, views_same H hn]
    | false => rw [ha] at hn; cases hn
end

theorem flatT_ok {S' : Nat → Prop} : ∀ {t : Ty} {x : El t} {cs : List Value}, flatT t = true → Rd S w t x cs → Rd S' w t x cs
  | .int k, x, cs, _, h => h
  | .bool, x, cs, _, h => h
  | .str, x, cs, _, h => h
  | .sl t, x, cs, hf, h => by simp [flatT] at hf
  | .pair a b, x, cs, hf, h => by
    simp only [flatT, Bool.and_eq_true] at hf
    obtain ⟨c1, c2, h1, h2, h3⟩ := h
    exact ⟨c1, c2, h1, flatT_ok hf.1 h2, flatT_ok hf.2 h3⟩
theorem flatL_ok {S' : Nat → Prop} {t : Ty} (hf : flatT t = true) : ∀ {l : List (El t)} {us : List Value}, RdL S w t l us → RdL S' w t l us
  | [], us, h => h
  | x :: l, us, h => by
    obtain ⟨c1, c2, h1, h2, h3⟩ := h
    exact ⟨c1, c2, h1, flatT_ok hf h2, flatL_ok hf h3⟩
mutual
theorem flatA_ok {S' : Nat → Prop} : ∀ {a : AV} {u : Value}, flatA a = true → VOK μ S w a u → VOK μ S' w a u
  | .row _ _, u, h, _ => by simp [flatA] at h
  | .eptr _ _ _, u, h, _ => by simp [flatA] at h
  | .own j, u, _, h => h
  | .ptr j o, u, _, h => h
  | .optr i n s o, u, _, h => h
  | .mp i, u, _, h => h
  | .top, u, _, h => h
  | .sc v, u, _, h => h
  | .fn f l, u, hn, h => by obtain ⟨us, h1, h2⟩ := h; exact ⟨us, h1, flatAs_ok (by simpa [flatA] using hn) h2⟩
  | .agg l, u, hn, h => by obtain ⟨us, h1, h2⟩ := h; exact ⟨us, h1, flatAs_ok (by simpa [flatA] using hn) h2⟩
  | .tup l, u, hn, h => by obtain ⟨us, h1, h2⟩ := h; exact ⟨us, h1, flatAs_ok (by simpa [flatA] using hn) h2⟩
theorem flatAs_ok {S' : Nat → Prop} : ∀ {l : List AV} {us : List Value}, flatAs l = true → VsOK μ S w l us → VsOK μ S' w l us
  | [], us, _, h => h
  | a :: l, us, hn, h => by
    obtain ⟨u, us', h1, h2, h3⟩ := h
    unfold flatAs at hn
    cases ha : flatA a with
    | true => rw [ha] at hn; exact ⟨u, us', h1, flatA_ok ha h2, flatAs_ok hn h3⟩
    | false => rw [ha] at hn; cases hn
end
theorem flatB_ok {S' : Nat → Prop} {id : Nat} {B : ABlk} (hf : flatB (some B) = true) (h : BOK μ S w id B) : BOK μ S' w id B := by
  cases B with
  | box T l =>
    obtain ⟨b, us, h1, h2, h3⟩ := h
    exact ⟨b, us, h1, h2, flatAs_ok hf h3⟩
  | arr e t l =>
    rcases h with h | ⟨b, c, us, rest, h1, h2, h3, h4, h5, h6⟩
    · exact .inl h
    · exact .inr ⟨b, c, us, rest, h1, h2, h3, h4, h5, flatL_ok hf h6⟩
  | mp kt vt m => exact h

/-- What is asked of a table: each call that it tells of does what is told. -/
def CallOK (D : Cx) (P : Program) (T : Tab) : Prop :=
  (∀ g args out, T g args = some out → ∀ vals w, (callFunc g vals).run P w = .ok (.enter g vals) w) ∧
  (∀ g args out x, T g args = some out → out.o = some x → ∀ (S : Nat → Prop) (w : World) (vals : List Value), (∀ b, S b → b < w.heap.size) → VsOK (fun _ => undef) S w args vals → D.hy w →
    Calls P g vals.toArray w fun e w' => ∃ v u S', e = .returned v ∧ Bel D w w' ∧ (∀ b, S b → S' b) ∧ (∀ b, S' b → (S b ∨ w.heap.size ≤ b) ∧ b < w'.heap.size) ∧
      (∀ id, VOK (fun _ => u) S' w' (out.f x id) v) ∧ ∀ B, out.nb x = some B → (∀ id, BOK (fun _ => u) S' w' id B) ∧ ∀ b, bof u = some b → w.heap.size ≤ b ∧ ¬ S' b) ∧
  (∀ g e t l args out, T.w g e t l args = some out → (∀ vals w, (callFunc g vals).run P w = .ok (.enter g vals) w) ∧ ∀ l', out.o = some l' → WHasE e D P g t l l' args out.ret) ∧
  ∀ g s args H out, T.g g = some s → s args H = some out → (∀ vals w, (callFunc g vals).run P w = .ok (.enter g vals) w) ∧ ∀ x, out.o = some x → GHas D P g args H (out.res x)

/-- The names of a result: at most the one that the caller gives. -/
def Out.okid (out : Out) : Prop := True

/-- What stands behind a call. -/
theorem call_inv {w' : World} {S' : Nat → Prop} (hI : Inv F μ S H w) (hb : Bel D w w') (hS : ∀ b, S b → S' b) (hS2 : ∀ b, S' b → (S b ∨ w.heap.size ≤ b) ∧ b < w'.heap.size) : Inv F μ S' H w' := by
  have hSw : ∀ b, S b → w'.heap[b]? = w.heap[b]? := fun b h => hb.block b (hI.Slt b h)
  refine ⟨fun i B hB => BOK.mono hS hb.size hSw (fun b h => hb.block b (bof_lt (hI.blk i B hB) h)) (hI.blk i B hB), hI.apart, ?_, fun b h => (hS2 b h).2, fun b h => hS b (hI.S0 b h), ?_, fun b h1 h2 => (hb.block b (Nat.lt_of_lt_of_le h1 hI.size)).trans (hI.frame b h1 h2), Nat.le_trans hI.size hb.size, hb.os.trans hI.os, hb.tape.trans hI.tape, hb.output.trans hI.output, fun x => Nat.le_trans (hI.drawn x) (hb.drawn x), hI.fixd, hI.hy⟩
  · intro i B hi b hbi
    refine ⟨fun hs => ?_, (hI.notS i B hi b hbi).2⟩
    rcases (hS2 b hs).1 with h1 | h1
    · exact (hI.notS i B hi b hbi).1 h1
    · have := bof_lt (hI.blk i B hi) hbi
      omega
  · intro b hs
    rcases (hS2 b hs).1 with h1 | h1
    · exact hI.Sfrom b h1
    · exact .inr (.inr (Nat.le_trans hI.size h1))

/-- What stands behind a call that turns the block of v, which has no name. -/
theorem but_inv {w' : World} {S' : Nat → Prop} {v : Value} (hI : Inv F μ S H w) (hb : BelBut D v w w') (hv : ∀ b, bof v = some b → ¬ S b ∧ (F.w0.heap.size ≤ b ∨ F.O b)) (hn : ∀ j B, lk H j = some B → ∀ b, bof (μ j) = some b → bof v ≠ some b)
    (hS : ∀ b, S b → S' b) (hS2 : ∀ b, S' b → (S b ∨ w.heap.size ≤ b) ∧ b < w'.heap.size) : Inv F μ S' H w' := by
  have hSw : ∀ b, S b → w'.heap[b]? = w.heap[b]? := fun b h => hb.block b (hI.Slt b h) (fun e => (hv b e).1 h)
  refine ⟨fun i B hB => BOK.mono hS hb.size hSw (fun b h => hb.block b (bof_lt (hI.blk i B hB) h) (hn i B hB b h)) (hI.blk i B hB), hI.apart, ?_, fun b h => (hS2 b h).2, fun b h => hS b (hI.S0 b h), ?_, ?_, Nat.le_trans hI.size hb.size, hb.os.trans hI.os, hb.tape.trans hI.tape, hb.output.trans hI.output, fun x => Nat.le_trans (hI.drawn x) (hb.drawn x), hI.fixd, hI.hy⟩
  · intro i B hi b hbi
    refine ⟨fun hs => ?_, (hI.notS i B hi b hbi).2⟩
    rcases (hS2 b hs).1 with h1 | h1
    · exact (hI.notS i B hi b hbi).1 h1
    · have := bof_lt (hI.blk i B hi) hbi
      omega
  · intro b hs
    rcases (hS2 b hs).1 with h1 | h1
    · exact hI.Sfrom b h1
    · exact .inr (.inr (Nat.le_trans hI.size h1))
  · intro b h1 h2
    refine (hb.block b (Nat.lt_of_lt_of_le h1 hI.size) (fun e => ?_)).trans (hI.frame b h1 h2)
    rcases (hv b e).2 with h3 | h3
    · omega
    · exact h2 h3

/-- A name is told anew, in its own block. -/
theorem Inv.again {d : Nat} {B0 B : ABlk} (hI : Inv F μ S (rm d H) w) (hB : BOK μ S w d B) (hnS : ∀ b, bof (μ d) = some b → ¬ S b ∧ (F.w0.heap.size ≤ b ∨ F.O b)) (hfx : ∀ v, F.fix d = some v → μ d = v) (hap : ∀ j Bj, lk H j = some Bj → j ≠ d → ∀ b, bof (μ j) = some b → bof (μ d) = some b → False) :
    Inv F μ S ((d, B) :: rm d H) w := by
  have old : ∀ i Bi, lk ((d, B) :: rm d H) i = some Bi → i ≠ d → lk (rm d H) i = some Bi := by
    intro i Bi hi hne
    rwa [lk_cons_other hne] at hi
  refine ⟨?_, ?_, ?_, hI.Slt, hI.S0, hI.Sfrom, hI.frame, hI.size, hI.os, hI.tape, hI.output, hI.drawn, ?_, hI.hy⟩
  · intro i Bi hi
    by_cases e : i = d
    · subst e
      rw [lk_cons_same] at hi
      cases hi
      exact hB
    · exact hI.blk i Bi (old i Bi hi e)
  · intro i j Bi Bj hi hj hne b hbi hbj
    by_cases ei : i = d
    · by_cases ej : j = d
      · exact hne (ei.trans ej.symm)
      · have h := old j Bj hj ej
        rw [lk_rm_other ej] at h
        exact hap j Bj h ej b hbj (ei ▸ hbi)
    · by_cases ej : j = d
      · have h := old i Bi hi ei
        rw [lk_rm_other ei] at h
        exact hap i Bi h ei b hbi (ej ▸ hbj)
      · exact hI.apart i j Bi Bj (old i Bi hi ei) (old j Bj hj ej) hne b hbi hbj
  · intro i Bi hi b hbi
    by_cases e : i = d
    · subst e
      exact hnS b hbi
    · exact hI.notS i Bi (old i Bi hi e) b hbi
  · intro i x Bi hx hi
    by_cases e : i = d
    · subst e; exact hfx x hx
    · exact hI.fixd i x Bi hx (old i Bi hi e)

/-- A block that has just come is given a name. -/
theorem name_inv {w' : World} {id : Nat} {u : Value} {B : ABlk} {n : Nat} (hd : F.fix id = none) (hI : Inv F μ S H w') (hn : F.w0.heap.size ≤ n) (hold : ∀ j Bj, lk H j = some Bj → ∀ b, bof (μ j) = some b → b < n) (hB : BOK (upd μ id u) S w' id B) (hu : ∀ b, bof u = some b → n ≤ b ∧ ¬ S b) :
    Inv F (upd μ id u) S ((id, B) :: keepH (but id) (rm id H)) w' := by
  have hμ : ∀ j, but id j = true → upd μ id u j = μ j := fun j hj => upd_other μ u (but_iff.1 hj)
  have old : ∀ j B', lk ((id, B) :: keepH (but id) (rm id H)) j = some B' → j ≠ id → ∃ B0, lk H j = some B0 ∧ B' = keepB (but id) B0 := by
    intro j B' hj hne
    rw [lk_cons_other hne, lk_keepH, lk_rm_other hne] at hj
    cases hk : lk H j with
    | none => rw [hk] at hj; cases hj
    | some B0 => rw [hk] at hj; exact ⟨B0, rfl, (Option.some.inj hj).symm⟩
  refine ⟨?_, ?_, ?_, hI.Slt, hI.S0, hI.Sfrom, hI.frame, hI.size, hI.os, hI.tape, hI.output, hI.drawn, ?_, hI.hy⟩
  · intro j B' hj
    by_cases hne : j = id
    · subst hne
      rw [lk_cons_same] at hj
      cases hj
      exact hB
    · obtain ⟨B0, h0, rfl⟩ := old j B' hj hne
      exact BOK.keep hμ (fun _ h => h) (Nat.le_refl _) (fun _ _ => rfl) (upd_other μ u hne) (fun _ _ => rfl) (hI.blk j B0 h0)
  · intro i j Bi Bj hi hj hne b hbi hbj
    by_cases ei : i = id
    · by_cases ej : j = id
      · exact hne (ei.trans ej.symm)
      · obtain ⟨B0, h0, rfl⟩ := old j Bj hj ej
        rw [ei, upd_same] at hbi
        rw [upd_other μ u ej] at hbj
        have := hold j B0 h0 b hbj
        have := (hu b hbi).1
        omega
    · obtain ⟨B0, h0, rfl⟩ := old i Bi hi ei
      rw [upd_other μ u ei] at hbi
      by_cases ej : j = id
      · rw [ej, upd_same] at hbj
        have := hold i B0 h0 b hbi
        have := (hu b hbj).1
        omega
      · obtain ⟨B1, h1, rfl⟩ := old j Bj hj ej
        rw [upd_other μ u ej] at hbj
        exact hI.apart i j B0 B1 h0 h1 hne b hbi hbj
  · intro i Bi hi b hb
    by_cases ei : i = id
    · rw [ei, upd_same] at hb
      exact ⟨(hu b hb).2, .inl (Nat.le_trans hn (hu b hb).1)⟩
    · obtain ⟨B0, h0, rfl⟩ := old i Bi hi ei
      rw [upd_other μ u ei] at hb
      exact hI.notS i B0 h0 b hb
  · intro i x Bi hx hi
    by_cases ei : i = id
    · rw [ei, hd] at hx; cases hx
    · obtain ⟨B0, h0, rfl⟩ := old i Bi hi ei
      exact (upd_other μ u ei).trans (hI.fixd i x B0 hx h0)

mutual
/-- names at most this one -/
def onlyId (id : Nat) : AV → Bool
  | .own j => Nat.beq j id
  | .ptr j _ => Nat.beq j id
  | .optr j _ _ _ => Nat.beq j id
  | .mp j => Nat.beq j id
  | .agg l => onlyIds id l
  | .tup l => onlyIds id l
  | .fn _ l => onlyIds id l
  | _ => true
def onlyIds (id : Nat) : List AV → Bool
  | [] => true
  | a :: l => match onlyId id a with
    | true => onlyIds id l
    | false => false
end
mutual
theorem onlyId_ok {μ' : Nat → Value} {id : Nat} (hμ : μ' id = μ id) : ∀ {a : AV} {u : Value}, onlyId id a = true → VOK μ S w a u → VOK μ' S w a u
  | .own j, u, h, hu => by have := Nat.eq_of_beq_eq_true h; subst this; rw [VOK] at hu ⊢; rw [hμ]; exact hu
  | .ptr j o, u, h, hu => by have := Nat.eq_of_beq_eq_true h; subst this; rw [VOK] at hu ⊢; rw [hμ]; exact hu
  | .optr j n s o, u, h, hu => by have := Nat.eq_of_beq_eq_true h; subst this; rw [VOK] at hu ⊢; rw [hμ]; exact hu
  | .mp j, u, h, hu => by have := Nat.eq_of_beq_eq_true h; subst this; rw [VOK] at hu ⊢; rw [hμ]; exact hu
  | .top, u, _, h => h
  | .sc v, u, _, h => h
  | .row t l, u, _, h => h
  | .eptr t x off, u, _, h => h
  | .fn f l, u, hn, h => by obtain ⟨us, h1, h2⟩ := h; exact ⟨us, h1, onlyIds_ok hμ (by simpa [onlyId] using hn) h2⟩
  | .agg l, u, hn, h => by obtain ⟨us, h1, h2⟩ := h; exact ⟨us, h1, onlyIds_ok hμ (by simpa [onlyId] using hn) h2⟩
  | .tup l, u, hn, h => by obtain ⟨us, h1, h2⟩ := h; exact ⟨us, h1, onlyIds_ok hμ (by simpa [onlyId] using hn) h2⟩
theorem onlyIds_ok {μ' : Nat → Value} {id : Nat} (hμ : μ' id = μ id) : ∀ {l : List AV} {us : List Value}, onlyIds id l = true → VsOK μ S w l us → VsOK μ' S w l us
  | [], us, _, h => h
  | a :: l, us, hn, h => by
    obtain ⟨u, us', h1, h2, h3⟩ := h
    unfold onlyIds at hn
    cases ha : onlyId id a with
    | true => rw [ha] at hn; exact ⟨u, us', h1, onlyId_ok hμ ha h2, onlyIds_ok hμ hn h3⟩
    | false => rw [ha] at hn; cases hn
end
def onlyB (id : Nat) : ABlk → Bool
  | .box _ l => onlyIds id l
  | .arr _ _ _ => true
  | .mp _ _ _ => true
theorem onlyB_ok {μ' : Nat → Value} {id : Nat} (hμ : μ' id = μ id) {B : ABlk} (hB : onlyB id B = true) (h : BOK μ S w id B) : BOK μ' S w id B := by
  cases B with
  | box T l =>
    obtain ⟨b, us, h1, h2, h3⟩ := h
    exact ⟨b, us, hμ.trans h1, h2, onlyIds_ok hμ hB h3⟩
  | arr e t l =>
    rcases h with ⟨A, h1, h2⟩ | ⟨b, c, us, rest, h1, h2⟩
    · exact .inl ⟨A, hμ.trans h1, h2⟩
    · exact .inr ⟨b, c, us, rest, hμ.trans h1, h2⟩
  | mp kt vt m =>
    obtain ⟨b, es, cl, h1, h2⟩ := h
    exact ⟨b, es, cl, hμ.trans h1, h2⟩
end
end Go.Proofs.YtigekmmdflaeaaaDoorE
