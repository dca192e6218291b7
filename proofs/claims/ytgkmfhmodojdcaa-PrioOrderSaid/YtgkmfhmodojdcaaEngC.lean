/- Several texts, as one: what is named of them. -/
import Derived.Test.YtgkmfhmodojdcaaEngB
import Derived.LoopN
import Derived.Scope
import Derived.Orders
set_option linter.all false
namespace Go.Proofs.YtgkmfhmodojdcaaE
open Go
set_option linter.unusedVariables false

def dat1 : AV → Option ((t : Ty) × El t)
  | .sc (.int k n) => some ⟨.int k, n⟩
  | .sc (.bool b) => some ⟨.bool, b⟩
  | .sc (.string s) => some ⟨.str, s⟩
  | .row t l => some ⟨.sl t, l⟩
  | _ => none
def datOf : List AV → Option ((t : Ty) × El t)
  | [] => none
  | [a] => dat1 a
  | a :: b :: l => match dat1 a, datOf (b :: l) with
    | some ⟨t, x⟩, some ⟨t', y⟩ => some ⟨.pair t t', (x, y)⟩
    | _, _ => none

def viewC (H : Hp) : AV → AV
  | .own j => match lk H j with
    | some (.arr _ t l) => .row t l
    | _ => .top
  | a => a

mutual
def viewA (H : Hp) : AV → AV
  | .own j => match lk H j with
    | some (.arr _ t l) => .row t l
    | _ => .top
  | .ptr j off => match lk H j with
    | some (.box _ cells) => match datOf (cells.map (viewC H)) with
      | some ⟨t, x⟩ => .eptr t x off
      | none => .top
    | _ => .top
  | .optr _ _ _ _ => .top
  | .mp _ => .top
  | .fn f l => .fn f (viewAs H l)
  | .agg l => .agg (viewAs H l)
  | .tup l => .tup (viewAs H l)
  | .sc v => .sc v
  | .row t l => .row t l
  | .eptr t x off => .eptr t x off
  | .top => .top
def viewAs (H : Hp) : List AV → List AV
  | [] => []
  | a :: l => viewA H a :: viewAs H l
end

mutual
def noId : AV → Bool
  | .own _ | .ptr _ _ | .optr _ _ _ _ | .mp _ => false
  | .agg l => noIds l
  | .tup l => noIds l
  | .fn _ l => noIds l
  | _ => true
def noIds : List AV → Bool
  | [] => true
  | a :: l => match noId a with
    | true => noIds l
    | false => false
end

def flatT : Ty → Bool
  | .sl _ => false
  | .pair a b => flatT a && flatT b
  | _ => true
mutual
def flatA : AV → Bool
  | .row _ _ | .eptr _ _ _ => false
  | .agg l => flatAs l
  | .tup l => flatAs l
  | .fn _ l => flatAs l
  | _ => true
def flatAs : List AV → Bool
  | [] => true
  | a :: l => match flatA a with
    | true => flatAs l
    | false => false
end
def flatB : Option ABlk → Bool
  | none => true
  | some (.arr _ t _) => flatT t
  | some (.mp _ _ _) => true
  | some (.box _ l) => flatAs l

structure Out where
  α : Type
  o : Option α
  f : α → Nat → AV
  nb : α → Option ABlk

structure OutW (t : Ty) where
  o : Option (List (El t))
  ret : Bool

structure Tab where
  f : FuncId → List AV → Option Out
  w : FuncId → (t : Ty) → List (El t) → List AV → Option (OutW t)
instance : CoeFun Tab (fun _ => FuncId → List AV → Option Out) := ⟨Tab.f⟩

structure BelBut (D : Prop) (v : Value) (w w' : World) : Prop where
  os : w'.os = w.os
  tape : w'.tape = w.tape
  output : w'.output = w.output
  size : w.heap.size ≤ w'.heap.size
  drawn : D → w.drawn ≤ w'.drawn
  block : ∀ k, k < w.heap.size → bof v ≠ some k → w'.heap[k]? = w.heap[k]?

def WHas (D : Prop) (P : Program) (g : FuncId) (t : Ty) (l l' : List (El t)) (args : List AV) (ret : Bool) : Prop :=
  ∀ (S : Nat → Prop) (w : World) (v : Value) (vals : List Value) (e : TypeId), (∀ b, S b → b < w.heap.size) → BOK (fun _ => v) S w 0 (.arr e t l) → (∀ b, bof v = some b → ¬ S b) → VsOK (fun _ => undef) S w args vals →
    Calls P g (v :: vals).toArray w fun ex w' => ∃ v' S', ex = .returned (match ret with | true => v' | false => .tuple #[]) ∧ (ret = false → v' = v) ∧ BelBut D v w w' ∧ (∀ b, S b → S' b) ∧ (∀ b, S' b → (S b ∨ w.heap.size ≤ b) ∧ b < w'.heap.size) ∧
      BOK (fun _ => v') S' w' 0 (.arr e t l') ∧ ∀ b, bof v' = some b → (bof v = some b ∨ w.heap.size ≤ b) ∧ ¬ S' b

section
variable {P : Program} {D : Prop} {F : Fr D} {μ : Nat → Value} {S : Nat → Prop} {w : World} {H : Hp}

def SH (μ : Nat → Value) (S : Nat → Prop) (H : Hp) : Nat → Prop := fun b => S b ∨ ∃ j B, lk H j = some B ∧ bof (μ j) = some b

theorem dat1_ok {a : AV} {t : Ty} {x : El t} {u : Value} (h : dat1 a = some ⟨t, x⟩) (hu : VOK μ S w a u) : Rd S w t x [u] := by
  unfold dat1 at h
  split at h
  all_goals first
    | (cases h; rw [VOK] at hu; rw [hu]; rfl)
    | (cases h; exact hu)
    | cases h
theorem datOf_ok : ∀ {l : List AV} {t : Ty} {x : El t} {us : List Value}, datOf l = some ⟨t, x⟩ → VsOK μ S w l us → Rd S w t x us
  | [], t, x, us, h, hu => by cases h
  | [a], t, x, us, h, hu => by
    obtain ⟨u, us', rfl, h2, h3⟩ := hu
    rw [VsOK] at h3
    subst h3
    exact dat1_ok h h2
  | a :: b :: l, t, x, us, h, hu => by
    obtain ⟨u, us', rfl, h2, h3⟩ := hu
    simp only [datOf] at h
    split at h
    · rename_i t1 x1 t2 x2 h4 h5
      cases h
      exact ⟨[u], us', rfl, dat1_ok h4 h2, datOf_ok h5 h3⟩
    · cases h

theorem SH_S {b : Nat} (h : S b) : SH μ S H b := .inl h

theorem viewC_ok (hI : Inv F μ S H w) {a : AV} {u : Value} (h : VOK μ S w a u) : VOK μ (SH μ S H) w (viewC H a) u := by
  cases a with
  | own j =>
    simp only [viewC]
    split
    · rename_i e t l hk
      have hr := arr_row (hI.blk j _ hk)
      show Rd _ w (.sl t) l [u]
      rw [h.1]
      exact Rd.mono (fun b hb => hb.elim (fun h => .inl h) (fun h => .inr ⟨j, _, hk, h⟩)) (Nat.le_refl _) (fun _ _ => rfl) hr
    · trivial
  | _ => exact VOK.mono (fun b hb => SH_S hb) (Nat.le_refl _) (fun _ _ => rfl) h
theorem viewCs_ok (hI : Inv F μ S H w) : ∀ {l : List AV} {us : List Value}, VsOK μ S w l us → VsOK μ (SH μ S H) w (l.map (viewC H)) us
  | [], us, h => h
  | a :: l, us, h => by
    obtain ⟨u, us', h1, h2, h3⟩ := h
    exact ⟨u, us', h1, viewC_ok hI h2, viewCs_ok hI h3⟩

mutual
theorem viewA_ok (hI : Inv F μ S H w) : ∀ {a : AV} {u : Value}, VOK μ S w a u → VOK μ (SH μ S H) w (viewA H a) u
  | .own j, u, h => by
    simp only [viewA]
    exact viewC_ok hI h
  | .ptr j off, u, h => by
    simp only [viewA]
    split
    · rename_i T cells hk
      split
      · rename_i t x hd
        obtain ⟨b, h1, h2⟩ := h
        obtain ⟨b', us, h3, h4, h5⟩ := hI.blk j _ hk
        rw [h1] at h3
        cases h3
        refine ⟨b, 0, us, by rw [h2, Nat.zero_add], .inr ⟨j, _, hk, by rw [h1]; rfl⟩, (Array.getElem?_eq_some_iff.1 h4).1, datOf_ok hd (viewCs_ok hI h5), cellsAt_heap h4⟩
      · trivial
    · trivial
  | .optr _ _ _ _, u, h => trivial
  | .mp _, u, h => trivial
  | .top, u, h => trivial
  | .sc v, u, h => h
  | .row t l, u, h => Rd.mono (fun b hb => SH_S hb) (Nat.le_refl _) (fun _ _ => rfl) h
  | .eptr t x off, u, h => VOK.mono (a := .eptr t x off) (fun b hb => SH_S hb) (Nat.le_refl _) (fun _ _ => rfl) h
  | .fn f l, u, h => by obtain ⟨us, h1, h2⟩ := h; exact ⟨us, h1, viewAs_ok hI h2⟩
  | .agg l, u, h => by obtain ⟨us, h1, h2⟩ := h; exact ⟨us, h1, viewAs_ok hI h2⟩
  | .tup l, u, h => by obtain ⟨us, h1, h2⟩ := h; exact ⟨us, h1, viewAs_ok hI h2⟩
theorem viewAs_ok (hI : Inv F μ S H w) : ∀ {l : List AV} {us : List Value}, VsOK μ S w l us → VsOK μ (SH μ S H) w (viewAs H l) us
  | [], us, h => h
  | a :: l, us, h => by
    obtain ⟨u, us', h1, h2, h3⟩ := h
    exact ⟨u, us', h1, viewA_ok hI h2, viewAs_ok hI h3⟩
end

mutual
theorem noId_ok {μ' : Nat → Value} : ∀ {a : AV} {u : Value}, noId a = true → VOK μ S w a u → VOK μ' S w a u
  | .own _, u, h, _ => by simp [noId] at h
  | .ptr _ _, u, h, _ => by simp [noId] at h
  | .optr _ _ _ _, u, h, _ => by simp [noId] at h
  | .mp _, u, h, _ => by simp [noId] at h
  | .top, u, _, h => h
  | .sc v, u, _, h => h
  | .row t l, u, _, h => h
  | .eptr t x off, u, _, h => h
  | .fn f l, u, hn, h => by obtain ⟨us, h1, h2⟩ := h; exact ⟨us, h1, noIds_ok (by simpa [noId] using hn) h2⟩
  | .agg l, u, hn, h => by obtain ⟨us, h1, h2⟩ := h; exact ⟨us, h1, noIds_ok (by simpa [noId] using hn) h2⟩
  | .tup l, u, hn, h => by obtain ⟨us, h1, h2⟩ := h; exact ⟨us, h1, noIds_ok (by simpa [noId] using hn) h2⟩
theorem noIds_ok {μ' : Nat → Value} : ∀ {l : List AV} {us : List Value}, noIds l = true → VsOK μ S w l us → VsOK μ' S w l us
  | [], us, _, h => h
  | a :: l, us, hn, h => by
    obtain ⟨u, us', h1, h2, h3⟩ := h
    unfold noIds at hn
    cases ha : noId a with
    | true => rw [ha] at hn; exact ⟨u, us', h1, noId_ok ha h2, noIds_ok hn h3⟩
    | false => rw [ha] at hn; cases hn
end

mutual
theorem view_same (H : Hp) : ∀ {a : AV}, noId a = true → viewA H a = a
  | .own _, h => by simp [noId] at h
  | .ptr _ _, h => by simp [noId] at h
  | .optr _ _ _ _, h => by simp [noId] at h
  | .mp _, h => by simp [noId] at h
  | .top, _ => rfl
  | .sc v, _ => rfl
  | .row t l, _ => rfl
  | .eptr t x off, _ => rfl
  | .fn f l, hn => by rw [viewA, views_same H (by simpa [noId] using hn)]
  | .agg l, hn => by rw [viewA, views_same H (by simpa [noId] using hn)]
  | .tup l, hn => by rw [viewA, views_same H (by simpa [noId] using hn)]
theorem views_same (H : Hp) : ∀ {l : List AV}, noIds l = true → viewAs H l = l
  | [], _ => rfl
  | a :: l, hn => by
    unfold noIds at hn
    cases ha : noId a with
    | true => rw [ha] at hn; rw [viewAs, view_same H ha, views_same H hn]
    | false => rw [ha] at hn; cases hn
end

theorem flatT_ok {S' : Nat → Prop} : ∀ {t : Ty} {x : El t} {cs : List Value}, flatT t = true → Rd S w t x cs → Rd S' w t x cs
  | .int k, x, cs, _, h => h
  | .bool, x, cs, _, h => h
  | .str, x, cs, _, h => h
  | .sl t, x, cs, hf, h => by simp [flatT] at hf
  | .pair a b, x, cs, hf, h => by
    simp only [flatT, Bool.and_eq_true] at hf
    obtain ⟨c1, c2, h1, h2, h3⟩ := h
    exact ⟨c1, c2, h1, flatT_ok hf.1 h2, flatT_ok hf.2 h3⟩
theorem flatL_ok {S' : Nat → Prop} {t : Ty} (hf : flatT t = true) : ∀ {l : List (El t)} {us : List Value}, RdL S w t l us → RdL S' w t l us
  | [], us, h => h
  | x :: l, us, h => by
    obtain ⟨c1, c2, h1, h2, h3⟩ := h
    exact ⟨c1, c2, h1, flatT_ok hf h2, flatL_ok hf h3⟩
mutual
theorem flatA_ok {S' : Nat → Prop} : ∀ {a : AV} {u : Value}, flatA a = true → VOK μ S w a u → VOK μ S' w a u
  | .row _ _, u, h, _ => by simp [flatA] at h
  | .eptr _ _ _, u, h, _ => by simp [flatA] at h
  | .own j, u, _, h => h
  | .ptr j o, u, _, h => h
  | .optr i n s o, u, _, h => h
  | .mp i, u, _, h => h
  | .top, u, _, h => h
  | .sc v, u, _, h => h
  | .fn f l, u, hn, h => by obtain ⟨us, h1, h2⟩ := h; exact ⟨us, h1, flatAs_ok (by simpa [flatA] using hn) h2⟩
  | .agg l, u, hn, h => by obtain ⟨us, h1, h2⟩ := h; exact ⟨us, h1, flatAs_ok (by simpa [flatA] using hn) h2⟩
  | .tup l, u, hn, h => by obtain ⟨us, h1, h2⟩ := h; exact ⟨us, h1, flatAs_ok (by simpa [flatA] using hn) h2⟩
theorem flatAs_ok {S' : Nat → Prop} : ∀ {l : List AV} {us : List Value}, flatAs l = true → VsOK μ S w l us → VsOK μ S' w l us
  | [], us, _, h => h
  | a :: l, us, hn, h => by
    obtain ⟨u, us', h1, h2, h3⟩ := h
    unfold flatAs at hn
    cases ha : flatA a with
    | true => rw [ha] at hn; exact ⟨u, us', h1, flatA_ok ha h2, flatAs_ok hn h3⟩
    | false => rw [ha] at hn; cases hn
end
theorem flatB_ok {S' : Nat → Prop} {id : Nat} {B : ABlk} (hf : flatB (some B) = true) (h : BOK μ S w id B) : BOK μ S' w id B := by
  cases B with
  | box T l =>
    obtain ⟨b, us, h1, h2, h3⟩ := h
    exact ⟨b, us, h1, h2, flatAs_ok hf h3⟩
  | arr e t l =>
    rcases h with h | ⟨b, c, us, rest, h1, h2, h3, h4, h5, h6⟩
    · exact .inl h
    · exact .inr ⟨b, c, us, rest, h1, h2, h3, h4, h5, flatL_ok hf h6⟩
  | mp kt vt m => exact h

def CallOK (D : Prop) (P : Program) (T : Tab) : Prop :=
  (∀ g args out, T g args = some out → ∀ vals w, (callFunc g vals).run P w = .ok (.enter g vals) w) ∧
  (∀ g args out x, T g args = some out → out.o = some x → ∀ (S : Nat → Prop) (w : World) (vals : List Value), (∀ b, S b → b < w.heap.size) → VsOK (fun _ => undef) S w args vals →
    Calls P g vals.toArray w fun e w' => ∃ v u S', e = .returned v ∧ Bel D w w' ∧ (∀ b, S b → S' b) ∧ (∀ b, S' b → (S b ∨ w.heap.size ≤ b) ∧ b < w'.heap.size) ∧
      (∀ id, VOK (fun _ => u) S' w' (out.f x id) v) ∧ ∀ B, out.nb x = some B → (∀ id, BOK (fun _ => u) S' w' id B) ∧ ∀ b, bof u = some b → w.heap.size ≤ b ∧ ¬ S' b) ∧
  ∀ g t l args out, T.w g t l args = some out → (∀ vals w, (callFunc g vals).run P w = .ok (.enter g vals) w) ∧ ∀ l', out.o = some l' → WHas D P g t l l' args out.ret

theorem call_inv {w' : World} {S' : Nat → Prop} (hI : Inv F μ S H w) (hb : Bel D w w') (hS : ∀ b, S b → S' b) (hS2 : ∀ b, S' b → (S b ∨ w.heap.size ≤ b) ∧ b < w'.heap.size) : Inv F μ S' H w' := by
  have hSw : ∀ b, S b → w'.heap[b]? = w.heap[b]? := fun b h => hb.block b (hI.Slt b h)
  refine ⟨fun i B hB => BOK.mono hS hb.size hSw (fun b h => hb.block b (bof_lt (hI.blk i B hB) h)) (hI.blk i B hB), hI.apart, ?_, fun b h => (hS2 b h).2, fun b h => hS b (hI.S0 b h), ?_, fun b h1 h2 => (hb.block b (Nat.lt_of_lt_of_le h1 hI.size)).trans (hI.frame b h1 h2), Nat.le_trans hI.size hb.size, hb.os.trans hI.os, hb.tape.trans hI.tape, hb.output.trans hI.output, fun x => Nat.le_trans (hI.drawn x) (hb.drawn x)⟩
  · intro i B hi b hbi
    refine ⟨fun hs => ?_, (hI.notS i B hi b hbi).2⟩
    rcases (hS2 b hs).1 with h1 | h1
    · exact (hI.notS i B hi b hbi).1 h1
    · have := bof_lt (hI.blk i B hi) hbi
      omega
  · intro b hs
    rcases (hS2 b hs).1 with h1 | h1
    · exact hI.Sfrom b h1
    · exact .inr (.inr (Nat.le_trans hI.size h1))

theorem but_inv {w' : World} {S' : Nat → Prop} {v : Value} (hI : Inv F μ S H w) (hb : BelBut D v w w') (hv : ∀ b, bof v = some b → ¬ S b ∧ (F.w0.heap.size ≤ b ∨ F.O b)) (hn : ∀ j B, lk H j = some B → ∀ b, bof (μ j) = some b → bof v ≠ some b)
    (hS : ∀ b, S b → S' b) (hS2 : ∀ b, S' b → (S b ∨ w.heap.size ≤ b) ∧ b < w'.heap.size) : Inv F μ S' H w' := by
  have hSw : ∀ b, S b → w'.heap[b]? = w.heap[b]? := fun b h => hb.block b (hI.Slt b h) (fun e => (hv b e).1 h)
  refine ⟨fun i B hB => BOK.mono hS hb.size hSw (fun b h => hb.block b (bof_lt (hI.blk i B hB) h) (hn i B hB b h)) (hI.blk i B hB), hI.apart, ?_, fun b h => (hS2 b h).2, fun b h => hS b (hI.S0 b h), ?_, ?_, Nat.le_trans hI.size hb.size, hb.os.trans hI.os, hb.tape.trans hI.tape, hb.output.trans hI.output, fun x => Nat.le_trans (hI.drawn x) (hb.drawn x)⟩
  · intro i B hi b hbi
    refine ⟨fun hs => ?_, (hI.notS i B hi b hbi).2⟩
    rcases (hS2 b hs).1 with h1 | h1
    · exact (hI.notS i B hi b hbi).1 h1
    · have := bof_lt (hI.blk i B hi) hbi
      omega
  · intro b hs
    rcases (hS2 b hs).1 with h1 | h1
    · exact hI.Sfrom b h1
    · exact .inr (.inr (Nat.le_trans hI.size h1))
  · intro b h1 h2
    refine (hb.block b (Nat.lt_of_lt_of_le h1 hI.size) (fun e => ?_)).trans (hI.frame b h1 h2)
    rcases (hv b e).2 with h3 | h3
    · omega
    · exact h2 h3

theorem Inv.again {d : Nat} {B0 B : ABlk} (hI : Inv F μ S (rm d H) w) (hB : BOK μ S w d B) (hnS : ∀ b, bof (μ d) = some b → ¬ S b ∧ (F.w0.heap.size ≤ b ∨ F.O b)) (hap : ∀ j Bj, lk H j = some Bj → j ≠ d → ∀ b, bof (μ j) = some b → bof (μ d) = some b → False) :
    Inv F μ S ((d, B) :: rm d H) w := by
  have old : ∀ i Bi, lk ((d, B) :: rm d H) i = some Bi → i ≠ d → lk (rm d H) i = some Bi := by
    intro i Bi hi hne
    rwa [lk_cons_other hne] at hi
  refine ⟨?_, ?_, ?_, hI.Slt, hI.S0, hI.Sfrom, hI.frame, hI.size, hI.os, hI.tape, hI.output, hI.drawn⟩
  · intro i Bi hi
    by_cases e : i = d
    · subst e
      rw [lk_cons_same] at hi
      cases hi
      exact hB
    · exact hI.blk i Bi (old i Bi hi e)
  · intro i j Bi Bj hi hj hne b hbi hbj
    by_cases ei : i = d
    · by_cases ej : j = d
      · exact hne (ei.trans ej.symm)
      · have h := old j Bj hj ej
        rw [lk_rm_other ej] at h
        exact hap j Bj h ej b hbj (ei ▸ hbi)
    · by_cases ej : j = d
      · have h := old i Bi hi ei
        rw [lk_rm_other ei] at h
        exact hap i Bi h ei b hbi (ej ▸ hbj)
      · exact hI.apart i j Bi Bj (old i Bi hi ei) (old j Bj hj ej) hne b hbi hbj
  · intro i Bi hi b hbi
    by_cases e : i = d
    · subst e
      exact hnS b hbi
    · exact hI.notS i Bi (old i Bi hi e) b hbi

theorem name_inv {w' : World} {id : Nat} {u : Value} {B : ABlk} {n : Nat} (hI : Inv F μ S H w') (hn : F.w0.heap.size ≤ n) (hold : ∀ j Bj, lk H j = some Bj → ∀ b, bof (μ j) = some b → b < n) (hB : BOK (upd μ id u) S w' id B) (hu : ∀ b, bof u = some b → n ≤ b ∧ ¬ S b) :
    Inv F (upd μ id u) S ((id, B) :: keepH (but id) (rm id H)) w' := by
  have hμ : ∀ j, but id j = true → upd μ id u j = μ j := fun j hj => upd_other μ u (but_iff.1 hj)
  have old : ∀ j B', lk ((id, B) :: keepH (but id) (rm id H)) j = some B' → j ≠ id → ∃ B0, lk H j = some B0 ∧ B' = keepB (but id) B0 := by
    intro j B' hj hne
    rw [lk_cons_other hne, lk_keepH, lk_rm_other hne] at hj
    cases hk : lk H j with
    | none => rw [hk] at hj; cases hj
    | some B0 => rw [hk] at hj; exact ⟨B0, rfl, (Option.some.inj hj).symm⟩
  refine ⟨?_, ?_, ?_, hI.Slt, hI.S0, hI.Sfrom, hI.frame, hI.size, hI.os, hI.tape, hI.output, hI.drawn⟩
  · intro j B' hj
    by_cases hne : j = id
    · subst hne
      rw [lk_cons_same] at hj
      cases hj
      exact hB
    · obtain ⟨B0, h0, rfl⟩ := old j B' hj hne
      exact BOK.keep hμ (fun _ h => h) (Nat.le_refl _) (fun _ _ => rfl) (upd_other μ u hne) (fun _ _ => rfl) (hI.blk j B0 h0)
  · intro i j Bi Bj hi hj hne b hbi hbj
    by_cases ei : i = id
    · by_cases ej : j = id
      · exact hne (ei.trans ej.symm)
      · obtain ⟨B0, h0, rfl⟩ := old j Bj hj ej
        rw [ei, upd_same] at hbi
        rw [upd_other μ u ej] at hbj
        have := hold j B0 h0 b hbj
        have := (hu b hbi).1
        omega
    · obtain ⟨B0, h0, rfl⟩ := old i Bi hi ei
      rw [upd_other μ u ei] at hbi
      by_cases ej : j = id
      · rw [ej, upd_same] at hbj
        have := hold i B0 h0 b hbi
        have := (hu b hbj).1
        omega
      · obtain ⟨B1, h1, rfl⟩ := old j Bj hj ej
        rw [upd_other μ u ej] at hbj
        exact hI.apart i j B0 B1 h0 h1 hne b hbi hbj
  · intro i Bi hi b hb
    by_cases ei : i = id
    · rw [ei, upd_same] at hb
      exact ⟨(hu b hb).2, .inl (Nat.le_trans hn (hu b hb).1)⟩
    · obtain ⟨B0, h0, rfl⟩ := old i Bi hi ei
      rw [upd_other μ u ei] at hb
      exact hI.notS i B0 h0 b hb

mutual
def onlyId (id : Nat) : AV → Bool
  | .own j => Nat.beq j id
  | .ptr j _ => Nat.beq j id
  | .optr j _ _ _ => Nat.beq j id
  | .mp j => Nat.beq j id
  | .agg l => onlyIds id l
  | .tup l => onlyIds id l
  | .fn _ l => onlyIds id l
  | _ => true
def onlyIds (id : Nat) : List AV → Bool
  | [] => true
  | a :: l => match onlyId id a with
    | true => onlyIds id l
    | false => false
end
mutual
theorem onlyId_ok {μ' : Nat → Value} {id : Nat} (hμ : μ' id = μ id) : ∀ {a : AV} {u : Value}, onlyId id a = true → VOK μ S w a u → VOK μ' S w a u
  | .own j, u, h, hu => by have := Nat.eq_of_beq_eq_true h; subst this; rw [VOK] at hu ⊢; rw [hμ]; exact hu
  | .ptr j o, u, h, hu => by have := Nat.eq_of_beq_eq_true h; subst this; rw [VOK] at hu ⊢; rw [hμ]; exact hu
  | .optr j n s o, u, h, hu => by have := Nat.eq_of_beq_eq_true h; subst this; rw [VOK] at hu ⊢; rw [hμ]; exact hu
  | .mp j, u, h, hu => by have := Nat.eq_of_beq_eq_true h; subst this; rw [VOK] at hu ⊢; rw [hμ]; exact hu
  | .top, u, _, h => h
  | .sc v, u, _, h => h
  | .row t l, u, _, h => h
  | .eptr t x off, u, _, h => h
  | .fn f l, u, hn, h => by obtain ⟨us, h1, h2⟩ := h; exact ⟨us, h1, onlyIds_ok hμ (by simpa [onlyId] using hn) h2⟩
  | .agg l, u, hn, h => by obtain ⟨us, h1, h2⟩ := h; exact ⟨us, h1, onlyIds_ok hμ (by simpa [onlyId] using hn) h2⟩
  | .tup l, u, hn, h => by obtain ⟨us, h1, h2⟩ := h; exact ⟨us, h1, onlyIds_ok hμ (by simpa [onlyId] using hn) h2⟩
theorem onlyIds_ok {μ' : Nat → Value} {id : Nat} (hμ : μ' id = μ id) : ∀ {l : List AV} {us : List Value}, onlyIds id l = true → VsOK μ S w l us → VsOK μ' S w l us
  | [], us, _, h => h
  | a :: l, us, hn, h => by
    obtain ⟨u, us', h1, h2, h3⟩ := h
    unfold onlyIds at hn
    cases ha : onlyId id a with
    | true => rw [ha] at hn; exact ⟨u, us', h1, onlyId_ok hμ ha h2, onlyIds_ok hμ hn h3⟩
    | false => rw [ha] at hn; cases hn
end
def onlyB (id : Nat) : ABlk → Bool
  | .box _ l => onlyIds id l
  | .arr _ _ _ => true
  | .mp _ _ _ => true
theorem onlyB_ok {μ' : Nat → Value} {id : Nat} (hμ : μ' id = μ id) {B : ABlk} (hB : onlyB id B = true) (h : BOK μ S w id B) : BOK μ' S w id B := by
  cases B with
  | box T l =>
    obtain ⟨b, us, h1, h2, h3⟩ := h
    exact ⟨b, us, hμ.trans h1, h2, onlyIds_ok hμ hB h3⟩
  | arr e t l =>
    rcases h with ⟨A, h1, h2⟩ | ⟨b, c, us, rest, h1, h2⟩
    · exact .inl ⟨A, hμ.trans h1, h2⟩
    · exact .inr ⟨b, c, us, rest, hμ.trans h1, h2⟩
  | mp kt vt m =>
    obtain ⟨b, es, cl, h1, h2⟩ := h
    exact ⟨b, es, cl, hμ.trans h1, h2⟩
end
end Go.Proofs.YtgkmfhmodojdcaaE

namespace Go.Proofs.YtgkmfhmodojdcaaE
open Go
set_option linter.unusedVariables false

mutual
def ownsA : AV → List Nat
  | .own j => [j]
  | .agg l => ownsAs l
  | .tup l => ownsAs l
  | _ => []
def ownsAs : List AV → List Nat
  | [] => []
  | a :: l => ownsA a ++ ownsAs l
end

def freezeAll : List Nat → St → St
  | [], st => st
  | j :: l, st => freezeAll l (freeze j st)

def preF (op : Op) (st : St) : St := match op with
  | .slice _ x _ _ none => match evl st.tm x with
    | .own j => freeze j st
    | _ => st
  | .convert _ _ x => match evl st.tm x with
    | .own j => freeze j st
    | _ => st
  | .buildSlice _ _ parts => freezeAll (ownsAs (parts.toList.map fun p => evl st.tm p.2)) st
  | .store _ p x => match evl st.tm p with
    | .optr _ _ _ _ => freezeAll (ownsA (evl st.tm x)) st
    | _ => st
  | _ => st

section
variable {R : Type}

structure WT where
  j : Nat
  e : TypeId
  t : Ty
  out : OutW t
def wtry (T : Tab) (H : Hp) (g : FuncId) (args caps : List AV) : Option WT := match args with
  | .own j :: rest => match lk H j with
    | some (.arr e t l) => match flatT t, noIds (viewAs (rm j H) (rest ++ caps)) with
      | true, true => match T.w g t l (viewAs (rm j H) (rest ++ caps)) with
        | some out => some ⟨j, e, t, out⟩
        | none => none
      | _, _ => none
    | _ => none
  | _ => none
def evCall (T : Tab) (dst : Option Nat) (c : Call) (st : St) (id : Nat) (k : St → Option R) : Option R :=
  match c.callee with
  | .value f => match evl st.tm f with
    | .fn g caps => match wtry T st.H g (c.args.toList.map (evl st.tm)) caps with
     | some wt => wt.out.o.bind fun l' => match wt.out.ret with
       | false => k ⟨putA st.tm dst (.sc (.tuple #[])), (wt.j, .arr wt.e wt.t l') :: rm wt.j st.H⟩
       | true => k ⟨putA (keeps (but id) st.tm) dst (.own id), (id, .arr wt.e wt.t l') :: keepH (but id) (rm id (rm wt.j st.H))⟩
     | none => match noIds (viewAs st.H (c.args.toList.map (evl st.tm) ++ caps)) with
      | true => match T g (viewAs st.H (c.args.toList.map (evl st.tm) ++ caps)) with
        | some out => out.o.bind fun x => match onlyId id (out.f x id), noIds (c.args.toList.map (evl st.tm) ++ caps) || (flatA (out.f x id) && flatB (out.nb x)) with
          | true, true => match out.nb x with
            | none => match noId (out.f x id) with
              | true => k ⟨putA st.tm dst (out.f x id), st.H⟩
              | false => none
            | some B => match onlyB id B with
              | true => k ⟨putA (keeps (but id) st.tm) dst (out.f x id), (id, B) :: keepH (but id) (rm id st.H)⟩
              | false => none
          | _, _ => none
        | none => none
      | false => none
    | _ => none
  | _ => none

def evOp0 (P : Program) (T : Tab) (base : Nat) (o : Oper) (st0 : St) (k : St → Option R) : Option R :=
  let st := preF o.op st0
  let id := base + o.dst.getD 0
  match pureOp P o.op (evl st.tm) with
  | .ok av => k ⟨putA st.tm o.dst av, st.H⟩
  | .chk c av => if c = true then k ⟨putA st.tm o.dst av, st.H⟩ else none
  | .no => match evH P st.H o.op (evl st.tm) id with
    | .go c av H g => if c = true then k ⟨putA (tmGone st.tm g) o.dst av, H⟩ else none
    | .no => match evG P st.H o.op (evl st.tm) id with
      | .go c av H g => if c = true then k ⟨putA (tmGone st.tm g) o.dst av, H⟩ else none
      | .no => match evM P st.H o.op (evl st.tm) id with
        | .go c av H g => if c = true then k ⟨putA (tmGone st.tm g) o.dst av, H⟩ else none
        | .no => match o.op with
          | .call c => evCall T o.dst c st id k
          | _ => none

def idxOf (P : Program) (op : Op) (tm : List AV) : Option (Nat × IntKind × Int × Nat) := match op with
  | .indexAddr t _ (.tmp s) => match P.underlying t, tm[s]? with
    | some (.array len _), some (.sc (.int k n)) => some (s, k, n, len)
    | _, _ => none
  | .index t _ (.tmp s) => match P.underlying t, tm[s]? with
    | some (.array len _), some (.sc (.int k n)) => some (s, k, n, len)
    | _, _ => none
  | _ => none
def splitN : Nat → Nat → Int → (Nat → Option R) → Option R
  | 0, _, _, _ => none
  | f + 1, m, n, k => if n = (m : Int) then k m else splitN f (m + 1) n k
theorem both_ex (R : Type) : ∃ f : Option R → Option R → Option R, (∀ a b r, f a b = some r → a = some r ∧ b = some r) ∧ ∀ a, f a a = a := by
  classical
  refine ⟨fun a b => if a = b then a else none, fun a b r h => ?_, fun a => if_pos rfl⟩
  dsimp only at h
  split at h
  · rename_i e; exact ⟨h, e ▸ h⟩
  · cases h
noncomputable def both (a b : Option R) : Option R := Classical.choose (both_ex R) a b
theorem both_some {a b : Option R} {r : R} (h : both a b = some r) : a = some r ∧ b = some r := (Classical.choose_spec (both_ex R)).1 a b r h
theorem both_same (a : Option R) : both a a = a := (Classical.choose_spec (both_ex R)).2 a

def nilCmp (P : Program) (op : Op) (st : St) : Option (Bool × Nat) := match op with
  | .binOp b t x (.const (.slice none 0 0)) _ => match P.underlying t with
    | some (.slice _) => match b with
      | .eql => match evl st.tm x with
        | .row _ l => some (true, l.length)
        | .own j => match lk st.H j with
          | some (.arr _ _ l) => some (true, l.length)
          | _ => none
        | _ => none
      | .neq => match evl st.tm x with
        | .row _ l => some (false, l.length)
        | .own j => match lk st.H j with
          | some (.arr _ _ l) => some (false, l.length)
          | _ => none
        | _ => none
      | _ => none
    | _ => none
  | _ => none
def neg (b : Bool) : Bool := match b with
  | true => false
  | false => true
noncomputable def evOp (P : Program) (T : Tab) (base : Nat) (o : Oper) (st : St) (k : St → Option R) : Option R :=
  match idxOf P o.op st.tm with
  | some (s, kd, n, len) => splitN len 0 n fun m => evOp0 P T base o ⟨st.tm.set s (I kd m), st.H⟩ k
  | none => match nilCmp P o.op st with
    | some (e, n) => if n = 0 then both (k ⟨putA st.tm o.dst (B e), st.H⟩) (k ⟨putA st.tm o.dst (B (neg e)), st.H⟩) else k ⟨putA st.tm o.dst (B (neg e)), st.H⟩
    | none => evOp0 P T base o st k

def guardSlot (ops : Array Oper) (j : Nat) : Option Nat := (ops[j]?).bind (·.dst)

noncomputable def evGuard (P : Program) (T : Tab) (base : Nat) (ops : Array Oper) (o : Oper) (st : St) (k : St → Option R) : Option R :=
  match o.guard with
  | none => evOp P T base o st k
  | some (j, want) => match guardSlot ops j with
    | some t => match st.tm[t]? with
      | some (.sc (.bool b)) =>
        if b = true then match want with
          | true => evOp P T base o ⟨st.tm.set t (B true), st.H⟩ k
          | false => k ⟨putA (st.tm.set t (B true)) o.dst (.sc undef), st.H⟩
        else match want with
          | true => k ⟨putA (st.tm.set t (B false)) o.dst (.sc undef), st.H⟩
          | false => evOp P T base o ⟨st.tm.set t (B false), st.H⟩ k
      | some (.sc (.tuple _)) => k ⟨putA st.tm o.dst (.sc undef), st.H⟩
      | _ => none
    | none => none

noncomputable def evOps (P : Program) (T : Tab) (base : Nat) (ops : Array Oper) : List Oper → St → (St → Option R) → Option R
  | [], st, k => k st
  | o :: l, st, k => evGuard P T base ops o st fun st' => evOps P T base ops l st' k
end

section
variable {P : Program} {T : Tab} {D : Prop} {F : Fr D} {R : Type} {base : Nat}

theorem Gam.freezeAll {a : Act} {w : World} : ∀ {l : List Nat} {st : St}, Gam F st a w → Gam F (freezeAll l st) a w
  | [], st, h => h
  | j :: l, st, h => Gam.freezeAll (l := l) (Gam.freeze h j)
theorem Gam.pre {op : Op} {st : St} {a : Act} {w : World} (h : Gam F st a w) : Gam F (preF op st) a w := by
  unfold preF
  split
  · split
    · exact h.freeze _
    · exact h
  · split
    · exact h.freeze _
    · exact h
  · exact Gam.freezeAll h
  · split
    · exact Gam.freezeAll h
    · exact h
  · exact h

theorem upon_of {o : Oper} {a : Act} {w w' : World} {nx : Next} {v : Value} {next : Act → World → Prop} {Q : Exit → Act → World → Prop} (hr : (execOp a.eval o).run P w = .ok nx w') (hx : nx = .value v ∨ nx = .skip ∧ v = undef) (h : next (a.put o.dst v) w') : o.wp P a w next Q := by
  unfold Oper.wp
  rw [hr]
  rcases hx with rfl | ⟨rfl, rfl⟩
  · exact h
  · exact h

theorem step_wp {o : Oper} {a : Act} {w : World} {tm : List AV} {H : Hp} {av : AV} {next : Act → World → Prop} {Q : Exit → Act → World → Prop} (hs : Step P F o.op a w tm H av) (hD : a.defers = [])
    (h : ∀ a' w', Gam F ⟨putA tm o.dst av, H⟩ a' w' → next a' w') : o.wp P a w next Q := by
  obtain ⟨nx, v, w', μ, S, hr, hx, hI, hT, hv⟩ := hs o rfl
  exact upon_of hr hx (h _ _ ⟨μ, S, hI, putA_ok hT hv, by rw [put_defers]; exact hD⟩)

theorem evH_ok {op : Op} {H H' : Hp} {tm : List AV} {a : Act} {w : World} {μ : Nat → Value} {S : Nat → Prop} {id : Nat} {c : Bool} {av : AV} {g : Option Nat} (hI : Inv F μ S H w) (hT : VsOK μ S w tm a.tmps.toList) {ρ : Operand → AV} (hρ : ∀ x, VOK μ S w (ρ x) (a.eval x))
    (h : evH P H op ρ id = .go c av H' g) (hc : c = true) : Step P F op a w (tmGone tm g) H' av := by
  cases op with
  | alloc T => exact evH_alloc hI hT hρ h hc
  | box T x => exact evH_box hI hT hρ h hc
  | load T p => exact evH_load hI hT hρ h hc
  | store T p x => exact evH_store hI hT hρ h hc
  | indexAddr t x i => exact evH_index hI hT hρ h hc
  | call cl =>
    cases hcal : cl.callee with
    | builtin b => cases b <;> first | exact evH_len hcal hI hT hρ h hc | simp [evH, hcal] at h
    | value f => simp [evH, hcal] at h
    | invoke r m => simp [evH, hcal] at h
  | _ => simp [evH] at h

theorem evG_ok {op : Op} {H H' : Hp} {tm : List AV} {a : Act} {w : World} {μ : Nat → Value} {S : Nat → Prop} {id : Nat} {c : Bool} {av : AV} {g : Option Nat} (hI : Inv F μ S H w) (hT : VsOK μ S w tm a.tmps.toList) {ρ : Operand → AV} (hρ : ∀ x, VOK μ S w (ρ x) (a.eval x))
    (h : evG P H op ρ id = .go c av H' g) (hc : c = true) : Step P F op a w (tmGone tm g) H' av := by
  cases op with
  | build t parts => exact evG_build hI hT hρ h hc
  | buildSlice t n parts => exact evG_buildSlice hI hT hρ h hc
  | makeSlice t l c => exact evG_make hI hT hρ h hc
  | slice t x lo hi mx =>
    cases lo with
    | some _ => simp [evG] at h
    | none => cases hi with
      | none => simp [evG] at h
      | some hi => cases mx with
        | none => simp [evG] at h
        | some mx => exact evG_slice hI hT hρ h hc
  | call cl => exact evG_append hI hT hρ h hc
  | _ => simp [evG] at h

theorem call_core (hTab : CallOK D P T) {o : Oper} {c : Call} (ho : o.op = .call c) {f : Operand} (hcal : c.callee = .value f) {ρ : Operand → AV} {g : FuncId} {caps : List AV} (hf : ρ f = .fn g caps) {H : Hp} {out : Out} {x : out.α}
    (hno : noIds (viewAs H (c.args.toList.map ρ ++ caps)) = true) (hout : T g (viewAs H (c.args.toList.map ρ ++ caps)) = some out) (hx : out.o = some x) {id : Nat}
    (hchk : (noIds (c.args.toList.map ρ ++ caps) || (flatA (out.f x id) && flatB (out.nb x))) = true) {a : Act} {w : World} {μ : Nat → Value} {S : Nat → Prop} (hI : Inv F μ S H w) (hρ : ∀ x, VOK μ S w (ρ x) (a.eval x)) {next : Act → World → Prop} {Q : Exit → Act → World → Prop}
    (hk : ∀ (v u : Value) (S2 : Nat → Prop) (w' : World), Bel D w w' → Inv F μ (fun b => S b ∨ (w.heap.size ≤ b ∧ S2 b)) H w' → (∀ b, S2 b → b < w'.heap.size) → VOK (fun _ => u) (fun b => S b ∨ (w.heap.size ≤ b ∧ S2 b)) w' (out.f x id) v →
      (∀ B, out.nb x = some B → BOK (fun _ => u) (fun b => S b ∨ (w.heap.size ≤ b ∧ S2 b)) w' id B ∧ ∀ b, bof u = some b → w.heap.size ≤ b ∧ ¬ S2 b) → next (a.put o.dst v) w') : o.wp P a w next Q := by
  have hfv := hρ f
  rw [hf] at hfv
  obtain ⟨us, hfe, hus⟩ := hfv
  have hargs : VsOK μ S w (c.args.toList.map ρ ++ caps) (c.args.toList.map a.eval ++ us) := VsOK.append (map_ok hρ _) hus
  have hSH : ∀ b, SH μ S H b → b < w.heap.size := by
    rintro b (hb | ⟨j, B, hj, hb⟩)
    · exact hI.Slt b hb
    · exact bof_lt (hI.blk j B hj) hb
  have hrun : (execOp a.eval o).run P w = .ok (.enter g (c.args.toList.map a.eval ++ us).toArray) w := by
    have he := hTab.1 g _ out hout (#[] ++ c.args.map a.eval ++ us.toArray) w
    have e2 : (#[] ++ c.args.map a.eval ++ us.toArray) = (c.args.toList.map a.eval ++ us).toArray := by
      apply Array.toList_inj.1
      simp
    rw [e2] at he
    simp only [execOp, ho, resolve, hcal, Sem.run_bind, Sem.run_pure, Result.andThen_ok, Deferred.ofValue, hfe, invoke, e2, he]
  have fin : ∀ (S1 : Nat → Prop), (∀ b, S1 b → b < w.heap.size) → VsOK (fun _ => undef) S1 w (viewAs H (c.args.toList.map ρ ++ caps)) (c.args.toList.map a.eval ++ us) →
      (∀ (u : Value) (S2 : Nat → Prop) (w' : World) (v : Value), (∀ b, S2 b → (S1 b ∨ w.heap.size ≤ b) ∧ b < w'.heap.size) → VOK (fun _ => u) S2 w' (out.f x id) v → VOK (fun _ => u) (fun b => S b ∨ (w.heap.size ≤ b ∧ S2 b)) w' (out.f x id) v) →
      (∀ (u : Value) (S2 : Nat → Prop) (w' : World) (B : ABlk), (∀ b, S2 b → (S1 b ∨ w.heap.size ≤ b) ∧ b < w'.heap.size) → out.nb x = some B → BOK (fun _ => u) S2 w' id B → BOK (fun _ => u) (fun b => S b ∨ (w.heap.size ≤ b ∧ S2 b)) w' id B) →
      o.wp P a w next Q := by
    intro S1 hlt hvs hfv hfb
    have hc := hTab.2.1 g _ out x hout hx S1 w _ hlt hvs
    unfold Oper.wp
    rw [hrun]
    refine hc.mono ?_
    rintro e w' ⟨v, u, S2, rfl, hb, hs1, hs2, hv, hB⟩
    have hI' : Inv F μ (fun b => S b ∨ (w.heap.size ≤ b ∧ S2 b)) H w' := call_inv hI hb (fun b h => .inl h) (fun b h => by
      rcases h with h | ⟨h1, h2⟩
      · exact ⟨.inl h, Nat.lt_of_lt_of_le (hI.Slt b h) hb.size⟩
      · exact ⟨.inr h1, (hs2 b h2).2⟩)
    show next (a.put o.dst v) w'
    exact hk v u S2 w' hb hI' (fun b h => (hs2 b h).2) (hfv u S2 w' v hs2 (hv id)) (fun B hnb => ⟨hfb u S2 w' B hs2 hnb ((hB B hnb).1 id), (hB B hnb).2⟩)
  cases hni : noIds (c.args.toList.map ρ ++ caps) with
  | true =>
    refine fin S hI.Slt (by rw [views_same H hni]; exact noIds_ok hni hargs) ?_ ?_
    · intro u S2 w' v hs2 hv
      exact VOK.mono (fun b hb => ((hs2 b hb).1).imp (fun h => h) (fun h => ⟨h, hb⟩)) (Nat.le_refl _) (fun _ _ => rfl) hv
    · intro u S2 w' B hs2 hnb hB
      exact BOK.mono (fun b hb => ((hs2 b hb).1).imp (fun h => h) (fun h => ⟨h, hb⟩)) (Nat.le_refl _) (fun _ _ => rfl) (fun _ _ => rfl) hB
  | false =>
    rw [hni, Bool.false_or, Bool.and_eq_true] at hchk
    refine fin (SH μ S H) hSH (noIds_ok hno (viewAs_ok hI hargs)) ?_ ?_
    · intro u S2 w' v hs2 hv
      exact flatA_ok hchk.1 hv
    · intro u S2 w' B hs2 hnb hB
      exact flatB_ok (by rw [← hnb]; exact hchk.2) hB

theorem wtry_ok {H : Hp} {g : FuncId} {args caps : List AV} {wt : WT} (h : wtry T H g args caps = some wt) : ∃ rest l, args = .own wt.j :: rest ∧ lk H wt.j = some (.arr wt.e wt.t l) ∧ flatT wt.t = true ∧ noIds (viewAs (rm wt.j H) (rest ++ caps)) = true ∧ T.w g wt.t l (viewAs (rm wt.j H) (rest ++ caps)) = some wt.out := by
  unfold wtry at h
  split at h
  · rename_i j rest
    split at h
    · rename_i e t l hk
      split at h
      · rename_i h1 h2
        split at h
        · rename_i out ho
          cases h
          exact ⟨rest, l, rfl, hk, h1, h2, ho⟩
        · cases h
      · cases h
    · cases h
  · cases h

theorem arr_flat {μ μ' : Nat → Value} {S S' : Nat → Prop} {w : World} {i j : Nat} {e : TypeId} {t : Ty} {l : List (El t)} (hf : flatT t = true) (hμ : μ' j = μ i) (h : BOK μ S w i (.arr e t l)) : BOK μ' S' w j (.arr e t l) := by
  rcases h with ⟨A, h1, h2⟩ | ⟨b, c, us, rest, h1, h2, h3, h4, h5, h6⟩
  · exact .inl ⟨A, hμ.trans h1, h2⟩
  · exact .inr ⟨b, c, us, rest, hμ.trans h1, h2, h3, h4, h5, flatL_ok hf h6⟩

theorem evW_ok (hTab : CallOK D P T) {o : Oper} {c : Call} (ho : o.op = .call c) {f : Operand} (hcal : c.callee = .value f) {st : St} {a : Act} {w : World} {id : Nat} {g : FuncId} {caps : List AV} (hf : evl st.tm f = .fn g caps) {wt : WT} (hw : wtry T st.H g (c.args.toList.map (evl st.tm)) caps = some wt)
    {k : St → Option R} {r : R} {next : Act → World → Prop} {Q : Exit → Act → World → Prop}
    (h : (wt.out.o.bind fun l' => match wt.out.ret with
       | false => k ⟨putA st.tm o.dst (.sc (.tuple #[])), (wt.j, .arr wt.e wt.t l') :: rm wt.j st.H⟩
       | true => k ⟨putA (keeps (but id) st.tm) o.dst (.own id), (id, .arr wt.e wt.t l') :: keepH (but id) (rm id (rm wt.j st.H))⟩) = some r)
    (hG : Gam F st a w) (hk : ∀ st' a' w', Gam F st' a' w' → k st' = some r → next a' w') : o.wp P a w next Q := by
  obtain ⟨μ, S, hI, hV, hD⟩ := hG
  obtain ⟨rest, l, hargs, hlk, hft, hno, hTw⟩ := wtry_ok hw
  obtain ⟨l', hl', h⟩ := Option.bind_eq_some_iff.1 h
  have hcon := hTab.2.2 g wt.t l _ wt.out hTw
  have hfv := evl_ok (a := a) hV f
  rw [hf] at hfv
  obtain ⟨us, hfe, hus⟩ := hfv
  have hav : VsOK μ S w (c.args.toList.map (evl st.tm) ++ caps) (c.args.toList.map a.eval ++ us) := VsOK.append (map_ok (evl_ok hV) _) hus
  rw [hargs] at hav
  obtain ⟨v, vals, hvs, hv0, hvr⟩ := hav
  rw [VOK] at hv0
  have hBj := hI.blk wt.j _ hlk
  have hId := hI.drop wt.j
  have hSlt : ∀ b, SH μ S (rm wt.j st.H) b → b < w.heap.size := by
    rintro b (hb | ⟨i, B, hi, hb⟩)
    · exact hI.Slt b hb
    · exact bof_lt (hId.blk i B hi) hb
  have hrun : (execOp a.eval o).run P w = .ok (.enter g (v :: vals).toArray) w := by
    have he := hcon.1 (#[] ++ c.args.map a.eval ++ us.toArray) w
    have e2 : (#[] ++ c.args.map a.eval ++ us.toArray) = (v :: vals).toArray := by
      apply Array.toList_inj.1
      rw [← hvs]
      simp
    rw [e2] at he
    simp only [execOp, ho, resolve, hcal, Sem.run_bind, Sem.run_pure, Result.andThen_ok, Deferred.ofValue, hfe, invoke, e2, he]
  have hnj : ∀ i B, lk (rm wt.j st.H) i = some B → i ≠ wt.j ∧ lk st.H i = some B := by
    intro i B hi
    by_cases e : i = wt.j
    · rw [e, lk_rm_same] at hi; cases hi
    · exact ⟨e, by rwa [lk_rm_other e] at hi⟩
  have hvS : ∀ b, bof v = some b → ¬ SH μ S (rm wt.j st.H) b := by
    rintro b hb (hs | ⟨i, B, hi, hbi⟩)
    · rw [hv0.1] at hb
      exact (hI.notS _ _ hlk b hb).1 hs
    · rw [hv0.1] at hb
      have := hnj i B hi
      exact hI.apart i wt.j B _ this.2 hlk this.1 b hbi hb
  have hcall := hcon.2 l' hl' (SH μ S (rm wt.j st.H)) w v vals wt.e hSlt (arr_flat hft hv0.1 hBj) hvS (noIds_ok hno (viewAs_ok hId hvr))
  unfold Oper.wp
  rw [hrun]
  refine hcall.mono ?_
  rintro ex w' ⟨v', S', rfl, hret, hbut, hs1, hs2, hB', hv'⟩
  have hsz := hbut.size
  have hS2 : ∀ b, (S b ∨ (w.heap.size ≤ b ∧ S' b)) → (S b ∨ w.heap.size ≤ b) ∧ b < w'.heap.size := by
    rintro b (hb | ⟨h1, h2⟩)
    · exact ⟨.inl hb, Nat.lt_of_lt_of_le (hI.Slt b hb) hsz⟩
    · exact ⟨.inr h1, (hs2 b h2).2⟩
  have hvS' : ∀ b, bof v = some b → ¬ S b ∧ (F.w0.heap.size ≤ b ∨ F.O b) := by
    intro b hb
    rw [hv0.1] at hb
    exact hI.notS _ _ hlk b hb
  have hI2 : Inv F μ (fun b => S b ∨ (w.heap.size ≤ b ∧ S' b)) (rm wt.j st.H) w' := but_inv hId hbut hvS' (fun i B hi b hbi hbv => by
    rw [hv0.1] at hbv
    have := hnj i B hi
    exact hI.apart i wt.j B _ this.2 hlk this.1 b hbi hbv) (fun b h => .inl h) hS2
  have hSw : ∀ b, S b → w'.heap[b]? = w.heap[b]? := fun b hb => hbut.block b (hI.Slt b hb) (fun e => (hvS' b e).1 hb)
  have hVm : VsOK μ (fun b => S b ∨ (w.heap.size ≤ b ∧ S' b)) w' st.tm a.tmps.toList := VsOK.mono (fun b h => .inl h) hsz hSw hV
  show next (a.put o.dst _) w'
  split at h
  · rename_i hr
    have hvv := hret hr
    subst hvv
    simp only [hr]
    have hlt' : ∀ b, bof v' = some b → b < w.heap.size := fun b hb => by rw [hv0.1] at hb; exact bof_lt hBj hb
    have hI3 := Inv.again (d := wt.j) (B0 := .arr wt.e wt.t l') (B := .arr wt.e wt.t l') hI2 (arr_flat hft hv0.1.symm hB') (fun b hb => by
      have hb' : bof v' = some b := by rw [hv0.1]; exact hb
      refine ⟨?_, (hvS' b hb').2⟩
      rintro (hs | ⟨h1, _⟩)
      · exact (hvS' b hb').1 hs
      · have := hlt' b hb'; omega) (fun i Bi hi hne b hbi hbj => hI.apart i wt.j Bi _ hi hlk hne b hbi hbj)
    exact hk ⟨putA st.tm o.dst (.sc (.tuple #[])), (wt.j, .arr wt.e wt.t l') :: rm wt.j st.H⟩ _ _ ⟨μ, _, hI3, putA_ok (av := .sc (.tuple #[])) hVm rfl, by rw [put_defers]; exact hD⟩ h
  · rename_i hr
    simp only [hr]
    have hμ : ∀ i, but id i = true → upd μ id v' i = μ i := fun i hi => upd_other μ _ (but_iff.1 hi)
    have hVk : VsOK (upd μ id v') (fun b => S b ∨ (w.heap.size ≤ b ∧ S' b)) w' (keeps (but id) st.tm) a.tmps.toList := VsOK.keep hμ (fun b h => .inl h) hsz hSw hV
    rcases hB' with ⟨A, h1, h2⟩ | ⟨b, c', us', rest', h1, h2, h3, h4, h5, h6⟩
    · have h1' : v' = .slice A 0 0 := h1
      subst h1'
      have hI3 := hI2.nil id wt.e wt.t A
      rw [h2] at h
      exact hk ⟨putA (keeps (but id) st.tm) o.dst (.own id), (id, .arr wt.e wt.t []) :: keepH (but id) (rm id (rm wt.j st.H))⟩ _ _ ⟨_, _, hI3, putA_ok hVk ⟨(upd_same _ _ _).symm, A, 0, 0, rfl⟩, by rw [put_defers]; exact hD⟩ h
    · have h1' : v' = .slice (some ⟨b, 0, none⟩) l'.length (c' + 1) := h1
      have hbv' : bof v' = some b := by rw [h1']; rfl
      have hnew := hv' b hbv'
      have hI3 := hI2.give id b v' (.arr wt.e wt.t l') (fun i Bi hi hbi => by
        have hi' := hnj i Bi hi
        rcases hnew.1 with h7 | h7
        · rw [hv0.1] at h7
          exact hI.apart i wt.j Bi _ hi'.2 hlk hi'.1 b hbi h7
        · have := bof_lt (hI.blk i Bi hi'.2) hbi
          omega) (by
        rintro (hs | ⟨_, hs⟩)
        · rcases hnew.1 with h7 | h7
          · exact (hvS' b h7).1 hs
          · have := hI.Slt b hs; omega
        · exact hnew.2 hs) (by
        rcases hnew.1 with h7 | h7
        · exact (hvS' b h7).2
        · exact .inl (Nat.le_trans hI.size h7)) (w' := w') (fun _ _ => rfl) rfl rfl rfl rfl (Nat.le_refl _) hbv' (fun _ => arr_flat hft (upd_same μ id v') (show BOK (fun _ => v') S' w' id (.arr wt.e wt.t l') from .inr ⟨b, c', us', rest', h1, h2, h3, h4, h5, h6⟩))
      exact hk ⟨putA (keeps (but id) st.tm) o.dst (.own id), (id, .arr wt.e wt.t l') :: keepH (but id) (rm id (rm wt.j st.H))⟩ _ _ ⟨_, _, hI3, putA_ok hVk ⟨(upd_same _ _ _).symm, _, _, _, h1'⟩, by rw [put_defers]; exact hD⟩ h

theorem evCall_ok (hTab : CallOK D P T) {o : Oper} {c : Call} (ho : o.op = .call c) {st : St} {a : Act} {w : World} {id : Nat} {k : St → Option R} {r : R} {next : Act → World → Prop} {Q : Exit → Act → World → Prop}
    (h : evCall T o.dst c st id k = some r) (hG : Gam F st a w) (hk : ∀ st' a' w', Gam F st' a' w' → k st' = some r → next a' w') : o.wp P a w next Q := by
  obtain ⟨μ, S, hI, hV, hD⟩ := hG
  unfold evCall at h
  split at h
  · rename_i f hcal
    split at h
    · rename_i g caps hf
      split at h
      · rename_i wt hwt
        exact evW_ok hTab ho hcal hf hwt h ⟨μ, S, hI, hV, hD⟩ hk
      split at h
      · rename_i hno
        split at h
        · rename_i out hout
          obtain ⟨x, hx, h⟩ := Option.bind_eq_some_iff.1 h
          split at h
          · rename_i h1 h2
            refine call_core hTab ho hcal hf hno hout hx h2 hI (evl_ok hV) ?_
            intro v u S2 w' hb hI' hS2 hv2 hB
            have hSw : ∀ b, S b → w'.heap[b]? = w.heap[b]? := fun b h => hb.block b (hI.Slt b h)
            split at h
            · rename_i hnb
              split at h
              · rename_i hn
                exact hk ⟨putA st.tm o.dst (out.f x id), st.H⟩ _ _ ⟨μ, _, hI', putA_ok (VsOK.mono (fun b h => .inl h) hb.size hSw hV) (noId_ok hn hv2), by rw [put_defers]; exact hD⟩ h
              · cases h
            · rename_i B hnb
              split at h
              · rename_i hob
                have hBB := hB B hnb
                have hBk2 : BOK (upd μ id u) (fun b => S b ∨ (w.heap.size ≤ b ∧ S2 b)) w' id B := onlyB_ok (upd_same μ id u) hob hBB.1
                have hI2 := name_inv (id := id) (u := u) (n := w.heap.size) hI' hI.size (fun j Bj hj b hbj => bof_lt (hI.blk j Bj hj) hbj) hBk2 (fun b hbu => ⟨(hBB.2 b hbu).1, fun hs => by
                  rcases hs with hs | hs
                  · have := hI.Slt b hs
                    have := (hBB.2 b hbu).1
                    omega
                  · exact (hBB.2 b hbu).2 hs.2⟩)
                have hμ : ∀ j, but id j = true → upd μ id u j = μ j := fun j hj => upd_other μ u (but_iff.1 hj)
                exact hk ⟨putA (keeps (but id) st.tm) o.dst (out.f x id), (id, B) :: keepH (but id) (rm id st.H)⟩ _ _ ⟨upd μ id u, _, hI2, putA_ok (VsOK.keep hμ (fun b h => .inl h) hb.size hSw hV) (onlyId_ok (upd_same μ id u) h1 hv2), by rw [put_defers]; exact hD⟩ h
              · cases h
          · cases h
        · cases h
      · cases h
    · cases h
  · cases h

theorem evOp0_ok (hTab : CallOK D P T) {o : Oper} {st : St} {a : Act} {w : World} {k : St → Option R} {r : R} {next : Act → World → Prop} {Q : Exit → Act → World → Prop}
    (h : evOp0 P T base o st k = some r) (hG : Gam F st a w) (hk : ∀ st' a' w', Gam F st' a' w' → k st' = some r → next a' w') : o.wp P a w next Q := by
  have hG' := Gam.pre (op := o.op) hG
  unfold evOp0 at h
  generalize preF o.op st = st1 at h hG'
  dsimp only at h
  obtain ⟨μ, S, hI, hV, hD⟩ := hG'
  have hp := pureOp_ok (P := P) (op := o.op) (evl_ok (a := a) hV)
  split at h
  · rename_i av hpo
    rw [hpo] at hp
    obtain ⟨v, hr, hv⟩ := hp o rfl
    exact upon_of hr (.inl rfl) (hk _ _ _ (Gam.put hI hV hD hv) h)
  · rename_i c av hpo
    rw [hpo] at hp
    split at h
    · rename_i hc
      obtain ⟨v, hr, hv⟩ := hp hc o rfl
      exact upon_of hr (.inl rfl) (hk _ _ _ (Gam.put hI hV hD hv) h)
    · cases h
  · split at h
    · rename_i c av H g hev
      split at h
      · rename_i hc
        exact step_wp (evH_ok hI hV (evl_ok hV) hev hc) hD (fun a' w' hG => hk _ _ _ hG h)
      · cases h
    · split at h
      · rename_i c av H g hev
        split at h
        · rename_i hc
          exact step_wp (evG_ok hI hV (evl_ok hV) hev hc) hD (fun a' w' hG => hk _ _ _ hG h)
        · cases h
      split at h
      · rename_i c av H g hev
        split at h
        · exact step_wp (evM_ok hI hV (evl_ok hV) hev) hD (fun a' w' hG => hk _ _ _ hG h)
        · cases h
      · split at h
        · rename_i c hoc
          exact evCall_ok hTab hoc h ⟨μ, S, hI, hV, hD⟩ hk
        · cases h

theorem splitN_ok {k : Nat → Option R} {r : R} {n : Int} : ∀ {f m : Nat}, splitN f m n k = some r → ∃ m' : Nat, n = (m' : Int) ∧ k m' = some r
  | 0, m, h => by cases h
  | f + 1, m, h => by
    unfold splitN at h
    split at h
    · rename_i e
      exact ⟨m, e, h⟩
    · exact splitN_ok h
theorem idxOf_ok {op : Op} {tm : List AV} {s : Nat} {kd : IntKind} {n : Int} {len : Nat} (h : idxOf P op tm = some (s, kd, n, len)) : tm[s]? = some (I kd n) := by
  unfold idxOf at h
  split at h
  · split at h
    · rename_i h1; cases h; exact h1
    · cases h
  · split at h
    · rename_i h1; cases h; exact h1
    · cases h
  · cases h
theorem nil_ok {o : Oper} {st : St} {a : Act} {w : World} {e : Bool} {n : Nat} (h : nilCmp P o.op st = some (e, n)) (hG : Gam F st a w) : ∃ b : Bool, (n ≠ 0 → b = neg e) ∧ (b = e ∨ b = neg e) ∧ (execOp a.eval o).run P w = .ok (.value (.bool b)) w := by
  obtain ⟨μ, S, hI, hV, hD⟩ := hG
  have key : ∀ {x : Operand} {m : Nat}, ((∃ t l, evl st.tm x = .row t l ∧ l.length = m) ∨ ∃ j e' t' l, evl st.tm x = .own j ∧ lk st.H j = some (.arr e' t' l) ∧ l.length = m) → ∃ A c, a.eval x = .slice A m c ∧ (m ≠ 0 → A.isNone = false) := by
    rintro x m (⟨t, l, h1, rfl⟩ | ⟨j, e', t', l, h1, h2, rfl⟩)
    · have hx := evl_ok (a := a) hV x
      rw [h1] at hx
      obtain ⟨A, c, h3, _, _, h6⟩ := hx
      simp only [List.cons.injEq, and_true] at h3
      refine ⟨A, c, h3, fun hm => ?_⟩
      cases l with
      | nil => exact absurd rfl hm
      | cons y l =>
        obtain ⟨b, o', _, h7, _⟩ := h6 0 y rfl
        rw [h7]; rfl
    · have hx := evl_ok (a := a) hV x
      rw [h1] at hx
      obtain ⟨hx1, _⟩ := hx
      rcases hI.blk j _ h2 with ⟨A, h3, h4⟩ | ⟨b, c, us, rest, h3, _⟩
      · rw [h3] at hx1
        exact ⟨A, 0, by rw [hx1, h4]; rfl, fun hm => absurd (by rw [h4]; rfl) hm⟩
      · rw [h3] at hx1
        exact ⟨_, _, hx1, fun _ => rfl⟩
  unfold nilCmp at h
  split at h
  · rename_i b t x y hop
    split at h
    · rename_i el hu
      split at h
      · -- eq
        have hh : e = true ∧ ((∃ t l, evl st.tm x = .row t l ∧ l.length = n) ∨ ∃ j e' t' l, evl st.tm x = .own j ∧ lk st.H j = some (.arr e' t' l) ∧ l.length = n) := by
          split at h
          · rename_i t' l hr
            cases h
            exact ⟨rfl, .inl ⟨t', l, hr, rfl⟩⟩
          · rename_i j hr
            split at h
            · rename_i e' t' l hk
              cases h
              exact ⟨rfl, .inr ⟨j, e', t', l, hr, hk, rfl⟩⟩
            · cases h
          · cases h
        obtain ⟨rfl, hh⟩ := hh
        obtain ⟨A, c, h1, h2⟩ := key hh
        refine ⟨A.isNone, h2, by cases A.isNone <;> simp [neg], ?_⟩
        simp only [execOp, hop]
        show ((do pure (.value (← (do eqGuard .eql t x (.const (.slice none 0 0)) (a.eval x) (.slice none 0 0); binOp .eql t (a.eval x) (.slice none 0 0))))) : Sem Next).run P w = _
        rw [h1]
        simp [go_sem, guard_sl, binOp, equal_of (equalIn_sl1 hu)]
      · -- neq
        have hh : e = false ∧ ((∃ t l, evl st.tm x = .row t l ∧ l.length = n) ∨ ∃ j e' t' l, evl st.tm x = .own j ∧ lk st.H j = some (.arr e' t' l) ∧ l.length = n) := by
          split at h
          · rename_i t' l hr
            cases h
            exact ⟨rfl, .inl ⟨t', l, hr, rfl⟩⟩
          · rename_i j hr
            split at h
            · rename_i e' t' l hk
              cases h
              exact ⟨rfl, .inr ⟨j, e', t', l, hr, hk, rfl⟩⟩
            · cases h
          · cases h
        obtain ⟨rfl, hh⟩ := hh
        obtain ⟨A, c, h1, h2⟩ := key hh
        refine ⟨!A.isNone, fun hm => by rw [h2 hm]; rfl, by cases A.isNone <;> simp [neg], ?_⟩
        simp only [execOp, hop]
        show ((do pure (.value (← (do eqGuard .neq t x (.const (.slice none 0 0)) (a.eval x) (.slice none 0 0); binOp .neq t (a.eval x) (.slice none 0 0))))) : Sem Next).run P w = _
        rw [h1]
        simp [go_sem, guard_sl, binOp, equal_of (equalIn_sl1 hu)]
      · cases h
    · cases h
  · cases h

theorem evOp_ok (hTab : CallOK D P T) {o : Oper} {st : St} {a : Act} {w : World} {k : St → Option R} {r : R} {next : Act → World → Prop} {Q : Exit → Act → World → Prop}
    (h : evOp P T base o st k = some r) (hG : Gam F st a w) (hk : ∀ st' a' w', Gam F st' a' w' → k st' = some r → next a' w') : o.wp P a w next Q := by
  unfold evOp at h
  split at h
  · rename_i s kd n len hi
    obtain ⟨m, rfl, h2⟩ := splitN_ok h
    have hs := idxOf_ok hi
    have e : st.tm.set s (I kd m) = st.tm := by
      apply List.ext_getElem?
      intro j
      by_cases hj : s = j
      · subst hj
        rw [List.getElem?_set_self (List.getElem?_eq_some_iff.1 hs).1, hs]
      · rw [List.getElem?_set_ne hj]
    rw [e] at h2
    exact evOp0_ok hTab h2 hG hk
  split at h
  · rename_i e n hn
    obtain ⟨b, h1, h2, h3⟩ := nil_ok hn hG
    have fin : ∀ b', b = b' → k ⟨putA st.tm o.dst (B b'), st.H⟩ = some r → o.wp P a w next Q := by
      rintro b' rfl hkk
      obtain ⟨μ, S, hI, hV, hD⟩ := hG
      exact upon_of h3 (.inl rfl) (hk _ _ _ (Gam.put hI hV hD (av := B b) (v := .bool b) rfl) hkk)
    split at h
    · obtain ⟨k1, k2⟩ := both_some h
      rcases h2 with h2 | h2
      · exact fin e h2 k1
      · exact fin (neg e) h2 k2
    · rename_i hn0
      exact fin (neg e) (h1 hn0) h
  · exact evOp0_ok hTab h hG hk

theorem set_same_ok {μ : Nat → Value} {S : Nat → Prop} {w : World} {tm : List AV} {us : List Value} {t : Nat} {b : Bool} (h : VsOK μ S w tm us) (ht : tm[t]? = some (.sc (.bool b))) : VsOK μ S w (tm.set t (B b)) us := by
  have hs := VsOK.set (i := t) (a := B b) (u := .bool b) rfl h
  obtain ⟨u, hu, hv⟩ := VsOK.get h ht
  rw [VOK] at hv
  subst hv
  have e : us.set t (.bool b) = us := by
    apply List.ext_getElem?
    intro j
    by_cases hj : t = j
    · subst hj
      rw [List.getElem?_set_self (List.getElem?_eq_some_iff.1 hu).1, hu]
    · rw [List.getElem?_set_ne hj]
  rwa [e] at hs

theorem evGuard_ok (hTab : CallOK D P T) {ops : Array Oper} {o : Oper} {st : St} {a : Act} {w : World} {k : St → Option R} {r : R} {K : Act → World → Prop} {Q : Exit → Act → World → Prop}
    (h : evGuard P T base ops o st k = some r) (hG : Gam F st a w) (hk : ∀ st' a' w', Gam F st' a' w' → k st' = some r → K a' w') :
    if Region.wanted o (yielded ops a.tmps) then o.wp P a w K Q ∨ (o.asks P a w ∧ LetsOut Q) else K (a.put o.dst undef) w := by
  unfold evGuard at h
  split at h
  · rename_i hg
    have : Region.wanted o (yielded ops a.tmps) = true := by simp [Region.wanted, hg]
    rw [if_pos this]
    exact .inl (evOp_ok hTab h hG hk)
  · rename_i j want hg
    split at h
    · rename_i t hslot
      split at h
      · rename_i b ht
        obtain ⟨μ, S, hI, hV, hD⟩ := hG
        obtain ⟨u, hu, hv⟩ := VsOK.get hV ht
        rw [VOK] at hv
        subst hv
        have hy : yielded ops a.tmps j = some b := by
          unfold guardSlot at hslot
          rw [Array.getElem?_toList] at hu
          simp only [yielded, hslot, Option.bind_some, hu]
        have hset : ∀ b', b = b' → Gam F ⟨st.tm.set t (B b'), st.H⟩ a w := by
          rintro b' rfl
          exact ⟨μ, S, hI, set_same_ok hV ht, hD⟩
        have hwant : Region.wanted o (yielded ops a.tmps) = (b == want) := by
          simp only [Region.wanted, hg, hy]
          cases b <;> cases want <;> rfl
        have skip : ∀ b', b = b' → k ⟨putA (st.tm.set t (B b')) o.dst (.sc undef), st.H⟩ = some r → K (a.put o.dst undef) w := by
          intro b' hb' hkk
          obtain ⟨μ', S', hI', hV', hD'⟩ := hset b' hb'
          exact hk ⟨putA (st.tm.set t (B b')) o.dst (.sc undef), st.H⟩ _ _ ⟨μ', S', hI', putA_ok (av := .sc undef) hV' rfl, by rw [put_defers]; exact hD'⟩ hkk
        rw [hwant]
        split at h
        · rename_i hb
          subst hb
          cases want with
          | true => exact .inl (evOp_ok hTab h (hset true rfl) hk)
          | false => exact skip true rfl h
        · rename_i hb
          have hb' : b = false := by simpa using hb
          subst hb'
          cases want with
          | true => exact skip false rfl h
          | false => exact .inl (evOp_ok hTab h (hset false rfl) hk)
      · rename_i l ht
        obtain ⟨μ, S, hI, hV, hD⟩ := hG
        obtain ⟨u, hu, hv⟩ := VsOK.get hV ht
        rw [VOK] at hv
        subst hv
        have hy : yielded ops a.tmps j = none := by
          unfold guardSlot at hslot
          rw [Array.getElem?_toList] at hu
          simp only [yielded, hslot, Option.bind_some, hu]
        have hwant : Region.wanted o (yielded ops a.tmps) = false := by
          simp [Region.wanted, hg, hy]
        rw [hwant]
        exact hk ⟨putA st.tm o.dst (.sc undef), st.H⟩ _ _ ⟨μ, S, hI, putA_ok (av := .sc undef) hV rfl, by rw [put_defers]; exact hD⟩ h
      · cases h
    · cases h

theorem evOps_ok (hTab : CallOK D P T) {ops : Array Oper} {r : R} {Q : Exit → Act → World → Prop} : ∀ {l : List Oper} {st : St} {a : Act} {w : World} {k : St → Option R},
    evOps P T base ops l st k = some r → Gam F st a w → (∀ st' a' w', Gam F st' a' w' → k st' = some r → Q .normal a' w') → wpList P ops Q l a w
  | [], st, a, w, k, h, hG, hk => hk _ _ _ hG h
  | o :: l, st, a, w, k, h, hG, hk => by
    unfold evOps at h
    unfold wpList
    exact evGuard_ok hTab h hG (fun st' a' w' hG' h' => evOps_ok hTab h' hG' hk)
end
end Go.Proofs.YtgkmfhmodojdcaaE

namespace Go.Proofs.YtgkmfhmodojdcaaE
open Go
set_option linter.unusedVariables false

def memL (i : Nat) : List Nat → Bool
  | [] => false
  | j :: l => match Nat.beq i j with
    | true => true
    | false => memL i l
theorem memL_iff {i : Nat} : ∀ {l : List Nat}, memL i l = true ↔ i ∈ l
  | [] => by simp [memL]
  | j :: l => by
    unfold memL
    cases h : Nat.beq i j with
    | true => simp [Nat.eq_of_beq_eq_true h]
    | false =>
      have : i ≠ j := fun e => by subst e; simp at h
      simp [this, memL_iff (l := l)]

def rho (rs : List Nat) (tm : List AV) : Operand → AV
  | .tmp t => match memL t rs with
    | true => tm.getD t .top
    | false => .top
  | x => evl tm x

section
variable {R : Type}
def evQ (P : Program) (T : Tab) (H : Hp) (o : Oper) (ρ : Operand → AV) (k : AV → Option R) : Option R :=
  match pureOp P o.op ρ with
  | .ok av => k av
  | .chk c av => if c = true then k av else none
  | .no => match o.op with
    | .load _ _ => match evH P H o.op ρ 0 with
      | .go c av _ _ => if c = true then k av else none
      | .no => none
    | .indexAddr _ _ _ => match evH P H o.op ρ 0 with
      | .go c av _ _ => if c = true then k av else none
      | .no => none
    | .build _ _ => match evG P H o.op ρ 0 with
      | .go c av _ _ => if c = true then k av else none
      | .no => none
    | .buildSlice t len parts => match evG P [] (.buildSlice t len parts) ρ 0 with
      | .go c _ ((0, .arr e ty l) :: []) _ => if c = true then k (.row ty l) else none
      | _ => none
    | .call c => match c.callee with
      | .builtin .len => match evH P H o.op ρ 0 with
        | .go c av _ _ => if c = true then k av else none
        | .no => none
      | .value f => match ρ f with
        | .fn g caps => match noIds (viewAs H (c.args.toList.map ρ ++ caps)) with
          | true => match T g (viewAs H (c.args.toList.map ρ ++ caps)) with
            | some out => out.o.bind fun x => match noIds (c.args.toList.map ρ ++ caps) || (flatA (out.f x 0) && flatB (out.nb x)) with
              | true => match out.nb x with
                | none => match noId (out.f x 0) with
                  | true => k (out.f x 0)
                  | false => none
                | some (.arr e t l) => match noId (frz 0 t l (out.f x 0)) with
                  | true => k (frz 0 t l (out.f x 0))
                  | false => none
                | _ => none
              | false => none
            | none => none
          | false => none
        | _ => none
      | _ => none
    | _ => none

def evQg (P : Program) (T : Tab) (H : Hp) (ops : Array Oper) (o : Oper) (tm : List AV) (k : List AV → Option R) : Option R :=
  match o.guard with
  | none => evQ P T H o (rho (o.looksAt ops) tm) fun av => k (putA tm o.dst av)
  | some (j, want) => match guardSlot ops j with
    | some t => match tm[t]? with
      | some (.sc (.bool b)) =>
        if b = true then match want with
          | true => evQ P T H o (rho (o.looksAt ops) (tm.set t (B true))) fun av => k (putA (tm.set t (B true)) o.dst av)
          | false => k (putA (tm.set t (B true)) o.dst (.sc undef))
        else match want with
          | true => k (putA (tm.set t (B false)) o.dst (.sc undef))
          | false => evQ P T H o (rho (o.looksAt ops) (tm.set t (B false))) fun av => k (putA (tm.set t (B false)) o.dst av)
      | some (.sc (.tuple _)) => k (putA tm o.dst (.sc undef))
      | _ => none
    | none => none

noncomputable def evQs (P : Program) (T : Tab) (H : Hp) (ops : Array Oper) : List Oper → List AV → (List AV → Option R) → Option R
  | [], tm, k => k tm
  | o :: l, tm, k => evQg P T H ops o tm fun tm' => evQs P T H ops l tm' k
end

def bed (o : Oper) : List Edge := o.after.toList.filter (Region.binds .any)
def hasEdge (o : Oper) (j : Nat) : Bool := (bed o).any fun e => Nat.beq e.on j
def ancs : List Oper → List (List Nat) → List (List Nat)
  | [], acc => acc
  | o :: l, acc => ancs l (acc ++ [((bed o).map (·.on)) ++ ((bed o).map (·.on)).flatMap fun j => acc.getD j []])
def edgesOK : List Oper → Nat → Bool
  | [], _ => true
  | o :: l, i => ((bed o).all fun e => Nat.blt e.on i) && edgesOK l (i + 1)
def looksOK (ops : Array Oper) (o : Oper) (i : Nat) : List Oper → Nat → Bool
  | [], _ => true
  | p :: l, j => (match p.dst with
      | none => true
      | some d => match Nat.beq i j with
        | true => true
        | false => (match o.dst with
            | some d' => !(Nat.beq d d')
            | none => true) && (match memL d (o.looksAt ops) with
            | false => true
            | true => match Nat.blt j i with
              | true => hasEdge o j
              | false => hasEdge p i)) && looksOK ops o i l (j + 1)
def allLooks (ops : Array Oper) : List Oper → Nat → Bool
  | [], _ => true
  | o :: l, i => looksOK ops o i ops.toList 0 && allLooks ops l (i + 1)
def closedOK (A : List (List Nat)) : List Oper → Nat → Bool
  | [], _ => true
  | o :: l, i => ((A.getD i []).all fun j => hasEdge o j || (bed o).any fun e => memL j (A.getD e.on [])) && closedOK A l (i + 1)
def tailOK (A : List (List Nat)) (m : Nat) : Nat → Nat → Bool
  | 0, _ => true
  | f + 1, i => match Nat.blt i m with
    | true => ((List.range i).all fun j => memL j (A.getD i [])) && tailOK A m f (i + 1)
    | false => true
def drawOK (ops : Array Oper) (n : Nat) : Bool :=
  Region.noSelect ops && edgesOK ops.toList 0 && allLooks ops ops.toList 0 && closedOK (ancs ops.toList []) ops.toList 0 && tailOK (ancs ops.toList []) ops.size ops.size n

def isX (o : Oper) : Bool := match o.op with
  | .store _ _ _ | .alloc _ | .box _ _ | .makeSlice _ _ _ => true
  | .slice _ _ _ _ (some _) => true
  | .call c => match c.callee with
    | .builtin .append => true
    | _ => false
  | _ => false
def quietN : List Oper → Nat
  | [] => 0
  | o :: l => match isX o with
    | true => 0
    | false => quietN l + 1

section
variable {R : Type}
noncomputable def evDraw (P : Program) (T : Tab) (base : Nat) (ops : Array Oper) (st : St) (k : St → Option R) : Option R :=
  match drawOK ops (quietN ops.toList) with
  | true => evQs P T st.H ops (ops.toList.take (quietN ops.toList)) st.tm fun tm => evOps P T base ops (ops.toList.drop (quietN ops.toList)) ⟨tm, st.H⟩ k
  | false => none
end

section
variable {P : Program} {T : Tab} {D : Prop} {F : Fr D} {R : Type} {base : Nat} {ops : Array Oper}

def QOK (P : Program) {D : Prop} (F : Fr D) (H : Hp) (o : Oper) (tm : List AV) (av : AV) : Prop :=
  ∀ (a : Act) (w : World) (next : Act → World → Prop) (Q : Exit → Act → World → Prop), Gam F ⟨tm, H⟩ a w → (∀ a' w', Gam F ⟨putA tm o.dst av, H⟩ a' w' → next a' w') → o.wp P a w next Q

theorem rho_ok {μ : Nat → Value} {S : Nat → Prop} {w : World} {tm : List AV} {a : Act} {rs : List Nat} (h : VsOK μ S w tm a.tmps.toList) (x : Operand) : VOK μ S w (rho rs tm x) (a.eval x) := by
  cases x with
  | tmp t =>
    simp only [rho]
    cases memL t rs with
    | true => exact evl_ok h (.tmp t)
    | false => trivial
  | const v => exact evl_ok h (.const v)
  | global g => exact evl_ok h (.global g)
  | func f => exact evl_ok h (.func f)

theorem evQ_nat {H : Hp} {o : Oper} {ρ : Operand → AV} {k : AV → Option R} {r : R} (h : evQ P T H o ρ k = some r) : ∃ av, evQ P T H o ρ some = some av ∧ k av = some r := by
  unfold evQ at h ⊢
  have ifs : ∀ {c : Bool} {av : AV}, (if c = true then k av else none) = some r → ∃ av', (if c = true then some av else none) = some av' ∧ k av' = some r := by
    intro c av h
    split at h
    · rename_i hc; exact ⟨av, by simp [hc], h⟩
    · cases h
  split at h
  · exact ⟨_, rfl, h⟩
  · exact ifs h
  · split at h
    · split at h
      · exact ifs h
      · cases h
    · split at h
      · exact ifs h
      · cases h
    · split at h
      · exact ifs h
      · cases h
    · split at h
      · exact ifs h
      · cases h
    · split at h
      · split at h
        · exact ifs h
        · cases h
      · split at h
        · split at h
          · split at h
            · rename_i out ho
              obtain ⟨x, hx, h⟩ := Option.bind_eq_some_iff.1 h
              rw [hx]
              simp only [Option.bind_some]
              split at h
              · split at h
                · split at h
                  · exact ⟨_, rfl, h⟩
                  · cases h
                · split at h
                  · exact ⟨_, rfl, h⟩
                  · cases h
                · cases h
              · cases h
            · cases h
          · cases h
        · cases h
      · cases h
    · cases h

theorem load_same {T : TypeId} {p : Operand} {H H' : Hp} {ρ : Operand → AV} {id : Nat} {c : Bool} {av : AV} {g : Option Nat} (h : evH P H (.load T p) ρ id = .go c av H' g) : H' = H ∧ g = none := by
  simp only [evH] at h
  repeat' split at h
  all_goals first
    | (cases h; exact ⟨rfl, rfl⟩)
    | cases h
theorem index_same {t : TypeId} {x i : Operand} {H H' : Hp} {ρ : Operand → AV} {id : Nat} {c : Bool} {av : AV} {g : Option Nat} (h : evH P H (.indexAddr t x i) ρ id = .go c av H' g) : H' = H ∧ g = none := by
  simp only [evH] at h
  repeat' split at h
  all_goals first
    | (cases h; exact ⟨rfl, rfl⟩)
    | cases h
theorem len_same {cl : Call} (hcal : cl.callee = .builtin .len) {H H' : Hp} {ρ : Operand → AV} {id : Nat} {c : Bool} {av : AV} {g : Option Nat} (h : evH P H (.call cl) ρ id = .go c av H' g) : H' = H ∧ g = none := by
  simp only [evH, hcal] at h
  repeat' split at h
  all_goals first
    | (cases h; exact ⟨rfl, rfl⟩)
    | cases h
theorem build_same {t : TypeId} {parts : Array (Nat × Operand)} {H H' : Hp} {ρ : Operand → AV} {id : Nat} {c : Bool} {av : AV} {g : Option Nat} (h : evG P H (.build t parts) ρ id = .go c av H' g) : H' = H ∧ g = none := by
  simp only [evG] at h
  repeat' split at h
  all_goals first
    | (cases h; exact ⟨rfl, rfl⟩)
    | cases h

theorem frz_res {u : Value} {S' S2 : Nat → Prop} {w : World} {e : TypeId} {t : Ty} {l : List (El t)} {av : AV} {v : Value} (hSS : ∀ b, S' b → S2 b) (hb : ∀ b, bof u = some b → S2 b) (hB : BOK (fun _ => u) S' w 0 (.arr e t l)) (hv : VOK (fun _ => u) S' w av v) : VOK (fun _ => u) S2 w (frz 0 t l av) v := by
  refine VOK.frz (id := 0) hSS ?_ hv
  exact Rd.mono (fun b h => h.elim (hSS b) (hb b)) (Nat.le_refl _) (fun _ _ => rfl) (arr_row hB)

theorem evQ_ok (hTab : CallOK D P T) {H : Hp} {o : Oper} {rs : List Nat} {tm : List AV} {av : AV} (h : evQ P T H o (rho rs tm) some = some av) : QOK P F H o tm av := by
  intro a w next Q hG hn
  obtain ⟨μ, S, hI, hV, hD⟩ := hG
  have hρ := rho_ok (a := a) (rs := rs) hV
  have hp := pureOp_ok (P := P) (op := o.op) hρ
  have pure : ∀ {v : Value}, (execOp a.eval o).run P w = .ok (.value v) w → VOK μ S w av v → o.wp P a w next Q := fun hr hv =>
    upon_of hr (.inl rfl) (hn _ _ (Gam.put (st := ⟨tm, H⟩) hI hV hD hv))
  have stepped : ∀ {H' : Hp} {g : Option Nat}, Step P F o.op a w (tmGone tm g) H' av → H' = H ∧ g = none → o.wp P a w next Q := by
    rintro H' g hs ⟨rfl, rfl⟩
    exact step_wp hs hD hn
  unfold evQ at h
  split at h
  · rename_i av' hpo
    cases h
    rw [hpo] at hp
    obtain ⟨v, hr, hv⟩ := hp o rfl
    exact pure hr hv
  · rename_i c av' hpo
    rw [hpo] at hp
    split at h
    · rename_i hc
      cases h
      obtain ⟨v, hr, hv⟩ := hp hc o rfl
      exact pure hr hv
    · cases h
  · split at h
    · rename_i t p ho
      split at h
      · rename_i c av' H' g hev
        split at h
        · rename_i hc
          cases h
          rw [ho] at hev
          exact stepped (by rw [ho]; exact evH_load hI hV hρ hev hc) (load_same hev)
        · cases h
      · cases h
    · rename_i t x i ho
      split at h
      · rename_i c av' H' g hev
        split at h
        · rename_i hc
          cases h
          rw [ho] at hev
          exact stepped (by rw [ho]; exact evH_index hI hV hρ hev hc) (index_same hev)
        · cases h
      · cases h
    · rename_i t parts ho
      split at h
      · rename_i c av' H' g hev
        split at h
        · rename_i hc
          cases h
          rw [ho] at hev
          exact stepped (by rw [ho]; exact evG_build hI hV hρ hev hc) (build_same hev)
        · cases h
      · cases h
    · rename_i t len parts ho
      split at h
      · rename_i c av' e ty l g hev
        split at h
        · rename_i hc
          cases h
          obtain ⟨e', ty', l', vs, _, h2, _, _, h6, hmax, h7, hr⟩ := buildSlice_run hρ hev
          simp only [keepH, rm, List.cons.injEq, Prod.mk.injEq, true_and, and_true] at h2
          cases h2
          have hb : Bel D w (w.alloc (.cells vs e)) := ⟨⟨rfl, rfl, rfl, by simp, fun k hk => heap_alloc_lt w _ hk⟩, fun _ => Nat.le_refl _⟩
          have hI2 : Inv F μ (fun b => S b ∨ b = w.heap.size) H (w.alloc (.cells vs e)) := call_inv hI hb (fun b h => .inl h) (fun b h => by
            rcases h with h | rfl
            · exact ⟨.inl h, by have := hI.Slt b h; simp; omega⟩
            · exact ⟨.inr (Nat.le_refl _), by simp⟩)
          have hSw : ∀ b, S b → (w.alloc (.cells vs e)).heap[b]? = w.heap[b]? := fun b h => heap_alloc_lt w _ (hI.Slt b h)
          have hv : VOK μ (fun b => S b ∨ b = w.heap.size) (w.alloc (.cells vs e)) (.row ty l) (.slice (some ⟨w.heap.size, 0, none⟩) len len) := by
            refine ⟨some ⟨w.heap.size, 0, none⟩, len, by rw [h6], by omega, hmax, fun i x hx => ?_⟩
            obtain ⟨cs, h8, h9⟩ := RdL.get h7 hx
            refine ⟨w.heap.size, 0, cs, rfl, .inr rfl, by simp, Rd.mono (fun b h => .inl h) (by simp) hSw h8, fun j u hu => ?_⟩
            rw [Nat.zero_add]
            have := h9 j u hu
            simp only [World.cell?_alloc_new]
            rw [← Array.getElem?_toList]
            exact this
          exact upon_of (hr o ho) (.inl rfl) (hn _ _ ⟨μ, _, hI2, putA_ok (VsOK.mono (fun b h => .inl h) (by simp) hSw hV) hv, by rw [put_defers]; exact hD⟩)
        · cases h
      · cases h
    · rename_i c ho
      split at h
      · rename_i hcal
        split at h
        · rename_i c' av' H' g hev
          split at h
          · rename_i hc
            cases h
            rw [ho] at hev
            exact stepped (by rw [ho]; exact evH_len hcal hI hV hρ hev hc) (len_same hcal hev)
          · cases h
        · cases h
      · rename_i f hcal
        split at h
        · rename_i g caps hf
          split at h
          · rename_i hno
            split at h
            · rename_i out hout
              obtain ⟨x, hx, h⟩ := Option.bind_eq_some_iff.1 h
              split at h
              · rename_i hchk
                refine call_core hTab ho hcal hf hno hout hx hchk hI hρ ?_
                intro v u S2 w' hb hI' hS2 hv2 hB
                have hSw : ∀ b, S b → w'.heap[b]? = w.heap[b]? := fun b h => hb.block b (hI.Slt b h)
                split at h
                · rename_i hnb
                  split at h
                  · rename_i hn'
                    cases h
                    exact hn _ _ ⟨μ, _, hI', putA_ok (VsOK.mono (fun b h => .inl h) hb.size hSw hV) (noId_ok hn' hv2), by rw [put_defers]; exact hD⟩
                  · cases h
                · rename_i e t l hnb
                  split at h
                  · rename_i hn'
                    cases h
                    have hBB := hB _ hnb
                    have hul : ∀ b, bof u = some b → b < w'.heap.size := fun b hbu => bof_lt (μ := fun _ => u) (id := 0) (B := .arr e t l) (by
                      rcases hBB.1 with h | ⟨b, c, us, rest, h1, h2⟩
                      · exact .inl h
                      · exact .inr ⟨b, c, us, rest, h1, h2⟩) hbu
                    have hI2 : Inv F μ (fun b => S b ∨ (w.heap.size ≤ b ∧ (S2 b ∨ bof u = some b))) H w' := call_inv hI hb (fun b h => .inl h) (fun b h => by
                      rcases h with h | ⟨h1, h2⟩
                      · exact ⟨.inl h, Nat.lt_of_lt_of_le (hI.Slt b h) hb.size⟩
                      · exact ⟨.inr h1, h2.elim (hS2 b) (hul b)⟩)
                    have hv3 : VOK (fun _ => u) (fun b => S b ∨ (w.heap.size ≤ b ∧ (S2 b ∨ bof u = some b))) w' (frz 0 t l (out.f x 0)) v :=
                      frz_res (e := e) (fun b h => h.imp (fun h => h) (fun h => ⟨h.1, .inl h.2⟩)) (fun b hbu => .inr ⟨(hBB.2 b hbu).1, .inr hbu⟩) hBB.1 hv2
                    exact hn _ _ ⟨μ, _, hI2, putA_ok (VsOK.mono (fun b h => .inl h) hb.size hSw hV) (noId_ok hn' hv3), by rw [put_defers]; exact hD⟩
                  · cases h
                · cases h
              · cases h
            · cases h
          · cases h
        · cases h
      · cases h
    · cases h

def VQ (P : Program) (T : Tab) (ops : Array Oper) (H : Hp) (o : Oper) (tm : List AV) (r : AV) : Prop :=
  (o.guard = none ∧ evQ P T H o (rho (o.looksAt ops) tm) some = some r) ∨
  (∃ j want t b, o.guard = some (j, want) ∧ guardSlot ops j = some t ∧ tm[t]? = some (.sc (.bool b)) ∧ ((b = want ∧ evQ P T H o (rho (o.looksAt ops) tm) some = some r) ∨ (b ≠ want ∧ r = .sc undef))) ∨
  ∃ j want t l, o.guard = some (j, want) ∧ guardSlot ops j = some t ∧ tm[t]? = some (.sc (.tuple l)) ∧ r = .sc undef

def Chain (P : Program) (T : Tab) (ops : Array Oper) (H : Hp) : List Oper → List AV → List AV → List AV → Prop
  | [], tm, rs, fin => rs = [] ∧ fin = tm
  | o :: l, tm, rs, fin => ∃ r rs', rs = r :: rs' ∧ VQ P T ops H o tm r ∧ Chain P T ops H l (putA tm o.dst r) rs' fin

theorem set_self {tm : List AV} {t : Nat} {x : AV} (h : tm[t]? = some x) : tm.set t x = tm := by
  apply List.ext_getElem?
  intro j
  by_cases hj : t = j
  · subst hj
    rw [List.getElem?_set_self (List.getElem?_eq_some_iff.1 h).1, h]
  · rw [List.getElem?_set_ne hj]

theorem evQg_nat {H : Hp} {o : Oper} {tm : List AV} {k : List AV → Option R} {r : R} (h : evQg P T H ops o tm k = some r) : ∃ av, VQ P T ops H o tm av ∧ k (putA tm o.dst av) = some r := by
  unfold evQg at h
  split at h
  · rename_i hg
    obtain ⟨av, h1, h2⟩ := evQ_nat h
    exact ⟨av, .inl ⟨hg, h1⟩, h2⟩
  · rename_i j want hg
    split at h
    · rename_i t hs
      split at h
      · rename_i b ht
        split at h
        · rename_i hb
          subst hb
          have e : tm.set t (B true) = tm := set_self ht
          rw [e] at h
          cases want with
          | true =>
            obtain ⟨av, h1, h2⟩ := evQ_nat h
            exact ⟨av, .inr (.inl ⟨j, true, t, true, hg, hs, ht, .inl ⟨rfl, h1⟩⟩), h2⟩
          | false => exact ⟨.sc undef, .inr (.inl ⟨j, false, t, true, hg, hs, ht, .inr ⟨by simp, rfl⟩⟩), h⟩
        · rename_i hb
          have hb' : b = false := by simpa using hb
          subst hb'
          have e : tm.set t (B false) = tm := set_self ht
          rw [e] at h
          cases want with
          | true => exact ⟨.sc undef, .inr (.inl ⟨j, true, t, false, hg, hs, ht, .inr ⟨by simp, rfl⟩⟩), h⟩
          | false =>
            obtain ⟨av, h1, h2⟩ := evQ_nat h
            exact ⟨av, .inr (.inl ⟨j, false, t, false, hg, hs, ht, .inl ⟨rfl, h1⟩⟩), h2⟩
      · rename_i l ht
        exact ⟨.sc undef, .inr (.inr ⟨j, want, t, l, hg, hs, ht, rfl⟩), h⟩
      · cases h
    · cases h

theorem evQs_chain {H : Hp} {r : R} {k : List AV → Option R} : ∀ {l : List Oper} {tm : List AV}, evQs P T H ops l tm k = some r → ∃ rs fin, Chain P T ops H l tm rs fin ∧ k fin = some r
  | [], tm, h => ⟨[], tm, ⟨rfl, rfl⟩, h⟩
  | o :: l, tm, h => by
    obtain ⟨av, h1, h2⟩ := evQg_nat h
    obtain ⟨rs, fin, h3, h4⟩ := evQs_chain h2
    exact ⟨av :: rs, fin, ⟨av, rs, rfl, h1, h3⟩, h4⟩

theorem VQ_op (hTab : CallOK D P T) {H : Hp} {o : Oper} {tm : List AV} {r : AV} (h : VQ P T ops H o tm r) {a : Act} {w : World} {K : Act → World → Prop} {Q : Exit → Act → World → Prop} (hG : Gam F ⟨tm, H⟩ a w) (hK : ∀ a' w', Gam F ⟨putA tm o.dst r, H⟩ a' w' → K a' w') :
    if Region.wanted o (yielded ops a.tmps) then o.wp P a w K Q ∨ (o.asks P a w ∧ LetsOut Q) else K (a.put o.dst undef) w := by
  rcases h with ⟨hg, h1⟩ | ⟨j, want, t, b, hg, hs, ht, h1⟩ | ⟨j, want, t, l, hg, hs, ht, rfl⟩
  · have : Region.wanted o (yielded ops a.tmps) = true := by simp [Region.wanted, hg]
    rw [if_pos this]
    exact .inl (evQ_ok hTab h1 a w K Q hG hK)
  · obtain ⟨μ, S, hI, hV, hD⟩ := hG
    obtain ⟨u, hu, hv⟩ := VsOK.get hV ht
    rw [VOK] at hv
    subst hv
    have hy : yielded ops a.tmps j = some b := by
      unfold guardSlot at hs
      rw [Array.getElem?_toList] at hu
      simp only [yielded, hs, Option.bind_some, hu]
    have hwant : Region.wanted o (yielded ops a.tmps) = (b == want) := by
      simp only [Region.wanted, hg, hy]
      cases b <;> cases want <;> rfl
    rw [hwant]
    rcases h1 with ⟨rfl, h2⟩ | ⟨hne, rfl⟩
    · rw [if_pos (by simp)]
      exact .inl (evQ_ok hTab h2 a w K Q ⟨μ, S, hI, hV, hD⟩ hK)
    · rw [if_neg (by simpa using hne)]
      exact hK _ _ ⟨μ, S, hI, putA_ok (av := .sc undef) hV rfl, by rw [put_defers]; exact hD⟩
  · obtain ⟨μ, S, hI, hV, hD⟩ := hG
    obtain ⟨u, hu, hv⟩ := VsOK.get hV ht
    rw [VOK] at hv
    subst hv
    have hy : yielded ops a.tmps j = none := by
      unfold guardSlot at hs
      rw [Array.getElem?_toList] at hu
      simp only [yielded, hs, Option.bind_some, hu]
    have hwant : Region.wanted o (yielded ops a.tmps) = false := by
      simp [Region.wanted, hg, hy]
    rw [hwant, if_neg (by simp)]
    exact hK _ _ ⟨μ, S, hI, putA_ok (av := .sc undef) hV rfl, by rw [put_defers]; exact hD⟩

theorem rho_congr {rs : List Nat} {tm tm' : List AV} (h : ∀ s, s ∈ rs → tm[s]? = tm'[s]?) : rho rs tm = rho rs tm' := by
  funext x
  cases x with
  | tmp t =>
    simp only [rho]
    cases hm : memL t rs with
    | true =>
      have := h t (memL_iff.1 hm)
      simp only [List.getD_eq_getElem?_getD, this]
    | false => rfl
  | const v => rfl
  | global g => rfl
  | func f => rfl

theorem VQ_congr {H : Hp} {o : Oper} {tm tm' : List AV} {r : AV} (h : VQ P T ops H o tm r) (he : ∀ s, s ∈ o.looksAt ops → tm[s]? = tm'[s]?) : VQ P T ops H o tm' r := by
  have hr := rho_congr he
  rcases h with ⟨hg, h1⟩ | ⟨j, want, t, b, hg, hs, ht, h1⟩ | ⟨j, want, t, l, hg, hs, ht, rfl⟩
  · exact .inl ⟨hg, by rw [← hr]; exact h1⟩
  · refine .inr (.inl ⟨j, want, t, b, hg, hs, ?_, ?_⟩)
    · rw [← he t ?_]
      · exact ht
      · unfold Oper.looksAt
        unfold guardSlot at hs
        simp [hg, hs]
    · rw [← hr]; exact h1
  · refine .inr (.inr ⟨j, want, t, l, hg, hs, ?_, rfl⟩)
    rw [← he t ?_]
    · exact ht
    · unfold Oper.looksAt
      unfold guardSlot at hs
      simp [hg, hs]

theorem edgesOK_ok : ∀ {l : List Oper} {i : Nat}, edgesOK l i = true → ∀ {j : Nat} {o : Oper}, l[j]? = some o → ∀ e ∈ bed o, e.on < i + j
  | [], i, _, j, o, hj, e, he => by simp at hj
  | p :: l, i, h, j, o, hj, e, he => by
    simp only [edgesOK, Bool.and_eq_true, List.all_eq_true] at h
    cases j with
    | zero =>
      simp only [List.getElem?_cons_zero, Option.some.injEq] at hj
      subst hj
      have := h.1 e he
      have hb := (Nat.blt_eq.mp this)
      omega
    | succ j =>
      have := edgesOK_ok h.2 (j := j) (by simpa using hj) e he
      omega

theorem hasEdge_iff {o : Oper} {j : Nat} : hasEdge o j = true ↔ ∃ e ∈ bed o, e.on = j := by
  unfold hasEdge
  rw [List.any_eq_true]
  constructor
  · rintro ⟨e, he, h⟩
    exact ⟨e, he, Nat.eq_of_beq_eq_true h⟩
  · rintro ⟨e, he, h⟩
    exact ⟨e, he, by rw [h]; simp⟩

theorem looksOK_ok {o : Oper} {i : Nat} : ∀ {l : List Oper} {j0 : Nat}, looksOK ops o i l j0 = true → ∀ {j : Nat} {p : Oper}, l[j]? = some p → i ≠ j0 + j → ∀ d, p.dst = some d → o.dst ≠ some d ∧ (d ∈ o.looksAt ops → (j0 + j < i ∧ hasEdge o (j0 + j) = true) ∨ (i < j0 + j ∧ hasEdge p i = true))
  | [], j0, _, j, p, hj, _, _, _ => by simp at hj
  | q :: l, j0, h, j, p, hj, hne, d, hd => by
    simp only [looksOK, Bool.and_eq_true] at h
    cases j with
    | zero =>
      simp only [List.getElem?_cons_zero, Option.some.injEq] at hj
      subst hj
      have h1 := h.1
      rw [hd] at h1
      simp only at h1
      have hij : Nat.beq i j0 = false := by
        cases hb : Nat.beq i j0 with
        | false => rfl
        | true => exact absurd (Nat.eq_of_beq_eq_true hb) hne
      rw [hij] at h1
      simp only [Bool.and_eq_true] at h1
      refine ⟨?_, fun hl => ?_⟩
      · intro ho
        rw [ho] at h1
        simp at h1
      · have h2 := h1.2
        rw [memL_iff.2 hl] at h2
        simp only at h2
        cases hb : Nat.blt j0 i with
        | true =>
          rw [hb] at h2
          exact .inl ⟨by have := (Nat.blt_eq.mp hb); omega, h2⟩
        | false =>
          rw [hb] at h2
          refine .inr ⟨?_, h2⟩
          have : ¬ j0 < i := fun hh => by rw [(Nat.blt_eq.mpr hh)] at hb; cases hb
          simp only [Nat.add_zero] at hne
          omega
    | succ j =>
      have := looksOK_ok h.2 (j := j) (p := p) (by simpa using hj) (by omega) d hd
      rw [show j0 + (j + 1) = j0 + 1 + j by omega]
      exact this
theorem allLooks_ok : ∀ {l : List Oper} {i0 : Nat}, allLooks ops l i0 = true → ∀ {i : Nat} {o : Oper}, l[i]? = some o → looksOK ops o (i0 + i) ops.toList 0 = true
  | [], i0, _, i, o, hi => by simp at hi
  | p :: l, i0, h, i, o, hi => by
    simp only [allLooks, Bool.and_eq_true] at h
    cases i with
    | zero =>
      simp only [List.getElem?_cons_zero, Option.some.injEq] at hi
      subst hi
      exact h.1
    | succ i =>
      have := allLooks_ok h.2 (i := i) (o := o) (by simpa using hi)
      rwa [show i0 + (i + 1) = i0 + 1 + i by omega]
theorem closedOK_ok {A : List (List Nat)} : ∀ {l : List Oper} {i0 : Nat}, closedOK A l i0 = true → ∀ {i : Nat} {o : Oper}, l[i]? = some o → ∀ j, j ∈ A.getD (i0 + i) [] → (∃ e ∈ bed o, e.on = j) ∨ ∃ e ∈ bed o, j ∈ A.getD e.on []
  | [], i0, _, i, o, hi, _, _ => by simp at hi
  | p :: l, i0, h, i, o, hi, j, hj => by
    simp only [closedOK, Bool.and_eq_true, List.all_eq_true] at h
    cases i with
    | zero =>
      simp only [List.getElem?_cons_zero, Option.some.injEq] at hi
      subst hi
      have := h.1 j (by simpa using hj)
      rw [Bool.or_eq_true] at this
      rcases this with h1 | h1
      · exact .inl (hasEdge_iff.1 h1)
      · obtain ⟨e, he, h2⟩ := List.any_eq_true.1 h1
        exact .inr ⟨e, he, memL_iff.1 h2⟩
    | succ i =>
      exact closedOK_ok h.2 (i := i) (o := o) (by simpa using hi) j (by rwa [show i0 + 1 + i = i0 + (i + 1) by omega])
theorem tailOK_ok {A : List (List Nat)} {m : Nat} : ∀ {f i0 : Nat}, tailOK A m f i0 = true → ∀ i, i0 ≤ i → i < m → i < i0 + f → ∀ j, j < i → j ∈ A.getD i []
  | 0, i0, _, i, h1, h2, h3, j, hj => by omega
  | f + 1, i0, h, i, h1, h2, h3, j, hj => by
    simp only [tailOK] at h
    have hlt : i0 < m := by omega
    rw [(Nat.blt_eq.mpr hlt)] at h
    simp only [Bool.and_eq_true, List.all_eq_true, List.mem_range] at h
    by_cases e : i0 = i
    · subst e
      exact memL_iff.1 (h.1 j hj)
    · exact tailOK_ok h.2 i (by omega) h2 (by omega) j hj
end
end Go.Proofs.YtgkmfhmodojdcaaE

namespace Go.Proofs.YtgkmfhmodojdcaaE
open Go
set_option linter.unusedVariables false

section
variable {P : Program} {T : Tab} {D : Prop} {F : Fr D} {R : Type} {base : Nat} {ops : Array Oper}

theorem putA_get_ne {tm : List AV} {d : Option Nat} {av : AV} {s : Nat} (h : d ≠ some s) : (putA tm d av)[s]? = tm[s]? := by
  cases d with
  | none => rfl
  | some t => exact List.getElem?_set_ne (fun e => h (by rw [e]))
theorem putA_get_same {tm : List AV} {av : AV} {s : Nat} (h : s < tm.length) : (putA tm (some s) av)[s]? = some av := List.getElem?_set_self h
theorem putA_length {tm : List AV} {d : Option Nat} {av : AV} : (putA tm d av).length = tm.length := by
  cases d with
  | none => rfl
  | some t => simp [putA]

def JJ (ops : Array Oper) (n : Nat) (tm0 rs : List AV) (L : Nat → Prop) (tm : List AV) : Prop :=
  tm.length = tm0.length ∧ ∀ s, (∃ i o r, i < n ∧ L i ∧ ops[i]? = some o ∧ o.dst = some s ∧ rs[i]? = some r ∧ (s < tm0.length → tm[s]? = some r)) ∨ ((∀ i o, i < n → L i → ops[i]? = some o → o.dst ≠ some s) ∧ tm[s]? = tm0[s]?)

theorem JJ.step {n : Nat} {tm0 rs tm : List AV} {L L' : Nat → Prop} (h : JJ ops n tm0 rs L tm) {i : Nat} {o : Oper} {r : AV} (hi : i < n) (ho : ops[i]? = some o) (hr : rs[i]? = some r) (hL : ∀ j, L' j ↔ L j ∨ j = i) : JJ ops n tm0 rs L' (putA tm o.dst r) := by
  refine ⟨putA_length.trans h.1, fun s => ?_⟩
  by_cases hd : o.dst = some s
  · refine .inl ⟨i, o, r, hi, (hL i).2 (.inr rfl), ho, hd, hr, fun hs => ?_⟩
    rw [hd]
    exact putA_get_same (by rw [h.1]; exact hs)
  · rw [putA_get_ne hd]
    rcases h.2 s with ⟨j, p, q, h1, h2, h3, h4, h5, h6⟩ | ⟨h1, h2⟩
    · exact .inl ⟨j, p, q, h1, (hL j).2 (.inl h2), h3, h4, h5, h6⟩
    · refine .inr ⟨fun j p hj hl hp => ?_, h2⟩
      rcases (hL j).1 hl with h | rfl
      · exact h1 j p hj h hp
      · rw [ho] at hp
        cases hp
        exact hd

theorem JJ.eq {n : Nat} {tm0 rs tm tm' : List AV} {L L' : Nat → Prop} (h : JJ ops n tm0 rs L tm) (h' : JJ ops n tm0 rs L' tm')
    (hd : ∀ (i j : Nat) (o p : Oper) (s : Nat), ops[i]? = some o → ops[j]? = some p → o.dst = some s → p.dst = some s → i = j) {s : Nat} (hs : ∀ (i : Nat) (o : Oper), i < n → ops[i]? = some o → o.dst = some s → (L i ↔ L' i)) : tm[s]? = tm'[s]? := by
  by_cases hlt : s < tm0.length
  · rcases h.2 s with ⟨i, o, r, h1, h2, h3, h4, h5, h6⟩ | ⟨h1, h2⟩
    · rcases h'.2 s with ⟨j, p, q, g1, g2, g3, g4, g5, g6⟩ | ⟨g1, g2⟩
      · have := hd i j o p s h3 g3 h4 g4
        subst this
        rw [h5] at g5
        cases g5
        rw [h6 hlt, g6 hlt]
      · exact absurd h4 (g1 i o h1 ((hs i o h1 h3 h4).1 h2) h3)
    · rcases h'.2 s with ⟨j, p, q, g1, g2, g3, g4, g5, g6⟩ | ⟨g1, g2⟩
      · exact absurd g4 (h1 j p g1 ((hs j p g1 g3 g4).2 g2) g3)
      · rw [h2, g2]
  · rw [List.getElem?_eq_none (by rw [h.1]; omega), List.getElem?_eq_none (by rw [h'.1]; omega)]

theorem chain_at {H : Hp} {n : Nat} {tm0 rs : List AV} : ∀ {l : List Oper} {i : Nat} {tm rs' fin : List AV}, Chain P T ops H l tm rs' fin → (∀ j o, l[j]? = some o → ops[i + j]? = some o) → i + l.length = n → (∀ j, rs'[j]? = rs[i + j]?) → JJ ops n tm0 rs (· < i) tm →
    JJ ops n tm0 rs (· < n) fin ∧ ∀ j o, i ≤ j → j < n → ops[j]? = some o → ∃ tmj r, rs[j]? = some r ∧ JJ ops n tm0 rs (· < j) tmj ∧ VQ P T ops H o tmj r
  | [], i, tm, rs', fin, h, hl, hn, hr, hJ => by
    obtain ⟨rfl, rfl⟩ := h
    simp only [List.length_nil, Nat.add_zero] at hn
    subst hn
    exact ⟨hJ, fun j o h1 h2 => by omega⟩
  | o :: l, i, tm, rs', fin, h, hl, hn, hr, hJ => by
    obtain ⟨r, rs2, rfl, hV, hC⟩ := h
    simp only [List.length_cons] at hn
    have hri : rs[i]? = some r := by simpa using (hr 0).symm
    have hoi : ops[i]? = some o := by simpa using hl 0 o rfl
    have hJ2 : JJ ops n tm0 rs (· < i + 1) (putA tm o.dst r) := hJ.step (by omega) hoi hri (fun j => by omega)
    obtain ⟨h1, h2⟩ := chain_at hC (fun j p hp => by
      have := hl (j + 1) p (by simpa using hp)
      rwa [show i + (j + 1) = i + 1 + j by omega] at this) (by omega) (fun j => by
      have := hr (j + 1)
      rw [show i + 1 + j = i + (j + 1) by omega, ← this]
      simp) hJ2
    refine ⟨h1, fun j p g1 g2 g3 => ?_⟩
    by_cases e : i = j
    · subst e
      rw [hoi] at g3
      cases g3
      exact ⟨tm, r, hri, hJ, hV⟩
    · exact h2 j p (by omega) g2 g3

def lst (listed : Array Bool) (j : Nat) : Prop := listed.getD j false = true
def unl (m : Nat) (listed : Array Bool) : Nat := (List.range m).countP fun j => !listed.getD j false

theorem countP_lt {p q : Nat → Bool} {i : Nat} (hq : q i = false) (hp : p i = true) (hqp : ∀ j, q j = true → p j = true) : ∀ {l : List Nat}, i ∈ l → l.countP q < l.countP p
  | [], h => by simp at h
  | j :: l, h => by
    have hle : ∀ l : List Nat, l.countP q ≤ l.countP p := fun l => List.countP_mono_left (fun j _ => hqp j)
    rw [List.countP_cons, List.countP_cons]
    rcases List.mem_cons.1 h with rfl | h
    · rw [hq, hp]
      have := hle l
      simp
      omega
    · have := countP_lt hq hp hqp h
      have h2 : (if q j = true then 1 else 0) ≤ (if p j = true then 1 else (0 : Nat)) := by
        split
        · rename_i hh; rw [if_pos (hqp j hh)]; omega
        · omega
      omega

theorem lst_set {listed : Array Bool} {i : Nat} (hi : i < listed.size) (j : Nat) : lst (listed.setIfInBounds i true) j ↔ lst listed j ∨ j = i := by
  unfold lst
  by_cases e : i = j
  · subst e
    simp [hi]
  · rw [getD_set_ne false e]
    exact ⟨.inl, fun h => h.resolve_right (fun h => e h.symm)⟩
theorem unl_set {m : Nat} {listed : Array Bool} {i : Nat} (hm : i < m) (hi : i < listed.size) (hn : ¬ lst listed i) : unl m (listed.setIfInBounds i true) < unl m listed := by
  refine countP_lt (i := i) ?_ ?_ ?_ (List.mem_range.2 hm)
  · have := (lst_set hi i).2 (.inr rfl)
    unfold lst at this
    rw [this]; rfl
  · unfold lst at hn
    simpa using hn
  · intro j hj
    cases hg : listed.getD j false with
    | false => rfl
    | true =>
      have := (lst_set hi j).2 (.inl hg)
      unfold lst at this
      rw [this] at hj
      exact hj
theorem unl_zero {m : Nat} {listed : Array Bool} (h : unl m listed = 0) {j : Nat} (hj : j < m) : lst listed j := by
  have h2 := (List.countP_eq_zero.1 h) j (List.mem_range.2 hj)
  unfold lst
  simpa using h2

structure Facts (ops : Array Oper) (n : Nat) (A : List (List Nat)) : Prop where
  edges : ∀ {j : Nat} {o : Oper}, ops[j]? = some o → ∀ e ∈ bed o, e.on < j
  looks : ∀ {i j : Nat} {o p : Oper}, ops[i]? = some o → ops[j]? = some p → i ≠ j → ∀ d, p.dst = some d → o.dst ≠ some d ∧ (d ∈ o.looksAt ops → (j < i ∧ hasEdge o j = true) ∨ (i < j ∧ hasEdge p i = true))
  closed : ∀ {i : Nat} {o : Oper}, ops[i]? = some o → ∀ j, j ∈ A.getD i [] → (∃ e ∈ bed o, e.on = j) ∨ ∃ e ∈ bed o, j ∈ A.getD e.on []
  tail : ∀ i, n ≤ i → i < ops.size → ∀ j, j < i → j ∈ A.getD i []

theorem get_list {i : Nat} {o : Oper} (h : ops[i]? = some o) : ops.toList[i]? = some o := by rw [Array.getElem?_toList]; exact h

theorem drawOK_ok {n : Nat} (h : drawOK ops n = true) : ∃ A, Facts ops n A := by
  unfold drawOK at h
  simp only [Bool.and_eq_true] at h
  obtain ⟨⟨⟨⟨_, h1⟩, h2⟩, h3⟩, h4⟩ := h
  refine ⟨ancs ops.toList [], ⟨fun ho e he => ?_, fun {i j o p} ho hp hne d hd => ?_, fun ho j hj => ?_, fun i g1 g2 j hj => ?_⟩⟩
  · have := edgesOK_ok h1 (get_list ho) e he
    omega
  · have h5 := allLooks_ok h2 (get_list ho)
    have := looksOK_ok h5 (get_list hp) (by omega) d hd
    simpa using this
  · exact closedOK_ok h3 (get_list ho) j (by simpa using hj)
  · exact tailOK_ok h4 i g1 g2 (by omega) j hj

structure Lk (ops : Array Oper) (listed : Array Bool) : Prop where
  size : listed.size = ops.size
  closed : ∀ j o, lst listed j → ops[j]? = some o → ∀ e ∈ bed o, lst listed e.on

variable {n : Nat} {A : List (List Nat)} {listed : Array Bool}

theorem anc_listed (hF : Facts ops n A) (hL : Lk ops listed) : ∀ (b i : Nat), i < b → ∀ {o : Oper}, ops[i]? = some o → (∀ e ∈ bed o, lst listed e.on) → ∀ j, j ∈ A.getD i [] → lst listed j
  | 0, i, hb, o, ho, he, j, hj => by omega
  | b + 1, i, hb, o, ho, he, j, hj => by
    rcases hF.closed ho j hj with ⟨e, h1, rfl⟩ | ⟨e, h1, h2⟩
    · exact he e h1
    · have hlt := hF.edges ho e h1
      have hi : i < ops.size := (Array.getElem?_eq_some_iff.1 ho).1
      have hp : ops[e.on]? = some ops[e.on] := Array.getElem?_eq_getElem (by omega)
      exact anc_listed hF hL b e.on (by omega) hp (hL.closed e.on _ (he e h1) hp) j h2

theorem ready_spec (hF : Facts ops n A) (hL : Lk ops listed) {i : Nat} : i ∈ Region.ready .any ops listed ↔ ¬ lst listed i ∧ ∃ o, ops[i]? = some o ∧ ∀ e ∈ bed o, lst listed e.on := by
  rw [mem_ready]
  constructor
  · rintro ⟨h0, o, ho, h⟩
    refine ⟨fun hl => ?_, o, ho, fun e he => h e (by simpa using (List.mem_filter.1 he).1) (List.mem_filter.1 he).2⟩
    unfold lst at hl
    have hi : i < listed.size := by rw [hL.size]; exact (Array.getElem?_eq_some_iff.1 ho).1
    simp [hi] at h0 hl
    rw [h0] at hl
    cases hl
  · rintro ⟨h0, o, ho, h⟩
    refine ⟨?_, o, ho, fun e he hb => h e (List.mem_filter.2 ⟨by simpa using he, hb⟩)⟩
    have hi : i < listed.size := by rw [hL.size]; exact (Array.getElem?_eq_some_iff.1 ho).1
    unfold lst at h0
    simp [hi] at h0 ⊢
    exact h0

theorem least_ready (hF : Facts ops n A) (hL : Lk ops listed) : ∀ (i : Nat), i < ops.size → ¬ lst listed i → Region.ready .any ops listed ≠ [] := by
  intro i
  induction i using Nat.strongRecOn with
  | ind i ih =>
    intro hi hn he
    have ho : ops[i]? = some ops[i] := Array.getElem?_eq_getElem hi
    by_cases hall : ∀ e ∈ bed (ops[i]), lst listed e.on
    · have := (ready_spec hF hL).2 ⟨hn, _, ho, hall⟩
      rw [he] at this
      simp at this
    · simp only [Classical.not_forall] at hall
      obtain ⟨e, he1, he2⟩ := hall
      have := hF.edges ho e he1
      exact ih e.on this (by omega) he2 he

theorem Lk.set (hF : Facts ops n A) (hL : Lk ops listed) {i : Nat} (hi : i ∈ Region.ready .any ops listed) : Lk ops (listed.setIfInBounds i true) ∧ i < listed.size := by
  obtain ⟨_, o, ho, he⟩ := (ready_spec hF hL).1 hi
  have hlt : i < listed.size := by rw [hL.size]; exact (Array.getElem?_eq_some_iff.1 ho).1
  refine ⟨⟨by simp [hL.size], fun j p hj hp e hep => ?_⟩, hlt⟩
  rw [lst_set hlt] at hj ⊢
  rcases hj with hj | rfl
  · exact .inl (hL.closed j p hj hp e hep)
  · rw [ho] at hp
    cases hp
    exact .inl (he e hep)

theorem tail_ready (hF : Facts ops n A) (hL : Lk ops listed) {i : Nat} (hi : n ≤ i) (hr : i ∈ Region.ready .any ops listed) {j : Nat} (hj : j < i) : lst listed j := by
  obtain ⟨_, o, ho, he⟩ := (ready_spec hF hL).1 hr
  exact anc_listed hF hL (i + 1) i (by omega) ho he j (hF.tail i hi (Array.getElem?_eq_some_iff.1 ho).1 j hj)

theorem drop_get {l : List Oper} {i : Nat} {o : Oper} (h : l[i]? = some o) : l.drop i = o :: l.drop (i + 1) := by
  obtain ⟨hi, he⟩ := List.getElem?_eq_some_iff.1 h
  rw [List.drop_eq_getElem_cons hi, he]

theorem tail_any (hTab : CallOK D P T) (hF : Facts ops n A) {r : R} {k : St → Option R} {Q : Exit → Act → World → Prop} (hk : ∀ st' a' w', Gam F st' a' w' → k st' = some r → Q .normal a' w') : ∀ (fuel : Nat) (listed : Array Bool) (i : Nat) (st : St) (a : Act) (w : World),
    Lk ops listed → (∀ j, lst listed j ↔ j < i) → n ≤ i → i ≤ ops.size → unl ops.size listed ≤ fuel → evOps P T base ops (ops.toList.drop i) st k = some r → Gam F st a w → wpAny P .any ops Q fuel listed a w := by
  intro fuel
  induction fuel with
  | zero =>
    intro listed i st a w hL hl hn hi hu h hG
    have : i = ops.size := by
      rcases Nat.lt_or_ge i ops.size with h' | h'
      · exact absurd ((hl i).1 (unl_zero (by omega) h')) (by omega)
      · omega
    subst this
    refine ⟨?_, ?_⟩
    · apply List.eq_nil_iff_forall_not_mem.2
      intro j hj
      obtain ⟨h1, o, ho, _⟩ := (ready_spec hF hL).1 hj
      exact h1 ((hl j).2 (Array.getElem?_eq_some_iff.1 ho).1)
    · rw [List.drop_eq_nil_of_le (by simp)] at h
      exact hk _ _ _ hG h
  | succ fuel ih =>
    intro listed i st a w hL hl hn hi hu h hG
    refine ⟨fun hnil => ?_, fun j hj => ?_⟩
    · have : i = ops.size := by
        rcases Nat.lt_or_ge i ops.size with h' | h'
        · exact absurd hnil (least_ready hF hL i h' (fun hh => absurd ((hl i).1 hh) (by omega)))
        · omega
      subst this
      rw [List.drop_eq_nil_of_le (by simp)] at h
      exact hk _ _ _ hG h
    · obtain ⟨h1, o, ho, he⟩ := (ready_spec hF hL).1 hj
      have hji : j = i := by
        rcases Nat.lt_trichotomy j i with h' | h' | h'
        · exact absurd ((hl j).2 h') h1
        · exact h'
        · exact absurd ((hl i).1 (tail_ready hF hL (by omega) hj h')) (by omega)
      subst hji
      obtain ⟨hL', hs⟩ := Lk.set hF hL hj
      rw [drop_get (get_list ho)] at h
      unfold evOps at h
      have hlt := (Array.getElem?_eq_some_iff.1 ho).1
      simp only [wpOp, ho]
      refine evGuard_ok hTab h hG (fun st' a' w' hG' h' => ih _ (j + 1) st' a' w' hL' (fun x => ?_) (by omega) (by omega) ?_ h' hG')
      · rw [lst_set hs, hl]
        omega
      · have := unl_set hlt hs h1
        omega

theorem main_any (hTab : CallOK D P T) (hF : Facts ops n A) (hnm : n ≤ ops.size) {H : Hp} {tm0 rs fin : List AV} {r : R} {k : St → Option R} {Q : Exit → Act → World → Prop} (hk : ∀ st' a' w', Gam F st' a' w' → k st' = some r → Q .normal a' w')
    (hfin : JJ ops n tm0 rs (· < n) fin) (hat : ∀ j o, j < n → ops[j]? = some o → ∃ tmj r, rs[j]? = some r ∧ JJ ops n tm0 rs (· < j) tmj ∧ VQ P T ops H o tmj r)
    (hev : evOps P T base ops (ops.toList.drop n) ⟨fin, H⟩ k = some r) : ∀ (fuel : Nat) (listed : Array Bool) (tm : List AV) (a : Act) (w : World),
    Lk ops listed → (∀ j, lst listed j → j < n) → unl ops.size listed ≤ fuel → JJ ops n tm0 rs (lst listed) tm → Gam F ⟨tm, H⟩ a w → wpAny P .any ops Q fuel listed a w := by
  have hd : ∀ (i j : Nat) (o p : Oper) (s : Nat), ops[i]? = some o → ops[j]? = some p → o.dst = some s → p.dst = some s → i = j := by
    intro i j o p s h1 h2 h3 h4
    by_cases e : i = j
    · exact e
    · exact absurd h3 (hF.looks h1 h2 e s h4).1
  intro fuel
  induction fuel with
  | zero =>
    intro listed tm a w hL hl hu hJ hG
    have hall : ∀ j, lst listed j ↔ j < n := fun j => ⟨hl j, fun h => unl_zero (m := ops.size) (by omega) (by omega)⟩
    have : tm = fin := List.ext_getElem? fun s => hJ.eq hfin hd (fun i o _ _ _ => hall i)
    subst this
    exact tail_any hTab hF hk 0 listed n _ a w hL hall (Nat.le_refl _) hnm hu hev hG
  | succ fuel ih =>
    intro listed tm a w hL hl hu hJ hG
    by_cases hall : ∀ j, j < n → lst listed j
    · have hall' : ∀ j, lst listed j ↔ j < n := fun j => ⟨hl j, hall j⟩
      have : tm = fin := List.ext_getElem? fun s => hJ.eq hfin hd (fun i o _ _ _ => hall' i)
      subst this
      exact tail_any hTab hF hk (fuel + 1) listed n _ a w hL hall' (Nat.le_refl _) hnm hu hev hG
    · simp only [Classical.not_forall] at hall
      obtain ⟨u, hu1, hu2⟩ := hall
      refine ⟨fun hnil => absurd hnil (least_ready hF hL u (by omega) hu2), fun i hi => ?_⟩
      obtain ⟨h1, o, ho, he⟩ := (ready_spec hF hL).1 hi
      have hin : i < n := by
        rcases Nat.lt_or_ge i n with h' | h'
        · exact h'
        · exact absurd (tail_ready hF hL h' hi (by omega)) hu2
      obtain ⟨hL', hs⟩ := Lk.set hF hL hi
      obtain ⟨tmi, q, hq, hJi, hVi⟩ := hat i o hin ho
      have hlt := (Array.getElem?_eq_some_iff.1 ho).1
      have hV : VQ P T ops H o tm q := VQ_congr hVi fun s hs => hJi.eq hJ hd (fun j p hj hp hpd => by
        by_cases e : i = j
        · subst e
          exact ⟨fun h => by omega, fun h => absurd h h1⟩
        · rcases (hF.looks ho hp e s hpd).2 hs with ⟨g1, g2⟩ | ⟨g1, g2⟩
          · obtain ⟨ed, g3, rfl⟩ := hasEdge_iff.1 g2
            exact ⟨fun _ => he ed g3, fun _ => g1⟩
          · refine ⟨fun h => by omega, fun h => ?_⟩
            obtain ⟨ed, g3, g4⟩ := hasEdge_iff.1 g2
            have := hL.closed j p h hp ed g3
            rw [g4] at this
            exact absurd this h1)
      simp only [wpOp, ho]
      refine VQ_op hTab hV hG (fun a' w' hG' => ih _ _ a' w' hL' (fun j hj => ?_) ?_ (hJ.step hin ho hq (lst_set hs)) hG')
      · rcases (lst_set hs j).1 hj with h | rfl
        · exact hl j h
        · exact hin
      · have := unl_set hlt hs h1
        omega

theorem evDraw_ok (hm : P.follows .mixedOrders = true) (hTab : CallOK D P T) {id : Nat} {st : St} {a : Act} {w : World} {r : R} {k : St → Option R} {Q : Exit → Act → World → Prop}
    (h : evDraw P T base ops st k = some r) (hG : Gam F st a w) (hk : ∀ st' a' w', Gam F st' a' w' → k st' = some r → Q .normal a' w') : (Code.region id ops true).wp P Q a w := by
  unfold evDraw at h
  split at h
  · rename_i hok
    obtain ⟨A, hF⟩ := drawOK_ok hok
    obtain ⟨rs, fin, hC, hev⟩ := evQs_chain h
    have hql : ∀ l : List Oper, quietN l ≤ l.length := by
      intro l
      induction l with
      | nil => exact Nat.le_refl _
      | cons o l ih =>
        unfold quietN
        split
        · omega
        · simp only [List.length_cons]; omega
    have hnm : quietN ops.toList ≤ ops.size := by simpa using hql ops.toList
    have hJ0 : ∀ L : Nat → Prop, (∀ j, ¬ L j) → JJ ops (quietN ops.toList) st.tm rs L st.tm := fun L hL => ⟨rfl, fun s => .inr ⟨fun i o _ hl => absurd hl (hL i), rfl⟩⟩
    obtain ⟨h1, h2⟩ := chain_at (n := quietN ops.toList) (tm0 := st.tm) (rs := rs) (i := 0) hC (fun j o hj => by
      rw [List.getElem?_take] at hj
      split at hj
      · simpa using hj
      · cases hj) (by simp [hnm]) (fun j => by simp) (hJ0 _ (by omega))
    have hno : ∀ j, ¬ lst (Array.replicate ops.size false) j := by
      intro j hj
      unfold lst at hj
      by_cases hlt : j < ops.size
      · simp [hlt] at hj
      · simp [hlt] at hj
    refine wp_region_any hm (main_any (base := base) hTab hF hnm (fin := fin) (rs := rs) (tm0 := st.tm) hk h1 (fun j o hj ho => h2 j o (Nat.zero_le _) hj ho) hev ops.size _ st.tm a _ ⟨by simp, fun j o hj => absurd hj (hno j)⟩ (fun j hj => absurd hj (hno j)) ?_ (hJ0 _ hno) ?_)
    · exact Nat.le_trans List.countP_le_length (by simp)
    · exact Gam.drew hG
  · cases h
end
end Go.Proofs.YtgkmfhmodojdcaaE

namespace Go.Proofs.YtgkmfhmodojdcaaE
open Go
set_option linter.unusedVariables false

inductive X where
  | norm
  | exit (n : Nat)
  | ret

def X.go : X → Exit
  | .norm => .normal
  | .exit n => .exit n
  | .ret => .ret

inductive Tidy where
  | top (slots : List Nat)
  | only (slots : List Nat)
  | ids (l : List Nat)
  | pro (slot id : Nat) (e : TypeId) (t : Ty)
  | frz (l : List Nat)
  | ren (slot i id : Nat)

def setTop : List Nat → List AV → List AV
  | [], tm => tm
  | s :: l, tm => setTop l (tm.set s .top)

def memN (i : Nat) : List Nat → Bool
  | [] => false
  | j :: l => match Nat.beq i j with
    | true => true
    | false => memN i l
def onlyFrom (l : List Nat) : Nat → List AV → List AV
  | _, [] => []
  | i, a :: tm => (match memN i l with
    | true => a
    | false => .top) :: onlyFrom l (i + 1) tm

def pickIds (H : Hp) : List Nat → Hp
  | [] => []
  | i :: l => match lk H i with
    | some B => (i, B) :: pickIds H l
    | none => pickIds H l

def tidy1 : Tidy → St → St
  | .top l, st => ⟨setTop l st.tm, st.H⟩
  | .only l, st => ⟨onlyFrom l 0 st.tm, st.H⟩
  | .ids l, st => ⟨st.tm, pickIds st.H l⟩
  | .pro s id e t, st => match st.tm[s]? with
    | some (.sc (.slice none 0 0)) => ⟨(keeps (but id) st.tm).set s (.own id), (id, .arr e t []) :: keepH (but id) (rm id st.H)⟩
    | _ => st
  | .frz l, st => freezeAll l st
  | .ren s i id, st => match st.tm[s]? with
    | some (.own j) => match Nat.beq j i, Nat.beq i id, lk st.H i with
      | true, false, some (.arr e t l) => ⟨(keeps (but id) st.tm).set s (.own id), (id, .arr e t l) :: keepH (but id) (rm id (rm i st.H))⟩
      | _, _, _ => st
    | _ => st
def tidy : List Tidy → St → St
  | [], st => st
  | t :: l, st => tidy l (tidy1 t st)

def nloops : Code → Nat
  | .seq a b => nloops a + nloops b
  | .cond _ a b => nloops a + nloops b
  | .block _ b => nloops b
  | .scope b => nloops b
  | .loop b => nloops b + 1
  | _ => 0

def learn (c : Operand) (b : Bool) (st : St) : St := match c with
  | .tmp t => ⟨st.tm.set t (B b), st.H⟩
  | _ => st

section
variable {R : Type}

noncomputable def iter (Bd : St → (X → St → Option R) → Option R) (nrm : List Tidy) : Nat → St → (X → St → Option R) → Option R
  | 0, _, _ => none
  | n + 1, st, k => Bd st fun x st' => match x with
    | .norm => iter Bd nrm n (tidy nrm st') k
    | .exit j => k (.exit j) st'
    | .ret => k .ret st'

noncomputable def evCode (P : Program) (T : Tab) (base K : Nat) : Code → List (List Tidy) → St → (X → St → Option R) → Option R
  | .skip, _, st, k => k .norm st
  | .label _, _, st, k => k .norm st
  | .region _ ops draw, _, st, k => match draw with
    | false => evOps P T base ops ops.toList st (k .norm)
    | true => match P.follows .mixedOrders with
      | true => evDraw P T base ops st (k .norm)
      | false => none
  | .seq a b, la, st, k => evCode P T base K a la st fun x st' => match x with
    | .norm => evCode P T base K b (la.drop (nloops a)) st' k
    | .exit j => k (.exit j) st'
    | .ret => k .ret st'
  | .cond c a b, la, st, k => match evl st.tm c with
    | .sc (.bool v) => if v = true then evCode P T base K a la (learn c true st) k else evCode P T base K b (la.drop (nloops a)) (learn c false st) k
    | _ => none
  | .block id body, la, st, k => evCode P T base K body la st fun x st' => match x with
    | .norm => k .norm st'
    | .exit j => match Nat.beq j id with
      | true => k .norm st'
      | false => k (.exit j) st'
    | .ret => k .ret st'
  | .loop body, la, st, k => match la with
    | nrm :: la' => iter (evCode P T base K body la') nrm K (tidy nrm st) k
    | [] => none
  | .exit j, _, st, k => k (.exit j) st
  | .ret, _, st, k => k .ret st
  | .scope body, la, st, k => evCode P T base K body la st k
  | _, _, _, _ => none

def resAV (P : Program) (st : St) : List ResultVar → Option (List AV)
  | [] => some []
  | .tmp t :: l => (resAV P st l).bind fun r => some (st.tm.getD t .top :: r)
  | .cell p t :: l => match st.tm.getD p .top with
    | .ptr i off => match lk st.H i with
      | some (.box _ cells) => match loadAV P t cells off with
        | some a => (resAV P st l).bind fun r => some (a :: r)
        | none => none
      | _ => none
    | _ => none

def resOne : List AV → AV
  | [a] => a
  | l => .tup l

def atEnd (c : Code) (la : List (List Tidy)) (st : St) : St := match la.drop (nloops c) with
  | t :: _ => tidy t st
  | [] => st
noncomputable def evFun (P : Program) (T : Tab) (base K : Nat) (fn : Func) (la : List (List Tidy)) (args : List AV) (H : Hp) (k : AV → Hp → Option R) : Option R :=
  match fn.body with
  | some c => evCode P T base K c la ⟨args ++ List.replicate (fn.ntmps - args.length) .top, H⟩ fun x st => match x with
    | .exit _ => none
    | .norm => match resAV P (atEnd c la st) fn.results.toList with
      | some l => k (resOne l) (atEnd c la st).H
      | none => none
    | .ret => match resAV P (atEnd c la st) fn.results.toList with
      | some l => k (resOne l) (atEnd c la st).H
      | none => none
  | none => none
end

section
variable {P : Program} {T : Tab} {D : Prop} {F : Fr D} {R : Type} {base K : Nat}

theorem VsOK.top {μ : Nat → Value} {S : Nat → Prop} {w : World} {tm : List AV} {us : List Value} (h : VsOK μ S w tm us) (s : Nat) : VsOK μ S w (tm.set s .top) us := by
  induction tm generalizing us s with
  | nil => exact h
  | cons a tm ih =>
    obtain ⟨u, us', rfl, h2, h3⟩ := h
    cases s with
    | zero => exact ⟨u, us', rfl, trivial, h3⟩
    | succ s => exact ⟨u, us', rfl, h2, ih h3 s⟩
theorem VsOK.tops {μ : Nat → Value} {S : Nat → Prop} {w : World} : ∀ {l : List Nat} {tm : List AV} {us : List Value}, VsOK μ S w tm us → VsOK μ S w (setTop l tm) us
  | [], tm, us, h => h
  | s :: l, tm, us, h => VsOK.tops (l := l) (h.top s)
theorem VsOK.only {μ : Nat → Value} {S : Nat → Prop} {w : World} {l : List Nat} : ∀ {tm : List AV} {us : List Value} {i : Nat}, VsOK μ S w tm us → VsOK μ S w (onlyFrom l i tm) us
  | [], us, i, h => h
  | a :: tm, us, i, h => by
    obtain ⟨u, us', rfl, h2, h3⟩ := h
    refine ⟨u, us', rfl, ?_, VsOK.only h3⟩
    split
    · exact h2
    · trivial
theorem VsOK.put {μ : Nat → Value} {S : Nat → Prop} {w : World} {tm : List AV} {us : List Value} {s : Nat} {a : AV} {u : Value} (h : VsOK μ S w tm us) (hu : us[s]? = some u) (ha : VOK μ S w a u) : VsOK μ S w (tm.set s a) us := by
  induction tm generalizing us s with
  | nil => exact h
  | cons b tm ih =>
    obtain ⟨v, us', rfl, h2, h3⟩ := h
    cases s with
    | zero => cases hu; exact ⟨u, us', rfl, ha, h3⟩
    | succ s => exact ⟨v, us', rfl, h2, ih h3 (by simpa using hu)⟩

theorem Inv.sub {μ : Nat → Value} {S : Nat → Prop} {H H' : Hp} {w : World} (h : Inv F μ S H w) (hs : ∀ id B, lk H' id = some B → lk H id = some B) : Inv F μ S H' w :=
  ⟨fun id B hB => h.blk id B (hs id B hB), fun i j Bi Bj hi hj => h.apart i j Bi Bj (hs i Bi hi) (hs j Bj hj), fun i B hi => h.notS i B (hs i B hi), h.Slt, h.S0, h.Sfrom, h.frame, h.size, h.os, h.tape, h.output, h.drawn⟩

theorem lk_pick (H : Hp) : ∀ (l : List Nat) (id : Nat) (B : ABlk), lk (pickIds H l) id = some B → lk H id = some B
  | [], id, B, h => by simp [pickIds, lk] at h
  | i :: l, id, B, h => by
    unfold pickIds at h
    split at h
    · rename_i B0 h0
      by_cases e : id = i
      · subst e
        rw [lk_cons_same] at h
        exact h0.trans h
      · rw [lk_cons_other e] at h
        exact lk_pick H l id B h
    · exact lk_pick H l id B h

theorem Inv.ren {μ : Nat → Value} {S : Nat → Prop} {H : Hp} {w : World} {i id : Nat} {e : TypeId} {t : Ty} {l : List (El t)} (h : Inv F μ S H w) (hk : lk H i = some (.arr e t l)) (hne : i ≠ id) :
    Inv F (upd μ id (μ i)) S ((id, .arr e t l) :: keepH (but id) (rm id (rm i H))) w := by
  have hμ : ∀ j, but id j = true → upd μ id (μ i) j = μ j := fun j hj => upd_other μ _ (but_iff.1 hj)
  have old : ∀ j B', lk ((id, ABlk.arr e t l) :: keepH (but id) (rm id (rm i H))) j = some B' → j ≠ id → j ≠ i ∧ ∃ B0, lk H j = some B0 ∧ B' = keepB (but id) B0 := by
    intro j B' hj hn
    rw [lk_cons_other hn, lk_keepH, lk_rm_other hn] at hj
    by_cases e : j = i
    · subst e; rw [lk_rm_same] at hj; cases hj
    · rw [lk_rm_other e] at hj
      cases hk : lk H j with
      | none => rw [hk] at hj; cases hj
      | some B0 => rw [hk] at hj; exact ⟨e, B0, rfl, (Option.some.inj hj).symm⟩
  refine ⟨?_, ?_, ?_, h.Slt, h.S0, h.Sfrom, h.frame, h.size, h.os, h.tape, h.output, h.drawn⟩
  · intro j B' hj
    by_cases hn : j = id
    · subst hn
      rw [lk_cons_same] at hj
      cases hj
      have := h.blk i _ hk
      simp only [BOK, upd_same] at this ⊢
      exact this
    · obtain ⟨_, B0, h0, rfl⟩ := old j B' hj hn
      exact BOK.keep hμ (fun _ h => h) (Nat.le_refl _) (fun _ _ => rfl) (upd_other μ _ hn) (fun b hb => rfl) (h.blk j B0 h0)
  · intro a b Ba Bb ha hb hn x hxa hxb
    by_cases ea : a = id
    · subst ea
      rw [upd_same] at hxa
      have eb : b ≠ a := fun e => hn e.symm
      obtain ⟨e1, B1, h1, rfl⟩ := old b Bb hb eb
      rw [upd_other μ _ eb] at hxb
      exact h.apart i b _ B1 hk h1 (fun e => e1 e.symm) x hxa hxb
    · obtain ⟨e0, B0, h0, rfl⟩ := old a Ba ha ea
      rw [upd_other μ _ ea] at hxa
      by_cases eb : b = id
      · subst eb
        rw [upd_same] at hxb
        exact h.apart a i B0 _ h0 hk e0 x hxa hxb
      · obtain ⟨e1, B1, h1, rfl⟩ := old b Bb hb eb
        rw [upd_other μ _ eb] at hxb
        exact h.apart a b B0 B1 h0 h1 hn x hxa hxb
  · intro a Ba ha b hb
    by_cases ea : a = id
    · subst ea
      rw [upd_same] at hb
      exact h.notS i _ hk b hb
    · obtain ⟨_, B0, h0, rfl⟩ := old a Ba ha ea
      rw [upd_other μ _ ea] at hb
      exact h.notS a B0 h0 b hb

theorem Gam.tidy1 {t : Tidy} {st : St} {a : Act} {w : World} (h : Gam F st a w) : Gam F (tidy1 t st) a w := by
  obtain ⟨μ, S, hI, hV, hD⟩ := h
  cases t with
  | top l => exact ⟨μ, S, hI, VsOK.tops hV, hD⟩
  | only l => exact ⟨μ, S, hI, VsOK.only hV, hD⟩
  | ids l => exact ⟨μ, S, hI.sub (lk_pick _ l), hV, hD⟩
  | pro s id e t =>
    simp only [Go.Proofs.YtgkmfhmodojdcaaE.tidy1]
    split
    · rename_i heq
      obtain ⟨u, hu, hv⟩ := VsOK.get hV heq
      rw [VOK] at hv
      subst hv
      have hμ : ∀ j, but id j = true → upd μ id (.slice none 0 0) j = μ j := fun j hj => upd_other μ _ (but_iff.1 hj)
      exact ⟨_, S, hI.nil id e t none, VsOK.put (VsOK.keep hμ (fun _ h => h) (Nat.le_refl _) (fun _ _ => rfl) hV) hu ⟨(upd_same _ _ _).symm, _, _, _, rfl⟩, hD⟩
    · exact ⟨μ, S, hI, hV, hD⟩
  | frz l => exact Gam.freezeAll (l := l) ⟨μ, S, hI, hV, hD⟩
  | ren s i id =>
    simp only [Go.Proofs.YtgkmfhmodojdcaaE.tidy1]
    split
    · rename_i j heq
      split
      · rename_i e t l h1 h2 h3
        obtain rfl := Nat.eq_of_beq_eq_true h1
        have hne : j ≠ id := fun e => by rw [e] at h2; simp at h2
        obtain ⟨u, hu, hv⟩ := VsOK.get hV heq
        rw [VOK] at hv
        obtain ⟨rfl, hs⟩ := hv
        have hμ : ∀ x, but id x = true → upd μ id (μ j) x = μ x := fun x hx => upd_other μ _ (but_iff.1 hx)
        exact ⟨_, S, hI.ren h3 hne, VsOK.put (VsOK.keep hμ (fun _ h => h) (Nat.le_refl _) (fun _ _ => rfl) hV) hu ⟨(upd_same _ _ _).symm, hs⟩, hD⟩
      · exact ⟨μ, S, hI, hV, hD⟩
    · exact ⟨μ, S, hI, hV, hD⟩
theorem Gam.tidy {a : Act} {w : World} : ∀ {l : List Tidy} {st : St}, Gam F st a w → Gam F (tidy l st) a w
  | [], st, h => h
  | t :: l, st, h => Gam.tidy (l := l) (Gam.tidy1 h)

theorem Gam.learn {st : St} {a : Act} {w : World} {c : Operand} {b : Bool} (h : Gam F st a w) (hc : evl st.tm c = .sc (.bool b)) : Gam F (learn c b st) a w := by
  cases c with
  | tmp t =>
    obtain ⟨μ, S, hI, hV, hD⟩ := h
    have hc' : st.tm.getD t .top = .sc (.bool b) := hc
    rw [List.getD_eq_getElem?_getD] at hc'
    cases ht : st.tm[t]? with
    | none => rw [ht] at hc'; cases hc'
    | some av =>
      rw [ht] at hc'
      simp only [Option.getD_some] at hc'
      subst hc'
      exact ⟨μ, S, hI, set_same_ok hV ht, hD⟩
  | const v => exact h
  | global g => exact h
  | func f => exact h

theorem Gam.atEnd {a : Act} {w : World} {c : Code} {la : List (List Tidy)} {st : St} (h : Gam F st a w) : Gam F (atEnd c la st) a w := by
  unfold Go.Proofs.YtgkmfhmodojdcaaE.atEnd
  split
  · exact h.tidy
  · exact h

theorem iter_ok {Bd : St → (X → St → Option R) → Option R} {body : Code} {nrm : List Tidy} {r : R} {Q : Exit → Act → World → Prop}
    (hB : ∀ (Q : Exit → Act → World → Prop) st a w k, Bd st k = some r → Gam F st a w → (∀ x st' a' w', Gam F st' a' w' → k x st' = some r → Q x.go a' w') → body.wp P Q a w) :
    ∀ {n : Nat} {st : St} {a : Act} {w : World} {k : X → St → Option R}, iter Bd nrm n st k = some r → Gam F st a w → (∀ x st' a' w', Gam F st' a' w' → k x st' = some r → Q x.go a' w') → Code.rounds P body Q n a w
  | 0, st, a, w, k, h, _, _ => by cases h
  | n + 1, st, a, w, k, h, hG, hk => by
    rw [rounds_succ]
    refine hB _ st a w _ h hG ?_
    intro x st' a' w' hG' h'
    cases x with
    | norm => exact iter_ok hB h' hG'.tidy hk
    | exit j => exact hk (.exit j) st' a' w' hG' h'
    | ret => exact hk .ret st' a' w' hG' h'

theorem evCode_ok (hTab : CallOK D P T) {r : R} : ∀ {c : Code} {la : List (List Tidy)} {Q : Exit → Act → World → Prop} {st : St} {a : Act} {w : World} {k : X → St → Option R},
    evCode P T base K c la st k = some r → Gam F st a w → (∀ x st' a' w', Gam F st' a' w' → k x st' = some r → Q x.go a' w') → c.wp P Q a w
  | .skip, la, Q, st, a, w, k, h, hG, hk => wp_skip (hk .norm _ _ _ hG h)
  | .label _, la, Q, st, a, w, k, h, hG, hk => wp_label (hk .norm _ _ _ hG h)
  | .region _ ops draw, la, Q, st, a, w, k, h, hG, hk => by
    cases draw with
    | false => exact wp_region_list (evOps_ok hTab h hG (fun st' a' w' hG' h' => hk .norm _ _ _ hG' h'))
    | true =>
      simp only [evCode] at h
      split at h
      · rename_i hm
        exact evDraw_ok hm hTab h hG (fun st' a' w' hG' h' => hk .norm _ _ _ hG' h')
      · cases h
  | .seq x y, la, Q, st, a, w, k, h, hG, hk => by
    refine wp_seq (evCode_ok hTab (c := x) h hG ?_)
    intro x' st' a' w' hG' h'
    cases x' with
    | norm => exact evCode_ok hTab (c := y) h' hG' hk
    | exit j => exact hk (.exit j) _ _ _ hG' h'
    | ret => exact hk .ret _ _ _ hG' h'
  | .cond c x y, la, Q, st, a, w, k, h, hG, hk => by
    simp only [evCode] at h
    split at h
    · rename_i v hc
      obtain ⟨μ, S, hI, hV, hD⟩ := hG
      have hv := evl_ok (a := a) hV c
      rw [hc, VOK] at hv
      split at h
      · rename_i hb
        subst hb
        exact wp_cond_true hv (evCode_ok hTab (c := x) h (Gam.learn ⟨μ, S, hI, hV, hD⟩ hc) hk)
      · rename_i hb
        have hb' : v = false := by simpa using hb
        subst hb'
        exact wp_cond_false hv (evCode_ok hTab (c := y) h (Gam.learn ⟨μ, S, hI, hV, hD⟩ hc) hk)
    · cases h
  | .block id body, la, Q, st, a, w, k, h, hG, hk => by
    refine wp_block (evCode_ok hTab (c := body) h hG ?_)
    intro x' st' a' w' hG' h'
    cases x' with
    | norm => exact hk .norm _ _ _ hG' h'
    | exit j =>
      show if j = id then Q .normal a' w' else Q (.exit j) a' w'
      dsimp only at h'
      split at h'
      · rename_i hj
        rw [if_pos (Nat.eq_of_beq_eq_true hj)]
        exact hk .norm _ _ _ hG' h'
      · rename_i hj
        rw [if_neg (fun e => by subst e; simp at hj)]
        exact hk (.exit j) _ _ _ hG' h'
    | ret => exact hk .ret _ _ _ hG' h'
  | .loop body, la, Q, st, a, w, k, h, hG, hk => by
    cases la with
    | nil => cases h
    | cons nrm la' =>
      refine wp_loop_rounds K (iter_ok (fun Q st a w k h hG hk => evCode_ok hTab (c := body) h hG hk) h hG.tidy hk)
  | .exit j, la, Q, st, a, w, k, h, hG, hk => wp_exit (hk (.exit j) _ _ _ hG h)
  | .ret, la, Q, st, a, w, k, h, hG, hk => wp_ret (hk .ret _ _ _ hG h)
  | .scope body, la, Q, st, a, w, k, h, hG, hk => by
    refine wp_scope_straight (evCode_ok hTab (c := body) h hG ?_)
    intro x' st' a' w' hG' h'
    cases x' with
    | norm => exact hk .norm _ _ _ hG' h'
    | exit j => exact hk (.exit j) _ _ _ hG' h'
    | ret => exact hk .ret _ _ _ hG' h'
  | .rangeFunc _ _ _ _, la, Q, st, a, w, k, h, hG, hk => by cases h
  | .goto _, la, Q, st, a, w, k, h, hG, hk => by cases h
  | .refuse _, la, Q, st, a, w, k, h, hG, hk => by cases h
end
end Go.Proofs.YtgkmfhmodojdcaaE

namespace Go.Proofs.YtgkmfhmodojdcaaE
open Go
set_option linter.unusedVariables false
section
variable {P : Program} {T : Tab} {D : Prop} {F : Fr D} {R : Type} {base K : Nat}

def resSem (tmps : Array Value) : ResultVar → Sem Value
  | .tmp t => pure (tmps.getD t undef)
  | .cell a t => do loadVar t (← asAddr (tmps.getD a undef))

theorem getD_ok {μ : Nat → Value} {S : Nat → Prop} {w : World} {tm : List AV} {a : Act} (h : VsOK μ S w tm a.tmps.toList) (t : Nat) : VOK μ S w (tm.getD t .top) (a.tmps.getD t undef) := evl_ok h (.tmp t)

theorem res_ok {μ : Nat → Value} {S : Nat → Prop} {w : World} {st : St} {a : Act} (hI : Inv F μ S st.H w) (hV : VsOK μ S w st.tm a.tmps.toList) : ∀ {l : List ResultVar} {r : List AV}, resAV P st l = some r →
    ∃ vs, (l.mapM (resSem a.tmps)).run P w = .ok vs w ∧ VsOK μ S w r vs
  | [], r, h => by
    cases h
    exact ⟨[], by simp [go_sem], rfl⟩
  | .tmp t :: l, r, h => by
    simp only [resAV] at h
    obtain ⟨r', h1, h2⟩ := Option.bind_eq_some_iff.1 h
    cases h2
    obtain ⟨vs, h3, h4⟩ := res_ok hI hV h1
    refine ⟨a.tmps.getD t undef :: vs, ?_, _, _, rfl, getD_ok hV t, h4⟩
    rw [List.mapM_cons]
    simp only [Sem.run_bind, resSem, Sem.run_pure, Result.andThen_ok, h3]
  | .cell p t :: l, r, h => by
    simp only [resAV] at h
    split at h
    · rename_i i off hp
      split at h
      · rename_i T' cells hk
        split at h
        · rename_i av hl
          obtain ⟨r', h1, h2⟩ := Option.bind_eq_some_iff.1 h
          cases h2
          obtain ⟨vs, h3, h4⟩ := res_ok hI hV h1
          have hv := getD_ok hV p
          rw [hp] at hv
          obtain ⟨b, h5, h6⟩ := hv
          obtain ⟨b', us, h7, h8, h9⟩ := hI.blk i _ hk
          rw [h5] at h7
          cases h7
          obtain ⟨v, h10, h11⟩ := load_ok hl h9 (cellsAt_heap h8)
          rw [Nat.zero_add] at h10
          refine ⟨v :: vs, ?_, _, _, rfl, h11, h4⟩
          rw [List.mapM_cons]
          have h12 : (loadVar t ⟨b, off, none⟩).run P w = .ok v w := by
            have := h10
            simp only [Instr.loadAt, Instr.sureAddr, Sem.run_bind, Sem.run_pure, Result.andThen_ok] at this
            exact this
          simp only [Sem.run_bind, resSem, h6, asAddr, Sem.run_pure, Result.andThen_ok, h12, h3]
        · cases h
      · cases h
    · cases h

theorem results_run {fn : Func} {a : Act} {w : World} {μ : Nat → Value} {S : Nat → Prop} {st : St} {l : List AV} (hI : Inv F μ S st.H w) (hV : VsOK μ S w st.tm a.tmps.toList) (h : resAV P st fn.results.toList = some l) :
    ∃ v, (results fn a.tmps).run P w = .ok v w ∧ VOK μ S w (resOne l) v := by
  obtain ⟨vs, h1, h2⟩ := res_ok (P := P) hI hV h
  have h3 : (fn.results.mapM (resSem a.tmps)).run P w = .ok vs.toArray w := by
    rw [Array.mapM_eq_mapM_toList]
    simp [h1, go_sem]
  refine ⟨if hs : vs.toArray.size = 1 then vs.toArray[0] else .tuple vs.toArray, ?_, ?_⟩
  · have : (results fn a.tmps) = (do let vs ← fn.results.mapM (resSem a.tmps); pure (if h : vs.size = 1 then vs[0] else .tuple vs)) := by
      unfold results
      congr 1
    rw [this]
    simp only [Sem.run_bind, h3, Result.andThen_ok, Sem.run_pure]
  · have hl := VsOK.len h2
    match l, vs, h2, hl with
    | [av], [v], h2, _ =>
      obtain ⟨u, us, he, hu, _⟩ := h2
      cases he
      exact hu
    | [], [], h2, _ => exact ⟨[], rfl, rfl⟩
    | a1 :: a2 :: l, v1 :: v2 :: vs, h2, _ =>
      rw [dif_neg (by simp)]
      exact ⟨_, rfl, h2⟩

theorem VsOK.tops_rep {μ : Nat → Value} {S : Nat → Prop} {w : World} : ∀ n, VsOK μ S w (List.replicate n .top) (List.replicate n undef)
  | 0 => rfl
  | n + 1 => ⟨undef, List.replicate n undef, rfl, trivial, VsOK.tops_rep n⟩

theorem evFun_ok (hTab : CallOK D P T) {f : FuncId} {fn : Func} {la : List (List Tidy)} {args : List AV} {H : Hp} {k : AV → Hp → Option R} {r : R} {w : World} {vals : List Value} {μ : Nat → Value} {S : Nat → Prop}
    (hf : P.funcs[f]? = some fn) (h : evFun P T base K fn la args H k = some r) (hI : Inv F μ S H w) (hV : VsOK μ S w args vals) :
    Calls P f vals.toArray w fun e w' => ∃ v av H' μ' S', e = .returned v ∧ Inv F μ' S' H' w' ∧ VOK μ' S' w' av v ∧ k av H' = some r := by
  unfold evFun at h
  split at h
  · rename_i c hb
    refine calls_of_wp hf hb (evCode_ok hTab h ⟨μ, S, hI, ?_, rfl⟩ ?_)
    · simp only [Array.toList_append, List.toList_toArray, Array.toList_replicate, List.size_toArray, VsOK.len hV]
      exact VsOK.append hV (VsOK.tops_rep _)
    · intro x st a' w' hG hk
      have fin : ∀ {l : List AV}, resAV P (atEnd c la st) fn.results.toList = some l → k (resOne l) (atEnd c la st).H = some r → a'.defers = [] ∧ ∃ v, (results fn a'.tmps).run P w' = .ok v w' ∧ ∃ v' av H' μ' S', Ending.returned v = .returned v' ∧ Inv F μ' S' H' w' ∧ VOK μ' S' w' av v' ∧ k av H' = some r := by
        intro l hl hk'
        obtain ⟨μ', S', hI', hV', hD'⟩ := Gam.atEnd (c := c) (la := la) hG
        obtain ⟨v, h1, h2⟩ := results_run (P := P) (fn := fn) hI' hV' hl
        exact ⟨hD', v, h1, v, resOne l, (atEnd c la st).H, μ', S', rfl, hI', h2, hk'⟩
      cases x with
      | exit j => cases hk
      | norm =>
        dsimp only at hk
        split at hk
        · rename_i l hl; exact fin hl hk
        · cases hk
      | ret =>
        dsimp only at hk
        split at hk
        · rename_i l hl; exact fin hl hk
        · cases hk
  · cases h

structure Dec (α : Type) where
  k : AV → Hp → Option α
  f : α → Nat → AV
  nb : α → Option ABlk
  ok : ∀ {D : Prop} {F : Fr D} {av : AV} {H : Hp} {x : α} {μ : Nat → Value} {S : Nat → Prop} {w : World} {v : Value}, (∀ b, ¬ F.O b) → k av H = some x → Inv F μ S H w → VOK μ S w av v →
    ∃ u, (∀ id, VOK (fun _ => u) S w (f x id) v) ∧ ∀ B, nb x = some B → (∀ id, BOK (fun _ => u) S w id B) ∧ ∀ b, bof u = some b → F.w0.heap.size ≤ b ∧ ¬ S b

structure Sd (α : Type) where
  k : AV → Option α
  f : α → AV
  ok : ∀ {av : AV} {x : α} {μ μ' : Nat → Value} {S : Nat → Prop} {w : World} {v : Value}, k av = some x → VOK μ S w av v → VOK μ' S w (f x) v

def sdInt (k : IntKind) : Sd Int where
  k := fun av => match av with
    | .sc (.int k' n) => if k' = k then some n else none
    | _ => none
  f := fun n => I k n
  ok := by
    intro av x μ μ' S w v h hv
    split at h
    · split at h
      · rename_i e; cases h; subst e; exact hv
      · cases h
    · cases h
def sdBool : Sd Bool where
  k := fun av => match av with
    | .sc (.bool b) => some b
    | _ => none
  f := fun b => B b
  ok := by
    intro av x μ μ' S w v h hv
    split at h
    · cases h; exact hv
    · cases h
def sdAgg (t : Ty) : Sd (El t) where
  k := fun av => match av with
    | .agg l => match ofCells t l with
      | some (x, []) => some x
      | _ => none
    | _ => none
  f := fun x => .agg (cellsOf t x)
  ok := by
    intro av x μ μ' S w v h hv
    split at h
    · rename_i l
      split at h
      · rename_i y hy
        cases h
        obtain ⟨us, rfl, hus⟩ := hv
        obtain ⟨u1, u2, h1, h2, h3⟩ := ofCells_ok hy hus
        rw [VsOK] at h3
        rw [h3, List.append_nil] at h1
        subst h1
        exact ⟨_, rfl, Rd.cells h2⟩
      · cases h
    · cases h
def sdRow (t : Ty) : Sd (List (El t)) where
  k := fun av => match av with
    | .row t' l => if h : t'.eq t = true then some (Ty.of_eq h ▸ l) else none
    | .sc (.slice none 0 0) => some []
    | _ => none
  f := fun l => .row t l
  ok := by
    intro av x μ μ' S w v h hv
    split at h
    · split at h
      · rename_i he
        cases Ty.of_eq he
        cases h
        exact hv
      · cases h
    · cases h
      rw [VOK] at hv
      exact ⟨none, 0, by rw [hv]; rfl, Nat.le_refl _, by simp, fun i x hx => by simp at hx⟩
    · cases h

def dec1 {α : Type} (s : Sd α) : Dec α where
  k := fun av _ => s.k av
  f := fun x _ => s.f x
  nb := fun _ => none
  ok := fun _ h _ hv => ⟨undef, fun _ => s.ok h hv, fun B hB => by cases hB⟩
def dec2 {α β : Type} (s : Sd α) (t : Sd β) : Dec (α × β) where
  k := fun av _ => match av with
    | .tup [a, b] => (s.k a).bind fun x => (t.k b).bind fun y => some (x, y)
    | _ => none
  f := fun x _ => .tup [s.f x.1, t.f x.2]
  nb := fun _ => none
  ok := by
    intro D F av H x μ S w v _ h hI hv
    split at h
    · rename_i a b
      obtain ⟨x1, h1, h2⟩ := Option.bind_eq_some_iff.1 h
      obtain ⟨x2, h3, h4⟩ := Option.bind_eq_some_iff.1 h2
      cases h4
      obtain ⟨us, rfl, u1, us1, rfl, hu1, u2, us2, rfl, hu2, hu3⟩ := hv
      exact ⟨undef, fun _ => ⟨_, rfl, u1, _, rfl, s.ok h1 hu1, u2, _, rfl, t.ok h3 hu2, hu3⟩, fun B hB => by cases hB⟩
    · cases h
def ownK (e : TypeId) (t : Ty) (av : AV) (H : Hp) : Option (List (El t)) := match av with
  | .own i => match lk H i with
    | some (.arr e' t' l) => if h : t'.eq t = true then if e' = e then some (Ty.of_eq h ▸ l) else none else none
    | _ => none
  | .sc (.slice none 0 0) => some []
  | _ => none
theorem ownK_ok {e : TypeId} {t : Ty} {av : AV} {H : Hp} {l : List (El t)} {μ : Nat → Value} {S : Nat → Prop} {w : World} {v : Value} (hO : ∀ b, ¬ F.O b) (h : ownK e t av H = some l) (hI : Inv F μ S H w) (hv : VOK μ S w av v) :
    (∀ id, VOK (fun _ => v) S w (.own id) v) ∧ (∀ id, BOK (fun _ => v) S w id (.arr e t l)) ∧ ∀ b, bof v = some b → F.w0.heap.size ≤ b ∧ ¬ S b := by
  unfold ownK at h
  split at h
  · rename_i i
    split at h
    · rename_i e' t' l' hk
      split at h
      · rename_i he
        split at h
        · rename_i hee
          subst hee
          cases Ty.of_eq he
          cases h
          have hv' : v = μ i := hv.1
          have hb := hI.blk i _ hk
          refine ⟨fun id => ⟨rfl, hv.2⟩, fun id => ?_, fun b hb' => ?_⟩
          · rcases hb with ⟨A, h1, h2⟩ | ⟨b, c, us, rest, h1, h2⟩
            · exact .inl ⟨A, hv'.trans h1, h2⟩
            · exact .inr ⟨b, c, us, rest, hv'.trans h1, h2⟩
          · rw [hv'] at hb'
            have := hI.notS i _ hk b hb'
            exact ⟨this.2.resolve_right (hO b), this.1⟩
        · cases h
      · cases h
    · cases h
  · cases h
    rw [VOK] at hv
    subst hv
    exact ⟨fun id => ⟨rfl, _, _, _, rfl⟩, fun id => .inl ⟨none, rfl, rfl⟩, fun b hb => by simp [bof] at hb⟩
  · cases h
def decOwn (e : TypeId) (t : Ty) : Dec (List (El t)) where
  k := fun av H => ownK e t av H
  f := fun _ id => .own id
  nb := fun l => some (.arr e t l)
  ok := by
    intro D F av H x μ S w v hO h hI hv
    obtain ⟨h1, h2, h3⟩ := ownK_ok hO h hI hv
    exact ⟨v, h1, fun B hB => by cases hB; exact ⟨h2, h3⟩⟩
def decOwn2 {β : Type} (e : TypeId) (t : Ty) (s : Sd β) : Dec (List (El t) × β) where
  k := fun av H => match av with
    | .tup [a, b] => (ownK e t a H).bind fun l => (s.k b).bind fun y => some (l, y)
    | _ => none
  f := fun x id => .tup [.own id, s.f x.2]
  nb := fun x => some (.arr e t x.1)
  ok := by
    intro D F av H x μ S w v hO h hI hv
    split at h
    · rename_i a b
      obtain ⟨x1, h1, h2⟩ := Option.bind_eq_some_iff.1 h
      obtain ⟨x2, h3, h4⟩ := Option.bind_eq_some_iff.1 h2
      cases h4
      obtain ⟨us, rfl, u1, us1, rfl, hu1, u2, us2, rfl, hu2, hu3⟩ := hv
      obtain ⟨q1, q2, q3⟩ := ownK_ok hO h1 hI hu1
      exact ⟨u1, fun id => ⟨_, rfl, u1, _, rfl, q1 id, u2, _, rfl, s.ok h3 hu2, hu3⟩, fun B hB => by cases hB; exact ⟨q2, q3⟩⟩
    · cases h

def Has (D : Prop) (P : Program) (g : FuncId) (args : List AV) {α : Type} (d : Dec α) (x : α) : Prop :=
  ∀ (S : Nat → Prop) (w : World) (vals : List Value), (∀ b, S b → b < w.heap.size) → VsOK (fun _ => undef) S w args vals →
    Calls P g vals.toArray w fun e w' => ∃ v u S', e = .returned v ∧ Bel D w w' ∧ (∀ b, S b → S' b) ∧ (∀ b, S' b → (S b ∨ w.heap.size ≤ b) ∧ b < w'.heap.size) ∧
      (∀ id, VOK (fun _ => u) S' w' (d.f x id) v) ∧ ∀ B, d.nb x = some B → (∀ id, BOK (fun _ => u) S' w' id B) ∧ ∀ b, bof u = some b → w.heap.size ≤ b ∧ ¬ S' b

theorem has_of {g : FuncId} {fn : Func} {la : List (List Tidy)} {args : List AV} {α : Type} {d : Dec α} {x : α} (hTab : CallOK D P T) (hf : P.funcs[g]? = some fn) (h : evFun P T 0 K fn la args [] d.k = some x) : Has D P g args d x := by
  intro S w vals hS hV
  have hI : Inv (⟨w, fun _ => False, S⟩ : Fr D) (fun _ => undef) S [] w :=
    ⟨fun id B h => by simp [lk] at h, fun i j Bi Bj h => by simp [lk] at h, fun i B h => by simp [lk] at h, hS, fun b h => h, fun b h => .inl h, fun b _ _ => rfl, Nat.le_refl _, rfl, rfl, rfl, fun _ => Nat.le_refl _⟩
  refine (evFun_ok hTab hf h hI hV).mono ?_
  rintro e w' ⟨v, av, H', μ', S', rfl, hI', hv, hk⟩
  obtain ⟨u, h1, h2⟩ := d.ok (fun b h => h) hk hI' hv
  refine ⟨v, u, S', rfl, ⟨⟨hI'.os, hI'.tape, hI'.output, hI'.size, fun k hk => hI'.frame k hk (fun h => h)⟩, hI'.drawn⟩, hI'.S0, fun b hb => ⟨?_, hI'.Slt b hb⟩, h1, h2⟩
  rcases hI'.Sfrom b hb with h | h | h
  · exact .inl h
  · exact h.elim
  · exact .inr h

def Tab.none : Tab := ⟨fun _ _ => Option.none, fun _ _ _ _ => Option.none⟩
def Tab.add (T : Tab) (g : FuncId) (s : List AV → Option Out) : Tab := ⟨fun f args => match Nat.beq f g with
  | true => s args
  | false => T f args, T.w⟩
theorem none_ok : CallOK D P Tab.none := ⟨fun g args out h => (by cases h), fun g args out x h => (by cases h), fun g t l args out h => (by cases h)⟩
def out {α : Type} (d : Dec α) (o : Option α) : Option Out := some ⟨α, o, d.f, d.nb⟩

def Enters (P : Program) (g : FuncId) : Prop := ∀ vals w, (callFunc g vals).run P w = .ok (.enter g vals) w

def Tab.addW (T : Tab) (g : FuncId) (s : (t : Ty) → List (El t) → List AV → Option (OutW t)) : Tab := ⟨T.f, fun f t l args => match Nat.beq f g with
  | true => s t l args
  | false => T.w f t l args⟩
def RowW (D : Prop) (P : Program) (g : FuncId) (s : (t : Ty) → List (El t) → List AV → Option (OutW t)) : Prop :=
  ∀ t l args out l', s t l args = some out → out.o = some l' → WHas D P g t l l' args out.ret
def RowOK (D : Prop) (P : Program) (g : FuncId) (s : List AV → Option Out) : Prop :=
  ∀ args o, s args = some o → ∃ (α : Type) (d : Dec α) (r : Option α), o = ⟨α, r, d.f, d.nb⟩ ∧ ∀ x, r = some x → Has D P g args d x
theorem add_ok {g : FuncId} {s : List AV → Option Out} (h : CallOK D P T) (he : Enters P g) (hs : RowOK D P g s) : CallOK D P (T.add g s) := by
  refine ⟨fun f args o ho vals w => ?_, fun f args o x ho hx => ?_, h.2.2⟩
  · unfold Tab.add at ho
    dsimp only at ho
    split at ho
    · rename_i hfg
      rw [Nat.eq_of_beq_eq_true hfg]
      exact he vals w
    · exact h.1 f args o ho vals w
  · unfold Tab.add at ho
    dsimp only at ho
    split at ho
    · rename_i hfg
      rw [Nat.eq_of_beq_eq_true hfg]
      obtain ⟨α, d, r, rfl, hr⟩ := hs args o ho
      exact hr x hx
    · exact h.2.1 f args o x ho hx
theorem addW_ok {g : FuncId} {s : (t : Ty) → List (El t) → List AV → Option (OutW t)} (h : CallOK D P T) (he : Enters P g) (hs : RowW D P g s) : CallOK D P (T.addW g s) := by
  refine ⟨h.1, h.2.1, fun f t l args out ho => ?_⟩
  unfold Tab.addW at ho
  dsimp only at ho
  split at ho
  · rename_i hfg
    rw [Nat.eq_of_beq_eq_true hfg]
    exact ⟨he, fun l' hl' => hs t l args out l' ho hl'⟩
  · exact h.2.2 f t l args out ho
end
end Go.Proofs.YtgkmfhmodojdcaaE

