/- The engine, part 11: code, loops, functions. -/
import Derived.Test.YtigekmmdflaeaaaDoorEngW
set_option linter.all false
namespace Go.Proofs.YtigekmmdflaeaaaDoorE
open Go
set_option linter.unusedVariables false

inductive X where
  | norm
  | exit (n : Nat)
  | ret

def X.go : X → Exit
  | .norm => .normal
  | .exit n => .exit n
  | .ret => .ret

/-- What is forgotten, or said otherwise, at a loop's head. -/
inductive Tidy where
  | top (slots : List Nat)
  | only (slots : List Nat)
  | ids (l : List Nat)
  | pro (slot id : Nat) (e : TypeId) (t : Ty)
  | frz (l : List Nat)
  | ren (i id : Nat)
  | prob (b i id : Nat) (e : TypeId) (t : Ty)
  | reno (i id : Nat)
  | dr (id : Nat)
  | case (s : Nat) (p : List Nat) (n : Nat)
  | caseB (b i n : Nat)

mutual
/-- an own array under another name -/
def rn (i id : Nat) : AV → AV
  | .own j => match Nat.beq j i with
    | true => .own id
    | false => .own j
  | .agg l => .agg (rns i id l)
  | .tup l => .tup (rns i id l)
  | .fn f l => .fn f (rns i id l)
  | .ptr j off => .ptr j off
  | .optr j a s off => .optr j a s off
  | .mp j => .mp j
  | .top => .top
  | .sc v => .sc v
  | .row t l => .row t l
  | .eptr t x off => .eptr t x off
def rns (i id : Nat) : List AV → List AV
  | [] => []
  | a :: l => rn i id a :: rns i id l
end
mutual
theorem VOK.rn {μ : Nat → Value} {S : Nat → Prop} {w : World} {i id : Nat} (hμ : μ id = μ i) : ∀ {a : AV} {u : Value}, VOK μ S w a u → VOK μ S w (rn i id a) u
  | .top, u, h => h
  | .sc v, u, h => h
  | .row t l, u, h => h
  | .own j, u, h => by
    unfold Go.Proofs.YtigekmmdflaeaaaDoorE.rn
    split
    · rename_i hb
      rw [VOK] at h ⊢
      rw [hμ, ← Nat.eq_of_beq_eq_true hb]
      exact h
    · exact h
  | .ptr j off, u, h => h
  | .optr j a s off, u, h => h
  | .eptr t x off, u, h => h
  | .mp j, u, h => h
  | .agg l, u, h => by obtain ⟨us, h1, h2⟩ := h; exact ⟨us, h1, VsOK.rn hμ h2⟩
  | .tup l, u, h => by obtain ⟨us, h1, h2⟩ := h; exact ⟨us, h1, VsOK.rn hμ h2⟩
  | .fn f l, u, h => by obtain ⟨us, h1, h2⟩ := h; exact ⟨us, h1, VsOK.rn hμ h2⟩
theorem VsOK.rn {μ : Nat → Value} {S : Nat → Prop} {w : World} {i id : Nat} (hμ : μ id = μ i) : ∀ {l : List AV} {us : List Value}, VsOK μ S w l us → VsOK μ S w (rns i id l) us
  | [], us, h => h
  | a :: l, us, h => by
    obtain ⟨u, us', h1, h2, h3⟩ := h
    exact ⟨u, us', h1, VOK.rn hμ h2, VsOK.rn hμ h3⟩
end
def rnB (i id : Nat) : ABlk → ABlk
  | .box T cells => .box T (rns i id cells)
  | .arr e t l => .arr e t l
  | .mp kt vt m => .mp kt vt m
def rnH (i id : Nat) : Hp → Hp
  | [] => []
  | (n, B) :: H => (n, rnB i id B) :: rnH i id H
theorem lk_rnH (i id : Nat) : ∀ (H : Hp) (j : Nat), lk (rnH i id H) j = (lk H j).map (rnB i id)
  | [], j => rfl
  | (n, B) :: H, j => by
    unfold rnH lk
    cases Nat.beq n j with
    | true => rfl
    | false => exact lk_rnH i id H j
theorem BOK.rn {μ : Nat → Value} {S : Nat → Prop} {w : World} {i id : Nat} (hμ : μ id = μ i) {j : Nat} : ∀ {B : ABlk}, BOK μ S w j B → BOK μ S w j (rnB i id B)
  | .box T cells, h => by
    obtain ⟨b, us, h1, h2, h3⟩ := h
    exact ⟨b, us, h1, h2, VsOK.rn hμ h3⟩
  | .arr e t l, h => h
  | .mp kt vt m, h => h

def setTop : List Nat → List AV → List AV
  | [], tm => tm
  | s :: l, tm => setTop l (tm.set s .top)

def memN (i : Nat) : List Nat → Bool
  | [] => false
  | j :: l => match Nat.beq i j with
    | true => true
    | false => memN i l
def onlyFrom (l : List Nat) : Nat → List AV → List AV
  | _, [] => []
  | i, a :: tm => (match memN i l with
    | true => a
    | false => .top) :: onlyFrom l (i + 1) tm

def pickIds (H : Hp) : List Nat → Hp
  | [] => []
  | i :: l => match lk H i with
    | some B => (i, B) :: pickIds H l
    | none => pickIds H l

def insH (n : Nat) (B : ABlk) : Hp → Hp
  | [] => [(n, B)]
  | (m, C) :: H => match Nat.ble n m with
    | true => (n, B) :: (m, C) :: H
    | false => (m, C) :: insH n B H
/-- things that came in, and arrays of things, by their names -/
def bigH : Hp → Hp
  | [] => []
  | (n, B) :: H => match Nat.blt n 300000 with
    | true => bigH H
    | false => insH n B (bigH H)
/-- nothing names it -/
def unnamed (d : Nat) : Hp → Bool
  | [] => true
  | (_, .box _ l) :: H => match nns d l with
    | true => unnamed d H
    | false => false
  | (_, _) :: H => unnamed d H
def tidy1 : Tidy → St → St
  | .top l, st => ⟨setTop l st.tm, st.H⟩
  | .only l, st => ⟨onlyFrom l 0 st.tm, st.H⟩
  | .ids l, st => ⟨st.tm, pickIds st.H l ++ bigH st.H⟩
  | .pro s id e t, st => match Nat.blt id 2000000, st.tm[s]? with
    | true, some (.sc (.slice none 0 0)) => ⟨(keeps (but id) st.tm).set s (.own id), (id, .arr e t []) :: keepH (but id) (rm id st.H)⟩
    | _, _ => st
  | .frz l, st => freezeAll l st
  | .ren i id, st => match Nat.blt id 2000000, Nat.beq i id, lk st.H i with
    | true, false, some (.arr e t l) => ⟨rns i id (keeps (but id) st.tm), (id, .arr e t l) :: rnH i id (keepH (but id) (rm id (rm i st.H)))⟩
    | _, _, _ => st
  | .prob b i id e t, st => match Nat.blt id 2000000, lk ((id, .arr e t []) :: keepH (but id) (rm id st.H)) b with
    | true, some (.box T l) => match l[i]? with
      | some (.sc (.slice none 0 0)) => ⟨keeps (but id) st.tm, (b, .box T (l.set i (.own id))) :: rm b ((id, .arr e t []) :: keepH (but id) (rm id st.H))⟩
      | _ => st
    | _, _ => st
  | .reno i id, st => match Nat.blt id 2000000, Nat.beq i id, lk st.H i, lk st.H id with
    | true, false, some (.arr e t l), none => ⟨rns i id (keeps (but id) st.tm), (id, .arr e t l) :: rnH i id (keepH (but id) (rm id (rm i st.H)))⟩
    | _, _, _, _ => st
  | .dr id, st => match nns id st.tm, unnamed id st.H with
    | true, true => ⟨st.tm, rm id st.H⟩
    | _, _ => st
  | .case _ _ _, st => st
  | .caseB _ _ _, st => st
def tidy : List Tidy → St → St
  | [], st => st
  | t :: l, st => tidy l (tidy1 t st)

def nloops : Code → Nat
  | .seq a b => nloops a + nloops b
  | .cond _ a b => nloops a + nloops b
  | .block _ b => nloops b
  | .scope b => nloops b
  | .loop b => nloops b + 1
  | _ => 0

def learn (c : Operand) (b : Bool) (st : St) : St := match c with
  | .tmp t => ⟨st.tm.set t (B b), st.H⟩
  | _ => st

/-! ### a number, place by place: it is 0, or 1, .. or nothing is told -/
def caseN {R : Type} : Nat → Nat → Int → (Int → Option R) → Option R
  | 0, _, _, _ => none
  | n + 1, k, o, f => if decide (o = (Int.ofNat k)) = true then f (Int.ofNat k) else caseN n (k + 1) o f
theorem caseN_ok {R : Type} {f : Int → Option R} {o : Int} {r : R} : ∀ {n k : Nat}, caseN n k o f = some r → f o = some r
  | 0, k, h => by cases h
  | n + 1, k, h => by
    unfold caseN at h
    split at h
    · rename_i hd
      rw [of_decide_eq_true hd]; exact h
    · exact caseN_ok h
def getP : List Nat → AV → AV
  | [], a => a
  | i :: p, .agg l => match l[i]? with
    | some a => getP p a
    | none => .top
  | _ :: _, _ => .top
def setP : List Nat → AV → AV → AV
  | [], x, _ => x
  | i :: p, x, .agg l => match l[i]? with
    | some a => .agg (l.set i (setP p x a))
    | none => .agg l
  | _ :: _, _, a => a
theorem setP_get : ∀ (p : List Nat) (a : AV), setP p (getP p a) a = a
  | [], a => rfl
  | i :: p, a => by
    cases a with
    | agg l =>
      simp only [setP, getP]
      cases h : l[i]? with
      | none => rfl
      | some b =>
        show AV.agg (l.set i (setP p (getP p b) b)) = _
        rw [setP_get p b]
        congr 1
        obtain ⟨hi, rfl⟩ := List.getElem?_eq_some_iff.1 h
        exact List.set_getElem_self hi
    | _ => rfl
theorem set_getD (l : List AV) (s : Nat) : l.set s (l.getD s .top) = l := by
  by_cases h : s < l.length
  · rw [List.getD_eq_getElem?_getD, List.getElem?_eq_getElem h]
    exact List.set_getElem_self h
  · exact List.set_eq_of_length_le (by omega)
/-- a cell of a box -/
def setB (b i : Nat) (x : AV) : Hp → Hp
  | [] => []
  | (m, A) :: H => match Nat.beq m b with
    | true => match A with
      | .box T l => (m, .box T (l.set i x)) :: H
      | .arr e t l => (m, .arr e t l) :: H
      | .mp kt vt l => (m, .mp kt vt l) :: H
    | false => (m, A) :: setB b i x H
theorem setB_same {b i : Nat} {x : AV} : ∀ {H : Hp} {T : TypeId} {l : List AV}, lk H b = some (.box T l) → l[i]? = some x → setB b i x H = H
  | [], T, l, h, _ => by cases h
  | (m, A) :: H, T, l, h, hx => by
    have h : (match Nat.beq m b with | true => some A | false => lk H b) = some (ABlk.box T l) := h
    unfold setB
    split at h
    · rename_i e
      cases h
      obtain ⟨hi, rfl⟩ := List.getElem?_eq_some_iff.1 hx
      show (m, ABlk.box T (l.set i l[i])) :: H = _
      rw [List.set_getElem_self hi]
    · show (m, A) :: setB b i x H = _
      rw [setB_same h hx]
/-- numbers, place by place -/
def caseT {R : Type} : List Tidy → St → (St → Option R) → Option R
  | [], st, f => f st
  | .case s p n :: l, st, f => match getP p (st.tm.getD s .top) with
    | .sc (.int .i64 o) => caseN n 0 o fun o' => caseT l ⟨st.tm.set s (setP p (.sc (.int .i64 o')) (st.tm.getD s .top)), st.H⟩ f
    | _ => caseT l st f
  | .caseB b i n :: l, st, f => match lk st.H b with
    | some (.box _ cs) => match cs[i]? with
      | some (.sc (.int .i64 o)) => caseN n 0 o fun o' => caseT l ⟨st.tm, setB b i (.sc (.int .i64 o')) st.H⟩ f
      | _ => caseT l st f
    | _ => caseT l st f
  | _ :: l, st, f => caseT l st f
theorem caseT_ok {R : Type} {f : St → Option R} {r : R} : ∀ {l : List Tidy} {st : St}, caseT l st f = some r → f st = some r
  | [], st, h => h
  | t :: l, st, h => by
    cases t with
    | case s p n =>
      unfold caseT at h
      split at h
      · rename_i o ho
        have h := caseT_ok (caseN_ok h)
        rwa [← ho, setP_get, set_getD] at h
      · exact caseT_ok h
    | caseB b i n =>
      unfold caseT at h
      split at h
      · rename_i T cs hb
        split at h
        · rename_i o ho
          have h := caseT_ok (caseN_ok h)
          rwa [setB_same hb ho] at h
        · exact caseT_ok h
      · exact caseT_ok h
    | top _ => exact caseT_ok (l := l) h
    | only _ => exact caseT_ok (l := l) h
    | ids _ => exact caseT_ok (l := l) h
    | pro _ _ _ _ => exact caseT_ok (l := l) h
    | frz _ => exact caseT_ok (l := l) h
    | ren _ _ => exact caseT_ok (l := l) h
    | reno _ _ => exact caseT_ok (l := l) h
    | dr _ => exact caseT_ok (l := l) h
    | prob _ _ _ _ _ => exact caseT_ok (l := l) h

section
variable {R : Type}

noncomputable def iter (Bd : St → (X → St → Option R) → Option R) (nrm : List Tidy) : Nat → St → (X → St → Option R) → Option R
  | 0, _, _ => none
  | n + 1, st, k => caseT nrm st fun st => Bd st fun x st' => match x with
    | .norm => iter Bd nrm n (tidy nrm st') k
    | .exit j => k (.exit j) st'
    | .ret => k .ret st'

noncomputable def evCode (P : Program) (T : Tab) (base K : Nat) : Code → List (List Tidy) → St → (X → St → Option R) → Option R
  | .skip, _, st, k => k .norm st
  | .label _, _, st, k => k .norm st
  | .region _ ops draw, _, st, k => match draw with
    | false => evOps P T base ops ops.toList st (k .norm)
    | true => match P.follows .mixedOrders with
      | true => evDraw4 P T base ops st (k .norm)
      | false => none
  | .seq a b, la, st, k => evCode P T base K a la st fun x st' => match x with
    | .norm => evCode P T base K b (la.drop (nloops a)) st' k
    | .exit j => k (.exit j) st'
    | .ret => k .ret st'
  | .cond c a b, la, st, k => match evl st.tm c with
    | .sc (.bool v) => if v = true then evCode P T base K a la (learn c true st) k else evCode P T base K b (la.drop (nloops a)) (learn c false st) k
    | _ => none
  | .block id body, la, st, k => evCode P T base K body la st fun x st' => match x with
    | .norm => k .norm st'
    | .exit j => match Nat.beq j id with
      | true => k .norm st'
      | false => k (.exit j) st'
    | .ret => k .ret st'
  | .loop body, la, st, k => match la with
    | nrm :: la' => iter (evCode P T base K body la') nrm K (tidy nrm st) k
    | [] => none
  | .exit j, _, st, k => k (.exit j) st
  | .ret, _, st, k => k .ret st
  | .scope body, la, st, k => evCode P T base K body la st k
  | _, _, _, _ => none

def resAV (P : Program) (st : St) : List ResultVar → Option (List AV)
  | [] => some []
  | .tmp t :: l => (resAV P st l).bind fun r => some (st.tm.getD t .top :: r)
  | .cell p t :: l => match st.tm.getD p .top with
    | .ptr i off => match lk st.H i with
      | some (.box _ cells) => match loadAV P t cells off with
        | some a => (resAV P st l).bind fun r => some (a :: r)
        | none => none
      | _ => none
    | _ => none

def resOne : List AV → AV
  | [a] => a
  | l => .tup l

/-- what is tidied at a function's end: the list behind its loops' -/
def atEnd (c : Code) (la : List (List Tidy)) (st : St) : St := match la.drop (nloops c) with
  | t :: _ => tidy t st
  | [] => st
/-- what is told place by place where a function begins -/
def atIn (c : Code) (la : List (List Tidy)) : List Tidy := match la.drop (nloops c) with
  | _ :: t :: _ => t
  | _ => []
noncomputable def evFun (P : Program) (T : Tab) (base K : Nat) (fn : Func) (la : List (List Tidy)) (args : List AV) (H : Hp) (k : AV → Hp → Option R) : Option R :=
  match fn.body with
  | some c => caseT (atIn c la) ⟨args ++ List.replicate (fn.ntmps - args.length) .top, H⟩ fun st0 => evCode P T base K c la st0 fun x st => match x with
    | .exit _ => none
    | .norm => match resAV P (atEnd c la st) fn.results.toList with
      | some l => k (resOne l) (atEnd c la st).H
      | none => none
    | .ret => match resAV P (atEnd c la st) fn.results.toList with
      | some l => k (resOne l) (atEnd c la st).H
      | none => none
  | none => none
end

section
variable {P : Program} {T : Tab} {D : Cx} {F : Fr D} {R : Type} {base K : Nat}

theorem VsOK.top {μ : Nat → Value} {S : Nat → Prop} {w : World} {tm : List AV} {us : List Value} (h : VsOK μ S w tm us) (s : Nat) : VsOK μ S w (tm.set s .top) us := by
  induction tm generalizing us s with
  | nil => exact h
  | cons a tm ih =>
    obtain ⟨u, us', rfl, h2, h3⟩ := h
    cases s with
    | zero => exact ⟨u, us', rfl, trivial, h3⟩
    | succ s => exact ⟨u, us', rfl, h2, ih h3 s⟩
theorem VsOK.tops {μ : Nat → Value} {S : Nat → Prop} {w : World} : ∀ {l : List Nat} {tm : List AV} {us : List Value}, VsOK μ S w tm us → VsOK μ S w (setTop l tm) us
  | [], tm, us, h => h
  | s :: l, tm, us, h => VsOK.tops (l := l) (h.top s)
theorem VsOK.only {μ : Nat → Value} {S : Nat → Prop} {w : World} {l : List Nat} : ∀ {tm : List AV} {us : List Value} {i : Nat}, VsOK μ S w tm us → VsOK μ S w (onlyFrom l i tm) us
  | [], us, i, h => h
  | a :: tm, us, i, h => by
    obtain ⟨u, us', rfl, h2, h3⟩ := h
    refine ⟨u, us', rfl, ?_, VsOK.only h3⟩
    split
    · exact h2
    · trivial
theorem VsOK.put {μ : Nat → Value} {S : Nat → Prop} {w : World} {tm : List AV} {us : List Value} {s : Nat} {a : AV} {u : Value} (h : VsOK μ S w tm us) (hu : us[s]? = some u) (ha : VOK μ S w a u) : VsOK μ S w (tm.set s a) us := by
  induction tm generalizing us s with
  | nil => exact h
  | cons b tm ih =>
    obtain ⟨v, us', rfl, h2, h3⟩ := h
    cases s with
    | zero => cases hu; exact ⟨u, us', rfl, ha, h3⟩
    | succ s => exact ⟨v, us', rfl, h2, ih h3 (by simpa using hu)⟩

theorem Inv.sub {μ : Nat → Value} {S : Nat → Prop} {H H' : Hp} {w : World} (h : Inv F μ S H w) (hs : ∀ id B, lk H' id = some B → lk H id = some B) : Inv F μ S H' w :=
  ⟨fun id B hB => h.blk id B (hs id B hB), fun i j Bi Bj hi hj => h.apart i j Bi Bj (hs i Bi hi) (hs j Bj hj), fun i B hi => h.notS i B (hs i B hi), h.Slt, h.S0, h.Sfrom, h.frame, h.size, h.os, h.tape, h.output, h.drawn, fun i x B hx hi => h.fixd i x B hx (hs i B hi), h.hy⟩

theorem lk_pick (H : Hp) : ∀ (l : List Nat) (id : Nat) (B : ABlk), lk (pickIds H l) id = some B → lk H id = some B
  | [], id, B, h => by simp [pickIds, lk] at h
  | i :: l, id, B, h => by
    unfold pickIds at h
    split at h
    · rename_i B0 h0
      by_cases e : id = i
      · subst e
        rw [lk_cons_same] at h
        exact h0.trans h
      · rw [lk_cons_other e] at h
        exact lk_pick H l id B h
    · exact lk_pick H l id B h

theorem lk_insH (n : Nat) (B : ABlk) (id : Nat) (C : ABlk) : ∀ H : Hp, lk (insH n B H) id = some C → (id = n ∧ C = B) ∨ (id ≠ n ∧ lk H id = some C)
  | [], h => by
    have h : (match Nat.beq n id with | true => some B | false => lk [] id) = some C := h
    split at h
    · rename_i e; exact .inl ⟨(Nat.eq_of_beq_eq_true e).symm, (Option.some.inj h).symm⟩
    · cases h
  | (m, A) :: H, h => by
    unfold insH at h
    split at h
    · have h : (match Nat.beq n id with | true => some B | false => lk ((m, A) :: H) id) = some C := h
      split at h
      · rename_i e; exact .inl ⟨(Nat.eq_of_beq_eq_true e).symm, (Option.some.inj h).symm⟩
      · rename_i e
        exact .inr ⟨fun h => (by rw [h, Nat.beq_refl] at e; cases e), h⟩
    · rename_i hnm
      have h : (match Nat.beq m id with | true => some A | false => lk (insH n B H) id) = some C := h
      split at h
      · rename_i e
        refine .inr ⟨fun h => ?_, ?_⟩
        · rw [← h, Nat.eq_of_beq_eq_true e, Nat.ble_eq_true_of_le (Nat.le_refl _)] at hnm; cases hnm
        · show (match Nat.beq m id with | true => some A | false => lk H id) = some C
          rw [e]; exact h
      · rename_i e
        rcases lk_insH n B id C H h with h1 | h1
        · exact .inl h1
        · refine .inr ⟨h1.1, ?_⟩
          show (match Nat.beq m id with | true => some A | false => lk H id) = some C
          rw [e]; exact h1.2
theorem lk_bigH : ∀ (H : Hp) (id : Nat) (B : ABlk), lk (bigH H) id = some B → Nat.blt id 300000 = false ∧ lk H id = some B
  | [], id, B, h => by cases h
  | (n, A) :: H, id, B, h => by
    unfold bigH at h
    show _ ∧ (match Nat.beq n id with | true => some A | false => lk H id) = some B
    split at h
    · rename_i hn
      obtain ⟨h1, h2⟩ := lk_bigH H id B h
      refine ⟨h1, ?_⟩
      split
      · rename_i e
        rw [← Nat.eq_of_beq_eq_true e, hn] at h1; cases h1
      · exact h2
    · rename_i hn
      rcases lk_insH n A id B _ h with ⟨rfl, rfl⟩ | ⟨h1, h2⟩
      · rw [Nat.beq_refl]; exact ⟨hn, rfl⟩
      · obtain ⟨h3, h4⟩ := lk_bigH H id B h2
        refine ⟨h3, ?_⟩
        split
        · rename_i e; exact absurd (Nat.eq_of_beq_eq_true e).symm h1
        · exact h4
/-- An array under another name. -/
theorem Inv.ren {μ : Nat → Value} {S : Nat → Prop} {H : Hp} {w : World} {i id : Nat} {e : TypeId} {t : Ty} {l : List (El t)} (h : Inv F μ S H w) (hk : lk H i = some (.arr e t l)) (hne : i ≠ id) (hd : F.fix id = none) :
    Inv F (upd μ id (μ i)) S ((id, .arr e t l) :: rnH i id (keepH (but id) (rm id (rm i H)))) w := by
  have hμ : ∀ j, but id j = true → upd μ id (μ i) j = μ j := fun j hj => upd_other μ _ (but_iff.1 hj)
  have old : ∀ j B', lk ((id, ABlk.arr e t l) :: rnH i id (keepH (but id) (rm id (rm i H)))) j = some B' → j ≠ id → j ≠ i ∧ ∃ B0, lk H j = some B0 ∧ B' = rnB i id (keepB (but id) B0) := by
    intro j B' hj hn
    rw [lk_cons_other hn, lk_rnH, lk_keepH, lk_rm_other hn] at hj
    by_cases e : j = i
    · subst e; rw [lk_rm_same] at hj; cases hj
    · rw [lk_rm_other e] at hj
      cases hk : lk H j with
      | none => rw [hk] at hj; cases hj
      | some B0 => rw [hk] at hj; exact ⟨e, B0, rfl, (Option.some.inj hj).symm⟩
  refine ⟨?_, ?_, ?_, h.Slt, h.S0, h.Sfrom, h.frame, h.size, h.os, h.tape, h.output, h.drawn, ?_, h.hy⟩
  · intro j B' hj
    by_cases hn : j = id
    · subst hn
      rw [lk_cons_same] at hj
      cases hj
      have := h.blk i _ hk
      simp only [BOK, upd_same] at this ⊢
      exact this
    · obtain ⟨_, B0, h0, rfl⟩ := old j B' hj hn
      exact BOK.rn ((upd_same _ _ _).trans (upd_other μ _ hne).symm) (BOK.keep hμ (fun _ h => h) (Nat.le_refl _) (fun _ _ => rfl) (upd_other μ _ hn) (fun b hb => rfl) (h.blk j B0 h0))
  · intro a b Ba Bb ha hb hn x hxa hxb
    by_cases ea : a = id
    · subst ea
      rw [upd_same] at hxa
      have eb : b ≠ a := fun e => hn e.symm
      obtain ⟨e1, B1, h1, rfl⟩ := old b Bb hb eb
      rw [upd_other μ _ eb] at hxb
      exact h.apart i b _ B1 hk h1 (fun e => e1 e.symm) x hxa hxb
    · obtain ⟨e0, B0, h0, rfl⟩ := old a Ba ha ea
      rw [upd_other μ _ ea] at hxa
      by_cases eb : b = id
      · subst eb
        rw [upd_same] at hxb
        exact h.apart a i B0 _ h0 hk e0 x hxa hxb
      · obtain ⟨e1, B1, h1, rfl⟩ := old b Bb hb eb
        rw [upd_other μ _ eb] at hxb
        exact h.apart a b B0 B1 h0 h1 hn x hxa hxb
  · intro a Ba ha b hb
    by_cases ea : a = id
    · subst ea
      rw [upd_same] at hb
      exact h.notS i _ hk b hb
    · obtain ⟨_, B0, h0, rfl⟩ := old a Ba ha ea
      rw [upd_other μ _ ea] at hb
      exact h.notS a B0 h0 b hb
  · intro a x Ba hx ha
    by_cases ea : a = id
    · rw [ea, hd] at hx; cases hx
    · obtain ⟨_, B0, h0, rfl⟩ := old a Ba ha ea
      exact (upd_other μ _ ea).trans (h.fixd a x B0 hx h0)

/-- one thing told otherwise -/
theorem Inv.swap {μ : Nat → Value} {S : Nat → Prop} {H : Hp} {w : World} (h : Inv F μ S H w) {b : Nat} {B B' : ABlk} (hb : lk H b = some B) (hB : BOK μ S w b B') : Inv F μ S ((b, B') :: rm b H) w := by
  have old : ∀ j X, lk ((b, B') :: rm b H) j = some X → ∃ Y, lk H j = some Y := by
    intro j X hj
    by_cases e : j = b
    · subst e; exact ⟨B, hb⟩
    · rw [lk_cons_other e, lk_rm_other e] at hj
      exact ⟨X, hj⟩
  refine ⟨?_, ?_, ?_, h.Slt, h.S0, h.Sfrom, h.frame, h.size, h.os, h.tape, h.output, h.drawn, ?_, h.hy⟩
  · intro j X hj
    by_cases e : j = b
    · subst e
      rw [lk_cons_same] at hj
      cases hj
      exact hB
    · rw [lk_cons_other e, lk_rm_other e] at hj
      exact h.blk j X hj
  · intro i j Bi Bj hi hj
    obtain ⟨Y, hY⟩ := old i Bi hi
    obtain ⟨Z, hZ⟩ := old j Bj hj
    exact h.apart i j Y Z hY hZ
  · intro i X hi
    obtain ⟨Y, hY⟩ := old i X hi
    exact h.notS i Y hY
  · intro i v X hv hi
    obtain ⟨Y, hY⟩ := old i X hi
    exact h.fixd i v Y hv hY
theorem Gam.tidy1 {t : Tidy} {st : St} {a : Act} {w : World} (h : Gam F st a w) : Gam F (tidy1 t st) a w := by
  obtain ⟨μ, S, hI, hV, hD⟩ := h
  cases t with
  | case _ _ _ => exact ⟨μ, S, hI, hV, hD⟩
  | caseB _ _ _ => exact ⟨μ, S, hI, hV, hD⟩
  | top l => exact ⟨μ, S, hI, VsOK.tops hV, hD⟩
  | only l => exact ⟨μ, S, hI, VsOK.only hV, hD⟩
  | ids l => exact ⟨μ, S, hI.sub (fun id B h => by
      replace h : lk (pickIds st.H l ++ bigH st.H) id = some B := h
      rw [lk_app] at h
      split at h
      · rename_i B1 h1
        cases h
        exact lk_pick _ l id B h1
      · exact (lk_bigH _ id B h).2), hV, hD⟩
  | pro s id e t =>
    simp only [Go.Proofs.YtigekmmdflaeaaaDoorE.tidy1]
    split
    · rename_i hlt heq
      obtain ⟨u, hu, hv⟩ := VsOK.get hV heq
      rw [VOK] at hv
      subst hv
      have hμ : ∀ j, but id j = true → upd μ id (.slice none 0 0) j = μ j := fun j hj => upd_other μ _ (but_iff.1 hj)
      exact ⟨_, S, hI.nil id (F.low _ hlt) e t none, VsOK.put (VsOK.keep hμ (fun _ h => h) (Nat.le_refl _) (fun _ _ => rfl) hV) hu ⟨(upd_same _ _ _).symm, _, _, _, rfl⟩, hD⟩
    · exact ⟨μ, S, hI, hV, hD⟩
  | frz l => exact Gam.freezeAll (l := l) ⟨μ, S, hI, hV, hD⟩
  | ren i id =>
    simp only [Go.Proofs.YtigekmmdflaeaaaDoorE.tidy1]
    split
    · rename_i e t l h1 h2 h3
      have hne : i ≠ id := fun e => by rw [e] at h2; simp at h2
      have hμ : ∀ x, but id x = true → upd μ id (μ i) x = μ x := fun x hx => upd_other μ _ (but_iff.1 hx)
      exact ⟨_, S, hI.ren h3 hne (F.low _ h1), VsOK.rn ((upd_same _ _ _).trans (upd_other μ _ hne).symm) (VsOK.keep hμ (fun _ h => h) (Nat.le_refl _) (fun _ _ => rfl) hV), hD⟩
    · exact ⟨μ, S, hI, hV, hD⟩
  | reno i id =>
    simp only [Go.Proofs.YtigekmmdflaeaaaDoorE.tidy1]
    split
    · rename_i e t l h1 h2 h3 _
      have hne : i ≠ id := fun e => by rw [e] at h2; simp at h2
      have hμ : ∀ x, but id x = true → upd μ id (μ i) x = μ x := fun x hx => upd_other μ _ (but_iff.1 hx)
      exact ⟨_, S, hI.ren h3 hne (F.low _ h1), VsOK.rn ((upd_same _ _ _).trans (upd_other μ _ hne).symm) (VsOK.keep hμ (fun _ h => h) (Nat.le_refl _) (fun _ _ => rfl) hV), hD⟩
    · exact ⟨μ, S, hI, hV, hD⟩
  | dr id =>
    simp only [Go.Proofs.YtigekmmdflaeaaaDoorE.tidy1]
    split
    · exact ⟨μ, S, hI.drop id, hV, hD⟩
    · exact ⟨μ, S, hI, hV, hD⟩
  | prob b i id e t =>
    simp only [Go.Proofs.YtigekmmdflaeaaaDoorE.tidy1]
    split
    · rename_i T l hlt hb
      split
      · rename_i hi
        have hμ : ∀ j, but id j = true → upd μ id (.slice none 0 0) j = μ j := fun j hj => upd_other μ _ (but_iff.1 hj)
        have hI1 := hI.nil id (F.low _ hlt) e t none
        obtain ⟨bl, us, q1, q2, q3⟩ := hI1.blk b _ hb
        obtain ⟨u, hu, hv⟩ := VsOK.get q3 hi
        rw [VOK] at hv
        subst hv
        exact ⟨_, S, hI1.swap hb ⟨bl, us, q1, q2, VsOK.put q3 hu ⟨(upd_same _ _ _).symm, _, _, _, rfl⟩⟩, VsOK.keep hμ (fun _ h => h) (Nat.le_refl _) (fun _ _ => rfl) hV, hD⟩
      · exact ⟨μ, S, hI, hV, hD⟩
    · exact ⟨μ, S, hI, hV, hD⟩
theorem Gam.tidy {a : Act} {w : World} : ∀ {l : List Tidy} {st : St}, Gam F st a w → Gam F (tidy l st) a w
  | [], st, h => h
  | t :: l, st, h => Gam.tidy (l := l) (Gam.tidy1 h)

theorem Gam.learn {st : St} {a : Act} {w : World} {c : Operand} {b : Bool} (h : Gam F st a w) (hc : evl st.tm c = .sc (.bool b)) : Gam F (learn c b st) a w := by
  cases c with
  | tmp t =>
    obtain ⟨μ, S, hI, hV, hD⟩ := h
    have hc' : st.tm.getD t .top = .sc (.bool b) := hc
    rw [List.getD_eq_getElem?_getD] at hc'
    cases ht : st.tm[t]? with
    | none => rw [ht] at hc'; cases hc'
    | some av =>
      rw [ht] at hc'
      simp only [Option.getD_some] at hc'
      subst hc'
      exact ⟨μ, S, hI, set_same_ok hV ht, hD⟩
  | const v => exact h
  | global g => exact h
  | func f => exact h

theorem Gam.atEnd {a : Act} {w : World} {c : Code} {la : List (List Tidy)} {st : St} (h : Gam F st a w) : Gam F (atEnd c la st) a w := by
  unfold Go.Proofs.YtigekmmdflaeaaaDoorE.atEnd
  split
  · exact h.tidy
  · exact h

theorem iter_ok {Bd : St → (X → St → Option R) → Option R} {body : Code} {nrm : List Tidy} {r : R} {Q : Exit → Act → World → Prop}
    (hB : ∀ (Q : Exit → Act → World → Prop) st a w k, Bd st k = some r → Gam F st a w → (∀ x st' a' w', Gam F st' a' w' → k x st' = some r → Q x.go a' w') → body.wp P Q a w) :
    ∀ {n : Nat} {st : St} {a : Act} {w : World} {k : X → St → Option R}, iter Bd nrm n st k = some r → Gam F st a w → (∀ x st' a' w', Gam F st' a' w' → k x st' = some r → Q x.go a' w') → Code.rounds P body Q n a w
  | 0, st, a, w, k, h, _, _ => by cases h
  | n + 1, st, a, w, k, h, hG, hk => by
    rw [rounds_succ]
    unfold iter at h
    replace h := caseT_ok h
    refine hB _ st a w _ h hG ?_
    intro x st' a' w' hG' h'
    cases x with
    | norm => exact iter_ok hB h' hG'.tidy hk
    | exit j => exact hk (.exit j) st' a' w' hG' h'
    | ret => exact hk .ret st' a' w' hG' h'

theorem evCode_ok (hTab : CallOK D P T) {r : R} : ∀ {c : Code} {la : List (List Tidy)} {Q : Exit → Act → World → Prop} {st : St} {a : Act} {w : World} {k : X → St → Option R},
    evCode P T base K c la st k = some r → Gam F st a w → (∀ x st' a' w', Gam F st' a' w' → k x st' = some r → Q x.go a' w') → c.wp P Q a w
  | .skip, la, Q, st, a, w, k, h, hG, hk => wp_skip (hk .norm _ _ _ hG h)
  | .label _, la, Q, st, a, w, k, h, hG, hk => wp_label (hk .norm _ _ _ hG h)
  | .region _ ops draw, la, Q, st, a, w, k, h, hG, hk => by
    cases draw with
    | false => exact wp_region_list (evOps_ok hTab h hG (fun st' a' w' hG' h' => hk .norm _ _ _ hG' h'))
    | true =>
      simp only [evCode] at h
      split at h
      · rename_i hm
        exact evDraw4_ok hm hTab h hG (fun st' a' w' hG' h' => hk .norm _ _ _ hG' h')
      · cases h
  | .seq x y, la, Q, st, a, w, k, h, hG, hk => by
    refine wp_seq (evCode_ok hTab (c := x) h hG ?_)
    intro x' st' a' w' hG' h'
    cases x' with
    | norm => exact evCode_ok hTab (c := y) h' hG' hk
    | exit j => exact hk (.exit j) _ _ _ hG' h'
    | ret => exact hk .ret _ _ _ hG' h'
  | .cond c x y, la, Q, st, a, w, k, h, hG, hk => by
    simp only [evCode] at h
    split at h
    · rename_i v hc
      obtain ⟨μ, S, hI, hV, hD⟩ := hG
      have hv := evl_ok (a := a) hV c
      rw [hc, VOK] at hv
      split at h
      · rename_i hb
        subst hb
        exact wp_cond_true hv (evCode_ok hTab (c := x) h (Gam.learn ⟨μ, S, hI, hV, hD⟩ hc) hk)
      · rename_i hb
        have hb' : v = false := by simpa using hb
        subst hb'
        exact wp_cond_false hv (evCode_ok hTab (c := y) h (Gam.learn ⟨μ, S, hI, hV, hD⟩ hc) hk)
    · cases h
  | .block id body, la, Q, st, a, w, k, h, hG, hk => by
    refine wp_block (evCode_ok hTab (c := body) h hG ?_)
    intro x' st' a' w' hG' h'
    cases x' with
    | norm => exact hk .norm _ _ _ hG' h'
    | exit j =>
      show if j = id then Q .normal a' w' else Q (.exit j) a' w'
      dsimp only at h'
      split at h'
      · rename_i hj
        rw [if_pos (Nat.eq_of_beq_eq_true hj)]
        exact hk .norm _ _ _ hG' h'
      · rename_i hj
        rw [if_neg (fun e => by subst e; simp at hj)]
        exact hk (.exit j) _ _ _ hG' h'
    | ret => exact hk .ret _ _ _ hG' h'
  | .loop body, la, Q, st, a, w, k, h, hG, hk => by
    cases la with
    | nil => cases h
    | cons nrm la' =>
      refine wp_loop_rounds K (iter_ok (fun Q st a w k h hG hk => evCode_ok hTab (c := body) h hG hk) h hG.tidy hk)
  | .exit j, la, Q, st, a, w, k, h, hG, hk => wp_exit (hk (.exit j) _ _ _ hG h)
  | .ret, la, Q, st, a, w, k, h, hG, hk => wp_ret (hk .ret _ _ _ hG h)
  | .scope body, la, Q, st, a, w, k, h, hG, hk => by
    refine wp_scope_straight (evCode_ok hTab (c := body) h hG ?_)
    intro x' st' a' w' hG' h'
    cases x' with
    | norm => exact hk .norm _ _ _ hG' h'
    | exit j => exact hk (.exit j) _ _ _ hG' h'
    | ret => exact hk .ret _ _ _ hG' h'
  | .rangeFunc _ _ _ _, la, Q, st, a, w, k, h, hG, hk => by cases h
  | .goto _, la, Q, st, a, w, k, h, hG, hk => by cases h
  | .refuse _, la, Q, st, a, w, k, h, hG, hk => by cases h
end
end Go.Proofs.YtigekmmdflaeaaaDoorE
