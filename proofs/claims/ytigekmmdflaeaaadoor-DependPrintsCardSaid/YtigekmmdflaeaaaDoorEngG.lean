/- The engine, calls that turn what lies under names: names told anew. -/
import Derived.Test.YtigekmmdflaeaaaDoorEng9
set_option linter.all false
namespace Go.Proofs.YtigekmmdflaeaaaDoorE
open Go
set_option linter.unusedVariables false
/-! ### lists of names -/
def lookN : List (Nat × Nat) → Nat → Option Nat
  | [], _ => none
  | (a, b) :: m, i => match Nat.beq a i with
    | true => some b
    | false => lookN m i
def inN (i : Nat) : List Nat → Bool
  | [] => false
  | j :: l => match Nat.beq j i with
    | true => true
    | false => inN i l
def nodupN : List Nat → Bool
  | [] => true
  | i :: l => match inN i l with
    | true => false
    | false => nodupN l
def fstN : List (Nat × Nat) → List Nat
  | [] => []
  | (a, _) :: m => a :: fstN m
def sndN : List (Nat × Nat) → List Nat
  | [] => []
  | (_, b) :: m => b :: sndN m
def swapN : List (Nat × Nat) → List (Nat × Nat)
  | [] => []
  | (a, b) :: m => (b, a) :: swapN m
theorem inN_snd : ∀ {m : List (Nat × Nat)} {i c : Nat}, lookN m i = some c → inN c (sndN m) = true
  | [], i, c, h => by cases h
  | (a, b) :: m, i, c, h => by
    unfold lookN at h
    unfold sndN inN
    split at h
    · cases h
      rw [Nat.beq_refl]
    · split
      · rfl
      · exact inN_snd h
theorem inN_fst : ∀ {m : List (Nat × Nat)} {i c : Nat}, lookN m i = some c → inN i (fstN m) = true
  | [], i, c, h => by cases h
  | (a, b) :: m, i, c, h => by
    unfold lookN at h
    unfold fstN inN
    split at h
    · rfl
    · exact inN_fst h
theorem swap_look : ∀ {m : List (Nat × Nat)} {i c : Nat}, nodupN (sndN m) = true → lookN m i = some c → lookN (swapN m) c = some i
  | [], i, c, _, h => by cases h
  | (a, b) :: m, i, c, hn, h => by
    unfold lookN at h
    unfold sndN nodupN at hn
    unfold swapN lookN
    split at hn
    · cases hn
    rename_i hb
    split at h
    · rename_i e
      cases h
      rw [Nat.beq_refl, Nat.eq_of_beq_eq_true e]
    · have hc := inN_snd h
      split
      · rename_i e
        rw [Nat.eq_of_beq_eq_true e] at hb
        rw [hb] at hc; cases hc
      · exact swap_look hn h
theorem swap_snd : ∀ m : List (Nat × Nat), sndN (swapN m) = fstN m
  | [] => rfl
  | (a, b) :: m => by simp only [swapN, sndN, fstN, swap_snd m]
theorem swap_swap : ∀ m : List (Nat × Nat), swapN (swapN m) = m
  | [] => rfl
  | (a, b) :: m => by simp only [swapN, swap_swap m]
theorem look_swap {m : List (Nat × Nat)} {i c : Nat} (hn : nodupN (fstN m) = true) (h : lookN (swapN m) c = some i) : lookN m i = some c := by
  have := swap_look (m := swapN m) (by rw [swap_snd]; exact hn) h
  rwa [swap_swap] at this
theorem inN_look : ∀ {m : List (Nat × Nat)} {i : Nat}, inN i (fstN m) = true → ∃ c, lookN m i = some c
  | [], i, h => by cases h
  | (a, b) :: m, i, h => by
    unfold fstN inN at h
    unfold lookN
    split at h
    · exact ⟨b, rfl⟩
    · exact inN_look h
theorem inN_iff {i : Nat} : ∀ {l : List Nat}, inN i l = true ↔ i ∈ l
  | [] => by simp [inN]
  | j :: l => by
    unfold inN
    split
    · rename_i e; simp [Nat.eq_of_beq_eq_true e]
    · rename_i e
      rw [inN_iff]
      have : i ≠ j := fun h => by rw [h, Nat.beq_refl] at e; cases e
      simp [this]
/-! ### what is told, under other names -/
mutual
def mapN (m : List (Nat × Nat)) : AV → Option AV
  | .own j => match lookN m j with
    | some c => some (.own c)
    | none => none
  | .ptr j off => match lookN m j with
    | some c => some (.ptr c off)
    | none => none
  | .optr j i s off => match lookN m j with
    | some c => some (.optr c i s off)
    | none => none
  | .mp j => match lookN m j with
    | some c => some (.mp c)
    | none => none
  | .agg l => match mapNs m l with
    | some l' => some (.agg l')
    | none => none
  | .tup l => match mapNs m l with
    | some l' => some (.tup l')
    | none => none
  | .fn f l => match mapNs m l with
    | some l' => some (.fn f l')
    | none => none
  | .top => some .top
  | .sc v => some (.sc v)
  | .row t l => some (.row t l)
  | .eptr t x off => some (.eptr t x off)
def mapNs (m : List (Nat × Nat)) : List AV → Option (List AV)
  | [] => some []
  | a :: l => match mapN m a with
    | some a' => match mapNs m l with
      | some l' => some (a' :: l')
      | none => none
    | none => none
end
def mapNB (m : List (Nat × Nat)) : ABlk → Option ABlk
  | .box T l => match mapNs m l with
    | some l' => some (.box T l')
    | none => none
  | .arr e t l => some (.arr e t l)
  | .mp kt vt l => some (.mp kt vt l)
section
variable {μ μ' : Nat → Value} {S : Nat → Prop} {w : World} {m : List (Nat × Nat)} (hm : ∀ i c, lookN m i = some c → μ' c = μ i)
include hm
mutual
theorem mapN_ok : ∀ {a a' : AV} {u : Value}, mapN m a = some a' → VOK μ S w a u → VOK μ' S w a' u
  | .own j, a', u, h, hu => by
    unfold mapN at h
    split at h
    · rename_i c hc; cases h; rw [VOK] at hu ⊢; rw [hm _ _ hc]; exact hu
    · cases h
  | .ptr j off, a', u, h, hu => by
    unfold mapN at h
    split at h
    · rename_i c hc; cases h; rw [VOK] at hu ⊢; rw [hm _ _ hc]; exact hu
    · cases h
  | .optr j i s off, a', u, h, hu => by
    unfold mapN at h
    split at h
    · rename_i c hc; cases h; rw [VOK] at hu ⊢; rw [hm _ _ hc]; exact hu
    · cases h
  | .mp j, a', u, h, hu => by
    unfold mapN at h
    split at h
    · rename_i c hc; cases h; rw [VOK] at hu ⊢; rw [hm _ _ hc]; exact hu
    · cases h
  | .agg l, a', u, h, hu => by
    unfold mapN at h
    split at h
    · rename_i l' hl; cases h; obtain ⟨us, h1, h2⟩ := hu; exact ⟨us, h1, mapNs_ok hl h2⟩
    · cases h
  | .tup l, a', u, h, hu => by
    unfold mapN at h
    split at h
    · rename_i l' hl; cases h; obtain ⟨us, h1, h2⟩ := hu; exact ⟨us, h1, mapNs_ok hl h2⟩
    · cases h
  | .fn f l, a', u, h, hu => by
    unfold mapN at h
    split at h
    · rename_i l' hl; cases h; obtain ⟨us, h1, h2⟩ := hu; exact ⟨us, h1, mapNs_ok hl h2⟩
    · cases h
  | .top, a', u, h, hu => by unfold mapN at h; cases h; trivial
  | .sc v, a', u, h, hu => by unfold mapN at h; cases h; exact hu
  | .row t l, a', u, h, hu => by unfold mapN at h; cases h; exact hu
  | .eptr t x off, a', u, h, hu => by unfold mapN at h; cases h; exact hu
theorem mapNs_ok : ∀ {l l' : List AV} {us : List Value}, mapNs m l = some l' → VsOK μ S w l us → VsOK μ' S w l' us
  | [], l', us, h, hu => by unfold mapNs at h; cases h; exact hu
  | a :: l, l', us, h, hu => by
    unfold mapNs at h
    split at h
    · rename_i a' ha
      split at h
      · rename_i l' hl
        cases h
        obtain ⟨u, us', rfl, h1, h2⟩ := hu
        exact ⟨u, us', rfl, mapN_ok ha h1, mapNs_ok hl h2⟩
      · cases h
    · cases h
end
theorem mapNB_ok {i c : Nat} (hc : μ' c = μ i) : ∀ {B B' : ABlk}, mapNB m B = some B' → BOK μ S w i B → BOK μ' S w c B'
  | .box T l, B', h, hB => by
    have h : (match mapNs m l with | some l' => some (ABlk.box T l') | none => none) = some B' := h
    split at h
    · rename_i l' hl
      cases h
      obtain ⟨b, us, h1, h2, h3⟩ := hB
      exact ⟨b, us, hc.trans h1, h2, mapNs_ok hm hl h3⟩
    · cases h
  | .arr e t l, B', h, hB => by
    have h : some (ABlk.arr e t l) = some B' := h
    cases h
    simp only [BOK] at hB ⊢
    rw [hc]; exact hB
  | .mp kt vt l, B', h, hB => by
    have h : some (ABlk.mp kt vt l) = some B' := h
    cases h
    simp only [BOK] at hB ⊢
    rw [hc]; exact hB
end
/-! ### the call -/
mutual
/-- the names to which operands lead -/
def ptrsA : AV → List Nat
  | .ptr j _ => [j]
  | .mp j => [j]
  | .own j => [j]
  | .fn _ l => ptrsAs l
  | .agg l => ptrsAs l
  | _ => []
def ptrsAs : List AV → List Nat
  | [] => []
  | a :: l => ptrsA a ++ ptrsAs l
end
def nubN : List Nat → List Nat → List Nat
  | [], acc => acc
  | i :: l, acc => match inN i acc with
    | true => nubN l acc
    | false => nubN l (acc ++ [i])
mutual
def ownN : AV → List Nat
  | .own j => [j]
  | .agg l => ownNs l
  | .tup l => ownNs l
  | _ => []
def ownNs : List AV → List Nat
  | [] => []
  | a :: l => ownN a ++ ownNs l
end
def numb : Nat → List Nat → List (Nat × Nat)
  | _, [] => []
  | c, i :: l => (i, c) :: numb (c + 1) l
def boxOwns (H : Hp) (j : Nat) : List Nat := match lk H j with
  | some (.box _ l) => ownNs l
  | _ => []
/-- how what a call is given is named there -/
def tblN (H : Hp) : Nat → List Nat → List (Nat × Nat)
  | _, [] => []
  | p, j :: js => (j, 2000000 + p) :: numb (400000 + 100 * p) (boxOwns H j) ++ tblN H (p + 1) js
def subN (H : Hp) (m : List (Nat × Nat)) : List (Nat × Nat) → Option Hp
  | [] => some []
  | (j, c) :: l => match lk H j with
    | some B => match mapNB m B with
      | some B' => match subN H m l with
        | some H' => some ((c, B') :: H')
        | none => none
      | none => none
    | none => none
structure GT where
  js : List Nat
  m : List (Nat × Nat)
  H0 : Hp
  args : List AV
  out : OutG
def gtry (T : Tab) (H : Hp) (g : FuncId) (al : List AV) : Option GT := match T.g g with
  | none => none
  | some s => match nodupN (fstN (tblN H 0 (nubN (ptrsAs al) []))), nodupN (sndN (tblN H 0 (nubN (ptrsAs al) []))) with
    | true, true => match mapNs (tblN H 0 (nubN (ptrsAs al) [])) al with
      | some args => match subN H (tblN H 0 (nubN (ptrsAs al) [])) (tblN H 0 (nubN (ptrsAs al) [])) with
        | some H0 => match s args H0 with
          | some out => some ⟨nubN (ptrsAs al) [], tblN H 0 (nubN (ptrsAs al) []), H0, args, out⟩
          | none => none
        | none => none
      | none => none
    | _, _ => none
/-- the name of an array of a box -/
def nmN (j i : Nat) : Nat := match Nat.blt j 2000000 with
  | true => 500000 + 100 * j + i
  | false => 400000 + 100 * (j - 2000000) + i
def getN : List Nat → Nat → Nat
  | [], _ => 0
  | a :: _, 0 => a
  | _ :: l, i + 1 => getN l i
/-- what lies there behind a call, by the caller's names -/
def bkN (js : List Nat) (id c : Nat) : Nat := match Nat.blt c 2000000 with
  | false => getN js (c - 2000000)
  | true => match Nat.blt c 400000 with
    | false => nmN (getN js ((c - 400000) / 100)) ((c - 400000) % 100)
    | true => match Nat.beq c 300000 with
      | true => id
      | false => nmN id (c - 300001)
def bkT (js : List Nat) (id : Nat) : Hp → List (Nat × Nat)
  | [] => []
  | (c, _) :: H => (c, bkN js id c) :: bkT js id H
def mapH (m : List (Nat × Nat)) : List (Nat × Nat) → Hp → Option Hp
  | (_, d) :: rt, (_, B) :: H => match mapNB m B with
    | some B' => match mapH m rt H with
      | some H' => some ((d, B') :: H')
      | none => none
    | none => none
  | [], [] => some []
  | _, _ => none
/-- a name that stands stays what it was -/
def chkN (js : List Nat) (m : List (Nat × Nat)) : List (Nat × Nat) → Bool
  | [] => true
  | (c, d) :: rt => match inN d js with
    | true => match lookN m d with
      | some c' => match Nat.beq c' c, Nat.blt c 2000000 with
        | true, false => chkN js m rt
        | _, _ => false
      | none => false
    | false => match Nat.blt d 2000000 with
      | true => chkN js m rt
      | false => false
def rmL : List Nat → Hp → Hp
  | [], H => H
  | i :: l, H => rmL l (rm i H)
def gp (js : List Nat) (gone : List Nat) (i : Nat) : Bool := match inN i js with
  | true => true
  | false => match inN i gone with
    | true => false
    | false => true
section
variable {R : Type}
def gfin (js : List Nat) (m : List (Nat × Nat)) (dst : Option Nat) (id : Nat) (st : St) (r : AV × Hp) (k : St → Option R) : Option R :=
  match nodupN (sndN (bkT js id r.2)), chkN js m (bkT js id r.2) with
  | true, true => match mapN (bkT js id r.2) r.1 with
    | some av => match mapH (bkT js id r.2) (bkT js id r.2) r.2 with
      | some H1 => k ⟨putA (keeps (gp js (fstN m ++ sndN (bkT js id r.2))) st.tm) dst av, H1 ++ keepH (gp js (fstN m ++ sndN (bkT js id r.2))) (rmL (fstN m ++ sndN (bkT js id r.2)) st.H)⟩
      | none => none
    | none => none
  | _, _ => none
end
/-! ### that this is sound -/
theorem sub_ok {H : Hp} {m : List (Nat × Nat)} : ∀ {l : List (Nat × Nat)} {H0 : Hp}, nodupN (sndN l) = true → subN H m l = some H0 → ∀ {c : Nat} {B' : ABlk}, lk H0 c = some B' → ∃ j B, lookN (swapN l) c = some j ∧ lk H j = some B ∧ mapNB m B = some B'
  | [], H0, hn, h, c, B', hc => by cases h; cases hc
  | (j, d) :: l, H0, hn, h, c, B', hc => by
    unfold subN at h
    unfold sndN nodupN at hn
    split at hn
    · cases hn
    split at h
    · rename_i B hB
      split at h
      · rename_i B1 hB1
        split at h
        · rename_i H' hH'
          cases h
          unfold swapN lookN
          unfold lk at hc
          split at hc
          · rename_i e
            cases hc
            exact ⟨j, B, by rw [e], hB, hB1⟩
          · rename_i e
            obtain ⟨j', B2, h1, h3, h4⟩ := sub_ok hn hH' hc
            exact ⟨j', B2, by rw [e]; exact h1, h3, h4⟩
        · cases h
      · cases h
    · cases h
theorem bkT_snd {js : List Nat} {id : Nat} : ∀ {H : Hp} {c : Nat} {B : ABlk}, lk H c = some B → lookN (bkT js id H) c = some (bkN js id c)
  | [], c, B, h => by cases h
  | (a, B0) :: H, c, B, h => by
    unfold lk at h
    unfold bkT lookN
    split at h
    · rename_i e; rw [e, Nat.eq_of_beq_eq_true e]
    · rename_i e; rw [e]; exact bkT_snd h
/-- the heap under other names -/
theorem mapH_ok {m : List (Nat × Nat)} {js : List Nat} {id : Nat} : ∀ {H H1 : Hp}, nodupN (sndN (bkT js id H)) = true → mapH m (bkT js id H) H = some H1 → ∀ {d : Nat} {B' : ABlk}, lk H1 d = some B' → ∃ c B, lookN (swapN (bkT js id H)) d = some c ∧ lk H c = some B ∧ mapNB m B = some B'
  | [], H1, hn, h, d, B', hd => by
    unfold bkT mapH at h
    cases h; cases hd
  | (a, B0) :: H, H1, hn, h, d, B', hd => by
    unfold bkT mapH at h
    unfold bkT sndN nodupN at hn
    split at hn
    · cases hn
    rename_i hin
    split at h
    · rename_i B1 hB1
      split at h
      · rename_i H' hH'
        cases h
        unfold bkT swapN lookN
        unfold lk at hd
        split at hd
        · rename_i e
          cases hd
          refine ⟨a, B0, by rw [e], ?_, hB1⟩
          unfold lk
          rw [Nat.beq_refl]
        · rename_i e
          obtain ⟨c, B2, h1, h2, h3⟩ := mapH_ok hn hH' hd
          refine ⟨c, B2, by rw [e]; exact h1, ?_, h3⟩
          unfold lk
          split
          · rename_i e2
            rw [Nat.eq_of_beq_eq_true e2] at hin
            have := inN_snd (bkT_snd (js := js) (id := id) h2)
            rw [this] at hin; cases hin
          · exact h2
      · cases h
    · cases h
theorem mapH_none {m rt : List (Nat × Nat)} : ∀ {H H1 : Hp} {l : List (Nat × Nat)}, mapH m l H = some H1 → ∀ {d : Nat}, inN d (sndN l) = false → lk H1 d = none
  | [], H1, [], h, d, hd => by unfold mapH at h; cases h; rfl
  | [], H1, (c, e) :: l, h, d, hd => by unfold mapH at h; cases h
  | (a, B0) :: H, H1, [], h, d, hd => by unfold mapH at h; cases h
  | (a, B0) :: H, H1, (c, e) :: l, h, d, hd => by
    unfold mapH at h
    unfold sndN inN at hd
    split at hd
    · cases hd
    rename_i he
    split at h
    · split at h
      · rename_i H' hH'
        cases h
        unfold lk
        rw [he]
        exact mapH_none (rt := rt) hH' hd
      · cases h
    · cases h
theorem lk_app : ∀ (H1 H2 : Hp) (i : Nat), lk (H1 ++ H2) i = match lk H1 i with | some B => some B | none => lk H2 i
  | [], H2, i => rfl
  | (a, B) :: H1, H2, i => by
    show (match Nat.beq a i with | true => some B | false => lk (H1 ++ H2) i) = match (match Nat.beq a i with | true => some B | false => lk H1 i) with | some B => some B | none => lk H2 i
    cases Nat.beq a i with
    | true => rfl
    | false => exact lk_app H1 H2 i
theorem lk_rmL : ∀ (l : List Nat) (H : Hp) (i : Nat) {B : ABlk}, lk (rmL l H) i = some B → inN i l = false ∧ lk H i = some B
  | [], H, i, B, h => ⟨rfl, h⟩
  | a :: l, H, i, B, h => by
    obtain ⟨h1, h2⟩ := lk_rmL l (rm a H) i h
    by_cases e : i = a
    · rw [e, lk_rm_same] at h2; cases h2
    · rw [lk_rm_other e] at h2
      refine ⟨?_, h2⟩
      unfold inN
      have : Nat.beq a i = false := by
        cases hb : Nat.beq a i with
        | true => exact absurd (Nat.eq_of_beq_eq_true hb).symm e
        | false => rfl
      rw [this]; exact h1
theorem chk_at {js : List Nat} {m : List (Nat × Nat)} : ∀ {rt : List (Nat × Nat)}, chkN js m rt = true → ∀ {c d : Nat}, lookN (swapN rt) d = some c → (inN d js = true → lookN m d = some c ∧ Nat.blt c 2000000 = false) ∧ (inN d js = false → Nat.blt d 2000000 = true)
  | [], h, c, d, hc => by cases hc
  | (a, b) :: rt, h, c, d, hc => by
    unfold chkN at h
    unfold swapN lookN at hc
    split at hc
    · rename_i e
      cases hc
      cases Nat.eq_of_beq_eq_true e
      split at h
      · rename_i hj
        split at h
        · rename_i c' hl
          split at h
          · rename_i e1 e2
            exact ⟨fun _ => ⟨by rw [hl, Nat.eq_of_beq_eq_true e1], e2⟩, fun h => by rw [hj] at h; cases h⟩
          · cases h
        · cases h
      · rename_i hj
        split at h
        · rename_i e2
          exact ⟨fun h => (by rw [hj] at h; cases h), fun _ => e2⟩
        · cases h
    · split at h
      · split at h
        · split at h
          · exact chk_at h hc
          · cases h
        · cases h
      · split at h
        · exact chk_at h hc
        · cases h
theorem inN_app (i : Nat) : ∀ (l m : List Nat), inN i (l ++ m) = (inN i l || inN i m)
  | [], m => rfl
  | a :: l, m => by
    show (match Nat.beq a i with | true => true | false => inN i (l ++ m)) = ((match Nat.beq a i with | true => true | false => inN i l) || inN i m)
    cases Nat.beq a i with
    | true => rfl
    | false => exact inN_app i l m
theorem fst_swap : ∀ m : List (Nat × Nat), fstN (swapN m) = sndN m
  | [] => rfl
  | (a, b) :: m => by simp only [swapN, sndN, fstN, fst_swap m]

section
variable {P : Program} {T : Tab} {D : Cx} {F : Fr D} {R : Type}
/-- the frame of a call that is given these names -/
def frG (D : Cx) (w : World) (μ : Nat → Value) (S : Nat → Prop) (H0 : Hp) : Fr D :=
  ⟨w, fun b => ∃ i B, lk H0 i = some B ∧ bof (μ i) = some b, S, fun i => match Nat.blt i 2000000 with | true => none | false => some (μ i), fun d hd => by rw [hd]⟩
def unN (m : List (Nat × Nat)) (μ : Nat → Value) (c : Nat) : Value := match lookN (swapN m) c with
  | some j => μ j
  | none => undef
theorem gcall_inv {μ : Nat → Value} {S : Nat → Prop} {w : World} {H H0 : Hp} {m : List (Nat × Nat)} (hI : Inv F μ S H w) (n1 : nodupN (fstN m) = true) (n2 : nodupN (sndN m) = true) (h : subN H m m = some H0) :
    Inv (frG D w (unN m μ) S H0) (unN m μ) S H0 w := by
  have hm : ∀ i c, lookN m i = some c → unN m μ c = μ i := fun i c hc => by
    unfold unN
    rw [swap_look n2 hc]
  refine ⟨?_, ?_, ?_, hI.Slt, fun b h => h, fun b h => .inl h, fun b _ _ => rfl, Nat.le_refl _, rfl, rfl, rfl, fun _ => Nat.le_refl _, ?_, hI.hyw, ?_⟩
  · intro c B' hc
    obtain ⟨j, B, h1, h3, h4⟩ := sub_ok n2 h hc
    exact mapNB_ok hm (hm j c (look_swap n1 h1)) h4 (hI.blk j B h3)
  · intro c d Bc Bd hc hd hne b hb hb'
    obtain ⟨j, B, h1, h3, h4⟩ := sub_ok n2 h hc
    obtain ⟨j', B1, h1', h3', h4'⟩ := sub_ok n2 h hd
    have e1 := look_swap n1 h1
    have e2 := look_swap n1 h1'
    rw [hm j c e1] at hb
    rw [hm j' d e2] at hb'
    refine hI.apart j j' B B1 h3 h3' (fun e => ?_) b hb hb'
    rw [e, e2] at e1
    exact hne (Option.some.inj e1).symm
  · intro c B' hc b hb
    obtain ⟨j, B, h1, h3, h4⟩ := sub_ok n2 h hc
    refine ⟨?_, .inr ⟨c, B', hc, hb⟩⟩
    rw [hm j c (look_swap n1 h1)] at hb
    exact (hI.notS j B h3 b hb).1
  · intro i v B hv hi
    have hv' : (match Nat.blt i 2000000 with | true => none | false => some (unN m μ i)) = some v := hv
    split at hv'
    · cases hv'
    · exact Option.some.inj hv'
  · rintro b hb ⟨c, B', hc, hbc⟩
    obtain ⟨j, B, h1, h3, h4⟩ := sub_ok n2 h hc
    rw [hm j c (look_swap n1 h1)] at hbc
    exact hI.hyb h3 hbc hb
theorem sub_has {H : Hp} {m : List (Nat × Nat)} : ∀ {l : List (Nat × Nat)} {H0 : Hp}, subN H m l = some H0 → ∀ {i c : Nat}, lookN l i = some c → ∃ B, lk H i = some B
  | [], H0, h, i, c, hi => by cases hi
  | (j, d) :: l, H0, h, i, c, hi => by
    unfold subN at h
    unfold lookN at hi
    split at h
    · rename_i B hB
      split at h
      · split at h
        · rename_i H' hH'
          split at hi
          · rename_i e
            cases hi
            exact ⟨B, by rw [← Nat.eq_of_beq_eq_true e]; exact hB⟩
          · exact sub_has hH' hi
        · cases h
      · cases h
    · cases h
theorem bk_fun {js : List Nat} {id : Nat} : ∀ {H : Hp} {c d : Nat}, lookN (swapN (bkT js id H)) d = some c → d = bkN js id c
  | [], c, d, h => by cases h
  | (a, B0) :: H, c, d, h => by
    unfold bkT swapN lookN at h
    split at h
    · rename_i e
      cases h
      exact (Nat.eq_of_beq_eq_true e).symm
    · exact bk_fun h
theorem bk_lk {js : List Nat} {id : Nat} : ∀ {H : Hp} {c d : Nat}, lookN (swapN (bkT js id H)) d = some c → ∃ B, lk H c = some B
  | [], c, d, h => by cases h
  | (a, B0) :: H, c, d, h => by
    unfold bkT swapN lookN at h
    unfold lk
    split at h
    · cases h
      exact ⟨B0, by rw [Nat.beq_refl]⟩
    · obtain ⟨B, hB⟩ := bk_lk h
      split
      · exact ⟨B0, rfl⟩
      · exact ⟨B, hB⟩
/-- What stands behind a call that turned what lies under names. -/
theorem gfin_ok {μ μ' : Nat → Value} {S S' : Nat → Prop} {w w' : World} {st : St} {H0 : Hp} {js : List Nat} {m : List (Nat × Nat)} {id : Nat} {dst : Option Nat} {a : Act} {r : AV × Hp} {v : Value} {k : St → Option R} {x : R} (hd : F.fix id = none)
    (hI : Inv F μ S st.H w) (hV : VsOK μ S w st.tm a.tmps.toList) (n1 : nodupN (fstN m) = true) (n2 : nodupN (sndN m) = true) (hsub : subN st.H m m = some H0)
    (hI' : Inv (frG D w (unN m μ) S H0) μ' S' r.2 w') (hv : VOK μ' S' w' r.1 v) (h : gfin js m dst id st r k = some x) :
    ∃ st' μ'' S'', k st' = some x ∧ Inv F μ'' S'' st'.H w' ∧ VsOK μ'' S'' w' st'.tm (a.put dst v).tmps.toList := by
  unfold gfin at h
  split at h
  rotate_left
  · cases h
  rename_i t1 t2
  split at h
  rotate_left
  · cases h
  rename_i av hav
  split at h
  rotate_left
  · cases h
  rename_i H1 hH1
  have hm : ∀ i c, lookN m i = some c → unN m μ c = μ i := fun i c hc => by
    unfold unN
    rw [swap_look n2 hc]
  have hO : ∀ b, (frG D w (unN m μ) S H0).O b → ∃ j B, inN j (fstN m) = true ∧ lk st.H j = some B ∧ bof (μ j) = some b := by
    rintro b ⟨c, B', hc, hb⟩
    obtain ⟨j, B, h1, h3, h4⟩ := sub_ok n2 hsub hc
    have e1 := look_swap n1 h1
    exact ⟨j, B, inN_fst e1, h3, by rw [← hm j c e1]; exact hb⟩
  have hOS : ∀ b, S b → ¬ (frG D w (unN m μ) S H0).O b := fun b hb ho => by
    obtain ⟨j, B, _, h3, h4⟩ := hO b ho
    exact (hI.notS j B h3 b h4).1 hb
  have hOF : ∀ b, (frG D w (unN m μ) S H0).O b → F.w0.heap.size ≤ b ∨ F.O b := fun b ho => by
    obtain ⟨j, B, _, h3, h4⟩ := hO b ho
    exact (hI.notS j B h3 b h4).2
  have hsz : w.heap.size ≤ w'.heap.size := hI'.size
  have hSw : ∀ b, S b → w'.heap[b]? = w.heap[b]? := fun b hb => hI'.frame b (hI.Slt b hb) (hOS b hb)
  have hSS : ∀ b, S b → S' b := hI'.S0
  have hS' : ∀ b, S' b → S b ∨ (frG D w (unN m μ) S H0).O b ∨ w.heap.size ≤ b := hI'.Sfrom
  let μ2 : Nat → Value := fun i => match lookN (swapN (bkT js id r.2)) i with | some c => μ' c | none => μ i
  have hrt : ∀ c d, lookN (bkT js id r.2) c = some d → μ2 d = μ' c := fun c d hc => by
    show (match lookN (swapN (bkT js id r.2)) d with | some c => μ' c | none => μ d) = μ' c
    rw [swap_look t1 hc]
  have hback : ∀ c d, lookN (swapN (bkT js id r.2)) d = some c → μ2 d = μ' c := fun c d hc => by
    show (match lookN (swapN (bkT js id r.2)) d with | some c => μ' c | none => μ d) = μ' c
    rw [hc]
  have hkeepj : ∀ i, inN i js = true → μ2 i = μ i := by
    intro i hj
    show (match lookN (swapN (bkT js id r.2)) i with | some c => μ' c | none => μ i) = μ i
    split
    · rename_i c hl
      obtain ⟨e1, e2⟩ := (chk_at t2 hl).1 hj
      obtain ⟨B, hB⟩ := bk_lk hl
      have := hI'.fixd c (unN m μ c) B (by show (match Nat.blt c 2000000 with | true => none | false => some (unN m μ c)) = _; rw [e2]) hB
      rw [this, hm i c e1]
    · rfl
  have hg : ∀ i, gp js (fstN m ++ sndN (bkT js id r.2)) i = true → μ2 i = μ i := by
    intro i hi
    cases hj : inN i js with
    | true => exact hkeepj i hj
    | false =>
      unfold gp at hi
      rw [hj] at hi
      dsimp only at hi
      rw [inN_app] at hi
      show (match lookN (swapN (bkT js id r.2)) i with | some c => μ' c | none => μ i) = μ i
      cases hl : lookN (swapN (bkT js id r.2)) i with
      | none => rfl
      | some c =>
        have := inN_fst hl
        rw [fst_swap] at this
        rw [this, Bool.or_true] at hi
        cases hi
  have cases2 : ∀ i B, lk (H1 ++ keepH (gp js (fstN m ++ sndN (bkT js id r.2))) (rmL (fstN m ++ sndN (bkT js id r.2)) st.H)) i = some B →
      (∃ c B0, lookN (swapN (bkT js id r.2)) i = some c ∧ lk r.2 c = some B0 ∧ mapNB (bkT js id r.2) B0 = some B) ∨
      (∃ B0, inN i (fstN m) = false ∧ inN i (sndN (bkT js id r.2)) = false ∧ μ2 i = μ i ∧ lk st.H i = some B0 ∧ B = keepB (gp js (fstN m ++ sndN (bkT js id r.2))) B0) := by
    intro i B hi
    rw [lk_app] at hi
    split at hi
    · rename_i B1 h1
      cases hi
      obtain ⟨c, B0, h2, h3, h4⟩ := mapH_ok t1 hH1 h1
      exact .inl ⟨c, B0, h2, h3, h4⟩
    · rw [lk_keepH] at hi
      cases hk : lk (rmL (fstN m ++ sndN (bkT js id r.2)) st.H) i with
      | none => rw [hk] at hi; cases hi
      | some B0 =>
        rw [hk] at hi
        obtain ⟨h1, h2⟩ := lk_rmL _ _ _ hk
        rw [inN_app, Bool.or_eq_false_iff] at h1
        refine .inr ⟨B0, h1.1, h1.2, ?_, h2, (Option.some.inj hi).symm⟩
        show (match lookN (swapN (bkT js id r.2)) i with | some c => μ' c | none => μ i) = μ i
        cases hl : lookN (swapN (bkT js id r.2)) i with
        | none => rfl
        | some c =>
          have := inN_fst hl
          rw [fst_swap, h1.2] at this
          cases this
  have outO : ∀ i B0, inN i (fstN m) = false → lk st.H i = some B0 → ∀ b, bof (μ i) = some b → ¬ (frG D w (unN m μ) S H0).O b := by
    intro i B0 h1 h2 b hb ho
    obtain ⟨j, B, h3, h4, h5⟩ := hO b ho
    exact hI.apart i j B0 B h2 h4 (fun e => by rw [e, h3] at h1; cases h1) b hb h5
  refine ⟨_, μ2, S', h, ⟨?_, ?_, ?_, hI'.Slt, fun b hb => hSS b (hI.S0 b hb), ?_, ?_, Nat.le_trans hI.size hsz, hI'.os.trans hI.os, hI'.tape.trans hI.tape, hI'.output.trans hI.output, fun x => Nat.le_trans (hI.drawn x) (hI'.drawn x), ?_, hI.hy⟩, ?_⟩
  · intro i B hi
    rcases cases2 i B hi with ⟨c, B0, h1, h2, h3⟩ | ⟨B0, h1, h2, h3, h4, rfl⟩
    · exact mapNB_ok hrt (hback c i h1) h3 (hI'.blk c B0 h2)
    · exact BOK.keep hg hSS hsz hSw h3 (fun b hb => hI'.frame b (bof_lt (hI.blk i B0 h4) hb) (outO i B0 h1 h4 b hb)) (hI.blk i B0 h4)
  · intro i j Bi Bj hi hj hne b hbi hbj
    rcases cases2 i Bi hi with ⟨c, B0, h1, h2, h3⟩ | ⟨B0, h1, h2, h3, h4, rfl⟩
    · rw [hback c i h1] at hbi
      rcases cases2 j Bj hj with ⟨c', B0', h1', h2', h3'⟩ | ⟨B0', h1', h2', h3', h4', rfl⟩
      · rw [hback c' j h1'] at hbj
        refine hI'.apart c c' B0 B0' h2 h2' (fun e => ?_) b hbi hbj
        exact hne ((bk_fun h1).trans ((congrArg (bkN js id) e).trans (bk_fun h1').symm))
      · rw [h3'] at hbj
        rcases (hI'.notS c B0 h2 b hbi).2 with h5 | h5
        · have := bof_lt (hI.blk j B0' h4') hbj
          have h6 : w.heap.size ≤ b := h5
          omega
        · exact outO j B0' h1' h4' b hbj h5
    · rw [h3] at hbi
      rcases cases2 j Bj hj with ⟨c', B0', h1', h2', h3'⟩ | ⟨B0', h1', h2', h3', h4', rfl⟩
      · rw [hback c' j h1'] at hbj
        rcases (hI'.notS c' B0' h2' b hbj).2 with h5 | h5
        · have := bof_lt (hI.blk i B0 h4) hbi
          have h6 : w.heap.size ≤ b := h5
          omega
        · exact outO i B0 h1 h4 b hbi h5
      · rw [h3'] at hbj
        exact hI.apart i j B0 B0' h4 h4' hne b hbi hbj
  · intro i B hi b hb
    rcases cases2 i B hi with ⟨c, B0, h1, h2, h3⟩ | ⟨B0, h1, h2, h3, h4, rfl⟩
    · rw [hback c i h1] at hb
      obtain ⟨h5, h6⟩ := hI'.notS c B0 h2 b hb
      refine ⟨h5, ?_⟩
      rcases h6 with h6 | h6
      · exact .inl (Nat.le_trans hI.size h6)
      · exact hOF b h6
    · rw [h3] at hb
      refine ⟨fun hs => ?_, (hI.notS i B0 h4 b hb).2⟩
      rcases hS' b hs with h5 | h5 | h5
      · exact (hI.notS i B0 h4 b hb).1 h5
      · exact outO i B0 h1 h4 b hb h5
      · have := bof_lt (hI.blk i B0 h4) hb
        omega
  · intro b hs
    rcases hS' b hs with h5 | h5 | h5
    · exact hI.Sfrom b h5
    · rcases hOF b h5 with h6 | h6
      · exact .inr (.inr h6)
      · exact .inr (.inl h6)
    · exact .inr (.inr (Nat.le_trans hI.size h5))
  · intro b h1 h2
    refine (hI'.frame b (Nat.lt_of_lt_of_le h1 hI.size) (fun ho => ?_)).trans (hI.frame b h1 h2)
    rcases hOF b ho with h6 | h6
    · omega
    · exact h2 h6
  · intro i y B hx hi
    have hlow : Nat.blt i 2000000 = false := by
      cases hb : Nat.blt i 2000000 with
      | true => rw [F.low i hb] at hx; cases hx
      | false => rfl
    rcases cases2 i B hi with ⟨c, B0, h1, h2, h3⟩ | ⟨B0, h1, h2, h3, h4, rfl⟩
    · cases hj : inN i js with
      | true =>
        rw [hkeepj i hj]
        obtain ⟨e1, e2⟩ := (chk_at t2 h1).1 hj
        have e3 := swap_look n2 e1
        obtain ⟨B', hB'⟩ := sub_has hsub e1
        exact hI.fixd i y B' hx hB'
      | false =>
        rw [(chk_at t2 h1).2 hj] at hlow
        cases hlow
    · exact h3.trans (hI.fixd i y B0 hx h4)
  · exact putA_ok (VsOK.keep hg hSS hsz hSw hV) (mapN_ok hrt hav hv)
theorem gtry_ok {T : Tab} {H : Hp} {g : FuncId} {al : List AV} {gt : GT} (h : gtry T H g al = some gt) : ∃ s, T.g g = some s ∧ nodupN (fstN gt.m) = true ∧ nodupN (sndN gt.m) = true ∧ mapNs gt.m al = some gt.args ∧ subN H gt.m gt.m = some gt.H0 ∧ s gt.args gt.H0 = some gt.out := by
  unfold gtry at h
  split at h
  · cases h
  rename_i s hs
  split at h
  · rename_i n1 n2
    split at h
    · rename_i args ha
      split at h
      · rename_i H0 hH
        split at h
        · rename_i out ho
          cases h
          exact ⟨s, hs, n1, n2, ha, hH, ho⟩
        · cases h
      · cases h
    · cases h
  · cases h
theorem evG_call (hTab : CallOK D P T) {o : Oper} {c : Call} (ho : o.op = .call c) {st : St} {a : Act} {w : World} {id : Nat} (hd : F.fix id = none) {f : Operand} (hcal : c.callee = .value f) {g : FuncId} {caps : List AV} (hf : evl st.tm f = .fn g caps) {gt : GT} (hg : gtry T st.H g (c.args.toList.map (evl st.tm) ++ caps) = some gt)
    {k : St → Option R} {r : R} {next : Act → World → Prop} {Q : Exit → Act → World → Prop}
    (h : (gt.out.o.bind fun x => match gt.out.c with
       | none => gfin gt.js gt.m o.dst id st (gt.out.f1 x) k
       | some cc => if cc x = true then gfin gt.js gt.m o.dst id st (gt.out.f1 x) k else gfin gt.js gt.m o.dst id st (gt.out.f2 x) k) = some r)
    (hG : Gam F st a w) (hk : ∀ st' a' w', Gam F st' a' w' → k st' = some r → next a' w') : o.wp P a w next Q := by
  obtain ⟨μ, S, hI, hV, hD⟩ := hG
  obtain ⟨s, hs, n1, n2, ha, hH, hout⟩ := gtry_ok hg
  obtain ⟨x, hx, h⟩ := Option.bind_eq_some_iff.1 h
  have h2 : gfin gt.js gt.m o.dst id st (gt.out.res x) k = some r := by
    unfold OutG.res resG
    split at h
    · rename_i hc; rw [hc]; exact h
    · rename_i cc hc
      rw [hc]
      dsimp only
      split at h
      · rename_i e; rw [e]; exact h
      · rename_i e
        cases hcx : cc x with
        | true => exact absurd hcx e
        | false => exact h
  obtain ⟨hent, hcon⟩ := hTab.2.2.2 g s gt.args gt.H0 gt.out hs hout
  have hfv := evl_ok (a := a) hV f
  rw [hf] at hfv
  obtain ⟨us, hfe, hus⟩ := hfv
  have hav : VsOK μ S w (c.args.toList.map (evl st.tm) ++ caps) (c.args.toList.map a.eval ++ us) := VsOK.append (map_ok (evl_ok hV) _) hus
  have hm : ∀ i c, lookN gt.m i = some c → unN gt.m μ c = μ i := fun i c hc => by
    unfold unN
    rw [swap_look n2 hc]
  have hrun : (execOp a.eval o).run P w = .ok (.enter g (c.args.toList.map a.eval ++ us).toArray) w := by
    have he := hent (#[] ++ c.args.map a.eval ++ us.toArray) w
    have e2 : (#[] ++ c.args.map a.eval ++ us.toArray) = (c.args.toList.map a.eval ++ us).toArray := by
      apply Array.toList_inj.1
      simp
    rw [e2] at he
    simp only [execOp, ho, resolve, hcal, Sem.run_bind, Sem.run_pure, Result.andThen_ok, Deferred.ofValue, hfe, invoke, e2, he]
  have hcall := hcon x hx (frG D w (unN gt.m μ) S gt.H0) (unN gt.m μ) S _ (gcall_inv hI n1 n2 hH) (mapNs_ok hm ha hav)
  unfold Oper.wp
  rw [hrun]
  refine hcall.mono ?_
  rintro ex w' ⟨v, μ', S', rfl, hI', hv⟩
  obtain ⟨st', μ2, S2, h3, h4, h5⟩ := gfin_ok hd hI hV n1 n2 hH hI' hv h2
  show next (a.put o.dst v) w'
  exact hk st' _ _ ⟨μ2, S2, h4, h5, by rw [put_defers]; exact hD⟩ h3
end
end Go.Proofs.YtigekmmdflaeaaaDoorE
