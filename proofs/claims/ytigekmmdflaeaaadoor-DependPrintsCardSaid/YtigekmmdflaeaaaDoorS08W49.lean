/- Depend: the library's great sort, cut where its code has joints: what each piece of its round comes to, as plain functions. -/
import Derived.Test.YtigekmmdflaeaaaDoorS08F9
set_option linter.all false
namespace Go.Proofs.YtigekmmdflaeaaaDoorE
open Go Go.Proofs
set_option maxRecDepth 100000
set_option linter.unusedVariables false
/-! ### a code in pieces -/
def seqL : Code → Code
  | .seq a _ => a
  | c => c
def seqR : Code → Code
  | .seq _ b => b
  | c => c
def inBlk : Code → Code
  | .block _ b => b
  | c => c
def seqs : List Code → Code → Code
  | [], c => c
  | a :: l, c => .seq a (seqs l c)
def laR : List Code → List (List Tidy) → List (List Tidy)
  | [], la => la
  | a :: l, la => laR l (la.drop (nloops a))
section
variable {R : Type} (P : Program) (T : Tab) (base K : Nat)
noncomputable def evPre : List Code → List (List Tidy) → St → (X → St → Option R) → Option R
  | [], _, st, κ => κ .norm st
  | a :: l, la, st, κ => evCode P T base K a la st fun x st' => match x with
    | .norm => evPre l (la.drop (nloops a)) st' κ
    | .exit j => κ (.exit j) st'
    | .ret => κ .ret st'
/-- what comes behind the pieces -/
noncomputable def behind (c : Code) (la : List (List Tidy)) (k : X → St → Option R) : X → St → Option R := fun x st' => match x with
    | .norm => evCode P T base K c la st' k
    | .exit j => k (.exit j) st'
    | .ret => k .ret st'
theorem ev_seqs (c : Code) : ∀ (l : List Code) (la : List (List Tidy)) (st : St) (k : X → St → Option R), evCode P T base K (seqs l c) la st k = evPre P T base K l la st (behind P T base K c (laR l la) k)
  | [], la, st, k => rfl
  | a :: l, la, st, k => by
    show evCode P T base K a la st _ = evCode P T base K a la st _
    congr 1
    funext x st'
    cases x with
    | norm => exact ev_seqs c l (la.drop (nloops a)) st' k
    | exit j => rfl
    | ret => rfl
end
/-! ### slots told by what is read there, the others as they are -/
def getO (i : Nat) : List (Nat × AV) → Option AV
  | [] => none
  | (j, a) :: l => match Nat.beq i j with
    | true => some a
    | false => getO i l
def putJ (n : Nat) (l : List (Nat × AV)) (tm : List AV) : List AV := (List.range n).map fun i => match getO i l with
  | some v => v
  | none => tm.getD i .top
theorem getO_mem {i : Nat} {v : AV} : ∀ {l : List (Nat × AV)}, getO i l = some v → (i, v) ∈ l
  | [], h => by cases h
  | (j, a) :: l, h => by
    unfold getO at h
    split at h
    · rename_i e
      have e := Nat.eq_of_beq_eq_true e
      cases h
      subst e
      exact List.mem_cons_self
    · exact List.mem_cons_of_mem _ (getO_mem h)
theorem putJ_eq {n : Nat} {tm : List AV} (hl : tm.length = n) {l : List (Nat × AV)} (h : ∀ p ∈ l, tm.getD p.1 .top = p.2) : tm = putJ n l tm := by
  apply List.ext_getElem
  · simp [putJ, hl]
  · intro i h1 h2
    simp only [putJ, List.getElem_map, List.getElem_range]
    have e : tm.getD i .top = tm[i] := by simp [List.getD_eq_getElem?_getD, h1]
    split
    · rename_i v hv
      have := h _ (getO_mem hv)
      simp only at this
      rw [← e, this]
    · exact e.symm
def rI : AV → Option Int
  | .sc (.int .i64 n) => some n
  | _ => none
def rB : AV → Option Bool
  | .sc (.bool b) => some b
  | _ => none
def rO : AV → Bool
  | .own i => Nat.beq i 2000000
  | _ => false
def rH : Hp → Option (List Int)
  | [(i, .arr e (.int .u32) l)] => match Nat.beq i 2000000 && Nat.beq e 38 with
    | true => some l
    | false => none
  | _ => none
theorem rI_inv {v : AV} {n : Int} (h : rI v = some n) : v = .sc (.int .i64 n) := by
  unfold rI at h
  split at h
  · cases h; rfl
  · cases h
theorem rB_inv {v : AV} {b : Bool} (h : rB v = some b) : v = .sc (.bool b) := by
  unfold rB at h
  split at h
  · cases h; rfl
  · cases h
theorem rO_inv {v : AV} (h : rO v = true) : v = .own 2000000 := by
  unfold rO at h
  split at h
  · rw [Nat.eq_of_beq_eq_true h]
  · cases h
theorem rH_inv {H : Hp} {l : List Int} (h : rH H = some l) : H = [(2000000, .arr 38 (.int .u32) l)] := by
  unfold rH at h
  split at h
  · rename_i i e l'
    split at h
    · rename_i hb
      simp only [Bool.and_eq_true] at hb
      have e1 := Nat.eq_of_beq_eq_true hb.1
      have e2 := Nat.eq_of_beq_eq_true hb.2
      subst e1 e2
      cases h
      rfl
    · cases h
  · cases h
/-! ### the round, as plain functions -/
section
variable (F63 : Int → Int → List Int → Option (Unit × List Int)) (F64 : Int → Int → List Int → Option (Unit × List Int)) (F65 : Int → Int → List Int → Option (Unit × List Int)) (F66 : Int → Int → List Int → Option ((Int × Int) × List Int)) (F67 : Int → Int → List Int → Option (Unit × List Int)) (F68 : Int → Int → List Int → Option (Bool × List Int)) (F69 : Int → Int → Option Bool) (F70 : Int → Int → Int → List Int → Option (Int × List Int)) (F71 : Int → Int → Int → List Int → Option ((Int × Bool) × List Int)) (Fq : Int → Int → Int → List Int → Option (Unit × List Int)) (r0 : Int → Int → Int → Bool → Bool → List Int → Option (Unit × List Int))
noncomputable def k5 (a b lim ln p : Int) (l : List Int) : Option (Unit × List Int) :=
  (Option.bind (F71 a b p l) fun x1 => (if decide ((IntKind.i64.wrap (x1.1.1 - a)) < (IntKind.i64.wrap (b - x1.1.1))) = true then (Option.bind (Fq a x1.1.1 lim x1.2) fun x2 => r0 (IntKind.i64.wrap (x1.1.1 + (1 : Int))) b lim (decide ((IntKind.i64.wrap (x1.1.1 - a)) ≥ (IntKind.i64.wrap (ln.tdiv (8 : Int))))) x1.1.2 x2.2)
   else (Option.bind (Fq (IntKind.i64.wrap (x1.1.1 + (1 : Int))) b lim x1.2) fun x3 => r0 a x1.1.1 lim (decide ((IntKind.i64.wrap (b - x1.1.1)) ≥ (IntKind.i64.wrap (ln.tdiv (8 : Int))))) x1.1.2 x3.2)))
noncomputable def k4 (a b lim : Int) (wb wp : Bool) (ln p : Int) (l : List Int) : Option (Unit × List Int) :=
  (if decide (a > (0 : Int)) = true then (if decide ((0 : Int) ≤ (IntKind.i64.wrap (a - (1 : Int))) ∧ (IntKind.i64.wrap (a - (1 : Int))) < ((l.length : Nat) : Int)) = true then (if decide ((0 : Int) ≤ p ∧ p < ((l.length : Nat) : Int)) = true then (Option.bind (F69 (l.getD (IntKind.i64.wrap (a - (1 : Int))).toNat (zEl (Ty.int IntKind.u32))) (l.getD (p).toNat (zEl (Ty.int IntKind.u32)))) fun x1 => (if (!x1) = true then (Option.bind (F70 a b p l) fun x2 => r0 x2.1 b lim wb wp x2.2)
   else k5 F71 Fq r0 a b lim ln p l))
   else none)
   else none)
   else k5 F71 Fq r0 a b lim ln p l)
noncomputable def k3 (a b lim : Int) (wb wp : Bool) (ln p hint : Int) (l : List Int) : Option (Unit × List Int) :=
  (if wb = true then (if wp = true then (if (hint == (1 : Int)) = true then (Option.bind (F68 a b l) fun x => (if x.1 = true then some (((), x.2)) else k4 F69 F70 F71 Fq r0 a b lim wb wp ln p x.2)) else k4 F69 F70 F71 Fq r0 a b lim wb wp ln p l) else k4 F69 F70 F71 Fq r0 a b lim wb wp ln p l) else k4 F69 F70 F71 Fq r0 a b lim wb wp ln p l)
noncomputable def k2 (a b lim : Int) (wb wp : Bool) (ln : Int) (l : List Int) : Option (Unit × List Int) :=
  (Option.bind (F66 a b l) fun x => (if (x.1.2 == (2 : Int)) = true then (Option.bind (F67 a b x.2) fun y => k3 F68 F69 F70 F71 Fq r0 a b lim wb wp ln (IntKind.i64.wrap ((IntKind.i64.wrap (b - (1 : Int))) - (IntKind.i64.wrap (x.1.1 - a)))) (1 : Int) y.2)
    else k3 F68 F69 F70 F71 Fq r0 a b lim wb wp ln x.1.1 x.1.2 x.2))
noncomputable def k1 (a b lim : Int) (wb wp : Bool) (l : List Int) : Option (Unit × List Int) :=
  (if decide (IntKind.i64.wrap (b - a) ≤ (12 : Int)) = true then (Option.bind (F63 a b l) fun x1 => some (((), x1.2)))
   else (if (lim == (0 : Int)) = true then (Option.bind (F64 a b l) fun x2 => some (((), x2.2)))
    else (if (!wb) = true then (Option.bind (F65 a b l) fun x3 => k2 F66 F67 F68 F69 F70 F71 Fq r0 a b (IntKind.i64.wrap (lim - (1 : Int))) wb wp (IntKind.i64.wrap (b - a)) x3.2) else k2 F66 F67 F68 F69 F70 F71 Fq r0 a b lim wb wp (IntKind.i64.wrap (b - a)) l)))
noncomputable def L49_0 : Nat → Int → Int → Int → Bool → Bool → List Int → Option (Unit × List Int)
  | 0, _, _, _, _, _, _ => none
  | n + 1, a, b, lim, wb, wp, l => k1 F63 F64 F65 F66 F67 F68 F69 F70 F71 Fq (L49_0 n) a b lim wb wp l
noncomputable def G49 (K : Nat) (a0 a1 a2 : Int) (o0 : List Int) : Option (Unit × List Int) := L49_0 F63 F64 F65 F66 F67 F68 F69 F70 F71 Fq K a0 a1 a2 true true o0
/-! ### that the code comes to it -/
noncomputable def tab49 : Tab := ((((((((((Tab.none.addG 63 (rowG (gad ag63 ob63) gq63 fun p => F63 p.1.1 p.1.2.1 p.2)).addG 64 (rowG (gad ag64 ob64) gq64 fun p => F64 p.1.1 p.1.2.1 p.2)).addG 65 (rowG (gad ag65 ob65) gq65 fun p => F65 p.1.1 p.1.2.1 p.2)).addG 66 (rowG (gad ag66 ob66) gq66 fun p => F66 p.1.1 p.1.2.1 p.2)).addG 67 (rowG (gad ag67 ob67) gq67 fun p => F67 p.1.1 p.1.2.1 p.2)).addG 68 (rowG (gad ag68 ob68) gq68 fun p => F68 p.1.1 p.1.2.1 p.2)).add 69 (row ad69 dq69 fun p => F69 p.1 p.2)).addG 70 (rowG (gad ag70 ob70) gq70 fun p => F70 p.1.1 p.1.2.1 p.1.2.2.1 p.2)).addG 71 (rowG (gad ag71 ob71) gq71 fun p => F71 p.1.1 p.1.2.1 p.1.2.2.1 p.2)).addG 49 (rowG (gad ag49 ob49) gq49 fun p => Fq p.1.1 p.1.2.1 p.1.2.2.1 p.2))
def la49 : List (List Tidy) := [[.only [0, 1, 2, 3, 8, 9], .ids [], .top [1000000]]]
def nrm49 : List Tidy := [.only [0, 1, 2, 3, 8, 9], .ids [], .top [1000000]]
def hd49 (a b lim : Int) (wb wp : Bool) (l : List Int) : St := { tm := slots 134 [(0, .own 2000000), (1, .sc (.int .i64 a)), (2, .sc (.int .i64 b)), (3, .sc (.int .i64 lim)), (8, .sc (.bool wb)), (9, .sc (.bool wp))], H := [(2000000, .arr 38 (.int .u32) l)] }
def st10 (tm : List AV) (a b lim : Int) (wb wp : Bool) (ln : Int) (l : List Int) : St := { tm := putJ 134 [(0, .own 2000000), (1, .sc (.int .i64 a)), (2, .sc (.int .i64 b)), (3, .sc (.int .i64 lim)), (8, .sc (.bool wb)), (9, .sc (.bool wp)), (10, .sc (.int .i64 ln))] tm, H := [(2000000, .arr 38 (.int .u32) l)] }
def st17 (tm : List AV) (a b lim : Int) (wb wp : Bool) (ln p : Int) (l : List Int) : St := { tm := putJ 134 [(0, .own 2000000), (1, .sc (.int .i64 a)), (2, .sc (.int .i64 b)), (3, .sc (.int .i64 lim)), (8, .sc (.bool wb)), (9, .sc (.bool wp)), (10, .sc (.int .i64 ln)), (11, .sc (.int .i64 p))] tm, H := [(2000000, .arr 38 (.int .u32) l)] }
def rd10 (st : St) : Option (Int × Int × Int × Bool × Bool × Int × List Int) := match Nat.beq st.tm.length 134 && rO (st.tm.getD 0 .top) with
  | false => none
  | true => (rI (st.tm.getD 1 .top)).bind fun a => (rI (st.tm.getD 2 .top)).bind fun b => (rI (st.tm.getD 3 .top)).bind fun lim => (rB (st.tm.getD 8 .top)).bind fun wb => (rB (st.tm.getD 9 .top)).bind fun wp => (rI (st.tm.getD 10 .top)).bind fun ln => (rH st.H).bind fun l => some (a, b, lim, wb, wp, ln, l)
def rd17 (st : St) : Option ((Int × Int × Int × Bool × Bool × Int × List Int) × Int) := (rd10 st).bind fun x => (rI (st.tm.getD 11 .top)).bind fun p => some (x, p)
theorem rd10_all {st : St} {a b lim : Int} {wb wp : Bool} {ln : Int} {l : List Int} (h : rd10 st = some (a, b, lim, wb, wp, ln, l)) :
    st.tm.length = 134 ∧ st.H = [(2000000, .arr 38 (.int .u32) l)] ∧ ∀ p ∈ [(0, .own 2000000), (1, .sc (.int .i64 a)), (2, .sc (.int .i64 b)), (3, .sc (.int .i64 lim)), (8, .sc (.bool wb)), (9, .sc (.bool wp)), (10, .sc (.int .i64 ln))], st.tm.getD p.1 .top = p.2 := by
  unfold rd10 at h
  split at h
  · cases h
  · rename_i hb
    simp only [Bool.and_eq_true] at hb
    simp only [Option.bind_eq_some_iff, Option.some.injEq, Prod.mk.injEq] at h
    obtain ⟨a', h1, b', h2, lim', h3, wb', h4, wp', h5, ln', h6, l', h7, rfl, rfl, rfl, rfl, rfl, rfl, rfl⟩ := h
    refine ⟨Nat.eq_of_beq_eq_true hb.1, rH_inv h7, fun p hp => ?_⟩
    simp only [List.mem_cons, List.not_mem_nil, or_false] at hp
    rcases hp with rfl | rfl | rfl | rfl | rfl | rfl | rfl
    · exact rO_inv hb.2
    · exact rI_inv h1
    · exact rI_inv h2
    · exact rI_inv h3
    · exact rB_inv h4
    · exact rB_inv h5
    · exact rI_inv h6
theorem rd10_inv {st : St} {a b lim : Int} {wb wp : Bool} {ln : Int} {l : List Int} (h : rd10 st = some (a, b, lim, wb, wp, ln, l)) : st = st10 st.tm a b lim wb wp ln l := by
  obtain ⟨h1, h2, h3⟩ := rd10_all h
  obtain ⟨tm, H⟩ := st
  have e : tm = putJ 134 _ tm := putJ_eq h1 h3
  have e2 : H = _ := h2
  unfold st10
  rw [← e, ← e2]
theorem rd17_inv {st : St} {a b lim : Int} {wb wp : Bool} {ln p : Int} {l : List Int} (h : rd17 st = some ((a, b, lim, wb, wp, ln, l), p)) : st = st17 st.tm a b lim wb wp ln p l := by
  unfold rd17 at h
  simp only [Option.bind_eq_some_iff, Option.some.injEq, Prod.mk.injEq] at h
  obtain ⟨x, hx, p', hp, e, rfl⟩ := h
  subst e
  obtain ⟨h1, h2, h3⟩ := rd10_all hx
  obtain ⟨tm, H⟩ := st
  have e : tm = putJ 134 [(0, .own 2000000), (1, .sc (.int .i64 a)), (2, .sc (.int .i64 b)), (3, .sc (.int .i64 lim)), (8, .sc (.bool wb)), (9, .sc (.bool wp)), (10, .sc (.int .i64 ln)), (11, .sc (.int .i64 p'))] tm := putJ_eq h1 (fun q hq => by
    rcases List.mem_append.1 (show q ∈ [(0, .own 2000000), (1, .sc (.int .i64 a)), (2, .sc (.int .i64 b)), (3, .sc (.int .i64 lim)), (8, .sc (.bool wb)), (9, .sc (.bool wp)), (10, .sc (.int .i64 ln))] ++ [(11, .sc (.int .i64 p'))] from hq) with hq | hq
    · exact h3 q hq
    · simp only [List.mem_singleton] at hq
      subst hq
      exact rI_inv hp)
  have e2 : H = _ := h2
  unfold st17
  rw [← e, ← e2]
noncomputable def bd49 : Code := match Tryd.f49.body with
  | some c => match loopAt c la49 0 with
    | some (b, _, _) => b
    | none => .skip
  | none => .skip
noncomputable def in49 : Code := inBlk bd49
noncomputable def c3_49 : Code := seqR in49
noncomputable def c5_49 : Code := seqR c3_49
noncomputable def c7_49 : Code := seqR c5_49
noncomputable def c10_49 : Code := seqR c7_49
noncomputable def c11_49 : Code := seqR c10_49
noncomputable def c15_49 : Code := seqR c11_49
noncomputable def c17_49 : Code := seqR c15_49
noncomputable def pre2 : List Code := [seqL in49, seqL c3_49, seqL c5_49, seqL c7_49]
noncomputable def pre10 : List Code := [seqL c10_49, seqL c11_49, seqL c15_49]
variable (K : Nat)
/-- what stands behind the loop -/
noncomputable def kont49 : X → St → Option (Unit × List Int) := match Tryd.f49.body with
  | some c => kontAt Tryd.prog (tab49 F63 F64 F65 F66 F67 F68 F69 F70 F71 Fq) 0 K c la49 0 [] (endK Tryd.prog c la49 Tryd.f49 gq49.k)
  | none => fun _ _ => none
noncomputable def kI (n : Nat) : X → St → Option (Unit × List Int) := fun x st' => match x with
    | .norm => iter (evCode Tryd.prog (tab49 F63 F64 F65 F66 F67 F68 F69 F70 F71 Fq) 0 K bd49 []) nrm49 n (tidy nrm49 st') (kont49 F63 F64 F65 F66 F67 F68 F69 F70 F71 Fq K)
    | .exit j => kont49 F63 F64 F65 F66 F67 F68 F69 F70 F71 Fq K (.exit j) st'
    | .ret => kont49 F63 F64 F65 F66 F67 F68 F69 F70 F71 Fq K .ret st'
noncomputable def kk (n : Nat) : X → St → Option (Unit × List Int) := fun x st' => match x with
    | .norm => kI F63 F64 F65 F66 F67 F68 F69 F70 F71 Fq K n .norm st'
    | .exit j => match Nat.beq j 1 with
      | true => kI F63 F64 F65 F66 F67 F68 F69 F70 F71 Fq K n .norm st'
      | false => kI F63 F64 F65 F66 F67 F68 F69 F70 F71 Fq K n (.exit j) st'
    | .ret => kI F63 F64 F65 F66 F67 F68 F69 F70 F71 Fq K n .ret st'
noncomputable def rr (n : Nat) : Int → Int → Int → Bool → Bool → List Int → Option (Unit × List Int) := fun a b lim wb wp l => loopN Tryd.prog (tab49 F63 F64 F65 F66 F67 F68 F69 F70 F71 Fq) 0 K Tryd.f49 la49 gq49.k 0 [] n (hd49 a b lim wb wp l)
theorem c17_eq (n : Nat) (tm : List AV) (a b lim : Int) (wb wp : Bool) (ln p : Int) (l : List Int) :
    evCode Tryd.prog (tab49 F63 F64 F65 F66 F67 F68 F69 F70 F71 Fq) 0 K c17_49 [] (st17 tm a b lim wb wp ln p l) (kk F63 F64 F65 F66 F67 F68 F69 F70 F71 Fq K n) = k4 F69 F70 F71 Fq (rr F63 F64 F65 F66 F67 F68 F69 F70 F71 Fq K n) a b lim wb wp ln p l := by kernel_rfl
noncomputable def q17 (n : Nat) : X → St → Option (Unit × List Int) := fun x st' => match x with
    | .norm => match rd17 st' with
      | some ((a, b, lim, wb, wp, ln, l), p) => k4 F69 F70 F71 Fq (rr F63 F64 F65 F66 F67 F68 F69 F70 F71 Fq K n) a b lim wb wp ln p l
      | none => evCode Tryd.prog (tab49 F63 F64 F65 F66 F67 F68 F69 F70 F71 Fq) 0 K c17_49 [] st' (kk F63 F64 F65 F66 F67 F68 F69 F70 F71 Fq K n)
    | .exit j => kk F63 F64 F65 F66 F67 F68 F69 F70 F71 Fq K n (.exit j) st'
    | .ret => kk F63 F64 F65 F66 F67 F68 F69 F70 F71 Fq K n .ret st'
theorem q17_eq (n : Nat) : behind Tryd.prog (tab49 F63 F64 F65 F66 F67 F68 F69 F70 F71 Fq) 0 K c17_49 [] (kk F63 F64 F65 F66 F67 F68 F69 F70 F71 Fq K n) = q17 F63 F64 F65 F66 F67 F68 F69 F70 F71 Fq K n := by
  funext x st
  cases x with
  | norm =>
    show evCode Tryd.prog (tab49 F63 F64 F65 F66 F67 F68 F69 F70 F71 Fq) 0 K c17_49 [] st (kk F63 F64 F65 F66 F67 F68 F69 F70 F71 Fq K n) = (match rd17 st with
      | some ((a, b, lim, wb, wp, ln, l), p) => k4 F69 F70 F71 Fq (rr F63 F64 F65 F66 F67 F68 F69 F70 F71 Fq K n) a b lim wb wp ln p l
      | none => evCode Tryd.prog (tab49 F63 F64 F65 F66 F67 F68 F69 F70 F71 Fq) 0 K c17_49 [] st (kk F63 F64 F65 F66 F67 F68 F69 F70 F71 Fq K n))
    split
    · rename_i a b lim wb wp ln l p h
      rw [rd17_inv h]
      exact c17_eq F63 F64 F65 F66 F67 F68 F69 F70 F71 Fq K n st.tm a b lim wb wp ln p l
    · rfl
  | exit j => rfl
  | ret => rfl
theorem pre10_eq (n : Nat) (tm : List AV) (a b lim : Int) (wb wp : Bool) (ln : Int) (l : List Int) :
    evPre Tryd.prog (tab49 F63 F64 F65 F66 F67 F68 F69 F70 F71 Fq) 0 K pre10 [] (st10 tm a b lim wb wp ln l) (q17 F63 F64 F65 F66 F67 F68 F69 F70 F71 Fq K n) = k2 F66 F67 F68 F69 F70 F71 Fq (rr F63 F64 F65 F66 F67 F68 F69 F70 F71 Fq K n) a b lim wb wp ln l := by kernel_rfl
theorem c10_eq (n : Nat) (tm : List AV) (a b lim : Int) (wb wp : Bool) (ln : Int) (l : List Int) :
    evCode Tryd.prog (tab49 F63 F64 F65 F66 F67 F68 F69 F70 F71 Fq) 0 K c10_49 [] (st10 tm a b lim wb wp ln l) (kk F63 F64 F65 F66 F67 F68 F69 F70 F71 Fq K n) = k2 F66 F67 F68 F69 F70 F71 Fq (rr F63 F64 F65 F66 F67 F68 F69 F70 F71 Fq K n) a b lim wb wp ln l := by
  have e : c10_49 = seqs pre10 c17_49 := by kernel_rfl
  have e2 : laR pre10 [] = [] := by kernel_rfl
  rw [e, ev_seqs, e2, q17_eq]
  exact pre10_eq F63 F64 F65 F66 F67 F68 F69 F70 F71 Fq K n tm a b lim wb wp ln l
noncomputable def q10 (n : Nat) : X → St → Option (Unit × List Int) := fun x st' => match x with
    | .norm => match rd10 st' with
      | some (a, b, lim, wb, wp, ln, l) => k2 F66 F67 F68 F69 F70 F71 Fq (rr F63 F64 F65 F66 F67 F68 F69 F70 F71 Fq K n) a b lim wb wp ln l
      | none => evCode Tryd.prog (tab49 F63 F64 F65 F66 F67 F68 F69 F70 F71 Fq) 0 K c10_49 [] st' (kk F63 F64 F65 F66 F67 F68 F69 F70 F71 Fq K n)
    | .exit j => kk F63 F64 F65 F66 F67 F68 F69 F70 F71 Fq K n (.exit j) st'
    | .ret => kk F63 F64 F65 F66 F67 F68 F69 F70 F71 Fq K n .ret st'
theorem q10_eq (n : Nat) : behind Tryd.prog (tab49 F63 F64 F65 F66 F67 F68 F69 F70 F71 Fq) 0 K c10_49 [] (kk F63 F64 F65 F66 F67 F68 F69 F70 F71 Fq K n) = q10 F63 F64 F65 F66 F67 F68 F69 F70 F71 Fq K n := by
  funext x st
  cases x with
  | norm =>
    show evCode Tryd.prog (tab49 F63 F64 F65 F66 F67 F68 F69 F70 F71 Fq) 0 K c10_49 [] st (kk F63 F64 F65 F66 F67 F68 F69 F70 F71 Fq K n) = (match rd10 st with
      | some (a, b, lim, wb, wp, ln, l) => k2 F66 F67 F68 F69 F70 F71 Fq (rr F63 F64 F65 F66 F67 F68 F69 F70 F71 Fq K n) a b lim wb wp ln l
      | none => evCode Tryd.prog (tab49 F63 F64 F65 F66 F67 F68 F69 F70 F71 Fq) 0 K c10_49 [] st (kk F63 F64 F65 F66 F67 F68 F69 F70 F71 Fq K n))
    split
    · rename_i a b lim wb wp ln l h
      rw [rd10_inv h]
      exact c10_eq F63 F64 F65 F66 F67 F68 F69 F70 F71 Fq K n st.tm a b lim wb wp ln l
    · rfl
  | exit j => rfl
  | ret => rfl
theorem pre2_eq (n : Nat) (a b lim : Int) (wb wp : Bool) (l : List Int) :
    evPre Tryd.prog (tab49 F63 F64 F65 F66 F67 F68 F69 F70 F71 Fq) 0 K pre2 [] (hd49 a b lim wb wp l) (q10 F63 F64 F65 F66 F67 F68 F69 F70 F71 Fq K n) = k1 F63 F64 F65 F66 F67 F68 F69 F70 F71 Fq (rr F63 F64 F65 F66 F67 F68 F69 F70 F71 Fq K n) a b lim wb wp l := by kernel_rfl
theorem step49 (n : Nat) (a b lim : Int) (wb wp : Bool) (l : List Int) :
    loopN Tryd.prog (tab49 F63 F64 F65 F66 F67 F68 F69 F70 F71 Fq) 0 K Tryd.f49 la49 gq49.k 0 [] (n + 1) (hd49 a b lim wb wp l) = evCode Tryd.prog (tab49 F63 F64 F65 F66 F67 F68 F69 F70 F71 Fq) 0 K (seqs pre2 c10_49) [] (hd49 a b lim wb wp l) (kk F63 F64 F65 F66 F67 F68 F69 F70 F71 Fq K n) := by kernel_rfl
theorem lp49_0 : ∀ (n : Nat), rr F63 F64 F65 F66 F67 F68 F69 F70 F71 Fq K n = L49_0 F63 F64 F65 F66 F67 F68 F69 F70 F71 Fq n
  | 0 => by
    funext a b lim wb wp l
    kernel_rfl
  | n + 1 => by
    funext a b lim wb wp l
    have e2 : laR pre2 [] = [] := by kernel_rfl
    show loopN Tryd.prog (tab49 F63 F64 F65 F66 F67 F68 F69 F70 F71 Fq) 0 K Tryd.f49 la49 gq49.k 0 [] (n + 1) (hd49 a b lim wb wp l) = k1 F63 F64 F65 F66 F67 F68 F69 F70 F71 Fq (L49_0 F63 F64 F65 F66 F67 F68 F69 F70 F71 Fq n) a b lim wb wp l
    rw [step49, ev_seqs, e2, q10_eq, pre2_eq, lp49_0 n]
theorem ev49 (a0 a1 a2 : Int) (o0 : List Int) : evFun Tryd.prog (tab49 F63 F64 F65 F66 F67 F68 F69 F70 F71 Fq) 0 K Tryd.f49 la49 [.own 2000000, I .i64 a0, I .i64 a1, I .i64 a2] (hpB ob49 o0) gq49.k = G49 F63 F64 F65 F66 F67 F68 F69 F70 F71 Fq K a0 a1 a2 o0 := by
  have h : evFun Tryd.prog (tab49 F63 F64 F65 F66 F67 F68 F69 F70 F71 Fq) 0 K Tryd.f49 la49 [.own 2000000, I .i64 a0, I .i64 a1, I .i64 a2] (hpB ob49 o0) gq49.k = rr F63 F64 F65 F66 F67 F68 F69 F70 F71 Fq K K a0 a1 a2 true true o0 := by kernel_rfl
  rw [h, lp49_0]
  rfl
end
noncomputable def R49 (K : Nat) : Nat → Int → Int → Int → (List Int) → Option (Unit × List Int)
  | 0 => fun _ _ _ _ => none
  | d + 1 => fun a0 a1 a2 o0 => G49 (F63 K) (F64 K) (F65 K) (F66 K) (F67 K) (F68 K) (F69 K) (F70 K) (F71 K) (R49 K d) K a0 a1 a2 o0
noncomputable def F49 (K : Nat) (a0 : Int) (a1 : Int) (a2 : Int) (o0 : List Int) : Option (Unit × List Int) := R49 K K a0 a1 a2 o0
theorem rok49 {D : Cx} (K : Nat) : ∀ d : Nat, RowG D Tryd.prog 49 (rowG (gad ag49 ob49) gq49 fun p => R49 K d p.1.1 p.1.2.1 p.1.2.2.1 p.2)
  | 0 => rowG_ok fun x r h => nomatch (show (none : Option (Unit × List Int)) = some r from h)
  | d + 1 => rowG_ok fun x r h => ghas_of (show CallOK D Tryd.prog (tab49 (F63 K) (F64 K) (F65 K) (F66 K) (F67 K) (F68 K) (F69 K) (F70 K) (F71 K) (R49 K d)) from (addG_ok (addG_ok (addG_ok (add_ok (addG_ok (addG_ok (addG_ok (addG_ok (addG_ok (addG_ok none_ok ent63 (ok63 K)) ent64 (ok64 K)) ent65 (ok65 K)) ent66 (ok66 K)) ent67 (ok67 K)) ent68 (ok68 K)) ent69 (ok69 K)) ent70 (ok70 K)) ent71 (ok71 K)) ent49 (rok49 K d))) Tryd.func49 ((ev49 (F63 K) (F64 K) (F65 K) (F66 K) (F67 K) (F68 K) (F69 K) (F70 K) (F71 K) (R49 K d) K x.1.1 x.1.2.1 x.1.2.2.1 x.2).trans h)
theorem ok49 {D : Cx} (K : Nat) : RowG D Tryd.prog 49 (rowG (gad ag49 ob49) gq49 fun p => F49 K p.1.1 p.1.2.1 p.1.2.2.1 p.2) := rok49 K K
end Go.Proofs.YtigekmmdflaeaaaDoorE
