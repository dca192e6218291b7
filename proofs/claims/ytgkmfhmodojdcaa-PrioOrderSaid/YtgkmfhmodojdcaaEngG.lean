/- Several texts, as one: what is named of them. -/
import Derived.Test.YtgkmfhmodojdcaaEngC
import Derived.ChangeArms
import Derived.WideShapes
import Derived.SizedLaws
import Derived.Tactics
import Derived.RowKit
import Derived.Shelf.GgSortFunc.InsertionK
import Derived.Shelf.SlSortCmp.InsertionK
set_option linter.all false
namespace Go.Proofs.YtgkmfhmodojdcaaE
open Go
set_option linter.unusedVariables false
section
variable {R : Type}
def loopAt : Code → List (List Tidy) → Nat → Option (Code × List Tidy × List (List Tidy))
  | .seq a b, la, i => match Nat.blt i (nloops a) with
    | true => loopAt a la i
    | false => loopAt b (la.drop (nloops a)) (i - nloops a)
  | .cond _ a b, la, i => match Nat.blt i (nloops a) with
    | true => loopAt a la i
    | false => loopAt b (la.drop (nloops a)) (i - nloops a)
  | .block _ b, la, i => loopAt b la i
  | .scope b, la, i => loopAt b la i
  | .loop b, la, i => match la with
    | nrm :: la' => match i with
      | 0 => some (b, nrm, la')
      | i + 1 => loopAt b la' i
    | [] => none
  | _, _, _ => none
noncomputable def kontAt (P : Program) (T : Tab) (base K : Nat) : Code → List (List Tidy) → Nat → List Nat → (X → St → Option R) → X → St → Option R
  | .seq a b, la, i, ns, k => match Nat.blt i (nloops a) with
    | true => kontAt P T base K a la i ns fun x st' => match x with
      | .norm => evCode P T base K b (la.drop (nloops a)) st' k
      | .exit j => k (.exit j) st'
      | .ret => k .ret st'
    | false => kontAt P T base K b (la.drop (nloops a)) (i - nloops a) ns k
  | .cond _ a b, la, i, ns, k => match Nat.blt i (nloops a) with
    | true => kontAt P T base K a la i ns k
    | false => kontAt P T base K b (la.drop (nloops a)) (i - nloops a) ns k
  | .block id b, la, i, ns, k => kontAt P T base K b la i ns fun x st' => match x with
    | .norm => k .norm st'
    | .exit j => match Nat.beq j id with
      | true => k .norm st'
      | false => k (.exit j) st'
    | .ret => k .ret st'
  | .scope b, la, i, ns, k => kontAt P T base K b la i ns k
  | .loop b, la, i, ns, k => match la with
    | nrm :: la' => match i with
      | 0 => k
      | i + 1 => match ns with
        | n :: ns => kontAt P T base K b la' i ns fun x st' => match x with
          | .norm => iter (evCode P T base K b la') nrm n (tidy nrm st') k
          | .exit j => k (.exit j) st'
          | .ret => k .ret st'
        | [] => k
    | [] => k
  | _, _, _, _, k => k
noncomputable def endK (P : Program) (c : Code) (la : List (List Tidy)) (fn : Func) (k : AV → Hp → Option R) : X → St → Option R := fun x st => match x with
    | .exit _ => none
    | .norm => match resAV P (atEnd c la st) fn.results.toList with
      | some l => k (resOne l) (atEnd c la st).H
      | none => none
    | .ret => match resAV P (atEnd c la st) fn.results.toList with
      | some l => k (resOne l) (atEnd c la st).H
      | none => none
noncomputable def loopN (P : Program) (T : Tab) (base K : Nat) (fn : Func) (la : List (List Tidy)) (k : AV → Hp → Option R) (i : Nat) (ns : List Nat) (n : Nat) (st : St) : Option R :=
  match fn.body with
  | some c => match loopAt c la i with
    | some (b, nrm, la') => iter (evCode P T base K b la') nrm n st (kontAt P T base K c la i ns (endK P c la fn k))
    | none => none
  | none => none
end
def getS (i : Nat) : List (Nat × AV) → AV
  | [] => .top
  | (j, a) :: l => match Nat.beq i j with
    | true => a
    | false => getS i l
def slots (n : Nat) (l : List (Nat × AV)) : List AV := (List.range n).map fun i => getS i l
end Go.Proofs.YtgkmfhmodojdcaaE

namespace Go.Proofs.YtgkmfhmodojdcaaE
open Go Go.RowKit Go.WideShapes
set_option linter.unusedVariables false

def Gd : (t : Ty) → El t → Prop
  | .int k, x => (Lit.int k x).wf = true
  | .bool, _ => True
  | .str, s => s.size ≤ 140737488351232
  | .sl t, l => l.length ≤ 140737488351232 ∧ ∀ x ∈ l, Gd t x
  | .pair a b, x => Gd a x.1 ∧ Gd b x.2

def okTy (P : Program) : Nat → TypeId → Ty → Bool
  | 0, _, _ => false
  | n + 1, t, ty => match P.underlying t with
    | some (.int k) => match ty with
      | .int k' => decide (k = k') && Nat.beq (P.cellsOf t) 1
      | _ => false
    | some .bool => match ty with
      | .bool => Nat.beq (P.cellsOf t) 1
      | _ => false
    | some .string => match ty with
      | .str => Nat.beq (P.cellsOf t) 1
      | _ => false
    | some (.slice e) => match ty with
      | .sl a => Nat.beq (P.cellsOf t) 1 && decide (0 < P.bytesOf e) && okTy P n e a
      | _ => false
    | some (.struct fs) => Nat.beq (P.cellsOf t) (sz ty) && okFs (okTy P n) (P.cellsOf) fs.toList 0 ty
    | _ => false
where okFs (ok : TypeId → Ty → Bool) (cells : TypeId → Nat) : List Field → Nat → Ty → Bool
  | [], _, _ => false
  | [f], off, ty => Nat.beq f.offset off && ok f.type ty
  | f :: g :: fs, off, ty => match ty with
    | .pair a b => Nat.beq f.offset off && ok f.type a && okFs ok cells (g :: fs) (off + sz a) b
    | _ => false

def Opens (P : Program) (t : TypeId) (ty : Ty) : Prop :=
  P.cellsOf t = sz ty ∧ ∀ {H : Type} {enc : TypeId × Value → H} {w : World} {base : Nat} {spare : Nat → Bool} {held : Bool} {fuel : Nat} {cs : List Value} {x : DataW H × List MemPlace},
    DataW.trod enc P w base spare held fuel t cs = some x → (∀ n ∈ x.1.weights P t, n ≤ reachBytes) → ∃ a : El ty, Rd (fun b => b < w.heap.size) w ty a cs ∧ Gd ty a

theorem Opens.int {P : Program} {t : TypeId} {k : IntKind} (ht : P.underlying t = some (.int k)) (hc : P.cellsOf t = 1) : Opens P t (.int k) :=
  ⟨hc, fun h _ => by
    obtain ⟨n, rfl, _, hw⟩ := DataW.trod_int ht h
    exact ⟨n, rfl, hw⟩⟩
theorem Opens.bool {P : Program} {t : TypeId} (ht : P.underlying t = some .bool) (hc : P.cellsOf t = 1) : Opens P t .bool :=
  ⟨hc, fun h _ => by
    obtain ⟨n, rfl, _⟩ := DataW.trod_bool ht h
    exact ⟨n, rfl, trivial⟩⟩
theorem Opens.string {P : Program} {t : TypeId} (ht : P.underlying t = some .string) (hc : P.cellsOf t = 1) : Opens P t .str :=
  ⟨hc, fun h hs => by
    obtain ⟨s, rfl, rfl, _⟩ := DataW.trod_string ht h
    refine ⟨s, rfl, ?_⟩
    have := hs s.data.toList.length (by simp [DataW.weights])
    unfold reachBytes at this
    rw [Array.length_toList] at this
    exact this⟩

theorem cells_get {w : World} {base : Nat} {a : Addr} {n : Nat} {c : List Value} (h : w.cells? base a n = some c) : c.length = n ∧ ∀ i u, c[i]? = some u → w.cell? (a.add i) = some u := by
  unfold World.cells? at h
  split at h
  · have hl := mapM_some_length h
    refine ⟨by simpa using hl, fun i u hu => ?_⟩
    have hi : i < n := by
      have := (List.getElem?_eq_some_iff.1 hu).1
      rw [hl] at this
      simpa using this
    rw [mapM_some_get h i i (by simp [hi])]
    exact hu
  · cases h

theorem weightsAll_mem {H : Type} {P : Program} {e : TypeId} : ∀ {l : List (DataW H)} {d : DataW H}, d ∈ l → ∀ n ∈ d.weights P e, n ∈ DataW.weightsAll P e l
  | d0 :: l, d, hd, n, hn => by
    simp only [DataW.weightsAll, List.mem_append]
    rcases List.mem_cons.1 hd with rfl | hd
    · exact .inl hn
    · exact .inr (weightsAll_mem hd n hn)
  | [], _, hd, _, _ => by simp at hd

theorem add_add_addr (a : Addr) (i j : Nat) : (a.add i).add j = a.add (i + j) := by
  by_cases hi : i = 0 <;> by_cases hj : j = 0 <;> simp [Addr.add, hi, hj, Nat.add_assoc]

theorem Opens.slice {P : Program} {t e : TypeId} {ty : Ty} (hd : Opens P e ty) (ht : P.underlying t = some (.slice e)) (hc : P.cellsOf t = 1) (hB : 0 < P.bytesOf e) : Opens P t (.sl ty) := by
  refine ⟨hc, fun {H enc w base spare held fuel cs x} h hs => ?_⟩
  rcases DataW.trod_slice ht h with ⟨rfl, rfl⟩ | ⟨a, len, cap, elems, rest, n, rfl, rfl, rfl, hb, hl, hcap, hel, hget, -, -⟩
  · exact ⟨[], ⟨none, 0, rfl, Nat.le_refl _, by simp, fun i x hx => by simp at hx⟩, by simp, by simp⟩
  · have hsz : (elems.length + rest.length) * P.bytesOf e ≤ reachBytes := hs ((elems.length + rest.length) * P.bytesOf e) (by simp [DataW.weights, ht])
    have hin : ∀ y ∈ elems, ∀ n ∈ y.1.weights P e, n ≤ reachBytes := fun y hy n hn => hs n (by
      simp only [DataW.weights, ht, List.mem_cons, List.mem_append]
      exact .inr (.inl (weightsAll_mem (List.mem_map_of_mem hy) n hn)))
    have hall : ∀ i, i < len → ∃ (b : El ty) (c : List Value), c.length = sz ty ∧ Rd (fun b => b < w.heap.size) w ty b c ∧ Gd ty b ∧ ∀ j u, c[j]? = some u → w.cell? (a.add (i * sz ty + j)) = some u := by
      intro i hi
      have h1 := hget i hi
      have hlt : i < elems.length := by omega
      rw [List.getElem?_eq_getElem hlt] at h1
      obtain ⟨c, hc1, hc2⟩ := Option.bind_eq_some_iff.1 h1
      obtain ⟨b, hb1, hb2⟩ := hd.2 hc2 (hin _ (List.getElem_mem hlt))
      obtain ⟨hlen, hcell⟩ := cells_get hc1
      refine ⟨b, c, by rw [hlen, hd.1], hb1, hb2, fun j u hu => ?_⟩
      have := hcell j u hu
      rw [add_add_addr, hd.1] at this
      exact this
    have hlist : ∀ m, m ≤ len → ∃ xs : List (El ty), xs.length = m ∧ (∀ x ∈ xs, Gd ty x) ∧ ∀ (j : Nat) (p : El ty), xs[j]? = some p → ∃ c, c.length = sz ty ∧ Rd (fun b => b < w.heap.size) w ty p c ∧ ∀ i u, c[i]? = some u → w.cell? (a.add (j * sz ty + i)) = some u := by
      intro m
      induction m with
      | zero => intro _; exact ⟨[], rfl, by simp, fun j p hj => by simp at hj⟩
      | succ m ih =>
        intro hm
        obtain ⟨xs, h1, h2, h3⟩ := ih (by omega)
        obtain ⟨b, c, hb1, hb2, hb3, hb4⟩ := hall m (by omega)
        refine ⟨xs ++ [b], by simp [h1], ?_, fun j p hj => ?_⟩
        · intro x hx
          rcases List.mem_append.1 hx with hx | hx
          · exact h2 x hx
          · rw [List.mem_singleton.1 hx]; exact hb3
        · rcases Nat.lt_or_ge j m with hlt | hge
          · rw [List.getElem?_append_left (by omega)] at hj
            exact h3 j p hj
          · have hjm : j = m := by
              have := (List.getElem?_eq_some_iff.1 hj).1
              rw [List.length_append, List.length_singleton] at this
              omega
            subst hjm
            rw [← h1, List.getElem?_concat_length] at hj
            injection hj with hj
            subst hj
            exact ⟨c, hb1, hb2, hb4⟩
    obtain ⟨xs, h1, h2, h3⟩ := hlist len (Nat.le_refl _)
    have hmax : maxLen ≤ 9223372036854775807 := by unfold maxLen; omega
    unfold reachBytes at hsz
    have hlen : xs.length ≤ 140737488351232 := by
      refine Nat.le_trans ?_ hsz
      rw [h1]
      exact Nat.le_trans (by omega) (Nat.le_mul_of_pos_right _ hB)
    have hplain : 0 < xs.length → a = ⟨a.block, a.off, none⟩ ∧ a.block < w.heap.size := by
      intro h0
      obtain ⟨c, hc1, hc2, hc3⟩ := h3 0 xs[0] (by simp [h0])
      have hp : 0 < c.length := by rw [hc1]; exact sz_pos ty
      have hcell := hc3 0 c[0] (by simp [hp])
      have e0 : a.add (0 * sz ty + 0) = a := by simp [Addr.add]
      rw [e0] at hcell
      have hs : a.spot = none := by
        unfold World.cell? at hcell
        split at hcell
        · split at hcell
          · cases hcell
          · rename_i hs; simpa using hs
        · cases hcell
      exact ⟨by cases a; simp at hs; rw [hs], World.block_lt_of_cell? w a hcell⟩
    refine ⟨xs, ⟨some a, cap, by rw [h1], by omega, by omega, fun i x hx => ?_⟩, hlen, h2⟩
    obtain ⟨c, hc1, hc2, hc3⟩ := h3 i x hx
    obtain ⟨ha, hblt⟩ := hplain (by have := (List.getElem?_eq_some_iff.1 hx).1; omega)
    refine ⟨a.block, a.off, c, congrArg some ha, hblt, hblt, hc2, fun j u hu => ?_⟩
    have h5 := hc3 j u hu
    rw [ha, add_none] at h5
    rw [Nat.add_assoc]
    exact h5

structure OpensFs (P : Program) (fs : List Field) (off : Nat) (ty : Ty) : Prop where
  out : ∀ {H : Type} {enc : TypeId × Value → H} {w : World} {base : Nat} {spare : Nat → Bool} {held : Bool} {fuel : Nat} {cs : List Value} {xs : List (DataW H × List MemPlace)}, cs.length = off + sz ty → xs.length = fs.length →
    (∀ (i : Nat) (f : Field), fs[i]? = some f → DataW.trod enc P w base spare held fuel f.type ((cs.drop f.offset).take (P.cellsOf f.type)) = xs[i]?) →
    (∀ n ∈ DataW.weightsEach P (fs.map (·.type)) (xs.map (·.1)), n ≤ reachBytes) → ∃ a : El ty, Rd (fun b => b < w.heap.size) w ty a (cs.drop off) ∧ Gd ty a

theorem OpensFs.one {P : Program} {f : Field} {off : Nat} {ty : Ty} (ho : f.offset = off) (h : Opens P f.type ty) : OpensFs P [f] off ty := by
  constructor
  intro H enc w base spare held fuel cs xs hcs hxs hget hw
  obtain ⟨x, rfl⟩ : ∃ x, xs = [x] := by
    match xs, hxs with
    | [x], _ => exact ⟨x, rfl⟩
  have h1 := hget 0 f rfl
  obtain ⟨a, ha, hg⟩ := h.2 (x := x) h1 (fun n hn => hw n (by simp only [List.map_cons, DataW.weightsEach, List.mem_append]; exact .inl hn))
  refine ⟨a, ?_, hg⟩
  rw [ho, h.1, List.take_of_length_le (by rw [List.length_drop]; omega)] at ha
  exact ha

theorem OpensFs.cons {P : Program} {f : Field} {fs : List Field} {off : Nat} {a b : Ty} (ho : f.offset = off) (h : Opens P f.type a) (hr : OpensFs P fs (off + sz a) b) : OpensFs P (f :: fs) off (.pair a b) := by
  constructor
  intro H enc w base spare held fuel cs xs hcs hxs hget hw
  obtain ⟨x, ys, rfl⟩ : ∃ x ys, xs = x :: ys := by
    match xs, hxs with
    | x :: ys, _ => exact ⟨x, ys, rfl⟩
  have hsz : sz (.pair a b) = sz a + sz b := rfl
  obtain ⟨u, hu, gu⟩ := h.2 (x := x) (hget 0 f rfl) (fun n hn => hw n (by simp only [List.map_cons, DataW.weightsEach, List.mem_append]; exact .inl hn))
  obtain ⟨v, hv, gv⟩ := hr.out (cs := cs) (xs := ys) (by omega) (by simpa using hxs) (fun i f hf => by have := hget (i + 1) f (by simpa using hf); simpa using this) (fun n hn => hw n (by simp only [List.map_cons, DataW.weightsEach, List.mem_append]; exact .inr hn))
  refine ⟨(u, v), ⟨(cs.drop off).take (sz a), cs.drop (off + sz a), ?_, ?_, hv⟩, gu, gv⟩
  · rw [← List.drop_drop, List.take_append_drop]
  · rw [ho, h.1] at hu
    exact hu

theorem Opens.struct {P : Program} {t : TypeId} {fs : Array Field} {ty : Ty} (ht : P.underlying t = some (.struct fs)) (hc : P.cellsOf t = sz ty) (h : OpensFs P fs.toList 0 ty) : Opens P t ty := by
  refine ⟨hc, fun {H enc w base spare held fuel cs x} hx hs => ?_⟩
  obtain ⟨xs, n, rfl, rfl, hl, hn, hget⟩ := DataW.trod_struct ht hx
  have := h.out (enc := enc) (w := w) (base := base) (spare := spare) (held := held) (fuel := n) (cs := cs) (xs := xs) (by omega) (by simpa using hn) (fun i f hf => hget i f (by simpa using hf)) (fun m hm => hs m (by simpa [DataW.weights, ht] using hm))
  simpa using this

theorem okFs_ok {P : Program} {ok : TypeId → Ty → Bool} {cells : TypeId → Nat} (h : ∀ t ty, ok t ty = true → Opens P t ty) : ∀ {fs : List Field} {off : Nat} {ty : Ty}, okTy.okFs ok cells fs off ty = true → OpensFs P fs off ty
  | [], off, ty, hk => by cases hk
  | [f], off, ty, hk => by
    simp only [okTy.okFs, Bool.and_eq_true] at hk
    exact OpensFs.one (Nat.eq_of_beq_eq_true hk.1) (h _ _ hk.2)
  | f :: g :: fs, off, ty, hk => by
    cases ty with
    | pair a b =>
      simp only [okTy.okFs, Bool.and_eq_true] at hk
      exact OpensFs.cons (Nat.eq_of_beq_eq_true hk.1.1) (h _ _ hk.1.2) (okFs_ok h hk.2)
    | _ => simp [okTy.okFs] at hk

theorem okTy_ok {P : Program} : ∀ {n : Nat} {t : TypeId} {ty : Ty}, okTy P n t ty = true → Opens P t ty
  | 0, t, ty, h => by cases h
  | n + 1, t, ty, h => by
    simp only [okTy] at h
    split at h
    · rename_i k hu
      split at h
      · simp only [Bool.and_eq_true, decide_eq_true_eq] at h
        obtain ⟨rfl, h2⟩ := h
        exact Opens.int hu (Nat.eq_of_beq_eq_true h2)
      · cases h
    · rename_i hu
      split at h
      · exact Opens.bool hu (Nat.eq_of_beq_eq_true h)
      · cases h
    · rename_i hu
      split at h
      · exact Opens.string hu (Nat.eq_of_beq_eq_true h)
      · cases h
    · rename_i e hu
      split at h
      · simp only [Bool.and_eq_true, decide_eq_true_eq] at h
        exact Opens.slice (okTy_ok h.2) hu (Nat.eq_of_beq_eq_true h.1.1) h.1.2
      · cases h
    · rename_i fs hu
      simp only [Bool.and_eq_true] at h
      exact Opens.struct hu (Nat.eq_of_beq_eq_true h.1) (okFs_ok (fun t ty h => okTy_ok h) h.2)
    · cases h

theorem weigh {H : Type} {P : Program} {ts : List TypeId} {ds : List (DataW H)} (h : (DataW.weightsEach P ts ds).all (· ≤ reachBytes) = true) {j : Nat} {t : TypeId} {d : DataW H} (ht : ts[j]? = some t) (hd : ds[j]? = some d) : ∀ n ∈ d.weights P t, n ≤ reachBytes := by
  intro n hn
  simpa using List.all_eq_true.1 h n (DataW.weights_mem_each ht hd n hn)

theorem open_agg {P : Program} {t : TypeId} {fs : Array Field} {ty : Ty} (h : okTy P 20 t ty = true) (ht : P.underlying t = some (.struct fs)) {H : Type} {enc : TypeId × Value → H} {w : World} {r : Reach} {b0 base : Nat} {spare : Nat → Bool} {held : Bool} {v : Value} {D : DataW H} {p : List MemPlace}
    (hv : Value.okWide P w r b0 t v) (ho : DataW.Trod enc P w base spare held t v D p) (hs : ∀ n ∈ D.weights P t, n ≤ reachBytes) : ∃ a : El ty, VOK (fun _ => undef) (fun b => b < w.heap.size) w (.agg (cellsOf ty a)) v ∧ Gd ty a := by
  obtain ⟨cs, rfl, hsz⟩ := okWide_struct ht hv
  obtain ⟨fuel, hf⟩ := ho
  obtain ⟨a, ha, hg⟩ := (okTy_ok h).2 hf hs
  exact ⟨a, ⟨cs.toList, by simp, Rd.cells (by simpa [Value.cells] using ha)⟩, hg⟩
theorem open_row {P : Program} {t e : TypeId} {ty : Ty} (h : okTy P 20 t (.sl ty) = true) (ht : P.underlying t = some (.slice e)) {H : Type} {enc : TypeId × Value → H} {w : World} {r : Reach} {b0 base : Nat} {spare : Nat → Bool} {held : Bool} {v : Value} {D : DataW H} {p : List MemPlace}
    (hv : Value.okWide P w r b0 t v) (ho : DataW.Trod enc P w base spare held t v D p) (hs : ∀ n ∈ D.weights P t, n ≤ reachBytes) : ∃ l : List (El ty), VOK (fun _ => undef) (fun b => b < w.heap.size) w (.row ty l) v ∧ Gd (.sl ty) l := by
  obtain ⟨A0, n0, c0, rfl⟩ := okWide_slice ht hv
  obtain ⟨fuel, hf⟩ := ho
  obtain ⟨a, ha, hg⟩ := (okTy_ok h).2 hf hs
  exact ⟨a, by simpa [Value.cells, VOK] using ha, hg⟩
theorem open_i {P : Program} {t : TypeId} {k : IntKind} (ht : P.underlying t = some (.int k)) {H : Type} {enc : TypeId × Value → H} {w : World} {r : Reach} {b0 base : Nat} {spare : Nat → Bool} {held : Bool} {v : Value} {D : DataW H} {p : List MemPlace}
    (hv : Value.okWide P w r b0 t v) (ho : DataW.Trod enc P w base spare held t v D p) : ∃ n : Int, VOK (fun _ => undef) (fun b => b < w.heap.size) w (I k n) v ∧ (Lit.int k n).wf = true := by
  obtain ⟨a, rfl, rfl, rfl, hw⟩ := Go.ChangeShapes.open_int ht hv ho
  exact ⟨a, rfl, hw⟩
end Go.Proofs.YtgkmfhmodojdcaaE

namespace Go.Proofs.YtgkmfhmodojdcaaE
open Go
set_option linter.unusedVariables false

structure Ad (α : Type) where
  k : List AV → Option α
  f : α → List AV
  ok : ∀ {args : List AV} {x : α} {μ μ' : Nat → Value} {S : Nat → Prop} {w : World} {vs : List Value}, k args = some x → VsOK μ S w args vs → VsOK μ' S w (f x) vs
def adNil : Ad Unit where
  k := fun l => match l with
    | [] => some ()
    | _ => none
  f := fun _ => []
  ok := by
    intro args x μ μ' S w vs h hv
    split at h
    · exact hv
    · cases h
def adOne {α : Type} (s : Sd α) : Ad α where
  k := fun l => match l with
    | [a] => s.k a
    | _ => none
  f := fun x => [s.f x]
  ok := by
    intro args x μ μ' S w vs h hv
    split at h
    · obtain ⟨u, us, rfl, h1, h2⟩ := hv
      exact ⟨u, us, rfl, s.ok h h1, h2⟩
    · cases h
def adCons {α β : Type} (s : Sd α) (t : Ad β) : Ad (α × β) where
  k := fun l => match l with
    | a :: l => (s.k a).bind fun x => (t.k l).bind fun y => some (x, y)
    | _ => none
  f := fun x => s.f x.1 :: t.f x.2
  ok := by
    intro args x μ μ' S w vs h hv
    split at h
    · obtain ⟨u, us, rfl, h1, h2⟩ := hv
      obtain ⟨y, h3, h⟩ := Option.bind_eq_some_iff.1 h
      obtain ⟨z, h4, h⟩ := Option.bind_eq_some_iff.1 h
      cases h
      exact ⟨u, us, rfl, s.ok h3 h1, t.ok h4 h2⟩
    · cases h
def sdFn {α : Type} (f : FuncId) (t : Ad α) : Sd α where
  k := fun a => match a with
    | .fn g l => match Nat.beq g f with
      | true => t.k l
      | false => none
    | _ => none
  f := fun x => .fn f (t.f x)
  ok := by
    intro av x μ μ' S w v h hv
    split at h
    · split at h
      · rename_i hb
        cases Nat.eq_of_beq_eq_true hb
        obtain ⟨us, rfl, h1⟩ := hv
        exact ⟨us, rfl, t.ok h h1⟩
      · cases h
    · cases h
def row {α β : Type} (ad : Ad α) (d : Dec β) (F : α → Option β) : List AV → Option Out := fun args => match ad.k args with
  | some x => out d (F x)
  | none => none
theorem row_ok {D : Prop} {P : Program} {g : FuncId} {α β : Type} {ad : Ad α} {d : Dec β} {F : α → Option β} (h : ∀ x r, F x = some r → Has D P g (ad.f x) d r) : RowOK D P g (row ad d F) := by
  intro args o ho
  unfold row at ho
  split at ho
  · rename_i x hx
    cases ho
    exact ⟨β, d, F x, rfl, fun r hr S w vals hS hV => h x r hr S w vals hS (ad.ok hx hV)⟩
  · cases ho
def rowW {α : Type} (t : Ty) (ad : Ad α) (F : α → List (El t) → Option (List (El t))) (ret : Bool) : (t' : Ty) → List (El t') → List AV → Option (OutW t') := fun t' l args =>
  if h : t'.eq t = true then match ad.k args with
    | some x => some ⟨(Ty.of_eq h).symm ▸ F x (Ty.of_eq h ▸ l), ret⟩
    | none => none
  else none
theorem rowW_ok {D : Prop} {P : Program} {g : FuncId} {α : Type} {t : Ty} {ad : Ad α} {F : α → List (El t) → Option (List (El t))} {ret : Bool} (h : ∀ x l r, F x l = some r → WHas D P g t l r (ad.f x) ret) : RowW D P g (rowW t ad F ret) := by
  intro t' l args out l' ho hl'
  unfold rowW at ho
  split at ho
  · rename_i he
    split at ho
    · rename_i x hx
      cases ho
      cases Ty.of_eq he
      intro S w v vals e hS hB hv hV
      exact h x l l' hl' S w v vals e hS hB hv (ad.ok hx hV)
    · cases ho
  · cases ho
theorem enters_of {P : Program} {g : FuncId} {fn : Func} (hf : P.funcs[g]? = some fn) (hn : (fn.name == "runtime.NumGoroutine") = false) (hb : fn.body.isNone = false) : Enters P g := by
  intro vals w
  have hn' : fn.name ≠ "runtime.NumGoroutine" := by simpa using hn
  have hb' : fn.body ≠ none := by
    intro h
    rw [h] at hb
    cases hb
  simp [callFunc, go_sem, hf, hn', hb']
end Go.Proofs.YtgkmfhmodojdcaaE

namespace Go.Proofs.YtgkmfhmodojdcaaE
open Go Go.RowKit Go.WideShapes
set_option linter.unusedVariables false
theorem law_calls {D : Prop} {P : Program} {g : FuncId} {args : List AV} {d : Dec Bool} (hd : d.f true = fun _ => B true) (h : Has D P g args d true) {W : World} {vs : List Value} (hv : VsOK (fun _ => undef) (fun b => b < W.heap.size) W args vs) :
    Calls P g vs.toArray W fun e W' => e = .returned (.bool true) ∧ RowKit.Below W.heap.size W W' := by
  refine (h (fun b => b < W.heap.size) W vs (fun b hb => hb) hv).mono ?_
  rintro e w' ⟨v, u, S', rfl, hB, _, _, h1, _⟩
  have := h1 0
  rw [hd] at this
  have hv : v = .bool true := this
  exact ⟨by rw [hv], hB.toBelow⟩
end Go.Proofs.YtgkmfhmodojdcaaE

namespace Go.Proofs.YtgkmfhmodojdcaaE
open Go
set_option linter.unusedVariables false

theorem i64_in {x : Int} (h0 : -9223372036854775808 ≤ x) (h1 : x ≤ 9223372036854775807) : IntKind.i64.wrap x = x := by rw [IntKind.wrap_i64]; omega
theorem u64_in {x : Int} (h0 : 0 ≤ x) (h1 : x ≤ 18446744073709551615) : IntKind.u64.wrap x = x := by rw [IntKind.wrap_u64]; omega
theorem u32_in {x : Int} (h0 : 0 ≤ x) (h1 : x ≤ 4294967295) : IntKind.u32.wrap x = x := by rw [IntKind.wrap_u32]; omega
theorem wf_i64 {x : Int} (h : (Lit.int .i64 x).wf = true) : -9223372036854775808 ≤ x ∧ x ≤ 9223372036854775807 := by
  simpa [Lit.wf, IntKind.min, IntKind.max, IntKind.signed, IntKind.bits] using h
theorem wf_u32 {x : Int} (h : (Lit.int .u32 x).wf = true) : 0 ≤ x ∧ x ≤ 4294967295 := by
  simpa [Lit.wf, IntKind.min, IntKind.max, IntKind.signed, IntKind.bits] using h
theorem wf_u16 {x : Int} (h : (Lit.int .u16 x).wf = true) : 0 ≤ x ∧ x ≤ 65535 := by
  simpa [Lit.wf, IntKind.min, IntKind.max, IntKind.signed, IntKind.bits] using h
section
variable {α : Type} {l pre xs : List α} {x z : α}
theorem mid (e : l = pre ++ x :: xs) (z : α) (hl : l.length ≤ 140737488355328) :
    decide ((pre.length : Int) < (l.length : Int)) = true ∧ decide ((0 : Int) ≤ (pre.length : Int) ∧ (pre.length : Int) < (l.length : Int)) = true ∧
      l.getD ((pre.length : Int)).toNat z = x ∧ IntKind.i64.wrap ((pre.length : Int) + (1 : Int)) = ((pre ++ [x]).length : Int) ∧ l = (pre ++ [x]) ++ xs ∧ (pre.length : Int) < (l.length : Int) := by
  subst e
  have h : (pre ++ x :: xs).length = pre.length + (xs.length + 1) := by simp
  rw [h] at hl ⊢
  refine ⟨by simp; omega, by simp; omega, by simp, ?_, by simp, by omega⟩
  rw [i64_in (by omega) (by omega)]
  simp
theorem fin (e : l = pre ++ []) : decide ((pre.length : Int) < (l.length : Int)) = false ∧ pre = l := by
  subst e
  simp
end

theorem getD_lt {α : Type} {l : List α} {i : Nat} {z : α} (h : i < l.length) : l.getD i z = l[i] := by simp [List.getD_eq_getElem?_getD, h]

end Go.Proofs.YtgkmfhmodojdcaaE

namespace Go.Proofs.YtgkmfhmodojdcaaE
open Go Go.Proofs
set_option linter.unusedVariables false

def encT : (t : Ty) → El t → List Value
  | .int k, x => [.int k x]
  | .bool, x => [.bool x]
  | .str, x => [.string x]
  | .sl _, _ => []
  | .pair a b, x => encT a x.1 ++ encT b x.2
theorem encT_len : ∀ {t : Ty} (x : El t), flatT t = true → (encT t x).length = sz t
  | .int k, x, _ => rfl
  | .bool, x, _ => rfl
  | .str, x, _ => rfl
  | .sl _, x, h => by simp [flatT] at h
  | .pair a b, x, h => by
    simp only [flatT, Bool.and_eq_true] at h
    simp [encT, encT_len x.1 h.1, encT_len x.2 h.2, sz]
theorem encT_one : ∀ {t : Ty} (x : El t), ∀ v ∈ encT t x, v.oneCell' = true
  | .int k, x, v, h => by simp [encT] at h; rw [h]; rfl
  | .bool, x, v, h => by simp [encT] at h; rw [h]; rfl
  | .str, x, v, h => by simp [encT] at h; rw [h]; rfl
  | .sl _, x, v, h => by simp [encT] at h
  | .pair a b, x, v, h => by
    rcases List.mem_append.1 h with h | h
    · exact encT_one _ v h
    · exact encT_one _ v h
theorem Rd_enc {S : Nat → Prop} {w : World} : ∀ {t : Ty} {x : El t} {cs : List Value}, flatT t = true → Rd S w t x cs → cs = encT t x
  | .int k, x, cs, _, h => h
  | .bool, x, cs, _, h => h
  | .str, x, cs, _, h => h
  | .sl _, x, cs, h, _ => by simp [flatT] at h
  | .pair a b, x, cs, hf, h => by
    simp only [flatT, Bool.and_eq_true] at hf
    obtain ⟨c1, c2, rfl, h1, h2⟩ := h
    rw [Rd_enc hf.1 h1, Rd_enc hf.2 h2]
    rfl
theorem enc_Rd {S : Nat → Prop} {w : World} : ∀ {t : Ty} (x : El t), flatT t = true → Rd S w t x (encT t x)
  | .int k, x, _ => rfl
  | .bool, x, _ => rfl
  | .str, x, _ => rfl
  | .sl _, x, h => by simp [flatT] at h
  | .pair a b, x, hf => by
    simp only [flatT, Bool.and_eq_true] at hf
    exact ⟨_, _, rfl, enc_Rd x.1 hf.1, enc_Rd x.2 hf.2⟩
theorem RdL_enc {S : Nat → Prop} {w : World} {t : Ty} (hf : flatT t = true) : ∀ {l : List (El t)} {us : List Value}, RdL S w t l us → us = l.flatMap (encT t)
  | [], us, h => h
  | x :: l, us, h => by
    obtain ⟨c1, c2, rfl, h1, h2⟩ := h
    rw [Rd_enc hf h1, RdL_enc hf h2]
    rfl
theorem enc_RdL {S : Nat → Prop} {w : World} {t : Ty} (hf : flatT t = true) : ∀ (l : List (El t)), RdL S w t l (l.flatMap (encT t))
  | [] => rfl
  | x :: l => ⟨_, _, rfl, enc_Rd x hf, enc_RdL hf l⟩

section
variable {α : Type} [Inhabited α]
theorem get_flat (enc : α → List Value) (k : Nat) (hk : ∀ x, (enc x).length = k) (k0 : 0 < k) : ∀ (l : List α) (j : Nat), j < l.length * k → (l.flatMap enc)[j]? = some ((enc (l.toArray[j / k]!))[j % k]!)
  | [], j, h => by simp at h
  | x :: l, j, h => by
    rw [List.flatMap_cons]
    by_cases hj : j < k
    · rw [List.getElem?_append_left (by rw [hk]; exact hj), Nat.div_eq_of_lt hj, Nat.mod_eq_of_lt hj]
      have : j < (enc x).length := by rw [hk]; exact hj
      simp [this]
    · have h1 : j - k < l.length * k := by
        rw [List.length_cons, Nat.add_mul, Nat.one_mul] at h
        omega
      rw [List.getElem?_append_right (by rw [hk]; omega), hk, get_flat enc k hk k0 l (j - k) h1]
      have e1 : j / k = (j - k) / k + 1 := by
        have : j = (j - k) + k := by omega
        rw [this, Nat.add_div_right _ k0]
        simp
      have e2 : j % k = (j - k) % k := by
        have : j = (j - k) + k := by omega
        rw [this, Nat.add_mod_right]
        simp
      rw [e1, e2]
      have h2 : (j - k) / k < l.length := Nat.div_lt_of_lt_mul (by rw [Nat.mul_comm]; exact h1)
      simp [h2]
theorem flatMap_len (enc : α → List Value) (k : Nat) (hk : ∀ x, (enc x).length = k) : ∀ l : List α, (l.flatMap enc).length = l.length * k
  | [] => by simp
  | x :: l => by rw [List.flatMap_cons, List.length_append, hk, flatMap_len enc k hk l, List.length_cons, Nat.add_mul, Nat.one_mul, Nat.add_comm]
theorem flatK_eq (enc : α → List Value) (k : Nat) (hk : ∀ x, (enc x).length = k) (k0 : 0 < k) (l : List α) : Sort.flatK enc k l.toArray = (l.flatMap enc).toArray := by
  refine Sort.ext_get! (by simp [flatMap_len enc k hk]) fun t ht => ?_
  have ht' : t < l.length * k := by simpa using ht
  rw [Sort.get_flatK _ _ _ _ (by simpa using ht')]
  have := get_flat enc k hk k0 l t ht'
  simp only [Array.getElem!_eq_getD, Array.getD_eq_getD_getElem?, List.getElem?_toArray, this, Option.getD_some]

theorem putCells_front (F : List Value) (c : List Value) (h : F.length ≤ c.length) : Sort.putCells id 0 F.toArray c.toArray = (F ++ c.drop F.length).toArray := by
  apply Array.ext'
  apply List.ext_getElem?
  intro j
  simp only [Sort.putCells, Array.toList_mapIdx, List.getElem?_mapIdx, Nat.zero_le, true_and, Nat.zero_add, Nat.sub_zero, id]
  by_cases hj : j < F.length
  · rw [List.getElem?_append_left hj]
    have : j < c.length := by omega
    simp [hj, this]
  · rw [List.getElem?_append_right (by omega), List.getElem?_drop]
    have e : F.length + (j - F.length) = j := by omega
    rw [e]
    cases hc : c[j]? with
    | none => simp [hc]
    | some v => simp [hc, hj]
end

instance (t : Ty) : Inhabited (El t) := ⟨zEl t⟩

theorem sort_has {D : Prop} {P : Program} {g : FuncId} {t : Ty} {l l' : List (El t)} {args : List AV} (hf : flatT t = true) (hlen : l'.length = l.length)
    (hcall : ∀ (w : World) (b c : Nat) (S : Nat → Prop) (vals : List Value), (∀ b, S b → b < w.heap.size) → ¬ S b → Sort.HoldsK (encT t) (sz t) w b 0 l.toArray → b < w.heap.size → l.length ≤ c + 1 → c + 1 ≤ maxLen → VsOK (fun _ => undef) S w args vals →
      Calls P g (.slice (some ⟨b, 0, none⟩) l.length (c + 1) :: vals).toArray w fun e w' => e = .returned (.tuple #[]) ∧ ∃ n os, w' = sortWorldK (encT t) (sz t) w b 0 n l'.toArray os)
    (hnil : l = [] → ∀ (w : World) (A : Option Addr) (S : Nat → Prop) (vals : List Value), VsOK (fun _ => undef) S w args vals → Calls P g (.slice A 0 0 :: vals).toArray w fun e w' => e = .returned (.tuple #[]) ∧ Bel D w w') : WHas D P g t l l' args false := by
  intro S w v vals e hS hB hvS hV
  rcases hB with ⟨A, h1, h2⟩ | ⟨b, c, us, rest, h1, h2, h3, h4, h5, h6⟩
  · have h1' : v = .slice A 0 0 := h1
    subst h1'
    refine (hnil h2 w A S vals hV).mono ?_
    rintro ex w' ⟨rfl, hb⟩
    have : l' = [] := List.eq_nil_of_length_eq_zero (by rw [hlen, h2]; rfl)
    exact ⟨.slice A 0 0, S, rfl, fun _ => rfl, ⟨hb.os, hb.tape, hb.output, hb.size, hb.drawn, fun k hk _ => hb.block k hk⟩, fun b h => h, fun b h => ⟨.inl h, Nat.lt_of_lt_of_le (hS b h) hb.size⟩, .inl ⟨A, rfl, this⟩, fun b hb => by simp [bof] at hb⟩
  · have h1' : v = .slice (some ⟨b, 0, none⟩) l.length (c + 1) := h1
    subst h1'
    have hb : b < w.heap.size := (Array.getElem?_eq_some_iff.1 h4).1
    have hk : ∀ x, (encT t x).length = sz t := fun x => encT_len x hf
    have k0 := sz_pos t
    have hus := RdL_enc hf h6
    have hulen : us.length = l.length * sz t := by rw [hus]; exact flatMap_len _ _ hk l
    have hH : Sort.HoldsK (encT t) (sz t) w b 0 l.toArray := by
      intro j hj
      have hj' : j < l.length * sz t := by simpa using hj
      rw [flatK_eq _ _ hk k0]
      have hc := cellsAt_heap h4
      have hget : (us ++ rest)[j]? = some (us[j]'(by omega)) := by
        rw [List.getElem?_append_left (by omega), List.getElem?_eq_getElem]
      refine ⟨?_, by simp [World.frozen?, h4]⟩
      rw [hc j _ hget]
      subst hus
      have : j < (l.flatMap (encT t)).length := by omega
      simp only [Array.getElem!_eq_getD, Array.getD_eq_getD_getElem?, List.getElem?_toArray, List.getElem?_eq_getElem this, Option.getD_some, id]
    refine (hcall w b c S vals hS (hvS b rfl) hH hb h2 h3 hV).mono ?_
    rintro ex w' ⟨rfl, n, os, rfl⟩
    have hflen : (l'.flatMap (encT t)).length = us.length := by rw [flatMap_len _ _ hk, hlen, hulen]
    have hheap : ∀ k, k < w.heap.size → (sortWorldK (encT t) (sz t) w b 0 n l'.toArray os).heap[k]? = (if b = k then (w.heap[k]?).map (Sort.onCells (Sort.putCells id 0 (Sort.flatK (encT t) (sz t) l'.toArray))) else w.heap[k]?) := by
      intro k hk'
      show ((w.heap.modify b _) ++ os)[k]? = _
      rw [Array.getElem?_append_left (by simpa using hk'), Array.getElem?_modify]
    have hsz : w.heap.size ≤ (sortWorldK (encT t) (sz t) w b 0 n l'.toArray os).heap.size := by
      show w.heap.size ≤ ((w.heap.modify b _) ++ os).size
      simp
    refine ⟨.slice (some ⟨b, 0, none⟩) l.length (c + 1), S, rfl, fun _ => rfl, ⟨rfl, rfl, rfl, hsz, (fun _ => Nat.le_add_right _ _), ?_⟩, fun b h => h, fun k h => ⟨.inl h, Nat.lt_of_lt_of_le (hS k h) hsz⟩, .inr ⟨b, c, l'.flatMap (encT t), rest, by rw [hlen], by rw [hlen]; exact h2, h3, ?_, ?_, enc_RdL hf l'⟩, ?_⟩
    · intro k hk' hne
      have hne' : ¬ b = k := fun e => hne (by rw [e]; rfl)
      rw [hheap k hk', if_neg hne']
    · rw [hheap b hb, if_pos rfl, h4, flatK_eq _ _ hk k0]
      simp only [Option.map_some, Sort.onCells]
      rw [putCells_front _ _ (by rw [hflen, List.length_append]; omega), hflen, List.drop_left]
    · rw [List.length_append, hflen, ← List.length_append]; exact h5
    · intro k hk'
      exact ⟨.inl hk', hvS k hk'⟩

theorem bel_grow {W w' : World} (h : Bel True W w') : ∃ q os, w' = Sort.grow (W.drewN q) os := by
  refine ⟨w'.drawn - W.drawn, w'.heap.extract W.heap.size w'.heap.size, ?_⟩
  have hd := h.drawn trivial
  have hz := h.size
  have e1 : W.heap ++ w'.heap.extract W.heap.size w'.heap.size = w'.heap := by
    apply Array.ext'
    apply List.ext_getElem?
    intro j
    rw [Array.toList_append, Array.toList_extract]
    by_cases hj : j < W.heap.size
    · have := h.block j hj
      rw [List.getElem?_append_left (by simpa using hj), Array.getElem?_toList, Array.getElem?_toList, this]
    · rw [List.getElem?_append_right (by simpa using hj), List.extract_eq_take_drop, List.getElem?_take]
      have : W.heap.size + (j - W.heap.toList.length) = j := by simp; omega
      split
      · rw [List.getElem?_drop, this]
      · rename_i hn
        rw [List.getElem?_eq_none]
        simp at hn ⊢
        omega
  obtain ⟨b1, b2⟩ := h
  obtain ⟨o1, o2, o3, o4, o5⟩ := b1
  cases W with
  | mk heap tape drawn os out =>
    cases w' with
    | mk heap' tape' drawn' os' out' =>
      simp only at *
      subst o1; subst o2; subst o3
      have hdr : ∀ (n : Nat) (w : World), w.drewN n = { w with drawn := w.drawn + n } := by
        intro n
        induction n with
        | zero => intro w; rfl
        | succ n ih =>
          intro w
          simp only [World.drewN, ih, World.drew]
          try (congr 1; try omega)
      rw [hdr]
      simp only [Sort.grow]
      rw [e1]
      congr 1
      omega

theorem cells_enc {t : Ty} (hf : flatT t = true) {μ : Nat → Value} {S : Nat → Prop} {w : World} (x : El t) : VsOK μ S w (cellsOf t x) (encT t x) := Rd.cells (enc_Rd x hf)
theorem cmp_lays {P : Program} {g : FuncId} {t : Ty} {cf : El t → El t → Int} (hf : flatT t = true) (h : ∀ x y, Has True P g [.agg (cellsOf t x), .agg (cellsOf t y)] (dec1 (sdInt .i64)) (cf x y)) (blk off size : Nat) (w : World) : CmpLays P g #[] (encT t) (sz t) cf blk off size w := by
  intro m os dk _ x y
  refine (h x y (fun _ => False) (sortWorldK (encT t) (sz t) w blk off m dk os) [.agg (encT t x).toArray, .agg (encT t y).toArray] (fun _ h => h.elim) ⟨_, _, rfl, ⟨_, rfl, cells_enc hf x⟩, _, _, rfl, ⟨_, rfl, cells_enc hf y⟩, rfl⟩).mono ?_
  rintro e w' ⟨v, u, S', rfl, hb, _, _, hv, _⟩
  have hv0 : v = .int .i64 (cf x y) := hv 0
  exact ⟨by rw [hv0], bel_grow hb⟩
end Go.Proofs.YtgkmfhmodojdcaaE

