/- The engine, part 14: what comes in by a reading, told. -/
import Derived.Test.YtigekmmdflaeaaaDoorEng13
import Derived.ChangeArms
import Derived.WideShapes
import Derived.SizedLaws
import Derived.Tactics
set_option linter.all false
namespace Go.Proofs.YtigekmmdflaeaaaDoorE
open Go Go.RowKit Go.WideShapes
set_option linter.unusedVariables false

/-- What a row gives of data that came in: each number is of its kind, texts and rows are not too long. -/
def Gd : (t : Ty) → El t → Prop
  | .int k, x => (Lit.int k x).wf = true
  | .bool, _ => True
  | .str, s => s.size ≤ 140737488351232
  | .sl t, l => l.length ≤ 140737488351232 ∧ ∀ x ∈ l, Gd t x
  | .pair a b, x => Gd a x.1 ∧ Gd b x.2

/-- a type whose values are data of this kind (looked at, not proved) -/
def okTy (P : Program) : Nat → TypeId → Ty → Bool
  | 0, _, _ => false
  | n + 1, t, ty => match P.underlying t with
    | some (.int k) => match ty with
      | .int k' => decide (k = k') && Nat.beq (P.cellsOf t) 1
      | _ => false
    | some .bool => match ty with
      | .bool => Nat.beq (P.cellsOf t) 1
      | _ => false
    | some .string => match ty with
      | .str => Nat.beq (P.cellsOf t) 1
      | _ => false
    | some (.slice e) => match ty with
      | .sl a => Nat.beq (P.cellsOf t) 1 && decide (0 < P.bytesOf e) && okTy P n e a
      | _ => false
    | some (.struct fs) => Nat.beq (P.cellsOf t) (sz ty) && okFs (okTy P n) (P.cellsOf) fs.toList 0 ty
    | _ => false
where okFs (ok : TypeId → Ty → Bool) (cells : TypeId → Nat) : List Field → Nat → Ty → Bool
  | [], _, _ => false
  | [f], off, ty => Nat.beq f.offset off && ok f.type ty
  | f :: g :: fs, off, ty => match ty with
    | .pair a b => Nat.beq f.offset off && ok f.type a && okFs ok cells (g :: fs) (off + sz a) b
    | _ => false

/-- Whatever reads as data of type t is of kind ty, and good. -/
def Opens (P : Program) (t : TypeId) (ty : Ty) : Prop :=
  P.cellsOf t = sz ty ∧ ∀ {H : Type} {enc : TypeId × Value → H} {w : World} {base : Nat} {spare : Nat → Bool} {held : Bool} {fuel : Nat} {cs : List Value} {x : DataW H × List MemPlace},
    DataW.trod enc P w base spare held fuel t cs = some x → (∀ n ∈ x.1.weights P t, n ≤ reachBytes) → ∃ a : El ty, Rd (fun b => b < w.heap.size) w ty a cs ∧ Gd ty a

theorem Opens.int {P : Program} {t : TypeId} {k : IntKind} (ht : P.underlying t = some (.int k)) (hc : P.cellsOf t = 1) : Opens P t (.int k) :=
  ⟨hc, fun h _ => by
    obtain ⟨n, rfl, _, hw⟩ := DataW.trod_int ht h
    exact ⟨n, rfl, hw⟩⟩
theorem Opens.bool {P : Program} {t : TypeId} (ht : P.underlying t = some .bool) (hc : P.cellsOf t = 1) : Opens P t .bool :=
  ⟨hc, fun h _ => by
    obtain ⟨n, rfl, _⟩ := DataW.trod_bool ht h
    exact ⟨n, rfl, trivial⟩⟩
theorem Opens.string {P : Program} {t : TypeId} (ht : P.underlying t = some .string) (hc : P.cellsOf t = 1) : Opens P t .str :=
  ⟨hc, fun h hs => by
    obtain ⟨s, rfl, rfl, _⟩ := DataW.trod_string ht h
    refine ⟨s, rfl, ?_⟩
    have := hs s.data.toList.length (by simp [DataW.weights])
    unfold reachBytes at this
    rw [Array.length_toList] at this
    exact this⟩

theorem cells_get {w : World} {base : Nat} {a : Addr} {n : Nat} {c : List Value} (h : w.cells? base a n = some c) : c.length = n ∧ ∀ i u, c[i]? = some u → w.cell? (a.add i) = some u := by
  unfold World.cells? at h
  split at h
  · have hl := mapM_some_length h
    refine ⟨by simpa using hl, fun i u hu => ?_⟩
    have hi : i < n := by
      have := (List.getElem?_eq_some_iff.1 hu).1
      rw [hl] at this
      simpa using this
    rw [mapM_some_get h i i (by simp [hi])]
    exact hu
  · cases h

theorem weightsAll_mem {H : Type} {P : Program} {e : TypeId} : ∀ {l : List (DataW H)} {d : DataW H}, d ∈ l → ∀ n ∈ d.weights P e, n ∈ DataW.weightsAll P e l
  | d0 :: l, d, hd, n, hn => by
    simp only [DataW.weightsAll, List.mem_append]
    rcases List.mem_cons.1 hd with rfl | hd
    · exact .inl hn
    · exact .inr (weightsAll_mem hd n hn)
  | [], _, hd, _, _ => by simp at hd

theorem add_add_addr (a : Addr) (i j : Nat) : (a.add i).add j = a.add (i + j) := by
  by_cases hi : i = 0 <;> by_cases hj : j = 0 <;> simp [Addr.add, hi, hj, Nat.add_assoc]

/-- an address at which a cell lies is plain -/
theorem plain_of {w : World} {a : Addr} {n : Nat} {u : Value} (h : w.cell? (a.add n) = some u) (h0 : n = 0 → w.cell? a = some u) : (a.add n).spot = none := by
  unfold World.cell? at h
  split at h
  · split at h
    · cases h
    · rename_i hs; simpa using hs
  · cases h

theorem Opens.slice {P : Program} {t e : TypeId} {ty : Ty} (hd : Opens P e ty) (ht : P.underlying t = some (.slice e)) (hc : P.cellsOf t = 1) (hB : 0 < P.bytesOf e) : Opens P t (.sl ty) := by
  refine ⟨hc, fun {H enc w base spare held fuel cs x} h hs => ?_⟩
  rcases DataW.trod_slice ht h with ⟨rfl, rfl⟩ | ⟨a, len, cap, elems, rest, n, rfl, rfl, rfl, hb, hl, hcap, hel, hget, -, -⟩
  · exact ⟨[], ⟨none, 0, rfl, Nat.le_refl _, by simp, fun i x hx => by simp at hx⟩, by simp, by simp⟩
  · have hsz : (elems.length + rest.length) * P.bytesOf e ≤ reachBytes := hs ((elems.length + rest.length) * P.bytesOf e) (by simp [DataW.weights, ht])
    have hin : ∀ y ∈ elems, ∀ n ∈ y.1.weights P e, n ≤ reachBytes := fun y hy n hn => hs n (by
      simp only [DataW.weights, ht, List.mem_cons, List.mem_append]
      exact .inr (.inl (weightsAll_mem (List.mem_map_of_mem hy) n hn)))
    have hall : ∀ i, i < len → ∃ (b : El ty) (c : List Value), c.length = sz ty ∧ Rd (fun b => b < w.heap.size) w ty b c ∧ Gd ty b ∧ ∀ j u, c[j]? = some u → w.cell? (a.add (i * sz ty + j)) = some u := by
      intro i hi
      have h1 := hget i hi
      have hlt : i < elems.length := by omega
      rw [List.getElem?_eq_getElem hlt] at h1
      obtain ⟨c, hc1, hc2⟩ := Option.bind_eq_some_iff.1 h1
      obtain ⟨b, hb1, hb2⟩ := hd.2 hc2 (hin _ (List.getElem_mem hlt))
      obtain ⟨hlen, hcell⟩ := cells_get hc1
      refine ⟨b, c, by rw [hlen, hd.1], hb1, hb2, fun j u hu => ?_⟩
      have := hcell j u hu
      rw [add_add_addr, hd.1] at this
      exact this
    have hlist : ∀ m, m ≤ len → ∃ xs : List (El ty), xs.length = m ∧ (∀ x ∈ xs, Gd ty x) ∧ ∀ (j : Nat) (p : El ty), xs[j]? = some p → ∃ c, c.length = sz ty ∧ Rd (fun b => b < w.heap.size) w ty p c ∧ ∀ i u, c[i]? = some u → w.cell? (a.add (j * sz ty + i)) = some u := by
      intro m
      induction m with
      | zero => intro _; exact ⟨[], rfl, by simp, fun j p hj => by simp at hj⟩
      | succ m ih =>
        intro hm
        obtain ⟨xs, h1, h2, h3⟩ := ih (by omega)
        obtain ⟨b, c, hb1, hb2, hb3, hb4⟩ := hall m (by omega)
        refine ⟨xs ++ [b], by simp [h1], ?_, fun j p hj => ?_⟩
        · intro x hx
          rcases List.mem_append.1 hx with hx | hx
          · exact h2 x hx
          · rw [List.mem_singleton.1 hx]; exact hb3
        · rcases Nat.lt_or_ge j m with hlt | hge
          · rw [List.getElem?_append_left (by omega)] at hj
            exact h3 j p hj
          · have hjm : j = m := by
              have := (List.getElem?_eq_some_iff.1 hj).1
              rw [List.length_append, List.length_singleton] at this
              omega
            subst hjm
            rw [← h1, List.getElem?_concat_length] at hj
            injection hj with hj
            subst hj
            exact ⟨c, hb1, hb2, hb4⟩
    obtain ⟨xs, h1, h2, h3⟩ := hlist len (Nat.le_refl _)
    have hmax : maxLen ≤ 9223372036854775807 := by unfold maxLen; omega
    unfold reachBytes at hsz
    have hlen : xs.length ≤ 140737488351232 := by
      refine Nat.le_trans ?_ hsz
      rw [h1]
      exact Nat.le_trans (by omega) (Nat.le_mul_of_pos_right _ hB)
    -- the head of the row lies at a plain address
    have hplain : 0 < xs.length → a = ⟨a.block, a.off, none⟩ ∧ a.block < w.heap.size := by
      intro h0
      obtain ⟨c, hc1, hc2, hc3⟩ := h3 0 xs[0] (by simp [h0])
      have hp : 0 < c.length := by rw [hc1]; exact sz_pos ty
      have hcell := hc3 0 c[0] (by simp [hp])
      have e0 : a.add (0 * sz ty + 0) = a := by simp [Addr.add]
      rw [e0] at hcell
      have hs : a.spot = none := by
        unfold World.cell? at hcell
        split at hcell
        · split at hcell
          · cases hcell
          · rename_i hs; simpa using hs
        · cases hcell
      exact ⟨by cases a; simp at hs; rw [hs], World.block_lt_of_cell? w a hcell⟩
    refine ⟨xs, ⟨some a, cap, by rw [h1], by omega, by omega, fun i x hx => ?_⟩, hlen, h2⟩
    obtain ⟨c, hc1, hc2, hc3⟩ := h3 i x hx
    obtain ⟨ha, hblt⟩ := hplain (by have := (List.getElem?_eq_some_iff.1 hx).1; omega)
    refine ⟨a.block, a.off, c, congrArg some ha, hblt, hblt, hc2, fun j u hu => ?_⟩
    have h5 := hc3 j u hu
    rw [ha, add_none] at h5
    rw [Nat.add_assoc]
    exact h5

/-- The fields of a struct, from a place on. -/
structure OpensFs (P : Program) (fs : List Field) (off : Nat) (ty : Ty) : Prop where
  out : ∀ {H : Type} {enc : TypeId × Value → H} {w : World} {base : Nat} {spare : Nat → Bool} {held : Bool} {fuel : Nat} {cs : List Value} {xs : List (DataW H × List MemPlace)}, cs.length = off + sz ty → xs.length = fs.length →
    (∀ (i : Nat) (f : Field), fs[i]? = some f → DataW.trod enc P w base spare held fuel f.type ((cs.drop f.offset).take (P.cellsOf f.type)) = xs[i]?) →
    (∀ n ∈ DataW.weightsEach P (fs.map (·.type)) (xs.map (·.1)), n ≤ reachBytes) → ∃ a : El ty, Rd (fun b => b < w.heap.size) w ty a (cs.drop off) ∧ Gd ty a

theorem OpensFs.one {P : Program} {f : Field} {off : Nat} {ty : Ty} (ho : f.offset = off) (h : Opens P f.type ty) : OpensFs P [f] off ty := by
  constructor
  intro H enc w base spare held fuel cs xs hcs hxs hget hw
  obtain ⟨x, rfl⟩ : ∃ x, xs = [x] := by
    match xs, hxs with
    | [x], _ => exact ⟨x, rfl⟩
  have h1 := hget 0 f rfl
  obtain ⟨a, ha, hg⟩ := h.2 (x := x) h1 (fun n hn => hw n (by simp only [List.map_cons, DataW.weightsEach, List.mem_append]; exact .inl hn))
  refine ⟨a, ?_, hg⟩
  rw [ho, h.1, List.take_of_length_le (by rw [List.length_drop]; omega)] at ha
  exact ha

theorem OpensFs.cons {P : Program} {f : Field} {fs : List Field} {off : Nat} {a b : Ty} (ho : f.offset = off) (h : Opens P f.type a) (hr : OpensFs P fs (off + sz a) b) : OpensFs P (f :: fs) off (.pair a b) := by
  constructor
  intro H enc w base spare held fuel cs xs hcs hxs hget hw
  obtain ⟨x, ys, rfl⟩ : ∃ x ys, xs = x :: ys := by
    match xs, hxs with
    | x :: ys, _ => exact ⟨x, ys, rfl⟩
  have hsz : sz (.pair a b) = sz a + sz b := rfl
  obtain ⟨u, hu, gu⟩ := h.2 (x := x) (hget 0 f rfl) (fun n hn => hw n (by simp only [List.map_cons, DataW.weightsEach, List.mem_append]; exact .inl hn))
  obtain ⟨v, hv, gv⟩ := hr.out (cs := cs) (xs := ys) (by omega) (by simpa using hxs) (fun i f hf => by have := hget (i + 1) f (by simpa using hf); simpa using this) (fun n hn => hw n (by simp only [List.map_cons, DataW.weightsEach, List.mem_append]; exact .inr hn))
  refine ⟨(u, v), ⟨(cs.drop off).take (sz a), cs.drop (off + sz a), ?_, ?_, hv⟩, gu, gv⟩
  · rw [← List.drop_drop, List.take_append_drop]
  · rw [ho, h.1] at hu
    exact hu

theorem Opens.struct {P : Program} {t : TypeId} {fs : Array Field} {ty : Ty} (ht : P.underlying t = some (.struct fs)) (hc : P.cellsOf t = sz ty) (h : OpensFs P fs.toList 0 ty) : Opens P t ty := by
  refine ⟨hc, fun {H enc w base spare held fuel cs x} hx hs => ?_⟩
  obtain ⟨xs, n, rfl, rfl, hl, hn, hget⟩ := DataW.trod_struct ht hx
  have := h.out (enc := enc) (w := w) (base := base) (spare := spare) (held := held) (fuel := n) (cs := cs) (xs := xs) (by omega) (by simpa using hn) (fun i f hf => hget i f (by simpa using hf)) (fun m hm => hs m (by simpa [DataW.weights, ht] using hm))
  simpa using this

theorem okFs_ok {P : Program} {ok : TypeId → Ty → Bool} {cells : TypeId → Nat} (h : ∀ t ty, ok t ty = true → Opens P t ty) : ∀ {fs : List Field} {off : Nat} {ty : Ty}, okTy.okFs ok cells fs off ty = true → OpensFs P fs off ty
  | [], off, ty, hk => by cases hk
  | [f], off, ty, hk => by
    simp only [okTy.okFs, Bool.and_eq_true] at hk
    exact OpensFs.one (Nat.eq_of_beq_eq_true hk.1) (h _ _ hk.2)
  | f :: g :: fs, off, ty, hk => by
    cases ty with
    | pair a b =>
      simp only [okTy.okFs, Bool.and_eq_true] at hk
      exact OpensFs.cons (Nat.eq_of_beq_eq_true hk.1.1) (h _ _ hk.1.2) (okFs_ok h hk.2)
    | _ => simp [okTy.okFs] at hk

theorem okTy_ok {P : Program} : ∀ {n : Nat} {t : TypeId} {ty : Ty}, okTy P n t ty = true → Opens P t ty
  | 0, t, ty, h => by cases h
  | n + 1, t, ty, h => by
    simp only [okTy] at h
    split at h
    · rename_i k hu
      split at h
      · simp only [Bool.and_eq_true, decide_eq_true_eq] at h
        obtain ⟨rfl, h2⟩ := h
        exact Opens.int hu (Nat.eq_of_beq_eq_true h2)
      · cases h
    · rename_i hu
      split at h
      · exact Opens.bool hu (Nat.eq_of_beq_eq_true h)
      · cases h
    · rename_i hu
      split at h
      · exact Opens.string hu (Nat.eq_of_beq_eq_true h)
      · cases h
    · rename_i e hu
      split at h
      · simp only [Bool.and_eq_true, decide_eq_true_eq] at h
        exact Opens.slice (okTy_ok h.2) hu (Nat.eq_of_beq_eq_true h.1.1) h.1.2
      · cases h
    · rename_i fs hu
      simp only [Bool.and_eq_true] at h
      exact Opens.struct hu (Nat.eq_of_beq_eq_true h.1) (okFs_ok (fun t ty h => okTy_ok h) h.2)
    · cases h

/-- An argument's weights are among the row's. -/
theorem weigh {H : Type} {P : Program} {ts : List TypeId} {ds : List (DataW H)} (h : (DataW.weightsEach P ts ds).all (· ≤ reachBytes) = true) {j : Nat} {t : TypeId} {d : DataW H} (ht : ts[j]? = some t) (hd : ds[j]? = some d) : ∀ n ∈ d.weights P t, n ≤ reachBytes := by
  intro n hn
  simpa using List.all_eq_true.1 h n (DataW.weights_mem_each ht hd n hn)

/-- What an argument of this type is told as. -/
def avOf (P : Program) (t : TypeId) (ty : Ty) (x : El ty) : AV := match isAggT P t with
  | true => .agg (cellsOf ty x)
  | false => (cellsOf ty x).headD .top

/-- A struct that came in, by value. -/
theorem open_agg {P : Program} {t : TypeId} {fs : Array Field} {ty : Ty} (h : okTy P 20 t ty = true) (ht : P.underlying t = some (.struct fs)) {H : Type} {enc : TypeId × Value → H} {w : World} {r : Reach} {b0 base : Nat} {spare : Nat → Bool} {held : Bool} {v : Value} {D : DataW H} {p : List MemPlace}
    (hv : Value.okWide P w r b0 t v) (ho : DataW.Trod enc P w base spare held t v D p) (hs : ∀ n ∈ D.weights P t, n ≤ reachBytes) : ∃ a : El ty, VOK (fun _ => undef) (fun b => b < w.heap.size) w (.agg (cellsOf ty a)) v ∧ Gd ty a := by
  obtain ⟨cs, rfl, hsz⟩ := okWide_struct ht hv
  obtain ⟨fuel, hf⟩ := ho
  obtain ⟨a, ha, hg⟩ := (okTy_ok h).2 hf hs
  exact ⟨a, ⟨cs.toList, by simp, Rd.cells (by simpa [Value.cells] using ha)⟩, hg⟩
/-- A slice that came in. -/
theorem open_row {P : Program} {t e : TypeId} {ty : Ty} (h : okTy P 20 t (.sl ty) = true) (ht : P.underlying t = some (.slice e)) {H : Type} {enc : TypeId × Value → H} {w : World} {r : Reach} {b0 base : Nat} {spare : Nat → Bool} {held : Bool} {v : Value} {D : DataW H} {p : List MemPlace}
    (hv : Value.okWide P w r b0 t v) (ho : DataW.Trod enc P w base spare held t v D p) (hs : ∀ n ∈ D.weights P t, n ≤ reachBytes) : ∃ l : List (El ty), VOK (fun _ => undef) (fun b => b < w.heap.size) w (.row ty l) v ∧ Gd (.sl ty) l := by
  obtain ⟨A0, n0, c0, rfl⟩ := okWide_slice ht hv
  obtain ⟨fuel, hf⟩ := ho
  obtain ⟨a, ha, hg⟩ := (okTy_ok h).2 hf hs
  exact ⟨a, by simpa [Value.cells, VOK] using ha, hg⟩
theorem open_i {P : Program} {t : TypeId} {k : IntKind} (ht : P.underlying t = some (.int k)) {H : Type} {enc : TypeId × Value → H} {w : World} {r : Reach} {b0 base : Nat} {spare : Nat → Bool} {held : Bool} {v : Value} {D : DataW H} {p : List MemPlace}
    (hv : Value.okWide P w r b0 t v) (ho : DataW.Trod enc P w base spare held t v D p) : ∃ n : Int, VOK (fun _ => undef) (fun b => b < w.heap.size) w (I k n) v ∧ (Lit.int k n).wf = true := by
  obtain ⟨a, rfl, rfl, rfl, hw⟩ := Go.ChangeShapes.open_int ht hv ho
  exact ⟨a, rfl, hw⟩
end Go.Proofs.YtigekmmdflaeaaaDoorE
