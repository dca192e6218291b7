/- What came in by a reading, told by its kind: for each kind of value a lemma that a value which reads as data is of that kind, with the bounds that a row gives. -/
import Derived.Test.YtgkmfhmodojdcaaXWords
import Derived.ChangeArms
import Derived.WideShapes
import Derived.SizedLaws
import Derived.Tactics
namespace Go.Proofs.YtgkmfhmodojdcaaX
open Go.RowKit Go.WideShapes Go.Proofs.YtgkmfhmodojdcaaW.PrintWords

/-- Whatever reads as data of type t is of kind d, and good. -/
def Opens {α : Type} (P : Program) (t : TypeId) (d : Kd α) (G : α → Prop) : Prop :=
  P.cellsOf t = d.sz ∧ ∀ {H : Type} {enc : TypeId × Value → H} {w : World} {base : Nat} {spare : Nat → Bool} {held : Bool} {fuel : Nat} {cs : List Value} {x : DataW H × List MemPlace},
    DataW.trod enc P w base spare held fuel t cs = some x → (∀ n ∈ x.1.weights P t, n ≤ reachBytes) → ∃ a : α, d.K w a cs ∧ G a

theorem Opens.int {P : Program} {t : TypeId} {k : IntKind} (ht : P.underlying t = some (.int k)) (hc : P.cellsOf t = 1) : Opens P t (Kd.int k) (fun n => (Lit.int k n).wf = true) :=
  ⟨hc, fun h _ => by
    obtain ⟨n, rfl, _, hw⟩ := DataW.trod_int ht h
    exact ⟨n, rfl, hw⟩⟩
theorem Opens.bool {P : Program} {t : TypeId} (ht : P.underlying t = some .bool) (hc : P.cellsOf t = 1) : Opens P t Kd.bool (fun _ => True) :=
  ⟨hc, fun h _ => by
    obtain ⟨n, rfl, _⟩ := DataW.trod_bool ht h
    exact ⟨n, rfl, trivial⟩⟩
theorem Opens.string {P : Program} {t : TypeId} (ht : P.underlying t = some .string) (hc : P.cellsOf t = 1) : Opens P t Kd.string (fun s => s.size ≤ 140737488351232) :=
  ⟨hc, fun h hs => by
    obtain ⟨s, rfl, rfl, _⟩ := DataW.trod_string ht h
    refine ⟨s, rfl, ?_⟩
    have := hs s.data.toList.length (by simp [DataW.weights])
    unfold reachBytes at this
    rw [Array.length_toList] at this
    exact this⟩

theorem cells_get {w : World} {base : Nat} {a : Addr} {n : Nat} {c : List Value} (h : w.cells? base a n = some c) : c.length = n ∧ ∀ i u, c[i]? = some u → w.cell? (a.add i) = some u := by
  unfold World.cells? at h
  split at h
  · have hl := mapM_some_length h
    refine ⟨by simpa using hl, fun i u hu => ?_⟩
    have hi : i < n := by
      have := (List.getElem?_eq_some_iff.1 hu).1
      rw [hl] at this
      simpa using this
    rw [mapM_some_get h i i (by simp [hi])]
    exact hu
  · cases h

theorem weightsAll_mem {H : Type} {P : Program} {e : TypeId} : ∀ {l : List (DataW H)} {d : DataW H}, d ∈ l → ∀ n ∈ d.weights P e, n ∈ DataW.weightsAll P e l
  | d0 :: l, d, hd, n, hn => by
    simp only [DataW.weightsAll, List.mem_append]
    rcases List.mem_cons.1 hd with rfl | hd
    · exact .inl hn
    · exact .inr (weightsAll_mem hd n hn)
  | [], _, hd, _, _ => by simp at hd

theorem add_add_addr (a : Addr) (i j : Nat) : (a.add i).add j = a.add (i + j) := by
  by_cases hi : i = 0 <;> by_cases hj : j = 0 <;> simp [Addr.add, hi, hj, Nat.add_assoc]

theorem Opens.slice {α : Type} {P : Program} {t e : TypeId} {d : Kd α} {G : α → Prop} {B : Nat} (hd : Opens P e d G) (ht : P.underlying t = some (.slice e)) (hc : P.cellsOf t = 1) (hB : P.bytesOf e = B) :
    Opens P t (Kd.slice e d) (fun xs => (xs.length ≤ maxLen ∧ xs.length * B ≤ 140737488351232) ∧ ∀ x ∈ xs, G x) := by
  refine ⟨hc, fun {H enc w base spare held fuel cs x} h hs => ?_⟩
  rcases DataW.trod_slice ht h with ⟨rfl, rfl⟩ | ⟨a, len, cap, elems, rest, n, rfl, rfl, rfl, hb, hl, hcap, hel, hget, -, -⟩
  · exact ⟨[], ⟨none, 0, rfl, Nat.le_refl _, rfl, by simp, fun h => absurd h (by simp)⟩, by simp, by simp⟩
  · have hsz : (elems.length + rest.length) * B ≤ reachBytes := by
      have := hs ((elems.length + rest.length) * P.bytesOf e) (by simp [DataW.weights, ht])
      rw [hB] at this
      exact this
    have hin : ∀ y ∈ elems, ∀ n ∈ y.1.weights P e, n ≤ reachBytes := fun y hy n hn => hs n (by
      simp only [DataW.weights, ht, List.mem_cons, List.mem_append]
      exact .inr (.inl (weightsAll_mem (List.mem_map_of_mem hy) n hn)))
    have hall : ∀ i, i < len → ∃ (b : α) (c : List Value), c.length = d.sz ∧ d.K w b c ∧ G b ∧ ∀ j u, c[j]? = some u → w.cell? (a.add (i * d.sz + j)) = some u := by
      intro i hi
      have h1 := hget i hi
      have hlt : i < elems.length := by omega
      rw [List.getElem?_eq_getElem hlt] at h1
      obtain ⟨c, hc1, hc2⟩ := Option.bind_eq_some_iff.1 h1
      obtain ⟨b, hb1, hb2⟩ := hd.2 hc2 (hin _ (List.getElem_mem hlt))
      obtain ⟨hlen, hcell⟩ := cells_get hc1
      refine ⟨b, c, by rw [hlen, hd.1], hb1, hb2, fun j u hu => ?_⟩
      have := hcell j u hu
      rw [add_add_addr, hd.1] at this
      exact this
    have hlist : ∀ m, m ≤ len → ∃ xs : List α, xs.length = m ∧ (∀ x ∈ xs, G x) ∧ ∀ (j : Nat) (p : α), xs[j]? = some p → ∃ c, c.length = d.sz ∧ d.K w p c ∧ ∀ i u, c[i]? = some u → w.cell? (a.add (j * d.sz + i)) = some u := by
      intro m
      induction m with
      | zero => intro _; exact ⟨[], rfl, by simp, fun j p hj => by simp at hj⟩
      | succ m ih =>
        intro hm
        obtain ⟨xs, h1, h2, h3⟩ := ih (by omega)
        obtain ⟨b, c, hb1, hb2, hb3, hb4⟩ := hall m (by omega)
        refine ⟨xs ++ [b], by simp [h1], ?_, fun j p hj => ?_⟩
        · intro x hx
          rcases List.mem_append.1 hx with hx | hx
          · exact h2 x hx
          · rw [List.mem_singleton.1 hx]; exact hb3
        · rcases Nat.lt_or_ge j m with hlt | hge
          · rw [List.getElem?_append_left (by omega)] at hj
            exact h3 j p hj
          · have hjm : j = m := by
              have := (List.getElem?_eq_some_iff.1 hj).1
              rw [List.length_append, List.length_singleton] at this
              omega
            subst hjm
            rw [← h1, List.getElem?_concat_length] at hj
            injection hj with hj
            subst hj
            exact ⟨c, hb1, hb2, hb4⟩
    obtain ⟨xs, h1, h2, h3⟩ := hlist len (Nat.le_refl _)
    have hmax : maxLen ≤ 9223372036854775807 := by unfold maxLen; omega
    refine ⟨xs, ⟨some a, cap, by rw [h1], by omega, rfl, by omega, fun _ => ⟨a, rfl, h3⟩⟩, ⟨by omega, ?_⟩, h2⟩
    unfold reachBytes at hsz
    refine Nat.le_trans ?_ hsz
    rw [h1]
    exact Nat.mul_le_mul_right _ (by omega)

/-- The fields of a struct, from a place on. -/
structure OpensFs {α : Type} (P : Program) (fs : List Field) (off : Nat) (d : Kd α) (G : α → Prop) : Prop where
  out : ∀ {H : Type} {enc : TypeId × Value → H} {w : World} {base : Nat} {spare : Nat → Bool} {held : Bool} {fuel : Nat} {cs : List Value} {xs : List (DataW H × List MemPlace)}, cs.length = off + d.sz → xs.length = fs.length →
    (∀ (i : Nat) (f : Field), fs[i]? = some f → DataW.trod enc P w base spare held fuel f.type ((cs.drop f.offset).take (P.cellsOf f.type)) = xs[i]?) →
    (∀ n ∈ DataW.weightsEach P (fs.map (·.type)) (xs.map (·.1)), n ≤ reachBytes) → ∃ a : α, d.K w a (cs.drop off) ∧ G a

theorem OpensFs.one {α : Type} {P : Program} {f : Field} {off : Nat} {d : Kd α} {G : α → Prop} (ho : f.offset = off) (h : Opens P f.type d G) : OpensFs P [f] off d G := by
  constructor
  intro H enc w base spare held fuel cs xs hcs hxs hget hw
  obtain ⟨x, rfl⟩ : ∃ x, xs = [x] := by
    match xs, hxs with
    | [x], _ => exact ⟨x, rfl⟩
  have h1 := hget 0 f rfl
  obtain ⟨a, ha, hg⟩ := h.2 (x := x) h1 (fun n hn => hw n (by simp only [List.map_cons, DataW.weightsEach, List.mem_append]; exact .inl hn))
  refine ⟨a, ?_, hg⟩
  rw [ho, h.1, List.take_of_length_le (by rw [List.length_drop]; omega)] at ha
  exact ha

theorem OpensFs.cons {α β : Type} {P : Program} {f : Field} {fs : List Field} {off : Nat} {a : Kd α} {b : Kd β} {Ga : α → Prop} {Gb : β → Prop} (ho : f.offset = off) (h : Opens P f.type a Ga) (hr : OpensFs P fs (off + a.sz) b Gb) :
    OpensFs P (f :: fs) off (Kd.pair a b) (fun x => Ga x.1 ∧ Gb x.2) := by
  constructor
  intro H enc w base spare held fuel cs xs hcs hxs hget hw
  obtain ⟨x, ys, rfl⟩ : ∃ x ys, xs = x :: ys := by
    match xs, hxs with
    | x :: ys, _ => exact ⟨x, ys, rfl⟩
  have hsz : (Kd.pair a b).sz = a.sz + b.sz := rfl
  obtain ⟨u, hu, gu⟩ := h.2 (x := x) (hget 0 f rfl) (fun n hn => hw n (by simp only [List.map_cons, DataW.weightsEach, List.mem_append]; exact .inl hn))
  obtain ⟨v, hv, gv⟩ := hr.out (cs := cs) (xs := ys) (by omega) (by simpa using hxs) (fun i f hf => by have := hget (i + 1) f (by simpa using hf); simpa using this) (fun n hn => hw n (by simp only [List.map_cons, DataW.weightsEach, List.mem_append]; exact .inr hn))
  refine ⟨(u, v), ⟨(cs.drop off).take a.sz, cs.drop (off + a.sz), ?_, ?_, hv⟩, gu, gv⟩
  · rw [← List.drop_drop, List.take_append_drop]
  · rw [ho, h.1] at hu
    exact hu

theorem Opens.struct {α : Type} {P : Program} {t : TypeId} {fs : List Field} {d : Kd α} {G : α → Prop} (ht : P.underlying t = some (.struct fs.toArray)) (hc : P.cellsOf t = d.sz) (h : OpensFs P fs 0 d G) : Opens P t d G := by
  refine ⟨hc, fun {H enc w base spare held fuel cs x} hx hs => ?_⟩
  obtain ⟨xs, n, rfl, rfl, hl, hn, hget⟩ := DataW.trod_struct ht hx
  have := h.out (enc := enc) (w := w) (base := base) (spare := spare) (held := held) (fuel := n) (cs := cs) (xs := xs) (by omega) (by simpa using hn) (fun i f hf => hget i f (by simpa using hf)) (fun m hm => hs m (by simpa [DataW.weights, ht] using hm))
  simpa using this

theorem Opens.iso {α β : Type} {P : Program} {t : TypeId} {d : Kd α} {G : α → Prop} (f : β → α) (g : α → β) (hfg : ∀ a, f (g a) = a) (h : Opens P t d G) : Opens P t (Kd.iso d f) (fun x => G (f x)) := by
  refine ⟨h.1, fun {H enc w base spare held fuel cs x} hx hs => ?_⟩
  obtain ⟨a, ha, hg⟩ := h.2 hx hs
  exact ⟨g a, by show d.K w (f (g a)) cs; rw [hfg]; exact ha, by show G (f (g a)); rw [hfg]; exact hg⟩

theorem Opens.good {α : Type} {P : Program} {t : TypeId} {d : Kd α} {G G' : α → Prop} (h : Opens P t d G) (hg : ∀ a, G a → G' a) : Opens P t d G' :=
  ⟨h.1, fun hx hs => by
    obtain ⟨a, ha, g⟩ := h.2 hx hs
    exact ⟨a, ha, hg a g⟩⟩

/-- An argument's weights are among the row's. -/
theorem weigh {H : Type} {P : Program} {ts : List TypeId} {ds : List (DataW H)} (h : (DataW.weightsEach P ts ds).all (· ≤ reachBytes) = true) {j : Nat} {t : TypeId} {d : DataW H} (ht : ts[j]? = some t) (hd : ds[j]? = some d) : ∀ n ∈ d.weights P t, n ≤ reachBytes := by
  intro n hn
  simpa using List.all_eq_true.1 h n (DataW.weights_mem_each ht hd n hn)

/-- A struct that came in, by value. -/
theorem Opens.agg {α : Type} {P : Program} {t : TypeId} {fs : List Field} {d : Kd α} {G : α → Prop} (h : Opens P t d G) (ht : P.underlying t = some (.struct fs.toArray)) {H : Type} {enc : TypeId × Value → H} {w : World} {r : Reach} {b0 base : Nat} {spare : Nat → Bool} {held : Bool} {v : Value} {D : DataW H} {p : List MemPlace}
    (hv : Value.okWide P w r b0 t v) (ho : DataW.Trod enc P w base spare held t v D p) (hs : ∀ n ∈ D.weights P t, n ≤ reachBytes) : ∃ (a : α) (cs : List Value), v = .agg cs.toArray ∧ d.K w a cs ∧ G a := by
  obtain ⟨cs, rfl, hsz⟩ := okWide_struct ht hv
  obtain ⟨fuel, hf⟩ := ho
  obtain ⟨a, ha, hg⟩ := h.2 hf hs
  exact ⟨a, cs.toList, by simp, by simpa [Value.cells] using ha, hg⟩

/-- A slice that came in. -/
theorem Opens.row {α : Type} {P : Program} {t e : TypeId} {d : Kd α} {G : List α → Prop} (h : Opens P t (Kd.slice e d) G) (ht : P.underlying t = some (.slice e)) {H : Type} {enc : TypeId × Value → H} {w : World} {r : Reach} {b0 base : Nat} {spare : Nat → Bool} {held : Bool} {v : Value} {D : DataW H} {p : List MemPlace}
    (hv : Value.okWide P w r b0 t v) (ho : DataW.Trod enc P w base spare held t v D p) (hs : ∀ n ∈ D.weights P t, n ≤ reachBytes) : ∃ (xs : List α) (A : Option Addr) (c : Nat), v = .slice A xs.length c ∧ xs.length ≤ c ∧ d.C w A xs.length xs ∧ G xs := by
  obtain ⟨A0, n0, c0, rfl⟩ := okWide_slice ht hv
  obtain ⟨fuel, hf⟩ := ho
  obtain ⟨a, ⟨A, c, hcs, hl, hr⟩, hg⟩ := h.2 hf hs
  refine ⟨a, A, c, ?_, hl, hr, hg⟩
  have : [Value.slice A0 n0 c0] = [.slice A a.length c] := by simpa [Value.cells] using hcs
  simpa using this
end Go.Proofs.YtgkmfhmodojdcaaX
