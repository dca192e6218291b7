/- The engine, part 16: texts and truths that came in. -/
import Derived.Test.YtigekmmdflaeaaaDoorEng15
set_option linter.all false
namespace Go.Proofs.YtigekmmdflaeaaaDoorE
open Go Go.RowKit Go.WideShapes
set_option linter.unusedVariables false
theorem open_s {P : Program} {t : TypeId} (h : okTy P 20 t .str = true) (ht : P.underlying t = some .string) {H : Type} {enc : TypeId × Value → H} {w : World} {r : Reach} {b0 base : Nat} {spare : Nat → Bool} {held : Bool} {v : Value} {D : DataW H} {p : List MemPlace}
    (hv : Value.okWide P w r b0 t v) (ho : DataW.Trod enc P w base spare held t v D p) (hs : ∀ n ∈ D.weights P t, n ≤ reachBytes) : ∃ s : ByteArray, VOK (fun _ => undef) (fun b => b < w.heap.size) w (.sc (.string s)) v ∧ Gd .str s := by
  obtain ⟨s, rfl⟩ := okWide_string ht hv
  obtain ⟨fuel, hf⟩ := ho
  obtain ⟨a, ha, hg⟩ := (okTy_ok h).2 hf hs
  simp [Value.cells, Rd] at ha
  subst ha
  exact ⟨s, rfl, hg⟩
theorem open_b {P : Program} {t : TypeId} (h : okTy P 20 t .bool = true) (ht : P.underlying t = some .bool) {H : Type} {enc : TypeId × Value → H} {w : World} {r : Reach} {b0 base : Nat} {spare : Nat → Bool} {held : Bool} {v : Value} {D : DataW H} {p : List MemPlace}
    (hv : Value.okWide P w r b0 t v) (ho : DataW.Trod enc P w base spare held t v D p) (hs : ∀ n ∈ D.weights P t, n ≤ reachBytes) : ∃ b : Bool, VOK (fun _ => undef) (fun b => b < w.heap.size) w (.sc (.bool b)) v ∧ Gd .bool b := by
  obtain ⟨b, rfl⟩ := okWide_bool ht hv
  exact ⟨b, rfl, trivial⟩

/-- How many bytes a row that came in may have. -/
theorem row_bytes {P : Program} {t e : TypeId} {ty : Ty} (ht : P.underlying t = some (.slice e)) {H : Type} {enc : TypeId × Value → H} {w : World} {r : Reach} {b0 base : Nat} {spare : Nat → Bool} {held : Bool} {v : Value} {D : DataW H} {p : List MemPlace}
    (hv : Value.okWide P w r b0 t v) (ho : DataW.Trod enc P w base spare held t v D p) (hs : ∀ n ∈ D.weights P t, n ≤ reachBytes) {l : List (El ty)} {μ : Nat → Value} {S : Nat → Prop} (hl : VOK μ S w (.row ty l) v) : l.length * P.bytesOf e ≤ reachBytes := by
  obtain ⟨A0, n0, c0, rfl⟩ := okWide_slice ht hv
  obtain ⟨fuel, hf⟩ := ho
  obtain ⟨A, c, h1, _⟩ := hl
  have h1' : (Value.slice A0 n0 c0) = .slice A l.length c := by simpa using h1
  obtain ⟨rfl, rfl, rfl⟩ : A0 = A ∧ n0 = l.length ∧ c0 = c := by cases h1'; exact ⟨rfl, rfl, rfl⟩
  rcases DataW.trod_slice ht hf with ⟨h2, _⟩ | ⟨a, len, cap, elems, rest, n, _, h2, hD, _, _, _, hel, -⟩
  · have h3 : Value.slice A0 l.length c0 = .slice none 0 0 := by simpa [Value.cells] using h2
    have h4 : l.length = 0 := by injection h3
    rw [h4]
    omega
  · have h3 : Value.slice A0 l.length c0 = .slice (some a) len cap := by simpa [Value.cells] using h2
    have h4 : l.length = len := by injection h3
    have h5 : D = .slice (elems.map (·.1)) (rest.map (·.1)) := congrArg Prod.fst hD
    have h6 := hs ((elems.length + rest.length) * P.bytesOf e) (by rw [h5]; simp [DataW.weights, ht])
    have h7 : l.length * P.bytesOf e ≤ (elems.length + rest.length) * P.bytesOf e := Nat.mul_le_mul_right _ (by omega)
    omega

/-- A law's call: it hands back true, and what was there stays. -/
theorem law_calls {D : Cx} {P : Program} {g : FuncId} {args : List AV} {d : Dec Bool} (hd : d.f true = fun _ => B true) (h : Has D P g args d true) {W : World} {vs : List Value} (hv : VsOK (fun _ => undef) (fun b => b < W.heap.size) W args vs) (hy : D.hy W := by exact True.intro) :
    Calls P g vs.toArray W fun e W' => e = .returned (.bool true) ∧ RowKit.Below W.heap.size W W' := by
  refine (h (fun b => b < W.heap.size) W vs (fun b hb => hb) hv hy).mono ?_
  rintro e w' ⟨v, u, S', rfl, hB, _, _, h1, _⟩
  have := h1 0
  rw [hd] at this
  have hv : v = .bool true := this
  exact ⟨by rw [hv], hB.toBelow⟩
end Go.Proofs.YtigekmmdflaeaaaDoorE
