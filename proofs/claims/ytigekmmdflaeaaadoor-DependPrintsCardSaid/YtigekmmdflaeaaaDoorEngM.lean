/- The engine, maps: made, asked, written, entries struck. -/
import Derived.Test.YtigekmmdflaeaaaDoorEng8
set_option linter.all false
namespace Go.Proofs.YtigekmmdflaeaaaDoorE
open Go
set_option linter.unusedVariables false

/-- a plain type -/
def scTy (P : Program) (t : TypeId) : Option Ty := match P.underlying t with
  | some (.int k) => some (.int k)
  | some .bool => some .bool
  | some .string => some .str
  | _ => none
def mapTy (P : Program) (t : TypeId) : Option (Ty × Ty) := match P.underlying t with
  | some (.map k e) => match scTy P k, scTy P e with
    | some a, some b => some (a, b)
    | _, _ => none
  | _ => none
def keq : (t : Ty) → El t → El t → Bool
  | .int _, a, b => (show Int from a) == (show Int from b)
  | .bool, a, b => (show Bool from a) == (show Bool from b)
  | .str, a, b => (show ByteArray from a).toList == (show ByteArray from b).toList
  | _, _, _ => false
def mfind (kt vt : Ty) (k : El kt) : List (El kt × El vt) → Option (Nat × El vt)
  | [] => none
  | p :: m => match keq kt k p.1 with
    | true => some (0, p.2)
    | false => match mfind kt vt k m with
      | some (i, x) => some (i + 1, x)
      | none => none
def mget (kt vt : Ty) (k : El kt) (m : List (El kt × El vt)) (z : El vt) : El vt := match mfind kt vt k m with
  | some (_, x) => x
  | none => z
def mhas (kt vt : Ty) (k : El kt) (m : List (El kt × El vt)) : Bool := match mfind kt vt k m with
  | some _ => true
  | none => false
def mput (kt vt : Ty) (k : El kt) (v : El vt) (m : List (El kt × El vt)) : List (El kt × El vt) := match mfind kt vt k m with
  | some (i, _) => m.set i (k, v)
  | none => m ++ [(k, v)]
def mdel (kt vt : Ty) (k : El kt) (m : List (El kt × El vt)) : List (El kt × El vt) := match mfind kt vt k m with
  | some (i, _) => m.eraseIdx i
  | none => m
def scAV : (t : Ty) → El t → AV
  | .int k, x => .sc (.int k x)
  | .bool, x => .sc (.bool x)
  | .str, x => .sc (.string x)
  | _, _ => .top

/-- the map that a value leads to, and a key -/
def mapKey (P : Program) (H : Hp) (t : TypeId) (x i : AV) : Option ((j : Nat) × (kt : Ty) × (vt : Ty) × List (El kt × El vt) × El kt) := match x with
  | .mp j => match lk H j, mapTy P t with
    | some (.mp kt vt m), some (kt', vt') => match kt.eq kt', vt.eq vt' with
      | true, true => match ofCell kt i with
        | some k => some ⟨j, kt, vt, m, k⟩
        | none => none
      | _, _ => none
    | _, _ => none
  | _ => none
def zeroOf (P : Program) (t : TypeId) (vt : Ty) : Option (El vt) := match P.underlying t with
  | some (.map _ e) => (P.info? e).bind fun i => i.zero.bind fun v => ofCell vt (.sc v)
  | _ => none

def evM (P : Program) (H : Hp) (op : Op) (ρ : Operand → AV) (id : Nat) : OR := match op with
  | .makeMap t none => match mapTy P t with
    | some (kt, vt) => .go true (.mp id) ((id, .mp kt vt []) :: keepH (but id) (rm id H)) (some id)
    | none => .no
  | .lookup t x i ok => match mapKey P H t (ρ x) (ρ i) with
    | some ⟨j, kt, vt, m, k⟩ => match zeroOf P t vt with
      | some z => match ok with
        | true => .go true (.tup [scAV vt (mget kt vt k m z), .sc (.bool (mhas kt vt k m))]) H none
        | false => .go true (scAV vt (mget kt vt k m z)) H none
      | none => .no
    | none => .no
  | .mapUpdate t x i v => match mapKey P H t (ρ x) (ρ i) with
    | some ⟨j, kt, vt, m, k⟩ => match ofCell vt (ρ v) with
      | some y => .go true .top ((j, .mp kt vt (mput kt vt k y m)) :: rm j H) none
      | none => .no
    | none => .no
  | .insert t x i v => match mapKey P H t (ρ x) (ρ i) with
    | some ⟨j, kt, vt, m, k⟩ => match ofCell vt (ρ v) with
      | some y => .go true .top ((j, .mp kt vt (mput kt vt k y m)) :: rm j H) none
      | none => .no
    | none => .no
  | .call c => match c.callee with
    | .builtin .delete => match c.args[0]?, c.args[1]?, c.argTypes[0]? with
      | some x, some i, some t => match c.args.size with
        | 2 => match mapKey P H t (ρ x) (ρ i) with
          | some ⟨j, kt, vt, m, k⟩ => .go true (.sc (.tuple #[])) ((j, .mp kt vt (mdel kt vt k m)) :: rm j H) none
          | none => .no
        | _ => .no
      | _, _, _ => .no
    | _ => .no
  | _ => .no

section
variable {P : Program} {D : Cx} {F : Fr D} {μ : Nat → Value} {S : Nat → Prop} {w : World} {H : Hp} {tm : List AV} {a : Act}

theorem scTy_und {t : TypeId} {ty : Ty} (h : scTy P t = some ty) : (∃ k, P.underlying t = some (.int k) ∧ ty = .int k) ∨ (P.underlying t = some .bool ∧ ty = .bool) ∨ (P.underlying t = some .string ∧ ty = .str) := by
  unfold scTy at h
  split at h
  · rename_i k hk; cases h; exact .inl ⟨k, hk, rfl⟩
  · rename_i hk; cases h; exact .inr (.inl ⟨hk, rfl⟩)
  · rename_i hk; cases h; exact .inr (.inr ⟨hk, rfl⟩)
  · cases h
theorem mapTy_und {t : TypeId} {kt vt : Ty} (h : mapTy P t = some (kt, vt)) : ∃ k e, P.underlying t = some (.map k e) ∧ scTy P k = some kt ∧ scTy P e = some vt := by
  unfold mapTy at h
  split at h
  · rename_i k e hk
    split at h
    · rename_i a b h1 h2
      cases h
      exact ⟨k, e, hk, h1, h2⟩
    · cases h
  · cases h
theorem mapKey_ok {t : TypeId} {x i : AV} {j : Nat} {kt vt : Ty} {m : List (El kt × El vt)} {k : El kt} (h : mapKey P H t x i = some ⟨j, kt, vt, m, k⟩) :
    x = .mp j ∧ lk H j = some (.mp kt vt m) ∧ (∃ kd e, P.underlying t = some (.map kd e) ∧ scTy P kd = some kt ∧ scTy P e = some vt) ∧ ofCell kt i = some k := by
  unfold mapKey at h
  split at h
  · rename_i j
    split at h
    · rename_i kt vt m kt' vt' h1 h2
      split at h
      · rename_i h3 h4
        split at h
        · rename_i k hk
          cases h
          cases Ty.of_eq h3
          cases Ty.of_eq h4
          exact ⟨rfl, h1, mapTy_und h2, hk⟩
        · cases h
      · cases h
    · cases h
  · cases h

theorem sc_of {kd : TypeId} {kt : Ty} (hk : scTy P kd = some kt) {c : AV} {k : El kt} {u : Value} (h : ofCell kt c = some k) (hu : VOK μ S w c u) : scV kt k = some u := by
  have hr := ofCell_ok h hu
  rcases scTy_und hk with ⟨q, _, rfl⟩ | ⟨_, rfl⟩ | ⟨_, rfl⟩
  · simp only [Rd, List.cons.injEq, and_true] at hr; simp only [scV, hr]
  · simp only [Rd, List.cons.injEq, and_true] at hr; simp only [scV, hr]
  · simp only [Rd, List.cons.injEq, and_true] at hr; simp only [scV, hr]
theorem scAV_ok {e : TypeId} {vt : Ty} (hk : scTy P e = some vt) {x : El vt} {u : Value} (h : scV vt x = some u) : VOK μ S w (scAV vt x) u := by
  rcases scTy_und hk with ⟨q, _, rfl⟩ | ⟨_, rfl⟩ | ⟨_, rfl⟩ <;> (simp only [scV, Option.some.injEq] at h; exact h.symm)

theorem sameNow_ok {kd : TypeId} {kt : Ty} (hk : scTy P kd = some kt) {d : TypeDesc} (hd : P.underlying kd = some d) {a b : El kt} {u v : Value} (hu : scV kt a = some u) (hv : scV kt b = some v) : Instr.sameNow d u v = some (keq kt a b) := by
  rcases scTy_und hk with ⟨q, h, rfl⟩ | ⟨h, rfl⟩ | ⟨h, rfl⟩
  · rw [h] at hd; cases hd
    simp only [scV, Option.some.injEq] at hu hv
    subst hu; subst hv
    simp [Instr.sameNow, keq]
  · rw [h] at hd; cases hd
    simp only [scV, Option.some.injEq] at hu hv
    subst hu; subst hv
    simp [Instr.sameNow, keq]
  · rw [h] at hd; cases hd
    simp only [scV, Option.some.injEq] at hu hv
    subst hu; subst hv
    simp only [Instr.sameNow, keq, beq_toListBytes]
theorem findNow_ok {kd : TypeId} {kt vt : Ty} (hk : scTy P kd = some kt) {d : TypeDesc} (hd : P.underlying kd = some d) {k : El kt} {u : Value} (hu : scV kt k = some u) : ∀ {m : List (El kt × El vt)} {es : List MapEntry} {i : Nat}, MpRd kt vt m es →
    (mfind kt vt k m = none ∧ Instr.findNow d u es i = some none) ∨ ∃ j x v, mfind kt vt k m = some (j, x) ∧ scV vt x = some v ∧ Instr.findNow d u es i = some (some (i + j, v)) ∧ j < m.length ∧ (∃ e, es[j]? = some e ∧ keq kt k (m.getD j (zEl kt, zEl vt)).1 = true ∧ scV kt (m.getD j (zEl kt, zEl vt)).1 = some e.key)
  | [], es, i, h => by
    rw [MpRd] at h
    subst h
    exact .inl ⟨rfl, rfl⟩
  | p :: m, es, i, h => by
    obtain ⟨e, es', rfl, h1, h2, h3⟩ := h
    have hs := sameNow_ok hk hd hu h1
    cases hq : keq kt k p.1 with
    | true =>
      refine .inr ⟨0, p.2, e.val, by simp [mfind, hq], h2, ?_, by simp, e, rfl, hq, h1⟩
      simp only [Instr.findNow, hs, hq, Nat.add_zero]
    | false =>
      rcases findNow_ok hk hd hu (i := i + 1) h3 with ⟨h4, h5⟩ | ⟨j, x, v, h4, h5, h6, h7, h8⟩
      · refine .inl ⟨by simp [mfind, hq, h4], ?_⟩
        simp only [Instr.findNow, hs, hq, h5]
      · refine .inr ⟨j + 1, x, v, by simp [mfind, hq, h4], h5, ?_, by simpa using h7, by simpa using h8⟩
        simp only [Instr.findNow, hs, hq, h6]
        congr 3
        omega

theorem run_checkKey {kd : TypeId} {kt : Ty} (hk : scTy P kd = some kt) (b : Bool) (v : Value) : (Instr.checkKey b 10000 kd v).run P w = .ok () w := by
  rcases scTy_und hk with ⟨q, h, _⟩ | ⟨h, _⟩ | ⟨h, _⟩ <;>
    (unfold Instr.checkKey; simp only [Sem.run_bind, run_und h, Result.andThen_ok]; rfl)
theorem run_findKey {kd : TypeId} {d : TypeDesc} (hd : P.underlying kd = some d) {u : Value} {es : List MapEntry} {r : Option (Nat × Value)} (h : Instr.findNow d u es 0 = some r) : (Instr.findKey kd u es).run P w = .ok r w := by
  simp only [Instr.findKey, Sem.run_bind, run_und hd, Result.andThen_ok, h]
  rfl
theorem run_getMap {b : Nat} {es : Array MapEntry} {cl : Nat} (h : w.heap[b]? = some (.map es cl)) : (getObj b).run P w = .ok (.map es cl) w := by simp [getObj, Sem.run, h]
theorem und_of {t : TypeId} {ty : Ty} (h : scTy P t = some ty) : ∃ d, P.underlying t = some d := by
  rcases scTy_und h with ⟨q, h, _⟩ | ⟨h, _⟩ | ⟨h, _⟩ <;> exact ⟨_, h⟩

theorem evM_make {t : TypeId} {id : Nat} {av : AV} {c : Bool} {H' : Hp} {g : Option Nat} (hI : Inv F μ S H w) (hd : F.fix id = none) (hT : VsOK μ S w tm a.tmps.toList) {ρ : Operand → AV}
    (h : evM P H (.makeMap t none) ρ id = .go c av H' g) : Step P F (.makeMap t none) a w (tmGone tm g) H' av := by
  simp only [evM] at h
  split at h
  · rename_i kt vt hm
    cases h
    have hμ : ∀ j, but id j = true → upd μ id (.map (some w.heap.size)) j = μ j := fun j hj => upd_other μ _ (but_iff.1 hj)
    have hSw : ∀ b, S b → (w.alloc (.map #[] 0)).heap[b]? = w.heap[b]? := fun b hb => heap_alloc_lt w _ (hI.Slt b hb)
    have hz : w.heap.size ≤ (w.alloc (.map #[] 0)).heap.size := by simp
    refine step_of (fun o ho => ?_) (.inl rfl) (hI.new (.map #[] 0) id hd (.map (some w.heap.size)) (.mp kt vt []) rfl ⟨w.heap.size, #[], 0, upd_same _ _ _, heap_alloc_new w _, rfl⟩) (VsOK.keep hμ (fun _ h => h) hz hSw hT) ⟨(upd_same _ _ _).symm, _, rfl⟩
    simp only [execOp, ho]
    refine run_val ?_
    simp [Instr.makeMap, newObj, go_sem, Sem.run]
  · cases h

theorem evM_lookup {t : TypeId} {x i : Operand} {ok : Bool} {id : Nat} {av : AV} {c : Bool} {H' : Hp} {g : Option Nat} (hI : Inv F μ S H w) (hT : VsOK μ S w tm a.tmps.toList) {ρ : Operand → AV} (hρ : ∀ x, VOK μ S w (ρ x) (a.eval x))
    (h : evM P H (.lookup t x i ok) ρ id = .go c av H' g) : Step P F (.lookup t x i ok) a w (tmGone tm g) H' av := by
  simp only [evM] at h
  split at h
  · rename_i j kt vt m k hmk
    split at h
    · rename_i z hz
      obtain ⟨h1, h2, ⟨kd, e, h3, h4, h5⟩, h6⟩ := mapKey_ok hmk
      have hx := hρ x
      rw [h1] at hx
      obtain ⟨hx1, b, hx2⟩ := hx
      obtain ⟨b', es, cl, h7, h8, h9⟩ := hI.blk j _ h2
      rw [hx1] at hx2
      rw [hx2] at h7
      cases h7
      have hku := sc_of h4 h6 (hρ i)
      obtain ⟨d, hd⟩ := und_of h4
      have hzz : ∃ zv, (zeroValue e).run P w = .ok zv w ∧ scV vt z = some zv := by
        unfold zeroOf at hz
        rw [h3] at hz
        obtain ⟨ii, hi1, hz⟩ := Option.bind_eq_some_iff.1 hz
        obtain ⟨v, hi2, hz⟩ := Option.bind_eq_some_iff.1 hz
        exact ⟨v, by simp [zeroValue, typeInfo, go_sem, hi1, hi2], sc_of (μ := μ) (S := S) (w := w) h5 hz rfl⟩
      obtain ⟨zv, hz1, hz2⟩ := hzz
      have run : ∀ (r : Value) (bb : Bool), (∃ q, Instr.findNow d (a.eval i) es.toList 0 = some q ∧ (match q with | some (_, v) => (r = v ∧ bb = true) | none => (r = zv ∧ bb = false))) → (Instr.lookup t (a.eval x) (a.eval i) ok).run P w = .ok (if ok then .tuple #[r, .bool bb] else r) w := by
        rintro r bb ⟨q, hq, hr⟩
        rw [hx1, hx2]
        simp only [Instr.lookup, Sem.run_bind, run_und h3, Result.andThen_ok, run_getMap h8, run_checkKey h4, run_findKey hd hq, Sem.run_pure]
        cases q with
        | none => obtain ⟨rfl, rfl⟩ := hr; simp [hz1, go_sem]
        | some p => obtain ⟨rfl, rfl⟩ := hr; simp [go_sem]
      have res : ∃ r bb, (Instr.lookup t (a.eval x) (a.eval i) ok).run P w = .ok (if ok then .tuple #[r, .bool bb] else r) w ∧ scV vt (mget kt vt k m z) = some r ∧ mhas kt vt k m = bb := by
        rcases findNow_ok h4 hd hku (i := 0) h9 with ⟨q1, q2⟩ | ⟨jj, y, v, q1, q2, q3, _⟩
        · exact ⟨zv, false, run zv false ⟨none, q2, rfl, rfl⟩, by simp [mget, q1, hz2], by simp [mhas, q1]⟩
        · exact ⟨v, true, run v true ⟨_, q3, rfl, rfl⟩, by simp [mget, q1, q2], by simp [mhas, q1]⟩
      obtain ⟨r, bb, r1, r2, r3⟩ := res
      split at h
      · cases h
        refine step_of (fun o ho => ?_) (.inl rfl) hI hT ⟨_, rfl, _, _, rfl, scAV_ok h5 r2, _, _, rfl, rfl, rfl⟩
        simp only [execOp, ho]
        rw [r3]
        exact run_val (by simpa using r1)
      · cases h
        refine step_of (fun o ho => ?_) (.inl rfl) hI hT (scAV_ok h5 r2)
        simp only [execOp, ho]
        exact run_val (by simpa using r1)
    · cases h
  · cases h

theorem MpRd.len {kt vt : Ty} : ∀ {m : List (El kt × El vt)} {es : List MapEntry}, MpRd kt vt m es → es.length = m.length
  | [], es, h => by rw [MpRd] at h; rw [h]; rfl
  | p :: m, es, h => by obtain ⟨e, es', rfl, _, _, h3⟩ := h; simp [MpRd.len h3]
theorem MpRd.set {kt vt : Ty} {k : El kt} {x : El vt} {e0 : MapEntry} (h1 : scV kt k = some e0.key) (h2 : scV vt x = some e0.val) : ∀ {m : List (El kt × El vt)} {es : List MapEntry} {j : Nat}, MpRd kt vt m es → MpRd kt vt (m.set j (k, x)) (es.set j e0)
  | [], es, j, h => by rw [MpRd] at h; rw [h]; exact rfl
  | p :: m, es, 0, h => by obtain ⟨e, es', rfl, _, _, h3⟩ := h; exact ⟨e0, es', rfl, h1, h2, h3⟩
  | p :: m, es, j + 1, h => by obtain ⟨e, es', rfl, h4, h5, h3⟩ := h; exact ⟨e, es'.set j e0, rfl, h4, h5, MpRd.set h1 h2 h3⟩
theorem MpRd.push {kt vt : Ty} {k : El kt} {x : El vt} {e0 : MapEntry} (h1 : scV kt k = some e0.key) (h2 : scV vt x = some e0.val) : ∀ {m : List (El kt × El vt)} {es : List MapEntry}, MpRd kt vt m es → MpRd kt vt (m ++ [(k, x)]) (es ++ [e0])
  | [], es, h => by rw [MpRd] at h; rw [h]; exact ⟨e0, [], rfl, h1, h2, rfl⟩
  | p :: m, es, h => by obtain ⟨e, es', rfl, h4, h5, h3⟩ := h; exact ⟨e, es' ++ [e0], rfl, h4, h5, MpRd.push h1 h2 h3⟩
theorem MpRd.erase {kt vt : Ty} : ∀ {m : List (El kt × El vt)} {es : List MapEntry} {j : Nat}, MpRd kt vt m es → MpRd kt vt (m.eraseIdx j) (es.eraseIdx j)
  | [], es, j, h => by rw [MpRd] at h; rw [h]; simp [MpRd]
  | p :: m, es, 0, h => by obtain ⟨e, es', rfl, h4, h5, h3⟩ := h; exact h3
  | p :: m, es, j + 1, h => by obtain ⟨e, es', rfl, h4, h5, h3⟩ := h; exact ⟨e, es'.eraseIdx j, rfl, h4, h5, MpRd.erase h3⟩

def putMap (w : World) (b : Nat) (o : Obj) : World := { w with heap := w.heap.setIfInBounds b o }
theorem putMap_other (w : World) (b k : Nat) (o : Obj) (h : k ≠ b) : (putMap w b o).heap[k]? = w.heap[k]? := by
  simp only [putMap]
  rw [Array.getElem?_setIfInBounds_ne (Ne.symm h)]
theorem putMap_same {b : Nat} {o o' : Obj} (h : w.heap[b]? = some o') : (putMap w b o).heap[b]? = some o := by
  have := (Array.getElem?_eq_some_iff.1 h).1
  simp [putMap, this]
theorem putMap_size (w : World) (b : Nat) (o : Obj) : (putMap w b o).heap.size = w.heap.size := by simp [putMap]

/-- A map's content is another. -/
theorem map_set {j : Nat} {kt vt : Ty} {m m' : List (El kt × El vt)} {b : Nat} {es es' : Array MapEntry} {cl cl' : Nat} (hI : Inv F μ S H w) (hT : VsOK μ S w tm a.tmps.toList) (hj : lk H j = some (.mp kt vt m)) (hm : μ j = .map (some b)) (hb : w.heap[b]? = some (.map es cl)) (h' : MpRd kt vt m' es'.toList) :
    Inv F μ S ((j, .mp kt vt m') :: rm j H) (putMap w b (.map es' cl')) ∧ VsOK μ S (putMap w b (.map es' cl')) tm a.tmps.toList := by
  have hbm : bof (μ j) = some b := by rw [hm]; rfl
  have hnS := hI.notS j _ hj b hbm
  exact ⟨hI.set j b _ _ hj hbm (fun k hk => putMap_other w b k _ hk) (putMap_size w b _) rfl rfl rfl (Nat.le_refl _) (fun _ => ⟨b, es', cl', hm, putMap_same hb, h'⟩),
    VsOK.mono (fun _ h => h) (Nat.le_of_eq (putMap_size w b _).symm) (fun k hk => putMap_other w b k _ (fun e => hnS.1 (e ▸ hk))) hT⟩

theorem keep_same {kd : TypeId} {kt : Ty} (hk : scTy P kd = some kt) {x y : El kt} {u v : Value} (hu : scV kt x = some u) (hv : scV kt y = some v) (h : keq kt x y = true) : (Instr.keyThatStays v u).run P w = .ok u w := by
  have hs : Instr.sameBits 10000 v u = true := by
    rcases scTy_und hk with ⟨q, _, rfl⟩ | ⟨_, rfl⟩ | ⟨_, rfl⟩
    · simp only [scV, Option.some.injEq] at hu hv
      subst hu; subst hv
      simp only [keq, beq_iff_eq] at h
      subst h
      simp [Instr.sameBits]
    · simp only [scV, Option.some.injEq] at hu hv
      subst hu; subst hv
      simp only [keq, beq_iff_eq] at h
      subst h
      simp [Instr.sameBits]
    · simp only [scV, Option.some.injEq] at hu hv
      subst hu; subst hv
      simp only [keq] at h
      have h' : (y == x) = true := by rw [beq_toListBytes, beq_iff_eq.1 h]; simp
      simpa [Instr.sameBits] using h'
  simp [Instr.keyThatStays, hs, go_sem]

theorem update_run {t : TypeId} {kd e : TypeId} {kt vt : Ty} {m : List (El kt × El vt)} {k : El kt} {y : El vt} {b : Nat} {es : Array MapEntry} {cl : Nat} {ku vu : Value} (h3 : P.underlying t = some (.map kd e)) (h4 : scTy P kd = some kt) (hb : w.heap[b]? = some (.map es cl)) (hr : MpRd kt vt m es.toList) (hk : scV kt k = some ku) (hv : scV vt y = some vu) :
    ∃ es' cl', (Instr.mapUpdate t (.map (some b)) ku vu).run P w = .ok () (putMap w b (.map es' cl')) ∧ MpRd kt vt (mput kt vt k y m) es'.toList := by
  obtain ⟨d, hd⟩ := und_of h4
  have hset : ∀ o, (setObj b o).run P w = .ok () (putMap w b o) := by
    intro o
    simp [setObj, Sem.run, hb, putMap]
  rcases findNow_ok h4 hd hk (i := 0) hr with ⟨q1, q2⟩ | ⟨j, x, v, q1, q2, q3, q4, e0, q5, q6, q7⟩
  · refine ⟨es.push { key := ku, val := vu, born := cl }, cl + 1, ?_, ?_⟩
    · simp only [Instr.mapUpdate, Sem.run_bind, run_und h3, Result.andThen_ok, run_getMap hb, run_checkKey h4, run_findKey hd q2, hset]
    · have := MpRd.push (e0 := { key := ku, val := vu, born := cl }) hk hv hr
      simpa [mput, q1] using this
  · have hj : j < es.size := by
      have := MpRd.len hr
      simp at this
      omega
    have hek : es[j]? = some e0 := by simpa [← Array.getElem?_toList] using q5
    refine ⟨es.modify j fun e => { e with key := ku, val := vu }, cl, ?_, ?_⟩
    · rw [Nat.zero_add] at q3
      simp only [Instr.mapUpdate, Sem.run_bind, run_und h3, Result.andThen_ok, run_getMap hb, run_checkKey h4, run_findKey hd q3, hek, Option.map_some, Option.getD_some, keep_same h4 hk q7 q6, hset]
    · have hm : mput kt vt k y m = m.set j (k, y) := by simp [mput, q1]
      rw [hm]
      have := MpRd.set (e0 := { e0 with key := ku, val := vu }) (j := j) hk hv hr
      have e2 : (es.modify j fun e => { e with key := ku, val := vu }).toList = es.toList.set j { e0 with key := ku, val := vu } := by
        apply List.ext_getElem?
        intro i
        rw [Array.toList_modify, List.getElem?_modify, List.getElem?_set]
        by_cases hi : j = i
        · subst hi
          simp [hj, hek, ← Array.getElem?_toList] at *
          simp [q5]
        · simp [hi]
      rw [e2]
      exact this

theorem delete_run {t : TypeId} {kd e : TypeId} {kt vt : Ty} {m : List (El kt × El vt)} {k : El kt} {b : Nat} {es : Array MapEntry} {cl : Nat} {ku : Value} {ts : Array TypeId} (ht : ts[0]? = some t) (h3 : P.underlying t = some (.map kd e)) (h4 : scTy P kd = some kt) (hb : w.heap[b]? = some (.map es cl)) (hr : MpRd kt vt m es.toList) (hk : scV kt k = some ku) :
    ∃ es' cl', (∀ ty, (Builtin.delete_ ts ty #[.map (some b), ku]).run P w = .ok (.tuple #[]) (putMap w b (.map es' cl'))) ∧ MpRd kt vt (mdel kt vt k m) es'.toList := by
  obtain ⟨d, hd⟩ := und_of h4
  have hset : ∀ o, (setObj b o).run P w = .ok () (putMap w b o) := by
    intro o
    simp [setObj, Sem.run, hb, putMap]
  rcases findNow_ok h4 hd hk (i := 0) hr with ⟨q1, q2⟩ | ⟨j, x, v, q1, q2, q3, q4, _⟩
  · refine ⟨es, cl, fun ty => ?_, by simpa [mdel, q1] using hr⟩
    simp [Builtin.delete_, ht, Sem.run_bind, run_und h3, run_getMap hb, run_checkKey h4, run_findKey hd q2, hset, go_sem]
  · rw [Nat.zero_add] at q3
    refine ⟨es.eraseIdxIfInBounds j, cl, fun ty => ?_, ?_⟩
    · simp [Builtin.delete_, ht, Sem.run_bind, run_und h3, run_getMap hb, run_checkKey h4, run_findKey hd q3, hset, go_sem]
    · have hj : j < es.size := by
        have := MpRd.len hr
        simp at this
        omega
      have := MpRd.erase (j := j) hr
      simpa [mdel, q1, Array.eraseIdxIfInBounds, hj] using this

theorem evM_put {t : TypeId} {x i v : Operand} {id : Nat} {av : AV} {c : Bool} {H' : Hp} {g : Option Nat} {op : Op} (hop : op = .mapUpdate t x i v ∨ op = .insert t x i v) (hI : Inv F μ S H w) (hT : VsOK μ S w tm a.tmps.toList) {ρ : Operand → AV} (hρ : ∀ x, VOK μ S w (ρ x) (a.eval x))
    (h : evM P H op ρ id = .go c av H' g) : Step P F op a w (tmGone tm g) H' av := by
  have h : (match mapKey P H t (ρ x) (ρ i) with
    | some ⟨j, kt, vt, m, k⟩ => match ofCell vt (ρ v) with
      | some y => OR.go true .top ((j, .mp kt vt (mput kt vt k y m)) :: rm j H) none
      | none => .no
    | none => .no) = .go c av H' g := by rcases hop with rfl | rfl <;> exact h
  split at h
  · rename_i j kt vt m k hmk
    split at h
    · rename_i y hy
      cases h
      obtain ⟨h1, h2, ⟨kd, e, h3, h4, h5⟩, h6⟩ := mapKey_ok hmk
      have hx := hρ x
      rw [h1] at hx
      obtain ⟨hx1, b, hx2⟩ := hx
      obtain ⟨b', es, cl, h7, h8, h9⟩ := hI.blk j _ h2
      rw [hx1] at hx2
      rw [hx2] at h7
      cases h7
      obtain ⟨es', cl', r1, r2⟩ := update_run (P := P) (t := t) h3 h4 h8 h9 (sc_of h4 h6 (hρ i)) (sc_of h5 hy (hρ v))
      obtain ⟨n1, n2⟩ := map_set (cl' := cl') hI hT h2 hx2 h8 r2
      refine step_of (fun o ho => ?_) (.inr ⟨rfl, rfl⟩) n1 n2 trivial
      rcases hop with rfl | rfl <;> (simp only [execOp, ho, hx1, hx2, Sem.run_bind, r1, Result.andThen_ok]; rfl)
    · cases h
  · cases h
theorem evM_delete {cl : Call} {id : Nat} {av : AV} {c : Bool} {H' : Hp} {g : Option Nat} (hI : Inv F μ S H w) (hT : VsOK μ S w tm a.tmps.toList) {ρ : Operand → AV} (hρ : ∀ x, VOK μ S w (ρ x) (a.eval x))
    (h : evM P H (.call cl) ρ id = .go c av H' g) : Step P F (.call cl) a w (tmGone tm g) H' av := by
  simp only [evM] at h
  split at h
  · rename_i hcal
    split at h
    · rename_i x i t hx0 hx1 ht
      split at h
      · rename_i hsz
        split at h
        · rename_i j kt vt m k hmk
          cases h
          obtain ⟨h1, h2, ⟨kd, e, h3, h4, h5⟩, h6⟩ := mapKey_ok hmk
          have hx := hρ x
          rw [h1] at hx
          obtain ⟨hxa, b, hxb⟩ := hx
          obtain ⟨b', es, clk, h7, h8, h9⟩ := hI.blk j _ h2
          rw [hxa] at hxb
          rw [hxb] at h7
          cases h7
          have hargs : cl.args = #[x, i] := by
            apply Array.ext'
            apply List.ext_getElem?
            intro n
            rw [Array.getElem?_toList]
            match n with
            | 0 => simpa using hx0
            | 1 => simpa using hx1
            | n + 2 => simp [hsz]
          obtain ⟨es', cl', r1, r2⟩ := delete_run (P := P) ht h3 h4 h8 h9 (sc_of h4 h6 (hρ i))
          obtain ⟨n1, n2⟩ := map_set (cl' := cl') hI hT h2 hxb h8 r2
          refine step_of (fun o ho => ?_) (.inl rfl) n1 n2 rfl
          simp only [execOp, ho, resolve, hcal, Sem.run_bind, Sem.run_pure, Result.andThen_ok, invoke, builtin, hargs, List.map_toArray, List.map_cons, List.map_nil, hxa, hxb]
          rw [r1]
          rfl
        · cases h
      · cases h
    · cases h
  · cases h

theorem evM_ok {op : Op} {H' : Hp} {id : Nat} {c : Bool} {av : AV} {g : Option Nat} (hI : Inv F μ S H w) (hd : F.fix id = none) (hT : VsOK μ S w tm a.tmps.toList) {ρ : Operand → AV} (hρ : ∀ x, VOK μ S w (ρ x) (a.eval x))
    (h : evM P H op ρ id = .go c av H' g) : Step P F op a w (tmGone tm g) H' av := by
  cases op with
  | makeMap t r => cases r with
    | none => exact evM_make hI hd hT h
    | some r => simp [evM] at h
  | lookup t x i ok => exact evM_lookup hI hT hρ h
  | mapUpdate t x i v => exact evM_put (.inl rfl) hI hT hρ h
  | insert t x i v => exact evM_put (.inr rfl) hI hT hρ h
  | call cl => exact evM_delete hI hT hρ h
  | _ => simp [evM] at h
end
end Go.Proofs.YtigekmmdflaeaaaDoorE
