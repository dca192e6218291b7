/- The engine, part 8: append and make over states. -/
import Derived.Test.YtigekmmdflaeaaaDoorEng7
set_option linter.all false
namespace Go.Proofs.YtigekmmdflaeaaaDoorE
open Go
set_option linter.unusedVariables false
section
variable {P : Program} {D : Cx} {F : Fr D} {μ : Nat → Value} {S : Nat → Prop} {w : World} {H : Hp} {tm : List AV} {a : Act}

theorem append_call {c : Call} {s x : Operand} {t ty : TypeId} {ρ' : Operand → Value} {v : Value} {w' : World} (hc : c.callee = .builtin .append) (ha : c.args.toList = [s, x]) (hat : c.argTypes.toList = [t, t])
    (h : (Builtin.append_ #[t, t] ty #[ρ' s, ρ' x]).run P w = .ok v w') : (do let d ← resolve ρ' c ty; invoke d.target d.args : Sem Next).run P w = .ok (.value v) w' := by
  have e1 : c.args.map ρ' = #[ρ' s, ρ' x] := by apply Array.toList_inj.1; simp [ha]
  have e2 : c.argTypes = #[t, t] := by apply Array.toList_inj.1; simp [hat]
  simp only [resolve, hc, Sem.run_bind, Sem.run_pure, Result.andThen_ok, invoke, builtin, e1, e2, h]

theorem grown_le {n m bytes : Nat} (h : (n + m) * bytes ≤ fit) (hb : 0 < bytes) : n + m ≤ 140737488355328 := by
  unfold fit at h
  exact Nat.le_trans (Nat.le_mul_of_pos_right _ hb) h

/-- What comes of an append that lays a new array. -/
theorem grow_ok (hI : Inv F μ S H w) (hT : VsOK μ S w tm a.tmps.toList) {t ty' e : TypeId} {i : TypeInfo} {z : Value} {ty : Ty} {l m : List (El ty)} {sCap c : Nat} {A A0 : Option Addr} {olds news : List Value} (id : Nat) (hfx : F.fix id = none)
    (ht : P.underlying t = some (.slice e)) (hi : P.info? e = some i) (hz : i.zero = some z) (hsz : i.size = sz ty) (hzs : z.cells.size = sz ty) (hb : 0 < i.bytes)
    (hlo : RdL S w ty l olds) (hA0 : A0 = none → olds = []) (ho : ∀ ad, A0 = some ad → ∀ j v, olds[j]? = some v → w.cell? (ad.add j) = some v)
    (hln : RdL S w ty m news) (hA : A = none → m = []) (hn : ∀ ad, A = some ad → ∀ j v, news[j]? = some v → w.cell? (ad.add j) = some v)
    (hg : sCap < l.length + m.length) (hfit : (l.length + m.length) * i.bytes ≤ fit) :
    ∃ v w', (Builtin.append_ #[t, t] ty' #[.slice A0 l.length sCap, .slice A m.length c]).run P w = .ok v w' ∧
      Inv F (upd μ id v) S ((id, .arr e ty (l ++ m)) :: keepH (but id) (rm id H)) w' ∧ VsOK (upd μ id v) S w' (keeps (but id) tm) a.tmps.toList ∧ VOK (upd μ id v) S w' (.own id) v := by
  have hle := grown_le hfit hb
  have hcap : grownCap w (l.length + m.length) sCap e ≤ maxLen := grownCap_le_maxLen w _ _ e (by unfold maxLen; omega)
  have hge := grownCap_ge w (l.length + m.length) sCap e
  have hr := append_grow (P := P) (w := w) (ty := ty') (c := c) ht hi hz (by rw [hsz]; exact RdL.len hlo) hA0 ho (by rw [hsz]; exact RdL.len hln) (fun h => by
    have := hA h
    subst this
    rw [RdL] at hln
    exact hln) hn hg (by omega) (growslice_fits hg (by unfold fit at hfit; exact hfit))
  have hI2 := hI.drew
  have hT2 : VsOK μ S w.drew tm a.tmps.toList := VsOK.mono (w := w) (w' := w.drew) (fun _ h => h) (Nat.le_refl _) (fun _ _ => rfl) hT
  have hL := RdL.append hlo hln
  have hL2 : RdL S w.drew ty (l ++ m) (olds ++ news) := RdL.mono (w := w) (w' := w.drew) (fun _ h => h) (Nat.le_refl _) (fun _ _ => rfl) hL
  have hlen : (olds ++ news ++ (Builtin.zeroCells z.cells (grownCap w (l.length + m.length) sCap e - (l.length + m.length))).toList).length = grownCap w (l.length + m.length) sCap e * sz ty := by
    have hzc : ∀ k, (Builtin.zeroCells z.cells k).toList.length = k * sz ty := fun k => by rw [Array.length_toList, size_zeroCells, hzs]
    rw [List.length_append, RdL.len hL, List.length_append, hzc, ← Nat.add_mul]
    congr 1
    omega
  obtain ⟨n1, n2, n3⟩ := newArr_ok hI2 hT2 (e := e) id hfx hL2 hlen (by rw [List.length_append]; exact hge) hcap
  have ev : (olds ++ news ++ (Builtin.zeroCells z.cells (grownCap w (l.length + m.length) sCap e - (l.length + m.length))).toList).toArray = olds.toArray ++ news.toArray ++ Builtin.zeroCells z.cells (grownCap w (l.length + m.length) sCap e - (l.length + m.length)) := by
    apply Array.toList_inj.1
    simp
  rw [ev, List.length_append] at n1 n2 n3
  exact ⟨_, _, hr, n1, n2, n3⟩

theorem evG_append {cl : Call} {id : Nat} {av : AV} {c : Bool} {H' : Hp} {g : Option Nat} (hI : Inv F μ S H w) (hfx : F.fix id = none) (hT : VsOK μ S w tm a.tmps.toList) {ρ : Operand → AV} (hρ : ∀ x, VOK μ S w (ρ x) (a.eval x))
    (h : evG P H (.call cl) ρ id = .go c av H' g) (hc : c = true) : Step P F (.call cl) a w (tmGone tm g) H' av := by
  simp only [evG] at h
  split at h
  · rename_i s x t t' hcal hargs hat
    split at h
    · rename_i htt
      subst htt
      split at h
      · rename_i e hu
        split at h
        · rename_i i z ty m hi hz hsrc
          split at h
          · rename_i hcs
            obtain ⟨it, vz, hi2, hz2, rfl⟩ := zeroAV_eq hz
            rw [hi] at hi2
            cases hi2
            have hzs : vz.cells.size = sz ty := by simpa using hcs.2.1
            have hs := hρ s
            obtain ⟨A, cx, news, hx, hln, hA, hn⟩ := src_ok hI hsrc (hρ x)
            split at h
            · rename_i hsv
              rw [hsv, VOK] at hs
              cases h
              have hfit := of_decide_eq_true hc
              by_cases hm : m.length = 0
              · have hm0 : m = [] := List.eq_nil_of_length_eq_zero hm
                subst hm0
                rw [RdL] at hln
                subst hln
                have hI' := hI.nil id hfx e ty none
                have hμ : ∀ j, but id j = true → upd μ id (.slice none 0 0) j = μ j := fun j hj => upd_other μ _ (but_iff.1 hj)
                refine step_of (nx := .value (.slice none 0 0)) (fun o ho => ?_) (.inl rfl) hI' (VsOK.keep hμ (fun _ h => h) (Nat.le_refl _) (fun _ _ => rfl) hT) ⟨(upd_same _ _ _).symm, _, _, _, rfl⟩
                simp only [execOp, ho]
                refine append_call hcal hargs hat ?_
                rw [hs, hx]
                have hf := firstCells_of (P := P) (w := w) (size := i.size) (n := 0) (len := 0) (cap := cx) (us := []) (A := A) (by simp) (fun _ => rfl) (fun _ _ j v hv => by simp at hv)
                simp [Builtin.append_, run_underlying hu, sizeOf, typeInfo, hi, Builtin.lenOf, hf]
              · obtain ⟨v, w', hr, n1, n2, n3⟩ := grow_ok hI hT (l := []) (m := m) (sCap := 0) (A0 := none) (olds := []) (ty' := (0 : Nat)) (c := cx) id hfx hu hi hz2 hcs.1 hzs hcs.2.2 rfl (fun _ => rfl) (fun ad h => by cases h) hln hA hn (by simp; omega) (by simpa using hfit)
                simp only [List.nil_append] at n1
                intro o ho
                obtain ⟨v2, w2, hr2, m1, m2, m3⟩ := grow_ok hI hT (l := []) (m := m) (sCap := 0) (A0 := none) (olds := []) (ty' := o.type) (c := cx) id hfx hu hi hz2 hcs.1 hzs hcs.2.2 rfl (fun _ => rfl) (fun ad h => by cases h) hln hA hn (by simp; omega) (by simpa using hfit)
                simp only [List.nil_append] at m1
                refine ⟨.value v2, v2, w2, _, S, ?_, .inl rfl, m1, m2, m3⟩
                simp only [execOp, ho]
                refine append_call hcal hargs hat ?_
                rw [hs, hx]
                exact hr2
            · rename_i j hsv
              rw [hsv] at hs
              split at h
              · rename_i e' ty' l hk
                split at h
                · rename_i hty
                  split at h
                  · rename_i hee
                    subst hee
                    cases Ty.of_eq hty
                    cases h
                    have hfit := of_decide_eq_true hc
                    simp only at hfit ⊢
                    have hle := grown_le hfit hcs.2.2
                    have hId := hI.drop j
                    intro o ho
                    rcases hI.blk j _ hk with ⟨A0, h1, h2⟩ | ⟨b, cp, us, rest, h1, h2, h3, h4, h5, h6⟩
                    · subst h2
                      by_cases hm : m.length = 0
                      · have hm0 : m = [] := List.eq_nil_of_length_eq_zero hm
                        subst hm0
                        rw [RdL] at hln
                        subst hln
                        have hI' := hId.nil id hfx e' ty A0
                        have hμ : ∀ j, but id j = true → upd μ id (.slice A0 0 0) j = μ j := fun j hj => upd_other μ _ (but_iff.1 hj)
                        refine ⟨.value (.slice A0 0 0), .slice A0 0 0, w, _, S, ?_, .inl rfl, hI', VsOK.keep hμ (fun _ h => h) (Nat.le_refl _) (fun _ _ => rfl) hT, ⟨(upd_same _ _ _).symm, _, _, _, rfl⟩⟩
                        simp only [execOp, ho]
                        refine append_call hcal hargs hat ?_
                        rw [hs.1, h1, hx]
                        have hf := firstCells_of (P := P) (w := w) (size := i.size) (n := 0) (len := 0) (cap := cx) (us := []) (A := A) (by simp) (fun _ => rfl) (fun _ _ j v hv => by simp at hv)
                        cases A0 with
                        | none => simp [Builtin.append_, run_underlying hu, sizeOf, typeInfo, hi, Builtin.lenOf, hf]
                        | some ad => simp [Builtin.append_, run_underlying hu, sizeOf, typeInfo, hi, Builtin.lenOf, hf, storeCells]
                      · obtain ⟨v2, w2, hr2, m1, m2, m3⟩ := grow_ok hId hT (l := []) (m := m) (sCap := 0) (A0 := A0) (olds := []) (ty' := o.type) (c := cx) id hfx hu hi hz2 hcs.1 hzs hcs.2.2 rfl (fun _ => rfl) (fun ad h j v hv => by simp at hv) hln hA hn (by simp; omega) hfit
                        refine ⟨.value v2, v2, w2, _, S, ?_, .inl rfl, m1, m2, m3⟩
                        simp only [execOp, ho]
                        refine append_call hcal hargs hat ?_
                        rw [hs.1, h1, hx]
                        exact hr2
                    · by_cases hroom : l.length + m.length ≤ cp + 1
                      · have hmlen := RdL.len hln
                        have hllen := RdL.len h6
                        have hr := append_room (P := P) (w := w) (ty := o.type) (c := cx) (A := A) (g := b) (sLen := l.length) (sCap := cp + 1) (m := m.length) (cur := (us ++ rest).toArray) (news := news) hu hi h4 (by rw [hcs.1]; exact hmlen) (fun h => by
                          have := hA h
                          subst this
                          rw [RdL] at hln
                          exact hln) hn (RdL.one hln) hroom (by
                            rw [hmlen, hcs.1, List.size_toArray, h5, ← Nat.add_mul]
                            exact Nat.mul_le_mul_right _ hroom)
                        have hrow : (us ++ rest).toArray.toList.take (l.length * i.size) ++ news ++ (us ++ rest).toArray.toList.drop (l.length * i.size + news.length) = us ++ news ++ (us ++ rest).drop (us.length + news.length) := by
                          rw [hcs.1, ← hllen, List.toList_toArray, List.take_left]
                        rw [hrow] at hr
                        have hnS := hI.notS j _ hk b (by rw [h1]; rfl)
                        have hI' := hId.give (w' := w.setRow b (us ++ news ++ (us ++ rest).drop (us.length + news.length)).toArray) id hfx b (.slice (some ⟨b, 0, none⟩) (l.length + m.length) (cp + 1)) (.arr e' ty (l ++ m))
                          (fun j' Bj hj' hb' => by
                            by_cases e : j' = j
                            · rw [e, lk_rm_same] at hj'; cases hj'
                            · rw [lk_rm_other e] at hj'
                              exact hI.apart j' j Bj _ hj' hk e b hb' (by rw [h1]; rfl))
                          hnS.1 hnS.2 (fun k hk' => setRow_other w b k _ hk') (setRow_size b _) rfl rfl rfl (Nat.le_refl _) rfl
                          (fun hS => .inr ⟨b, cp, us ++ news, (us ++ rest).drop (us.length + news.length), by rw [upd_same, List.length_append], by rw [List.length_append]; exact hroom, h3, setRow_heap w b _ _ _ _ h4, by
                            rw [List.length_append, List.length_append, List.length_drop, h5, hllen, hmlen, ← Nat.add_mul]
                            have := Nat.mul_le_mul_right (sz ty) hroom
                            omega, RdL.mono (fun _ h => h) (Nat.le_of_eq (setRow_size b _).symm) hS (RdL.append h6 hln)⟩)
                        have hμ : ∀ k, but id k = true → upd μ id (.slice (some ⟨b, 0, none⟩) (l.length + m.length) (cp + 1)) k = μ k := fun k hk' => upd_other μ _ (but_iff.1 hk')
                        refine ⟨.value (.slice (some ⟨b, 0, none⟩) (l.length + m.length) (cp + 1)), _, _, _, S, ?_, .inl rfl, hI', VsOK.keep hμ (fun _ h => h) (Nat.le_of_eq (setRow_size b _).symm) (fun k hk' => setRow_other w b k _ (fun e => hnS.1 (e ▸ hk'))) hT, ⟨(upd_same _ _ _).symm, _, _, _, rfl⟩⟩
                        simp only [execOp, ho]
                        refine append_call hcal hargs hat ?_
                        rw [hs.1, h1, hx]
                        exact hr
                      · obtain ⟨v2, w2, hr2, m1, m2, m3⟩ := grow_ok hId hT (l := l) (m := m) (sCap := cp + 1) (A0 := some ⟨b, 0, none⟩) (olds := us) (ty' := o.type) (c := cx) id hfx hu hi hz2 hcs.1 hzs hcs.2.2 h6 (fun h => by cases h) (fun ad had k v hv => by
                          cases had
                          rw [add_none, Nat.zero_add]
                          have hlt : k < us.length := (List.getElem?_eq_some_iff.1 hv).1
                          rw [show w.cell? ⟨b, k, none⟩ = (us ++ rest)[k]? from by simp [World.cell?, h4], List.getElem?_append_left hlt]
                          exact hv) hln hA hn (by omega) hfit
                        refine ⟨.value v2, v2, w2, _, S, ?_, .inl rfl, m1, m2, m3⟩
                        simp only [execOp, ho]
                        refine append_call hcal hargs hat ?_
                        rw [hs.1, h1, hx]
                        exact hr2
                  · cases h
                · cases h
              · cases h
            · cases h
          · cases h
        · cases h
      · cases h
    · cases h
  · cases h

theorem evG_make {t : TypeId} {lo co : Operand} {id : Nat} {av : AV} {c : Bool} {H' : Hp} {g : Option Nat} (hI : Inv F μ S H w) (hfx : F.fix id = none) (hT : VsOK μ S w tm a.tmps.toList) {ρ : Operand → AV} (hρ : ∀ x, VOK μ S w (ρ x) (a.eval x))
    (h : evG P H (.makeSlice t lo co) ρ id = .go c av H' g) (hc : c = true) : Step P F (.makeSlice t lo co) a w (tmGone tm g) H' av := by
  have hl := hρ lo
  have hcp := hρ co
  simp only [evG] at h
  split at h
  · rename_i e kl n kc m hu hl' hc'
    split at h
    · rename_i i z ty hi hz hty
      split at h
      · rename_i x hof
        split at h
        · rename_i hcs
          cases h
          have hd := of_decide_eq_true hc
          rw [hl', VOK] at hl
          rw [hc', VOK] at hcp
          obtain ⟨it, vz, hi2, hz2, rfl⟩ := zeroAV_eq hz
          rw [hi] at hi2
          cases hi2
          have hzs : vz.cells.size = i.size := by simpa using hcs.2
          obtain ⟨q1, q2, hq, hq1, hq2⟩ := ofCells_ok hof (vs_sc (μ := μ) (S := S) (w := w) vz.cells.toList)
          rw [VsOK] at hq2
          rw [hq2, List.append_nil] at hq
          have hr := run_make (P := P) w t e i vz hu hi hz2 kl kc n m hd.1 hd.2.1 hd.2.2.1 hd.2.2.2
          have hrep : ∀ k : Nat, RdL S w ty (List.replicate k x) (List.replicate k q1).flatten := by
            intro k
            induction k with
            | zero => exact rfl
            | succ k ih => exact ⟨q1, (List.replicate k q1).flatten, by simp [List.replicate_succ], hq1, ih⟩
          have hmade : ∀ k : Nat, (madeCells vz.cells (k * i.size)).toList = (List.replicate k q1).flatten := by
            intro k
            induction k with
            | zero => simp [madeCells]
            | succ k ih =>
              have hs0 : 0 < i.size := by rw [hcs.1]; exact sz_pos ty
              have e1 : (madeCells vz.cells ((k + 1) * i.size)).toList = (madeCells vz.cells (k * i.size)).toList ++ vz.cells.toList := by
                have e2 : ∀ n, (madeCells vz.cells n).toList = (List.range n).map fun j => vz.cells[j % vz.cells.size]! := by
                  intro n; simp [madeCells, Array.toList_range]
                rw [e2, e2, Nat.add_mul, Nat.one_mul, List.range_add, List.map_append]
                congr 1
                apply List.ext_getElem
                · simp [hzs]
                · intro j h1 h2
                  simp only [List.getElem_map, List.getElem_range]
                  have hj : j < i.size := by simpa using h1
                  have e3 : (k * i.size + j) % vz.cells.size = j := by rw [hzs, Nat.mul_comm, Nat.mul_add_mod]; exact Nat.mod_eq_of_lt hj
                  rw [e3, getElem!_pos vz.cells j (by rw [hzs]; exact hj)]
                  simp
              rw [e1, ih, hq, List.replicate_succ', List.flatten_append]
              simp
          have hnm : n.toNat ≤ m.toNat := by omega
          have hsplit : (madeCells vz.cells (m.toNat * i.size)).toList = (List.replicate n.toNat q1).flatten ++ (List.replicate (m.toNat - n.toNat) q1).flatten := by
            rw [hmade, ← List.flatten_append, List.replicate_append_replicate]
            congr 2
            omega
          have hlenm : ((List.replicate n.toNat q1).flatten ++ (List.replicate (m.toNat - n.toNat) q1).flatten).length = m.toNat * sz ty := by
            rw [← hsplit, Array.length_toList, size_madeCells, hcs.1]
          obtain ⟨n1, n2, n3⟩ := newArr_ok hI hT (e := e) (c := m.toNat) id hfx (hrep n.toNat) hlenm (by simp; omega) (by unfold maxLen; omega)
          have ea : ((List.replicate n.toNat q1).flatten ++ (List.replicate (m.toNat - n.toNat) q1).flatten).toArray = madeCells vz.cells (m.toNat * i.size) := by
            apply Array.toList_inj.1; rw [List.toList_toArray, hsplit]
          rw [ea, List.length_replicate] at n1 n2 n3
          refine step_of (fun o ho => ?_) (.inl rfl) n1 n2 n3
          simp only [execOp, ho]
          refine run_val ?_
          rw [hl, hcp]
          exact hr
        · cases h
      · cases h
    · cases h
  · cases h
end
end Go.Proofs.YtigekmmdflaeaaaDoorE
