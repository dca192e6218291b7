import Derived.Test.YtcnfilanbmkpaaaS03F2
set_option linter.all false
namespace Go.Proofs.YtcnfilanbmkpaaaE
open Go Go.Proofs
set_option maxRecDepth 100000
set_option linter.unusedVariables false
variable {D : Prop}
/-! ganger/gangerref03.Check -/
noncomputable def tab16 (F37 : (List (El T35)) → Option (Bool)) (F19 : (El T35) → (El T35) → Option (Bool)) : Tab := ((Tab.none.add 37 (row ad37 dq37 fun p => F37 p)).add 19 (row ad19 dq19 fun p => F19 p.1 p.2))
noncomputable def la16 : List (List Tidy) := [[.only [0, 3], .ids [5], .top [1000000]]]
noncomputable def hd16_0 (a0 : List (El T35)) (ps3 : Int) : St := { tm := slots (nat_lit 23) [(nat_lit 0, AV.row T35 a0), (nat_lit 3, AV.sc (Value.int IntKind.i64 ps3))], H := [] }
noncomputable def b16_0 (F37 : (List (El T35)) → Option (Bool)) (F19 : (El T35) → (El T35) → Option (Bool)) (K : Nat) (a0 : List (El T35)) (r0 : Int → Option (Int)) (ps3 : Int) : Option (Int) :=(if decide (ps3 < (↑a0.length : Int)) = true then (if decide ((0 : Int) ≤ IntKind.i64.wrap (ps3 - (1 : Int)) ∧ IntKind.i64.wrap (ps3 - (1 : Int)) < (↑a0.length : Int)) = true then (if decide ((0 : Int) ≤ ps3 ∧ ps3 < (↑a0.length : Int)) = true then 
     (Option.bind (F19 (a0.getD (IntKind.i64.wrap (ps3 - (1 : Int))).toNat (zEl T35)) (a0.getD ps3.toNat (zEl T35))) fun x1 => (if (!x1) = true then some ((2 : Int))
      else r0 (IntKind.i64.wrap (ps3 + (1 : Int)))))
    else none)
   else none)
  else some ((0 : Int)))
noncomputable def L16_0 (F37 : (List (El T35)) → Option (Bool)) (F19 : (El T35) → (El T35) → Option (Bool)) (K : Nat) (a0 : List (El T35)) : Nat → Int → Option (Int)
  | 0, _ => none
  | n + 1, ps3 => b16_0 F37 F19 K a0 (L16_0 F37 F19 K a0 n) ps3
noncomputable def t16 (F37 : (List (El T35)) → Option (Bool)) (F19 : (El T35) → (El T35) → Option (Bool)) (K : Nat) (a0 : List (El T35)) (l0 : Nat → Int → Option (Int)) : Option (Int) := 
 (Option.bind (F37 a0) fun x0 => (if x0 = true then some ((30 : Int))
  else l0 K ((1 : Int))))
noncomputable def G16 (F37 : (List (El T35)) → Option (Bool)) (F19 : (El T35) → (El T35) → Option (Bool)) (K : Nat) (a0 : List (El T35)) : Option (Int) := t16 F37 F19 K a0 (L16_0 F37 F19 K a0)
theorem lp16_0 (F37 : (List (El T35)) → Option (Bool)) (F19 : (El T35) → (El T35) → Option (Bool)) (K : Nat) (a0 : List (El T35)) : ∀ (n : Nat) (ps3 : Int), loopN Try.prog (tab16 F37 F19) 0 K Try.f16 la16 dq16.k 0 [] n (hd16_0 a0 ps3) = L16_0 F37 F19 K a0 n ps3
  | 0, _ => by kernel_rfl
  | n + 1, ps3 => by
    have h : loopN Try.prog (tab16 F37 F19) 0 K Try.f16 la16 dq16.k 0 [] (n + 1) (hd16_0 a0 ps3) = b16_0 F37 F19 K a0 (fun q0 => loopN Try.prog (tab16 F37 F19) 0 K Try.f16 la16 dq16.k 0 [] n (hd16_0 a0 q0)) ps3 := by kernel_rfl
    rw [h]
    simp only [lp16_0 F37 F19 K a0 n]
    rfl
theorem ev16 (F37 : (List (El T35)) → Option (Bool)) (F19 : (El T35) → (El T35) → Option (Bool)) (K : Nat) (a0 : List (El T35)) : evFun Try.prog (tab16 F37 F19) 0 K Try.f16 la16 [.row T35 a0] [] dq16.k = G16 F37 F19 K a0 := by
  have h : evFun Try.prog (tab16 F37 F19) 0 K Try.f16 la16 [.row T35 a0] [] dq16.k = t16 F37 F19 K a0 (fun k q0 => loopN Try.prog (tab16 F37 F19) 0 K Try.f16 la16 dq16.k 0 [] k (hd16_0 a0 q0)) := by kernel_rfl
  rw [h]
  simp only [lp16_0 F37 F19 K a0]
  rfl
noncomputable def F16 (K : Nat) (a0 : List (El T35)) : Option (Int) := G16 (F37 K) (F19 K) K a0
theorem cok16 (K : Nat) : CallOK D Try.prog (tab16 (F37 K) (F19 K)) := (add_ok (add_ok none_ok ent37 (ok37 K)) ent19 (ok19 K))
theorem ok16 (K : Nat) : RowOK D Try.prog 16 (row ad16 dq16 fun p => F16 K p) := row_ok fun x r h => has_of (cok16 K) Try.func16 ((ev16 (F37 K) (F19 K) K x).trans h)
/-! ganger/gangerref03.Same -/
noncomputable def tab17 : Tab := Tab.none
noncomputable def la17 : List (List Tidy) := [[.only [0, 1, 5], .ids [7, 9], .top [1000000]]]
noncomputable def hd17_0 (a0 : List (El T35)) (a1 : List (El T35)) (ps5 : Int) : St := { tm := slots (nat_lit 26) [(nat_lit 0, AV.row T35 a0), (nat_lit 1, AV.row T35 a1), (nat_lit 5, AV.sc (Value.int IntKind.i64 ps5))], H := [] }
noncomputable def b17_0 (K : Nat) (a0 : List (El T35)) (a1 : List (El T35)) (r0 : Int → Option (Bool)) (ps5 : Int) : Option (Bool) :=(if decide (ps5 < (↑a0.length : Int)) = true then (if decide ((0 : Int) ≤ ps5 ∧ ps5 < (↑a0.length : Int)) = true then (if decide ((0 : Int) ≤ ps5 ∧ ps5 < (↑a1.length : Int)) = true then (if (!((a0.getD ps5.toNat (zEl T35)).1 == (a1.getD ps5.toNat (zEl T35)).1 && ((a0.getD ps5.toNat (zEl T35)).2.1 == (a1.getD ps5.toNat (zEl T35)).2.1 && (a0.getD ps5.toNat (zEl T35)).2.2 == (a1.getD ps5.toNat (zEl T35)).2.2))) = true then some (false)
     else r0 (IntKind.i64.wrap (ps5 + (1 : Int))))
    else none)
   else none)
  else some (true))
noncomputable def L17_0 (K : Nat) (a0 : List (El T35)) (a1 : List (El T35)) : Nat → Int → Option (Bool)
  | 0, _ => none
  | n + 1, ps5 => b17_0 K a0 a1 (L17_0 K a0 a1 n) ps5
noncomputable def t17 (K : Nat) (a0 : List (El T35)) (a1 : List (El T35)) (l0 : Nat → Int → Option (Bool)) : Option (Bool) := (if ((↑a0.length : Int) != (↑a1.length : Int)) = true then some (false)
 else l0 K ((0 : Int)))
noncomputable def G17 (K : Nat) (a0 : List (El T35)) (a1 : List (El T35)) : Option (Bool) := t17 K a0 a1 (L17_0 K a0 a1)
theorem lp17_0 (K : Nat) (a0 : List (El T35)) (a1 : List (El T35)) : ∀ (n : Nat) (ps5 : Int), loopN Try.prog (tab17) 0 K Try.f17 la17 dq17.k 0 [] n (hd17_0 a0 a1 ps5) = L17_0 K a0 a1 n ps5
  | 0, _ => by kernel_rfl
  | n + 1, ps5 => by
    have h : loopN Try.prog (tab17) 0 K Try.f17 la17 dq17.k 0 [] (n + 1) (hd17_0 a0 a1 ps5) = b17_0 K a0 a1 (fun q0 => loopN Try.prog (tab17) 0 K Try.f17 la17 dq17.k 0 [] n (hd17_0 a0 a1 q0)) ps5 := by kernel_rfl
    rw [h]
    simp only [lp17_0 K a0 a1 n]
    rfl
theorem ev17 (K : Nat) (a0 : List (El T35)) (a1 : List (El T35)) : evFun Try.prog (tab17) 0 K Try.f17 la17 [.row T35 a0, .row T35 a1] [] dq17.k = G17 K a0 a1 := by
  have h : evFun Try.prog (tab17) 0 K Try.f17 la17 [.row T35 a0, .row T35 a1] [] dq17.k = t17 K a0 a1 (fun k q0 => loopN Try.prog (tab17) 0 K Try.f17 la17 dq17.k 0 [] k (hd17_0 a0 a1 q0)) := by kernel_rfl
  rw [h]
  simp only [lp17_0 K a0 a1]
  rfl
noncomputable def F17 (K : Nat) (a0 : List (El T35)) (a1 : List (El T35)) : Option (Bool) := G17 K a0 a1
theorem cok17 (K : Nat) : CallOK D Try.prog (tab17) := none_ok
theorem ok17 (K : Nat) : RowOK D Try.prog 17 (row ad17 dq17 fun p => F17 K p.1 p.2) := row_ok fun x r h => has_of (cok17 K) Try.func17 ((ev17 K x.1 x.2).trans h)
end Go.Proofs.YtcnfilanbmkpaaaE
