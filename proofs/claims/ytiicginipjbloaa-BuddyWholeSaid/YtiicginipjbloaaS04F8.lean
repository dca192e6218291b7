import Derived.Test.YtiicginipjbloaaS04F7
set_option linter.all false
namespace Go.Proofs.YtiicginipjbloaaE
open Go Go.Proofs
set_option maxRecDepth 100000
set_option linter.unusedVariables false
variable {D : Prop}
/-! ganger/gangerref00.SameInts -/
noncomputable def tab24 : Tab := Tab.none
noncomputable def la24 : List (List Tidy) := [[.only [0, 1, 5], .ids [7, 9], .top [1000000]]]
noncomputable def hd24_0 (a0 : List (El (.int .i64))) (a1 : List (El (.int .i64))) (ps5 : Int) : St := { tm := slots (nat_lit 26) [(nat_lit 0, AV.row (Ty.int IntKind.i64) a0), (nat_lit 1, AV.row (Ty.int IntKind.i64) a1), (nat_lit 5, AV.sc (Value.int IntKind.i64 ps5))], H := [] }
noncomputable def b24_0 (K : Nat) (a0 : List (El (.int .i64))) (a1 : List (El (.int .i64))) (r0 : Int → Option (Bool)) (ps5 : Int) : Option (Bool) :=(if decide (ps5 < (↑a0.length : Int)) = true then (if decide ((0 : Int) ≤ ps5 ∧ ps5 < (↑a0.length : Int)) = true then (if decide ((0 : Int) ≤ ps5 ∧ ps5 < (↑a1.length : Int)) = true then (if (a0.getD ps5.toNat (zEl (Ty.int IntKind.i64)) != a1.getD ps5.toNat (zEl (Ty.int IntKind.i64))) = true then some (false)
     else r0 (IntKind.i64.wrap (ps5 + (1 : Int))))
    else none)
   else none)
  else some (true))
noncomputable def L24_0 (K : Nat) (a0 : List (El (.int .i64))) (a1 : List (El (.int .i64))) : Nat → Int → Option (Bool)
  | 0, _ => none
  | n + 1, ps5 => b24_0 K a0 a1 (L24_0 K a0 a1 n) ps5
noncomputable def t24 (K : Nat) (a0 : List (El (.int .i64))) (a1 : List (El (.int .i64))) (l0 : Nat → Int → Option (Bool)) : Option (Bool) := (if ((↑a0.length : Int) != (↑a1.length : Int)) = true then some (false)
 else l0 K ((0 : Int)))
noncomputable def G24 (K : Nat) (a0 : List (El (.int .i64))) (a1 : List (El (.int .i64))) : Option (Bool) := t24 K a0 a1 (L24_0 K a0 a1)
theorem lp24_0 (K : Nat) (a0 : List (El (.int .i64))) (a1 : List (El (.int .i64))) : ∀ (n : Nat) (ps5 : Int), loopN Try.prog (tab24) 0 K Try.f24 la24 dq24.k 0 [] n (hd24_0 a0 a1 ps5) = L24_0 K a0 a1 n ps5
  | 0, _ => by kernel_rfl
  | n + 1, ps5 => by
    have h : loopN Try.prog (tab24) 0 K Try.f24 la24 dq24.k 0 [] (n + 1) (hd24_0 a0 a1 ps5) = b24_0 K a0 a1 (fun q0 => loopN Try.prog (tab24) 0 K Try.f24 la24 dq24.k 0 [] n (hd24_0 a0 a1 q0)) ps5 := by kernel_rfl
    rw [h]
    simp only [lp24_0 K a0 a1 n]
    rfl
theorem ev24 (K : Nat) (a0 : List (El (.int .i64))) (a1 : List (El (.int .i64))) : evFun Try.prog (tab24) 0 K Try.f24 la24 [.row (.int .i64) a0, .row (.int .i64) a1] [] dq24.k = G24 K a0 a1 := by
  have h : evFun Try.prog (tab24) 0 K Try.f24 la24 [.row (.int .i64) a0, .row (.int .i64) a1] [] dq24.k = t24 K a0 a1 (fun k q0 => loopN Try.prog (tab24) 0 K Try.f24 la24 dq24.k 0 [] k (hd24_0 a0 a1 q0)) := by kernel_rfl
  rw [h]
  simp only [lp24_0 K a0 a1]
  rfl
noncomputable def F24 (K : Nat) (a0 : List (El (.int .i64))) (a1 : List (El (.int .i64))) : Option (Bool) := G24 K a0 a1
theorem cok24 (K : Nat) : CallOK D Try.prog (tab24) := none_ok
theorem ok24 (K : Nat) : RowOK D Try.prog 24 (row ad24 dq24 fun p => F24 K p.1 p.2) := row_ok fun x r h => has_of (cok24 K) Try.func24 ((ev24 K x.1 x.2).trans h)
/-! ganger/gangerref04.Size -/
noncomputable def tab55 : Tab := Tab.none
noncomputable def la55 : List (List Tidy) := [[.only [0, 3, 4], .ids [], .top [1000000]]]
noncomputable def hd55_0 (a0 : Int) (ps3 : Int) (ps4 : Int) : St := { tm := slots (nat_lit 13) [(nat_lit 0, AV.sc (Value.int IntKind.i64 a0)), (nat_lit 3, AV.sc (Value.int IntKind.i64 ps3)), (nat_lit 4, AV.sc (Value.int IntKind.i64 ps4))], H := [] }
noncomputable def b55_0 (K : Nat) (a0 : Int) (r0 : Int → Int → Option (Int)) (ps3 : Int) (ps4 : Int) : Option (Int) :=(if decide (ps4 < a0) = true then r0 (IntKind.i64.wrap (ps3 * (2 : Int))) (IntKind.i64.wrap (ps4 + (1 : Int)))
  else some (ps3))
noncomputable def L55_0 (K : Nat) (a0 : Int) : Nat → Int → Int → Option (Int)
  | 0, _, _ => none
  | n + 1, ps3, ps4 => b55_0 K a0 (L55_0 K a0 n) ps3 ps4
noncomputable def t55 (K : Nat) (a0 : Int) (l0 : Nat → Int → Int → Option (Int)) : Option (Int) := l0 K ((1 : Int)) ((0 : Int))
noncomputable def G55 (K : Nat) (a0 : Int) : Option (Int) := t55 K a0 (L55_0 K a0)
theorem lp55_0 (K : Nat) (a0 : Int) : ∀ (n : Nat) (ps3 : Int) (ps4 : Int), loopN Try.prog (tab55) 0 K Try.f55 la55 dq55.k 0 [] n (hd55_0 a0 ps3 ps4) = L55_0 K a0 n ps3 ps4
  | 0, _, _ => by kernel_rfl
  | n + 1, ps3, ps4 => by
    have h : loopN Try.prog (tab55) 0 K Try.f55 la55 dq55.k 0 [] (n + 1) (hd55_0 a0 ps3 ps4) = b55_0 K a0 (fun q0 q1 => loopN Try.prog (tab55) 0 K Try.f55 la55 dq55.k 0 [] n (hd55_0 a0 q0 q1)) ps3 ps4 := by kernel_rfl
    rw [h]
    simp only [lp55_0 K a0 n]
    rfl
theorem ev55 (K : Nat) (a0 : Int) : evFun Try.prog (tab55) 0 K Try.f55 la55 [I .i64 a0] [] dq55.k = G55 K a0 := by
  have h : evFun Try.prog (tab55) 0 K Try.f55 la55 [I .i64 a0] [] dq55.k = t55 K a0 (fun k q0 q1 => loopN Try.prog (tab55) 0 K Try.f55 la55 dq55.k 0 [] k (hd55_0 a0 q0 q1)) := by kernel_rfl
  rw [h]
  simp only [lp55_0 K a0]
  rfl
noncomputable def F55 (K : Nat) (a0 : Int) : Option (Int) := G55 K a0
theorem cok55 (K : Nat) : CallOK D Try.prog (tab55) := none_ok
theorem ok55 (K : Nat) : RowOK D Try.prog 55 (row ad55 dq55 fun p => F55 K p) := row_ok fun x r h => has_of (cok55 K) Try.func55 ((ev55 K x).trans h)
/-! ganger/gangerref04.New -/
noncomputable def tab26 (F55 : Int → Option (Int)) : Tab := (Tab.none.add 55 (row ad55 dq55 fun p => F55 p))
noncomputable def t26 (F55 : Int → Option (Int)) (K : Nat) (a0 : Int) : Option (Bool × (Int × (List (El T29) × List Bool)) × Int × Unit) := (if decide (a0 < (0 : Int)) = true then some ((false, (zEl (Ty.int IntKind.i64), [], []), (2 : Int), ()))
 else (if decide (a0 > (10 : Int)) = true then some ((false, (zEl (Ty.int IntKind.i64), [], []), (2 : Int), ()))
  else 
   (Option.bind (F55 a0) fun x0 => (if decide ((0 : Int) ≤ x0 ∧ x0 ≤ x0 ∧ (↑Try.prog.types[(4 : Nat)].bytes : Int) * x0 ≤ (281474976710656 : Int) ∧ x0 ≤ (9223372036854775807 : Int)) = true then some ((true, (a0, [], List.replicate (Int.toNat x0) false), (0 : Int), ()))
    else none))))
noncomputable def G26 (F55 : Int → Option (Int)) (K : Nat) (a0 : Int) : Option (Bool × (Int × (List (El T29) × List Bool)) × Int × Unit) := t26 F55 K a0
theorem ev26 (F55 : Int → Option (Int)) (K : Nat) (a0 : Int) : evFun Try.prog (tab26 F55) 0 K Try.f26 [] [I .i64 a0] (hpB ob26 ()) gq26.k = G26 F55 K a0 := by
  kernel_rfl
noncomputable def F26 (K : Nat) (a0 : Int) : Option (Bool × (Int × (List (El T29) × List Bool)) × Int × Unit) := G26 (F55 K) K a0
theorem cok26 (K : Nat) : CallOK D Try.prog (tab26 (F55 K)) := (add_ok none_ok ent55 (ok55 K))
theorem ok26 (K : Nat) : RowG D Try.prog 26 (rowG (gad ag26 ob26) gq26 fun p => F26 K p.1.1) := rowG_ok fun x r h => ghas_of (cok26 K) Try.func26 ((ev26 (F55 K) K x.1.1).trans h)
/-! (*ganger/gangerref04.Yard).open -/
noncomputable def tab60 (F55 : Int → Option (Int)) : Tab := (Tab.none.add 55 (row ad55 dq55 fun p => F55 p))
noncomputable def la60 : List (List Tidy) := [[.only [0, 3, 4], .pro 3 27 4 (Ty.bool), .ids [27, 33, 45], .top [1000000]], [.only [0, 3, 5], .ids [13, 26, 27], .top [1000001]], [.only [0, 3, 5, 6, 7], .ids [13, 26, 27, 33, 45], .top [1000002]]]
noncomputable def hd60_0 (a0 : El T85) (ps4 : Int) (ph27 : List (Bool)) : St := { tm := slots (nat_lit 64) [(nat_lit 0, AV.eptr T85 a0 (nat_lit 0)), (nat_lit 3, AV.own (nat_lit 27)), (nat_lit 4, AV.sc (Value.int IntKind.i64 ps4))], H := [(nat_lit 27, ABlk.arr (nat_lit 4) Ty.bool ph27)] }
noncomputable def hd60_1 (a0 : El T85) (ps5 : Int) (ph27 : List (Bool)) : St := { tm := slots (nat_lit 64) [(nat_lit 0, AV.eptr T85 a0 (nat_lit 0)), (nat_lit 3, AV.own (nat_lit 27)), (nat_lit 5, AV.sc (Value.int IntKind.i64 ps5))], H := [(nat_lit 27, ABlk.arr (nat_lit 4) Ty.bool ph27)] }
noncomputable def hd60_2 (a0 : El T85) (ps5 : Int) (ps6 : Int) (ps7 : Int) (ph27 : List (Bool)) : St := { tm := slots (nat_lit 64) [(nat_lit 0, AV.eptr T85 a0 (nat_lit 0)), (nat_lit 3, AV.own (nat_lit 27)), (nat_lit 5, AV.sc (Value.int IntKind.i64 ps5)), (nat_lit 6, AV.sc (Value.int IntKind.i64 ps6)), (nat_lit 7, AV.sc (Value.int IntKind.i64 ps7))], H := [(nat_lit 27, ABlk.arr (nat_lit 4) Ty.bool ph27)] }
noncomputable def b60_2 (F55 : Int → Option (Int)) (K : Nat) (a0 : El T85) (r1 : Int → (List (Bool)) → Option (List (El .bool))) (r2 : Int → Int → Int → (List (Bool)) → Option (List (El .bool))) (ps5 : Int) (ps6 : Int) (ps7 : Int) (ph27 : List (Bool)) : Option (List (El .bool)) :=(if decide (ps7 < ps6) = true then (if decide ((0 : Int) ≤ ps5 ∧ ps5 < (↑(List.length a0.2.1) : Int)) = true then (if decide ((0 : Int) ≤ IntKind.i64.wrap ((List.getD a0.2.1 ps5.toNat (zEl T29)).1 + ps7) ∧ IntKind.i64.wrap ((List.getD a0.2.1 ps5.toNat (zEl T29)).1 + ps7) < (↑ph27.length : Int)) = true then r2 (ps5) (ps6) (IntKind.i64.wrap (ps7 + (1 : Int))) (ph27.set (IntKind.i64.wrap ((List.getD a0.2.1 ps5.toNat (zEl T29)).1 + ps7)).toNat false)
    else none)
   else none)
  else r1 (IntKind.i64.wrap (ps5 + (1 : Int))) (ph27))
noncomputable def L60_2 (F55 : Int → Option (Int)) (K : Nat) (a0 : El T85) (r1 : Int → (List (Bool)) → Option (List (El .bool))) : Nat → Int → Int → Int → (List (Bool)) → Option (List (El .bool))
  | 0, _, _, _, _ => none
  | n + 1, ps5, ps6, ps7, ph27 => b60_2 F55 K a0 r1 (L60_2 F55 K a0 r1 n) ps5 ps6 ps7 ph27
noncomputable def b60_1 (F55 : Int → Option (Int)) (K : Nat) (a0 : El T85) (r1 : Int → (List (Bool)) → Option (List (El .bool))) (l2 : Nat → Int → Int → Int → (List (Bool)) → Option (List (El .bool))) (ps5 : Int) (ph27 : List (Bool)) : Option (List (El .bool)) :=(if decide (ps5 < (↑(List.length a0.2.1) : Int)) = true then (if decide ((0 : Int) ≤ ps5 ∧ ps5 < (↑(List.length a0.2.1) : Int)) = true then 
    (Option.bind (F55 (List.getD a0.2.1 ps5.toNat (zEl T29)).2) fun x0 => l2 K (ps5) (x0) ((0 : Int)) (ph27))
   else none)
  else some (ph27))
noncomputable def L60_1 (F55 : Int → Option (Int)) (K : Nat) (a0 : El T85) : Nat → Int → (List (Bool)) → Option (List (El .bool))
  | 0, _, _ => none
  | n + 1, ps5, ph27 => b60_1 F55 K a0 (L60_1 F55 K a0 n) (L60_2 F55 K a0 (L60_1 F55 K a0 n)) ps5 ph27
noncomputable def b60_0 (F55 : Int → Option (Int)) (K : Nat) (a0 : El T85) (r0 : Int → (List (Bool)) → Option (List (El .bool))) (l1 : Nat → Int → (List (Bool)) → Option (List (El .bool))) (ps4 : Int) (ph27 : List (Bool)) : Option (List (El .bool)) :=(if decide (ps4 < (↑(List.length a0.2.2) : Int)) = true then (if decide ((0 : Int) ≤ ps4 ∧ ps4 < (↑(List.length a0.2.2) : Int)) = true then (if decide ((ph27.length + [!List.getD a0.2.2 ps4.toNat (zEl Ty.bool)].length) * Try.prog.types[(4 : Nat)].bytes ≤ (140737488355328 : Nat)) = true then r0 (IntKind.i64.wrap (ps4 + (1 : Int))) (ph27 ++ [!List.getD a0.2.2 ps4.toNat (zEl Ty.bool)])
    else none)
   else none)
  else l1 K ((0 : Int)) (ph27))
noncomputable def L60_0 (F55 : Int → Option (Int)) (K : Nat) (a0 : El T85) : Nat → Int → (List (Bool)) → Option (List (El .bool))
  | 0, _, _ => none
  | n + 1, ps4, ph27 => b60_0 F55 K a0 (L60_0 F55 K a0 n) (L60_1 F55 K a0) ps4 ph27
noncomputable def t60 (F55 : Int → Option (Int)) (K : Nat) (a0 : El T85) (l0 : Nat → Int → (List (Bool)) → Option (List (El .bool))) : Option (List (El .bool)) := l0 K ((0 : Int)) ([])
noncomputable def G60 (F55 : Int → Option (Int)) (K : Nat) (a0 : El T85) : Option (List (El .bool)) := t60 F55 K a0 (L60_0 F55 K a0)
theorem lp60_2 (F55 : Int → Option (Int)) (K : Nat) (a0 : El T85) : ∀ (m1 : Nat) (n : Nat) (ps5 : Int) (ps6 : Int) (ps7 : Int) (ph27 : List (Bool)), loopN Try.prog (tab60 F55) 0 K Try.f60 la60 dq60.k 2 [m1] n (hd60_2 a0 ps5 ps6 ps7 ph27) = L60_2 F55 K a0 (fun q0 q1 => loopN Try.prog (tab60 F55) 0 K Try.f60 la60 dq60.k 1 [] m1 (hd60_1 a0 q0 q1)) n ps5 ps6 ps7 ph27
  | m1, 0, _, _, _, _ => by kernel_rfl
  | m1, n + 1, ps5, ps6, ps7, ph27 => by
    have h : loopN Try.prog (tab60 F55) 0 K Try.f60 la60 dq60.k 2 [m1] (n + 1) (hd60_2 a0 ps5 ps6 ps7 ph27) = b60_2 F55 K a0 (fun q0 q1 => loopN Try.prog (tab60 F55) 0 K Try.f60 la60 dq60.k 1 [] m1 (hd60_1 a0 q0 q1)) (fun q0 q1 q2 q3 => loopN Try.prog (tab60 F55) 0 K Try.f60 la60 dq60.k 2 [m1] n (hd60_2 a0 q0 q1 q2 q3)) ps5 ps6 ps7 ph27 := by kernel_rfl
    rw [h]
    simp only [lp60_2 F55 K a0 m1 n]
    rfl
theorem lp60_1 (F55 : Int → Option (Int)) (K : Nat) (a0 : El T85) : ∀ (n : Nat) (ps5 : Int) (ph27 : List (Bool)), loopN Try.prog (tab60 F55) 0 K Try.f60 la60 dq60.k 1 [] n (hd60_1 a0 ps5 ph27) = L60_1 F55 K a0 n ps5 ph27
  | 0, _, _ => by kernel_rfl
  | n + 1, ps5, ph27 => by
    have h : loopN Try.prog (tab60 F55) 0 K Try.f60 la60 dq60.k 1 [] (n + 1) (hd60_1 a0 ps5 ph27) = b60_1 F55 K a0 (fun q0 q1 => loopN Try.prog (tab60 F55) 0 K Try.f60 la60 dq60.k 1 [] n (hd60_1 a0 q0 q1)) (fun k q0 q1 q2 q3 => loopN Try.prog (tab60 F55) 0 K Try.f60 la60 dq60.k 2 [n] k (hd60_2 a0 q0 q1 q2 q3)) ps5 ph27 := by kernel_rfl
    rw [h]
    simp only [lp60_1 F55 K a0 n, lp60_2 F55 K a0 n]
    rfl
theorem lp60_0 (F55 : Int → Option (Int)) (K : Nat) (a0 : El T85) : ∀ (n : Nat) (ps4 : Int) (ph27 : List (Bool)), loopN Try.prog (tab60 F55) 0 K Try.f60 la60 dq60.k 0 [] n (hd60_0 a0 ps4 ph27) = L60_0 F55 K a0 n ps4 ph27
  | 0, _, _ => by kernel_rfl
  | n + 1, ps4, ph27 => by
    have h : loopN Try.prog (tab60 F55) 0 K Try.f60 la60 dq60.k 0 [] (n + 1) (hd60_0 a0 ps4 ph27) = b60_0 F55 K a0 (fun q0 q1 => loopN Try.prog (tab60 F55) 0 K Try.f60 la60 dq60.k 0 [] n (hd60_0 a0 q0 q1)) (fun k q0 q1 => loopN Try.prog (tab60 F55) 0 K Try.f60 la60 dq60.k 1 [] k (hd60_1 a0 q0 q1)) ps4 ph27 := by kernel_rfl
    rw [h]
    simp only [lp60_0 F55 K a0 n, lp60_1 F55 K a0]
    rfl
theorem ev60 (F55 : Int → Option (Int)) (K : Nat) (a0 : El T85) : evFun Try.prog (tab60 F55) 0 K Try.f60 la60 [.eptr T85 a0 0] [] dq60.k = G60 F55 K a0 := by
  have h : evFun Try.prog (tab60 F55) 0 K Try.f60 la60 [.eptr T85 a0 0] [] dq60.k = t60 F55 K a0 (fun k q0 q1 => loopN Try.prog (tab60 F55) 0 K Try.f60 la60 dq60.k 0 [] k (hd60_0 a0 q0 q1)) := by kernel_rfl
  rw [h]
  simp only [lp60_0 F55 K a0]
  rfl
noncomputable def F60 (K : Nat) (a0 : El T85) : Option (List (El .bool)) := G60 (F55 K) K a0
theorem cok60 (K : Nat) : CallOK D Try.prog (tab60 (F55 K)) := (add_ok none_ok ent55 (ok55 K))
theorem ok60 (K : Nat) : RowOK D Try.prog 60 (row ad60 dq60 fun p => F60 K p) := row_ok fun x r h => has_of (cok60 K) Try.func60 ((ev60 (F55 K) K x).trans h)
/-! ganger/gangerref04.all -/
noncomputable def tab61 : Tab := Tab.none
noncomputable def la61 : List (List Tidy) := [[.only [0, 1, 2, 7], .ids [], .top [1000000]]]
noncomputable def hd61_0 (a0 : List (El .bool)) (a1 : Int) (a2 : Int) (ps7 : Int) : St := { tm := slots (nat_lit 21) [(nat_lit 0, AV.row Ty.bool a0), (nat_lit 1, AV.sc (Value.int IntKind.i64 a1)), (nat_lit 2, AV.sc (Value.int IntKind.i64 a2)), (nat_lit 7, AV.sc (Value.int IntKind.i64 ps7))], H := [] }
noncomputable def b61_0 (K : Nat) (a0 : List (El .bool)) (a1 : Int) (a2 : Int) (r0 : Int → Option (Bool)) (ps7 : Int) : Option (Bool) :=(if decide (ps7 < IntKind.i64.wrap (a1 + a2)) = true then (if decide ((0 : Int) ≤ ps7 ∧ ps7 < (↑a0.length : Int)) = true then (if (!a0.getD ps7.toNat (zEl Ty.bool)) = true then some (false)
    else r0 (IntKind.i64.wrap (ps7 + (1 : Int))))
   else none)
  else some (true))
noncomputable def L61_0 (K : Nat) (a0 : List (El .bool)) (a1 : Int) (a2 : Int) : Nat → Int → Option (Bool)
  | 0, _ => none
  | n + 1, ps7 => b61_0 K a0 a1 a2 (L61_0 K a0 a1 a2 n) ps7
noncomputable def t61 (K : Nat) (a0 : List (El .bool)) (a1 : Int) (a2 : Int) (l0 : Nat → Int → Option (Bool)) : Option (Bool) := l0 K (a1)
noncomputable def G61 (K : Nat) (a0 : List (El .bool)) (a1 : Int) (a2 : Int) : Option (Bool) := t61 K a0 a1 a2 (L61_0 K a0 a1 a2)
theorem lp61_0 (K : Nat) (a0 : List (El .bool)) (a1 : Int) (a2 : Int) : ∀ (n : Nat) (ps7 : Int), loopN Try.prog (tab61) 0 K Try.f61 la61 dq61.k 0 [] n (hd61_0 a0 a1 a2 ps7) = L61_0 K a0 a1 a2 n ps7
  | 0, _ => by kernel_rfl
  | n + 1, ps7 => by
    have h : loopN Try.prog (tab61) 0 K Try.f61 la61 dq61.k 0 [] (n + 1) (hd61_0 a0 a1 a2 ps7) = b61_0 K a0 a1 a2 (fun q0 => loopN Try.prog (tab61) 0 K Try.f61 la61 dq61.k 0 [] n (hd61_0 a0 a1 a2 q0)) ps7 := by kernel_rfl
    rw [h]
    simp only [lp61_0 K a0 a1 a2 n]
    rfl
theorem ev61 (K : Nat) (a0 : List (El .bool)) (a1 : Int) (a2 : Int) : evFun Try.prog (tab61) 0 K Try.f61 la61 [.row .bool a0, I .i64 a1, I .i64 a2] [] dq61.k = G61 K a0 a1 a2 := by
  have h : evFun Try.prog (tab61) 0 K Try.f61 la61 [.row .bool a0, I .i64 a1, I .i64 a2] [] dq61.k = t61 K a0 a1 a2 (fun k q0 => loopN Try.prog (tab61) 0 K Try.f61 la61 dq61.k 0 [] k (hd61_0 a0 a1 a2 q0)) := by kernel_rfl
  rw [h]
  simp only [lp61_0 K a0 a1 a2]
  rfl
noncomputable def F61 (K : Nat) (a0 : List (El .bool)) (a1 : Int) (a2 : Int) : Option (Bool) := G61 K a0 a1 a2
theorem cok61 (K : Nat) : CallOK D Try.prog (tab61) := none_ok
theorem ok61 (K : Nat) : RowOK D Try.prog 61 (row ad61 dq61 fun p => F61 K p.1 p.2.1 p.2.2) := row_ok fun x r h => has_of (cok61 K) Try.func61 ((ev61 K x.1 x.2.1 x.2.2).trans h)
/-! (*ganger/gangerref04.Yard).Free -/
noncomputable def tab30 (F60 : (El T85) → Option (List (El .bool))) (F55 : Int → Option (Int)) (F61 : (List (El .bool)) → Int → Int → Option (Bool)) : Tab := (((Tab.none.add 60 (row ad60 dq60 fun p => F60 p)).add 55 (row ad55 dq55 fun p => F55 p)).add 61 (row ad61 dq61 fun p => F61 p.1 p.2.1 p.2.2))
noncomputable def la30 : List (List Tidy) := [[.only [0, 3, 4, 5], .pro 4 49 29 (T29), .ids [8, 49], .top [1000000]], [.only [0, 3, 4, 5, 6], .ids [8, 11, 48, 49, 52], .top [1000001]]]
noncomputable def hd30_0 (a0 : El T85) (ps5 : Int) (ph8 : List (Bool)) (ph49 : List (El T29)) : St := { tm := slots (nat_lit 55) [(nat_lit 0, AV.eptr T85 a0 (nat_lit 0)), (nat_lit 3, AV.own (nat_lit 8)), (nat_lit 4, AV.own (nat_lit 49)), (nat_lit 5, AV.sc (Value.int IntKind.i64 ps5))], H := [(nat_lit 8, ABlk.arr (nat_lit 4) Ty.bool ph8), (nat_lit 49, ABlk.arr (nat_lit 29) T29 ph49)] }
noncomputable def hd30_1 (a0 : El T85) (ps5 : Int) (ps6 : Int) (ph8 : List (Bool)) (ph49 : List (El T29)) : St := { tm := slots (nat_lit 55) [(nat_lit 0, AV.eptr T85 a0 (nat_lit 0)), (nat_lit 3, AV.own (nat_lit 8)), (nat_lit 4, AV.own (nat_lit 49)), (nat_lit 5, AV.sc (Value.int IntKind.i64 ps5)), (nat_lit 6, AV.sc (Value.int IntKind.i64 ps6))], H := [(nat_lit 8, ABlk.arr (nat_lit 4) Ty.bool ph8), (nat_lit 49, ABlk.arr (nat_lit 29) T29 ph49)] }
noncomputable def b30_1 (F60 : (El T85) → Option (List (El .bool))) (F55 : Int → Option (Int)) (F61 : (List (El .bool)) → Int → Int → Option (Bool)) (K : Nat) (a0 : El T85) (r0 : Int → (List (Bool)) → (List (El T29)) → Option (List (El T29))) (r1 : Int → Int → (List (Bool)) → (List (El T29)) → Option (List (El T29))) (ps5 : Int) (ps6 : Int) (ph8 : List (Bool)) (ph49 : List (El T29)) : Option (List (El T29)) :=(if decide (ps6 < a0.1) = true then 
   (Option.bind (F55 (IntKind.i64.wrap (ps6 + (1 : Int)))) fun x1 => (if (!x1 == (0 : Int)) = true then (if (ps5.tmod x1 == (0 : Int)) = true then 
      (Option.bind (F55 (IntKind.i64.wrap (ps6 + (1 : Int)))) fun x2 => 
       (Option.bind (F61 ph8 ps5 x2) fun x3 => (if x3 = true then r1 (ps5) (IntKind.i64.wrap (ps6 + (1 : Int))) (ph8) (ph49)
        else (if decide ((ph49.length + [(ps5, ps6)].length) * Try.prog.types[(29 : Nat)].bytes ≤ (140737488355328 : Nat)) = true then 
          (Option.bind (F55 ps6) fun x4 => r0 (IntKind.i64.wrap (ps5 + x4)) (ph8) (ph49 ++ [(ps5, ps6)]))
         else none))))
     else (if decide ((ph49.length + [(ps5, ps6)].length) * Try.prog.types[(29 : Nat)].bytes ≤ (140737488355328 : Nat)) = true then 
       (Option.bind (F55 ps6) fun x5 => r0 (IntKind.i64.wrap (ps5 + x5)) (ph8) (ph49 ++ [(ps5, ps6)]))
      else none))
    else none))
  else (if decide ((ph49.length + [(ps5, ps6)].length) * Try.prog.types[(29 : Nat)].bytes ≤ (140737488355328 : Nat)) = true then 
    (Option.bind (F55 ps6) fun x6 => r0 (IntKind.i64.wrap (ps5 + x6)) (ph8) (ph49 ++ [(ps5, ps6)]))
   else none))
noncomputable def L30_1 (F60 : (El T85) → Option (List (El .bool))) (F55 : Int → Option (Int)) (F61 : (List (El .bool)) → Int → Int → Option (Bool)) (K : Nat) (a0 : El T85) (r0 : Int → (List (Bool)) → (List (El T29)) → Option (List (El T29))) : Nat → Int → Int → (List (Bool)) → (List (El T29)) → Option (List (El T29))
  | 0, _, _, _, _ => none
  | n + 1, ps5, ps6, ph8, ph49 => b30_1 F60 F55 F61 K a0 r0 (L30_1 F60 F55 F61 K a0 r0 n) ps5 ps6 ph8 ph49
noncomputable def b30_0 (F60 : (El T85) → Option (List (El .bool))) (F55 : Int → Option (Int)) (F61 : (List (El .bool)) → Int → Int → Option (Bool)) (K : Nat) (a0 : El T85) (r0 : Int → (List (Bool)) → (List (El T29)) → Option (List (El T29))) (l1 : Nat → Int → Int → (List (Bool)) → (List (El T29)) → Option (List (El T29))) (ps5 : Int) (ph8 : List (Bool)) (ph49 : List (El T29)) : Option (List (El T29)) :=(if decide (ps5 < (↑ph8.length : Int)) = true then (if decide ((0 : Int) ≤ ps5 ∧ ps5 < (↑ph8.length : Int)) = true then (if (!ph8.getD ps5.toNat (zEl Ty.bool)) = true then r0 (IntKind.i64.wrap (ps5 + (1 : Int))) (ph8) (ph49)
    else l1 K (ps5) ((0 : Int)) (ph8) (ph49))
   else none)
  else some (ph49))
noncomputable def L30_0 (F60 : (El T85) → Option (List (El .bool))) (F55 : Int → Option (Int)) (F61 : (List (El .bool)) → Int → Int → Option (Bool)) (K : Nat) (a0 : El T85) : Nat → Int → (List (Bool)) → (List (El T29)) → Option (List (El T29))
  | 0, _, _, _ => none
  | n + 1, ps5, ph8, ph49 => b30_0 F60 F55 F61 K a0 (L30_0 F60 F55 F61 K a0 n) (L30_1 F60 F55 F61 K a0 (L30_0 F60 F55 F61 K a0 n)) ps5 ph8 ph49
noncomputable def t30 (F60 : (El T85) → Option (List (El .bool))) (F55 : Int → Option (Int)) (F61 : (List (El .bool)) → Int → Int → Option (Bool)) (K : Nat) (a0 : El T85) (l0 : Nat → Int → (List (Bool)) → (List (El T29)) → Option (List (El T29))) : Option (List (El T29)) := 
 (Option.bind (F60 a0) fun x0 => l0 K ((0 : Int)) (x0) ([]))
noncomputable def G30 (F60 : (El T85) → Option (List (El .bool))) (F55 : Int → Option (Int)) (F61 : (List (El .bool)) → Int → Int → Option (Bool)) (K : Nat) (a0 : El T85) : Option (List (El T29)) := t30 F60 F55 F61 K a0 (L30_0 F60 F55 F61 K a0)
theorem lp30_1 (F60 : (El T85) → Option (List (El .bool))) (F55 : Int → Option (Int)) (F61 : (List (El .bool)) → Int → Int → Option (Bool)) (K : Nat) (a0 : El T85) : ∀ (m0 : Nat) (n : Nat) (ps5 : Int) (ps6 : Int) (ph8 : List (Bool)) (ph49 : List (El T29)), loopN Try.prog (tab30 F60 F55 F61) 0 K Try.f30 la30 dq30.k 1 [m0] n (hd30_1 a0 ps5 ps6 ph8 ph49) = L30_1 F60 F55 F61 K a0 (fun q0 q1 q2 => loopN Try.prog (tab30 F60 F55 F61) 0 K Try.f30 la30 dq30.k 0 [] m0 (hd30_0 a0 q0 q1 q2)) n ps5 ps6 ph8 ph49
  | m0, 0, _, _, _, _ => by kernel_rfl
  | m0, n + 1, ps5, ps6, ph8, ph49 => by
    have h : loopN Try.prog (tab30 F60 F55 F61) 0 K Try.f30 la30 dq30.k 1 [m0] (n + 1) (hd30_1 a0 ps5 ps6 ph8 ph49) = b30_1 F60 F55 F61 K a0 (fun q0 q1 q2 => loopN Try.prog (tab30 F60 F55 F61) 0 K Try.f30 la30 dq30.k 0 [] m0 (hd30_0 a0 q0 q1 q2)) (fun q0 q1 q2 q3 => loopN Try.prog (tab30 F60 F55 F61) 0 K Try.f30 la30 dq30.k 1 [m0] n (hd30_1 a0 q0 q1 q2 q3)) ps5 ps6 ph8 ph49 := by kernel_rfl
    rw [h]
    simp only [lp30_1 F60 F55 F61 K a0 m0 n]
    rfl
theorem lp30_0 (F60 : (El T85) → Option (List (El .bool))) (F55 : Int → Option (Int)) (F61 : (List (El .bool)) → Int → Int → Option (Bool)) (K : Nat) (a0 : El T85) : ∀ (n : Nat) (ps5 : Int) (ph8 : List (Bool)) (ph49 : List (El T29)), loopN Try.prog (tab30 F60 F55 F61) 0 K Try.f30 la30 dq30.k 0 [] n (hd30_0 a0 ps5 ph8 ph49) = L30_0 F60 F55 F61 K a0 n ps5 ph8 ph49
  | 0, _, _, _ => by kernel_rfl
  | n + 1, ps5, ph8, ph49 => by
    have h : loopN Try.prog (tab30 F60 F55 F61) 0 K Try.f30 la30 dq30.k 0 [] (n + 1) (hd30_0 a0 ps5 ph8 ph49) = b30_0 F60 F55 F61 K a0 (fun q0 q1 q2 => loopN Try.prog (tab30 F60 F55 F61) 0 K Try.f30 la30 dq30.k 0 [] n (hd30_0 a0 q0 q1 q2)) (fun k q0 q1 q2 q3 => loopN Try.prog (tab30 F60 F55 F61) 0 K Try.f30 la30 dq30.k 1 [n] k (hd30_1 a0 q0 q1 q2 q3)) ps5 ph8 ph49 := by kernel_rfl
    rw [h]
    simp only [lp30_0 F60 F55 F61 K a0 n, lp30_1 F60 F55 F61 K a0 n]
    rfl
theorem ev30 (F60 : (El T85) → Option (List (El .bool))) (F55 : Int → Option (Int)) (F61 : (List (El .bool)) → Int → Int → Option (Bool)) (K : Nat) (a0 : El T85) : evFun Try.prog (tab30 F60 F55 F61) 0 K Try.f30 la30 [.eptr T85 a0 0] [] dq30.k = G30 F60 F55 F61 K a0 := by
  have h : evFun Try.prog (tab30 F60 F55 F61) 0 K Try.f30 la30 [.eptr T85 a0 0] [] dq30.k = t30 F60 F55 F61 K a0 (fun k q0 q1 q2 => loopN Try.prog (tab30 F60 F55 F61) 0 K Try.f30 la30 dq30.k 0 [] k (hd30_0 a0 q0 q1 q2)) := by kernel_rfl
  rw [h]
  simp only [lp30_0 F60 F55 F61 K a0]
  rfl
noncomputable def F30 (K : Nat) (a0 : El T85) : Option (List (El T29)) := G30 (F60 K) (F55 K) (F61 K) K a0
theorem cok30 (K : Nat) : CallOK D Try.prog (tab30 (F60 K) (F55 K) (F61 K)) := (add_ok (add_ok (add_ok none_ok ent60 (ok60 K)) ent55 (ok55 K)) ent61 (ok61 K))
theorem ok30 (K : Nat) : RowOK D Try.prog 30 (row ad30 dq30 fun p => F30 K p) := row_ok fun x r h => has_of (cok30 K) Try.func30 ((ev30 (F60 K) (F55 K) (F61 K) K x).trans h)
/-! (*ganger/gangerref04.Yard).best -/
noncomputable def tab62 (F30 : (El T85) → Option (List (El T29))) : Tab := (Tab.none.add 30 (row ad30 dq30 fun p => F30 p))
noncomputable def la62 : List (List Tidy) := [[.only [1, 4, 6, 7, 8], .ids [4, 10], .top [1000000]]]
noncomputable def hd62_0 (a0 : El T85) (a1 : Int) (ps7 : Int) (ps8 : Int) (ph10 : List (El T29)) : St := { tm := slots (nat_lit 49) [(nat_lit 1, AV.sc (Value.int IntKind.i64 a1)), (nat_lit 4, AV.ptr (nat_lit 4) (nat_lit 0)), (nat_lit 6, AV.own (nat_lit 10)), (nat_lit 7, AV.sc (Value.int IntKind.i64 ps7)), (nat_lit 8, AV.sc (Value.int IntKind.i64 ps8))], H := [(nat_lit 4, ABlk.box (nat_lit 29) (cellsOf T29 ((0 : Int), (0 : Int)))), (nat_lit 10, ABlk.arr (nat_lit 29) T29 ph10)] }
noncomputable def b62_0 (F30 : (El T85) → Option (List (El T29))) (K : Nat) (a0 : El T85) (a1 : Int) (r0 : Int → Int → (List (El T29)) → Option ((El T29) × Bool)) (ps7 : Int) (ps8 : Int) (ph10 : List (El T29)) : Option ((El T29) × Bool) :=(if decide (ps8 < (↑ph10.length : Int)) = true then (if decide ((0 : Int) ≤ ps8 ∧ ps8 < (↑ph10.length : Int)) = true then (if decide ((ph10.getD ps8.toNat (zEl T29)).2 ≥ a1) = true then (if decide (ps7 < (0 : Int)) = true then r0 (ps8) (IntKind.i64.wrap (ps8 + (1 : Int))) (ph10)
     else (if decide ((0 : Int) ≤ ps8 ∧ ps8 < (↑ph10.length : Int)) = true then (if decide ((0 : Int) ≤ ps7 ∧ ps7 < (↑ph10.length : Int)) = true then (if decide ((ph10.getD ps8.toNat (zEl T29)).2 < (ph10.getD ps7.toNat (zEl T29)).2) = true then r0 (ps8) (IntKind.i64.wrap (ps8 + (1 : Int))) (ph10)
        else r0 (ps7) (IntKind.i64.wrap (ps8 + (1 : Int))) (ph10))
       else none)
      else none))
    else r0 (ps7) (IntKind.i64.wrap (ps8 + (1 : Int))) (ph10))
   else none)
  else (if decide (ps7 < (0 : Int)) = true then some ((((0 : Int), (0 : Int)), false))
   else (if decide ((0 : Int) ≤ ps7 ∧ ps7 < (↑ph10.length : Int)) = true then some ((ph10.getD ps7.toNat (zEl T29), true))
    else none)))
noncomputable def L62_0 (F30 : (El T85) → Option (List (El T29))) (K : Nat) (a0 : El T85) (a1 : Int) : Nat → Int → Int → (List (El T29)) → Option ((El T29) × Bool)
  | 0, _, _, _ => none
  | n + 1, ps7, ps8, ph10 => b62_0 F30 K a0 a1 (L62_0 F30 K a0 a1 n) ps7 ps8 ph10
noncomputable def t62 (F30 : (El T85) → Option (List (El T29))) (K : Nat) (a0 : El T85) (a1 : Int) (l0 : Nat → Int → Int → (List (El T29)) → Option ((El T29) × Bool)) : Option ((El T29) × Bool) := 
 (Option.bind (F30 a0) fun x0 => l0 K ((-1 : Int)) ((0 : Int)) (x0))
noncomputable def G62 (F30 : (El T85) → Option (List (El T29))) (K : Nat) (a0 : El T85) (a1 : Int) : Option ((El T29) × Bool) := t62 F30 K a0 a1 (L62_0 F30 K a0 a1)
theorem lp62_0 (F30 : (El T85) → Option (List (El T29))) (K : Nat) (a0 : El T85) (a1 : Int) : ∀ (n : Nat) (ps7 : Int) (ps8 : Int) (ph10 : List (El T29)), loopN Try.prog (tab62 F30) 0 K Try.f62 la62 dq62.k 0 [] n (hd62_0 a0 a1 ps7 ps8 ph10) = L62_0 F30 K a0 a1 n ps7 ps8 ph10
  | 0, _, _, _ => by kernel_rfl
  | n + 1, ps7, ps8, ph10 => by
    have h : loopN Try.prog (tab62 F30) 0 K Try.f62 la62 dq62.k 0 [] (n + 1) (hd62_0 a0 a1 ps7 ps8 ph10) = b62_0 F30 K a0 a1 (fun q0 q1 q2 => loopN Try.prog (tab62 F30) 0 K Try.f62 la62 dq62.k 0 [] n (hd62_0 a0 a1 q0 q1 q2)) ps7 ps8 ph10 := by kernel_rfl
    rw [h]
    simp only [lp62_0 F30 K a0 a1 n]
    rfl
theorem ev62 (F30 : (El T85) → Option (List (El T29))) (K : Nat) (a0 : El T85) (a1 : Int) : evFun Try.prog (tab62 F30) 0 K Try.f62 la62 [.eptr T85 a0 0, I .i64 a1] [] dq62.k = G62 F30 K a0 a1 := by
  have h : evFun Try.prog (tab62 F30) 0 K Try.f62 la62 [.eptr T85 a0 0, I .i64 a1] [] dq62.k = t62 F30 K a0 a1 (fun k q0 q1 q2 => loopN Try.prog (tab62 F30) 0 K Try.f62 la62 dq62.k 0 [] k (hd62_0 a0 a1 q0 q1 q2)) := by kernel_rfl
  rw [h]
  simp only [lp62_0 F30 K a0 a1]
  rfl
noncomputable def F62 (K : Nat) (a0 : El T85) (a1 : Int) : Option ((El T29) × Bool) := G62 (F30 K) K a0 a1
theorem cok62 (K : Nat) : CallOK D Try.prog (tab62 (F30 K)) := (add_ok none_ok ent30 (ok30 K))
theorem ok62 (K : Nat) : RowOK D Try.prog 62 (row ad62 dq62 fun p => F62 K p.1 p.2) := row_ok fun x r h => has_of (cok62 K) Try.func62 ((ev62 (F30 K) K x.1 x.2).trans h)
/-! (*ganger/gangerref04.Yard).Take -/
noncomputable def tab56 (F62 : (El T85) → Int → Option ((El T29) × Bool)) : Tab := (Tab.none.add 62 (row ad62 dq62 fun p => F62 p.1 p.2))
noncomputable def t56 (F62 : (El T85) → Int → Option ((El T29) × Bool)) (K : Nat) (a0 : Int) (o0 : Int × (List (El T29) × List Bool)) : Option ((Int × Int) × (Int × (List (El T29) × List Bool))) := (if decide (a0 < (0 : Int)) = true then some ((((0 : Int), (2 : Int)), o0))
 else (if decide (a0 > o0.1) = true then some ((((0 : Int), (2 : Int)), o0))
  else 
   (Option.bind (F62 o0 a0) fun x0 => (if (!x0.2) = true then some ((((0 : Int), (5 : Int)), o0))
    else (if decide ((o0.2.1.length + [(x0.1.1, a0)].length) * Try.prog.types[(29 : Nat)].bytes ≤ (140737488355328 : Nat)) = true then some (((x0.1.1, (0 : Int)), o0.1, o0.2.1 ++ [(x0.1.1, a0)], o0.2.2))
     else none)))))
noncomputable def G56 (F62 : (El T85) → Int → Option ((El T29) × Bool)) (K : Nat) (a0 : Int) (o0 : Int × (List (El T29) × List Bool)) : Option ((Int × Int) × (Int × (List (El T29) × List Bool))) := t56 F62 K a0 o0
theorem ev56 (F62 : (El T85) → Int → Option ((El T29) × Bool)) (K : Nat) (a0 : Int) (o0 : Int × (List (El T29) × List Bool)) : evFun Try.prog (tab56 F62) 0 K Try.f56 [] [.ptr 2000000 0, I .i64 a0] (hpB ob56 o0) gq56.k = G56 F62 K a0 o0 := by
  kernel_rfl
noncomputable def F56 (K : Nat) (a0 : Int) (o0 : Int × (List (El T29) × List Bool)) : Option ((Int × Int) × (Int × (List (El T29) × List Bool))) := G56 (F62 K) K a0 o0
theorem cok56 (K : Nat) : CallOK D Try.prog (tab56 (F62 K)) := (add_ok none_ok ent62 (ok62 K))
theorem ok56 (K : Nat) : RowG D Try.prog 56 (rowG (gad ag56 ob56) gq56 fun p => F56 K p.1.1 p.2) := rowG_ok fun x r h => ghas_of (cok56 K) Try.func56 ((ev56 (F62 K) K x.1.1 x.2).trans h)
end Go.Proofs.YtiicginipjbloaaE
