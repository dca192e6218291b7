import Derived.Test.YtipfamkhplkpmaaS15T
set_option linter.all false
namespace Go.Proofs.YtipfamkhplkpmaaE
open Go Go.Proofs
set_option maxRecDepth 100000
set_option linter.unusedVariables false
variable {D : Prop}
/-! ganger/gangerlaw15.named -/
noncomputable def tab8 : Tab := Tab.none
noncomputable def la8 : List (List Tidy) := [[.only [0, 3, 4], .pro 3 23 38 ((Ty.int IntKind.u32).pair T42), .ids [23], .top [1000000]]]
noncomputable def hd8_0 (a0 : List (El T38)) (ps4 : Int) (ph23 : List (El ((Ty.int IntKind.u32).pair T42))) : St := { tm := slots (nat_lit 25) [(nat_lit 0, AV.row ((Ty.int IntKind.u32).pair T42) a0), (nat_lit 3, AV.own (nat_lit 23)), (nat_lit 4, AV.sc (Value.int IntKind.i64 ps4))], H := [(nat_lit 23, ABlk.arr (nat_lit 38) ((Ty.int IntKind.u32).pair T42) ph23)] }
noncomputable def b8_0 (K : Nat) (a0 : List (El T38)) (r0 : Int → (List (El ((Ty.int IntKind.u32).pair T42))) → Option (List (El T38))) (ps4 : Int) (ph23 : List (El ((Ty.int IntKind.u32).pair T42))) : Option (List (El T38)) :=(if decide (ps4 < (↑a0.length : Int)) = true then (if decide ((0 : Int) ≤ ps4 ∧ ps4 < (↑a0.length : Int)) = true then (if decide ((ph23.length + [(IntKind.u32.wrap (IntKind.i64.wrap (ps4 + (1 : Int))), (a0.getD ps4.toNat (zEl ((Ty.int IntKind.u32).pair T42))).2)].length) * Try.prog.types[(38 : Nat)].bytes ≤ (140737488355328 : Nat)) = true then r0 (IntKind.i64.wrap (ps4 + (1 : Int))) (ph23 ++ [(IntKind.u32.wrap (IntKind.i64.wrap (ps4 + (1 : Int))), (a0.getD ps4.toNat (zEl ((Ty.int IntKind.u32).pair T42))).2)])
    else none)
   else none)
  else some (ph23))
noncomputable def L8_0 (K : Nat) (a0 : List (El T38)) : Nat → Int → (List (El ((Ty.int IntKind.u32).pair T42))) → Option (List (El T38))
  | 0, _, _ => none
  | n + 1, ps4, ph23 => b8_0 K a0 (L8_0 K a0 n) ps4 ph23
noncomputable def t8 (K : Nat) (a0 : List (El T38)) (l0 : Nat → Int → (List (El ((Ty.int IntKind.u32).pair T42))) → Option (List (El T38))) : Option (List (El T38)) := l0 K ((0 : Int)) ([])
noncomputable def G8 (K : Nat) (a0 : List (El T38)) : Option (List (El T38)) := t8 K a0 (L8_0 K a0)
theorem lp8_0 (K : Nat) (a0 : List (El T38)) : ∀ (n : Nat) (ps4 : Int) (ph23 : List (El ((Ty.int IntKind.u32).pair T42))), loopN Try.prog (tab8) 0 K Try.f8 la8 dq8.k 0 [] n (hd8_0 a0 ps4 ph23) = L8_0 K a0 n ps4 ph23
  | 0, _, _ => by kernel_rfl
  | n + 1, ps4, ph23 => by
    have h : loopN Try.prog (tab8) 0 K Try.f8 la8 dq8.k 0 [] (n + 1) (hd8_0 a0 ps4 ph23) = b8_0 K a0 (fun q0 q1 => loopN Try.prog (tab8) 0 K Try.f8 la8 dq8.k 0 [] n (hd8_0 a0 q0 q1)) ps4 ph23 := by kernel_rfl
    rw [h]
    simp only [lp8_0 K a0 n]
    rfl
theorem ev8 (K : Nat) (a0 : List (El T38)) : evFun Try.prog (tab8) 0 K Try.f8 la8 [.row T38 a0] [] dq8.k = G8 K a0 := by
  have h : evFun Try.prog (tab8) 0 K Try.f8 la8 [.row T38 a0] [] dq8.k = t8 K a0 (fun k q0 q1 => loopN Try.prog (tab8) 0 K Try.f8 la8 dq8.k 0 [] k (hd8_0 a0 q0 q1)) := by kernel_rfl
  rw [h]
  simp only [lp8_0 K a0]
  rfl
noncomputable def F8 (K : Nat) (a0 : List (El T38)) : Option (List (El T38)) := G8 K a0
theorem cok8 (K : Nat) : CallOK D Try.prog (tab8) := none_ok
theorem ok8 (K : Nat) : RowOK D Try.prog 8 (row ad8 dq8 fun p => F8 K p) := row_ok fun x r h => has_of (cok8 K) Try.func8 ((ev8 K x).trans h)
/-! ganger/gangerlaw15.many -/
noncomputable def tab9 : Tab := Tab.none
noncomputable def t9 (K : Nat) (a0 : El T25) (a1 : List (El T38)) : Option (Bool) := (if decide ((↑(List.length a0.2.2) : Int) > (60 : Int)) = true then (if decide ((↑(List.length a0.2.2) : Int) ≤ (300 : Int)) = true then some (true)
  else (if decide ((↑(List.length a0.2.2) : Int) > (500 : Int)) = true then some (true)
   else (if decide ((↑(List.length a0.2.1) : Int) > (1100 : Int)) = true then some (true)
    else (if decide ((↑a1.length : Int) > (40 : Int)) = true then (if decide ((↑a1.length : Int) ≤ (300 : Int)) = true then some (true)
      else (if decide ((↑a1.length : Int) > (500 : Int)) = true then some (true)
       else (if decide (a0.1 > (6 : Int)) = true then some (decide (a0.1 ≤ (10 : Int)))
        else some (false))))
     else (if decide ((↑a1.length : Int) > (500 : Int)) = true then some (true)
      else (if decide (a0.1 > (6 : Int)) = true then some (decide (a0.1 ≤ (10 : Int)))
       else some (false)))))))
 else (if decide ((↑(List.length a0.2.2) : Int) > (500 : Int)) = true then some (true)
  else (if decide ((↑(List.length a0.2.1) : Int) > (1100 : Int)) = true then some (true)
   else (if decide ((↑a1.length : Int) > (40 : Int)) = true then (if decide ((↑a1.length : Int) ≤ (300 : Int)) = true then some (true)
     else (if decide ((↑a1.length : Int) > (500 : Int)) = true then some (true)
      else (if decide (a0.1 > (6 : Int)) = true then some (decide (a0.1 ≤ (10 : Int)))
       else some (false))))
    else (if decide ((↑a1.length : Int) > (500 : Int)) = true then some (true)
     else (if decide (a0.1 > (6 : Int)) = true then some (decide (a0.1 ≤ (10 : Int)))
      else some (false)))))))
noncomputable def G9 (K : Nat) (a0 : El T25) (a1 : List (El T38)) : Option (Bool) := t9 K a0 a1
theorem ev9 (K : Nat) (a0 : El T25) (a1 : List (El T38)) : evFun Try.prog (tab9) 0 K Try.f9 [] [.agg (cellsOf T25 a0), .row T38 a1] [] dq9.k = G9 K a0 a1 := by
  kernel_rfl
noncomputable def F9 (K : Nat) (a0 : El T25) (a1 : List (El T38)) : Option (Bool) := G9 K a0 a1
theorem cok9 (K : Nat) : CallOK D Try.prog (tab9) := none_ok
theorem ok9 (K : Nat) : RowOK D Try.prog 9 (row ad9 dq9 fun p => F9 K p.1 p.2) := row_ok fun x r h => has_of (cok9 K) Try.func9 ((ev9 K x.1 x.2).trans h)
/-! ganger/gangerlaw15.far -/
noncomputable def tab10 : Tab := Tab.none
noncomputable def la10 : List (List Tidy) := [[.only [1, 3, 7, 8], .ids [3, 11, 12, 31, 45, 46], .top [1000000]], [.only [1, 7, 9], .ids [3, 11, 12, 16, 27, 28], .top [1000001]]]
noncomputable def hd10_0 (a0 : El T25) (a1 : List (El T38)) (a2 : Int) (ps7 : Int) (ps8 : Int) : St := { tm := slots (nat_lit 50) [(nat_lit 1, AV.row ((Ty.int IntKind.u32).pair T42) a1), (nat_lit 3, AV.ptr (nat_lit 3) (nat_lit 0)), (nat_lit 7, AV.sc (Value.int IntKind.i64 ps7)), (nat_lit 8, AV.sc (Value.int IntKind.i64 ps8))], H := [(nat_lit 3, ABlk.box (nat_lit 25) (cellsOf T25 a0))] }
noncomputable def hd10_1 (a0 : El T25) (a1 : List (El T38)) (a2 : Int) (ps7 : Int) (ps9 : Int) : St := { tm := slots (nat_lit 50) [(nat_lit 1, AV.row ((Ty.int IntKind.u32).pair T42) a1), (nat_lit 7, AV.sc (Value.int IntKind.i64 ps7)), (nat_lit 9, AV.sc (Value.int IntKind.i64 ps9))], H := [(nat_lit 3, ABlk.box (nat_lit 25) (cellsOf T25 a0))] }
noncomputable def b10_1 (K : Nat) (a0 : El T25) (a1 : List (El T38)) (a2 : Int) (r1 : Int → Int → Option (Bool)) (ps7 : Int) (ps9 : Int) : Option (Bool) :=(if decide (ps9 < (↑a1.length : Int)) = true then (if decide (ps7 ≤ (4398046511104 : Int)) = true then (if decide ((0 : Int) ≤ ps9 ∧ ps9 < (↑a1.length : Int)) = true then r1 (IntKind.i64.wrap (ps7 + if (8796093022208 : Int) < if (0 : Int) > (a1.getD ps9.toNat (zEl ((Ty.int IntKind.u32).pair T42))).2.2 then (0 : Int) else (a1.getD ps9.toNat (zEl ((Ty.int IntKind.u32).pair T42))).2.2 then (8796093022208 : Int) else if (0 : Int) > (a1.getD ps9.toNat (zEl ((Ty.int IntKind.u32).pair T42))).2.2 then (0 : Int) else (a1.getD ps9.toNat (zEl ((Ty.int IntKind.u32).pair T42))).2.2)) (IntKind.i64.wrap (ps9 + (1 : Int)))
    else none)
   else some (decide (ps7 > (4398046511104 : Int))))
  else some (decide (ps7 > (4398046511104 : Int))))
noncomputable def L10_1 (K : Nat) (a0 : El T25) (a1 : List (El T38)) (a2 : Int) : Nat → Int → Int → Option (Bool)
  | 0, _, _ => none
  | n + 1, ps7, ps9 => b10_1 K a0 a1 a2 (L10_1 K a0 a1 a2 n) ps7 ps9
noncomputable def b10_0 (K : Nat) (a0 : El T25) (a1 : List (El T38)) (a2 : Int) (r0 : Int → Int → Option (Bool)) (l1 : Nat → Int → Int → Option (Bool)) (ps7 : Int) (ps8 : Int) : Option (Bool) :=(if decide (ps8 < (↑(List.length a0.2.2) : Int)) = true then (if decide ((0 : Int) ≤ ps8 ∧ ps8 < (↑(List.length a0.2.2) : Int)) = true then r0 (if (if (8796093022208 : Int) < (List.getD a0.2.2 ps8.toNat (zEl T47)).2.2 then (8796093022208 : Int) else (List.getD a0.2.2 ps8.toNat (zEl T47)).2.2) > ps7 then if (8796093022208 : Int) < (List.getD a0.2.2 ps8.toNat (zEl T47)).2.2 then (8796093022208 : Int) else (List.getD a0.2.2 ps8.toNat (zEl T47)).2.2 else ps7) (IntKind.i64.wrap (ps8 + (1 : Int)))
   else none)
  else l1 K (ps7) ((0 : Int)))
noncomputable def L10_0 (K : Nat) (a0 : El T25) (a1 : List (El T38)) (a2 : Int) : Nat → Int → Int → Option (Bool)
  | 0, _, _ => none
  | n + 1, ps7, ps8 => b10_0 K a0 a1 a2 (L10_0 K a0 a1 a2 n) (L10_1 K a0 a1 a2) ps7 ps8
noncomputable def t10 (K : Nat) (a0 : El T25) (a1 : List (El T38)) (a2 : Int) (l0 : Nat → Int → Int → Option (Bool)) : Option (Bool) := l0 K (if (8796093022208 : Int) < if (0 : Int) > a2 then (0 : Int) else a2 then (8796093022208 : Int) else if (0 : Int) > a2 then (0 : Int) else a2) ((0 : Int))
noncomputable def G10 (K : Nat) (a0 : El T25) (a1 : List (El T38)) (a2 : Int) : Option (Bool) := t10 K a0 a1 a2 (L10_0 K a0 a1 a2)
theorem lp10_1 (K : Nat) (a0 : El T25) (a1 : List (El T38)) (a2 : Int) : ∀ (n : Nat) (ps7 : Int) (ps9 : Int), loopN Try.prog (tab10) 0 K Try.f10 la10 dq10.k 1 [] n (hd10_1 a0 a1 a2 ps7 ps9) = L10_1 K a0 a1 a2 n ps7 ps9
  | 0, _, _ => by kernel_rfl
  | n + 1, ps7, ps9 => by
    have h : loopN Try.prog (tab10) 0 K Try.f10 la10 dq10.k 1 [] (n + 1) (hd10_1 a0 a1 a2 ps7 ps9) = b10_1 K a0 a1 a2 (fun q0 q1 => loopN Try.prog (tab10) 0 K Try.f10 la10 dq10.k 1 [] n (hd10_1 a0 a1 a2 q0 q1)) ps7 ps9 := by kernel_rfl
    rw [h]
    simp only [lp10_1 K a0 a1 a2 n]
    rfl
theorem lp10_0 (K : Nat) (a0 : El T25) (a1 : List (El T38)) (a2 : Int) : ∀ (n : Nat) (ps7 : Int) (ps8 : Int), loopN Try.prog (tab10) 0 K Try.f10 la10 dq10.k 0 [] n (hd10_0 a0 a1 a2 ps7 ps8) = L10_0 K a0 a1 a2 n ps7 ps8
  | 0, _, _ => by kernel_rfl
  | n + 1, ps7, ps8 => by
    have h : loopN Try.prog (tab10) 0 K Try.f10 la10 dq10.k 0 [] (n + 1) (hd10_0 a0 a1 a2 ps7 ps8) = b10_0 K a0 a1 a2 (fun q0 q1 => loopN Try.prog (tab10) 0 K Try.f10 la10 dq10.k 0 [] n (hd10_0 a0 a1 a2 q0 q1)) (fun k q0 q1 => loopN Try.prog (tab10) 0 K Try.f10 la10 dq10.k 1 [] k (hd10_1 a0 a1 a2 q0 q1)) ps7 ps8 := by kernel_rfl
    rw [h]
    simp only [lp10_0 K a0 a1 a2 n, lp10_1 K a0 a1 a2]
    rfl
theorem ev10 (K : Nat) (a0 : El T25) (a1 : List (El T38)) (a2 : Int) : evFun Try.prog (tab10) 0 K Try.f10 la10 [.agg (cellsOf T25 a0), .row T38 a1, I .i64 a2] [] dq10.k = G10 K a0 a1 a2 := by
  have h : evFun Try.prog (tab10) 0 K Try.f10 la10 [.agg (cellsOf T25 a0), .row T38 a1, I .i64 a2] [] dq10.k = t10 K a0 a1 a2 (fun k q0 q1 => loopN Try.prog (tab10) 0 K Try.f10 la10 dq10.k 0 [] k (hd10_0 a0 a1 a2 q0 q1)) := by kernel_rfl
  rw [h]
  simp only [lp10_0 K a0 a1 a2]
  rfl
noncomputable def F10 (K : Nat) (a0 : El T25) (a1 : List (El T38)) (a2 : Int) : Option (Bool) := G10 K a0 a1 a2
theorem cok10 (K : Nat) : CallOK D Try.prog (tab10) := none_ok
theorem ok10 (K : Nat) : RowOK D Try.prog 10 (row ad10 dq10 fun p => F10 K p.1 p.2.1 p.2.2) := row_ok fun x r h => has_of (cok10 K) Try.func10 ((ev10 K x.1 x.2.1 x.2.2).trans h)
/-! ganger/backfill.FIFO$1 -/
noncomputable def tab40 : Tab := Tab.none
noncomputable def t40 (K : Nat) (a0 : Int) : Option (Bool) := some (false)
noncomputable def G40 (K : Nat) (a0 : Int) : Option (Bool) := t40 K a0
theorem ev40 (K : Nat) (a0 : Int) : evFun Try.prog (tab40) 0 K Try.f40 [] [I .i64 a0] [] dq40.k = G40 K a0 := by
  kernel_rfl
noncomputable def F40 (K : Nat) (a0 : Int) : Option (Bool) := G40 K a0
theorem cok40 (K : Nat) : CallOK D Try.prog (tab40) := none_ok
theorem ok40 (K : Nat) : RowOK D Try.prog 40 (row ad40 dq40 fun p => F40 K p) := row_ok fun x r h => has_of (cok40 K) Try.func40 ((ev40 K x).trans h)
/-! ganger/backfill.FIFO$2 -/
noncomputable def tab41 : Tab := Tab.none
noncomputable def t41 (K : Nat) (a0 : Int) : Option (Bool) := some (a0 == (0 : Int))
noncomputable def G41 (K : Nat) (a0 : Int) : Option (Bool) := t41 K a0
theorem ev41 (K : Nat) (a0 : Int) : evFun Try.prog (tab41) 0 K Try.f41 [] [I .i64 a0] [] dq41.k = G41 K a0 := by
  kernel_rfl
noncomputable def F41 (K : Nat) (a0 : Int) : Option (Bool) := G41 K a0
theorem cok41 (K : Nat) : CallOK D Try.prog (tab41) := none_ok
theorem ok41 (K : Nat) : RowOK D Try.prog 41 (row ad41 dq41 fun p => F41 K p) := row_ok fun x r h => has_of (cok41 K) Try.func41 ((ev41 K x).trans h)
/-! ganger/backfill.Easy$1 -/
noncomputable def tab38 : Tab := Tab.none
noncomputable def t38 (K : Nat) (a0 : Int) : Option (Bool) := some (a0 == (1 : Int))
noncomputable def G38 (K : Nat) (a0 : Int) : Option (Bool) := t38 K a0
theorem ev38 (K : Nat) (a0 : Int) : evFun Try.prog (tab38) 0 K Try.f38 [] [I .i64 a0] [] dq38.k = G38 K a0 := by
  kernel_rfl
noncomputable def F38 (K : Nat) (a0 : Int) : Option (Bool) := G38 K a0
theorem cok38 (K : Nat) : CallOK D Try.prog (tab38) := none_ok
theorem ok38 (K : Nat) : RowOK D Try.prog 38 (row ad38 dq38 fun p => F38 K p) := row_ok fun x r h => has_of (cok38 K) Try.func38 ((ev38 K x).trans h)
/-! ganger/backfill.Easy$2 -/
noncomputable def tab39 : Tab := Tab.none
noncomputable def t39 (K : Nat) (a0 : Int) : Option (Bool) := some (true)
noncomputable def G39 (K : Nat) (a0 : Int) : Option (Bool) := t39 K a0
theorem ev39 (K : Nat) (a0 : Int) : evFun Try.prog (tab39) 0 K Try.f39 [] [I .i64 a0] [] dq39.k = G39 K a0 := by
  kernel_rfl
noncomputable def F39 (K : Nat) (a0 : Int) : Option (Bool) := G39 K a0
theorem cok39 (K : Nat) : CallOK D Try.prog (tab39) := none_ok
theorem ok39 (K : Nat) : RowOK D Try.prog 39 (row ad39 dq39 fun p => F39 K p) := row_ok fun x r h => has_of (cok39 K) Try.func39 ((ev39 K x).trans h)
/-! ganger/backfill.Conservative$1 -/
noncomputable def tab42 : Tab := Tab.none
noncomputable def t42 (K : Nat) (a0 : Int) : Option (Bool) := some (true)
noncomputable def G42 (K : Nat) (a0 : Int) : Option (Bool) := t42 K a0
theorem ev42 (K : Nat) (a0 : Int) : evFun Try.prog (tab42) 0 K Try.f42 [] [I .i64 a0] [] dq42.k = G42 K a0 := by
  kernel_rfl
noncomputable def F42 (K : Nat) (a0 : Int) : Option (Bool) := G42 K a0
theorem cok42 (K : Nat) : CallOK D Try.prog (tab42) := none_ok
theorem ok42 (K : Nat) : RowOK D Try.prog 42 (row ad42 dq42 fun p => F42 K p) := row_ok fun x r h => has_of (cok42 K) Try.func42 ((ev42 K x).trans h)
end Go.Proofs.YtipfamkhplkpmaaE
