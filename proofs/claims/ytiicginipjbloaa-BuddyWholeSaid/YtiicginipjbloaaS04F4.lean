import Derived.Test.YtiicginipjbloaaS04W45
set_option linter.all false
namespace Go.Proofs.YtiicginipjbloaaE
open Go Go.Proofs
set_option maxRecDepth 100000
set_option linter.unusedVariables false
variable {D : Prop}
/-! ganger/buddy.in -/
noncomputable def tab42 (F63 : Int → Option (Int)) : Tab := (Tab.none.add 63 (row ad63 dq63 fun p => F63 p))
noncomputable def t42 (F63 : Int → Option (Int)) (K : Nat) (a0 : El T29) (a1 : Int) : Option (Bool) := (if decide (a1 ≥ a0.1) = true then 
  (Option.bind (F63 a0.2) fun x0 => some (decide (a1 < IntKind.i64.wrap (a0.1 + x0))))
 else some (false))
noncomputable def G42 (F63 : Int → Option (Int)) (K : Nat) (a0 : El T29) (a1 : Int) : Option (Bool) := t42 F63 K a0 a1
theorem ev42 (F63 : Int → Option (Int)) (K : Nat) (a0 : El T29) (a1 : Int) : evFun Try.prog (tab42 F63) 0 K Try.f42 [] [.agg (cellsOf T29 a0), I .i64 a1] [] dq42.k = G42 F63 K a0 a1 := by
  kernel_rfl
noncomputable def F42 (K : Nat) (a0 : El T29) (a1 : Int) : Option (Bool) := G42 (F63 K) K a0 a1
theorem cok42 (K : Nat) : CallOK D Try.prog (tab42 (F63 K)) := (add_ok none_ok ent63 (ok63 K))
theorem ok42 (K : Nat) : RowOK D Try.prog 42 (row ad42 dq42 fun p => F42 K p.1 p.2) := row_ok fun x r h => has_of (cok42 K) Try.func42 ((ev42 (F63 K) K x.1 x.2).trans h)
/-! (*ganger/buddy.Yard).open$1 -/
noncomputable def tab70 (F42 : (El T29) → Int → Option (Bool)) : Tab := (Tab.none.add 42 (row ad42 dq42 fun p => F42 p.1 p.2))
noncomputable def t70 (F42 : (El T29) → Int → Option (Bool)) (K : Nat) (a0 : Int) (a1 : El T29) : Option (Bool) := 
 (Option.bind (F42 a1 a0) fun x0 => some (x0))
noncomputable def G70 (F42 : (El T29) → Int → Option (Bool)) (K : Nat) (a0 : Int) (a1 : El T29) : Option (Bool) := t70 F42 K a0 a1
theorem ev70 (F42 : (El T29) → Int → Option (Bool)) (K : Nat) (a0 : Int) (a1 : El T29) : evFun Try.prog (tab70 F42) 0 K Try.f70 [] [I .i64 a0, .eptr T29 a1 0] [] dq70.k = G70 F42 K a0 a1 := by
  kernel_rfl
noncomputable def F70 (K : Nat) (a0 : Int) (a1 : El T29) : Option (Bool) := G70 (F42 K) K a0 a1
theorem cok70 (K : Nat) : CallOK D Try.prog (tab70 (F42 K)) := (add_ok none_ok ent42 (ok42 K))
theorem ok70 (K : Nat) : RowOK D Try.prog 70 (row ad70 dq70 fun p => F70 K p.1 p.2) := row_ok fun x r h => has_of (cok70 K) Try.func70 ((ev70 (F42 K) K x.1 x.2).trans h)
/-! slices.IndexFunc[[]int,int] -/
noncomputable def tab87 (F70 : Int → (El T29) → Option (Bool)) : Tab := (Tab.none.add 70 (row ad70 dq70 fun p => F70 p.1 p.2))
noncomputable def la87 : List (List Tidy) := [[.only [0, 1, 7, 8], .ids [7], .top [1000000]]]
noncomputable def hd87_0 (a0 : List (El (.int .i64))) (a1 : El T29) (ps8 : Int) : St := { tm := slots (nat_lit 19) [(nat_lit 0, AV.row (Ty.int IntKind.i64) a0), (nat_lit 1, AV.fn (nat_lit 70) [AV.eptr T29 a1 (nat_lit 0)]), (nat_lit 7, AV.sc (Value.int IntKind.i64 (↑a0.length : Int))), (nat_lit 8, AV.sc (Value.int IntKind.i64 ps8))], H := [] }
noncomputable def b87_0 (F70 : Int → (El T29) → Option (Bool)) (K : Nat) (a0 : List (El (.int .i64))) (a1 : El T29) (r0 : Int → Option (Int)) (ps8 : Int) : Option (Int) :=(if decide (ps8 < (↑a0.length : Int)) = true then (if decide ((0 : Int) ≤ ps8 ∧ ps8 < (↑a0.length : Int)) = true then 
    (Option.bind (F70 (a0.getD ps8.toNat (zEl (Ty.int IntKind.i64))) a1) fun x0 => (if x0 = true then some (ps8)
     else r0 (IntKind.i64.wrap (ps8 + (1 : Int)))))
   else none)
  else some ((-1 : Int)))
noncomputable def L87_0 (F70 : Int → (El T29) → Option (Bool)) (K : Nat) (a0 : List (El (.int .i64))) (a1 : El T29) : Nat → Int → Option (Int)
  | 0, _ => none
  | n + 1, ps8 => b87_0 F70 K a0 a1 (L87_0 F70 K a0 a1 n) ps8
noncomputable def t87 (F70 : Int → (El T29) → Option (Bool)) (K : Nat) (a0 : List (El (.int .i64))) (a1 : El T29) (l0 : Nat → Int → Option (Int)) : Option (Int) := l0 K ((0 : Int))
noncomputable def G87 (F70 : Int → (El T29) → Option (Bool)) (K : Nat) (a0 : List (El (.int .i64))) (a1 : El T29) : Option (Int) := t87 F70 K a0 a1 (L87_0 F70 K a0 a1)
theorem lp87_0 (F70 : Int → (El T29) → Option (Bool)) (K : Nat) (a0 : List (El (.int .i64))) (a1 : El T29) : ∀ (n : Nat) (ps8 : Int), loopN Try.prog (tab87 F70) 0 K Try.f87 la87 dq87.k 0 [] n (hd87_0 a0 a1 ps8) = L87_0 F70 K a0 a1 n ps8
  | 0, _ => by kernel_rfl
  | n + 1, ps8 => by
    have h : loopN Try.prog (tab87 F70) 0 K Try.f87 la87 dq87.k 0 [] (n + 1) (hd87_0 a0 a1 ps8) = b87_0 F70 K a0 a1 (fun q0 => loopN Try.prog (tab87 F70) 0 K Try.f87 la87 dq87.k 0 [] n (hd87_0 a0 a1 q0)) ps8 := by kernel_rfl
    rw [h]
    simp only [lp87_0 F70 K a0 a1 n]
    rfl
theorem ev87 (F70 : Int → (El T29) → Option (Bool)) (K : Nat) (a0 : List (El (.int .i64))) (a1 : El T29) : evFun Try.prog (tab87 F70) 0 K Try.f87 la87 [.row (.int .i64) a0, .fn 70 [.eptr T29 a1 0]] [] dq87.k = G87 F70 K a0 a1 := by
  have h : evFun Try.prog (tab87 F70) 0 K Try.f87 la87 [.row (.int .i64) a0, .fn 70 [.eptr T29 a1 0]] [] dq87.k = t87 F70 K a0 a1 (fun k q0 => loopN Try.prog (tab87 F70) 0 K Try.f87 la87 dq87.k 0 [] k (hd87_0 a0 a1 q0)) := by kernel_rfl
  rw [h]
  simp only [lp87_0 F70 K a0 a1]
  rfl
noncomputable def F87 (K : Nat) (a0 : List (El (.int .i64))) (a1 : El T29) : Option (Int) := G87 (F70 K) K a0 a1
theorem cok87 (K : Nat) : CallOK D Try.prog (tab87 (F70 K)) := (add_ok none_ok ent70 (ok70 K))
theorem ok87 (K : Nat) : RowOK D Try.prog 87 (row ad87 dq87 fun p => F87 K p.1 p.2) := row_ok fun x r h => has_of (cok87 K) Try.func87 ((ev87 (F70 K) K x.1 x.2).trans h)
/-! slices.ContainsFunc[[]int,int] -/
noncomputable def tab69 (F87 : (List (El (.int .i64))) → (El T29) → Option (Int)) : Tab := (Tab.none.add 87 (row ad87 dq87 fun p => F87 p.1 p.2))
noncomputable def t69 (F87 : (List (El (.int .i64))) → (El T29) → Option (Int)) (K : Nat) (a0 : List (El (.int .i64))) (a1 : El T29) : Option (Bool) := 
 (Option.bind (F87 a0 a1) fun x0 => some (decide (x0 ≥ (0 : Int))))
noncomputable def G69 (F87 : (List (El (.int .i64))) → (El T29) → Option (Int)) (K : Nat) (a0 : List (El (.int .i64))) (a1 : El T29) : Option (Bool) := t69 F87 K a0 a1
theorem ev69 (F87 : (List (El (.int .i64))) → (El T29) → Option (Int)) (K : Nat) (a0 : List (El (.int .i64))) (a1 : El T29) : evFun Try.prog (tab69 F87) 0 K Try.f69 [] [.row (.int .i64) a0, .fn 70 [.eptr T29 a1 0]] [] dq69.k = G69 F87 K a0 a1 := by
  kernel_rfl
noncomputable def F69 (K : Nat) (a0 : List (El (.int .i64))) (a1 : El T29) : Option (Bool) := G69 (F87 K) K a0 a1
theorem cok69 (K : Nat) : CallOK D Try.prog (tab69 (F87 K)) := (add_ok none_ok ent87 (ok87 K))
theorem ok69 (K : Nat) : RowOK D Try.prog 69 (row ad69 dq69 fun p => F69 K p.1 p.2) := row_ok fun x r h => has_of (cok69 K) Try.func69 ((ev69 (F87 K) K x.1 x.2).trans h)
/-! (*ganger/buddy.Yard).lay -/
noncomputable def tab54 (F63 : Int → Option (Int)) (F50 : (List (El (.int .i64))) → Int → Option (Int × Bool)) (F53 : (Int × Int) → List (El (.int .i64)) → Option (List (El (.int .i64)))) (F51 : (Int × List Int) → List (El (.int .i64)) → Option (List (El (.int .i64)))) : Tab := ((((Tab.none.add 63 (row ad63 dq63 fun p => F63 p)).add 50 (row ad50 dq50 fun p => F50 p.1 p.2)).addW 53 (rowW (.int .i64) ad53 F53 true)).addW 51 (rowWE 3 (.int .i64) ad51 F51 true))
noncomputable def la54 : List (List Tidy) := [[.caseB 3 1 7, .reno 49 400000, .reno 49 400001, .reno 49 400002, .reno 49 400003, .reno 49 400004, .reno 49 400005, .reno 49 400006, .only [0, 3], .ids [3, 71, 87, 88], .top [1000000]]]
noncomputable def hd54_0 (a0 : El T29) (o0 : Int × (List Int × (List Int × (List Int × (List Int × (List Int × (List Int × (List Int × (List Int × (List Int × (List Int × (List Int × (List (El T29) × (List Int)))))))))))))) (ph3 : El T29) (ph400000 : List (Int)) (ph400001 : List (Int)) (ph400002 : List (Int)) (ph400003 : List (Int)) (ph400004 : List (Int)) (ph400005 : List (Int)) (ph400006 : List (Int)) : St := { tm := slots (nat_lit 92) [(nat_lit 0, AV.ptr (nat_lit 2000000) (nat_lit 0)), (nat_lit 3, AV.ptr (nat_lit 3) (nat_lit 0))], H := [(nat_lit 3, ABlk.box (nat_lit 29) (cellsOf T29 ph3)), (nat_lit 400000, ABlk.arr (nat_lit 3) (Ty.int IntKind.i64) ph400000), (nat_lit 400001, ABlk.arr (nat_lit 3) (Ty.int IntKind.i64) ph400001), (nat_lit 400002, ABlk.arr (nat_lit 3) (Ty.int IntKind.i64) ph400002), (nat_lit 400003, ABlk.arr (nat_lit 3) (Ty.int IntKind.i64) ph400003), (nat_lit 400004, ABlk.arr (nat_lit 3) (Ty.int IntKind.i64) ph400004), (nat_lit 400005, ABlk.arr (nat_lit 3) (Ty.int IntKind.i64) ph400005), (nat_lit 400006, ABlk.arr (nat_lit 3) (Ty.int IntKind.i64) ph400006), (nat_lit 400007, ABlk.arr (nat_lit 3) (Ty.int IntKind.i64) o0.2.2.2.2.2.2.2.2.1), (nat_lit 400008, ABlk.arr (nat_lit 3) (Ty.int IntKind.i64) o0.2.2.2.2.2.2.2.2.2.1), (nat_lit 400009, ABlk.arr (nat_lit 3) (Ty.int IntKind.i64) o0.2.2.2.2.2.2.2.2.2.2.1), (nat_lit 400010, ABlk.arr (nat_lit 3) (Ty.int IntKind.i64) o0.2.2.2.2.2.2.2.2.2.2.2.1), (nat_lit 400011, ABlk.arr (nat_lit 29) T29 o0.2.2.2.2.2.2.2.2.2.2.2.2.1), (nat_lit 400012, ABlk.arr (nat_lit 3) (Ty.int IntKind.i64) o0.2.2.2.2.2.2.2.2.2.2.2.2.2), (nat_lit 2000000, ABlk.box (nat_lit 65) [AV.sc (Value.int IntKind.i64 o0.1), AV.own (nat_lit 400000), AV.own (nat_lit 400001), AV.own (nat_lit 400002), AV.own (nat_lit 400003), AV.own (nat_lit 400004), AV.own (nat_lit 400005), AV.own (nat_lit 400006), AV.own (nat_lit 400007), AV.own (nat_lit 400008), AV.own (nat_lit 400009), AV.own (nat_lit 400010), AV.own (nat_lit 400011), AV.own (nat_lit 400012)])] }
noncomputable def b54_0 (F63 : Int → Option (Int)) (F50 : (List (El (.int .i64))) → Int → Option (Int × Bool)) (F53 : (Int × Int) → List (El (.int .i64)) → Option (List (El (.int .i64)))) (F51 : (Int × List Int) → List (El (.int .i64)) → Option (List (El (.int .i64)))) (K : Nat) (a0 : El T29) (o0 : Int × (List Int × (List Int × (List Int × (List Int × (List Int × (List Int × (List Int × (List Int × (List Int × (List Int × (List Int × (List (El T29) × (List Int)))))))))))))) (r0 : (El T29) → (List (Int)) → (List (Int)) → (List (Int)) → (List (Int)) → (List (Int)) → (List (Int)) → (List (Int)) → Option (Unit × (Int × (List Int × (List Int × (List Int × (List Int × (List Int × (List Int × (List Int × (List Int × (List Int × (List Int × (List Int × (List (El T29) × (List Int)))))))))))))))) (ph3 : El T29) (ph400000 : List (Int)) (ph400001 : List (Int)) (ph400002 : List (Int)) (ph400003 : List (Int)) (ph400004 : List (Int)) (ph400005 : List (Int)) (ph400006 : List (Int)) : Option (Unit × (Int × (List Int × (List Int × (List Int × (List Int × (List Int × (List Int × (List Int × (List Int × (List Int × (List Int × (List Int × (List (El T29) × (List Int))))))))))))))) :=(if decide (ph3.2 = Int.ofNat (0 : Nat)) = true then (if decide (Int.ofNat (0 : Nat) < o0.1) = true then 
    (Option.bind (F63 (Int.ofNat (0 : Nat))) fun x0 => 
     (Option.bind (F50 ph400000 (IntKind.i64.wrap (↑(BitVec.ofInt IntKind.i64.bits ph3.1 ^^^ BitVec.ofInt IntKind.i64.bits x0).toNat : Int))) fun x1 => (if (!x1.2) = true then 
       (Option.bind (F50 ph400000 ph3.1) fun x2 => 
        (Option.bind (F51 (x2.1, [ph3.1]) ph400000) fun x3 => some (((), o0.1, x3, ph400001, ph400002, ph400003, ph400004, ph400005, ph400006, o0.2.2.2.2.2.2.2.2))))
      else 
       (Option.bind (F53 (x1.1, IntKind.i64.wrap (x1.1 + (1 : Int))) ph400000) fun x4 => r0 ((if IntKind.i64.wrap (↑(BitVec.ofInt IntKind.i64.bits ph3.1 ^^^ BitVec.ofInt IntKind.i64.bits x0).toNat : Int) < ph3.1 then IntKind.i64.wrap (↑(BitVec.ofInt IntKind.i64.bits ph3.1 ^^^ BitVec.ofInt IntKind.i64.bits x0).toNat : Int) else ph3.1, IntKind.i64.wrap (Int.ofNat (0 : Nat) + (1 : Int)))) (x4) (ph400001) (ph400002) (ph400003) (ph400004) (ph400005) (ph400006)))))
   else 
    (Option.bind (F50 ph400000 ph3.1) fun x5 => 
     (Option.bind (F51 (x5.1, [ph3.1]) ph400000) fun x6 => some (((), o0.1, x6, ph400001, ph400002, ph400003, ph400004, ph400005, ph400006, o0.2.2.2.2.2.2.2.2)))))
  else (if decide (ph3.2 = Int.ofNat ((0 : Nat) + (1 : Nat))) = true then (if decide (Int.ofNat ((0 : Nat) + (1 : Nat)) < o0.1) = true then 
     (Option.bind (F63 (Int.ofNat ((0 : Nat) + (1 : Nat)))) fun x7 => 
      (Option.bind (F50 ph400001 (IntKind.i64.wrap (↑(BitVec.ofInt IntKind.i64.bits ph3.1 ^^^ BitVec.ofInt IntKind.i64.bits x7).toNat : Int))) fun x8 => (if (!x8.2) = true then 
        (Option.bind (F50 ph400001 ph3.1) fun x9 => 
         (Option.bind (F51 (x9.1, [ph3.1]) ph400001) fun x10 => some (((), o0.1, ph400000, x10, ph400002, ph400003, ph400004, ph400005, ph400006, o0.2.2.2.2.2.2.2.2))))
       else 
        (Option.bind (F53 (x8.1, IntKind.i64.wrap (x8.1 + (1 : Int))) ph400001) fun x11 => r0 ((if IntKind.i64.wrap (↑(BitVec.ofInt IntKind.i64.bits ph3.1 ^^^ BitVec.ofInt IntKind.i64.bits x7).toNat : Int) < ph3.1 then IntKind.i64.wrap (↑(BitVec.ofInt IntKind.i64.bits ph3.1 ^^^ BitVec.ofInt IntKind.i64.bits x7).toNat : Int) else ph3.1, IntKind.i64.wrap (Int.ofNat ((0 : Nat) + (1 : Nat)) + (1 : Int)))) (ph400000) (x11) (ph400002) (ph400003) (ph400004) (ph400005) (ph400006)))))
    else 
     (Option.bind (F50 ph400001 ph3.1) fun x12 => 
      (Option.bind (F51 (x12.1, [ph3.1]) ph400001) fun x13 => some (((), o0.1, ph400000, x13, ph400002, ph400003, ph400004, ph400005, ph400006, o0.2.2.2.2.2.2.2.2)))))
   else (if decide (ph3.2 = Int.ofNat ((0 : Nat) + (1 : Nat) + (1 : Nat))) = true then (if decide (Int.ofNat ((0 : Nat) + (1 : Nat) + (1 : Nat)) < o0.1) = true then 
      (Option.bind (F63 (Int.ofNat ((0 : Nat) + (1 : Nat) + (1 : Nat)))) fun x14 => 
       (Option.bind (F50 ph400002 (IntKind.i64.wrap (↑(BitVec.ofInt IntKind.i64.bits ph3.1 ^^^ BitVec.ofInt IntKind.i64.bits x14).toNat : Int))) fun x15 => (if (!x15.2) = true then 
         (Option.bind (F50 ph400002 ph3.1) fun x16 => 
          (Option.bind (F51 (x16.1, [ph3.1]) ph400002) fun x17 => some (((), o0.1, ph400000, ph400001, x17, ph400003, ph400004, ph400005, ph400006, o0.2.2.2.2.2.2.2.2))))
        else 
         (Option.bind (F53 (x15.1, IntKind.i64.wrap (x15.1 + (1 : Int))) ph400002) fun x18 => r0 ((if IntKind.i64.wrap (↑(BitVec.ofInt IntKind.i64.bits ph3.1 ^^^ BitVec.ofInt IntKind.i64.bits x14).toNat : Int) < ph3.1 then IntKind.i64.wrap (↑(BitVec.ofInt IntKind.i64.bits ph3.1 ^^^ BitVec.ofInt IntKind.i64.bits x14).toNat : Int) else ph3.1, IntKind.i64.wrap (Int.ofNat ((0 : Nat) + (1 : Nat) + (1 : Nat)) + (1 : Int)))) (ph400000) (ph400001) (x18) (ph400003) (ph400004) (ph400005) (ph400006)))))
     else 
      (Option.bind (F50 ph400002 ph3.1) fun x19 => 
       (Option.bind (F51 (x19.1, [ph3.1]) ph400002) fun x20 => some (((), o0.1, ph400000, ph400001, x20, ph400003, ph400004, ph400005, ph400006, o0.2.2.2.2.2.2.2.2)))))
    else (if decide (ph3.2 = Int.ofNat ((0 : Nat) + (1 : Nat) + (1 : Nat) + (1 : Nat))) = true then (if decide (Int.ofNat ((0 : Nat) + (1 : Nat) + (1 : Nat) + (1 : Nat)) < o0.1) = true then 
       (Option.bind (F63 (Int.ofNat ((0 : Nat) + (1 : Nat) + (1 : Nat) + (1 : Nat)))) fun x21 => 
        (Option.bind (F50 ph400003 (IntKind.i64.wrap (↑(BitVec.ofInt IntKind.i64.bits ph3.1 ^^^ BitVec.ofInt IntKind.i64.bits x21).toNat : Int))) fun x22 => (if (!x22.2) = true then 
          (Option.bind (F50 ph400003 ph3.1) fun x23 => 
           (Option.bind (F51 (x23.1, [ph3.1]) ph400003) fun x24 => some (((), o0.1, ph400000, ph400001, ph400002, x24, ph400004, ph400005, ph400006, o0.2.2.2.2.2.2.2.2))))
         else 
          (Option.bind (F53 (x22.1, IntKind.i64.wrap (x22.1 + (1 : Int))) ph400003) fun x25 => r0 ((if IntKind.i64.wrap (↑(BitVec.ofInt IntKind.i64.bits ph3.1 ^^^ BitVec.ofInt IntKind.i64.bits x21).toNat : Int) < ph3.1 then IntKind.i64.wrap (↑(BitVec.ofInt IntKind.i64.bits ph3.1 ^^^ BitVec.ofInt IntKind.i64.bits x21).toNat : Int) else ph3.1, IntKind.i64.wrap (Int.ofNat ((0 : Nat) + (1 : Nat) + (1 : Nat) + (1 : Nat)) + (1 : Int)))) (ph400000) (ph400001) (ph400002) (x25) (ph400004) (ph400005) (ph400006)))))
      else 
       (Option.bind (F50 ph400003 ph3.1) fun x26 => 
        (Option.bind (F51 (x26.1, [ph3.1]) ph400003) fun x27 => some (((), o0.1, ph400000, ph400001, ph400002, x27, ph400004, ph400005, ph400006, o0.2.2.2.2.2.2.2.2)))))
     else (if decide (ph3.2 = Int.ofNat ((0 : Nat) + (1 : Nat) + (1 : Nat) + (1 : Nat) + (1 : Nat))) = true then (if decide (Int.ofNat ((0 : Nat) + (1 : Nat) + (1 : Nat) + (1 : Nat) + (1 : Nat)) < o0.1) = true then 
        (Option.bind (F63 (Int.ofNat ((0 : Nat) + (1 : Nat) + (1 : Nat) + (1 : Nat) + (1 : Nat)))) fun x28 => 
         (Option.bind (F50 ph400004 (IntKind.i64.wrap (↑(BitVec.ofInt IntKind.i64.bits ph3.1 ^^^ BitVec.ofInt IntKind.i64.bits x28).toNat : Int))) fun x29 => (if (!x29.2) = true then 
           (Option.bind (F50 ph400004 ph3.1) fun x30 => 
            (Option.bind (F51 (x30.1, [ph3.1]) ph400004) fun x31 => some (((), o0.1, ph400000, ph400001, ph400002, ph400003, x31, ph400005, ph400006, o0.2.2.2.2.2.2.2.2))))
          else 
           (Option.bind (F53 (x29.1, IntKind.i64.wrap (x29.1 + (1 : Int))) ph400004) fun x32 => r0 ((if IntKind.i64.wrap (↑(BitVec.ofInt IntKind.i64.bits ph3.1 ^^^ BitVec.ofInt IntKind.i64.bits x28).toNat : Int) < ph3.1 then IntKind.i64.wrap (↑(BitVec.ofInt IntKind.i64.bits ph3.1 ^^^ BitVec.ofInt IntKind.i64.bits x28).toNat : Int) else ph3.1, IntKind.i64.wrap (Int.ofNat ((0 : Nat) + (1 : Nat) + (1 : Nat) + (1 : Nat) + (1 : Nat)) + (1 : Int)))) (ph400000) (ph400001) (ph400002) (ph400003) (x32) (ph400005) (ph400006)))))
       else 
        (Option.bind (F50 ph400004 ph3.1) fun x33 => 
         (Option.bind (F51 (x33.1, [ph3.1]) ph400004) fun x34 => some (((), o0.1, ph400000, ph400001, ph400002, ph400003, x34, ph400005, ph400006, o0.2.2.2.2.2.2.2.2)))))
      else (if decide (ph3.2 = Int.ofNat ((0 : Nat) + (1 : Nat) + (1 : Nat) + (1 : Nat) + (1 : Nat) + (1 : Nat))) = true then (if decide (Int.ofNat ((0 : Nat) + (1 : Nat) + (1 : Nat) + (1 : Nat) + (1 : Nat) + (1 : Nat)) < o0.1) = true then 
         (Option.bind (F63 (Int.ofNat ((0 : Nat) + (1 : Nat) + (1 : Nat) + (1 : Nat) + (1 : Nat) + (1 : Nat)))) fun x35 => 
          (Option.bind (F50 ph400005 (IntKind.i64.wrap (↑(BitVec.ofInt IntKind.i64.bits ph3.1 ^^^ BitVec.ofInt IntKind.i64.bits x35).toNat : Int))) fun x36 => (if (!x36.2) = true then 
            (Option.bind (F50 ph400005 ph3.1) fun x37 => 
             (Option.bind (F51 (x37.1, [ph3.1]) ph400005) fun x38 => some (((), o0.1, ph400000, ph400001, ph400002, ph400003, ph400004, x38, ph400006, o0.2.2.2.2.2.2.2.2))))
           else 
            (Option.bind (F53 (x36.1, IntKind.i64.wrap (x36.1 + (1 : Int))) ph400005) fun x39 => r0 ((if IntKind.i64.wrap (↑(BitVec.ofInt IntKind.i64.bits ph3.1 ^^^ BitVec.ofInt IntKind.i64.bits x35).toNat : Int) < ph3.1 then IntKind.i64.wrap (↑(BitVec.ofInt IntKind.i64.bits ph3.1 ^^^ BitVec.ofInt IntKind.i64.bits x35).toNat : Int) else ph3.1, IntKind.i64.wrap (Int.ofNat ((0 : Nat) + (1 : Nat) + (1 : Nat) + (1 : Nat) + (1 : Nat) + (1 : Nat)) + (1 : Int)))) (ph400000) (ph400001) (ph400002) (ph400003) (ph400004) (x39) (ph400006)))))
        else 
         (Option.bind (F50 ph400005 ph3.1) fun x40 => 
          (Option.bind (F51 (x40.1, [ph3.1]) ph400005) fun x41 => some (((), o0.1, ph400000, ph400001, ph400002, ph400003, ph400004, x41, ph400006, o0.2.2.2.2.2.2.2.2)))))
       else (if decide (ph3.2 = Int.ofNat ((0 : Nat) + (1 : Nat) + (1 : Nat) + (1 : Nat) + (1 : Nat) + (1 : Nat) + (1 : Nat))) = true then (if decide (Int.ofNat ((0 : Nat) + (1 : Nat) + (1 : Nat) + (1 : Nat) + (1 : Nat) + (1 : Nat) + (1 : Nat)) < o0.1) = true then 
          (Option.bind (F63 (Int.ofNat ((0 : Nat) + (1 : Nat) + (1 : Nat) + (1 : Nat) + (1 : Nat) + (1 : Nat) + (1 : Nat)))) fun x42 => 
           (Option.bind (F50 ph400006 (IntKind.i64.wrap (↑(BitVec.ofInt IntKind.i64.bits ph3.1 ^^^ BitVec.ofInt IntKind.i64.bits x42).toNat : Int))) fun x43 => (if (!x43.2) = true then 
             (Option.bind (F50 ph400006 ph3.1) fun x44 => 
              (Option.bind (F51 (x44.1, [ph3.1]) ph400006) fun x45 => some (((), o0.1, ph400000, ph400001, ph400002, ph400003, ph400004, ph400005, x45, o0.2.2.2.2.2.2.2.2))))
            else 
             (Option.bind (F53 (x43.1, IntKind.i64.wrap (x43.1 + (1 : Int))) ph400006) fun x46 => r0 ((if IntKind.i64.wrap (↑(BitVec.ofInt IntKind.i64.bits ph3.1 ^^^ BitVec.ofInt IntKind.i64.bits x42).toNat : Int) < ph3.1 then IntKind.i64.wrap (↑(BitVec.ofInt IntKind.i64.bits ph3.1 ^^^ BitVec.ofInt IntKind.i64.bits x42).toNat : Int) else ph3.1, IntKind.i64.wrap (Int.ofNat ((0 : Nat) + (1 : Nat) + (1 : Nat) + (1 : Nat) + (1 : Nat) + (1 : Nat) + (1 : Nat)) + (1 : Int)))) (ph400000) (ph400001) (ph400002) (ph400003) (ph400004) (ph400005) (x46)))))
         else 
          (Option.bind (F50 ph400006 ph3.1) fun x47 => 
           (Option.bind (F51 (x47.1, [ph3.1]) ph400006) fun x48 => some (((), o0.1, ph400000, ph400001, ph400002, ph400003, ph400004, ph400005, x48, o0.2.2.2.2.2.2.2.2)))))
        else none)))))))
noncomputable def L54_0 (F63 : Int → Option (Int)) (F50 : (List (El (.int .i64))) → Int → Option (Int × Bool)) (F53 : (Int × Int) → List (El (.int .i64)) → Option (List (El (.int .i64)))) (F51 : (Int × List Int) → List (El (.int .i64)) → Option (List (El (.int .i64)))) (K : Nat) (a0 : El T29) (o0 : Int × (List Int × (List Int × (List Int × (List Int × (List Int × (List Int × (List Int × (List Int × (List Int × (List Int × (List Int × (List (El T29) × (List Int)))))))))))))) : Nat → (El T29) → (List (Int)) → (List (Int)) → (List (Int)) → (List (Int)) → (List (Int)) → (List (Int)) → (List (Int)) → Option (Unit × (Int × (List Int × (List Int × (List Int × (List Int × (List Int × (List Int × (List Int × (List Int × (List Int × (List Int × (List Int × (List (El T29) × (List Int)))))))))))))))
  | 0, _, _, _, _, _, _, _, _ => none
  | n + 1, ph3, ph400000, ph400001, ph400002, ph400003, ph400004, ph400005, ph400006 => b54_0 F63 F50 F53 F51 K a0 o0 (L54_0 F63 F50 F53 F51 K a0 o0 n) ph3 ph400000 ph400001 ph400002 ph400003 ph400004 ph400005 ph400006
noncomputable def t54 (F63 : Int → Option (Int)) (F50 : (List (El (.int .i64))) → Int → Option (Int × Bool)) (F53 : (Int × Int) → List (El (.int .i64)) → Option (List (El (.int .i64)))) (F51 : (Int × List Int) → List (El (.int .i64)) → Option (List (El (.int .i64)))) (K : Nat) (a0 : El T29) (o0 : Int × (List Int × (List Int × (List Int × (List Int × (List Int × (List Int × (List Int × (List Int × (List Int × (List Int × (List Int × (List (El T29) × (List Int)))))))))))))) (l0 : Nat → (El T29) → (List (Int)) → (List (Int)) → (List (Int)) → (List (Int)) → (List (Int)) → (List (Int)) → (List (Int)) → Option (Unit × (Int × (List Int × (List Int × (List Int × (List Int × (List Int × (List Int × (List Int × (List Int × (List Int × (List Int × (List Int × (List (El T29) × (List Int)))))))))))))))) : Option (Unit × (Int × (List Int × (List Int × (List Int × (List Int × (List Int × (List Int × (List Int × (List Int × (List Int × (List Int × (List Int × (List (El T29) × (List Int))))))))))))))) := l0 K (a0) (o0.2.1) (o0.2.2.1) (o0.2.2.2.1) (o0.2.2.2.2.1) (o0.2.2.2.2.2.1) (o0.2.2.2.2.2.2.1) (o0.2.2.2.2.2.2.2.1)
noncomputable def G54 (F63 : Int → Option (Int)) (F50 : (List (El (.int .i64))) → Int → Option (Int × Bool)) (F53 : (Int × Int) → List (El (.int .i64)) → Option (List (El (.int .i64)))) (F51 : (Int × List Int) → List (El (.int .i64)) → Option (List (El (.int .i64)))) (K : Nat) (a0 : El T29) (o0 : Int × (List Int × (List Int × (List Int × (List Int × (List Int × (List Int × (List Int × (List Int × (List Int × (List Int × (List Int × (List (El T29) × (List Int)))))))))))))) : Option (Unit × (Int × (List Int × (List Int × (List Int × (List Int × (List Int × (List Int × (List Int × (List Int × (List Int × (List Int × (List Int × (List (El T29) × (List Int))))))))))))))) := t54 F63 F50 F53 F51 K a0 o0 (L54_0 F63 F50 F53 F51 K a0 o0)
theorem lp54_0 (F63 : Int → Option (Int)) (F50 : (List (El (.int .i64))) → Int → Option (Int × Bool)) (F53 : (Int × Int) → List (El (.int .i64)) → Option (List (El (.int .i64)))) (F51 : (Int × List Int) → List (El (.int .i64)) → Option (List (El (.int .i64)))) (K : Nat) (a0 : El T29) (o0 : Int × (List Int × (List Int × (List Int × (List Int × (List Int × (List Int × (List Int × (List Int × (List Int × (List Int × (List Int × (List (El T29) × (List Int)))))))))))))) : ∀ (n : Nat) (ph3 : El T29) (ph400000 : List (Int)) (ph400001 : List (Int)) (ph400002 : List (Int)) (ph400003 : List (Int)) (ph400004 : List (Int)) (ph400005 : List (Int)) (ph400006 : List (Int)), loopN Try.prog (tab54 F63 F50 F53 F51) 0 K Try.f54 la54 gq54.k 0 [] n (hd54_0 a0 o0 ph3 ph400000 ph400001 ph400002 ph400003 ph400004 ph400005 ph400006) = L54_0 F63 F50 F53 F51 K a0 o0 n ph3 ph400000 ph400001 ph400002 ph400003 ph400004 ph400005 ph400006
  | 0, _, _, _, _, _, _, _, _ => by kernel_rfl
  | n + 1, ph3, ph400000, ph400001, ph400002, ph400003, ph400004, ph400005, ph400006 => by
    have h : loopN Try.prog (tab54 F63 F50 F53 F51) 0 K Try.f54 la54 gq54.k 0 [] (n + 1) (hd54_0 a0 o0 ph3 ph400000 ph400001 ph400002 ph400003 ph400004 ph400005 ph400006) = b54_0 F63 F50 F53 F51 K a0 o0 (fun q0 q1 q2 q3 q4 q5 q6 q7 => loopN Try.prog (tab54 F63 F50 F53 F51) 0 K Try.f54 la54 gq54.k 0 [] n (hd54_0 a0 o0 q0 q1 q2 q3 q4 q5 q6 q7)) ph3 ph400000 ph400001 ph400002 ph400003 ph400004 ph400005 ph400006 := by kernel_rfl
    rw [h]
    simp only [lp54_0 F63 F50 F53 F51 K a0 o0 n]
    rfl
theorem ev54 (F63 : Int → Option (Int)) (F50 : (List (El (.int .i64))) → Int → Option (Int × Bool)) (F53 : (Int × Int) → List (El (.int .i64)) → Option (List (El (.int .i64)))) (F51 : (Int × List Int) → List (El (.int .i64)) → Option (List (El (.int .i64)))) (K : Nat) (a0 : El T29) (o0 : Int × (List Int × (List Int × (List Int × (List Int × (List Int × (List Int × (List Int × (List Int × (List Int × (List Int × (List Int × (List (El T29) × (List Int)))))))))))))) : evFun Try.prog (tab54 F63 F50 F53 F51) 0 K Try.f54 la54 [.ptr 2000000 0, .agg (cellsOf T29 a0)] (hpB ob54 o0) gq54.k = G54 F63 F50 F53 F51 K a0 o0 := by
  have h : evFun Try.prog (tab54 F63 F50 F53 F51) 0 K Try.f54 la54 [.ptr 2000000 0, .agg (cellsOf T29 a0)] (hpB ob54 o0) gq54.k = t54 F63 F50 F53 F51 K a0 o0 (fun k q0 q1 q2 q3 q4 q5 q6 q7 => loopN Try.prog (tab54 F63 F50 F53 F51) 0 K Try.f54 la54 gq54.k 0 [] k (hd54_0 a0 o0 q0 q1 q2 q3 q4 q5 q6 q7)) := by kernel_rfl
  rw [h]
  simp only [lp54_0 F63 F50 F53 F51 K a0 o0]
  rfl
noncomputable def F54 (K : Nat) (a0 : El T29) (o0 : Int × (List Int × (List Int × (List Int × (List Int × (List Int × (List Int × (List Int × (List Int × (List Int × (List Int × (List Int × (List (El T29) × (List Int)))))))))))))) : Option (Unit × (Int × (List Int × (List Int × (List Int × (List Int × (List Int × (List Int × (List Int × (List Int × (List Int × (List Int × (List Int × (List (El T29) × (List Int))))))))))))))) := G54 (F63 K) (F50 K) (F53 K) (F51 K) K a0 o0
theorem cok54 (K : Nat) : CallOK D Try.prog (tab54 (F63 K) (F50 K) (F53 K) (F51 K)) := (addW_ok (addW_ok (add_ok (add_ok none_ok ent63 (ok63 K)) ent50 (ok50 K)) ent53 (ok53 K)) ent51 (ok51 K))
theorem ok54 (K : Nat) : RowG D Try.prog 54 (rowG (gad ag54 ob54) gq54 fun p => F54 K p.1.1 p.2) := rowG_ok fun x r h => ghas_of (cok54 K) Try.func54 ((ev54 (F63 K) (F50 K) (F53 K) (F51 K) K x.1.1 x.2).trans h)
/-! (*ganger/buddy.Yard).open -/
noncomputable def tab46 (F69 : (List (El (.int .i64))) → (El T29) → Option (Bool)) (F54 : (El T29) → (Int × (List Int × (List Int × (List Int × (List Int × (List Int × (List Int × (List Int × (List Int × (List Int × (List Int × (List Int × (List (El T29) × (List Int)))))))))))))) → Option (Unit × (Int × (List Int × (List Int × (List Int × (List Int × (List Int × (List Int × (List Int × (List Int × (List Int × (List Int × (List Int × (List (El T29) × (List Int)))))))))))))))) (F63 : Int → Option (Int)) (F46 : (El T29) → (Int × (List Int × (List Int × (List Int × (List Int × (List Int × (List Int × (List Int × (List Int × (List Int × (List Int × (List Int × (List (El T29) × (List Int)))))))))))))) → Option (Unit × (Int × (List Int × (List Int × (List Int × (List Int × (List Int × (List Int × (List Int × (List Int × (List Int × (List Int × (List Int × (List (El T29) × (List Int)))))))))))))))) : Tab := ((((Tab.none.add 69 (row ad69 dq69 fun p => F69 p.1 p.2)).addG 54 (rowG (gad ag54 ob54) gq54 fun p => F54 p.1.1 p.2)).add 63 (row ad63 dq63 fun p => F63 p)).addG 46 (rowG (gad ag46 ob46) gq46 fun p => F46 p.1.1 p.2))
noncomputable def t46 (F69 : (List (El (.int .i64))) → (El T29) → Option (Bool)) (F54 : (El T29) → (Int × (List Int × (List Int × (List Int × (List Int × (List Int × (List Int × (List Int × (List Int × (List Int × (List Int × (List Int × (List (El T29) × (List Int)))))))))))))) → Option (Unit × (Int × (List Int × (List Int × (List Int × (List Int × (List Int × (List Int × (List Int × (List Int × (List Int × (List Int × (List Int × (List (El T29) × (List Int)))))))))))))))) (F63 : Int → Option (Int)) (F46 : (El T29) → (Int × (List Int × (List Int × (List Int × (List Int × (List Int × (List Int × (List Int × (List Int × (List Int × (List Int × (List Int × (List (El T29) × (List Int)))))))))))))) → Option (Unit × (Int × (List Int × (List Int × (List Int × (List Int × (List Int × (List Int × (List Int × (List Int × (List Int × (List Int × (List Int × (List (El T29) × (List Int)))))))))))))))) (K : Nat) (a0 : El T29) (o0 : Int × (List Int × (List Int × (List Int × (List Int × (List Int × (List Int × (List Int × (List Int × (List Int × (List Int × (List Int × (List (El T29) × (List Int)))))))))))))) : Option (Unit × (Int × (List Int × (List Int × (List Int × (List Int × (List Int × (List Int × (List Int × (List Int × (List Int × (List Int × (List Int × (List (El T29) × (List Int))))))))))))))) := 
 (Option.bind (F69 o0.2.2.2.2.2.2.2.2.2.2.2.2.2 a0) fun x0 => (if (!x0) = true then 
   (Option.bind (F54 a0 o0) fun x1 => some (((), x1.2)))
  else (if (a0.2 == (0 : Int)) = true then some (((), o0))
   else 
    (Option.bind (F46 (a0.1, IntKind.i64.wrap (a0.2 - (1 : Int))) o0) fun x2 => 
     (Option.bind (F63 (IntKind.i64.wrap (a0.2 - (1 : Int)))) fun x3 => 
      (Option.bind (F46 (IntKind.i64.wrap (a0.1 + x3), IntKind.i64.wrap (a0.2 - (1 : Int))) x2.2) fun x4 => some (((), x4.2))))))))
noncomputable def G46 (F69 : (List (El (.int .i64))) → (El T29) → Option (Bool)) (F54 : (El T29) → (Int × (List Int × (List Int × (List Int × (List Int × (List Int × (List Int × (List Int × (List Int × (List Int × (List Int × (List Int × (List (El T29) × (List Int)))))))))))))) → Option (Unit × (Int × (List Int × (List Int × (List Int × (List Int × (List Int × (List Int × (List Int × (List Int × (List Int × (List Int × (List Int × (List (El T29) × (List Int)))))))))))))))) (F63 : Int → Option (Int)) (F46 : (El T29) → (Int × (List Int × (List Int × (List Int × (List Int × (List Int × (List Int × (List Int × (List Int × (List Int × (List Int × (List Int × (List (El T29) × (List Int)))))))))))))) → Option (Unit × (Int × (List Int × (List Int × (List Int × (List Int × (List Int × (List Int × (List Int × (List Int × (List Int × (List Int × (List Int × (List (El T29) × (List Int)))))))))))))))) (K : Nat) (a0 : El T29) (o0 : Int × (List Int × (List Int × (List Int × (List Int × (List Int × (List Int × (List Int × (List Int × (List Int × (List Int × (List Int × (List (El T29) × (List Int)))))))))))))) : Option (Unit × (Int × (List Int × (List Int × (List Int × (List Int × (List Int × (List Int × (List Int × (List Int × (List Int × (List Int × (List Int × (List (El T29) × (List Int))))))))))))))) := t46 F69 F54 F63 F46 K a0 o0
theorem ev46 (F69 : (List (El (.int .i64))) → (El T29) → Option (Bool)) (F54 : (El T29) → (Int × (List Int × (List Int × (List Int × (List Int × (List Int × (List Int × (List Int × (List Int × (List Int × (List Int × (List Int × (List (El T29) × (List Int)))))))))))))) → Option (Unit × (Int × (List Int × (List Int × (List Int × (List Int × (List Int × (List Int × (List Int × (List Int × (List Int × (List Int × (List Int × (List (El T29) × (List Int)))))))))))))))) (F63 : Int → Option (Int)) (F46 : (El T29) → (Int × (List Int × (List Int × (List Int × (List Int × (List Int × (List Int × (List Int × (List Int × (List Int × (List Int × (List Int × (List (El T29) × (List Int)))))))))))))) → Option (Unit × (Int × (List Int × (List Int × (List Int × (List Int × (List Int × (List Int × (List Int × (List Int × (List Int × (List Int × (List Int × (List (El T29) × (List Int)))))))))))))))) (K : Nat) (a0 : El T29) (o0 : Int × (List Int × (List Int × (List Int × (List Int × (List Int × (List Int × (List Int × (List Int × (List Int × (List Int × (List Int × (List (El T29) × (List Int)))))))))))))) : evFun Try.prog (tab46 F69 F54 F63 F46) 0 K Try.f46 [] [.ptr 2000000 0, .agg (cellsOf T29 a0)] (hpB ob46 o0) gq46.k = G46 F69 F54 F63 F46 K a0 o0 := by
  kernel_rfl
noncomputable def R46 (K : Nat) : Nat → (El T29) → (Int × (List Int × (List Int × (List Int × (List Int × (List Int × (List Int × (List Int × (List Int × (List Int × (List Int × (List Int × (List (El T29) × (List Int)))))))))))))) → Option (Unit × (Int × (List Int × (List Int × (List Int × (List Int × (List Int × (List Int × (List Int × (List Int × (List Int × (List Int × (List Int × (List (El T29) × (List Int)))))))))))))))
  | 0 => fun _ _ => none
  | d + 1 => fun a0 o0 => G46 (F69 K) (F54 K) (F63 K) (R46 K d) K a0 o0
noncomputable def F46 (K : Nat) (a0 : El T29) (o0 : Int × (List Int × (List Int × (List Int × (List Int × (List Int × (List Int × (List Int × (List Int × (List Int × (List Int × (List Int × (List (El T29) × (List Int)))))))))))))) : Option (Unit × (Int × (List Int × (List Int × (List Int × (List Int × (List Int × (List Int × (List Int × (List Int × (List Int × (List Int × (List Int × (List (El T29) × (List Int))))))))))))))) := R46 K K a0 o0
theorem rok46 (K : Nat) : ∀ d : Nat, RowG D Try.prog 46 (rowG (gad ag46 ob46) gq46 fun p => R46 K d p.1.1 p.2)
  | 0 => rowG_ok fun x r h => nomatch (show (none : Option (Unit × (Int × (List Int × (List Int × (List Int × (List Int × (List Int × (List Int × (List Int × (List Int × (List Int × (List Int × (List Int × (List (El T29) × (List Int)))))))))))))))) = some r from h)
  | d + 1 => rowG_ok fun x r h => ghas_of (show CallOK D Try.prog (tab46 (F69 K) (F54 K) (F63 K) (R46 K d)) from (addG_ok (add_ok (addG_ok (add_ok none_ok ent69 (ok69 K)) ent54 (ok54 K)) ent63 (ok63 K)) ent46 (rok46 K d))) Try.func46 ((ev46 (F69 K) (F54 K) (F63 K) (R46 K d) K x.1.1 x.2).trans h)
theorem ok46 (K : Nat) : RowG D Try.prog 46 (rowG (gad ag46 ob46) gq46 fun p => F46 K p.1.1 p.2) := rok46 K K
/-! (*ganger/buddy.Yard).Give -/
noncomputable def tab17 (F43 : (List (El T29)) → Int → Unit → Option (Int × Bool)) (F44 : (El T29) → Int → Option (Int)) (F45 : (Int × Int) → List (El T29) → Option (List (El T29))) (F46 : (El T29) → (Int × (List Int × (List Int × (List Int × (List Int × (List Int × (List Int × (List Int × (List Int × (List Int × (List Int × (List Int × (List (El T29) × (List Int)))))))))))))) → Option (Unit × (Int × (List Int × (List Int × (List Int × (List Int × (List Int × (List Int × (List Int × (List Int × (List Int × (List Int × (List Int × (List (El T29) × (List Int)))))))))))))))) : Tab := ((((Tab.none.add 43 (row ad43 dq43 fun p => F43 p.1 p.2.1 p.2.2)).add 44 (row ad44 dq44 fun p => F44 p.1 p.2)).addW 45 (rowW T29 ad45 F45 true)).addG 46 (rowG (gad ag46 ob46) gq46 fun p => F46 p.1.1 p.2))
noncomputable def t17 (F43 : (List (El T29)) → Int → Unit → Option (Int × Bool)) (F44 : (El T29) → Int → Option (Int)) (F45 : (Int × Int) → List (El T29) → Option (List (El T29))) (F46 : (El T29) → (Int × (List Int × (List Int × (List Int × (List Int × (List Int × (List Int × (List Int × (List Int × (List Int × (List Int × (List Int × (List (El T29) × (List Int)))))))))))))) → Option (Unit × (Int × (List Int × (List Int × (List Int × (List Int × (List Int × (List Int × (List Int × (List Int × (List Int × (List Int × (List Int × (List (El T29) × (List Int)))))))))))))))) (K : Nat) (a0 : Int) (o0 : Int × (List Int × (List Int × (List Int × (List Int × (List Int × (List Int × (List Int × (List Int × (List Int × (List Int × (List Int × (List (El T29) × (List Int)))))))))))))) : Option (Int × (Int × (List Int × (List Int × (List Int × (List Int × (List Int × (List Int × (List Int × (List Int × (List Int × (List Int × (List Int × (List (El T29) × (List Int))))))))))))))) := 
 (Option.bind (F43 o0.2.2.2.2.2.2.2.2.2.2.2.2.1 a0 ()) fun x0 => (if (!x0.2) = true then some (((4 : Int), o0))
  else (if decide ((0 : Int) ≤ x0.1 ∧ x0.1 < (↑o0.2.2.2.2.2.2.2.2.2.2.2.2.1.length : Int)) = true then 
    (Option.bind (F45 (x0.1, IntKind.i64.wrap (x0.1 + (1 : Int))) o0.2.2.2.2.2.2.2.2.2.2.2.2.1) fun x1 => 
     (Option.bind (F46 (o0.2.2.2.2.2.2.2.2.2.2.2.2.1.getD x0.1.toNat (zEl T29)) (o0.1, o0.2.1, o0.2.2.1, o0.2.2.2.1, o0.2.2.2.2.1, o0.2.2.2.2.2.1, o0.2.2.2.2.2.2.1, o0.2.2.2.2.2.2.2.1, o0.2.2.2.2.2.2.2.2.1, o0.2.2.2.2.2.2.2.2.2.1, o0.2.2.2.2.2.2.2.2.2.2.1, o0.2.2.2.2.2.2.2.2.2.2.2.1, x1, o0.2.2.2.2.2.2.2.2.2.2.2.2.2)) fun x2 => some (((0 : Int), x2.2))))
   else none)))
noncomputable def G17 (F43 : (List (El T29)) → Int → Unit → Option (Int × Bool)) (F44 : (El T29) → Int → Option (Int)) (F45 : (Int × Int) → List (El T29) → Option (List (El T29))) (F46 : (El T29) → (Int × (List Int × (List Int × (List Int × (List Int × (List Int × (List Int × (List Int × (List Int × (List Int × (List Int × (List Int × (List (El T29) × (List Int)))))))))))))) → Option (Unit × (Int × (List Int × (List Int × (List Int × (List Int × (List Int × (List Int × (List Int × (List Int × (List Int × (List Int × (List Int × (List (El T29) × (List Int)))))))))))))))) (K : Nat) (a0 : Int) (o0 : Int × (List Int × (List Int × (List Int × (List Int × (List Int × (List Int × (List Int × (List Int × (List Int × (List Int × (List Int × (List (El T29) × (List Int)))))))))))))) : Option (Int × (Int × (List Int × (List Int × (List Int × (List Int × (List Int × (List Int × (List Int × (List Int × (List Int × (List Int × (List Int × (List (El T29) × (List Int))))))))))))))) := t17 F43 F44 F45 F46 K a0 o0
theorem ev17 (F43 : (List (El T29)) → Int → Unit → Option (Int × Bool)) (F44 : (El T29) → Int → Option (Int)) (F45 : (Int × Int) → List (El T29) → Option (List (El T29))) (F46 : (El T29) → (Int × (List Int × (List Int × (List Int × (List Int × (List Int × (List Int × (List Int × (List Int × (List Int × (List Int × (List Int × (List (El T29) × (List Int)))))))))))))) → Option (Unit × (Int × (List Int × (List Int × (List Int × (List Int × (List Int × (List Int × (List Int × (List Int × (List Int × (List Int × (List Int × (List (El T29) × (List Int)))))))))))))))) (K : Nat) (a0 : Int) (o0 : Int × (List Int × (List Int × (List Int × (List Int × (List Int × (List Int × (List Int × (List Int × (List Int × (List Int × (List Int × (List (El T29) × (List Int)))))))))))))) : evFun Try.prog (tab17 F43 F44 F45 F46) 0 K Try.f17 [] [.ptr 2000000 0, I .i64 a0] (hpB ob17 o0) gq17.k = G17 F43 F44 F45 F46 K a0 o0 := by
  kernel_rfl
noncomputable def F17 (K : Nat) (a0 : Int) (o0 : Int × (List Int × (List Int × (List Int × (List Int × (List Int × (List Int × (List Int × (List Int × (List Int × (List Int × (List Int × (List (El T29) × (List Int)))))))))))))) : Option (Int × (Int × (List Int × (List Int × (List Int × (List Int × (List Int × (List Int × (List Int × (List Int × (List Int × (List Int × (List Int × (List (El T29) × (List Int))))))))))))))) := G17 (F43 K) (F44 K) (F45 K) (F46 K) K a0 o0
theorem cok17 (K : Nat) : CallOK D Try.prog (tab17 (F43 K) (F44 K) (F45 K) (F46 K)) := (addG_ok (addW_ok (add_ok (add_ok none_ok ent43 (ok43 K)) ent44 (ok44 K)) ent45 (ok45 K)) ent46 (ok46 K))
theorem ok17 (K : Nat) : RowG D Try.prog 17 (rowG (gad ag17 ob17) gq17 fun p => F17 K p.1.1 p.2) := rowG_ok fun x r h => ghas_of (cok17 K) Try.func17 ((ev17 (F43 K) (F44 K) (F45 K) (F46 K) K x.1.1 x.2).trans h)
/-! (*ganger/buddy.Yard).is -/
noncomputable def tab49 (F63 : Int → Option (Int)) : Tab := (Tab.none.add 63 (row ad63 dq63 fun p => F63 p))
noncomputable def t49 (F63 : Int → Option (Int)) (K : Nat) (a0 : El TF65) (a1 : Int) : Option (Bool) := (if decide (a1 ≥ (0 : Int)) = true then 
  (Option.bind (F63 a0.1) fun x0 => some (decide (a1 < x0)))
 else some (false))
noncomputable def G49 (F63 : Int → Option (Int)) (K : Nat) (a0 : El TF65) (a1 : Int) : Option (Bool) := t49 F63 K a0 a1
theorem ev49 (F63 : Int → Option (Int)) (K : Nat) (a0 : El TF65) (a1 : Int) : evFun Try.prog (tab49 F63) 0 K Try.f49 [] [.eptr TF65 a0 0, I .i64 a1] [] dq49.k = G49 F63 K a0 a1 := by
  kernel_rfl
noncomputable def F49 (K : Nat) (a0 : El TF65) (a1 : Int) : Option (Bool) := G49 (F63 K) K a0 a1
theorem cok49 (K : Nat) : CallOK D Try.prog (tab49 (F63 K)) := (add_ok none_ok ent63 (ok63 K))
theorem ok49 (K : Nat) : RowOK D Try.prog 49 (row ad49 dq49 fun p => F49 K p.1 p.2) := row_ok fun x r h => has_of (cok49 K) Try.func49 ((ev49 (F63 K) K x.1 x.2).trans h)
end Go.Proofs.YtiicginipjbloaaE
