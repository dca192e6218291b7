import Derived.Test.YtlpalhgiiodjoaaS16F2
set_option linter.all false
namespace Go.Proofs.YtlpalhgiiodjoaaE
open Go Go.Proofs
set_option maxRecDepth 100000
set_option linter.unusedVariables false
variable {D : Prop}
/-! (*ganger/gang.Matrix).at$1 -/
noncomputable def tab54 : Tab := Tab.none
noncomputable def t54 (K : Nat) (a0 : El T34) (a1 : Int) : Option (Bool) := some (a0.1 == a1)
noncomputable def G54 (K : Nat) (a0 : El T34) (a1 : Int) : Option (Bool) := t54 K a0 a1
theorem ev54 (K : Nat) (a0 : El T34) (a1 : Int) : evFun Try.prog (tab54) 0 K Try.f54 [] [.agg (cellsOf T34 a0), .eptr (.int .u32) a1 0] [] dq54.k = G54 K a0 a1 := by
  kernel_rfl
noncomputable def F54 (K : Nat) (a0 : El T34) (a1 : Int) : Option (Bool) := G54 K a0 a1
theorem cok54 (K : Nat) : CallOK D Try.prog (tab54) := none_ok
theorem ok54 (K : Nat) : RowOK D Try.prog 54 (row ad54 dq54 fun p => F54 K p.1 p.2) := row_ok fun x r h => has_of (cok54 K) Try.func54 ((ev54 K x.1 x.2).trans h)
/-! slices.IndexFunc[[]ganger/api.Cell,ganger/api.Cell] -/
noncomputable def tab53 (F54 : (El T34) → Int → Option (Bool)) : Tab := (Tab.none.add 54 (row ad54 dq54 fun p => F54 p.1 p.2))
noncomputable def la53 : List (List Tidy) := [[.only [0, 1, 7, 8], .ids [7], .top [1000000]]]
noncomputable def hd53_0 (a0 : List (El T34)) (a1 : Int) (ps8 : Int) : St := { tm := slots (nat_lit 19) [(nat_lit 0, AV.row T34 a0), (nat_lit 1, AV.fn (nat_lit 54) [AV.eptr (Ty.int IntKind.u32) a1 (nat_lit 0)]), (nat_lit 7, AV.sc (Value.int IntKind.i64 (↑a0.length : Int))), (nat_lit 8, AV.sc (Value.int IntKind.i64 ps8))], H := [] }
noncomputable def b53_0 (F54 : (El T34) → Int → Option (Bool)) (K : Nat) (a0 : List (El T34)) (a1 : Int) (r0 : Int → Option (Int)) (ps8 : Int) : Option (Int) :=(if decide (ps8 < (↑a0.length : Int)) = true then (if decide ((0 : Int) ≤ ps8 ∧ ps8 < (↑a0.length : Int)) = true then 
    (Option.bind (F54 (a0.getD ps8.toNat (zEl T34)) a1) fun x0 => (if x0 = true then some (ps8)
     else r0 (IntKind.i64.wrap (ps8 + (1 : Int)))))
   else none)
  else some ((-1 : Int)))
noncomputable def L53_0 (F54 : (El T34) → Int → Option (Bool)) (K : Nat) (a0 : List (El T34)) (a1 : Int) : Nat → Int → Option (Int)
  | 0, _ => none
  | n + 1, ps8 => b53_0 F54 K a0 a1 (L53_0 F54 K a0 a1 n) ps8
noncomputable def t53 (F54 : (El T34) → Int → Option (Bool)) (K : Nat) (a0 : List (El T34)) (a1 : Int) (l0 : Nat → Int → Option (Int)) : Option (Int) := l0 K ((0 : Int))
noncomputable def G53 (F54 : (El T34) → Int → Option (Bool)) (K : Nat) (a0 : List (El T34)) (a1 : Int) : Option (Int) := t53 F54 K a0 a1 (L53_0 F54 K a0 a1)
theorem lp53_0 (F54 : (El T34) → Int → Option (Bool)) (K : Nat) (a0 : List (El T34)) (a1 : Int) : ∀ (n : Nat) (ps8 : Int), loopN Try.prog (tab53 F54) 0 K Try.f53 la53 dq53.k 0 [] n (hd53_0 a0 a1 ps8) = L53_0 F54 K a0 a1 n ps8
  | 0, _ => by kernel_rfl
  | n + 1, ps8 => by
    have h : loopN Try.prog (tab53 F54) 0 K Try.f53 la53 dq53.k 0 [] (n + 1) (hd53_0 a0 a1 ps8) = b53_0 F54 K a0 a1 (fun q0 => loopN Try.prog (tab53 F54) 0 K Try.f53 la53 dq53.k 0 [] n (hd53_0 a0 a1 q0)) ps8 := by kernel_rfl
    rw [h]
    simp only [lp53_0 F54 K a0 a1 n]
    rfl
theorem ev53 (F54 : (El T34) → Int → Option (Bool)) (K : Nat) (a0 : List (El T34)) (a1 : Int) : evFun Try.prog (tab53 F54) 0 K Try.f53 la53 [.row T34 a0, .fn 54 [.eptr (.int .u32) a1 0]] [] dq53.k = G53 F54 K a0 a1 := by
  have h : evFun Try.prog (tab53 F54) 0 K Try.f53 la53 [.row T34 a0, .fn 54 [.eptr (.int .u32) a1 0]] [] dq53.k = t53 F54 K a0 a1 (fun k q0 => loopN Try.prog (tab53 F54) 0 K Try.f53 la53 dq53.k 0 [] k (hd53_0 a0 a1 q0)) := by kernel_rfl
  rw [h]
  simp only [lp53_0 F54 K a0 a1]
  rfl
noncomputable def F53 (K : Nat) (a0 : List (El T34)) (a1 : Int) : Option (Int) := G53 (F54 K) K a0 a1
theorem cok53 (K : Nat) : CallOK D Try.prog (tab53 (F54 K)) := (add_ok none_ok ent54 (ok54 K))
theorem ok53 (K : Nat) : RowOK D Try.prog 53 (row ad53 dq53 fun p => F53 K p.1 p.2) := row_ok fun x r h => has_of (cok53 K) Try.func53 ((ev53 (F54 K) K x.1 x.2).trans h)
/-! (*ganger/gang.Matrix).at -/
noncomputable def tab39 (F53 : (List (El T34)) → Int → Option (Int)) : Tab := (Tab.none.add 53 (row ad53 dq53 fun p => F53 p.1 p.2))
noncomputable def t39 (F53 : (List (El T34)) → Int → Option (Int)) (K : Nat) (a0 : El T62) (a1 : Int) : Option (Int) := 
 (Option.bind (F53 a0.2.1 a1) fun x0 => some (x0))
noncomputable def G39 (F53 : (List (El T34)) → Int → Option (Int)) (K : Nat) (a0 : El T62) (a1 : Int) : Option (Int) := t39 F53 K a0 a1
theorem ev39 (F53 : (List (El T34)) → Int → Option (Int)) (K : Nat) (a0 : El T62) (a1 : Int) : evFun Try.prog (tab39 F53) 0 K Try.f39 [] [.eptr T62 a0 0, I .u32 a1] [] dq39.k = G39 F53 K a0 a1 := by
  kernel_rfl
noncomputable def F39 (K : Nat) (a0 : El T62) (a1 : Int) : Option (Int) := G39 (F53 K) K a0 a1
theorem cok39 (K : Nat) : CallOK D Try.prog (tab39 (F53 K)) := (add_ok none_ok ent53 (ok53 K))
theorem ok39 (K : Nat) : RowOK D Try.prog 39 (row ad39 dq39 fun p => F39 K p.1 p.2) := row_ok fun x r h => has_of (cok39 K) Try.func39 ((ev39 (F53 K) K x.1 x.2).trans h)
/-! ganger/gang.of -/
noncomputable def tab32 : Tab := Tab.none
noncomputable def la32 : List (List Tidy) := [[.only [1, 2, 3, 4], .ids [1, 2, 3], .top [1000000]]]
noncomputable def hd32_0 (a0 : El T32) (ps4 : Int) (ph3 : El T65) : St := { tm := slots (nat_lit 27) [(nat_lit 1, AV.ptr (nat_lit 1) (nat_lit 0)), (nat_lit 2, AV.ptr (nat_lit 2) (nat_lit 0)), (nat_lit 3, AV.ptr (nat_lit 3) (nat_lit 0)), (nat_lit 4, AV.sc (Value.int IntKind.i64 ps4))], H := [(nat_lit 1, ABlk.box (nat_lit 32) (cellsOf T32 a0)), (nat_lit 2, ABlk.box (nat_lit 65) (cellsOf T65 ((0 : Int), (0 : Int), (0 : Int), (0 : Int), (0 : Int), (0 : Int), (0 : Int), (0 : Int), (0 : Int), (0 : Int), (0 : Int), (0 : Int), (0 : Int), (0 : Int), (0 : Int), (0 : Int)))), (nat_lit 3, ABlk.box (nat_lit 65) (cellsOf T65 ph3))] }
noncomputable def b32_0 (K : Nat) (a0 : El T32) (r0 : Int → (El T65) → Option (El T65)) (ps4 : Int) (ph3 : El T65) : Option (El T65) :=(if decide ((0 : Int) ≤ a0.2) = true then (if decide (ps4 < IntKind.i64.wrap (a0.1 + IntKind.i64.wrap ((1 : Int) * (2 : Int) ^ min (Int.toNat a0.2) IntKind.i64.bits))) = true then (if IntKind.i64.wrap (ps4.tdiv (64 : Int)) = (↑(0 : Nat) : Int) then (if decide ((0 : Int) ≤ ps4.tmod (64 : Int)) = true then r0 (IntKind.i64.wrap (ps4 + (1 : Int))) ((IntKind.u64.wrap (↑(BitVec.ofInt IntKind.u64.bits ph3.1 ||| BitVec.ofInt IntKind.u64.bits (IntKind.u64.wrap ((1 : Int) * (2 : Int) ^ min (ps4.tmod (64 : Int)).toNat IntKind.u64.bits))).toNat : Int), ph3.2))
     else none)
    else (if IntKind.i64.wrap (ps4.tdiv (64 : Int)) = (↑((0 : Nat) + (1 : Nat)) : Int) then (if decide ((0 : Int) ≤ ps4.tmod (64 : Int)) = true then r0 (IntKind.i64.wrap (ps4 + (1 : Int))) ((ph3.1, IntKind.u64.wrap (↑(BitVec.ofInt IntKind.u64.bits ph3.2.1 ||| BitVec.ofInt IntKind.u64.bits (IntKind.u64.wrap ((1 : Int) * (2 : Int) ^ min (ps4.tmod (64 : Int)).toNat IntKind.u64.bits))).toNat : Int), ph3.2.2))
      else none)
     else (if IntKind.i64.wrap (ps4.tdiv (64 : Int)) = (↑((0 : Nat) + (1 : Nat) + (1 : Nat)) : Int) then (if decide ((0 : Int) ≤ ps4.tmod (64 : Int)) = true then r0 (IntKind.i64.wrap (ps4 + (1 : Int))) ((ph3.1, ph3.2.1, IntKind.u64.wrap (↑(BitVec.ofInt IntKind.u64.bits ph3.2.2.1 ||| BitVec.ofInt IntKind.u64.bits (IntKind.u64.wrap ((1 : Int) * (2 : Int) ^ min (ps4.tmod (64 : Int)).toNat IntKind.u64.bits))).toNat : Int), ph3.2.2.2))
       else none)
      else (if IntKind.i64.wrap (ps4.tdiv (64 : Int)) = (↑((0 : Nat) + (1 : Nat) + (1 : Nat) + (1 : Nat)) : Int) then (if decide ((0 : Int) ≤ ps4.tmod (64 : Int)) = true then r0 (IntKind.i64.wrap (ps4 + (1 : Int))) ((ph3.1, ph3.2.1, ph3.2.2.1, IntKind.u64.wrap (↑(BitVec.ofInt IntKind.u64.bits ph3.2.2.2.1 ||| BitVec.ofInt IntKind.u64.bits (IntKind.u64.wrap ((1 : Int) * (2 : Int) ^ min (ps4.tmod (64 : Int)).toNat IntKind.u64.bits))).toNat : Int), ph3.2.2.2.2))
        else none)
       else (if IntKind.i64.wrap (ps4.tdiv (64 : Int)) = (↑((0 : Nat) + (1 : Nat) + (1 : Nat) + (1 : Nat) + (1 : Nat)) : Int) then (if decide ((0 : Int) ≤ ps4.tmod (64 : Int)) = true then r0 (IntKind.i64.wrap (ps4 + (1 : Int))) ((ph3.1, ph3.2.1, ph3.2.2.1, ph3.2.2.2.1, IntKind.u64.wrap (↑(BitVec.ofInt IntKind.u64.bits ph3.2.2.2.2.1 ||| BitVec.ofInt IntKind.u64.bits (IntKind.u64.wrap ((1 : Int) * (2 : Int) ^ min (ps4.tmod (64 : Int)).toNat IntKind.u64.bits))).toNat : Int), ph3.2.2.2.2.2))
         else none)
        else (if IntKind.i64.wrap (ps4.tdiv (64 : Int)) = (↑((0 : Nat) + (1 : Nat) + (1 : Nat) + (1 : Nat) + (1 : Nat) + (1 : Nat)) : Int) then (if decide ((0 : Int) ≤ ps4.tmod (64 : Int)) = true then r0 (IntKind.i64.wrap (ps4 + (1 : Int))) ((ph3.1, ph3.2.1, ph3.2.2.1, ph3.2.2.2.1, ph3.2.2.2.2.1, IntKind.u64.wrap (↑(BitVec.ofInt IntKind.u64.bits ph3.2.2.2.2.2.1 ||| BitVec.ofInt IntKind.u64.bits (IntKind.u64.wrap ((1 : Int) * (2 : Int) ^ min (ps4.tmod (64 : Int)).toNat IntKind.u64.bits))).toNat : Int), ph3.2.2.2.2.2.2))
          else none)
         else (if IntKind.i64.wrap (ps4.tdiv (64 : Int)) = (↑((0 : Nat) + (1 : Nat) + (1 : Nat) + (1 : Nat) + (1 : Nat) + (1 : Nat) + (1 : Nat)) : Int) then (if decide ((0 : Int) ≤ ps4.tmod (64 : Int)) = true then r0 (IntKind.i64.wrap (ps4 + (1 : Int))) ((ph3.1, ph3.2.1, ph3.2.2.1, ph3.2.2.2.1, ph3.2.2.2.2.1, ph3.2.2.2.2.2.1, IntKind.u64.wrap (↑(BitVec.ofInt IntKind.u64.bits ph3.2.2.2.2.2.2.1 ||| BitVec.ofInt IntKind.u64.bits (IntKind.u64.wrap ((1 : Int) * (2 : Int) ^ min (ps4.tmod (64 : Int)).toNat IntKind.u64.bits))).toNat : Int), ph3.2.2.2.2.2.2.2))
           else none)
          else (if IntKind.i64.wrap (ps4.tdiv (64 : Int)) = (↑((0 : Nat) + (1 : Nat) + (1 : Nat) + (1 : Nat) + (1 : Nat) + (1 : Nat) + (1 : Nat) + (1 : Nat)) : Int) then (if decide ((0 : Int) ≤ ps4.tmod (64 : Int)) = true then r0 (IntKind.i64.wrap (ps4 + (1 : Int))) ((ph3.1, ph3.2.1, ph3.2.2.1, ph3.2.2.2.1, ph3.2.2.2.2.1, ph3.2.2.2.2.2.1, ph3.2.2.2.2.2.2.1, IntKind.u64.wrap (↑(BitVec.ofInt IntKind.u64.bits ph3.2.2.2.2.2.2.2.1 ||| BitVec.ofInt IntKind.u64.bits (IntKind.u64.wrap ((1 : Int) * (2 : Int) ^ min (ps4.tmod (64 : Int)).toNat IntKind.u64.bits))).toNat : Int), ph3.2.2.2.2.2.2.2.2))
            else none)
           else (if IntKind.i64.wrap (ps4.tdiv (64 : Int)) = (↑((0 : Nat) + (1 : Nat) + (1 : Nat) + (1 : Nat) + (1 : Nat) + (1 : Nat) + (1 : Nat) + (1 : Nat) + (1 : Nat)) : Int) then (if decide ((0 : Int) ≤ ps4.tmod (64 : Int)) = true then r0 (IntKind.i64.wrap (ps4 + (1 : Int))) ((ph3.1, ph3.2.1, ph3.2.2.1, ph3.2.2.2.1, ph3.2.2.2.2.1, ph3.2.2.2.2.2.1, ph3.2.2.2.2.2.2.1, ph3.2.2.2.2.2.2.2.1, IntKind.u64.wrap (↑(BitVec.ofInt IntKind.u64.bits ph3.2.2.2.2.2.2.2.2.1 ||| BitVec.ofInt IntKind.u64.bits (IntKind.u64.wrap ((1 : Int) * (2 : Int) ^ min (ps4.tmod (64 : Int)).toNat IntKind.u64.bits))).toNat : Int), ph3.2.2.2.2.2.2.2.2.2))
             else none)
            else (if IntKind.i64.wrap (ps4.tdiv (64 : Int)) = (↑((0 : Nat) + (1 : Nat) + (1 : Nat) + (1 : Nat) + (1 : Nat) + (1 : Nat) + (1 : Nat) + (1 : Nat) + (1 : Nat) + (1 : Nat)) : Int) then (if decide ((0 : Int) ≤ ps4.tmod (64 : Int)) = true then r0 (IntKind.i64.wrap (ps4 + (1 : Int))) ((ph3.1, ph3.2.1, ph3.2.2.1, ph3.2.2.2.1, ph3.2.2.2.2.1, ph3.2.2.2.2.2.1, ph3.2.2.2.2.2.2.1, ph3.2.2.2.2.2.2.2.1, ph3.2.2.2.2.2.2.2.2.1, IntKind.u64.wrap (↑(BitVec.ofInt IntKind.u64.bits ph3.2.2.2.2.2.2.2.2.2.1 ||| BitVec.ofInt IntKind.u64.bits (IntKind.u64.wrap ((1 : Int) * (2 : Int) ^ min (ps4.tmod (64 : Int)).toNat IntKind.u64.bits))).toNat : Int), ph3.2.2.2.2.2.2.2.2.2.2))
              else none)
             else (if IntKind.i64.wrap (ps4.tdiv (64 : Int)) = (↑((0 : Nat) + (1 : Nat) + (1 : Nat) + (1 : Nat) + (1 : Nat) + (1 : Nat) + (1 : Nat) + (1 : Nat) + (1 : Nat) + (1 : Nat) + (1 : Nat)) : Int) then (if decide ((0 : Int) ≤ ps4.tmod (64 : Int)) = true then r0 (IntKind.i64.wrap (ps4 + (1 : Int))) ((ph3.1, ph3.2.1, ph3.2.2.1, ph3.2.2.2.1, ph3.2.2.2.2.1, ph3.2.2.2.2.2.1, ph3.2.2.2.2.2.2.1, ph3.2.2.2.2.2.2.2.1, ph3.2.2.2.2.2.2.2.2.1, ph3.2.2.2.2.2.2.2.2.2.1, IntKind.u64.wrap (↑(BitVec.ofInt IntKind.u64.bits ph3.2.2.2.2.2.2.2.2.2.2.1 ||| BitVec.ofInt IntKind.u64.bits (IntKind.u64.wrap ((1 : Int) * (2 : Int) ^ min (ps4.tmod (64 : Int)).toNat IntKind.u64.bits))).toNat : Int), ph3.2.2.2.2.2.2.2.2.2.2.2))
               else none)
              else (if IntKind.i64.wrap (ps4.tdiv (64 : Int)) = (↑((0 : Nat) + (1 : Nat) + (1 : Nat) + (1 : Nat) + (1 : Nat) + (1 : Nat) + (1 : Nat) + (1 : Nat) + (1 : Nat) + (1 : Nat) + (1 : Nat) + (1 : Nat)) : Int) then (if decide ((0 : Int) ≤ ps4.tmod (64 : Int)) = true then r0 (IntKind.i64.wrap (ps4 + (1 : Int))) ((ph3.1, ph3.2.1, ph3.2.2.1, ph3.2.2.2.1, ph3.2.2.2.2.1, ph3.2.2.2.2.2.1, ph3.2.2.2.2.2.2.1, ph3.2.2.2.2.2.2.2.1, ph3.2.2.2.2.2.2.2.2.1, ph3.2.2.2.2.2.2.2.2.2.1, ph3.2.2.2.2.2.2.2.2.2.2.1, IntKind.u64.wrap (↑(BitVec.ofInt IntKind.u64.bits ph3.2.2.2.2.2.2.2.2.2.2.2.1 ||| BitVec.ofInt IntKind.u64.bits (IntKind.u64.wrap ((1 : Int) * (2 : Int) ^ min (ps4.tmod (64 : Int)).toNat IntKind.u64.bits))).toNat : Int), ph3.2.2.2.2.2.2.2.2.2.2.2.2))
                else none)
               else (if IntKind.i64.wrap (ps4.tdiv (64 : Int)) = (↑((0 : Nat) + (1 : Nat) + (1 : Nat) + (1 : Nat) + (1 : Nat) + (1 : Nat) + (1 : Nat) + (1 : Nat) + (1 : Nat) + (1 : Nat) + (1 : Nat) + (1 : Nat) + (1 : Nat)) : Int) then (if decide ((0 : Int) ≤ ps4.tmod (64 : Int)) = true then r0 (IntKind.i64.wrap (ps4 + (1 : Int))) ((ph3.1, ph3.2.1, ph3.2.2.1, ph3.2.2.2.1, ph3.2.2.2.2.1, ph3.2.2.2.2.2.1, ph3.2.2.2.2.2.2.1, ph3.2.2.2.2.2.2.2.1, ph3.2.2.2.2.2.2.2.2.1, ph3.2.2.2.2.2.2.2.2.2.1, ph3.2.2.2.2.2.2.2.2.2.2.1, ph3.2.2.2.2.2.2.2.2.2.2.2.1, IntKind.u64.wrap (↑(BitVec.ofInt IntKind.u64.bits ph3.2.2.2.2.2.2.2.2.2.2.2.2.1 ||| BitVec.ofInt IntKind.u64.bits (IntKind.u64.wrap ((1 : Int) * (2 : Int) ^ min (ps4.tmod (64 : Int)).toNat IntKind.u64.bits))).toNat : Int), ph3.2.2.2.2.2.2.2.2.2.2.2.2.2))
                 else none)
                else (if IntKind.i64.wrap (ps4.tdiv (64 : Int)) = (↑((0 : Nat) + (1 : Nat) + (1 : Nat) + (1 : Nat) + (1 : Nat) + (1 : Nat) + (1 : Nat) + (1 : Nat) + (1 : Nat) + (1 : Nat) + (1 : Nat) + (1 : Nat) + (1 : Nat) + (1 : Nat)) : Int) then (if decide ((0 : Int) ≤ ps4.tmod (64 : Int)) = true then r0 (IntKind.i64.wrap (ps4 + (1 : Int))) ((ph3.1, ph3.2.1, ph3.2.2.1, ph3.2.2.2.1, ph3.2.2.2.2.1, ph3.2.2.2.2.2.1, ph3.2.2.2.2.2.2.1, ph3.2.2.2.2.2.2.2.1, ph3.2.2.2.2.2.2.2.2.1, ph3.2.2.2.2.2.2.2.2.2.1, ph3.2.2.2.2.2.2.2.2.2.2.1, ph3.2.2.2.2.2.2.2.2.2.2.2.1, ph3.2.2.2.2.2.2.2.2.2.2.2.2.1, IntKind.u64.wrap (↑(BitVec.ofInt IntKind.u64.bits ph3.2.2.2.2.2.2.2.2.2.2.2.2.2.1 ||| BitVec.ofInt IntKind.u64.bits (IntKind.u64.wrap ((1 : Int) * (2 : Int) ^ min (ps4.tmod (64 : Int)).toNat IntKind.u64.bits))).toNat : Int), ph3.2.2.2.2.2.2.2.2.2.2.2.2.2.2))
                  else none)
                 else (if IntKind.i64.wrap (ps4.tdiv (64 : Int)) = (↑((0 : Nat) + (1 : Nat) + (1 : Nat) + (1 : Nat) + (1 : Nat) + (1 : Nat) + (1 : Nat) + (1 : Nat) + (1 : Nat) + (1 : Nat) + (1 : Nat) + (1 : Nat) + (1 : Nat) + (1 : Nat) + (1 : Nat)) : Int) then (if decide ((0 : Int) ≤ ps4.tmod (64 : Int)) = true then r0 (IntKind.i64.wrap (ps4 + (1 : Int))) ((ph3.1, ph3.2.1, ph3.2.2.1, ph3.2.2.2.1, ph3.2.2.2.2.1, ph3.2.2.2.2.2.1, ph3.2.2.2.2.2.2.1, ph3.2.2.2.2.2.2.2.1, ph3.2.2.2.2.2.2.2.2.1, ph3.2.2.2.2.2.2.2.2.2.1, ph3.2.2.2.2.2.2.2.2.2.2.1, ph3.2.2.2.2.2.2.2.2.2.2.2.1, ph3.2.2.2.2.2.2.2.2.2.2.2.2.1, ph3.2.2.2.2.2.2.2.2.2.2.2.2.2.1, IntKind.u64.wrap (↑(BitVec.ofInt IntKind.u64.bits ph3.2.2.2.2.2.2.2.2.2.2.2.2.2.2.1 ||| BitVec.ofInt IntKind.u64.bits (IntKind.u64.wrap ((1 : Int) * (2 : Int) ^ min (ps4.tmod (64 : Int)).toNat IntKind.u64.bits))).toNat : Int), ph3.2.2.2.2.2.2.2.2.2.2.2.2.2.2.2))
                   else none)
                  else (if IntKind.i64.wrap (ps4.tdiv (64 : Int)) = (↑((0 : Nat) + (1 : Nat) + (1 : Nat) + (1 : Nat) + (1 : Nat) + (1 : Nat) + (1 : Nat) + (1 : Nat) + (1 : Nat) + (1 : Nat) + (1 : Nat) + (1 : Nat) + (1 : Nat) + (1 : Nat) + (1 : Nat) + (1 : Nat)) : Int) then (if decide ((0 : Int) ≤ ps4.tmod (64 : Int)) = true then r0 (IntKind.i64.wrap (ps4 + (1 : Int))) ((ph3.1, ph3.2.1, ph3.2.2.1, ph3.2.2.2.1, ph3.2.2.2.2.1, ph3.2.2.2.2.2.1, ph3.2.2.2.2.2.2.1, ph3.2.2.2.2.2.2.2.1, ph3.2.2.2.2.2.2.2.2.1, ph3.2.2.2.2.2.2.2.2.2.1, ph3.2.2.2.2.2.2.2.2.2.2.1, ph3.2.2.2.2.2.2.2.2.2.2.2.1, ph3.2.2.2.2.2.2.2.2.2.2.2.2.1, ph3.2.2.2.2.2.2.2.2.2.2.2.2.2.1, ph3.2.2.2.2.2.2.2.2.2.2.2.2.2.2.1, IntKind.u64.wrap (↑(BitVec.ofInt IntKind.u64.bits ph3.2.2.2.2.2.2.2.2.2.2.2.2.2.2.2 ||| BitVec.ofInt IntKind.u64.bits (IntKind.u64.wrap ((1 : Int) * (2 : Int) ^ min (ps4.tmod (64 : Int)).toNat IntKind.u64.bits))).toNat : Int)))
                    else none)
                   else none))))))))))))))))
   else some (ph3))
  else none)
noncomputable def L32_0 (K : Nat) (a0 : El T32) : Nat → Int → (El T65) → Option (El T65)
  | 0, _, _ => none
  | n + 1, ps4, ph3 => b32_0 K a0 (L32_0 K a0 n) ps4 ph3
noncomputable def t32 (K : Nat) (a0 : El T32) (l0 : Nat → Int → (El T65) → Option (El T65)) : Option (El T65) := l0 K (a0.1) (((0 : Int), (0 : Int), (0 : Int), (0 : Int), (0 : Int), (0 : Int), (0 : Int), (0 : Int), (0 : Int), (0 : Int), (0 : Int), (0 : Int), (0 : Int), (0 : Int), (0 : Int), (0 : Int)))
noncomputable def G32 (K : Nat) (a0 : El T32) : Option (El T65) := t32 K a0 (L32_0 K a0)
theorem lp32_0 (K : Nat) (a0 : El T32) : ∀ (n : Nat) (ps4 : Int) (ph3 : El T65), loopN Try.prog (tab32) 0 K Try.f32 la32 dq32.k 0 [] n (hd32_0 a0 ps4 ph3) = L32_0 K a0 n ps4 ph3
  | 0, _, _ => by kernel_rfl
  | n + 1, ps4, ph3 => by
    have h : loopN Try.prog (tab32) 0 K Try.f32 la32 dq32.k 0 [] (n + 1) (hd32_0 a0 ps4 ph3) = b32_0 K a0 (fun q0 q1 => loopN Try.prog (tab32) 0 K Try.f32 la32 dq32.k 0 [] n (hd32_0 a0 q0 q1)) ps4 ph3 := by kernel_rfl
    rw [h]
    simp only [lp32_0 K a0 n]
    rfl
theorem ev32 (K : Nat) (a0 : El T32) : evFun Try.prog (tab32) 0 K Try.f32 la32 [.agg (cellsOf T32 a0)] [] dq32.k = G32 K a0 := by
  have h : evFun Try.prog (tab32) 0 K Try.f32 la32 [.agg (cellsOf T32 a0)] [] dq32.k = t32 K a0 (fun k q0 q1 => loopN Try.prog (tab32) 0 K Try.f32 la32 dq32.k 0 [] k (hd32_0 a0 q0 q1)) := by kernel_rfl
  rw [h]
  simp only [lp32_0 K a0]
  rfl
noncomputable def F32 (K : Nat) (a0 : El T32) : Option (El T65) := G32 K a0
theorem cok32 (K : Nat) : CallOK D Try.prog (tab32) := none_ok
theorem ok32 (K : Nat) : RowOK D Try.prog 32 (row ad32 dq32 fun p => F32 K p) := row_ok fun x r h => has_of (cok32 K) Try.func32 ((ev32 K x).trans h)
/-! (ganger/gang.columns).or -/
noncomputable def tab34 : Tab := Tab.none
noncomputable def t34 (K : Nat) (a0 : El T65) (a1 : El T65) : Option (El T65) := some ((IntKind.u64.wrap (↑(BitVec.ofInt IntKind.u64.bits a0.1 ||| BitVec.ofInt IntKind.u64.bits a1.1).toNat : Int), IntKind.u64.wrap (↑(BitVec.ofInt IntKind.u64.bits a0.2.1 ||| BitVec.ofInt IntKind.u64.bits a1.2.1).toNat : Int), IntKind.u64.wrap (↑(BitVec.ofInt IntKind.u64.bits a0.2.2.1 ||| BitVec.ofInt IntKind.u64.bits a1.2.2.1).toNat : Int), IntKind.u64.wrap (↑(BitVec.ofInt IntKind.u64.bits a0.2.2.2.1 ||| BitVec.ofInt IntKind.u64.bits a1.2.2.2.1).toNat : Int), IntKind.u64.wrap (↑(BitVec.ofInt IntKind.u64.bits a0.2.2.2.2.1 ||| BitVec.ofInt IntKind.u64.bits a1.2.2.2.2.1).toNat : Int), IntKind.u64.wrap (↑(BitVec.ofInt IntKind.u64.bits a0.2.2.2.2.2.1 ||| BitVec.ofInt IntKind.u64.bits a1.2.2.2.2.2.1).toNat : Int), IntKind.u64.wrap (↑(BitVec.ofInt IntKind.u64.bits a0.2.2.2.2.2.2.1 ||| BitVec.ofInt IntKind.u64.bits a1.2.2.2.2.2.2.1).toNat : Int), IntKind.u64.wrap (↑(BitVec.ofInt IntKind.u64.bits a0.2.2.2.2.2.2.2.1 ||| BitVec.ofInt IntKind.u64.bits a1.2.2.2.2.2.2.2.1).toNat : Int), IntKind.u64.wrap (↑(BitVec.ofInt IntKind.u64.bits a0.2.2.2.2.2.2.2.2.1 ||| BitVec.ofInt IntKind.u64.bits a1.2.2.2.2.2.2.2.2.1).toNat : Int), IntKind.u64.wrap (↑(BitVec.ofInt IntKind.u64.bits a0.2.2.2.2.2.2.2.2.2.1 ||| BitVec.ofInt IntKind.u64.bits a1.2.2.2.2.2.2.2.2.2.1).toNat : Int), IntKind.u64.wrap (↑(BitVec.ofInt IntKind.u64.bits a0.2.2.2.2.2.2.2.2.2.2.1 ||| BitVec.ofInt IntKind.u64.bits a1.2.2.2.2.2.2.2.2.2.2.1).toNat : Int), IntKind.u64.wrap (↑(BitVec.ofInt IntKind.u64.bits a0.2.2.2.2.2.2.2.2.2.2.2.1 ||| BitVec.ofInt IntKind.u64.bits a1.2.2.2.2.2.2.2.2.2.2.2.1).toNat : Int), IntKind.u64.wrap (↑(BitVec.ofInt IntKind.u64.bits a0.2.2.2.2.2.2.2.2.2.2.2.2.1 ||| BitVec.ofInt IntKind.u64.bits a1.2.2.2.2.2.2.2.2.2.2.2.2.1).toNat : Int), IntKind.u64.wrap (↑(BitVec.ofInt IntKind.u64.bits a0.2.2.2.2.2.2.2.2.2.2.2.2.2.1 ||| BitVec.ofInt IntKind.u64.bits a1.2.2.2.2.2.2.2.2.2.2.2.2.2.1).toNat : Int), IntKind.u64.wrap (↑(BitVec.ofInt IntKind.u64.bits a0.2.2.2.2.2.2.2.2.2.2.2.2.2.2.1 ||| BitVec.ofInt IntKind.u64.bits a1.2.2.2.2.2.2.2.2.2.2.2.2.2.2.1).toNat : Int), IntKind.u64.wrap (↑(BitVec.ofInt IntKind.u64.bits a0.2.2.2.2.2.2.2.2.2.2.2.2.2.2.2 ||| BitVec.ofInt IntKind.u64.bits a1.2.2.2.2.2.2.2.2.2.2.2.2.2.2.2).toNat : Int)))
noncomputable def G34 (K : Nat) (a0 : El T65) (a1 : El T65) : Option (El T65) := t34 K a0 a1
theorem ev34 (K : Nat) (a0 : El T65) (a1 : El T65) : evFun Try.prog (tab34) 0 (K + 20) Try.f34 ([[.only [2, 3, 4, 6], .ids [2, 3, 4], .top [1000000]]] : List (List Tidy)) [.agg (cellsOf T65 a0), .agg (cellsOf T65 a1)] [] dq34.k = G34 K a0 a1 := by
  kernel_rfl
noncomputable def F34 (K : Nat) (a0 : El T65) (a1 : El T65) : Option (El T65) := G34 K a0 a1
theorem cok34 (K : Nat) : CallOK D Try.prog (tab34) := none_ok
theorem ok34 (K : Nat) : RowOK D Try.prog 34 (row ad34 dq34 fun p => F34 K p.1 p.2) := row_ok fun x r h => has_of (cok34 K) Try.func34 ((ev34 K x.1 x.2).trans h)
/-! (*ganger/gang.Matrix).row -/
noncomputable def tab37 (F32 : (El T32) → Option (El T65)) (F34 : (El T65) → (El T65) → Option (El T65)) : Tab := ((Tab.none.add 32 (row ad32 dq32 fun p => F32 p)).add 34 (row ad34 dq34 fun p => F34 p.1 p.2))
noncomputable def la37 : List (List Tidy) := [[.only [1, 4, 5, 11, 12, 13], .ids [4, 5, 12], .top [1000000]]]
noncomputable def hd37_0 (a0 : El T62) (a1 : Int) (ps13 : Int) (ph5 : El T65) : St := { tm := slots (nat_lit 28) [(nat_lit 1, AV.sc (Value.int IntKind.i64 a1)), (nat_lit 4, AV.ptr (nat_lit 4) (nat_lit 0)), (nat_lit 5, AV.ptr (nat_lit 5) (nat_lit 0)), (nat_lit 11, AV.row T34 a0.2.1), (nat_lit 12, AV.sc (Value.int IntKind.i64 (↑(List.length a0.2.1) : Int))), (nat_lit 13, AV.sc (Value.int IntKind.i64 ps13))], H := [(nat_lit 4, ABlk.box (nat_lit 65) (cellsOf T65 ((0 : Int), (0 : Int), (0 : Int), (0 : Int), (0 : Int), (0 : Int), (0 : Int), (0 : Int), (0 : Int), (0 : Int), (0 : Int), (0 : Int), (0 : Int), (0 : Int), (0 : Int), (0 : Int)))), (nat_lit 5, ABlk.box (nat_lit 65) (cellsOf T65 ph5))] }
noncomputable def b37_0 (F32 : (El T32) → Option (El T65)) (F34 : (El T65) → (El T65) → Option (El T65)) (K : Nat) (a0 : El T62) (a1 : Int) (r0 : Int → (El T65) → Option (El T65)) (ps13 : Int) (ph5 : El T65) : Option (El T65) :=(if decide (ps13 < (↑(List.length a0.2.1) : Int)) = true then (if decide ((0 : Int) ≤ ps13 ∧ ps13 < (↑(List.length a0.2.1) : Int)) = true then (if ((List.getD a0.2.1 ps13.toNat (zEl T34)).2.1 == a1) = true then 
     (Option.bind (F32 (List.getD a0.2.1 ps13.toNat (zEl T34)).2.2) fun x0 => 
      (Option.bind (F34 ph5 x0) fun x1 => r0 (IntKind.i64.wrap (ps13 + (1 : Int))) (x1)))
    else r0 (IntKind.i64.wrap (ps13 + (1 : Int))) (ph5))
   else none)
  else some (ph5))
noncomputable def L37_0 (F32 : (El T32) → Option (El T65)) (F34 : (El T65) → (El T65) → Option (El T65)) (K : Nat) (a0 : El T62) (a1 : Int) : Nat → Int → (El T65) → Option (El T65)
  | 0, _, _ => none
  | n + 1, ps13, ph5 => b37_0 F32 F34 K a0 a1 (L37_0 F32 F34 K a0 a1 n) ps13 ph5
noncomputable def t37 (F32 : (El T32) → Option (El T65)) (F34 : (El T65) → (El T65) → Option (El T65)) (K : Nat) (a0 : El T62) (a1 : Int) (l0 : Nat → Int → (El T65) → Option (El T65)) : Option (El T65) := l0 K ((0 : Int)) (((0 : Int), (0 : Int), (0 : Int), (0 : Int), (0 : Int), (0 : Int), (0 : Int), (0 : Int), (0 : Int), (0 : Int), (0 : Int), (0 : Int), (0 : Int), (0 : Int), (0 : Int), (0 : Int)))
noncomputable def G37 (F32 : (El T32) → Option (El T65)) (F34 : (El T65) → (El T65) → Option (El T65)) (K : Nat) (a0 : El T62) (a1 : Int) : Option (El T65) := t37 F32 F34 K a0 a1 (L37_0 F32 F34 K a0 a1)
theorem lp37_0 (F32 : (El T32) → Option (El T65)) (F34 : (El T65) → (El T65) → Option (El T65)) (K : Nat) (a0 : El T62) (a1 : Int) : ∀ (n : Nat) (ps13 : Int) (ph5 : El T65), loopN Try.prog (tab37 F32 F34) 0 K Try.f37 la37 dq37.k 0 [] n (hd37_0 a0 a1 ps13 ph5) = L37_0 F32 F34 K a0 a1 n ps13 ph5
  | 0, _, _ => by kernel_rfl
  | n + 1, ps13, ph5 => by
    have h : loopN Try.prog (tab37 F32 F34) 0 K Try.f37 la37 dq37.k 0 [] (n + 1) (hd37_0 a0 a1 ps13 ph5) = b37_0 F32 F34 K a0 a1 (fun q0 q1 => loopN Try.prog (tab37 F32 F34) 0 K Try.f37 la37 dq37.k 0 [] n (hd37_0 a0 a1 q0 q1)) ps13 ph5 := by kernel_rfl
    rw [h]
    simp only [lp37_0 F32 F34 K a0 a1 n]
    rfl
theorem ev37 (F32 : (El T32) → Option (El T65)) (F34 : (El T65) → (El T65) → Option (El T65)) (K : Nat) (a0 : El T62) (a1 : Int) : evFun Try.prog (tab37 F32 F34) 0 K Try.f37 la37 [.eptr T62 a0 0, I .i64 a1] [] dq37.k = G37 F32 F34 K a0 a1 := by
  have h : evFun Try.prog (tab37 F32 F34) 0 K Try.f37 la37 [.eptr T62 a0 0, I .i64 a1] [] dq37.k = t37 F32 F34 K a0 a1 (fun k q0 q1 => loopN Try.prog (tab37 F32 F34) 0 K Try.f37 la37 dq37.k 0 [] k (hd37_0 a0 a1 q0 q1)) := by kernel_rfl
  rw [h]
  simp only [lp37_0 F32 F34 K a0 a1]
  rfl
noncomputable def F37 (K : Nat) (a0 : El T62) (a1 : Int) : Option (El T65) := G37 (F32 K) (F34 K) K a0 a1
theorem cok37 (K : Nat) : CallOK D Try.prog (tab37 (F32 K) (F34 K)) := (add_ok (add_ok none_ok ent32 (ok32 K)) ent34 (ok34 K))
theorem ok37 (K : Nat) : RowOK D Try.prog 37 (row ad37 dq37 fun p => F37 K p.1 p.2) := row_ok fun x r h => has_of (cok37 K) Try.func37 ((ev37 (F32 K) (F34 K) K x.1 x.2).trans h)
/-! (ganger/gang.columns).and -/
noncomputable def tab46 : Tab := Tab.none
noncomputable def t46 (K : Nat) (a0 : El T65) (a1 : El T65) : Option (El T65) := some ((IntKind.u64.wrap (↑(BitVec.ofInt IntKind.u64.bits a0.1 &&& BitVec.ofInt IntKind.u64.bits a1.1).toNat : Int), IntKind.u64.wrap (↑(BitVec.ofInt IntKind.u64.bits a0.2.1 &&& BitVec.ofInt IntKind.u64.bits a1.2.1).toNat : Int), IntKind.u64.wrap (↑(BitVec.ofInt IntKind.u64.bits a0.2.2.1 &&& BitVec.ofInt IntKind.u64.bits a1.2.2.1).toNat : Int), IntKind.u64.wrap (↑(BitVec.ofInt IntKind.u64.bits a0.2.2.2.1 &&& BitVec.ofInt IntKind.u64.bits a1.2.2.2.1).toNat : Int), IntKind.u64.wrap (↑(BitVec.ofInt IntKind.u64.bits a0.2.2.2.2.1 &&& BitVec.ofInt IntKind.u64.bits a1.2.2.2.2.1).toNat : Int), IntKind.u64.wrap (↑(BitVec.ofInt IntKind.u64.bits a0.2.2.2.2.2.1 &&& BitVec.ofInt IntKind.u64.bits a1.2.2.2.2.2.1).toNat : Int), IntKind.u64.wrap (↑(BitVec.ofInt IntKind.u64.bits a0.2.2.2.2.2.2.1 &&& BitVec.ofInt IntKind.u64.bits a1.2.2.2.2.2.2.1).toNat : Int), IntKind.u64.wrap (↑(BitVec.ofInt IntKind.u64.bits a0.2.2.2.2.2.2.2.1 &&& BitVec.ofInt IntKind.u64.bits a1.2.2.2.2.2.2.2.1).toNat : Int), IntKind.u64.wrap (↑(BitVec.ofInt IntKind.u64.bits a0.2.2.2.2.2.2.2.2.1 &&& BitVec.ofInt IntKind.u64.bits a1.2.2.2.2.2.2.2.2.1).toNat : Int), IntKind.u64.wrap (↑(BitVec.ofInt IntKind.u64.bits a0.2.2.2.2.2.2.2.2.2.1 &&& BitVec.ofInt IntKind.u64.bits a1.2.2.2.2.2.2.2.2.2.1).toNat : Int), IntKind.u64.wrap (↑(BitVec.ofInt IntKind.u64.bits a0.2.2.2.2.2.2.2.2.2.2.1 &&& BitVec.ofInt IntKind.u64.bits a1.2.2.2.2.2.2.2.2.2.2.1).toNat : Int), IntKind.u64.wrap (↑(BitVec.ofInt IntKind.u64.bits a0.2.2.2.2.2.2.2.2.2.2.2.1 &&& BitVec.ofInt IntKind.u64.bits a1.2.2.2.2.2.2.2.2.2.2.2.1).toNat : Int), IntKind.u64.wrap (↑(BitVec.ofInt IntKind.u64.bits a0.2.2.2.2.2.2.2.2.2.2.2.2.1 &&& BitVec.ofInt IntKind.u64.bits a1.2.2.2.2.2.2.2.2.2.2.2.2.1).toNat : Int), IntKind.u64.wrap (↑(BitVec.ofInt IntKind.u64.bits a0.2.2.2.2.2.2.2.2.2.2.2.2.2.1 &&& BitVec.ofInt IntKind.u64.bits a1.2.2.2.2.2.2.2.2.2.2.2.2.2.1).toNat : Int), IntKind.u64.wrap (↑(BitVec.ofInt IntKind.u64.bits a0.2.2.2.2.2.2.2.2.2.2.2.2.2.2.1 &&& BitVec.ofInt IntKind.u64.bits a1.2.2.2.2.2.2.2.2.2.2.2.2.2.2.1).toNat : Int), IntKind.u64.wrap (↑(BitVec.ofInt IntKind.u64.bits a0.2.2.2.2.2.2.2.2.2.2.2.2.2.2.2 &&& BitVec.ofInt IntKind.u64.bits a1.2.2.2.2.2.2.2.2.2.2.2.2.2.2.2).toNat : Int)))
noncomputable def G46 (K : Nat) (a0 : El T65) (a1 : El T65) : Option (El T65) := t46 K a0 a1
theorem ev46 (K : Nat) (a0 : El T65) (a1 : El T65) : evFun Try.prog (tab46) 0 (K + 20) Try.f46 ([[.only [2, 3, 4, 6], .ids [2, 3, 4], .top [1000000]]] : List (List Tidy)) [.agg (cellsOf T65 a0), .agg (cellsOf T65 a1)] [] dq46.k = G46 K a0 a1 := by
  kernel_rfl
noncomputable def F46 (K : Nat) (a0 : El T65) (a1 : El T65) : Option (El T65) := G46 K a0 a1
theorem cok46 (K : Nat) : CallOK D Try.prog (tab46) := none_ok
theorem ok46 (K : Nat) : RowOK D Try.prog 46 (row ad46 dq46 fun p => F46 K p.1 p.2) := row_ok fun x r h => has_of (cok46 K) Try.func46 ((ev46 K x.1 x.2).trans h)
/-! (ganger/gang.columns).meets -/
noncomputable def tab33 (F46 : (El T65) → (El T65) → Option (El T65)) : Tab := (Tab.none.add 46 (row ad46 dq46 fun p => F46 p.1 p.2))
noncomputable def t33 (F46 : (El T65) → (El T65) → Option (El T65)) (K : Nat) (a0 : El T65) (a1 : El T65) : Option (Bool) := 
 (Option.bind (F46 a0 a1) fun x0 => some (!(x0.1 == (0 : Int) && (x0.2.1 == (0 : Int) && (x0.2.2.1 == (0 : Int) && (x0.2.2.2.1 == (0 : Int) && (x0.2.2.2.2.1 == (0 : Int) && (x0.2.2.2.2.2.1 == (0 : Int) && (x0.2.2.2.2.2.2.1 == (0 : Int) && (x0.2.2.2.2.2.2.2.1 == (0 : Int) && (x0.2.2.2.2.2.2.2.2.1 == (0 : Int) && (x0.2.2.2.2.2.2.2.2.2.1 == (0 : Int) && (x0.2.2.2.2.2.2.2.2.2.2.1 == (0 : Int) && (x0.2.2.2.2.2.2.2.2.2.2.2.1 == (0 : Int) && (x0.2.2.2.2.2.2.2.2.2.2.2.2.1 == (0 : Int) && (x0.2.2.2.2.2.2.2.2.2.2.2.2.2.1 == (0 : Int) && (x0.2.2.2.2.2.2.2.2.2.2.2.2.2.2.1 == (0 : Int) && x0.2.2.2.2.2.2.2.2.2.2.2.2.2.2.2 == (0 : Int))))))))))))))))))
noncomputable def G33 (F46 : (El T65) → (El T65) → Option (El T65)) (K : Nat) (a0 : El T65) (a1 : El T65) : Option (Bool) := t33 F46 K a0 a1
theorem ev33 (F46 : (El T65) → (El T65) → Option (El T65)) (K : Nat) (a0 : El T65) (a1 : El T65) : evFun Try.prog (tab33 F46) 0 K Try.f33 [] [.agg (cellsOf T65 a0), .agg (cellsOf T65 a1)] [] dq33.k = G33 F46 K a0 a1 := by
  kernel_rfl
noncomputable def F33 (K : Nat) (a0 : El T65) (a1 : El T65) : Option (Bool) := G33 (F46 K) K a0 a1
theorem cok33 (K : Nat) : CallOK D Try.prog (tab33 (F46 K)) := (add_ok none_ok ent46 (ok46 K))
theorem ok33 (K : Nat) : RowOK D Try.prog 33 (row ad33 dq33 fun p => F33 K p.1 p.2) := row_ok fun x r h => has_of (cok33 K) Try.func33 ((ev33 (F46 K) K x.1 x.2).trans h)
end Go.Proofs.YtlpalhgiiodjoaaE
