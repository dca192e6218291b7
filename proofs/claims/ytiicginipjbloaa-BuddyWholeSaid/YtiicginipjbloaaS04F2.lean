import Derived.Test.YtiicginipjbloaaS04W51
set_option linter.all false
namespace Go.Proofs.YtiicginipjbloaaE
open Go Go.Proofs
set_option maxRecDepth 100000
set_option linter.unusedVariables false
variable {D : Prop}
/-! (*ganger/buddy.Yard).lift -/
noncomputable def tab67 (F50 : (List (El (.int .i64))) → Int → Option (Int × Bool)) (F53 : (Int × Int) → List (El (.int .i64)) → Option (List (El (.int .i64)))) : Tab := ((Tab.none.add 50 (row ad50 dq50 fun p => F50 p.1 p.2)).addW 53 (rowW (.int .i64) ad53 F53 true))
noncomputable def t67 (F50 : (List (El (.int .i64))) → Int → Option (Int × Bool)) (F53 : (Int × Int) → List (El (.int .i64)) → Option (List (El (.int .i64)))) (K : Nat) (a0 : El T29) (o0 : Int × (List Int × (List Int × (List Int × (List Int × (List Int × (List Int × (List Int × (List Int × (List Int × (List Int × (List Int × (List (El T29) × (List Int)))))))))))))) : Option (Unit × (Int × (List Int × (List Int × (List Int × (List Int × (List Int × (List Int × (List Int × (List Int × (List Int × (List Int × (List Int × (List (El T29) × (List Int))))))))))))))) := (if decide (a0.2 = Int.ofNat (0 : Nat)) = true then 
  (Option.bind (F50 o0.2.1 a0.1) fun x0 => 
   (Option.bind (F53 (x0.1, IntKind.i64.wrap (x0.1 + (1 : Int))) o0.2.1) fun x1 => some (((), o0.1, x1, o0.2.2))))
 else (if decide (a0.2 = Int.ofNat ((0 : Nat) + (1 : Nat))) = true then 
   (Option.bind (F50 o0.2.2.1 a0.1) fun x2 => 
    (Option.bind (F53 (x2.1, IntKind.i64.wrap (x2.1 + (1 : Int))) o0.2.2.1) fun x3 => some (((), o0.1, o0.2.1, x3, o0.2.2.2))))
  else (if decide (a0.2 = Int.ofNat ((0 : Nat) + (1 : Nat) + (1 : Nat))) = true then 
    (Option.bind (F50 o0.2.2.2.1 a0.1) fun x4 => 
     (Option.bind (F53 (x4.1, IntKind.i64.wrap (x4.1 + (1 : Int))) o0.2.2.2.1) fun x5 => some (((), o0.1, o0.2.1, o0.2.2.1, x5, o0.2.2.2.2))))
   else (if decide (a0.2 = Int.ofNat ((0 : Nat) + (1 : Nat) + (1 : Nat) + (1 : Nat))) = true then 
     (Option.bind (F50 o0.2.2.2.2.1 a0.1) fun x6 => 
      (Option.bind (F53 (x6.1, IntKind.i64.wrap (x6.1 + (1 : Int))) o0.2.2.2.2.1) fun x7 => some (((), o0.1, o0.2.1, o0.2.2.1, o0.2.2.2.1, x7, o0.2.2.2.2.2))))
    else (if decide (a0.2 = Int.ofNat ((0 : Nat) + (1 : Nat) + (1 : Nat) + (1 : Nat) + (1 : Nat))) = true then 
      (Option.bind (F50 o0.2.2.2.2.2.1 a0.1) fun x8 => 
       (Option.bind (F53 (x8.1, IntKind.i64.wrap (x8.1 + (1 : Int))) o0.2.2.2.2.2.1) fun x9 => some (((), o0.1, o0.2.1, o0.2.2.1, o0.2.2.2.1, o0.2.2.2.2.1, x9, o0.2.2.2.2.2.2))))
     else (if decide (a0.2 = Int.ofNat ((0 : Nat) + (1 : Nat) + (1 : Nat) + (1 : Nat) + (1 : Nat) + (1 : Nat))) = true then 
       (Option.bind (F50 o0.2.2.2.2.2.2.1 a0.1) fun x10 => 
        (Option.bind (F53 (x10.1, IntKind.i64.wrap (x10.1 + (1 : Int))) o0.2.2.2.2.2.2.1) fun x11 => some (((), o0.1, o0.2.1, o0.2.2.1, o0.2.2.2.1, o0.2.2.2.2.1, o0.2.2.2.2.2.1, x11, o0.2.2.2.2.2.2.2))))
      else (if decide (a0.2 = Int.ofNat ((0 : Nat) + (1 : Nat) + (1 : Nat) + (1 : Nat) + (1 : Nat) + (1 : Nat) + (1 : Nat))) = true then 
        (Option.bind (F50 o0.2.2.2.2.2.2.2.1 a0.1) fun x12 => 
         (Option.bind (F53 (x12.1, IntKind.i64.wrap (x12.1 + (1 : Int))) o0.2.2.2.2.2.2.2.1) fun x13 => some (((), o0.1, o0.2.1, o0.2.2.1, o0.2.2.2.1, o0.2.2.2.2.1, o0.2.2.2.2.2.1, o0.2.2.2.2.2.2.1, x13, o0.2.2.2.2.2.2.2.2))))
       else none)))))))
noncomputable def G67 (F50 : (List (El (.int .i64))) → Int → Option (Int × Bool)) (F53 : (Int × Int) → List (El (.int .i64)) → Option (List (El (.int .i64)))) (K : Nat) (a0 : El T29) (o0 : Int × (List Int × (List Int × (List Int × (List Int × (List Int × (List Int × (List Int × (List Int × (List Int × (List Int × (List Int × (List (El T29) × (List Int)))))))))))))) : Option (Unit × (Int × (List Int × (List Int × (List Int × (List Int × (List Int × (List Int × (List Int × (List Int × (List Int × (List Int × (List Int × (List (El T29) × (List Int))))))))))))))) := t67 F50 F53 K a0 o0
theorem ev67 (F50 : (List (El (.int .i64))) → Int → Option (Int × Bool)) (F53 : (Int × Int) → List (El (.int .i64)) → Option (List (El (.int .i64)))) (K : Nat) (a0 : El T29) (o0 : Int × (List Int × (List Int × (List Int × (List Int × (List Int × (List Int × (List Int × (List Int × (List Int × (List Int × (List Int × (List (El T29) × (List Int)))))))))))))) : evFun Try.prog (tab67 F50 F53) 0 K Try.f67 ([[], [.case 1 [1] 7]] : List (List Tidy)) [.ptr 2000000 0, .agg (cellsOf T29 a0)] (hpB ob67 o0) gq67.k = G67 F50 F53 K a0 o0 := by
  kernel_rfl
noncomputable def F67 (K : Nat) (a0 : El T29) (o0 : Int × (List Int × (List Int × (List Int × (List Int × (List Int × (List Int × (List Int × (List Int × (List Int × (List Int × (List Int × (List (El T29) × (List Int)))))))))))))) : Option (Unit × (Int × (List Int × (List Int × (List Int × (List Int × (List Int × (List Int × (List Int × (List Int × (List Int × (List Int × (List Int × (List (El T29) × (List Int))))))))))))))) := G67 (F50 K) (F53 K) K a0 o0
theorem cok67 (K : Nat) : CallOK D Try.prog (tab67 (F50 K) (F53 K)) := (addW_ok (add_ok none_ok ent50 (ok50 K)) ent53 (ok53 K))
theorem ok67 (K : Nat) : RowG D Try.prog 67 (rowG (gad ag67 ob67) gq67 fun p => F67 K p.1.1 p.2) := rowG_ok fun x r h => ghas_of (cok67 K) Try.func67 ((ev67 (F50 K) (F53 K) K x.1.1 x.2).trans h)
/-! ganger/buddy.size -/
noncomputable def tab63 : Tab := Tab.none
noncomputable def t63 (K : Nat) (a0 : Int) : Option (Int) := (if decide ((0 : Int) ≤ a0) = true then some (IntKind.i64.wrap ((1 : Int) * (2 : Int) ^ min a0.toNat IntKind.i64.bits))
 else none)
noncomputable def G63 (K : Nat) (a0 : Int) : Option (Int) := t63 K a0
theorem ev63 (K : Nat) (a0 : Int) : evFun Try.prog (tab63) 0 K Try.f63 [] [I .i64 a0] [] dq63.k = G63 K a0 := by
  kernel_rfl
noncomputable def F63 (K : Nat) (a0 : Int) : Option (Int) := G63 K a0
theorem cok63 (K : Nat) : CallOK D Try.prog (tab63) := none_ok
theorem ok63 (K : Nat) : RowOK D Try.prog 63 (row ad63 dq63 fun p => F63 K p) := row_ok fun x r h => has_of (cok63 K) Try.func63 ((ev63 K x).trans h)
/-! (*ganger/buddy.Yard).split -/
noncomputable def tab40 (F67 : (El T29) → (Int × (List Int × (List Int × (List Int × (List Int × (List Int × (List Int × (List Int × (List Int × (List Int × (List Int × (List Int × (List (El T29) × (List Int)))))))))))))) → Option (Unit × (Int × (List Int × (List Int × (List Int × (List Int × (List Int × (List Int × (List Int × (List Int × (List Int × (List Int × (List Int × (List (El T29) × (List Int)))))))))))))))) (F63 : Int → Option (Int)) (F50 : (List (El (.int .i64))) → Int → Option (Int × Bool)) (F51 : (Int × List Int) → List (El (.int .i64)) → Option (List (El (.int .i64)))) : Tab := ((((Tab.none.addG 67 (rowG (gad ag67 ob67) gq67 fun p => F67 p.1.1 p.2)).add 63 (row ad63 dq63 fun p => F63 p)).add 50 (row ad50 dq50 fun p => F50 p.1 p.2)).addW 51 (rowWE 3 (.int .i64) ad51 F51 true))
noncomputable def la40 : List (List Tidy) := [[.caseB 4 1 7, .reno 62 400000, .reno 62 400001, .reno 62 400002, .reno 62 400003, .reno 62 400004, .reno 62 400005, .reno 62 400006, .only [0, 4, 5], .ids [4, 5, 11], .top [1000000]]]
noncomputable def hd40_0 (a0 : El T29) (a1 : El T29) (o0 : Int × (List Int × (List Int × (List Int × (List Int × (List Int × (List Int × (List Int × (List Int × (List Int × (List Int × (List Int × (List (El T29) × (List Int)))))))))))))) (ph4 : El T29) (ph400000 : List (Int)) (ph400001 : List (Int)) (ph400002 : List (Int)) (ph400003 : List (Int)) (ph400004 : List (Int)) (ph400005 : List (Int)) (ph400006 : List (Int)) (ph400007 : List (Int)) (ph400008 : List (Int)) (ph400009 : List (Int)) (ph400010 : List (Int)) (ph400011 : List (El T29)) (ph400012 : List (Int)) (ph2000000_0 : Int) : St := { tm := slots (nat_lit 66) [(nat_lit 0, AV.ptr (nat_lit 2000000) (nat_lit 0)), (nat_lit 4, AV.ptr (nat_lit 4) (nat_lit 0)), (nat_lit 5, AV.ptr (nat_lit 5) (nat_lit 0))], H := [(nat_lit 4, ABlk.box (nat_lit 29) (cellsOf T29 ph4)), (nat_lit 5, ABlk.box (nat_lit 29) (cellsOf T29 a1)), (nat_lit 400000, ABlk.arr (nat_lit 3) (Ty.int IntKind.i64) ph400000), (nat_lit 400001, ABlk.arr (nat_lit 3) (Ty.int IntKind.i64) ph400001), (nat_lit 400002, ABlk.arr (nat_lit 3) (Ty.int IntKind.i64) ph400002), (nat_lit 400003, ABlk.arr (nat_lit 3) (Ty.int IntKind.i64) ph400003), (nat_lit 400004, ABlk.arr (nat_lit 3) (Ty.int IntKind.i64) ph400004), (nat_lit 400005, ABlk.arr (nat_lit 3) (Ty.int IntKind.i64) ph400005), (nat_lit 400006, ABlk.arr (nat_lit 3) (Ty.int IntKind.i64) ph400006), (nat_lit 400007, ABlk.arr (nat_lit 3) (Ty.int IntKind.i64) ph400007), (nat_lit 400008, ABlk.arr (nat_lit 3) (Ty.int IntKind.i64) ph400008), (nat_lit 400009, ABlk.arr (nat_lit 3) (Ty.int IntKind.i64) ph400009), (nat_lit 400010, ABlk.arr (nat_lit 3) (Ty.int IntKind.i64) ph400010), (nat_lit 400011, ABlk.arr (nat_lit 29) T29 ph400011), (nat_lit 400012, ABlk.arr (nat_lit 3) (Ty.int IntKind.i64) ph400012), (nat_lit 2000000, ABlk.box (nat_lit 65) [AV.sc (Value.int IntKind.i64 ph2000000_0), AV.own (nat_lit 400000), AV.own (nat_lit 400001), AV.own (nat_lit 400002), AV.own (nat_lit 400003), AV.own (nat_lit 400004), AV.own (nat_lit 400005), AV.own (nat_lit 400006), AV.own (nat_lit 400007), AV.own (nat_lit 400008), AV.own (nat_lit 400009), AV.own (nat_lit 400010), AV.own (nat_lit 400011), AV.own (nat_lit 400012)])] }
noncomputable def b40_0 (F67 : (El T29) → (Int × (List Int × (List Int × (List Int × (List Int × (List Int × (List Int × (List Int × (List Int × (List Int × (List Int × (List Int × (List (El T29) × (List Int)))))))))))))) → Option (Unit × (Int × (List Int × (List Int × (List Int × (List Int × (List Int × (List Int × (List Int × (List Int × (List Int × (List Int × (List Int × (List (El T29) × (List Int)))))))))))))))) (F63 : Int → Option (Int)) (F50 : (List (El (.int .i64))) → Int → Option (Int × Bool)) (F51 : (Int × List Int) → List (El (.int .i64)) → Option (List (El (.int .i64)))) (K : Nat) (a0 : El T29) (a1 : El T29) (o0 : Int × (List Int × (List Int × (List Int × (List Int × (List Int × (List Int × (List Int × (List Int × (List Int × (List Int × (List Int × (List (El T29) × (List Int)))))))))))))) (r0 : (El T29) → (List (Int)) → (List (Int)) → (List (Int)) → (List (Int)) → (List (Int)) → (List (Int)) → (List (Int)) → (List (Int)) → (List (Int)) → (List (Int)) → (List (Int)) → (List (El T29)) → (List (Int)) → Int → Option (Unit × (Int × (List Int × (List Int × (List Int × (List Int × (List Int × (List Int × (List Int × (List Int × (List Int × (List Int × (List Int × (List (El T29) × (List Int)))))))))))))))) (ph4 : El T29) (ph400000 : List (Int)) (ph400001 : List (Int)) (ph400002 : List (Int)) (ph400003 : List (Int)) (ph400004 : List (Int)) (ph400005 : List (Int)) (ph400006 : List (Int)) (ph400007 : List (Int)) (ph400008 : List (Int)) (ph400009 : List (Int)) (ph400010 : List (Int)) (ph400011 : List (El T29)) (ph400012 : List (Int)) (ph2000000_0 : Int) : Option (Unit × (Int × (List Int × (List Int × (List Int × (List Int × (List Int × (List Int × (List Int × (List Int × (List Int × (List Int × (List Int × (List (El T29) × (List Int))))))))))))))) :=(if decide (ph4.2 = Int.ofNat (0 : Nat)) = true then (if (!(ph4.1 == a1.1 && Int.ofNat (0 : Nat) == a1.2)) = true then 
    (Option.bind (F63 (IntKind.i64.wrap (Int.ofNat (0 : Nat) - (1 : Int)))) fun x1 => 
     (Option.bind (F63 (IntKind.i64.wrap (Int.ofNat (0 : Nat) - (1 : Int)))) fun x2 => (if decide (a1.1 ≥ IntKind.i64.wrap (ph4.1 + x1)) = true then none
      else none)))
   else some (((), ph2000000_0, ph400000, ph400001, ph400002, ph400003, ph400004, ph400005, ph400006, ph400007, ph400008, ph400009, ph400010, ph400011, ph400012)))
  else (if decide (ph4.2 = Int.ofNat ((0 : Nat) + (1 : Nat))) = true then (if (!(ph4.1 == a1.1 && Int.ofNat ((0 : Nat) + (1 : Nat)) == a1.2)) = true then 
     (Option.bind (F63 (IntKind.i64.wrap (Int.ofNat ((0 : Nat) + (1 : Nat)) - (1 : Int)))) fun x3 => 
      (Option.bind (F63 (IntKind.i64.wrap (Int.ofNat ((0 : Nat) + (1 : Nat)) - (1 : Int)))) fun x4 => (if decide (a1.1 ≥ IntKind.i64.wrap (ph4.1 + x3)) = true then 
        (Option.bind (F50 ph400000 ph4.1) fun x5 => 
         (Option.bind (F51 (x5.1, [ph4.1]) ph400000) fun x6 => r0 ((IntKind.i64.wrap (ph4.1 + x3), IntKind.i64.wrap (Int.ofNat ((0 : Nat) + (1 : Nat)) - (1 : Int)))) (x6) (ph400001) (ph400002) (ph400003) (ph400004) (ph400005) (ph400006) (ph400007) (ph400008) (ph400009) (ph400010) (ph400011) (ph400012) (ph2000000_0)))
       else 
        (Option.bind (F50 ph400000 (IntKind.i64.wrap (ph4.1 + x3))) fun x7 => 
         (Option.bind (F51 (x7.1, [IntKind.i64.wrap (ph4.1 + x3)]) ph400000) fun x8 => r0 ((ph4.1, IntKind.i64.wrap (Int.ofNat ((0 : Nat) + (1 : Nat)) - (1 : Int)))) (x8) (ph400001) (ph400002) (ph400003) (ph400004) (ph400005) (ph400006) (ph400007) (ph400008) (ph400009) (ph400010) (ph400011) (ph400012) (ph2000000_0))))))
    else some (((), ph2000000_0, ph400000, ph400001, ph400002, ph400003, ph400004, ph400005, ph400006, ph400007, ph400008, ph400009, ph400010, ph400011, ph400012)))
   else (if decide (ph4.2 = Int.ofNat ((0 : Nat) + (1 : Nat) + (1 : Nat))) = true then (if (!(ph4.1 == a1.1 && Int.ofNat ((0 : Nat) + (1 : Nat) + (1 : Nat)) == a1.2)) = true then 
      (Option.bind (F63 (IntKind.i64.wrap (Int.ofNat ((0 : Nat) + (1 : Nat) + (1 : Nat)) - (1 : Int)))) fun x9 => 
       (Option.bind (F63 (IntKind.i64.wrap (Int.ofNat ((0 : Nat) + (1 : Nat) + (1 : Nat)) - (1 : Int)))) fun x10 => (if decide (a1.1 ≥ IntKind.i64.wrap (ph4.1 + x9)) = true then 
         (Option.bind (F50 ph400001 ph4.1) fun x11 => 
          (Option.bind (F51 (x11.1, [ph4.1]) ph400001) fun x12 => r0 ((IntKind.i64.wrap (ph4.1 + x9), IntKind.i64.wrap (Int.ofNat ((0 : Nat) + (1 : Nat) + (1 : Nat)) - (1 : Int)))) (ph400000) (x12) (ph400002) (ph400003) (ph400004) (ph400005) (ph400006) (ph400007) (ph400008) (ph400009) (ph400010) (ph400011) (ph400012) (ph2000000_0)))
        else 
         (Option.bind (F50 ph400001 (IntKind.i64.wrap (ph4.1 + x9))) fun x13 => 
          (Option.bind (F51 (x13.1, [IntKind.i64.wrap (ph4.1 + x9)]) ph400001) fun x14 => r0 ((ph4.1, IntKind.i64.wrap (Int.ofNat ((0 : Nat) + (1 : Nat) + (1 : Nat)) - (1 : Int)))) (ph400000) (x14) (ph400002) (ph400003) (ph400004) (ph400005) (ph400006) (ph400007) (ph400008) (ph400009) (ph400010) (ph400011) (ph400012) (ph2000000_0))))))
     else some (((), ph2000000_0, ph400000, ph400001, ph400002, ph400003, ph400004, ph400005, ph400006, ph400007, ph400008, ph400009, ph400010, ph400011, ph400012)))
    else (if decide (ph4.2 = Int.ofNat ((0 : Nat) + (1 : Nat) + (1 : Nat) + (1 : Nat))) = true then (if (!(ph4.1 == a1.1 && Int.ofNat ((0 : Nat) + (1 : Nat) + (1 : Nat) + (1 : Nat)) == a1.2)) = true then 
       (Option.bind (F63 (IntKind.i64.wrap (Int.ofNat ((0 : Nat) + (1 : Nat) + (1 : Nat) + (1 : Nat)) - (1 : Int)))) fun x15 => 
        (Option.bind (F63 (IntKind.i64.wrap (Int.ofNat ((0 : Nat) + (1 : Nat) + (1 : Nat) + (1 : Nat)) - (1 : Int)))) fun x16 => (if decide (a1.1 ≥ IntKind.i64.wrap (ph4.1 + x15)) = true then 
          (Option.bind (F50 ph400002 ph4.1) fun x17 => 
           (Option.bind (F51 (x17.1, [ph4.1]) ph400002) fun x18 => r0 ((IntKind.i64.wrap (ph4.1 + x15), IntKind.i64.wrap (Int.ofNat ((0 : Nat) + (1 : Nat) + (1 : Nat) + (1 : Nat)) - (1 : Int)))) (ph400000) (ph400001) (x18) (ph400003) (ph400004) (ph400005) (ph400006) (ph400007) (ph400008) (ph400009) (ph400010) (ph400011) (ph400012) (ph2000000_0)))
         else 
          (Option.bind (F50 ph400002 (IntKind.i64.wrap (ph4.1 + x15))) fun x19 => 
           (Option.bind (F51 (x19.1, [IntKind.i64.wrap (ph4.1 + x15)]) ph400002) fun x20 => r0 ((ph4.1, IntKind.i64.wrap (Int.ofNat ((0 : Nat) + (1 : Nat) + (1 : Nat) + (1 : Nat)) - (1 : Int)))) (ph400000) (ph400001) (x20) (ph400003) (ph400004) (ph400005) (ph400006) (ph400007) (ph400008) (ph400009) (ph400010) (ph400011) (ph400012) (ph2000000_0))))))
      else some (((), ph2000000_0, ph400000, ph400001, ph400002, ph400003, ph400004, ph400005, ph400006, ph400007, ph400008, ph400009, ph400010, ph400011, ph400012)))
     else (if decide (ph4.2 = Int.ofNat ((0 : Nat) + (1 : Nat) + (1 : Nat) + (1 : Nat) + (1 : Nat))) = true then (if (!(ph4.1 == a1.1 && Int.ofNat ((0 : Nat) + (1 : Nat) + (1 : Nat) + (1 : Nat) + (1 : Nat)) == a1.2)) = true then 
        (Option.bind (F63 (IntKind.i64.wrap (Int.ofNat ((0 : Nat) + (1 : Nat) + (1 : Nat) + (1 : Nat) + (1 : Nat)) - (1 : Int)))) fun x21 => 
         (Option.bind (F63 (IntKind.i64.wrap (Int.ofNat ((0 : Nat) + (1 : Nat) + (1 : Nat) + (1 : Nat) + (1 : Nat)) - (1 : Int)))) fun x22 => (if decide (a1.1 ≥ IntKind.i64.wrap (ph4.1 + x21)) = true then 
           (Option.bind (F50 ph400003 ph4.1) fun x23 => 
            (Option.bind (F51 (x23.1, [ph4.1]) ph400003) fun x24 => r0 ((IntKind.i64.wrap (ph4.1 + x21), IntKind.i64.wrap (Int.ofNat ((0 : Nat) + (1 : Nat) + (1 : Nat) + (1 : Nat) + (1 : Nat)) - (1 : Int)))) (ph400000) (ph400001) (ph400002) (x24) (ph400004) (ph400005) (ph400006) (ph400007) (ph400008) (ph400009) (ph400010) (ph400011) (ph400012) (ph2000000_0)))
          else 
           (Option.bind (F50 ph400003 (IntKind.i64.wrap (ph4.1 + x21))) fun x25 => 
            (Option.bind (F51 (x25.1, [IntKind.i64.wrap (ph4.1 + x21)]) ph400003) fun x26 => r0 ((ph4.1, IntKind.i64.wrap (Int.ofNat ((0 : Nat) + (1 : Nat) + (1 : Nat) + (1 : Nat) + (1 : Nat)) - (1 : Int)))) (ph400000) (ph400001) (ph400002) (x26) (ph400004) (ph400005) (ph400006) (ph400007) (ph400008) (ph400009) (ph400010) (ph400011) (ph400012) (ph2000000_0))))))
       else some (((), ph2000000_0, ph400000, ph400001, ph400002, ph400003, ph400004, ph400005, ph400006, ph400007, ph400008, ph400009, ph400010, ph400011, ph400012)))
      else (if decide (ph4.2 = Int.ofNat ((0 : Nat) + (1 : Nat) + (1 : Nat) + (1 : Nat) + (1 : Nat) + (1 : Nat))) = true then (if (!(ph4.1 == a1.1 && Int.ofNat ((0 : Nat) + (1 : Nat) + (1 : Nat) + (1 : Nat) + (1 : Nat) + (1 : Nat)) == a1.2)) = true then 
         (Option.bind (F63 (IntKind.i64.wrap (Int.ofNat ((0 : Nat) + (1 : Nat) + (1 : Nat) + (1 : Nat) + (1 : Nat) + (1 : Nat)) - (1 : Int)))) fun x27 => 
          (Option.bind (F63 (IntKind.i64.wrap (Int.ofNat ((0 : Nat) + (1 : Nat) + (1 : Nat) + (1 : Nat) + (1 : Nat) + (1 : Nat)) - (1 : Int)))) fun x28 => (if decide (a1.1 ≥ IntKind.i64.wrap (ph4.1 + x27)) = true then 
            (Option.bind (F50 ph400004 ph4.1) fun x29 => 
             (Option.bind (F51 (x29.1, [ph4.1]) ph400004) fun x30 => r0 ((IntKind.i64.wrap (ph4.1 + x27), IntKind.i64.wrap (Int.ofNat ((0 : Nat) + (1 : Nat) + (1 : Nat) + (1 : Nat) + (1 : Nat) + (1 : Nat)) - (1 : Int)))) (ph400000) (ph400001) (ph400002) (ph400003) (x30) (ph400005) (ph400006) (ph400007) (ph400008) (ph400009) (ph400010) (ph400011) (ph400012) (ph2000000_0)))
           else 
            (Option.bind (F50 ph400004 (IntKind.i64.wrap (ph4.1 + x27))) fun x31 => 
             (Option.bind (F51 (x31.1, [IntKind.i64.wrap (ph4.1 + x27)]) ph400004) fun x32 => r0 ((ph4.1, IntKind.i64.wrap (Int.ofNat ((0 : Nat) + (1 : Nat) + (1 : Nat) + (1 : Nat) + (1 : Nat) + (1 : Nat)) - (1 : Int)))) (ph400000) (ph400001) (ph400002) (ph400003) (x32) (ph400005) (ph400006) (ph400007) (ph400008) (ph400009) (ph400010) (ph400011) (ph400012) (ph2000000_0))))))
        else some (((), ph2000000_0, ph400000, ph400001, ph400002, ph400003, ph400004, ph400005, ph400006, ph400007, ph400008, ph400009, ph400010, ph400011, ph400012)))
       else (if decide (ph4.2 = Int.ofNat ((0 : Nat) + (1 : Nat) + (1 : Nat) + (1 : Nat) + (1 : Nat) + (1 : Nat) + (1 : Nat))) = true then (if (!(ph4.1 == a1.1 && Int.ofNat ((0 : Nat) + (1 : Nat) + (1 : Nat) + (1 : Nat) + (1 : Nat) + (1 : Nat) + (1 : Nat)) == a1.2)) = true then 
          (Option.bind (F63 (IntKind.i64.wrap (Int.ofNat ((0 : Nat) + (1 : Nat) + (1 : Nat) + (1 : Nat) + (1 : Nat) + (1 : Nat) + (1 : Nat)) - (1 : Int)))) fun x33 => 
           (Option.bind (F63 (IntKind.i64.wrap (Int.ofNat ((0 : Nat) + (1 : Nat) + (1 : Nat) + (1 : Nat) + (1 : Nat) + (1 : Nat) + (1 : Nat)) - (1 : Int)))) fun x34 => (if decide (a1.1 ≥ IntKind.i64.wrap (ph4.1 + x33)) = true then 
             (Option.bind (F50 ph400005 ph4.1) fun x35 => 
              (Option.bind (F51 (x35.1, [ph4.1]) ph400005) fun x36 => r0 ((IntKind.i64.wrap (ph4.1 + x33), IntKind.i64.wrap (Int.ofNat ((0 : Nat) + (1 : Nat) + (1 : Nat) + (1 : Nat) + (1 : Nat) + (1 : Nat) + (1 : Nat)) - (1 : Int)))) (ph400000) (ph400001) (ph400002) (ph400003) (ph400004) (x36) (ph400006) (ph400007) (ph400008) (ph400009) (ph400010) (ph400011) (ph400012) (ph2000000_0)))
            else 
             (Option.bind (F50 ph400005 (IntKind.i64.wrap (ph4.1 + x33))) fun x37 => 
              (Option.bind (F51 (x37.1, [IntKind.i64.wrap (ph4.1 + x33)]) ph400005) fun x38 => r0 ((ph4.1, IntKind.i64.wrap (Int.ofNat ((0 : Nat) + (1 : Nat) + (1 : Nat) + (1 : Nat) + (1 : Nat) + (1 : Nat) + (1 : Nat)) - (1 : Int)))) (ph400000) (ph400001) (ph400002) (ph400003) (ph400004) (x38) (ph400006) (ph400007) (ph400008) (ph400009) (ph400010) (ph400011) (ph400012) (ph2000000_0))))))
         else some (((), ph2000000_0, ph400000, ph400001, ph400002, ph400003, ph400004, ph400005, ph400006, ph400007, ph400008, ph400009, ph400010, ph400011, ph400012)))
        else none)))))))
noncomputable def L40_0 (F67 : (El T29) → (Int × (List Int × (List Int × (List Int × (List Int × (List Int × (List Int × (List Int × (List Int × (List Int × (List Int × (List Int × (List (El T29) × (List Int)))))))))))))) → Option (Unit × (Int × (List Int × (List Int × (List Int × (List Int × (List Int × (List Int × (List Int × (List Int × (List Int × (List Int × (List Int × (List (El T29) × (List Int)))))))))))))))) (F63 : Int → Option (Int)) (F50 : (List (El (.int .i64))) → Int → Option (Int × Bool)) (F51 : (Int × List Int) → List (El (.int .i64)) → Option (List (El (.int .i64)))) (K : Nat) (a0 : El T29) (a1 : El T29) (o0 : Int × (List Int × (List Int × (List Int × (List Int × (List Int × (List Int × (List Int × (List Int × (List Int × (List Int × (List Int × (List (El T29) × (List Int)))))))))))))) : Nat → (El T29) → (List (Int)) → (List (Int)) → (List (Int)) → (List (Int)) → (List (Int)) → (List (Int)) → (List (Int)) → (List (Int)) → (List (Int)) → (List (Int)) → (List (Int)) → (List (El T29)) → (List (Int)) → Int → Option (Unit × (Int × (List Int × (List Int × (List Int × (List Int × (List Int × (List Int × (List Int × (List Int × (List Int × (List Int × (List Int × (List (El T29) × (List Int)))))))))))))))
  | 0, _, _, _, _, _, _, _, _, _, _, _, _, _, _, _ => none
  | n + 1, ph4, ph400000, ph400001, ph400002, ph400003, ph400004, ph400005, ph400006, ph400007, ph400008, ph400009, ph400010, ph400011, ph400012, ph2000000_0 => b40_0 F67 F63 F50 F51 K a0 a1 o0 (L40_0 F67 F63 F50 F51 K a0 a1 o0 n) ph4 ph400000 ph400001 ph400002 ph400003 ph400004 ph400005 ph400006 ph400007 ph400008 ph400009 ph400010 ph400011 ph400012 ph2000000_0
noncomputable def t40 (F67 : (El T29) → (Int × (List Int × (List Int × (List Int × (List Int × (List Int × (List Int × (List Int × (List Int × (List Int × (List Int × (List Int × (List (El T29) × (List Int)))))))))))))) → Option (Unit × (Int × (List Int × (List Int × (List Int × (List Int × (List Int × (List Int × (List Int × (List Int × (List Int × (List Int × (List Int × (List (El T29) × (List Int)))))))))))))))) (F63 : Int → Option (Int)) (F50 : (List (El (.int .i64))) → Int → Option (Int × Bool)) (F51 : (Int × List Int) → List (El (.int .i64)) → Option (List (El (.int .i64)))) (K : Nat) (a0 : El T29) (a1 : El T29) (o0 : Int × (List Int × (List Int × (List Int × (List Int × (List Int × (List Int × (List Int × (List Int × (List Int × (List Int × (List Int × (List (El T29) × (List Int)))))))))))))) (l0 : Nat → (El T29) → (List (Int)) → (List (Int)) → (List (Int)) → (List (Int)) → (List (Int)) → (List (Int)) → (List (Int)) → (List (Int)) → (List (Int)) → (List (Int)) → (List (Int)) → (List (El T29)) → (List (Int)) → Int → Option (Unit × (Int × (List Int × (List Int × (List Int × (List Int × (List Int × (List Int × (List Int × (List Int × (List Int × (List Int × (List Int × (List (El T29) × (List Int)))))))))))))))) : Option (Unit × (Int × (List Int × (List Int × (List Int × (List Int × (List Int × (List Int × (List Int × (List Int × (List Int × (List Int × (List Int × (List (El T29) × (List Int))))))))))))))) := 
 (Option.bind (F67 a0 o0) fun x0 => l0 K (a0) (x0.2.2.1) (x0.2.2.2.1) (x0.2.2.2.2.1) (x0.2.2.2.2.2.1) (x0.2.2.2.2.2.2.1) (x0.2.2.2.2.2.2.2.1) (x0.2.2.2.2.2.2.2.2.1) (x0.2.2.2.2.2.2.2.2.2.1) (x0.2.2.2.2.2.2.2.2.2.2.1) (x0.2.2.2.2.2.2.2.2.2.2.2.1) (x0.2.2.2.2.2.2.2.2.2.2.2.2.1) (x0.2.2.2.2.2.2.2.2.2.2.2.2.2.1) (x0.2.2.2.2.2.2.2.2.2.2.2.2.2.2) (x0.2.1))
noncomputable def G40 (F67 : (El T29) → (Int × (List Int × (List Int × (List Int × (List Int × (List Int × (List Int × (List Int × (List Int × (List Int × (List Int × (List Int × (List (El T29) × (List Int)))))))))))))) → Option (Unit × (Int × (List Int × (List Int × (List Int × (List Int × (List Int × (List Int × (List Int × (List Int × (List Int × (List Int × (List Int × (List (El T29) × (List Int)))))))))))))))) (F63 : Int → Option (Int)) (F50 : (List (El (.int .i64))) → Int → Option (Int × Bool)) (F51 : (Int × List Int) → List (El (.int .i64)) → Option (List (El (.int .i64)))) (K : Nat) (a0 : El T29) (a1 : El T29) (o0 : Int × (List Int × (List Int × (List Int × (List Int × (List Int × (List Int × (List Int × (List Int × (List Int × (List Int × (List Int × (List (El T29) × (List Int)))))))))))))) : Option (Unit × (Int × (List Int × (List Int × (List Int × (List Int × (List Int × (List Int × (List Int × (List Int × (List Int × (List Int × (List Int × (List (El T29) × (List Int))))))))))))))) := t40 F67 F63 F50 F51 K a0 a1 o0 (L40_0 F67 F63 F50 F51 K a0 a1 o0)
theorem lp40_0 (F67 : (El T29) → (Int × (List Int × (List Int × (List Int × (List Int × (List Int × (List Int × (List Int × (List Int × (List Int × (List Int × (List Int × (List (El T29) × (List Int)))))))))))))) → Option (Unit × (Int × (List Int × (List Int × (List Int × (List Int × (List Int × (List Int × (List Int × (List Int × (List Int × (List Int × (List Int × (List (El T29) × (List Int)))))))))))))))) (F63 : Int → Option (Int)) (F50 : (List (El (.int .i64))) → Int → Option (Int × Bool)) (F51 : (Int × List Int) → List (El (.int .i64)) → Option (List (El (.int .i64)))) (K : Nat) (a0 : El T29) (a1 : El T29) (o0 : Int × (List Int × (List Int × (List Int × (List Int × (List Int × (List Int × (List Int × (List Int × (List Int × (List Int × (List Int × (List (El T29) × (List Int)))))))))))))) : ∀ (n : Nat) (ph4 : El T29) (ph400000 : List (Int)) (ph400001 : List (Int)) (ph400002 : List (Int)) (ph400003 : List (Int)) (ph400004 : List (Int)) (ph400005 : List (Int)) (ph400006 : List (Int)) (ph400007 : List (Int)) (ph400008 : List (Int)) (ph400009 : List (Int)) (ph400010 : List (Int)) (ph400011 : List (El T29)) (ph400012 : List (Int)) (ph2000000_0 : Int), loopN Try.prog (tab40 F67 F63 F50 F51) 0 K Try.f40 la40 gq40.k 0 [] n (hd40_0 a0 a1 o0 ph4 ph400000 ph400001 ph400002 ph400003 ph400004 ph400005 ph400006 ph400007 ph400008 ph400009 ph400010 ph400011 ph400012 ph2000000_0) = L40_0 F67 F63 F50 F51 K a0 a1 o0 n ph4 ph400000 ph400001 ph400002 ph400003 ph400004 ph400005 ph400006 ph400007 ph400008 ph400009 ph400010 ph400011 ph400012 ph2000000_0
  | 0, _, _, _, _, _, _, _, _, _, _, _, _, _, _, _ => by kernel_rfl
  | n + 1, ph4, ph400000, ph400001, ph400002, ph400003, ph400004, ph400005, ph400006, ph400007, ph400008, ph400009, ph400010, ph400011, ph400012, ph2000000_0 => by
    have h : loopN Try.prog (tab40 F67 F63 F50 F51) 0 K Try.f40 la40 gq40.k 0 [] (n + 1) (hd40_0 a0 a1 o0 ph4 ph400000 ph400001 ph400002 ph400003 ph400004 ph400005 ph400006 ph400007 ph400008 ph400009 ph400010 ph400011 ph400012 ph2000000_0) = b40_0 F67 F63 F50 F51 K a0 a1 o0 (fun q0 q1 q2 q3 q4 q5 q6 q7 q8 q9 q10 q11 q12 q13 q14 => loopN Try.prog (tab40 F67 F63 F50 F51) 0 K Try.f40 la40 gq40.k 0 [] n (hd40_0 a0 a1 o0 q0 q1 q2 q3 q4 q5 q6 q7 q8 q9 q10 q11 q12 q13 q14)) ph4 ph400000 ph400001 ph400002 ph400003 ph400004 ph400005 ph400006 ph400007 ph400008 ph400009 ph400010 ph400011 ph400012 ph2000000_0 := by kernel_rfl
    rw [h]
    simp only [lp40_0 F67 F63 F50 F51 K a0 a1 o0 n]
    rfl
theorem ev40 (F67 : (El T29) → (Int × (List Int × (List Int × (List Int × (List Int × (List Int × (List Int × (List Int × (List Int × (List Int × (List Int × (List Int × (List (El T29) × (List Int)))))))))))))) → Option (Unit × (Int × (List Int × (List Int × (List Int × (List Int × (List Int × (List Int × (List Int × (List Int × (List Int × (List Int × (List Int × (List (El T29) × (List Int)))))))))))))))) (F63 : Int → Option (Int)) (F50 : (List (El (.int .i64))) → Int → Option (Int × Bool)) (F51 : (Int × List Int) → List (El (.int .i64)) → Option (List (El (.int .i64)))) (K : Nat) (a0 : El T29) (a1 : El T29) (o0 : Int × (List Int × (List Int × (List Int × (List Int × (List Int × (List Int × (List Int × (List Int × (List Int × (List Int × (List Int × (List (El T29) × (List Int)))))))))))))) : evFun Try.prog (tab40 F67 F63 F50 F51) 0 K Try.f40 la40 [.ptr 2000000 0, .agg (cellsOf T29 a0), .agg (cellsOf T29 a1)] (hpB ob40 o0) gq40.k = G40 F67 F63 F50 F51 K a0 a1 o0 := by
  have h : evFun Try.prog (tab40 F67 F63 F50 F51) 0 K Try.f40 la40 [.ptr 2000000 0, .agg (cellsOf T29 a0), .agg (cellsOf T29 a1)] (hpB ob40 o0) gq40.k = t40 F67 F63 F50 F51 K a0 a1 o0 (fun k q0 q1 q2 q3 q4 q5 q6 q7 q8 q9 q10 q11 q12 q13 q14 => loopN Try.prog (tab40 F67 F63 F50 F51) 0 K Try.f40 la40 gq40.k 0 [] k (hd40_0 a0 a1 o0 q0 q1 q2 q3 q4 q5 q6 q7 q8 q9 q10 q11 q12 q13 q14)) := by kernel_rfl
  rw [h]
  simp only [lp40_0 F67 F63 F50 F51 K a0 a1 o0]
  rfl
noncomputable def F40 (K : Nat) (a0 : El T29) (a1 : El T29) (o0 : Int × (List Int × (List Int × (List Int × (List Int × (List Int × (List Int × (List Int × (List Int × (List Int × (List Int × (List Int × (List (El T29) × (List Int)))))))))))))) : Option (Unit × (Int × (List Int × (List Int × (List Int × (List Int × (List Int × (List Int × (List Int × (List Int × (List Int × (List Int × (List Int × (List (El T29) × (List Int))))))))))))))) := G40 (F67 K) (F63 K) (F50 K) (F51 K) K a0 a1 o0
theorem cok40 (K : Nat) : CallOK D Try.prog (tab40 (F67 K) (F63 K) (F50 K) (F51 K)) := (addW_ok (add_ok (add_ok (addG_ok none_ok ent67 (ok67 K)) ent63 (ok63 K)) ent50 (ok50 K)) ent51 (ok51 K))
theorem ok40 (K : Nat) : RowG D Try.prog 40 (rowG (gad ag40 ob40) gq40 fun p => F40 K p.1.1 p.1.2.1 p.2) := rowG_ok fun x r h => ghas_of (cok40 K) Try.func40 ((ev40 (F67 K) (F63 K) (F50 K) (F51 K) K x.1.1 x.1.2.1 x.2).trans h)
/-! cmp.Compare[int] -/
noncomputable def tab39 (F66 : Int → Option (Bool)) : Tab := (Tab.none.add 66 (row ad66 dq66 fun p => F66 p))
noncomputable def t39 (F66 : Int → Option (Bool)) (K : Nat) (a0 : Int) (a1 : Int) : Option (Int) := 
 (Option.bind (F66 a0) fun x0 => 
  (Option.bind (F66 a1) fun x1 => (if x0 = true then (if x1 = true then some ((0 : Int))
    else some ((-1 : Int)))
   else (if x1 = true then some ((1 : Int))
    else (if decide (a0 < a1) = true then some ((-1 : Int))
     else (if decide (a0 > a1) = true then some ((1 : Int))
      else some ((0 : Int))))))))
noncomputable def G39 (F66 : Int → Option (Bool)) (K : Nat) (a0 : Int) (a1 : Int) : Option (Int) := t39 F66 K a0 a1
theorem ev39 (F66 : Int → Option (Bool)) (K : Nat) (a0 : Int) (a1 : Int) : evFun Try.prog (tab39 F66) 0 K Try.f39 [] [I .i64 a0, I .i64 a1] [] dq39.k = G39 F66 K a0 a1 := by
  kernel_rfl
noncomputable def F39 (K : Nat) (a0 : Int) (a1 : Int) : Option (Int) := G39 (F66 K) K a0 a1
theorem cok39 (K : Nat) : CallOK D Try.prog (tab39 (F66 K)) := (add_ok none_ok ent66 (ok66 K))
theorem ok39 (K : Nat) : RowOK D Try.prog 39 (row ad39 dq39 fun p => F39 K p.1 p.2) := row_ok fun x r h => has_of (cok39 K) Try.func39 ((ev39 (F66 K) K x.1 x.2).trans h)
/-! ganger/buddy.byStart -/
noncomputable def tab44 (F39 : Int → Int → Option (Int)) : Tab := (Tab.none.add 39 (row ad39 dq39 fun p => F39 p.1 p.2))
noncomputable def t44 (F39 : Int → Int → Option (Int)) (K : Nat) (a0 : El T29) (a1 : Int) : Option (Int) := 
 (Option.bind (F39 a0.1 a1) fun x0 => some (x0))
noncomputable def G44 (F39 : Int → Int → Option (Int)) (K : Nat) (a0 : El T29) (a1 : Int) : Option (Int) := t44 F39 K a0 a1
theorem ev44 (F39 : Int → Int → Option (Int)) (K : Nat) (a0 : El T29) (a1 : Int) : evFun Try.prog (tab44 F39) 0 K Try.f44 [] [.agg (cellsOf T29 a0), I .i64 a1] [] dq44.k = G44 F39 K a0 a1 := by
  kernel_rfl
noncomputable def F44 (K : Nat) (a0 : El T29) (a1 : Int) : Option (Int) := G44 (F39 K) K a0 a1
theorem cok44 (K : Nat) : CallOK D Try.prog (tab44 (F39 K)) := (add_ok none_ok ent39 (ok39 K))
theorem ok44 (K : Nat) : RowOK D Try.prog 44 (row ad44 dq44 fun p => F44 K p.1 p.2) := row_ok fun x r h => has_of (cok44 K) Try.func44 ((ev44 (F39 K) K x.1 x.2).trans h)
/-! slices.BinarySearchFunc[[]ganger/api.Block,ganger/api.Block,int] -/
noncomputable def tab43 (F44 : (El T29) → Int → Option (Int)) : Tab := (Tab.none.add 44 (row ad44 dq44 fun p => F44 p.1 p.2))
noncomputable def la43 : List (List Tidy) := [[.only [0, 1, 2, 8, 9, 10], .ids [13, 46], .top [1000000]]]
noncomputable def hd43_0 (a0 : List (El T29)) (a1 : Int) (a2 : Unit) (ps9 : Int) (ps10 : Int) : St := { tm := slots (nat_lit 49) [(nat_lit 0, AV.row T29 a0), (nat_lit 1, AV.sc (Value.int IntKind.i64 a1)), (nat_lit 2, AV.fn (nat_lit 44) []), (nat_lit 8, AV.sc (Value.int IntKind.i64 (↑a0.length : Int))), (nat_lit 9, AV.sc (Value.int IntKind.i64 ps9)), (nat_lit 10, AV.sc (Value.int IntKind.i64 ps10))], H := [] }
noncomputable def b43_0 (F44 : (El T29) → Int → Option (Int)) (K : Nat) (a0 : List (El T29)) (a1 : Int) (a2 : Unit) (r0 : Int → Int → Option (Int × Bool)) (ps9 : Int) (ps10 : Int) : Option (Int × Bool) :=(if decide (ps9 < ps10) = true then (if decide ((0 : Int) ≤ IntKind.i64.wrap ((IntKind.u64.wrap (IntKind.i64.wrap (ps9 + ps10))).fdiv ((2 : Int) ^ min (Int.toNat (1 : Int)) IntKind.u64.bits)) ∧ IntKind.i64.wrap ((IntKind.u64.wrap (IntKind.i64.wrap (ps9 + ps10))).fdiv ((2 : Int) ^ min (Int.toNat (1 : Int)) IntKind.u64.bits)) < (↑a0.length : Int)) = true then 
    (Option.bind (F44 (a0.getD (IntKind.i64.wrap ((IntKind.u64.wrap (IntKind.i64.wrap (ps9 + ps10))).fdiv ((2 : Int) ^ min (Int.toNat (1 : Int)) IntKind.u64.bits))).toNat (zEl T29)) a1) fun x0 => (if decide (x0 < (0 : Int)) = true then r0 (IntKind.i64.wrap (IntKind.i64.wrap ((IntKind.u64.wrap (IntKind.i64.wrap (ps9 + ps10))).fdiv ((2 : Int) ^ min (Int.toNat (1 : Int)) IntKind.u64.bits)) + (1 : Int))) (ps10)
     else r0 (ps9) (IntKind.i64.wrap ((IntKind.u64.wrap (IntKind.i64.wrap (ps9 + ps10))).fdiv ((2 : Int) ^ min (Int.toNat (1 : Int)) IntKind.u64.bits)))))
   else none)
  else (if decide (ps9 < (↑a0.length : Int)) = true then (if decide ((0 : Int) ≤ ps9 ∧ ps9 < (↑a0.length : Int)) = true then 
     (Option.bind (F44 (a0.getD ps9.toNat (zEl T29)) a1) fun x1 => some ((ps9, x1 == (0 : Int))))
    else none)
   else some ((ps9, false))))
noncomputable def L43_0 (F44 : (El T29) → Int → Option (Int)) (K : Nat) (a0 : List (El T29)) (a1 : Int) (a2 : Unit) : Nat → Int → Int → Option (Int × Bool)
  | 0, _, _ => none
  | n + 1, ps9, ps10 => b43_0 F44 K a0 a1 a2 (L43_0 F44 K a0 a1 a2 n) ps9 ps10
noncomputable def t43 (F44 : (El T29) → Int → Option (Int)) (K : Nat) (a0 : List (El T29)) (a1 : Int) (a2 : Unit) (l0 : Nat → Int → Int → Option (Int × Bool)) : Option (Int × Bool) := l0 K ((0 : Int)) ((↑a0.length : Int))
noncomputable def G43 (F44 : (El T29) → Int → Option (Int)) (K : Nat) (a0 : List (El T29)) (a1 : Int) (a2 : Unit) : Option (Int × Bool) := t43 F44 K a0 a1 a2 (L43_0 F44 K a0 a1 a2)
theorem lp43_0 (F44 : (El T29) → Int → Option (Int)) (K : Nat) (a0 : List (El T29)) (a1 : Int) (a2 : Unit) : ∀ (n : Nat) (ps9 : Int) (ps10 : Int), loopN Try.prog (tab43 F44) 0 K Try.f43 la43 dq43.k 0 [] n (hd43_0 a0 a1 a2 ps9 ps10) = L43_0 F44 K a0 a1 a2 n ps9 ps10
  | 0, _, _ => by kernel_rfl
  | n + 1, ps9, ps10 => by
    have h : loopN Try.prog (tab43 F44) 0 K Try.f43 la43 dq43.k 0 [] (n + 1) (hd43_0 a0 a1 a2 ps9 ps10) = b43_0 F44 K a0 a1 a2 (fun q0 q1 => loopN Try.prog (tab43 F44) 0 K Try.f43 la43 dq43.k 0 [] n (hd43_0 a0 a1 a2 q0 q1)) ps9 ps10 := by kernel_rfl
    rw [h]
    simp only [lp43_0 F44 K a0 a1 a2 n]
    rfl
theorem ev43 (F44 : (El T29) → Int → Option (Int)) (K : Nat) (a0 : List (El T29)) (a1 : Int) (a2 : Unit) : evFun Try.prog (tab43 F44) 0 K Try.f43 la43 [.row T29 a0, I .i64 a1, .fn 44 []] [] dq43.k = G43 F44 K a0 a1 a2 := by
  have h : evFun Try.prog (tab43 F44) 0 K Try.f43 la43 [.row T29 a0, I .i64 a1, .fn 44 []] [] dq43.k = t43 F44 K a0 a1 a2 (fun k q0 q1 => loopN Try.prog (tab43 F44) 0 K Try.f43 la43 dq43.k 0 [] k (hd43_0 a0 a1 a2 q0 q1)) := by kernel_rfl
  rw [h]
  simp only [lp43_0 F44 K a0 a1 a2]
  rfl
noncomputable def F43 (K : Nat) (a0 : List (El T29)) (a1 : Int) (a2 : Unit) : Option (Int × Bool) := G43 (F44 K) K a0 a1 a2
theorem cok43 (K : Nat) : CallOK D Try.prog (tab43 (F44 K)) := (add_ok none_ok ent44 (ok44 K))
theorem ok43 (K : Nat) : RowOK D Try.prog 43 (row ad43 dq43 fun p => F43 K p.1 p.2.1 p.2.2) := row_ok fun x r h => has_of (cok43 K) Try.func43 ((ev43 (F44 K) K x.1 x.2.1 x.2.2).trans h)
end Go.Proofs.YtiicginipjbloaaE
