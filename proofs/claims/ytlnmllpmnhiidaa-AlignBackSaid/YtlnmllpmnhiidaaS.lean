/-
  Made by a program of ours (wip/tools/slim.lean): the slim code of this claim's functions, each held against the model's code by one closed fact.
-/
import Derived.Test.YtlnmllpmnhiidaaVw
import Derived.Test.YtlnmllpmnhiidaaChecked
namespace Fb.Try
open Go Go.Proofs Fb

theorem mo : Try.prog.follows .mixedOrders = true := by kernel_rfl

-- footbridge/footbridgelaw24.AlignSpans
def s3 : S := (.seq (.row [⟨(some 3), none, .box 24 (.tmp 0)⟩,
   ⟨(some 6), none, .mv (.const (.bool false))⟩])
 (.prune [3, 2, 1] (.seq (.seq (.row [⟨(some 18), none, .ldn 3 (.tmp 3)⟩,
   ⟨(some 19), none, .ldn 3 (.tmp 3)⟩,
   ⟨(some 20), none, .call 8 [(.tmp 18), (.tmp 19)]⟩])
 (.prune [20, 3, 2, 1] (.cond (.tmp 20)
  (.seq (.row [⟨(some 21), none, .call 9 []⟩,
    ⟨(some 6), none, .mv (.tmp 21)⟩])
  (.prune [6] .ret))
  .skip)))
 (.prune [1, 2, 3] (.seq (.row [⟨(some 7), none, .mv (.const (.int .i64 0))⟩])
 (.prune [7, 1, 2, 3] (.seq (.seq (.row [⟨(some 22), none, .ldn 3 (.tmp 3)⟩,
   ⟨(some 23), none, .call 10 [(.tmp 22)]⟩])
 (.prune [23, 7, 1, 2, 3] (.cond (.tmp 23)
  (.row [⟨(some 24), none, .ldn 3 (.tmp 3)⟩,
    ⟨(some 25), none, .call 11 [(.tmp 24)]⟩,
    ⟨(some 7), none, .mv (.tmp 25)⟩])
  .skip)))
 (.prune [1, 2, 3, 7] (.seq (.row [⟨(some 27), none, .ldn 3 (.tmp 3)⟩,
   ⟨(some 28), none, .mv (.tmp 1)⟩,
   ⟨(some 29), none, .call 12 [(.tmp 27), (.tmp 28)]⟩,
   ⟨(some 26), none, .mv (.tmp 29)⟩,
   ⟨(some 30), none, .ext (.tmp 26) 0⟩,
   ⟨(some 31), none, .ext (.tmp 26) 1⟩,
   ⟨(some 32), none, .ext (.tmp 26) 2⟩,
   ⟨(some 8), none, .mv (.tmp 30)⟩,
   ⟨(some 9), none, .mv (.tmp 31)⟩,
   ⟨(some 10), none, .mv (.tmp 32)⟩])
 (.prune [1, 2, 3, 7, 8, 9, 10] (.seq (.row [⟨(some 34), none, .ldn 3 (.tmp 3)⟩,
   ⟨(some 35), none, .mv (.tmp 1)⟩,
   ⟨(some 36), none, .call 13 [(.tmp 34), (.tmp 35)]⟩,
   ⟨(some 33), none, .mv (.tmp 36)⟩,
   ⟨(some 37), none, .ext (.tmp 33) 0⟩,
   ⟨(some 38), none, .ext (.tmp 33) 1⟩,
   ⟨(some 39), none, .ext (.tmp 33) 2⟩,
   ⟨(some 11), none, .mv (.tmp 37)⟩,
   ⟨(some 12), none, .mv (.tmp 38)⟩,
   ⟨(some 13), none, .mv (.tmp 39)⟩])
 (.prune [2, 3, 7, 8, 11, 9, 12, 10, 13] (.seq (.row [⟨(some 41), none, .ldn 3 (.tmp 3)⟩,
   ⟨(some 42), none, .mv (.tmp 2)⟩,
   ⟨(some 43), none, .call 14 [(.tmp 41), (.tmp 42)]⟩,
   ⟨(some 40), none, .mv (.tmp 43)⟩,
   ⟨(some 44), none, .ext (.tmp 40) 0⟩,
   ⟨(some 45), none, .ext (.tmp 40) 1⟩,
   ⟨(some 14), none, .mv (.tmp 44)⟩,
   ⟨(some 15), none, .mv (.tmp 45)⟩])
 (.prune [2, 3, 7, 8, 11, 9, 12, 10, 13, 14, 15] (.seq (.row [⟨(some 47), none, .ldn 3 (.tmp 3)⟩,
   ⟨(some 48), none, .mv (.tmp 2)⟩,
   ⟨(some 49), none, .call 15 [(.tmp 47), (.tmp 48)]⟩,
   ⟨(some 46), none, .mv (.tmp 49)⟩,
   ⟨(some 50), none, .ext (.tmp 46) 0⟩,
   ⟨(some 51), none, .ext (.tmp 46) 1⟩,
   ⟨(some 16), none, .mv (.tmp 50)⟩,
   ⟨(some 17), none, .mv (.tmp 51)⟩])
 (.prune [3, 7, 8, 11, 9, 12, 10, 13, 14, 16, 15, 17] (.seq (.draw (.step 0 true ⟨(some 52), none, .call 9 []⟩ (.take 1 ⟨(some 53), none, .mv (.tmp 52)⟩ (.take 2 ⟨(some 54), (some (53, true)), .ldn 3 (.tmp 3)⟩ (.take 4 ⟨(some 56), (some (53, true)), .ldn 3 (.tmp 3)⟩ (.step 3 true ⟨(some 55), (some (53, true)), .call 16 [(.tmp 54)]⟩ (.step 5 true ⟨(some 57), (some (53, true)), .call 10 [(.tmp 56)]⟩ (.take 6 ⟨(some 58), (some (53, true)), .bbin false (.tmp 55) (.tmp 57)⟩ (.take 7 ⟨(some 59), none, .pick (.tmp 53) (.tmp 58) (.const (.bool false))⟩ (.take 8 ⟨(some 60), none, .mv (.tmp 59)⟩ (.take 9 ⟨(some 61), (some (60, true)), .ldn 3 (.tmp 3)⟩ (.take 11 ⟨(some 63), (some (60, true)), .mv (.tmp 7)⟩ (.step 10 true ⟨(some 62), (some (60, true)), .call 17 [(.tmp 61)]⟩ (.take 12 ⟨(some 64), (some (60, true)), .ibin .eql .i64 (.tmp 62) (.tmp 63)⟩ (.take 13 ⟨(some 65), none, .pick (.tmp 60) (.tmp 64) (.const (.bool false))⟩ (.take 14 ⟨(some 66), none, .mv (.tmp 65)⟩ (.take 15 ⟨(some 67), (some (66, true)), .mv (.tmp 8)⟩ (.take 16 ⟨(some 68), (some (66, true)), .mv (.tmp 11)⟩ (.take 17 ⟨(some 69), (some (66, true)), .ibin .eql .i64 (.tmp 67) (.tmp 68)⟩ (.take 18 ⟨(some 70), none, .pick (.tmp 66) (.tmp 69) (.const (.bool false))⟩ (.take 19 ⟨(some 71), none, .mv (.tmp 70)⟩ (.take 20 ⟨(some 72), (some (71, true)), .mv (.tmp 9)⟩ (.take 21 ⟨(some 73), (some (71, true)), .mv (.tmp 12)⟩ (.take 22 ⟨(some 74), (some (71, true)), .ibin .eql .i64 (.tmp 72) (.tmp 73)⟩ (.take 23 ⟨(some 75), none, .pick (.tmp 71) (.tmp 74) (.const (.bool false))⟩ (.take 24 ⟨(some 76), none, .mv (.tmp 75)⟩ (.take 25 ⟨(some 77), (some (76, true)), .mv (.tmp 10)⟩ (.take 26 ⟨(some 78), (some (76, true)), .mv (.tmp 13)⟩ (.take 27 ⟨(some 79), (some (76, true)), .ibin .eql .i64 (.tmp 77) (.tmp 78)⟩ (.take 28 ⟨(some 80), none, .pick (.tmp 76) (.tmp 79) (.const (.bool false))⟩ (.take 29 ⟨(some 81), none, .mv (.tmp 80)⟩ (.take 30 ⟨(some 82), (some (81, true)), .mv (.tmp 14)⟩ (.take 31 ⟨(some 83), (some (81, true)), .mv (.tmp 16)⟩ (.take 32 ⟨(some 84), (some (81, true)), .ibin .eql .i64 (.tmp 82) (.tmp 83)⟩ (.take 33 ⟨(some 85), none, .pick (.tmp 81) (.tmp 84) (.const (.bool false))⟩ (.take 34 ⟨(some 86), none, .mv (.tmp 85)⟩ (.take 35 ⟨(some 87), (some (86, true)), .mv (.tmp 15)⟩ (.take 36 ⟨(some 88), (some (86, true)), .mv (.tmp 17)⟩ (.take 37 ⟨(some 89), (some (86, true)), .ibin .eql .i64 (.tmp 87) (.tmp 88)⟩ (.take 38 ⟨(some 90), none, .pick (.tmp 86) (.tmp 89) (.const (.bool false))⟩ (.take 39 ⟨(some 6), none, .mv (.tmp 90)⟩ .done)))))))))))))))))))))))))))))))))))))))))
 (.prune [6] .ret))))))))))))))))))
theorem ok3 : fits Try.prog 3 ⟨s3, 91, [.tmp 6]⟩ = some ⟨s3, 91, [.tmp 6]⟩ := by kernel_rfl
theorem go3 {args : List Value} {w : World} {R : Value → World → Prop} (hle : Nat.ble args.length 91 = true) (h : vc Try.prog 91 s3 (argEnv args 0) w (fun L w => resL L w [.tmp 6] fun vs => oneOr vs fun v => R v w) (fun _ _ _ => False) (fun L w => resL L w [.tmp 6] fun vs => oneOr vs fun v => R v w)) : Cal Try.prog 3 ⟨args⟩ w R := cal_of mo ok3 hle h

-- footbridge/footbridgelaw24.AlignMaps
def s4 : S := (.seq (.row [⟨(some 3), none, .box 24 (.tmp 0)⟩,
   ⟨(some 4), none, .box 24 (.tmp 1)⟩,
   ⟨(some 6), none, .mv (.const (.bool false))⟩])
 (.prune [2, 4, 3] (.seq (.seq (.row [⟨(some 13), none, .ldn 3 (.tmp 3)⟩,
   ⟨(some 14), none, .ldn 3 (.tmp 4)⟩,
   ⟨(some 15), none, .call 8 [(.tmp 13), (.tmp 14)]⟩])
 (.prune [15, 2, 4, 3] (.cond (.tmp 15)
  (.seq (.row [⟨(some 16), none, .call 9 []⟩,
    ⟨(some 6), none, .mv (.tmp 16)⟩])
  (.prune [6] .ret))
  .skip)))
 (.prune [3, 4, 2] (.seq (.row [⟨(some 18), none, .ldn 3 (.tmp 3)⟩,
   ⟨(some 19), none, .ldn 3 (.tmp 4)⟩,
   ⟨(some 20), none, .mv (.tmp 2)⟩,
   ⟨(some 21), none, .call 18 [(.tmp 18), (.tmp 19), (.tmp 20)]⟩,
   ⟨(some 17), none, .mv (.tmp 21)⟩,
   ⟨(some 22), none, .ext (.tmp 17) 0⟩,
   ⟨(some 23), none, .ext (.tmp 17) 1⟩,
   ⟨(some 24), none, .ext (.tmp 17) 2⟩,
   ⟨(some 7), none, .mv (.tmp 22)⟩,
   ⟨(some 8), none, .mv (.tmp 23)⟩,
   ⟨(some 9), none, .mv (.tmp 24)⟩])
 (.prune [3, 4, 2, 7, 8, 9] (.seq (.row [⟨(some 26), none, .ldn 3 (.tmp 3)⟩,
   ⟨(some 27), none, .ldn 3 (.tmp 4)⟩,
   ⟨(some 28), none, .mv (.tmp 2)⟩,
   ⟨(some 29), none, .call 19 [(.tmp 26), (.tmp 27), (.tmp 28)]⟩,
   ⟨(some 25), none, .mv (.tmp 29)⟩,
   ⟨(some 30), none, .ext (.tmp 25) 0⟩,
   ⟨(some 31), none, .ext (.tmp 25) 1⟩,
   ⟨(some 32), none, .ext (.tmp 25) 2⟩,
   ⟨(some 10), none, .mv (.tmp 30)⟩,
   ⟨(some 11), none, .mv (.tmp 31)⟩,
   ⟨(some 12), none, .mv (.tmp 32)⟩])
 (.prune [7, 10, 8, 11, 9, 12] (.seq (.row [⟨(some 33), none, .call 9 []⟩,
   ⟨(some 34), none, .mv (.tmp 33)⟩,
   ⟨(some 35), (some (34, true)), .mv (.tmp 7)⟩,
   ⟨(some 36), (some (34, true)), .mv (.tmp 10)⟩,
   ⟨(some 37), (some (34, true)), .ibin .eql .i64 (.tmp 35) (.tmp 36)⟩,
   ⟨(some 38), none, .pick (.tmp 34) (.tmp 37) (.const (.bool false))⟩,
   ⟨(some 39), none, .mv (.tmp 38)⟩,
   ⟨(some 40), (some (39, true)), .mv (.tmp 8)⟩,
   ⟨(some 41), (some (39, true)), .mv (.tmp 11)⟩,
   ⟨(some 42), (some (39, true)), .ibin .eql .i64 (.tmp 40) (.tmp 41)⟩,
   ⟨(some 43), none, .pick (.tmp 39) (.tmp 42) (.const (.bool false))⟩,
   ⟨(some 44), none, .mv (.tmp 43)⟩,
   ⟨(some 45), (some (44, true)), .mv (.tmp 9)⟩,
   ⟨(some 46), (some (44, true)), .mv (.tmp 12)⟩,
   ⟨(some 47), (some (44, true)), .ibin .eql .i64 (.tmp 45) (.tmp 46)⟩,
   ⟨(some 48), none, .pick (.tmp 44) (.tmp 47) (.const (.bool false))⟩,
   ⟨(some 6), none, .mv (.tmp 48)⟩])
 (.prune [6] .ret))))))))))
theorem ok4 : fits Try.prog 4 ⟨s4, 49, [.tmp 6]⟩ = some ⟨s4, 49, [.tmp 6]⟩ := by kernel_rfl
theorem go4 {args : List Value} {w : World} {R : Value → World → Prop} (hle : Nat.ble args.length 49 = true) (h : vc Try.prog 49 s4 (argEnv args 0) w (fun L w => resL L w [.tmp 6] fun vs => oneOr vs fun v => R v w) (fun _ _ _ => False) (fun L w => resL L w [.tmp 6] fun vs => oneOr vs fun v => R v w)) : Cal Try.prog 4 ⟨args⟩ w R := cal_of mo ok4 hle h

-- footbridge/footbridgelaw24.AlignBack
def s5 : S := (.seq (.row [⟨(some 2), none, .box 24 (.tmp 0)⟩,
   ⟨(some 3), none, .box 24 (.tmp 1)⟩,
   ⟨(some 4), none, .mv (.const (.bool false))⟩])
 (.prune [2, 3] (.seq (.seq (.draw (.take 0 ⟨(some 16), none, .fad 2 (.tmp 2)⟩ (.take 1 ⟨(some 17), none, .ld (.tmp 16)⟩ (.take 2 ⟨(some 18), none, .lenA (.tmp 17)⟩ (.take 3 ⟨(some 19), none, .ibin .gtr .i64 (.tmp 18) (.const (.int .i64 30))⟩ (.take 4 ⟨(some 20), none, .mv (.tmp 19)⟩ (.take 5 ⟨(some 21), (some (20, false)), .fad 2 (.tmp 3)⟩ (.take 6 ⟨(some 22), (some (20, false)), .ld (.tmp 21)⟩ (.take 7 ⟨(some 23), (some (20, false)), .lenA (.tmp 22)⟩ (.take 8 ⟨(some 24), (some (20, false)), .ibin .gtr .i64 (.tmp 23) (.const (.int .i64 30))⟩ (.take 9 ⟨(some 25), none, .pick (.tmp 20) (.const (.bool true)) (.tmp 24)⟩ (.take 10 ⟨(some 26), none, .mv (.tmp 25)⟩ (.take 11 ⟨(some 27), (some (26, false)), .ldn 3 (.tmp 2)⟩ (.step 12 true ⟨(some 28), (some (26, false)), .call 10 [(.tmp 27)]⟩ (.take 13 ⟨(some 29), (some (26, false)), .notB (.tmp 28)⟩ (.take 14 ⟨(some 30), none, .pick (.tmp 26) (.const (.bool true)) (.tmp 29)⟩ (.take 15 ⟨(some 31), none, .mv (.tmp 30)⟩ (.take 16 ⟨(some 32), (some (31, false)), .ldn 3 (.tmp 3)⟩ (.step 17 true ⟨(some 33), (some (31, false)), .call 10 [(.tmp 32)]⟩ (.take 18 ⟨(some 34), (some (31, false)), .notB (.tmp 33)⟩ (.take 19 ⟨(some 35), none, .pick (.tmp 31) (.const (.bool true)) (.tmp 34)⟩ (.take 20 ⟨(some 36), none, .mv (.tmp 35)⟩ (.take 21 ⟨(some 37), (some (36, false)), .ldn 3 (.tmp 2)⟩ (.take 23 ⟨(some 39), (some (36, false)), .ldn 3 (.tmp 3)⟩ (.step 22 true ⟨(some 38), (some (36, false)), .call 11 [(.tmp 37)]⟩ (.step 24 true ⟨(some 40), (some (36, false)), .call 11 [(.tmp 39)]⟩ (.take 25 ⟨(some 41), (some (36, false)), .ibin .neq .i64 (.tmp 38) (.tmp 40)⟩ (.take 26 ⟨(some 42), none, .pick (.tmp 36) (.const (.bool true)) (.tmp 41)⟩ .done))))))))))))))))))))))))))))
 (.prune [42, 2, 3] (.cond (.tmp 42)
  (.seq (.row [⟨(some 43), none, .call 9 []⟩,
    ⟨(some 4), none, .mv (.tmp 43)⟩])
  (.prune [4] .ret))
  .skip)))
 (.prune [3, 2] (.seq (.seq (.row [⟨(some 44), none, .fad 0 (.tmp 2)⟩,
   ⟨(some 45), none, .ld (.tmp 44)⟩,
   ⟨(some 5), none, .mv (.tmp 45)⟩])
 (.prune [3, 2, 5] (.block 0 (.loop [5] [4, 5, 6, 7, 8, 9, 10, 11, 12, 13, 14, 15, 46, 47, 48, 49, 50, 51, 52, 53, 54, 55, 56, 57, 58, 59, 60, 61, 62, 63, 64, 65, 66, 67, 68, 69, 70, 71, 72, 73, 74, 75, 76, 77, 78, 79, 80, 81, 82, 83, 84, 85, 86, 87, 88, 89, 90, 91, 92, 93, 94, 95, 96, 97, 98, 99, 100, 101, 102, 103, 104, 105, 106, 107, 108, 109, 110, 111, 112, 113, 114, 115, 116, 117, 118, 119, 120, 121, 122, 123, 124, 125, 126, 127] (.seq (.seq (.row [⟨(some 46), none, .mv (.tmp 5)⟩,
    ⟨(some 47), none, .fad 0 (.tmp 2)⟩,
    ⟨(some 48), none, .ld (.tmp 47)⟩,
    ⟨(some 49), none, .fad 2 (.tmp 2)⟩,
    ⟨(some 50), none, .ld (.tmp 49)⟩,
    ⟨(some 51), none, .lenA (.tmp 50)⟩,
    ⟨(some 52), none, .ibin .add .i64 (.tmp 48) (.tmp 51)⟩,
    ⟨(some 53), none, .ibin .lss .i64 (.tmp 46) (.tmp 52)⟩])
  (.prune [53, 2, 3, 5] (.cond (.tmp 53)
   .skip
   (.exit 0))))
  (.prune [2, 3, 5] (.seq (.block 1 (.seq (.row [⟨(some 57), none, .ldn 3 (.tmp 2)⟩,
    ⟨(some 58), none, .ldn 3 (.tmp 2)⟩,
    ⟨(some 59), none, .mv (.tmp 5)⟩,
    ⟨(some 60), none, .call 18 [(.tmp 57), (.tmp 58), (.tmp 59)]⟩,
    ⟨(some 56), none, .mv (.tmp 60)⟩,
    ⟨(some 61), none, .ext (.tmp 56) 0⟩,
    ⟨(some 62), none, .ext (.tmp 56) 1⟩,
    ⟨(some 63), none, .ext (.tmp 56) 2⟩,
    ⟨(some 6), none, .mv (.tmp 61)⟩,
    ⟨(some 7), none, .mv (.tmp 62)⟩,
    ⟨(some 8), none, .mv (.tmp 63)⟩])
  (.prune [8, 6, 7, 2, 3, 5] (.seq (.seq (.row [⟨(some 64), none, .mv (.tmp 8)⟩,
    ⟨(some 65), none, .ibin .neq .i64 (.tmp 64) (.const (.int .i64 0))⟩,
    ⟨(some 66), none, .mv (.tmp 65)⟩,
    ⟨(some 67), (some (66, false)), .mv (.tmp 6)⟩,
    ⟨(some 68), (some (66, false)), .mv (.tmp 5)⟩,
    ⟨(some 69), (some (66, false)), .ibin .neq .i64 (.tmp 67) (.tmp 68)⟩,
    ⟨(some 70), none, .pick (.tmp 66) (.const (.bool true)) (.tmp 69)⟩,
    ⟨(some 71), none, .mv (.tmp 70)⟩,
    ⟨(some 72), (some (71, false)), .mv (.tmp 7)⟩,
    ⟨(some 73), (some (71, false)), .mv (.tmp 5)⟩,
    ⟨(some 74), (some (71, false)), .ibin .add .i64 (.tmp 73) (.const (.int .i64 1))⟩,
    ⟨(some 75), (some (71, false)), .ibin .neq .i64 (.tmp 72) (.tmp 74)⟩,
    ⟨(some 76), none, .pick (.tmp 71) (.const (.bool true)) (.tmp 75)⟩])
  (.prune [76, 2, 3, 5] (.cond (.tmp 76)
   (.seq (.row [⟨(some 4), none, .mv (.const (.bool false))⟩])
   (.prune [4] .ret))
   .skip)))
  (.prune [5, 3, 2] (.seq (.row [⟨(some 78), none, .ldn 3 (.tmp 2)⟩,
    ⟨(some 79), none, .ldn 3 (.tmp 3)⟩,
    ⟨(some 80), none, .mv (.tmp 5)⟩,
    ⟨(some 81), none, .call 18 [(.tmp 78), (.tmp 79), (.tmp 80)]⟩,
    ⟨(some 77), none, .mv (.tmp 81)⟩,
    ⟨(some 82), none, .ext (.tmp 77) 0⟩,
    ⟨(some 83), none, .ext (.tmp 77) 1⟩,
    ⟨(some 84), none, .ext (.tmp 77) 2⟩,
    ⟨(some 9), none, .mv (.tmp 82)⟩,
    ⟨(some 10), none, .mv (.tmp 83)⟩,
    ⟨(some 11), none, .mv (.tmp 84)⟩])
  (.prune [11, 9, 10, 5, 3, 2] (.seq (.seq (.row [⟨(some 85), none, .mv (.tmp 11)⟩,
    ⟨(some 86), none, .ibin .neq .i64 (.tmp 85) (.const (.int .i64 0))⟩])
  (.prune [86, 9, 10, 5, 3, 2] (.cond (.tmp 86)
   (.exit 1)
   .skip)))
  (.prune [5, 10, 9, 2, 3] (.seq (.row [⟨(some 87), none, .fad 0 (.tmp 3)⟩,
    ⟨(some 88), none, .ld (.tmp 87)⟩,
    ⟨(some 12), none, .mv (.tmp 88)⟩])
  (.prune [12, 5, 10, 9, 2, 3] (.block 2 (.loop [12] [4, 12, 13, 14, 15, 89, 90, 91, 92, 93, 94, 95, 96, 97, 98, 99, 100, 101, 102, 103, 104, 105, 106, 107, 108, 109, 110, 111, 112, 113, 114, 115, 116, 117, 118, 119, 120, 121, 122, 123, 124, 125, 126, 127] (.seq (.seq (.row [⟨(some 89), none, .mv (.tmp 12)⟩,
     ⟨(some 90), none, .fad 0 (.tmp 3)⟩,
     ⟨(some 91), none, .ld (.tmp 90)⟩,
     ⟨(some 92), none, .fad 2 (.tmp 3)⟩,
     ⟨(some 93), none, .ld (.tmp 92)⟩,
     ⟨(some 94), none, .lenA (.tmp 93)⟩,
     ⟨(some 95), none, .ibin .add .i64 (.tmp 91) (.tmp 94)⟩,
     ⟨(some 96), none, .ibin .lss .i64 (.tmp 89) (.tmp 95)⟩])
   (.prune [96, 3, 2, 9, 10, 5, 12] (.cond (.tmp 96)
    .skip
    (.exit 2))))
   (.prune [3, 2, 9, 10, 5, 12] (.seq (.block 3 (.seq (.row [⟨(some 100), none, .ldn 3 (.tmp 3)⟩,
     ⟨(some 101), none, .ldn 3 (.tmp 2)⟩,
     ⟨(some 102), none, .mv (.tmp 12)⟩,
     ⟨(some 103), none, .call 18 [(.tmp 100), (.tmp 101), (.tmp 102)]⟩,
     ⟨(some 99), none, .mv (.tmp 103)⟩,
     ⟨(some 104), none, .ext (.tmp 99) 0⟩,
     ⟨(some 105), none, .ext (.tmp 99) 1⟩,
     ⟨(some 106), none, .ext (.tmp 99) 2⟩,
     ⟨(some 13), none, .mv (.tmp 104)⟩,
     ⟨(some 14), none, .mv (.tmp 105)⟩,
     ⟨(some 15), none, .mv (.tmp 106)⟩])
   (.prune [15, 13, 14, 3, 2, 9, 10, 5, 12] (.seq (.row [⟨(some 107), none, .mv (.tmp 15)⟩,
     ⟨(some 108), none, .ibin .eql .i64 (.tmp 107) (.const (.int .i64 0))⟩,
     ⟨(some 109), none, .mv (.tmp 108)⟩,
     ⟨(some 110), (some (109, true)), .mv (.tmp 9)⟩,
     ⟨(some 111), (some (109, true)), .mv (.tmp 12)⟩,
     ⟨(some 112), (some (109, true)), .ibin .leq .i64 (.tmp 110) (.tmp 111)⟩,
     ⟨(some 113), (some (109, true)), .mv (.tmp 112)⟩,
     ⟨(some 114), (some (113, true)), .mv (.tmp 12)⟩,
     ⟨(some 115), (some (113, true)), .mv (.tmp 10)⟩,
     ⟨(some 116), (some (113, true)), .ibin .lss .i64 (.tmp 114) (.tmp 115)⟩,
     ⟨(some 117), (some (109, true)), .pick (.tmp 113) (.tmp 116) (.const (.bool false))⟩,
     ⟨(some 118), (some (109, true)), .mv (.tmp 13)⟩,
     ⟨(some 119), (some (109, true)), .mv (.tmp 5)⟩,
     ⟨(some 120), (some (109, true)), .ibin .leq .i64 (.tmp 118) (.tmp 119)⟩,
     ⟨(some 121), (some (109, true)), .mv (.tmp 120)⟩,
     ⟨(some 122), (some (121, true)), .mv (.tmp 5)⟩,
     ⟨(some 123), (some (121, true)), .mv (.tmp 14)⟩,
     ⟨(some 124), (some (121, true)), .ibin .lss .i64 (.tmp 122) (.tmp 123)⟩,
     ⟨(some 125), (some (109, true)), .pick (.tmp 121) (.tmp 124) (.const (.bool false))⟩,
     ⟨(some 126), (some (109, true)), .bbin true (.tmp 117) (.tmp 125)⟩,
     ⟨(some 127), none, .pick (.tmp 109) (.tmp 126) (.const (.bool false))⟩])
   (.prune [127, 3, 2, 9, 10, 5, 12] (.cond (.tmp 127)
    (.seq (.row [⟨(some 4), none, .mv (.const (.bool false))⟩])
    (.prune [4] .ret))
    .skip))))))
   (.prune [12, 5, 10, 9, 2, 3] (.row [⟨(some 97), none, .mv (.tmp 12)⟩,
     ⟨(some 98), none, .ibin .add .i64 (.tmp 97) (.const (.int .i64 1))⟩,
     ⟨(some 12), none, .mv (.tmp 98)⟩]))))))))))))))))))
  (.prune [5, 3, 2] (.row [⟨(some 54), none, .mv (.tmp 5)⟩,
    ⟨(some 55), none, .ibin .add .i64 (.tmp 54) (.const (.int .i64 1))⟩,
    ⟨(some 5), none, .mv (.tmp 55)⟩])))))))))
 (.prune [] (.seq (.row [⟨(some 128), none, .call 9 []⟩,
   ⟨(some 4), none, .mv (.tmp 128)⟩])
 (.prune [4] .ret))))))))
theorem ok5 : fits Try.prog 5 ⟨s5, 129, [.tmp 4]⟩ = some ⟨s5, 129, [.tmp 4]⟩ := by kernel_rfl
theorem go5 {args : List Value} {w : World} {R : Value → World → Prop} (hle : Nat.ble args.length 129 = true) (h : vc Try.prog 129 s5 (argEnv args 0) w (fun L w => resL L w [.tmp 4] fun vs => oneOr vs fun v => R v w) (fun _ _ _ => False) (fun L w => resL L w [.tmp 4] fun vs => oneOr vs fun v => R v w)) : Cal Try.prog 5 ⟨args⟩ w R := cal_of mo ok5 hle h

-- footbridge/footbridgelaw24.AlignParts
def s6 : S := (.seq (.row [⟨(some 2), none, .box 24 (.tmp 0)⟩,
   ⟨(some 3), none, .box 24 (.tmp 1)⟩,
   ⟨(some 4), none, .mv (.const (.bool false))⟩])
 (.prune [3, 2] (.seq (.seq (.draw (.take 0 ⟨(some 19), none, .fad 2 (.tmp 2)⟩ (.take 1 ⟨(some 20), none, .ld (.tmp 19)⟩ (.take 2 ⟨(some 21), none, .lenA (.tmp 20)⟩ (.take 3 ⟨(some 22), none, .ibin .gtr .i64 (.tmp 21) (.const (.int .i64 30))⟩ (.take 4 ⟨(some 23), none, .mv (.tmp 22)⟩ (.take 5 ⟨(some 24), (some (23, false)), .fad 2 (.tmp 3)⟩ (.take 6 ⟨(some 25), (some (23, false)), .ld (.tmp 24)⟩ (.take 7 ⟨(some 26), (some (23, false)), .lenA (.tmp 25)⟩ (.take 8 ⟨(some 27), (some (23, false)), .ibin .gtr .i64 (.tmp 26) (.const (.int .i64 30))⟩ (.take 9 ⟨(some 28), none, .pick (.tmp 23) (.const (.bool true)) (.tmp 27)⟩ (.take 10 ⟨(some 29), none, .mv (.tmp 28)⟩ (.take 11 ⟨(some 30), (some (29, false)), .ldn 3 (.tmp 2)⟩ (.step 12 true ⟨(some 31), (some (29, false)), .call 10 [(.tmp 30)]⟩ (.take 13 ⟨(some 32), (some (29, false)), .notB (.tmp 31)⟩ (.take 14 ⟨(some 33), none, .pick (.tmp 29) (.const (.bool true)) (.tmp 32)⟩ (.take 15 ⟨(some 34), none, .mv (.tmp 33)⟩ (.take 16 ⟨(some 35), (some (34, false)), .ldn 3 (.tmp 3)⟩ (.step 17 true ⟨(some 36), (some (34, false)), .call 10 [(.tmp 35)]⟩ (.take 18 ⟨(some 37), (some (34, false)), .notB (.tmp 36)⟩ (.take 19 ⟨(some 38), none, .pick (.tmp 34) (.const (.bool true)) (.tmp 37)⟩ (.take 20 ⟨(some 39), none, .mv (.tmp 38)⟩ (.take 21 ⟨(some 40), (some (39, false)), .ldn 3 (.tmp 2)⟩ (.take 23 ⟨(some 42), (some (39, false)), .ldn 3 (.tmp 3)⟩ (.step 22 true ⟨(some 41), (some (39, false)), .call 11 [(.tmp 40)]⟩ (.step 24 true ⟨(some 43), (some (39, false)), .call 11 [(.tmp 42)]⟩ (.take 25 ⟨(some 44), (some (39, false)), .ibin .neq .i64 (.tmp 41) (.tmp 43)⟩ (.take 26 ⟨(some 45), none, .pick (.tmp 39) (.const (.bool true)) (.tmp 44)⟩ .done))))))))))))))))))))))))))))
 (.prune [45, 3, 2] (.cond (.tmp 45)
  (.seq (.row [⟨(some 46), none, .call 9 []⟩,
    ⟨(some 4), none, .mv (.tmp 46)⟩])
  (.prune [4] .ret))
  .skip)))
 (.prune [2, 3] (.seq (.row [⟨(some 47), none, .ldn 3 (.tmp 2)⟩,
   ⟨(some 48), none, .ldn 3 (.tmp 3)⟩,
   ⟨(some 49), none, .call 20 [(.tmp 47), (.tmp 48)]⟩,
   ⟨(some 5), none, .mv (.tmp 49)⟩])
 (.prune [5, 2, 3] (.seq (.seq (.draw (.take 0 ⟨(some 50), none, .mv (.tmp 5)⟩ (.take 1 ⟨(some 51), none, .lenA (.tmp 50)⟩ (.take 2 ⟨(some 52), none, .ibin .eql .i64 (.tmp 51) (.const (.int .i64 0))⟩ (.take 3 ⟨(some 53), none, .mv (.tmp 52)⟩ (.take 4 ⟨(some 54), (some (53, false)), .mv (.tmp 5)⟩ (.take 5 ⟨(some 55), (some (53, false)), .mv (.tmp 5)⟩ (.take 6 ⟨(some 56), (some (53, false)), .lenA (.tmp 55)⟩ (.take 7 ⟨(some 57), (some (53, false)), .ibin .sub .i64 (.tmp 56) (.const (.int .i64 1))⟩ (.take 8 ⟨(some 58), (some (53, false)), .ixA 1 (.tmp 54) (.tmp 57)⟩ (.take 9 ⟨(some 59), (some (53, false)), .ld (.tmp 58)⟩ (.take 10 ⟨(some 60), (some (53, false)), .ldn 3 (.tmp 2)⟩ (.step 11 true ⟨(some 61), (some (53, false)), .call 11 [(.tmp 60)]⟩ (.take 12 ⟨(some 62), (some (53, false)), .ibin .neq .i64 (.tmp 59) (.tmp 61)⟩ (.take 13 ⟨(some 63), none, .pick (.tmp 53) (.const (.bool true)) (.tmp 62)⟩ (.take 14 ⟨(some 64), none, .mv (.tmp 63)⟩ (.take 15 ⟨(some 65), (some (64, false)), .fad 1 (.tmp 2)⟩ (.take 16 ⟨(some 66), (some (64, false)), .ld (.tmp 65)⟩ (.take 17 ⟨(some 67), (some (64, false)), .fad 1 (.tmp 3)⟩ (.take 18 ⟨(some 68), (some (64, false)), .ld (.tmp 67)⟩ (.take 19 ⟨(some 69), (some (64, false)), .ibin .eql .i64 (.tmp 66) (.tmp 68)⟩ (.take 20 ⟨(some 70), (some (64, false)), .mv (.tmp 69)⟩ (.take 21 ⟨(some 71), (some (70, true)), .mv (.tmp 5)⟩ (.take 22 ⟨(some 72), (some (70, true)), .ixA 1 (.tmp 71) (.const (.int .i64 0))⟩ (.take 23 ⟨(some 73), (some (70, true)), .ld (.tmp 72)⟩ (.take 24 ⟨(some 74), (some (70, true)), .fad 1 (.tmp 2)⟩ (.take 25 ⟨(some 75), (some (70, true)), .ld (.tmp 74)⟩ (.take 26 ⟨(some 76), (some (70, true)), .ibin .neq .i64 (.tmp 73) (.tmp 75)⟩ (.take 27 ⟨(some 77), (some (64, false)), .pick (.tmp 70) (.tmp 76) (.const (.bool false))⟩ (.take 28 ⟨(some 78), none, .pick (.tmp 64) (.const (.bool true)) (.tmp 77)⟩ .done))))))))))))))))))))))))))))))
 (.prune [78, 5, 2, 3] (.cond (.tmp 78)
  (.seq (.row [⟨(some 4), none, .mv (.const (.bool false))⟩])
  (.prune [4] .ret))
  .skip)))
 (.prune [3, 2, 5] (.seq (.seq (.row [⟨(some 6), none, .mv (.const (.int .i64 1))⟩])
 (.prune [3, 2, 6, 5] (.block 0 (.loop [6] [4, 6, 7, 8, 9, 10, 11, 12, 13, 14, 15, 16, 17, 18, 79, 80, 81, 82, 83, 84, 85, 86, 87, 88, 89, 90, 91, 92, 93, 94, 95, 96, 97, 98, 99, 100, 101, 102, 103, 104, 105, 106, 107, 108, 109, 110, 111, 112, 113, 114, 115, 116, 117, 118, 119, 120, 121, 122, 123, 124, 125, 126, 127, 128, 129, 130, 131, 132, 133, 134, 135, 136, 137, 138, 139, 140, 141, 142, 143, 144, 145, 146, 147, 148, 149, 150, 151, 152, 153, 154, 155, 156, 157, 158, 159, 160, 161, 162, 163, 164, 165, 166, 167, 168, 169, 170, 171, 172, 173, 174, 175, 176, 177, 178, 179, 180, 181, 182, 183, 184, 185, 186, 187, 188, 189, 190, 191, 192] (.seq (.seq (.row [⟨(some 79), none, .mv (.tmp 6)⟩,
    ⟨(some 80), none, .mv (.tmp 5)⟩,
    ⟨(some 81), none, .lenA (.tmp 80)⟩,
    ⟨(some 82), none, .ibin .lss .i64 (.tmp 79) (.tmp 81)⟩])
  (.prune [82, 6, 5, 2, 3] (.cond (.tmp 82)
   .skip
   (.exit 0))))
  (.prune [6, 5, 2, 3] (.seq (.block 1 (.seq (.draw (.take 0 ⟨(some 86), none, .ldn 3 (.tmp 2)⟩ (.take 1 ⟨(some 87), none, .mv (.tmp 5)⟩ (.take 2 ⟨(some 88), none, .mv (.tmp 6)⟩ (.take 3 ⟨(some 89), none, .ibin .sub .i64 (.tmp 88) (.const (.int .i64 1))⟩ (.take 4 ⟨(some 90), none, .ixA 1 (.tmp 87) (.tmp 89)⟩ (.take 5 ⟨(some 91), none, .ld (.tmp 90)⟩ (.step 6 false ⟨(some 92), none, .call 14 [(.tmp 86), (.tmp 91)]⟩ (.take 7 ⟨(some 85), none, .mv (.tmp 92)⟩ (.take 8 ⟨(some 93), none, .ext (.tmp 85) 0⟩ (.take 9 ⟨(some 94), none, .ext (.tmp 85) 1⟩ (.take 10 ⟨(some 7), none, .mv (.tmp 93)⟩ (.take 11 ⟨(some 8), none, .mv (.tmp 94)⟩ .done)))))))))))))
  (.prune [8, 6, 5, 2, 3, 7] (.seq (.draw (.take 0 ⟨(some 96), none, .ldn 3 (.tmp 2)⟩ (.take 1 ⟨(some 97), none, .mv (.tmp 5)⟩ (.take 2 ⟨(some 98), none, .mv (.tmp 6)⟩ (.take 3 ⟨(some 99), none, .ixA 1 (.tmp 97) (.tmp 98)⟩ (.take 4 ⟨(some 100), none, .ld (.tmp 99)⟩ (.take 5 ⟨(some 101), none, .ibin .sub .i64 (.tmp 100) (.const (.int .i64 1))⟩ (.step 6 true ⟨(some 102), none, .call 14 [(.tmp 96), (.tmp 101)]⟩ (.take 7 ⟨(some 95), none, .mv (.tmp 102)⟩ (.take 8 ⟨(some 103), none, .ext (.tmp 95) 0⟩ (.take 9 ⟨(some 104), none, .ext (.tmp 95) 1⟩ (.take 10 ⟨(some 9), none, .mv (.tmp 103)⟩ (.take 11 ⟨(some 10), none, .mv (.tmp 104)⟩ .done)))))))))))))
  (.prune [8, 10, 9, 6, 5, 2, 3, 7] (.seq (.draw (.take 0 ⟨(some 106), none, .ldn 3 (.tmp 3)⟩ (.take 1 ⟨(some 107), none, .mv (.tmp 5)⟩ (.take 2 ⟨(some 108), none, .mv (.tmp 6)⟩ (.take 3 ⟨(some 109), none, .ibin .sub .i64 (.tmp 108) (.const (.int .i64 1))⟩ (.take 4 ⟨(some 110), none, .ixA 1 (.tmp 107) (.tmp 109)⟩ (.take 5 ⟨(some 111), none, .ld (.tmp 110)⟩ (.step 6 false ⟨(some 112), none, .call 14 [(.tmp 106), (.tmp 111)]⟩ (.take 7 ⟨(some 105), none, .mv (.tmp 112)⟩ (.take 8 ⟨(some 113), none, .ext (.tmp 105) 0⟩ (.take 9 ⟨(some 114), none, .ext (.tmp 105) 1⟩ (.take 10 ⟨(some 11), none, .mv (.tmp 113)⟩ (.take 11 ⟨(some 12), none, .mv (.tmp 114)⟩ .done)))))))))))))
  (.prune [8, 10, 12, 9, 6, 5, 2, 3, 11, 7] (.seq (.draw (.take 0 ⟨(some 116), none, .ldn 3 (.tmp 3)⟩ (.take 1 ⟨(some 117), none, .mv (.tmp 5)⟩ (.take 2 ⟨(some 118), none, .mv (.tmp 6)⟩ (.take 3 ⟨(some 119), none, .ixA 1 (.tmp 117) (.tmp 118)⟩ (.take 4 ⟨(some 120), none, .ld (.tmp 119)⟩ (.take 5 ⟨(some 121), none, .ibin .sub .i64 (.tmp 120) (.const (.int .i64 1))⟩ (.step 6 true ⟨(some 122), none, .call 14 [(.tmp 116), (.tmp 121)]⟩ (.take 7 ⟨(some 115), none, .mv (.tmp 122)⟩ (.take 8 ⟨(some 123), none, .ext (.tmp 115) 0⟩ (.take 9 ⟨(some 124), none, .ext (.tmp 115) 1⟩ (.take 10 ⟨(some 13), none, .mv (.tmp 123)⟩ (.take 11 ⟨(some 14), none, .mv (.tmp 124)⟩ .done)))))))))))))
  (.prune [8, 10, 12, 14, 9, 6, 5, 2, 3, 11, 13, 7] (.seq (.seq (.draw (.take 0 ⟨(some 125), none, .mv (.tmp 5)⟩ (.take 1 ⟨(some 126), none, .mv (.tmp 6)⟩ (.take 2 ⟨(some 127), none, .ibin .sub .i64 (.tmp 126) (.const (.int .i64 1))⟩ (.take 3 ⟨(some 128), none, .ixA 1 (.tmp 125) (.tmp 127)⟩ (.take 4 ⟨(some 129), none, .ld (.tmp 128)⟩ (.take 5 ⟨(some 130), none, .mv (.tmp 5)⟩ (.take 6 ⟨(some 131), none, .mv (.tmp 6)⟩ (.take 7 ⟨(some 132), none, .ixA 1 (.tmp 130) (.tmp 131)⟩ (.take 8 ⟨(some 133), none, .ld (.tmp 132)⟩ (.take 9 ⟨(some 134), none, .ibin .geq .i64 (.tmp 129) (.tmp 133)⟩ (.take 10 ⟨(some 135), none, .mv (.tmp 134)⟩ (.take 11 ⟨(some 136), (some (135, false)), .mv (.tmp 8)⟩ (.take 12 ⟨(some 137), (some (135, false)), .ibin .neq .i64 (.tmp 136) (.const (.int .i64 0))⟩ (.take 13 ⟨(some 138), none, .pick (.tmp 135) (.const (.bool true)) (.tmp 137)⟩ (.take 14 ⟨(some 139), none, .mv (.tmp 138)⟩ (.take 15 ⟨(some 140), (some (139, false)), .mv (.tmp 10)⟩ (.take 16 ⟨(some 141), (some (139, false)), .ibin .neq .i64 (.tmp 140) (.const (.int .i64 0))⟩ (.take 17 ⟨(some 142), none, .pick (.tmp 139) (.const (.bool true)) (.tmp 141)⟩ (.take 18 ⟨(some 143), none, .mv (.tmp 142)⟩ (.take 19 ⟨(some 144), (some (143, false)), .mv (.tmp 12)⟩ (.take 20 ⟨(some 145), (some (143, false)), .ibin .neq .i64 (.tmp 144) (.const (.int .i64 0))⟩ (.take 21 ⟨(some 146), none, .pick (.tmp 143) (.const (.bool true)) (.tmp 145)⟩ (.take 22 ⟨(some 147), none, .mv (.tmp 146)⟩ (.take 23 ⟨(some 148), (some (147, false)), .mv (.tmp 14)⟩ (.take 24 ⟨(some 149), (some (147, false)), .ibin .neq .i64 (.tmp 148) (.const (.int .i64 0))⟩ (.take 25 ⟨(some 150), none, .pick (.tmp 147) (.const (.bool true)) (.tmp 149)⟩ .done)))))))))))))))))))))))))))
  (.prune [150, 9, 6, 5, 2, 3, 11, 13, 7] (.cond (.tmp 150)
   (.seq (.row [⟨(some 4), none, .mv (.const (.bool false))⟩])
   (.prune [4] .ret))
   .skip)))
  (.prune [7, 13, 11, 3, 2, 5, 6, 9] (.seq (.row [⟨(some 151), none, .mv (.tmp 11)⟩,
    ⟨(some 15), none, .mv (.tmp 151)⟩])
  (.prune [7, 15, 13, 11, 3, 2, 5, 6, 9] (.seq (.block 2 (.loop [7, 15] [4, 7, 15, 16, 17, 18, 152, 153, 154, 155, 156, 157, 158, 159, 160, 161, 162, 163, 164, 165, 166, 167, 168, 169, 170, 171, 172, 173, 174, 175, 176, 177, 178, 179, 180, 181, 182, 183, 184, 185, 186, 187, 188] (.seq (.seq (.row [⟨(some 152), none, .mv (.tmp 7)⟩,
     ⟨(some 153), none, .mv (.tmp 9)⟩,
     ⟨(some 154), none, .ibin .leq .i64 (.tmp 152) (.tmp 153)⟩])
   (.prune [154, 15, 9, 6, 5, 2, 3, 11, 13, 7] (.cond (.tmp 154)
    .skip
    (.exit 2))))
   (.prune [15, 9, 6, 5, 2, 3, 11, 13, 7] (.seq (.block 3 (.seq (.row [⟨(some 158), none, .ldn 3 (.tmp 2)⟩,
     ⟨(some 159), none, .ldn 3 (.tmp 3)⟩,
     ⟨(some 160), none, .mv (.tmp 7)⟩,
     ⟨(some 161), none, .call 18 [(.tmp 158), (.tmp 159), (.tmp 160)]⟩,
     ⟨(some 157), none, .mv (.tmp 161)⟩,
     ⟨(some 162), none, .ext (.tmp 157) 0⟩,
     ⟨(some 163), none, .ext (.tmp 157) 1⟩,
     ⟨(some 164), none, .ext (.tmp 157) 2⟩,
     ⟨(some 16), none, .mv (.tmp 162)⟩,
     ⟨(some 17), none, .mv (.tmp 163)⟩,
     ⟨(some 18), none, .mv (.tmp 164)⟩])
   (.prune [18, 15, 16, 9, 6, 5, 2, 3, 11, 13, 7, 17] (.seq (.seq (.row [⟨(some 165), none, .mv (.tmp 18)⟩,
     ⟨(some 166), none, .ibin .neq .i64 (.tmp 165) (.const (.int .i64 0))⟩,
     ⟨(some 167), none, .mv (.tmp 166)⟩,
     ⟨(some 168), (some (167, false)), .mv (.tmp 16)⟩,
     ⟨(some 169), (some (167, false)), .mv (.tmp 11)⟩,
     ⟨(some 170), (some (167, false)), .ibin .lss .i64 (.tmp 168) (.tmp 169)⟩,
     ⟨(some 171), none, .pick (.tmp 167) (.const (.bool true)) (.tmp 170)⟩,
     ⟨(some 172), none, .mv (.tmp 171)⟩,
     ⟨(some 173), (some (172, false)), .mv (.tmp 17)⟩,
     ⟨(some 174), (some (172, false)), .mv (.tmp 13)⟩,
     ⟨(some 175), (some (172, false)), .ibin .add .i64 (.tmp 174) (.const (.int .i64 1))⟩,
     ⟨(some 176), (some (172, false)), .ibin .gtr .i64 (.tmp 173) (.tmp 175)⟩,
     ⟨(some 177), none, .pick (.tmp 172) (.const (.bool true)) (.tmp 176)⟩,
     ⟨(some 178), none, .mv (.tmp 177)⟩,
     ⟨(some 179), (some (178, false)), .mv (.tmp 16)⟩,
     ⟨(some 180), (some (178, false)), .mv (.tmp 15)⟩,
     ⟨(some 181), (some (178, false)), .ibin .gtr .i64 (.tmp 179) (.tmp 180)⟩,
     ⟨(some 182), none, .pick (.tmp 178) (.const (.bool true)) (.tmp 181)⟩,
     ⟨(some 183), none, .mv (.tmp 182)⟩,
     ⟨(some 184), (some (183, false)), .mv (.tmp 17)⟩,
     ⟨(some 185), (some (183, false)), .mv (.tmp 16)⟩,
     ⟨(some 186), (some (183, false)), .ibin .leq .i64 (.tmp 184) (.tmp 185)⟩,
     ⟨(some 187), none, .pick (.tmp 183) (.const (.bool true)) (.tmp 186)⟩])
   (.prune [187, 9, 6, 5, 2, 3, 11, 13, 7, 17] (.cond (.tmp 187)
    (.seq (.row [⟨(some 4), none, .mv (.const (.bool false))⟩])
    (.prune [4] .ret))
    .skip)))
   (.prune [17, 7, 13, 11, 3, 2, 5, 6, 9] (.row [⟨(some 188), none, .mv (.tmp 17)⟩,
     ⟨(some 15), none, .mv (.tmp 188)⟩]))))))
   (.prune [7, 15, 13, 11, 3, 2, 5, 6, 9] (.row [⟨(some 155), none, .mv (.tmp 7)⟩,
     ⟨(some 156), none, .ibin .add .i64 (.tmp 155) (.const (.int .i64 1))⟩,
     ⟨(some 7), none, .mv (.tmp 156)⟩])))))))
  (.prune [15, 13, 5, 2, 3, 6] (.seq (.row [⟨(some 189), none, .mv (.tmp 15)⟩,
    ⟨(some 190), none, .mv (.tmp 13)⟩,
    ⟨(some 191), none, .ibin .add .i64 (.tmp 190) (.const (.int .i64 1))⟩,
    ⟨(some 192), none, .ibin .neq .i64 (.tmp 189) (.tmp 191)⟩])
  (.prune [192, 5, 2, 3, 6] (.cond (.tmp 192)
   (.seq (.row [⟨(some 4), none, .mv (.const (.bool false))⟩])
   (.prune [4] .ret))
   .skip))))))))))))))))))
  (.prune [6, 3, 2, 5] (.row [⟨(some 83), none, .mv (.tmp 6)⟩,
    ⟨(some 84), none, .ibin .add .i64 (.tmp 83) (.const (.int .i64 1))⟩,
    ⟨(some 6), none, .mv (.tmp 84)⟩])))))))))
 (.prune [] (.seq (.row [⟨(some 193), none, .call 9 []⟩,
   ⟨(some 4), none, .mv (.tmp 193)⟩])
 (.prune [4] .ret))))))))))))
theorem ok6 : fits Try.prog 6 ⟨s6, 194, [.tmp 4]⟩ = some ⟨s6, 194, [.tmp 4]⟩ := by kernel_rfl
theorem go6 {args : List Value} {w : World} {R : Value → World → Prop} (hle : Nat.ble args.length 194 = true) (h : vc Try.prog 194 s6 (argEnv args 0) w (fun L w => resL L w [.tmp 4] fun vs => oneOr vs fun v => R v w) (fun _ _ _ => False) (fun L w => resL L w [.tmp 4] fun vs => oneOr vs fun v => R v w)) : Cal Try.prog 6 ⟨args⟩ w R := cal_of mo ok6 hle h

-- footbridge/footbridgelaw24.AlignCommon
def s7 : S := (.seq (.row [⟨(some 3), none, .box 24 (.tmp 0)⟩,
   ⟨(some 4), none, .box 24 (.tmp 1)⟩,
   ⟨(some 6), none, .mv (.const (.bool false))⟩])
 (.prune [4, 3, 2] (.seq (.seq (.row [⟨(some 11), none, .ldn 3 (.tmp 3)⟩,
   ⟨(some 12), none, .ldn 3 (.tmp 4)⟩,
   ⟨(some 13), none, .call 8 [(.tmp 11), (.tmp 12)]⟩])
 (.prune [13, 4, 3, 2] (.cond (.tmp 13)
  (.seq (.row [⟨(some 14), none, .call 9 []⟩,
    ⟨(some 6), none, .mv (.tmp 14)⟩])
  (.prune [6] .ret))
  .skip)))
 (.prune [2, 3, 4] (.seq (.row [⟨(some 16), none, .ldn 3 (.tmp 3)⟩,
   ⟨(some 17), none, .ldn 3 (.tmp 4)⟩,
   ⟨(some 18), none, .mv (.tmp 2)⟩,
   ⟨(some 19), none, .call 21 [(.tmp 16), (.tmp 17), (.tmp 18)]⟩,
   ⟨(some 15), none, .mv (.tmp 19)⟩,
   ⟨(some 20), none, .ext (.tmp 15) 0⟩,
   ⟨(some 21), none, .ext (.tmp 15) 1⟩,
   ⟨(some 7), none, .mv (.tmp 20)⟩,
   ⟨(some 8), none, .mv (.tmp 21)⟩])
 (.prune [2, 3, 4, 7, 8] (.seq (.row [⟨(some 23), none, .ldn 3 (.tmp 3)⟩,
   ⟨(some 24), none, .ldn 3 (.tmp 4)⟩,
   ⟨(some 25), none, .mv (.tmp 2)⟩,
   ⟨(some 26), none, .call 22 [(.tmp 23), (.tmp 24), (.tmp 25)]⟩,
   ⟨(some 22), none, .mv (.tmp 26)⟩,
   ⟨(some 27), none, .ext (.tmp 22) 0⟩,
   ⟨(some 28), none, .ext (.tmp 22) 1⟩,
   ⟨(some 9), none, .mv (.tmp 27)⟩,
   ⟨(some 10), none, .mv (.tmp 28)⟩])
 (.prune [3, 4, 7, 9, 8, 10] (.seq (.draw (.step 0 true ⟨(some 29), none, .call 9 []⟩ (.take 1 ⟨(some 30), none, .mv (.tmp 29)⟩ (.take 2 ⟨(some 31), (some (30, true)), .ldn 3 (.tmp 3)⟩ (.take 3 ⟨(some 32), (some (30, true)), .ldn 3 (.tmp 4)⟩ (.take 5 ⟨(some 34), (some (30, true)), .ldn 3 (.tmp 3)⟩ (.take 6 ⟨(some 35), (some (30, true)), .ldn 3 (.tmp 4)⟩ (.step 4 true ⟨(some 33), (some (30, true)), .call 20 [(.tmp 31), (.tmp 32)]⟩ (.step 7 true ⟨(some 36), (some (30, true)), .call 24 [(.tmp 34), (.tmp 35)]⟩ (.step 8 true ⟨(some 37), (some (30, true)), .call 23 [(.tmp 33), (.tmp 36)]⟩ (.take 9 ⟨(some 38), none, .pick (.tmp 30) (.tmp 37) (.const (.bool false))⟩ (.take 10 ⟨(some 39), none, .mv (.tmp 38)⟩ (.take 11 ⟨(some 40), (some (39, true)), .mv (.tmp 7)⟩ (.take 12 ⟨(some 41), (some (39, true)), .mv (.tmp 9)⟩ (.take 13 ⟨(some 42), (some (39, true)), .ibin .eql .i64 (.tmp 40) (.tmp 41)⟩ (.take 14 ⟨(some 43), none, .pick (.tmp 39) (.tmp 42) (.const (.bool false))⟩ (.take 15 ⟨(some 44), none, .mv (.tmp 43)⟩ (.take 16 ⟨(some 45), (some (44, true)), .mv (.tmp 8)⟩ (.take 17 ⟨(some 46), (some (44, true)), .mv (.tmp 10)⟩ (.take 18 ⟨(some 47), (some (44, true)), .ibin .eql .i64 (.tmp 45) (.tmp 46)⟩ (.take 19 ⟨(some 48), none, .pick (.tmp 44) (.tmp 47) (.const (.bool false))⟩ (.take 20 ⟨(some 6), none, .mv (.tmp 48)⟩ .done))))))))))))))))))))))
 (.prune [6] .ret))))))))))
theorem ok7 : fits Try.prog 7 ⟨s7, 49, [.tmp 6]⟩ = some ⟨s7, 49, [.tmp 6]⟩ := by kernel_rfl
theorem go7 {args : List Value} {w : World} {R : Value → World → Prop} (hle : Nat.ble args.length 49 = true) (h : vc Try.prog 49 s7 (argEnv args 0) w (fun L w => resL L w [.tmp 6] fun vs => oneOr vs fun v => R v w) (fun _ _ _ => False) (fun L w => resL L w [.tmp 6] fun vs => oneOr vs fun v => R v w)) : Cal Try.prog 7 ⟨args⟩ w R := cal_of mo ok7 hle h

-- footbridge/footbridgelaw24.great
def s8 : S := (.seq (.row [⟨(some 2), none, .box 24 (.tmp 0)⟩,
   ⟨(some 3), none, .box 24 (.tmp 1)⟩,
   ⟨(some 4), none, .mv (.const (.bool false))⟩])
 (.prune [2, 3] (.seq (.row [⟨(some 5), none, .fad 2 (.tmp 2)⟩,
   ⟨(some 6), none, .ld (.tmp 5)⟩,
   ⟨(some 7), none, .lenA (.tmp 6)⟩,
   ⟨(some 8), none, .ibin .gtr .i64 (.tmp 7) (.const (.int .i64 60))⟩,
   ⟨(some 9), none, .mv (.tmp 8)⟩,
   ⟨(some 10), (some (9, false)), .fad 2 (.tmp 3)⟩,
   ⟨(some 11), (some (9, false)), .ld (.tmp 10)⟩,
   ⟨(some 12), (some (9, false)), .lenA (.tmp 11)⟩,
   ⟨(some 13), (some (9, false)), .ibin .gtr .i64 (.tmp 12) (.const (.int .i64 60))⟩,
   ⟨(some 14), none, .pick (.tmp 9) (.const (.bool true)) (.tmp 13)⟩,
   ⟨(some 4), none, .mv (.tmp 14)⟩])
 (.prune [4] .ret))))
theorem ok8 : fits Try.prog 8 ⟨s8, 15, [.tmp 4]⟩ = some ⟨s8, 15, [.tmp 4]⟩ := by kernel_rfl
theorem go8 {args : List Value} {w : World} {R : Value → World → Prop} (hle : Nat.ble args.length 15 = true) (h : vc Try.prog 15 s8 (argEnv args 0) w (fun L w => resL L w [.tmp 4] fun vs => oneOr vs fun v => R v w) (fun _ _ _ => False) (fun L w => resL L w [.tmp 4] fun vs => oneOr vs fun v => R v w)) : Cal Try.prog 8 ⟨args⟩ w R := cal_of mo ok8 hle h

-- footbridge/footbridgelaw24.fixed
def s9 : S := (.seq (.row [⟨(some 0), none, .mv (.const (.bool false))⟩])
 (.prune [] (.seq (.row [⟨(some 9), none, .bsl 3 2 [(.int .i64 0), (.int .i64 0)] [(0, 1), (1, 1)] [(.const (.int .i64 2)), (.const (.int .i64 3))]⟩,
   ⟨(some 10), none, .bld [(.int .i64 0), (.int .i64 0), (.slice none 0 0)] [(2, 1)] [(.tmp 9)]⟩,
   ⟨(some 11), none, .bsl 3 3 [(.int .i64 0), (.int .i64 0), (.int .i64 0)] [(0, 1), (1, 1), (2, 1)] [(.const (.int .i64 3)), (.const (.int .i64 1)), (.const (.int .i64 1))]⟩,
   ⟨(some 12), none, .bld [(.int .i64 0), (.int .i64 0), (.slice none 0 0)] [(2, 1)] [(.tmp 11)]⟩,
   ⟨(some 1), none, .new [(.int .i64 0), (.int .i64 0), (.slice none 0 0)] 24⟩,
   ⟨(some 2), none, .new [(.int .i64 0), (.int .i64 0), (.slice none 0 0)] 24⟩,
   ⟨none, none, .stn 3 (.tmp 1) (.tmp 10)⟩,
   ⟨none, none, .stn 3 (.tmp 2) (.tmp 12)⟩])
 (.prune [1, 2] (.seq (.row [⟨(some 14), none, .ldn 3 (.tmp 1)⟩,
   ⟨(some 15), none, .ldn 3 (.tmp 2)⟩,
   ⟨(some 16), none, .call 18 [(.tmp 14), (.tmp 15), (.const (.int .i64 0))]⟩,
   ⟨(some 13), none, .mv (.tmp 16)⟩,
   ⟨(some 17), none, .ext (.tmp 13) 0⟩,
   ⟨(some 18), none, .ext (.tmp 13) 1⟩,
   ⟨(some 19), none, .ext (.tmp 13) 2⟩,
   ⟨(some 3), none, .mv (.tmp 17)⟩,
   ⟨(some 4), none, .mv (.tmp 18)⟩,
   ⟨(some 5), none, .mv (.tmp 19)⟩])
 (.prune [5, 3, 4, 1, 2] (.seq (.row [⟨(some 21), none, .ldn 3 (.tmp 1)⟩,
   ⟨(some 22), none, .ldn 3 (.tmp 2)⟩,
   ⟨(some 23), none, .call 18 [(.tmp 21), (.tmp 22), (.const (.int .i64 1))]⟩,
   ⟨(some 20), none, .mv (.tmp 23)⟩,
   ⟨(some 24), none, .ext (.tmp 20) 0⟩,
   ⟨(some 25), none, .ext (.tmp 20) 1⟩,
   ⟨(some 26), none, .ext (.tmp 20) 2⟩,
   ⟨(some 6), none, .mv (.tmp 24)⟩,
   ⟨(some 7), none, .mv (.tmp 25)⟩,
   ⟨(some 8), none, .mv (.tmp 26)⟩])
 (.prune [5, 8, 3, 4, 6, 7, 1, 2] (.seq (.row [⟨(some 27), none, .mv (.tmp 5)⟩,
   ⟨(some 28), none, .ibin .eql .i64 (.tmp 27) (.const (.int .i64 0))⟩,
   ⟨(some 29), none, .mv (.tmp 28)⟩,
   ⟨(some 30), (some (29, true)), .mv (.tmp 8)⟩,
   ⟨(some 31), (some (29, true)), .ibin .eql .i64 (.tmp 30) (.const (.int .i64 0))⟩,
   ⟨(some 32), none, .pick (.tmp 29) (.tmp 31) (.const (.bool false))⟩,
   ⟨(some 33), none, .mv (.tmp 32)⟩,
   ⟨(some 34), (some (33, true)), .mv (.tmp 3)⟩,
   ⟨(some 35), (some (33, true)), .ibin .eql .i64 (.tmp 34) (.const (.int .i64 0))⟩,
   ⟨(some 36), none, .pick (.tmp 33) (.tmp 35) (.const (.bool false))⟩,
   ⟨(some 37), none, .mv (.tmp 36)⟩,
   ⟨(some 38), (some (37, true)), .mv (.tmp 4)⟩,
   ⟨(some 39), (some (37, true)), .ibin .eql .i64 (.tmp 38) (.const (.int .i64 1))⟩,
   ⟨(some 40), none, .pick (.tmp 37) (.tmp 39) (.const (.bool false))⟩,
   ⟨(some 41), none, .mv (.tmp 40)⟩,
   ⟨(some 42), (some (41, true)), .mv (.tmp 6)⟩,
   ⟨(some 43), (some (41, true)), .ibin .eql .i64 (.tmp 42) (.const (.int .i64 0))⟩,
   ⟨(some 44), none, .pick (.tmp 41) (.tmp 43) (.const (.bool false))⟩,
   ⟨(some 45), none, .mv (.tmp 44)⟩,
   ⟨(some 46), (some (45, true)), .mv (.tmp 7)⟩,
   ⟨(some 47), (some (45, true)), .ibin .eql .i64 (.tmp 46) (.const (.int .i64 3))⟩,
   ⟨(some 48), none, .pick (.tmp 45) (.tmp 47) (.const (.bool false))⟩,
   ⟨(some 49), none, .mv (.tmp 48)⟩,
   ⟨(some 50), (some (49, true)), .ldn 3 (.tmp 1)⟩,
   ⟨(some 51), (some (49, true)), .ldn 3 (.tmp 2)⟩,
   ⟨(some 52), (some (49, true)), .call 20 [(.tmp 50), (.tmp 51)]⟩,
   ⟨(some 53), (some (49, true)), .bsl 3 2 [(.int .i64 0), (.int .i64 0)] [(0, 1), (1, 1)] [(.const (.int .i64 0)), (.const (.int .i64 5))]⟩,
   ⟨(some 54), (some (49, true)), .call 23 [(.tmp 52), (.tmp 53)]⟩,
   ⟨(some 55), none, .pick (.tmp 49) (.tmp 54) (.const (.bool false))⟩,
   ⟨(some 0), none, .mv (.tmp 55)⟩])
 (.prune [0] .ret))))))))))
theorem ok9 : fits Try.prog 9 ⟨s9, 56, [.tmp 0]⟩ = some ⟨s9, 56, [.tmp 0]⟩ := by kernel_rfl
theorem go9 {args : List Value} {w : World} {R : Value → World → Prop} (hle : Nat.ble args.length 56 = true) (h : vc Try.prog 56 s9 (argEnv args 0) w (fun L w => resL L w [.tmp 0] fun vs => oneOr vs fun v => R v w) (fun _ _ _ => False) (fun L w => resL L w [.tmp 0] fun vs => oneOr vs fun v => R v w)) : Cal Try.prog 9 ⟨args⟩ w R := cal_of mo ok9 hle h

-- footbridge/footbridgeref24.May
def s10 : S := (.seq (.row [⟨(some 1), none, .box 24 (.tmp 0)⟩,
   ⟨(some 2), none, .mv (.const (.bool false))⟩])
 (.prune [1] (.seq (.seq (.row [⟨(some 4), none, .fad 0 (.tmp 1)⟩,
   ⟨(some 5), none, .ld (.tmp 4)⟩,
   ⟨(some 6), none, .ibin .lss .i64 (.tmp 5) (.const (.int .i64 0))⟩,
   ⟨(some 7), none, .mv (.tmp 6)⟩,
   ⟨(some 8), (some (7, false)), .fad 0 (.tmp 1)⟩,
   ⟨(some 9), (some (7, false)), .ld (.tmp 8)⟩,
   ⟨(some 10), (some (7, false)), .ibin .gtr .i64 (.tmp 9) (.const (.int .i64 1048576))⟩,
   ⟨(some 11), none, .pick (.tmp 7) (.const (.bool true)) (.tmp 10)⟩,
   ⟨(some 12), none, .mv (.tmp 11)⟩,
   ⟨(some 13), (some (12, false)), .fad 1 (.tmp 1)⟩,
   ⟨(some 14), (some (12, false)), .ld (.tmp 13)⟩,
   ⟨(some 15), (some (12, false)), .fad 0 (.tmp 1)⟩,
   ⟨(some 16), (some (12, false)), .ld (.tmp 15)⟩,
   ⟨(some 17), (some (12, false)), .ibin .lss .i64 (.tmp 14) (.tmp 16)⟩,
   ⟨(some 18), none, .pick (.tmp 12) (.const (.bool true)) (.tmp 17)⟩,
   ⟨(some 19), none, .mv (.tmp 18)⟩,
   ⟨(some 20), (some (19, false)), .fad 1 (.tmp 1)⟩,
   ⟨(some 21), (some (19, false)), .ld (.tmp 20)⟩,
   ⟨(some 22), (some (19, false)), .fad 0 (.tmp 1)⟩,
   ⟨(some 23), (some (19, false)), .ld (.tmp 22)⟩,
   ⟨(some 24), (some (19, false)), .ibin .mul .i64 (.const (.int .i64 64)) (.tmp 23)⟩,
   ⟨(some 25), (some (19, false)), .ibin .gtr .i64 (.tmp 21) (.tmp 24)⟩,
   ⟨(some 26), none, .pick (.tmp 19) (.const (.bool true)) (.tmp 25)⟩,
   ⟨(some 27), none, .mv (.tmp 26)⟩,
   ⟨(some 28), (some (27, false)), .fad 2 (.tmp 1)⟩,
   ⟨(some 29), (some (27, false)), .ld (.tmp 28)⟩,
   ⟨(some 30), (some (27, false)), .lenA (.tmp 29)⟩,
   ⟨(some 31), (some (27, false)), .ibin .gtr .i64 (.tmp 30) (.const (.int .i64 1048576))⟩,
   ⟨(some 32), none, .pick (.tmp 27) (.const (.bool true)) (.tmp 31)⟩])
 (.prune [32, 1] (.cond (.tmp 32)
  (.seq (.row [⟨(some 2), none, .mv (.const (.bool false))⟩])
  (.prune [2] .ret))
  .skip)))
 (.prune [1] (.seq (.seq (.row [⟨(some 33), none, .fad 2 (.tmp 1)⟩,
   ⟨(some 34), none, .ld (.tmp 33)⟩,
   ⟨(some 35), none, .lenA (.tmp 34)⟩,
   ⟨(some 36), none, .mv (.const (.int .i64 0))⟩])
 (.prune [36, 1, 35] (.block 0 (.loop [36] [2, 3, 36, 37, 38, 39, 40, 41, 42, 43, 44, 45, 46, 47, 48, 49, 50, 51, 52, 53] (.seq (.row [⟨(some 37), none, .ibin .lss .i64 (.tmp 36) (.tmp 35)⟩])
  (.prune [37, 35, 1, 36] (.seq (.cond (.tmp 37)
   .skip
   (.exit 0))
  (.prune [35, 1, 36] (.seq (.block 1 (.seq (.row [⟨(some 38), none, .mv (.tmp 36)⟩,
    ⟨(some 3), none, .mv (.tmp 38)⟩])
  (.prune [3, 35, 1, 36] (.seq (.row [⟨(some 39), none, .fad 2 (.tmp 1)⟩,
    ⟨(some 40), none, .ld (.tmp 39)⟩,
    ⟨(some 41), none, .mv (.tmp 3)⟩,
    ⟨(some 42), none, .ixA 1 (.tmp 40) (.tmp 41)⟩,
    ⟨(some 43), none, .ld (.tmp 42)⟩,
    ⟨(some 44), none, .ibin .lss .i64 (.tmp 43) (.const (.int .i64 1))⟩,
    ⟨(some 45), none, .mv (.tmp 44)⟩,
    ⟨(some 46), (some (45, false)), .fad 2 (.tmp 1)⟩,
    ⟨(some 47), (some (45, false)), .ld (.tmp 46)⟩,
    ⟨(some 48), (some (45, false)), .mv (.tmp 3)⟩,
    ⟨(some 49), (some (45, false)), .ixA 1 (.tmp 47) (.tmp 48)⟩,
    ⟨(some 50), (some (45, false)), .ld (.tmp 49)⟩,
    ⟨(some 51), (some (45, false)), .ibin .gtr .i64 (.tmp 50) (.const (.int .i64 64))⟩,
    ⟨(some 52), none, .pick (.tmp 45) (.const (.bool true)) (.tmp 51)⟩])
  (.prune [52, 35, 1, 36] (.cond (.tmp 52)
   (.seq (.row [⟨(some 2), none, .mv (.const (.bool false))⟩])
   (.prune [2] .ret))
   .skip))))))
  (.prune [36, 1, 35] (.row [⟨(some 53), none, .ibin .add .i64 (.tmp 36) (.const (.int .i64 1))⟩,
    ⟨(some 36), none, .mv (.tmp 53)⟩])))))))))))
 (.prune [] (.seq (.row [⟨(some 2), none, .mv (.const (.bool true))⟩])
 (.prune [2] .ret))))))))
theorem ok10 : fits Try.prog 10 ⟨s10, 54, [.tmp 2]⟩ = some ⟨s10, 54, [.tmp 2]⟩ := by kernel_rfl
theorem go10 {args : List Value} {w : World} {R : Value → World → Prop} (hle : Nat.ble args.length 54 = true) (h : vc Try.prog 54 s10 (argEnv args 0) w (fun L w => resL L w [.tmp 2] fun vs => oneOr vs fun v => R v w) (fun _ _ _ => False) (fun L w => resL L w [.tmp 2] fun vs => oneOr vs fun v => R v w)) : Cal Try.prog 10 ⟨args⟩ w R := cal_of mo ok10 hle h

-- footbridge/footbridgeref24.Total
def s11 : S := (.seq (.row [⟨(some 1), none, .box 24 (.tmp 0)⟩,
   ⟨(some 2), none, .mv (.const (.int .i64 0))⟩])
 (.prune [1] (.seq (.row [⟨(some 5), none, .fad 1 (.tmp 1)⟩,
   ⟨(some 6), none, .ld (.tmp 5)⟩,
   ⟨(some 3), none, .mv (.tmp 6)⟩])
 (.prune [1, 3] (.seq (.seq (.row [⟨(some 7), none, .fad 2 (.tmp 1)⟩,
   ⟨(some 8), none, .ld (.tmp 7)⟩,
   ⟨(some 9), none, .lenA (.tmp 8)⟩,
   ⟨(some 10), none, .mv (.const (.int .i64 0))⟩])
 (.prune [10, 1, 3, 9] (.block 0 (.loop [3, 10] [3, 4, 10, 11, 12, 13, 14, 15, 16, 17, 18, 19, 20] (.seq (.row [⟨(some 11), none, .ibin .lss .i64 (.tmp 10) (.tmp 9)⟩])
  (.prune [11, 3, 10, 1, 9] (.seq (.cond (.tmp 11)
   .skip
   (.exit 0))
  (.prune [3, 10, 1, 9] (.seq (.block 1 (.seq (.row [⟨(some 12), none, .mv (.tmp 10)⟩,
    ⟨(some 4), none, .mv (.tmp 12)⟩])
  (.prune [3, 4, 10, 1, 9] (.row [⟨(some 13), none, .mv (.tmp 3)⟩,
    ⟨(some 14), none, .fad 2 (.tmp 1)⟩,
    ⟨(some 15), none, .ld (.tmp 14)⟩,
    ⟨(some 16), none, .mv (.tmp 4)⟩,
    ⟨(some 17), none, .ixA 1 (.tmp 15) (.tmp 16)⟩,
    ⟨(some 18), none, .ld (.tmp 17)⟩,
    ⟨(some 19), none, .ibin .add .i64 (.tmp 13) (.tmp 18)⟩,
    ⟨(some 3), none, .mv (.tmp 19)⟩]))))
  (.prune [10, 1, 3, 9] (.row [⟨(some 20), none, .ibin .add .i64 (.tmp 10) (.const (.int .i64 1))⟩,
    ⟨(some 10), none, .mv (.tmp 20)⟩])))))))))))
 (.prune [3] (.seq (.row [⟨(some 21), none, .mv (.tmp 3)⟩,
   ⟨(some 2), none, .mv (.tmp 21)⟩])
 (.prune [2] .ret))))))))
theorem ok11 : fits Try.prog 11 ⟨s11, 22, [.tmp 2]⟩ = some ⟨s11, 22, [.tmp 2]⟩ := by kernel_rfl
theorem go11 {args : List Value} {w : World} {R : Value → World → Prop} (hle : Nat.ble args.length 22 = true) (h : vc Try.prog 22 s11 (argEnv args 0) w (fun L w => resL L w [.tmp 2] fun vs => oneOr vs fun v => R v w) (fun _ _ _ => False) (fun L w => resL L w [.tmp 2] fun vs => oneOr vs fun v => R v w)) : Cal Try.prog 11 ⟨args⟩ w R := cal_of mo ok11 hle h

-- footbridge/align.Span
def s12 : S := (.seq (.row [⟨(some 2), none, .box 24 (.tmp 0)⟩,
   ⟨(some 4), none, .mv (.const (.int .i64 0))⟩,
   ⟨(some 5), none, .mv (.const (.int .i64 0))⟩,
   ⟨(some 6), none, .mv (.const (.int .i64 0))⟩])
 (.prune [2, 1] (.seq (.block 0 (.seq (.row [⟨(some 9), none, .ldn 3 (.tmp 2)⟩,
   ⟨(some 10), none, .call 16 [(.tmp 9)]⟩,
   ⟨(some 11), none, .notB (.tmp 10)⟩,
   ⟨(some 8), none, .mv (.tmp 11)⟩])
 (.prune [8, 2, 1] (.cond (.tmp 8)
  (.seq (.row [⟨(some 4), none, .mv (.const (.int .i64 0))⟩,
    ⟨(some 5), none, .mv (.const (.int .i64 0))⟩,
    ⟨(some 6), none, .mv (.const (.int .i64 1))⟩])
  (.prune [4, 5, 6] .ret))
  (.seq (.row [⟨(some 13), none, .mv (.tmp 1)⟩,
    ⟨(some 14), none, .ibin .lss .i64 (.tmp 13) (.const (.int .i64 0))⟩,
    ⟨(some 15), none, .mv (.tmp 14)⟩,
    ⟨(some 16), (some (15, false)), .mv (.tmp 1)⟩,
    ⟨(some 17), (some (15, false)), .fad 0 (.tmp 2)⟩,
    ⟨(some 18), (some (15, false)), .ld (.tmp 17)⟩,
    ⟨(some 19), (some (15, false)), .fad 2 (.tmp 2)⟩,
    ⟨(some 20), (some (15, false)), .ld (.tmp 19)⟩,
    ⟨(some 21), (some (15, false)), .lenA (.tmp 20)⟩,
    ⟨(some 22), (some (15, false)), .ibin .add .i64 (.tmp 18) (.tmp 21)⟩,
    ⟨(some 23), (some (15, false)), .ibin .geq .i64 (.tmp 16) (.tmp 22)⟩,
    ⟨(some 24), none, .pick (.tmp 15) (.const (.bool true)) (.tmp 23)⟩,
    ⟨(some 12), none, .mv (.tmp 24)⟩])
  (.prune [12, 1, 2] (.cond (.tmp 12)
   (.seq (.row [⟨(some 4), none, .mv (.const (.int .i64 0))⟩,
     ⟨(some 5), none, .mv (.const (.int .i64 0))⟩,
     ⟨(some 6), none, .mv (.const (.int .i64 13))⟩])
   (.prune [4, 5, 6] .ret))
   (.seq (.row [⟨(some 26), none, .mv (.tmp 1)⟩,
     ⟨(some 27), none, .fad 0 (.tmp 2)⟩,
     ⟨(some 28), none, .ld (.tmp 27)⟩,
     ⟨(some 29), none, .ibin .lss .i64 (.tmp 26) (.tmp 28)⟩,
     ⟨(some 25), none, .mv (.tmp 29)⟩])
   (.prune [25, 2, 1] (.cond (.tmp 25)
    (.seq (.row [⟨(some 4), none, .mv (.const (.int .i64 0))⟩,
      ⟨(some 5), none, .mv (.const (.int .i64 0))⟩,
      ⟨(some 6), none, .mv (.const (.int .i64 12))⟩])
    (.prune [4, 5, 6] .ret))
    .skip))))))))))
 (.prune [1, 2] (.seq (.row [⟨(some 30), none, .ldn 3 (.tmp 2)⟩,
   ⟨(some 31), none, .call 25 [(.tmp 30)]⟩,
   ⟨(some 7), none, .mv (.tmp 31)⟩])
 (.prune [7, 1, 2] (.seq (.draw (.take 0 ⟨(some 32), none, .mv (.tmp 7)⟩ (.take 1 ⟨(some 33), none, .mv (.tmp 1)⟩ (.take 2 ⟨(some 34), none, .fad 0 (.tmp 2)⟩ (.take 3 ⟨(some 35), none, .ld (.tmp 34)⟩ (.take 4 ⟨(some 36), none, .ibin .sub .i64 (.tmp 33) (.tmp 35)⟩ (.take 5 ⟨(some 37), none, .ixA 1 (.tmp 32) (.tmp 36)⟩ (.take 6 ⟨(some 38), none, .ld (.tmp 37)⟩ (.take 7 ⟨(some 39), none, .mv (.tmp 7)⟩ (.take 8 ⟨(some 40), none, .mv (.tmp 1)⟩ (.take 9 ⟨(some 41), none, .fad 0 (.tmp 2)⟩ (.take 10 ⟨(some 42), none, .ld (.tmp 41)⟩ (.take 11 ⟨(some 43), none, .ibin .sub .i64 (.tmp 40) (.tmp 42)⟩ (.take 12 ⟨(some 44), none, .ibin .add .i64 (.tmp 43) (.const (.int .i64 1))⟩ (.take 13 ⟨(some 45), none, .ixA 1 (.tmp 39) (.tmp 44)⟩ (.take 14 ⟨(some 46), none, .ld (.tmp 45)⟩ (.take 15 ⟨(some 4), none, .mv (.tmp 38)⟩ (.take 16 ⟨(some 5), none, .mv (.tmp 46)⟩ (.take 17 ⟨(some 6), none, .mv (.const (.int .i64 0))⟩ .done)))))))))))))))))))
 (.prune [4, 5, 6] .ret))))))))
theorem ok12 : fits Try.prog 12 ⟨s12, 47, [.tmp 4, .tmp 5, .tmp 6]⟩ = some ⟨s12, 47, [.tmp 4, .tmp 5, .tmp 6]⟩ := by kernel_rfl
theorem go12 {args : List Value} {w : World} {R : Value → World → Prop} (hle : Nat.ble args.length 47 = true) (h : vc Try.prog 47 s12 (argEnv args 0) w (fun L w => resL L w [.tmp 4, .tmp 5, .tmp 6] fun vs => oneOr vs fun v => R v w) (fun _ _ _ => False) (fun L w => resL L w [.tmp 4, .tmp 5, .tmp 6] fun vs => oneOr vs fun v => R v w)) : Cal Try.prog 12 ⟨args⟩ w R := cal_of mo ok12 hle h

-- footbridge/footbridgeref24.Span
def s13 : S := (.seq (.row [⟨(some 2), none, .box 24 (.tmp 0)⟩,
   ⟨(some 4), none, .mv (.const (.int .i64 0))⟩,
   ⟨(some 5), none, .mv (.const (.int .i64 0))⟩,
   ⟨(some 6), none, .mv (.const (.int .i64 0))⟩])
 (.prune [1, 2] (.seq (.seq (.row [⟨(some 9), none, .ldn 3 (.tmp 2)⟩,
   ⟨(some 10), none, .call 10 [(.tmp 9)]⟩,
   ⟨(some 11), none, .notB (.tmp 10)⟩])
 (.prune [11, 1, 2] (.cond (.tmp 11)
  (.seq (.row [⟨(some 4), none, .mv (.const (.int .i64 0))⟩,
    ⟨(some 5), none, .mv (.const (.int .i64 0))⟩,
    ⟨(some 6), none, .mv (.const (.int .i64 1))⟩])
  (.prune [4, 5, 6] .ret))
  .skip)))
 (.prune [2, 1] (.seq (.seq (.row [⟨(some 12), none, .mv (.tmp 1)⟩,
   ⟨(some 13), none, .ibin .lss .i64 (.tmp 12) (.const (.int .i64 0))⟩,
   ⟨(some 14), none, .mv (.tmp 13)⟩,
   ⟨(some 15), (some (14, false)), .mv (.tmp 1)⟩,
   ⟨(some 16), (some (14, false)), .fad 0 (.tmp 2)⟩,
   ⟨(some 17), (some (14, false)), .ld (.tmp 16)⟩,
   ⟨(some 18), (some (14, false)), .fad 2 (.tmp 2)⟩,
   ⟨(some 19), (some (14, false)), .ld (.tmp 18)⟩,
   ⟨(some 20), (some (14, false)), .lenA (.tmp 19)⟩,
   ⟨(some 21), (some (14, false)), .ibin .add .i64 (.tmp 17) (.tmp 20)⟩,
   ⟨(some 22), (some (14, false)), .ibin .geq .i64 (.tmp 15) (.tmp 21)⟩,
   ⟨(some 23), none, .pick (.tmp 14) (.const (.bool true)) (.tmp 22)⟩])
 (.prune [23, 2, 1] (.cond (.tmp 23)
  (.seq (.row [⟨(some 4), none, .mv (.const (.int .i64 0))⟩,
    ⟨(some 5), none, .mv (.const (.int .i64 0))⟩,
    ⟨(some 6), none, .mv (.const (.int .i64 13))⟩])
  (.prune [4, 5, 6] .ret))
  .skip)))
 (.prune [1, 2] (.seq (.seq (.row [⟨(some 24), none, .mv (.tmp 1)⟩,
   ⟨(some 25), none, .fad 0 (.tmp 2)⟩,
   ⟨(some 26), none, .ld (.tmp 25)⟩,
   ⟨(some 27), none, .ibin .lss .i64 (.tmp 24) (.tmp 26)⟩])
 (.prune [27, 1, 2] (.cond (.tmp 27)
  (.seq (.row [⟨(some 4), none, .mv (.const (.int .i64 0))⟩,
    ⟨(some 5), none, .mv (.const (.int .i64 0))⟩,
    ⟨(some 6), none, .mv (.const (.int .i64 12))⟩])
  (.prune [4, 5, 6] .ret))
  .skip)))
 (.prune [2, 1] (.seq (.row [⟨(some 28), none, .fad 1 (.tmp 2)⟩,
   ⟨(some 29), none, .ld (.tmp 28)⟩,
   ⟨(some 7), none, .mv (.tmp 29)⟩])
 (.prune [2, 7, 1] (.seq (.seq (.row [⟨(some 8), none, .mv (.const (.int .i64 0))⟩])
 (.prune [8, 2, 7, 1] (.block 0 (.loop [7, 8] [7, 8, 30, 31, 32, 33, 34, 35, 36, 37, 38, 39, 40, 41, 42, 43, 44] (.seq (.seq (.row [⟨(some 30), none, .mv (.tmp 8)⟩,
    ⟨(some 31), none, .mv (.tmp 1)⟩,
    ⟨(some 32), none, .fad 0 (.tmp 2)⟩,
    ⟨(some 33), none, .ld (.tmp 32)⟩,
    ⟨(some 34), none, .ibin .sub .i64 (.tmp 31) (.tmp 33)⟩,
    ⟨(some 35), none, .ibin .lss .i64 (.tmp 30) (.tmp 34)⟩])
  (.prune [35, 7, 8, 2, 1] (.cond (.tmp 35)
   .skip
   (.exit 0))))
  (.prune [7, 8, 2, 1] (.seq (.block 1 (.row [⟨(some 38), none, .mv (.tmp 7)⟩,
    ⟨(some 39), none, .fad 2 (.tmp 2)⟩,
    ⟨(some 40), none, .ld (.tmp 39)⟩,
    ⟨(some 41), none, .mv (.tmp 8)⟩,
    ⟨(some 42), none, .ixA 1 (.tmp 40) (.tmp 41)⟩,
    ⟨(some 43), none, .ld (.tmp 42)⟩,
    ⟨(some 44), none, .ibin .add .i64 (.tmp 38) (.tmp 43)⟩,
    ⟨(some 7), none, .mv (.tmp 44)⟩]))
  (.prune [8, 2, 7, 1] (.row [⟨(some 36), none, .mv (.tmp 8)⟩,
    ⟨(some 37), none, .ibin .add .i64 (.tmp 36) (.const (.int .i64 1))⟩,
    ⟨(some 8), none, .mv (.tmp 37)⟩])))))))))
 (.prune [7, 1, 2] (.seq (.draw (.take 0 ⟨(some 45), none, .mv (.tmp 7)⟩ (.take 1 ⟨(some 46), none, .mv (.tmp 7)⟩ (.take 2 ⟨(some 47), none, .fad 2 (.tmp 2)⟩ (.take 3 ⟨(some 48), none, .ld (.tmp 47)⟩ (.take 4 ⟨(some 49), none, .mv (.tmp 1)⟩ (.take 5 ⟨(some 50), none, .fad 0 (.tmp 2)⟩ (.take 6 ⟨(some 51), none, .ld (.tmp 50)⟩ (.take 7 ⟨(some 52), none, .ibin .sub .i64 (.tmp 49) (.tmp 51)⟩ (.take 8 ⟨(some 53), none, .ixA 1 (.tmp 48) (.tmp 52)⟩ (.take 9 ⟨(some 54), none, .ld (.tmp 53)⟩ (.take 10 ⟨(some 55), none, .ibin .add .i64 (.tmp 46) (.tmp 54)⟩ (.take 11 ⟨(some 4), none, .mv (.tmp 45)⟩ (.take 12 ⟨(some 5), none, .mv (.tmp 55)⟩ (.take 13 ⟨(some 6), none, .mv (.const (.int .i64 0))⟩ .done)))))))))))))))
 (.prune [4, 5, 6] .ret))))))))))))))
theorem ok13 : fits Try.prog 13 ⟨s13, 56, [.tmp 4, .tmp 5, .tmp 6]⟩ = some ⟨s13, 56, [.tmp 4, .tmp 5, .tmp 6]⟩ := by kernel_rfl
theorem go13 {args : List Value} {w : World} {R : Value → World → Prop} (hle : Nat.ble args.length 56 = true) (h : vc Try.prog 56 s13 (argEnv args 0) w (fun L w => resL L w [.tmp 4, .tmp 5, .tmp 6] fun vs => oneOr vs fun v => R v w) (fun _ _ _ => False) (fun L w => resL L w [.tmp 4, .tmp 5, .tmp 6] fun vs => oneOr vs fun v => R v w)) : Cal Try.prog 13 ⟨args⟩ w R := cal_of mo ok13 hle h

-- footbridge/align.Find
def s14 : S := (.seq (.row [⟨(some 2), none, .box 24 (.tmp 0)⟩,
   ⟨(some 4), none, .mv (.const (.int .i64 0))⟩,
   ⟨(some 5), none, .mv (.const (.int .i64 0))⟩])
 (.prune [1, 2] (.seq (.block 0 (.seq (.row [⟨(some 8), none, .ldn 3 (.tmp 2)⟩,
   ⟨(some 9), none, .call 16 [(.tmp 8)]⟩,
   ⟨(some 10), none, .notB (.tmp 9)⟩,
   ⟨(some 7), none, .mv (.tmp 10)⟩])
 (.prune [7, 1, 2] (.cond (.tmp 7)
  (.seq (.row [⟨(some 4), none, .mv (.const (.int .i64 0))⟩,
    ⟨(some 5), none, .mv (.const (.int .i64 1))⟩])
  (.prune [4, 5] .ret))
  (.seq (.row [⟨(some 12), none, .mv (.tmp 1)⟩,
    ⟨(some 13), none, .ibin .lss .i64 (.tmp 12) (.const (.int .i64 0))⟩,
    ⟨(some 14), none, .mv (.tmp 13)⟩,
    ⟨(some 15), (some (14, false)), .mv (.tmp 1)⟩,
    ⟨(some 16), (some (14, false)), .ldn 3 (.tmp 2)⟩,
    ⟨(some 17), (some (14, false)), .call 17 [(.tmp 16)]⟩,
    ⟨(some 18), (some (14, false)), .ibin .geq .i64 (.tmp 15) (.tmp 17)⟩,
    ⟨(some 19), none, .pick (.tmp 14) (.const (.bool true)) (.tmp 18)⟩,
    ⟨(some 11), none, .mv (.tmp 19)⟩])
  (.prune [11, 2, 1] (.cond (.tmp 11)
   (.seq (.row [⟨(some 4), none, .mv (.const (.int .i64 0))⟩,
     ⟨(some 5), none, .mv (.const (.int .i64 13))⟩])
   (.prune [4, 5] .ret))
   (.seq (.row [⟨(some 21), none, .mv (.tmp 1)⟩,
     ⟨(some 22), none, .fad 1 (.tmp 2)⟩,
     ⟨(some 23), none, .ld (.tmp 22)⟩,
     ⟨(some 24), none, .ibin .lss .i64 (.tmp 21) (.tmp 23)⟩,
     ⟨(some 20), none, .mv (.tmp 24)⟩])
   (.prune [20, 1, 2] (.cond (.tmp 20)
    (.seq (.row [⟨(some 4), none, .mv (.const (.int .i64 0))⟩,
      ⟨(some 5), none, .mv (.const (.int .i64 12))⟩])
    (.prune [4, 5] .ret))
    .skip))))))))))
 (.prune [2, 1] (.seq (.row [⟨(some 25), none, .ldn 3 (.tmp 2)⟩,
   ⟨(some 26), none, .call 25 [(.tmp 25)]⟩,
   ⟨(some 6), none, .mv (.tmp 26)⟩])
 (.prune [2, 6, 1] (.seq (.draw (.take 0 ⟨(some 27), none, .fad 0 (.tmp 2)⟩ (.take 1 ⟨(some 28), none, .ld (.tmp 27)⟩ (.take 2 ⟨(some 29), none, .mv (.tmp 6)⟩ (.take 3 ⟨(some 30), none, .mv (.tmp 1)⟩ (.take 4 ⟨(some 31), none, .ibin .add .i64 (.tmp 30) (.const (.int .i64 1))⟩ (.step 5 true ⟨(some 32), none, .call 26 [(.tmp 29), (.tmp 31)]⟩ (.take 6 ⟨(some 33), none, .ibin .add .i64 (.tmp 28) (.tmp 32)⟩ (.take 7 ⟨(some 34), none, .ibin .sub .i64 (.tmp 33) (.const (.int .i64 1))⟩ (.take 8 ⟨(some 4), none, .mv (.tmp 34)⟩ (.take 9 ⟨(some 5), none, .mv (.const (.int .i64 0))⟩ .done)))))))))))
 (.prune [4, 5] .ret))))))))
theorem ok14 : fits Try.prog 14 ⟨s14, 35, [.tmp 4, .tmp 5]⟩ = some ⟨s14, 35, [.tmp 4, .tmp 5]⟩ := by kernel_rfl
theorem go14 {args : List Value} {w : World} {R : Value → World → Prop} (hle : Nat.ble args.length 35 = true) (h : vc Try.prog 35 s14 (argEnv args 0) w (fun L w => resL L w [.tmp 4, .tmp 5] fun vs => oneOr vs fun v => R v w) (fun _ _ _ => False) (fun L w => resL L w [.tmp 4, .tmp 5] fun vs => oneOr vs fun v => R v w)) : Cal Try.prog 14 ⟨args⟩ w R := cal_of mo ok14 hle h

-- footbridge/footbridgeref24.Find
def s15 : S := (.seq (.row [⟨(some 2), none, .box 24 (.tmp 0)⟩,
   ⟨(some 4), none, .mv (.const (.int .i64 0))⟩,
   ⟨(some 5), none, .mv (.const (.int .i64 0))⟩])
 (.prune [1, 2] (.seq (.seq (.row [⟨(some 8), none, .ldn 3 (.tmp 2)⟩,
   ⟨(some 9), none, .call 10 [(.tmp 8)]⟩,
   ⟨(some 10), none, .notB (.tmp 9)⟩])
 (.prune [10, 1, 2] (.cond (.tmp 10)
  (.seq (.row [⟨(some 4), none, .mv (.const (.int .i64 0))⟩,
    ⟨(some 5), none, .mv (.const (.int .i64 1))⟩])
  (.prune [4, 5] .ret))
  .skip)))
 (.prune [2, 1] (.seq (.seq (.row [⟨(some 11), none, .mv (.tmp 1)⟩,
   ⟨(some 12), none, .ibin .lss .i64 (.tmp 11) (.const (.int .i64 0))⟩,
   ⟨(some 13), none, .mv (.tmp 12)⟩,
   ⟨(some 14), (some (13, false)), .mv (.tmp 1)⟩,
   ⟨(some 15), (some (13, false)), .ldn 3 (.tmp 2)⟩,
   ⟨(some 16), (some (13, false)), .call 11 [(.tmp 15)]⟩,
   ⟨(some 17), (some (13, false)), .ibin .geq .i64 (.tmp 14) (.tmp 16)⟩,
   ⟨(some 18), none, .pick (.tmp 13) (.const (.bool true)) (.tmp 17)⟩])
 (.prune [18, 2, 1] (.cond (.tmp 18)
  (.seq (.row [⟨(some 4), none, .mv (.const (.int .i64 0))⟩,
    ⟨(some 5), none, .mv (.const (.int .i64 13))⟩])
  (.prune [4, 5] .ret))
  .skip)))
 (.prune [1, 2] (.seq (.seq (.row [⟨(some 19), none, .mv (.tmp 1)⟩,
   ⟨(some 20), none, .fad 1 (.tmp 2)⟩,
   ⟨(some 21), none, .ld (.tmp 20)⟩,
   ⟨(some 22), none, .ibin .lss .i64 (.tmp 19) (.tmp 21)⟩])
 (.prune [22, 1, 2] (.cond (.tmp 22)
  (.seq (.row [⟨(some 4), none, .mv (.const (.int .i64 0))⟩,
    ⟨(some 5), none, .mv (.const (.int .i64 12))⟩])
  (.prune [4, 5] .ret))
  .skip)))
 (.prune [2, 1] (.seq (.row [⟨(some 23), none, .fad 1 (.tmp 2)⟩,
   ⟨(some 24), none, .ld (.tmp 23)⟩,
   ⟨(some 6), none, .mv (.tmp 24)⟩])
 (.prune [2, 6, 1] (.seq (.row [⟨(some 7), none, .mv (.const (.int .i64 0))⟩])
 (.prune [7, 2, 6, 1] (.seq (.block 0 (.loop [6, 7] [6, 7, 25, 26, 27, 28, 29, 30, 31, 32, 33, 34, 35, 36, 37, 38, 39, 40, 41, 42] (.seq (.seq (.row [⟨(some 25), none, .mv (.tmp 6)⟩,
    ⟨(some 26), none, .fad 2 (.tmp 2)⟩,
    ⟨(some 27), none, .ld (.tmp 26)⟩,
    ⟨(some 28), none, .mv (.tmp 7)⟩,
    ⟨(some 29), none, .ixA 1 (.tmp 27) (.tmp 28)⟩,
    ⟨(some 30), none, .ld (.tmp 29)⟩,
    ⟨(some 31), none, .ibin .add .i64 (.tmp 25) (.tmp 30)⟩,
    ⟨(some 32), none, .mv (.tmp 1)⟩,
    ⟨(some 33), none, .ibin .leq .i64 (.tmp 31) (.tmp 32)⟩])
  (.prune [33, 6, 7, 2, 1] (.cond (.tmp 33)
   .skip
   (.exit 0))))
  (.prune [6, 7, 2, 1] (.block 1 (.seq (.row [⟨(some 34), none, .mv (.tmp 6)⟩,
    ⟨(some 35), none, .fad 2 (.tmp 2)⟩,
    ⟨(some 36), none, .ld (.tmp 35)⟩,
    ⟨(some 37), none, .mv (.tmp 7)⟩,
    ⟨(some 38), none, .ixA 1 (.tmp 36) (.tmp 37)⟩,
    ⟨(some 39), none, .ld (.tmp 38)⟩,
    ⟨(some 40), none, .ibin .add .i64 (.tmp 34) (.tmp 39)⟩,
    ⟨(some 6), none, .mv (.tmp 40)⟩])
  (.prune [7, 2, 6, 1] (.row [⟨(some 41), none, .mv (.tmp 7)⟩,
    ⟨(some 42), none, .ibin .add .i64 (.tmp 41) (.const (.int .i64 1))⟩,
    ⟨(some 7), none, .mv (.tmp 42)⟩]))))))))
 (.prune [2, 7] (.seq (.row [⟨(some 43), none, .fad 0 (.tmp 2)⟩,
   ⟨(some 44), none, .ld (.tmp 43)⟩,
   ⟨(some 45), none, .mv (.tmp 7)⟩,
   ⟨(some 46), none, .ibin .add .i64 (.tmp 44) (.tmp 45)⟩,
   ⟨(some 4), none, .mv (.tmp 46)⟩,
   ⟨(some 5), none, .mv (.const (.int .i64 0))⟩])
 (.prune [4, 5] .ret))))))))))))))))
theorem ok15 : fits Try.prog 15 ⟨s15, 47, [.tmp 4, .tmp 5]⟩ = some ⟨s15, 47, [.tmp 4, .tmp 5]⟩ := by kernel_rfl
theorem go15 {args : List Value} {w : World} {R : Value → World → Prop} (hle : Nat.ble args.length 47 = true) (h : vc Try.prog 47 s15 (argEnv args 0) w (fun L w => resL L w [.tmp 4, .tmp 5] fun vs => oneOr vs fun v => R v w) (fun _ _ _ => False) (fun L w => resL L w [.tmp 4, .tmp 5] fun vs => oneOr vs fun v => R v w)) : Cal Try.prog 15 ⟨args⟩ w R := cal_of mo ok15 hle h

-- footbridge/align.May
def s16 : S := (.seq (.row [⟨(some 1), none, .box 24 (.tmp 0)⟩,
   ⟨(some 2), none, .mv (.const (.bool false))⟩])
 (.prune [1] (.seq (.row [⟨(some 3), none, .mv (.func 27)⟩])
 (.prune [1, 3] (.seq (.row [⟨(some 4), none, .fad 0 (.tmp 1)⟩,
   ⟨(some 5), none, .ld (.tmp 4)⟩,
   ⟨(some 6), none, .ibin .geq .i64 (.tmp 5) (.const (.int .i64 0))⟩,
   ⟨(some 7), none, .mv (.tmp 6)⟩,
   ⟨(some 8), (some (7, true)), .fad 0 (.tmp 1)⟩,
   ⟨(some 9), (some (7, true)), .ld (.tmp 8)⟩,
   ⟨(some 10), (some (7, true)), .ibin .leq .i64 (.tmp 9) (.const (.int .i64 1048576))⟩,
   ⟨(some 11), none, .pick (.tmp 7) (.tmp 10) (.const (.bool false))⟩,
   ⟨(some 12), none, .mv (.tmp 11)⟩,
   ⟨(some 13), (some (12, true)), .fad 1 (.tmp 1)⟩,
   ⟨(some 14), (some (12, true)), .ld (.tmp 13)⟩,
   ⟨(some 15), (some (12, true)), .fad 0 (.tmp 1)⟩,
   ⟨(some 16), (some (12, true)), .ld (.tmp 15)⟩,
   ⟨(some 17), (some (12, true)), .ibin .geq .i64 (.tmp 14) (.tmp 16)⟩,
   ⟨(some 18), none, .pick (.tmp 12) (.tmp 17) (.const (.bool false))⟩,
   ⟨(some 19), none, .mv (.tmp 18)⟩,
   ⟨(some 20), (some (19, true)), .fad 1 (.tmp 1)⟩,
   ⟨(some 21), (some (19, true)), .ld (.tmp 20)⟩,
   ⟨(some 22), (some (19, true)), .fad 0 (.tmp 1)⟩,
   ⟨(some 23), (some (19, true)), .ld (.tmp 22)⟩,
   ⟨(some 24), (some (19, true)), .ibin .mul .i64 (.const (.int .i64 64)) (.tmp 23)⟩,
   ⟨(some 25), (some (19, true)), .ibin .leq .i64 (.tmp 21) (.tmp 24)⟩,
   ⟨(some 26), none, .pick (.tmp 19) (.tmp 25) (.const (.bool false))⟩,
   ⟨(some 27), none, .mv (.tmp 26)⟩,
   ⟨(some 28), (some (27, true)), .fad 2 (.tmp 1)⟩,
   ⟨(some 29), (some (27, true)), .ld (.tmp 28)⟩,
   ⟨(some 30), (some (27, true)), .lenA (.tmp 29)⟩,
   ⟨(some 31), (some (27, true)), .ibin .leq .i64 (.tmp 30) (.const (.int .i64 1048576))⟩,
   ⟨(some 32), none, .pick (.tmp 27) (.tmp 31) (.const (.bool false))⟩,
   ⟨(some 33), none, .mv (.tmp 32)⟩,
   ⟨(some 34), (some (33, true)), .fad 2 (.tmp 1)⟩,
   ⟨(some 35), (some (33, true)), .ld (.tmp 34)⟩,
   ⟨(some 36), (some (33, true)), .mv (.tmp 3)⟩,
   ⟨(some 37), (some (33, true)), .call 28 [(.tmp 35), (.tmp 36)]⟩,
   ⟨(some 38), (some (33, true)), .notB (.tmp 37)⟩,
   ⟨(some 39), none, .pick (.tmp 33) (.tmp 38) (.const (.bool false))⟩,
   ⟨(some 2), none, .mv (.tmp 39)⟩])
 (.prune [2] .ret))))))
theorem ok16 : fits Try.prog 16 ⟨s16, 40, [.tmp 2]⟩ = some ⟨s16, 40, [.tmp 2]⟩ := by kernel_rfl
theorem go16 {args : List Value} {w : World} {R : Value → World → Prop} (hle : Nat.ble args.length 40 = true) (h : vc Try.prog 40 s16 (argEnv args 0) w (fun L w => resL L w [.tmp 2] fun vs => oneOr vs fun v => R v w) (fun _ _ _ => False) (fun L w => resL L w [.tmp 2] fun vs => oneOr vs fun v => R v w)) : Cal Try.prog 16 ⟨args⟩ w R := cal_of mo ok16 hle h

-- footbridge/align.Total
def s17 : S := (.seq (.row [⟨(some 1), none, .box 24 (.tmp 0)⟩,
   ⟨(some 2), none, .mv (.const (.int .i64 0))⟩])
 (.prune [1] (.seq (.seq (.row [⟨(some 4), none, .ldn 3 (.tmp 1)⟩,
   ⟨(some 5), none, .call 16 [(.tmp 4)]⟩,
   ⟨(some 6), none, .notB (.tmp 5)⟩])
 (.prune [6, 1] (.cond (.tmp 6)
  (.seq (.row [⟨(some 2), none, .mv (.const (.int .i64 0))⟩])
  (.prune [2] .ret))
  .skip)))
 (.prune [1] (.seq (.row [⟨(some 7), none, .ldn 3 (.tmp 1)⟩,
   ⟨(some 8), none, .call 25 [(.tmp 7)]⟩,
   ⟨(some 3), none, .mv (.tmp 8)⟩])
 (.prune [3] (.seq (.row [⟨(some 9), none, .mv (.tmp 3)⟩,
   ⟨(some 10), none, .mv (.tmp 3)⟩,
   ⟨(some 11), none, .lenA (.tmp 10)⟩,
   ⟨(some 12), none, .ibin .sub .i64 (.tmp 11) (.const (.int .i64 1))⟩,
   ⟨(some 13), none, .ixA 1 (.tmp 9) (.tmp 12)⟩,
   ⟨(some 14), none, .ld (.tmp 13)⟩,
   ⟨(some 2), none, .mv (.tmp 14)⟩])
 (.prune [2] .ret))))))))
theorem ok17 : fits Try.prog 17 ⟨s17, 15, [.tmp 2]⟩ = some ⟨s17, 15, [.tmp 2]⟩ := by kernel_rfl
theorem go17 {args : List Value} {w : World} {R : Value → World → Prop} (hle : Nat.ble args.length 15 = true) (h : vc Try.prog 15 s17 (argEnv args 0) w (fun L w => resL L w [.tmp 2] fun vs => oneOr vs fun v => R v w) (fun _ _ _ => False) (fun L w => resL L w [.tmp 2] fun vs => oneOr vs fun v => R v w)) : Cal Try.prog 17 ⟨args⟩ w R := cal_of mo ok17 hle h

-- footbridge/align.Map
def s18 : S := (.seq (.row [⟨(some 3), none, .box 24 (.tmp 0)⟩,
   ⟨(some 4), none, .box 24 (.tmp 1)⟩,
   ⟨(some 6), none, .mv (.const (.int .i64 0))⟩,
   ⟨(some 7), none, .mv (.const (.int .i64 0))⟩,
   ⟨(some 8), none, .mv (.const (.int .i64 0))⟩])
 (.prune [4, 2, 3] (.seq (.seq (.row [⟨(some 14), none, .ldn 3 (.tmp 3)⟩,
   ⟨(some 15), none, .ldn 3 (.tmp 4)⟩,
   ⟨(some 16), none, .call 29 [(.tmp 14), (.tmp 15)]⟩,
   ⟨(some 17), none, .notB (.tmp 16)⟩])
 (.prune [17, 4, 2, 3] (.cond (.tmp 17)
  (.seq (.row [⟨(some 6), none, .mv (.const (.int .i64 0))⟩,
    ⟨(some 7), none, .mv (.const (.int .i64 0))⟩,
    ⟨(some 8), none, .mv (.const (.int .i64 1))⟩])
  (.prune [6, 7, 8] .ret))
  .skip)))
 (.prune [3, 2, 4] (.seq (.row [⟨(some 19), none, .ldn 3 (.tmp 3)⟩,
   ⟨(some 20), none, .mv (.tmp 2)⟩,
   ⟨(some 21), none, .call 12 [(.tmp 19), (.tmp 20)]⟩,
   ⟨(some 18), none, .mv (.tmp 21)⟩,
   ⟨(some 22), none, .ext (.tmp 18) 0⟩,
   ⟨(some 23), none, .ext (.tmp 18) 1⟩,
   ⟨(some 24), none, .ext (.tmp 18) 2⟩,
   ⟨(some 9), none, .mv (.tmp 22)⟩,
   ⟨(some 10), none, .mv (.tmp 23)⟩,
   ⟨(some 11), none, .mv (.tmp 24)⟩])
 (.prune [4, 10, 9, 11] (.seq (.seq (.row [⟨(some 25), none, .mv (.tmp 11)⟩,
   ⟨(some 26), none, .ibin .neq .i64 (.tmp 25) (.const (.int .i64 0))⟩])
 (.prune [26, 4, 10, 9, 11] (.cond (.tmp 26)
  (.seq (.row [⟨(some 27), none, .mv (.tmp 11)⟩,
    ⟨(some 6), none, .mv (.const (.int .i64 0))⟩,
    ⟨(some 7), none, .mv (.const (.int .i64 0))⟩,
    ⟨(some 8), none, .mv (.tmp 27)⟩])
  (.prune [6, 7, 8] .ret))
  .skip)))
 (.prune [9, 10, 4] (.seq (.row [⟨(some 29), none, .ldn 3 (.tmp 4)⟩,
   ⟨(some 30), none, .mv (.tmp 9)⟩,
   ⟨(some 31), none, .call 14 [(.tmp 29), (.tmp 30)]⟩,
   ⟨(some 28), none, .mv (.tmp 31)⟩,
   ⟨(some 32), none, .ext (.tmp 28) 0⟩,
   ⟨(some 33), none, .ext (.tmp 28) 1⟩,
   ⟨(some 12), none, .mv (.tmp 32)⟩,
   ⟨(some 11), none, .mv (.tmp 33)⟩])
 (.prune [12, 10, 4, 11] (.seq (.seq (.row [⟨(some 34), none, .mv (.tmp 11)⟩,
   ⟨(some 35), none, .ibin .neq .i64 (.tmp 34) (.const (.int .i64 0))⟩])
 (.prune [35, 12, 10, 4, 11] (.cond (.tmp 35)
  (.seq (.row [⟨(some 36), none, .mv (.tmp 11)⟩,
    ⟨(some 6), none, .mv (.const (.int .i64 0))⟩,
    ⟨(some 7), none, .mv (.const (.int .i64 0))⟩,
    ⟨(some 8), none, .mv (.tmp 36)⟩])
  (.prune [6, 7, 8] .ret))
  .skip)))
 (.prune [4, 10, 12] (.seq (.row [⟨(some 38), none, .ldn 3 (.tmp 4)⟩,
   ⟨(some 39), none, .mv (.tmp 10)⟩,
   ⟨(some 40), none, .ibin .sub .i64 (.tmp 39) (.const (.int .i64 1))⟩,
   ⟨(some 41), none, .call 14 [(.tmp 38), (.tmp 40)]⟩,
   ⟨(some 37), none, .mv (.tmp 41)⟩,
   ⟨(some 42), none, .ext (.tmp 37) 0⟩,
   ⟨(some 43), none, .ext (.tmp 37) 1⟩,
   ⟨(some 13), none, .mv (.tmp 42)⟩,
   ⟨(some 11), none, .mv (.tmp 43)⟩])
 (.prune [13, 12, 11] (.seq (.seq (.row [⟨(some 44), none, .mv (.tmp 11)⟩,
   ⟨(some 45), none, .ibin .neq .i64 (.tmp 44) (.const (.int .i64 0))⟩])
 (.prune [45, 13, 12, 11] (.cond (.tmp 45)
  (.seq (.row [⟨(some 46), none, .mv (.tmp 11)⟩,
    ⟨(some 6), none, .mv (.const (.int .i64 0))⟩,
    ⟨(some 7), none, .mv (.const (.int .i64 0))⟩,
    ⟨(some 8), none, .mv (.tmp 46)⟩])
  (.prune [6, 7, 8] .ret))
  .skip)))
 (.prune [12, 13] (.seq (.row [⟨(some 47), none, .mv (.tmp 12)⟩,
   ⟨(some 48), none, .mv (.tmp 13)⟩,
   ⟨(some 49), none, .ibin .add .i64 (.tmp 48) (.const (.int .i64 1))⟩,
   ⟨(some 6), none, .mv (.tmp 47)⟩,
   ⟨(some 7), none, .mv (.tmp 49)⟩,
   ⟨(some 8), none, .mv (.const (.int .i64 0))⟩])
 (.prune [6, 7, 8] .ret))))))))))))))))))
theorem ok18 : fits Try.prog 18 ⟨s18, 50, [.tmp 6, .tmp 7, .tmp 8]⟩ = some ⟨s18, 50, [.tmp 6, .tmp 7, .tmp 8]⟩ := by kernel_rfl
theorem go18 {args : List Value} {w : World} {R : Value → World → Prop} (hle : Nat.ble args.length 50 = true) (h : vc Try.prog 50 s18 (argEnv args 0) w (fun L w => resL L w [.tmp 6, .tmp 7, .tmp 8] fun vs => oneOr vs fun v => R v w) (fun _ _ _ => False) (fun L w => resL L w [.tmp 6, .tmp 7, .tmp 8] fun vs => oneOr vs fun v => R v w)) : Cal Try.prog 18 ⟨args⟩ w R := cal_of mo ok18 hle h

-- footbridge/footbridgeref24.Map
def s19 : S := (.seq (.row [⟨(some 3), none, .box 24 (.tmp 0)⟩,
   ⟨(some 4), none, .box 24 (.tmp 1)⟩,
   ⟨(some 6), none, .mv (.const (.int .i64 0))⟩,
   ⟨(some 7), none, .mv (.const (.int .i64 0))⟩,
   ⟨(some 8), none, .mv (.const (.int .i64 0))⟩])
 (.prune [4, 2, 3] (.seq (.seq (.row [⟨(some 17), none, .ldn 3 (.tmp 3)⟩,
   ⟨(some 18), none, .ldn 3 (.tmp 4)⟩,
   ⟨(some 19), none, .call 30 [(.tmp 17), (.tmp 18)]⟩,
   ⟨(some 20), none, .notB (.tmp 19)⟩])
 (.prune [20, 4, 2, 3] (.cond (.tmp 20)
  (.seq (.row [⟨(some 6), none, .mv (.const (.int .i64 0))⟩,
    ⟨(some 7), none, .mv (.const (.int .i64 0))⟩,
    ⟨(some 8), none, .mv (.const (.int .i64 1))⟩])
  (.prune [6, 7, 8] .ret))
  .skip)))
 (.prune [3, 2, 4] (.seq (.row [⟨(some 22), none, .ldn 3 (.tmp 3)⟩,
   ⟨(some 23), none, .mv (.tmp 2)⟩,
   ⟨(some 24), none, .call 13 [(.tmp 22), (.tmp 23)]⟩,
   ⟨(some 21), none, .mv (.tmp 24)⟩,
   ⟨(some 25), none, .ext (.tmp 21) 0⟩,
   ⟨(some 26), none, .ext (.tmp 21) 1⟩,
   ⟨(some 27), none, .ext (.tmp 21) 2⟩,
   ⟨(some 9), none, .mv (.tmp 25)⟩,
   ⟨(some 10), none, .mv (.tmp 26)⟩,
   ⟨(some 11), none, .mv (.tmp 27)⟩])
 (.prune [9, 4, 10, 11] (.seq (.seq (.row [⟨(some 28), none, .mv (.tmp 11)⟩,
   ⟨(some 29), none, .ibin .neq .i64 (.tmp 28) (.const (.int .i64 0))⟩])
 (.prune [29, 9, 4, 10, 11] (.cond (.tmp 29)
  (.seq (.row [⟨(some 30), none, .mv (.tmp 11)⟩,
    ⟨(some 6), none, .mv (.const (.int .i64 0))⟩,
    ⟨(some 7), none, .mv (.const (.int .i64 0))⟩,
    ⟨(some 8), none, .mv (.tmp 30)⟩])
  (.prune [6, 7, 8] .ret))
  .skip)))
 (.prune [10, 4, 9] (.seq (.seq (.row [⟨(some 31), none, .mv (.tmp 9)⟩,
   ⟨(some 32), none, .fad 1 (.tmp 4)⟩,
   ⟨(some 33), none, .ld (.tmp 32)⟩,
   ⟨(some 34), none, .ibin .lss .i64 (.tmp 31) (.tmp 33)⟩])
 (.prune [34, 10, 4, 9] (.cond (.tmp 34)
  (.seq (.row [⟨(some 6), none, .mv (.const (.int .i64 0))⟩,
    ⟨(some 7), none, .mv (.const (.int .i64 0))⟩,
    ⟨(some 8), none, .mv (.const (.int .i64 12))⟩])
  (.prune [6, 7, 8] .ret))
  .skip)))
 (.prune [9, 4, 10] (.seq (.row [⟨(some 12), none, .mv (.const (.int .i64 (-1)))⟩])
 (.prune [9, 12, 4, 10] (.seq (.row [⟨(some 13), none, .mv (.const (.int .i64 0))⟩])
 (.prune [9, 12, 4, 13, 10] (.seq (.seq (.row [⟨(some 35), none, .mv (.tmp 9)⟩,
   ⟨(some 14), none, .mv (.tmp 35)⟩])
 (.prune [14, 12, 4, 13, 10] (.block 0 (.loop [12, 13, 14] [12, 13, 14, 15, 16, 36, 37, 38, 39, 40, 41, 42, 43, 44, 45, 46, 47, 48, 49, 50, 51] (.seq (.seq (.row [⟨(some 36), none, .mv (.tmp 14)⟩,
    ⟨(some 37), none, .mv (.tmp 10)⟩,
    ⟨(some 38), none, .ibin .lss .i64 (.tmp 36) (.tmp 37)⟩])
  (.prune [38, 13, 12, 14, 4, 10] (.cond (.tmp 38)
   .skip
   (.exit 0))))
  (.prune [12, 14, 4, 10] (.seq (.block 1 (.seq (.row [⟨(some 42), none, .ldn 3 (.tmp 4)⟩,
    ⟨(some 43), none, .mv (.tmp 14)⟩,
    ⟨(some 44), none, .call 15 [(.tmp 42), (.tmp 43)]⟩,
    ⟨(some 41), none, .mv (.tmp 44)⟩,
    ⟨(some 45), none, .ext (.tmp 41) 0⟩,
    ⟨(some 46), none, .ext (.tmp 41) 1⟩,
    ⟨(some 15), none, .mv (.tmp 45)⟩,
    ⟨(some 16), none, .mv (.tmp 46)⟩])
  (.prune [12, 15, 14, 4, 10] (.seq (.seq (.row [⟨(some 47), none, .mv (.tmp 12)⟩,
    ⟨(some 48), none, .ibin .lss .i64 (.tmp 47) (.const (.int .i64 0))⟩])
  (.prune [48, 12, 15, 14, 4, 10] (.cond (.tmp 48)
   (.row [⟨(some 49), none, .mv (.tmp 15)⟩,
     ⟨(some 12), none, .mv (.tmp 49)⟩])
   .skip)))
  (.prune [15, 14, 12, 4, 10] (.row [⟨(some 50), none, .mv (.tmp 15)⟩,
    ⟨(some 51), none, .ibin .add .i64 (.tmp 50) (.const (.int .i64 1))⟩,
    ⟨(some 13), none, .mv (.tmp 51)⟩]))))))
  (.prune [14, 12, 4, 13, 10] (.row [⟨(some 39), none, .mv (.tmp 14)⟩,
    ⟨(some 40), none, .ibin .add .i64 (.tmp 39) (.const (.int .i64 1))⟩,
    ⟨(some 14), none, .mv (.tmp 40)⟩])))))))))
 (.prune [12, 13] (.seq (.row [⟨(some 52), none, .mv (.tmp 12)⟩,
   ⟨(some 53), none, .mv (.tmp 13)⟩,
   ⟨(some 6), none, .mv (.tmp 52)⟩,
   ⟨(some 7), none, .mv (.tmp 53)⟩,
   ⟨(some 8), none, .mv (.const (.int .i64 0))⟩])
 (.prune [6, 7, 8] .ret))))))))))))))))))
theorem ok19 : fits Try.prog 19 ⟨s19, 54, [.tmp 6, .tmp 7, .tmp 8]⟩ = some ⟨s19, 54, [.tmp 6, .tmp 7, .tmp 8]⟩ := by kernel_rfl
theorem go19 {args : List Value} {w : World} {R : Value → World → Prop} (hle : Nat.ble args.length 54 = true) (h : vc Try.prog 54 s19 (argEnv args 0) w (fun L w => resL L w [.tmp 6, .tmp 7, .tmp 8] fun vs => oneOr vs fun v => R v w) (fun _ _ _ => False) (fun L w => resL L w [.tmp 6, .tmp 7, .tmp 8] fun vs => oneOr vs fun v => R v w)) : Cal Try.prog 19 ⟨args⟩ w R := cal_of mo ok19 hle h

-- footbridge/align.Common
def s20 : S := (.seq (.row [⟨(some 2), none, .box 24 (.tmp 0)⟩,
   ⟨(some 3), none, .box 24 (.tmp 1)⟩,
   ⟨(some 4), none, .mv (.const (.slice none 0 0))⟩])
 (.prune [3, 2] (.seq (.seq (.row [⟨(some 6), none, .ldn 3 (.tmp 2)⟩,
   ⟨(some 7), none, .ldn 3 (.tmp 3)⟩,
   ⟨(some 8), none, .call 29 [(.tmp 6), (.tmp 7)]⟩,
   ⟨(some 9), none, .notB (.tmp 8)⟩])
 (.prune [9, 3, 2] (.cond (.tmp 9)
  (.seq (.row [⟨(some 4), none, .mv (.const (.slice none 0 0))⟩])
  (.prune [4] .ret))
  .skip)))
 (.prune [2, 3] (.seq (.row [⟨(some 5), none, .new [(.slice none 0 0)] 22⟩])
 (.prune [2, 3, 5] (.seq (.draw (.take 0 ⟨(some 10), none, .ldn 3 (.tmp 2)⟩ (.take 2 ⟨(some 12), none, .ldn 3 (.tmp 3)⟩ (.take 4 ⟨(some 14), none, .mkf (.func 32) [] [(.tmp 5)]⟩ (.step 1 true ⟨(some 11), none, .call 25 [(.tmp 10)]⟩ (.step 3 true ⟨(some 13), none, .call 25 [(.tmp 12)]⟩ (.step 5 true ⟨(some 15), none, .call 31 [(.tmp 11), (.tmp 13), (.tmp 14)]⟩ .done)))))))
 (.prune [5] (.seq (.row [⟨(some 16), none, .ld (.tmp 5)⟩,
   ⟨(some 4), none, .mv (.tmp 16)⟩])
 (.prune [4] .ret))))))))))
theorem ok20 : fits Try.prog 20 ⟨s20, 17, [.tmp 4]⟩ = some ⟨s20, 17, [.tmp 4]⟩ := by kernel_rfl
theorem go20 {args : List Value} {w : World} {R : Value → World → Prop} (hle : Nat.ble args.length 17 = true) (h : vc Try.prog 17 s20 (argEnv args 0) w (fun L w => resL L w [.tmp 4] fun vs => oneOr vs fun v => R v w) (fun _ _ _ => False) (fun L w => resL L w [.tmp 4] fun vs => oneOr vs fun v => R v w)) : Cal Try.prog 20 ⟨args⟩ w R := cal_of mo ok20 hle h

-- footbridge/align.Floor
def s21 : S := (.seq (.row [⟨(some 3), none, .box 24 (.tmp 0)⟩,
   ⟨(some 4), none, .box 24 (.tmp 1)⟩,
   ⟨(some 6), none, .mv (.const (.int .i64 0))⟩,
   ⟨(some 7), none, .mv (.const (.int .i64 0))⟩])
 (.prune [3, 4, 2] (.seq (.block 0 (.seq (.row [⟨(some 11), none, .ldn 3 (.tmp 3)⟩,
   ⟨(some 12), none, .ldn 3 (.tmp 4)⟩,
   ⟨(some 13), none, .call 29 [(.tmp 11), (.tmp 12)]⟩,
   ⟨(some 14), none, .notB (.tmp 13)⟩,
   ⟨(some 10), none, .mv (.tmp 14)⟩])
 (.prune [10, 3, 4, 2] (.cond (.tmp 10)
  (.seq (.row [⟨(some 6), none, .mv (.const (.int .i64 0))⟩,
    ⟨(some 7), none, .mv (.const (.int .i64 1))⟩])
  (.prune [6, 7] .ret))
  (.seq (.row [⟨(some 16), none, .mv (.tmp 2)⟩,
    ⟨(some 17), none, .ibin .lss .i64 (.tmp 16) (.const (.int .i64 0))⟩,
    ⟨(some 18), none, .mv (.tmp 17)⟩,
    ⟨(some 19), (some (18, false)), .mv (.tmp 2)⟩,
    ⟨(some 20), (some (18, false)), .ldn 3 (.tmp 3)⟩,
    ⟨(some 21), (some (18, false)), .call 17 [(.tmp 20)]⟩,
    ⟨(some 22), (some (18, false)), .ibin .gtr .i64 (.tmp 19) (.tmp 21)⟩,
    ⟨(some 23), none, .pick (.tmp 18) (.const (.bool true)) (.tmp 22)⟩,
    ⟨(some 15), none, .mv (.tmp 23)⟩])
  (.prune [15, 2, 4, 3] (.cond (.tmp 15)
   (.seq (.row [⟨(some 6), none, .mv (.const (.int .i64 0))⟩,
     ⟨(some 7), none, .mv (.const (.int .i64 13))⟩])
   (.prune [6, 7] .ret))
   .skip)))))))
 (.prune [3, 4, 2] (.seq (.row [⟨(some 24), none, .ldn 3 (.tmp 3)⟩,
   ⟨(some 25), none, .ldn 3 (.tmp 4)⟩,
   ⟨(some 26), none, .call 20 [(.tmp 24), (.tmp 25)]⟩,
   ⟨(some 8), none, .mv (.tmp 26)⟩])
 (.prune [2, 8] (.seq (.row [⟨(some 27), none, .mv (.tmp 8)⟩,
   ⟨(some 28), none, .mv (.tmp 2)⟩,
   ⟨(some 29), none, .ibin .add .i64 (.tmp 28) (.const (.int .i64 1))⟩,
   ⟨(some 30), none, .call 26 [(.tmp 27), (.tmp 29)]⟩,
   ⟨(some 9), none, .mv (.tmp 30)⟩])
 (.prune [9, 8] (.seq (.seq (.row [⟨(some 31), none, .mv (.tmp 9)⟩,
   ⟨(some 32), none, .ibin .eql .i64 (.tmp 31) (.const (.int .i64 0))⟩])
 (.prune [32, 9, 8] (.cond (.tmp 32)
  (.seq (.row [⟨(some 6), none, .mv (.const (.int .i64 0))⟩,
    ⟨(some 7), none, .mv (.const (.int .i64 12))⟩])
  (.prune [6, 7] .ret))
  .skip)))
 (.prune [8, 9] (.seq (.row [⟨(some 33), none, .mv (.tmp 8)⟩,
   ⟨(some 34), none, .mv (.tmp 9)⟩,
   ⟨(some 35), none, .ibin .sub .i64 (.tmp 34) (.const (.int .i64 1))⟩,
   ⟨(some 36), none, .ixA 1 (.tmp 33) (.tmp 35)⟩,
   ⟨(some 37), none, .ld (.tmp 36)⟩,
   ⟨(some 6), none, .mv (.tmp 37)⟩,
   ⟨(some 7), none, .mv (.const (.int .i64 0))⟩])
 (.prune [6, 7] .ret))))))))))))
theorem ok21 : fits Try.prog 21 ⟨s21, 38, [.tmp 6, .tmp 7]⟩ = some ⟨s21, 38, [.tmp 6, .tmp 7]⟩ := by kernel_rfl
theorem go21 {args : List Value} {w : World} {R : Value → World → Prop} (hle : Nat.ble args.length 38 = true) (h : vc Try.prog 38 s21 (argEnv args 0) w (fun L w => resL L w [.tmp 6, .tmp 7] fun vs => oneOr vs fun v => R v w) (fun _ _ _ => False) (fun L w => resL L w [.tmp 6, .tmp 7] fun vs => oneOr vs fun v => R v w)) : Cal Try.prog 21 ⟨args⟩ w R := cal_of mo ok21 hle h

-- footbridge/footbridgeref24.Floor
def s22 : S := (.seq (.row [⟨(some 3), none, .box 24 (.tmp 0)⟩,
   ⟨(some 4), none, .box 24 (.tmp 1)⟩,
   ⟨(some 6), none, .mv (.const (.int .i64 0))⟩,
   ⟨(some 7), none, .mv (.const (.int .i64 0))⟩])
 (.prune [3, 4, 2] (.seq (.seq (.row [⟨(some 11), none, .ldn 3 (.tmp 3)⟩,
   ⟨(some 12), none, .ldn 3 (.tmp 4)⟩,
   ⟨(some 13), none, .call 30 [(.tmp 11), (.tmp 12)]⟩,
   ⟨(some 14), none, .notB (.tmp 13)⟩])
 (.prune [14, 3, 4, 2] (.cond (.tmp 14)
  (.seq (.row [⟨(some 6), none, .mv (.const (.int .i64 0))⟩,
    ⟨(some 7), none, .mv (.const (.int .i64 1))⟩])
  (.prune [6, 7] .ret))
  .skip)))
 (.prune [2, 4, 3] (.seq (.seq (.row [⟨(some 15), none, .mv (.tmp 2)⟩,
   ⟨(some 16), none, .ibin .lss .i64 (.tmp 15) (.const (.int .i64 0))⟩,
   ⟨(some 17), none, .mv (.tmp 16)⟩,
   ⟨(some 18), (some (17, false)), .mv (.tmp 2)⟩,
   ⟨(some 19), (some (17, false)), .ldn 3 (.tmp 3)⟩,
   ⟨(some 20), (some (17, false)), .call 11 [(.tmp 19)]⟩,
   ⟨(some 21), (some (17, false)), .ibin .gtr .i64 (.tmp 18) (.tmp 20)⟩,
   ⟨(some 22), none, .pick (.tmp 17) (.const (.bool true)) (.tmp 21)⟩])
 (.prune [22, 2, 4, 3] (.cond (.tmp 22)
  (.seq (.row [⟨(some 6), none, .mv (.const (.int .i64 0))⟩,
    ⟨(some 7), none, .mv (.const (.int .i64 13))⟩])
  (.prune [6, 7] .ret))
  .skip)))
 (.prune [3, 4, 2] (.seq (.row [⟨(some 23), none, .ldn 3 (.tmp 3)⟩,
   ⟨(some 24), none, .ldn 3 (.tmp 4)⟩,
   ⟨(some 25), none, .call 24 [(.tmp 23), (.tmp 24)]⟩,
   ⟨(some 8), none, .mv (.tmp 25)⟩])
 (.prune [8, 2] (.seq (.row [⟨(some 9), none, .mv (.const (.int .i64 (-1)))⟩])
 (.prune [8, 2, 9] (.seq (.seq (.row [⟨(some 26), none, .mv (.tmp 8)⟩,
   ⟨(some 27), none, .lenA (.tmp 26)⟩,
   ⟨(some 28), none, .mv (.const (.int .i64 0))⟩])
 (.prune [28, 8, 2, 9, 27] (.block 0 (.loop [9, 28] [9, 10, 28, 29, 30, 31, 32, 33, 34, 35, 36, 37, 38, 39, 40, 41] (.seq (.row [⟨(some 29), none, .ibin .lss .i64 (.tmp 28) (.tmp 27)⟩])
  (.prune [29, 9, 28, 8, 2, 27] (.seq (.cond (.tmp 29)
   .skip
   (.exit 0))
  (.prune [9, 28, 8, 2, 27] (.seq (.block 1 (.seq (.row [⟨(some 30), none, .mv (.tmp 28)⟩,
    ⟨(some 10), none, .mv (.tmp 30)⟩])
  (.prune [9, 10, 28, 8, 2, 27] (.seq (.row [⟨(some 31), none, .mv (.tmp 8)⟩,
    ⟨(some 32), none, .mv (.tmp 10)⟩,
    ⟨(some 33), none, .ixA 1 (.tmp 31) (.tmp 32)⟩,
    ⟨(some 34), none, .ld (.tmp 33)⟩,
    ⟨(some 35), none, .mv (.tmp 2)⟩,
    ⟨(some 36), none, .ibin .leq .i64 (.tmp 34) (.tmp 35)⟩])
  (.prune [36, 9, 10, 28, 8, 2, 27] (.cond (.tmp 36)
   (.row [⟨(some 37), none, .mv (.tmp 8)⟩,
     ⟨(some 38), none, .mv (.tmp 10)⟩,
     ⟨(some 39), none, .ixA 1 (.tmp 37) (.tmp 38)⟩,
     ⟨(some 40), none, .ld (.tmp 39)⟩,
     ⟨(some 9), none, .mv (.tmp 40)⟩])
   .skip))))))
  (.prune [28, 8, 2, 9, 27] (.row [⟨(some 41), none, .ibin .add .i64 (.tmp 28) (.const (.int .i64 1))⟩,
    ⟨(some 28), none, .mv (.tmp 41)⟩])))))))))))
 (.prune [9] (.seq (.seq (.row [⟨(some 42), none, .mv (.tmp 9)⟩,
   ⟨(some 43), none, .ibin .lss .i64 (.tmp 42) (.const (.int .i64 0))⟩])
 (.prune [43, 9] (.cond (.tmp 43)
  (.seq (.row [⟨(some 6), none, .mv (.const (.int .i64 0))⟩,
    ⟨(some 7), none, .mv (.const (.int .i64 12))⟩])
  (.prune [6, 7] .ret))
  .skip)))
 (.prune [9] (.seq (.row [⟨(some 44), none, .mv (.tmp 9)⟩,
   ⟨(some 6), none, .mv (.tmp 44)⟩,
   ⟨(some 7), none, .mv (.const (.int .i64 0))⟩])
 (.prune [6, 7] .ret))))))))))))))))
theorem ok22 : fits Try.prog 22 ⟨s22, 45, [.tmp 6, .tmp 7]⟩ = some ⟨s22, 45, [.tmp 6, .tmp 7]⟩ := by kernel_rfl
theorem go22 {args : List Value} {w : World} {R : Value → World → Prop} (hle : Nat.ble args.length 45 = true) (h : vc Try.prog 45 s22 (argEnv args 0) w (fun L w => resL L w [.tmp 6, .tmp 7] fun vs => oneOr vs fun v => R v w) (fun _ _ _ => False) (fun L w => resL L w [.tmp 6, .tmp 7] fun vs => oneOr vs fun v => R v w)) : Cal Try.prog 22 ⟨args⟩ w R := cal_of mo ok22 hle h

-- footbridge/footbridgeref10.Same
def s23 : S := (.seq (.row [⟨(some 4), none, .mv (.const (.bool false))⟩])
 (.prune [0, 1] (.seq (.seq (.row [⟨(some 6), none, .mv (.tmp 0)⟩,
   ⟨(some 7), none, .lenA (.tmp 6)⟩,
   ⟨(some 8), none, .mv (.tmp 1)⟩,
   ⟨(some 9), none, .lenA (.tmp 8)⟩,
   ⟨(some 10), none, .ibin .neq .i64 (.tmp 7) (.tmp 9)⟩])
 (.prune [10, 0, 1] (.cond (.tmp 10)
  (.seq (.row [⟨(some 4), none, .mv (.const (.bool false))⟩])
  (.prune [4] .ret))
  .skip)))
 (.prune [1, 0] (.seq (.seq (.row [⟨(some 11), none, .mv (.tmp 0)⟩,
   ⟨(some 12), none, .lenA (.tmp 11)⟩,
   ⟨(some 13), none, .mv (.const (.int .i64 0))⟩])
 (.prune [13, 1, 0, 12] (.block 0 (.loop [13] [4, 5, 13, 14, 15, 16, 17, 18, 19, 20, 21, 22, 23, 24, 25] (.seq (.row [⟨(some 14), none, .ibin .lss .i64 (.tmp 13) (.tmp 12)⟩])
  (.prune [14, 12, 0, 1, 13] (.seq (.cond (.tmp 14)
   .skip
   (.exit 0))
  (.prune [12, 0, 1, 13] (.seq (.block 1 (.seq (.row [⟨(some 15), none, .mv (.tmp 13)⟩,
    ⟨(some 5), none, .mv (.tmp 15)⟩])
  (.prune [5, 12, 0, 1, 13] (.seq (.draw (.take 0 ⟨(some 16), none, .mv (.tmp 0)⟩ (.take 1 ⟨(some 17), none, .mv (.tmp 5)⟩ (.take 2 ⟨(some 18), none, .ixA 1 (.tmp 16) (.tmp 17)⟩ (.take 3 ⟨(some 19), none, .ld (.tmp 18)⟩ (.take 4 ⟨(some 20), none, .mv (.tmp 1)⟩ (.take 5 ⟨(some 21), none, .mv (.tmp 5)⟩ (.take 6 ⟨(some 22), none, .ixA 1 (.tmp 20) (.tmp 21)⟩ (.take 7 ⟨(some 23), none, .ld (.tmp 22)⟩ (.take 8 ⟨(some 24), none, .ibin .neq .i64 (.tmp 19) (.tmp 23)⟩ .done))))))))))
  (.prune [24, 12, 0, 1, 13] (.cond (.tmp 24)
   (.seq (.row [⟨(some 4), none, .mv (.const (.bool false))⟩])
   (.prune [4] .ret))
   .skip))))))
  (.prune [13, 1, 0, 12] (.row [⟨(some 25), none, .ibin .add .i64 (.tmp 13) (.const (.int .i64 1))⟩,
    ⟨(some 13), none, .mv (.tmp 25)⟩])))))))))))
 (.prune [] (.seq (.row [⟨(some 4), none, .mv (.const (.bool true))⟩])
 (.prune [4] .ret))))))))
theorem ok23 : fits Try.prog 23 ⟨s23, 26, [.tmp 4]⟩ = some ⟨s23, 26, [.tmp 4]⟩ := by kernel_rfl
theorem go23 {args : List Value} {w : World} {R : Value → World → Prop} (hle : Nat.ble args.length 26 = true) (h : vc Try.prog 26 s23 (argEnv args 0) w (fun L w => resL L w [.tmp 4] fun vs => oneOr vs fun v => R v w) (fun _ _ _ => False) (fun L w => resL L w [.tmp 4] fun vs => oneOr vs fun v => R v w)) : Cal Try.prog 23 ⟨args⟩ w R := cal_of mo ok23 hle h

-- footbridge/footbridgeref24.Common
def s24 : S := (.seq (.row [⟨(some 2), none, .box 24 (.tmp 0)⟩,
   ⟨(some 3), none, .box 24 (.tmp 1)⟩,
   ⟨(some 4), none, .mv (.const (.slice none 0 0))⟩])
 (.prune [2, 3] (.seq (.row [⟨(some 8), none, .bsl 3 0 [] [] []⟩,
   ⟨(some 5), none, .mv (.tmp 8)⟩])
 (.prune [2, 3, 5] (.seq (.seq (.row [⟨(some 9), none, .ldn 3 (.tmp 2)⟩,
   ⟨(some 10), none, .ldn 3 (.tmp 3)⟩,
   ⟨(some 11), none, .call 30 [(.tmp 9), (.tmp 10)]⟩,
   ⟨(some 12), none, .notB (.tmp 11)⟩])
 (.prune [12, 2, 3, 5] (.cond (.tmp 12)
  (.seq (.row [⟨(some 13), none, .mv (.tmp 5)⟩,
    ⟨(some 4), none, .mv (.tmp 13)⟩])
  (.prune [4] .ret))
  .skip)))
 (.prune [5, 3, 2] (.seq (.row [⟨(some 14), none, .fad 1 (.tmp 2)⟩,
   ⟨(some 15), none, .ld (.tmp 14)⟩,
   ⟨(some 6), none, .mv (.tmp 15)⟩])
 (.prune [5, 3, 2, 6] (.seq (.seq (.row [⟨(some 16), none, .ldn 3 (.tmp 3)⟩,
   ⟨(some 17), none, .mv (.tmp 6)⟩,
   ⟨(some 18), none, .call 33 [(.tmp 16), (.tmp 17)]⟩])
 (.prune [18, 5, 3, 2, 6] (.cond (.tmp 18)
  (.row [⟨(some 19), none, .mv (.tmp 5)⟩,
    ⟨(some 20), none, .mv (.tmp 6)⟩,
    ⟨(some 21), none, .bsl 3 1 [(.int .i64 0)] [(0, 1)] [(.tmp 20)]⟩,
    ⟨(some 22), none, .run (.bi .append ⟨[22, 22]⟩ 22) [(.tmp 19), (.tmp 21)]⟩,
    ⟨(some 5), none, .mv (.tmp 22)⟩])
  .skip)))
 (.prune [5, 3, 2, 6] (.seq (.seq (.row [⟨(some 23), none, .fad 2 (.tmp 2)⟩,
   ⟨(some 24), none, .ld (.tmp 23)⟩,
   ⟨(some 25), none, .lenA (.tmp 24)⟩,
   ⟨(some 26), none, .mv (.const (.int .i64 0))⟩])
 (.prune [26, 5, 3, 2, 6, 25] (.block 0 (.loop [5, 6, 26] [5, 6, 7, 26, 27, 28, 29, 30, 31, 32, 33, 34, 35, 36, 37, 38, 39, 40, 41, 42, 43] (.seq (.row [⟨(some 27), none, .ibin .lss .i64 (.tmp 26) (.tmp 25)⟩])
  (.prune [27, 6, 5, 26, 3, 2, 25] (.seq (.cond (.tmp 27)
   .skip
   (.exit 0))
  (.prune [6, 5, 26, 3, 2, 25] (.seq (.block 1 (.seq (.row [⟨(some 28), none, .mv (.tmp 26)⟩,
    ⟨(some 7), none, .mv (.tmp 28)⟩])
  (.prune [6, 7, 5, 26, 3, 2, 25] (.seq (.row [⟨(some 29), none, .mv (.tmp 6)⟩,
    ⟨(some 30), none, .fad 2 (.tmp 2)⟩,
    ⟨(some 31), none, .ld (.tmp 30)⟩,
    ⟨(some 32), none, .mv (.tmp 7)⟩,
    ⟨(some 33), none, .ixA 1 (.tmp 31) (.tmp 32)⟩,
    ⟨(some 34), none, .ld (.tmp 33)⟩,
    ⟨(some 35), none, .ibin .add .i64 (.tmp 29) (.tmp 34)⟩,
    ⟨(some 6), none, .mv (.tmp 35)⟩])
  (.prune [5, 26, 3, 2, 6, 25] (.seq (.row [⟨(some 36), none, .ldn 3 (.tmp 3)⟩,
    ⟨(some 37), none, .mv (.tmp 6)⟩,
    ⟨(some 38), none, .call 33 [(.tmp 36), (.tmp 37)]⟩])
  (.prune [38, 5, 26, 3, 2, 6, 25] (.cond (.tmp 38)
   (.row [⟨(some 39), none, .mv (.tmp 5)⟩,
     ⟨(some 40), none, .mv (.tmp 6)⟩,
     ⟨(some 41), none, .bsl 3 1 [(.int .i64 0)] [(0, 1)] [(.tmp 40)]⟩,
     ⟨(some 42), none, .run (.bi .append ⟨[22, 22]⟩ 22) [(.tmp 39), (.tmp 41)]⟩,
     ⟨(some 5), none, .mv (.tmp 42)⟩])
   .skip))))))))
  (.prune [26, 5, 3, 2, 6, 25] (.row [⟨(some 43), none, .ibin .add .i64 (.tmp 26) (.const (.int .i64 1))⟩,
    ⟨(some 26), none, .mv (.tmp 43)⟩])))))))))))
 (.prune [5] (.seq (.row [⟨(some 44), none, .mv (.tmp 5)⟩,
   ⟨(some 4), none, .mv (.tmp 44)⟩])
 (.prune [4] .ret))))))))))))))
theorem ok24 : fits Try.prog 24 ⟨s24, 45, [.tmp 4]⟩ = some ⟨s24, 45, [.tmp 4]⟩ := by kernel_rfl
theorem go24 {args : List Value} {w : World} {R : Value → World → Prop} (hle : Nat.ble args.length 45 = true) (h : vc Try.prog 45 s24 (argEnv args 0) w (fun L w => resL L w [.tmp 4] fun vs => oneOr vs fun v => R v w) (fun _ _ _ => False) (fun L w => resL L w [.tmp 4] fun vs => oneOr vs fun v => R v w)) : Cal Try.prog 24 ⟨args⟩ w R := cal_of mo ok24 hle h

-- footbridge/align.ends
def s25 : S := (.seq (.row [⟨(some 1), none, .box 24 (.tmp 0)⟩,
   ⟨(some 2), none, .mv (.const (.slice none 0 0))⟩])
 (.prune [1] (.seq (.row [⟨(some 7), none, .fad 1 (.tmp 1)⟩,
   ⟨(some 8), none, .ld (.tmp 7)⟩,
   ⟨(some 9), none, .bsl 3 1 [(.int .i64 0)] [(0, 1)] [(.tmp 8)]⟩,
   ⟨(some 3), none, .mv (.tmp 9)⟩])
 (.prune [1, 3] (.seq (.row [⟨(some 10), none, .fad 1 (.tmp 1)⟩,
   ⟨(some 11), none, .ld (.tmp 10)⟩,
   ⟨(some 4), none, .mv (.tmp 11)⟩])
 (.prune [1, 3, 4] (.seq (.seq (.row [⟨(some 12), none, .fad 2 (.tmp 1)⟩,
   ⟨(some 13), none, .ld (.tmp 12)⟩,
   ⟨(some 14), none, .lenA (.tmp 13)⟩,
   ⟨(some 15), none, .mv (.const (.int .i64 0))⟩])
 (.prune [15, 3, 4, 13, 14] (.block 0 (.loop [3, 4, 15] [3, 4, 6, 15, 16, 17, 18, 19, 20, 21, 22, 23, 24, 25, 26] (.seq (.row [⟨(some 16), none, .ibin .lss .i64 (.tmp 15) (.tmp 14)⟩])
  (.prune [16, 4, 3, 15, 13, 14] (.seq (.cond (.tmp 16)
   .skip
   (.exit 0))
  (.prune [4, 3, 15, 13, 14] (.seq (.block 1 (.seq (.row [⟨(some 17), none, .ixA 1 (.tmp 13) (.tmp 15)⟩,
    ⟨(some 18), none, .ld (.tmp 17)⟩,
    ⟨(some 6), none, .mv (.tmp 18)⟩])
  (.prune [4, 6, 3, 15, 13, 14] (.seq (.row [⟨(some 19), none, .mv (.tmp 4)⟩,
    ⟨(some 20), none, .mv (.tmp 6)⟩,
    ⟨(some 21), none, .ibin .add .i64 (.tmp 19) (.tmp 20)⟩,
    ⟨(some 4), none, .mv (.tmp 21)⟩])
  (.prune [3, 15, 4, 13, 14] (.row [⟨(some 22), none, .mv (.tmp 3)⟩,
    ⟨(some 23), none, .mv (.tmp 4)⟩,
    ⟨(some 24), none, .bsl 3 1 [(.int .i64 0)] [(0, 1)] [(.tmp 23)]⟩,
    ⟨(some 25), none, .run (.bi .append ⟨[22, 22]⟩ 22) [(.tmp 22), (.tmp 24)]⟩,
    ⟨(some 3), none, .mv (.tmp 25)⟩]))))))
  (.prune [15, 3, 4, 13, 14] (.row [⟨(some 26), none, .ibin .add .i64 (.tmp 15) (.const (.int .i64 1))⟩,
    ⟨(some 15), none, .mv (.tmp 26)⟩])))))))))))
 (.prune [3] (.seq (.row [⟨(some 27), none, .mv (.tmp 3)⟩,
   ⟨(some 2), none, .mv (.tmp 27)⟩])
 (.prune [2] .ret))))))))))
theorem ok25 : fits Try.prog 25 ⟨s25, 28, [.tmp 2]⟩ = some ⟨s25, 28, [.tmp 2]⟩ := by kernel_rfl
theorem go25 {args : List Value} {w : World} {R : Value → World → Prop} (hle : Nat.ble args.length 28 = true) (h : vc Try.prog 28 s25 (argEnv args 0) w (fun L w => resL L w [.tmp 2] fun vs => oneOr vs fun v => R v w) (fun _ _ _ => False) (fun L w => resL L w [.tmp 2] fun vs => oneOr vs fun v => R v w)) : Cal Try.prog 25 ⟨args⟩ w R := cal_of mo ok25 hle h

-- sort.SearchInts
def s26 : S := (.seq (.row [⟨(some 2), none, .box 22 (.tmp 0)⟩,
   ⟨(some 3), none, .box 3 (.tmp 1)⟩,
   ⟨(some 4), none, .mv (.const (.int .i64 0))⟩])
 (.prune [3, 2] (.seq (.row [⟨(some 5), none, .ld (.tmp 2)⟩,
   ⟨(some 6), none, .lenA (.tmp 5)⟩,
   ⟨(some 7), none, .mkf (.func 35) [] [(.tmp 2), (.tmp 3)]⟩,
   ⟨(some 8), none, .call 34 [(.tmp 6), (.tmp 7)]⟩,
   ⟨(some 4), none, .mv (.tmp 8)⟩])
 (.prune [4] .ret))))
theorem ok26 : fits Try.prog 26 ⟨s26, 9, [.tmp 4]⟩ = some ⟨s26, 9, [.tmp 4]⟩ := by kernel_rfl
theorem go26 {args : List Value} {w : World} {R : Value → World → Prop} (hle : Nat.ble args.length 9 = true) (h : vc Try.prog 9 s26 (argEnv args 0) w (fun L w => resL L w [.tmp 4] fun vs => oneOr vs fun v => R v w) (fun _ _ _ => False) (fun L w => resL L w [.tmp 4] fun vs => oneOr vs fun v => R v w)) : Cal Try.prog 26 ⟨args⟩ w R := cal_of mo ok26 hle h

-- footbridge/align.May$1
def s27 : S := (.seq (.row [⟨(some 2), none, .mv (.const (.bool false))⟩])
 (.prune [0] (.seq (.row [⟨(some 3), none, .mv (.tmp 0)⟩,
   ⟨(some 4), none, .ibin .lss .i64 (.tmp 3) (.const (.int .i64 1))⟩,
   ⟨(some 5), none, .mv (.tmp 4)⟩,
   ⟨(some 6), (some (5, false)), .mv (.tmp 0)⟩,
   ⟨(some 7), (some (5, false)), .ibin .gtr .i64 (.tmp 6) (.const (.int .i64 64))⟩,
   ⟨(some 8), none, .pick (.tmp 5) (.const (.bool true)) (.tmp 7)⟩,
   ⟨(some 2), none, .mv (.tmp 8)⟩])
 (.prune [2] .ret))))
theorem ok27 : fits Try.prog 27 ⟨s27, 9, [.tmp 2]⟩ = some ⟨s27, 9, [.tmp 2]⟩ := by kernel_rfl
theorem go27 {args : List Value} {w : World} {R : Value → World → Prop} (hle : Nat.ble args.length 9 = true) (h : vc Try.prog 9 s27 (argEnv args 0) w (fun L w => resL L w [.tmp 2] fun vs => oneOr vs fun v => R v w) (fun _ _ _ => False) (fun L w => resL L w [.tmp 2] fun vs => oneOr vs fun v => R v w)) : Cal Try.prog 27 ⟨args⟩ w R := cal_of mo ok27 hle h

-- slices.ContainsFunc[[]int,int]
def s28 : S := (.seq (.row [⟨(some 4), none, .mv (.const (.bool false))⟩])
 (.prune [0, 1] (.seq (.row [⟨(some 5), none, .mv (.tmp 0)⟩,
   ⟨(some 6), none, .mv (.tmp 1)⟩,
   ⟨(some 7), none, .call 36 [(.tmp 5), (.tmp 6)]⟩,
   ⟨(some 8), none, .ibin .geq .i64 (.tmp 7) (.const (.int .i64 0))⟩,
   ⟨(some 4), none, .mv (.tmp 8)⟩])
 (.prune [4] .ret))))
theorem ok28 : fits Try.prog 28 ⟨s28, 9, [.tmp 4]⟩ = some ⟨s28, 9, [.tmp 4]⟩ := by kernel_rfl
theorem go28 {args : List Value} {w : World} {R : Value → World → Prop} (hle : Nat.ble args.length 9 = true) (h : vc Try.prog 9 s28 (argEnv args 0) w (fun L w => resL L w [.tmp 4] fun vs => oneOr vs fun v => R v w) (fun _ _ _ => False) (fun L w => resL L w [.tmp 4] fun vs => oneOr vs fun v => R v w)) : Cal Try.prog 28 ⟨args⟩ w R := cal_of mo ok28 hle h

-- footbridge/align.both
def s29 : S := (.seq (.row [⟨(some 2), none, .box 24 (.tmp 0)⟩,
   ⟨(some 3), none, .box 24 (.tmp 1)⟩,
   ⟨(some 4), none, .mv (.const (.bool false))⟩])
 (.prune [2, 3] (.seq (.draw (.take 0 ⟨(some 5), none, .ldn 3 (.tmp 2)⟩ (.step 1 true ⟨(some 6), none, .call 16 [(.tmp 5)]⟩ (.take 2 ⟨(some 7), none, .mv (.tmp 6)⟩ (.take 3 ⟨(some 8), (some (7, true)), .ldn 3 (.tmp 3)⟩ (.step 4 true ⟨(some 9), (some (7, true)), .call 16 [(.tmp 8)]⟩ (.take 5 ⟨(some 10), none, .pick (.tmp 7) (.tmp 9) (.const (.bool false))⟩ (.take 6 ⟨(some 11), none, .mv (.tmp 10)⟩ (.take 7 ⟨(some 12), (some (11, true)), .ldn 3 (.tmp 2)⟩ (.take 9 ⟨(some 14), (some (11, true)), .ldn 3 (.tmp 3)⟩ (.step 8 true ⟨(some 13), (some (11, true)), .call 17 [(.tmp 12)]⟩ (.step 10 true ⟨(some 15), (some (11, true)), .call 17 [(.tmp 14)]⟩ (.take 11 ⟨(some 16), (some (11, true)), .ibin .eql .i64 (.tmp 13) (.tmp 15)⟩ (.take 12 ⟨(some 17), none, .pick (.tmp 11) (.tmp 16) (.const (.bool false))⟩ (.take 13 ⟨(some 4), none, .mv (.tmp 17)⟩ .done)))))))))))))))
 (.prune [4] .ret))))
theorem ok29 : fits Try.prog 29 ⟨s29, 18, [.tmp 4]⟩ = some ⟨s29, 18, [.tmp 4]⟩ := by kernel_rfl
theorem go29 {args : List Value} {w : World} {R : Value → World → Prop} (hle : Nat.ble args.length 18 = true) (h : vc Try.prog 18 s29 (argEnv args 0) w (fun L w => resL L w [.tmp 4] fun vs => oneOr vs fun v => R v w) (fun _ _ _ => False) (fun L w => resL L w [.tmp 4] fun vs => oneOr vs fun v => R v w)) : Cal Try.prog 29 ⟨args⟩ w R := cal_of mo ok29 hle h

-- footbridge/footbridgeref24.two
def s30 : S := (.seq (.row [⟨(some 2), none, .box 24 (.tmp 0)⟩,
   ⟨(some 3), none, .box 24 (.tmp 1)⟩,
   ⟨(some 4), none, .mv (.const (.bool false))⟩])
 (.prune [2, 3] (.seq (.draw (.take 0 ⟨(some 5), none, .ldn 3 (.tmp 2)⟩ (.step 1 true ⟨(some 6), none, .call 10 [(.tmp 5)]⟩ (.take 2 ⟨(some 7), none, .mv (.tmp 6)⟩ (.take 3 ⟨(some 8), (some (7, true)), .ldn 3 (.tmp 3)⟩ (.step 4 true ⟨(some 9), (some (7, true)), .call 10 [(.tmp 8)]⟩ (.take 5 ⟨(some 10), none, .pick (.tmp 7) (.tmp 9) (.const (.bool false))⟩ (.take 6 ⟨(some 11), none, .mv (.tmp 10)⟩ (.take 7 ⟨(some 12), (some (11, true)), .ldn 3 (.tmp 2)⟩ (.take 9 ⟨(some 14), (some (11, true)), .ldn 3 (.tmp 3)⟩ (.step 8 true ⟨(some 13), (some (11, true)), .call 11 [(.tmp 12)]⟩ (.step 10 true ⟨(some 15), (some (11, true)), .call 11 [(.tmp 14)]⟩ (.take 11 ⟨(some 16), (some (11, true)), .ibin .eql .i64 (.tmp 13) (.tmp 15)⟩ (.take 12 ⟨(some 17), none, .pick (.tmp 11) (.tmp 16) (.const (.bool false))⟩ (.take 13 ⟨(some 4), none, .mv (.tmp 17)⟩ .done)))))))))))))))
 (.prune [4] .ret))))
theorem ok30 : fits Try.prog 30 ⟨s30, 18, [.tmp 4]⟩ = some ⟨s30, 18, [.tmp 4]⟩ := by kernel_rfl
theorem go30 {args : List Value} {w : World} {R : Value → World → Prop} (hle : Nat.ble args.length 18 = true) (h : vc Try.prog 18 s30 (argEnv args 0) w (fun L w => resL L w [.tmp 4] fun vs => oneOr vs fun v => R v w) (fun _ _ _ => False) (fun L w => resL L w [.tmp 4] fun vs => oneOr vs fun v => R v w)) : Cal Try.prog 30 ⟨args⟩ w R := cal_of mo ok30 hle h

-- footbridge/align.together
def s31 : S := (.block 0 (.loop [0, 1] [0, 1, 6, 7, 8, 9, 10, 11, 12, 13, 14, 15, 16, 17, 18, 19, 20, 21, 22, 23, 24, 25, 26, 27, 28, 29, 30, 31, 32, 33, 34, 35, 36, 37, 38, 39, 40, 41, 42] (.seq (.seq (.row [⟨(some 6), none, .mv (.tmp 0)⟩,
    ⟨(some 7), none, .lenA (.tmp 6)⟩,
    ⟨(some 8), none, .ibin .gtr .i64 (.tmp 7) (.const (.int .i64 0))⟩,
    ⟨(some 9), none, .mv (.tmp 8)⟩,
    ⟨(some 10), (some (9, true)), .mv (.tmp 1)⟩,
    ⟨(some 11), (some (9, true)), .lenA (.tmp 10)⟩,
    ⟨(some 12), (some (9, true)), .ibin .gtr .i64 (.tmp 11) (.const (.int .i64 0))⟩,
    ⟨(some 13), none, .pick (.tmp 9) (.tmp 12) (.const (.bool false))⟩])
  (.prune [13, 0, 2, 1] (.cond (.tmp 13)
   .skip
   (.exit 0))))
  (.prune [0, 2, 1] (.block 1 (.block 2 (.seq (.draw (.take 0 ⟨(some 24), none, .mv (.tmp 0)⟩ (.take 1 ⟨(some 25), none, .ixA 1 (.tmp 24) (.const (.int .i64 0))⟩ (.take 2 ⟨(some 26), none, .ld (.tmp 25)⟩ (.take 3 ⟨(some 27), none, .mv (.tmp 1)⟩ (.take 4 ⟨(some 28), none, .ixA 1 (.tmp 27) (.const (.int .i64 0))⟩ (.take 5 ⟨(some 29), none, .ld (.tmp 28)⟩ (.take 6 ⟨(some 30), none, .ibin .lss .i64 (.tmp 26) (.tmp 29)⟩ (.take 7 ⟨(some 23), none, .mv (.tmp 30)⟩ .done)))))))))
  (.prune [23, 0, 2, 1] (.cond (.tmp 23)
   (.row [⟨(some 31), none, .mv (.tmp 0)⟩,
     ⟨(some 32), none, .slc 1 (.tmp 31) (some (.const (.int .i64 1))) none⟩,
     ⟨(some 0), none, .mv (.tmp 32)⟩])
   (.seq (.draw (.take 0 ⟨(some 34), none, .mv (.tmp 0)⟩ (.take 1 ⟨(some 35), none, .ixA 1 (.tmp 34) (.const (.int .i64 0))⟩ (.take 2 ⟨(some 36), none, .ld (.tmp 35)⟩ (.take 3 ⟨(some 37), none, .mv (.tmp 1)⟩ (.take 4 ⟨(some 38), none, .ixA 1 (.tmp 37) (.const (.int .i64 0))⟩ (.take 5 ⟨(some 39), none, .ld (.tmp 38)⟩ (.take 6 ⟨(some 40), none, .ibin .gtr .i64 (.tmp 36) (.tmp 39)⟩ (.take 7 ⟨(some 33), none, .mv (.tmp 40)⟩ .done)))))))))
   (.prune [33, 1, 0, 2] (.cond (.tmp 33)
    (.row [⟨(some 41), none, .mv (.tmp 1)⟩,
      ⟨(some 42), none, .slc 1 (.tmp 41) (some (.const (.int .i64 1))) none⟩,
      ⟨(some 1), none, .mv (.tmp 42)⟩])
    (.seq (.row [⟨(some 14), none, .mv (.tmp 2)⟩,
      ⟨(some 15), none, .mv (.tmp 0)⟩,
      ⟨(some 16), none, .ixA 1 (.tmp 15) (.const (.int .i64 0))⟩,
      ⟨(some 17), none, .ld (.tmp 16)⟩,
      ⟨(some 18), none, .callv (.tmp 14) [(.tmp 17)]⟩])
    (.prune [0, 1, 2] (.draw (.take 0 ⟨(some 19), none, .mv (.tmp 0)⟩ (.take 1 ⟨(some 20), none, .slc 1 (.tmp 19) (some (.const (.int .i64 1))) none⟩ (.take 2 ⟨(some 21), none, .mv (.tmp 1)⟩ (.take 3 ⟨(some 22), none, .slc 1 (.tmp 21) (some (.const (.int .i64 1))) none⟩ (.take 4 ⟨(some 0), none, .mv (.tmp 20)⟩ (.take 5 ⟨(some 1), none, .mv (.tmp 22)⟩ .done)))))))))))))))))))))
theorem ok31 : fits Try.prog 31 ⟨s31, 43, []⟩ = some ⟨s31, 43, []⟩ := by kernel_rfl
theorem go31 {args : List Value} {w : World} {R : Value → World → Prop} (hle : Nat.ble args.length 43 = true) (h : vc Try.prog 43 s31 (argEnv args 0) w (fun L w => resL L w [] fun vs => oneOr vs fun v => R v w) (fun _ _ _ => False) (fun L w => resL L w [] fun vs => oneOr vs fun v => R v w)) : Cal Try.prog 31 ⟨args⟩ w R := cal_of mo ok31 hle h

-- footbridge/align.Common$1
def s32 : S := (.row [⟨(some 3), none, .ld (.tmp 1)⟩,
   ⟨(some 4), none, .mv (.tmp 0)⟩,
   ⟨(some 5), none, .bsl 3 1 [(.int .i64 0)] [(0, 1)] [(.tmp 4)]⟩,
   ⟨(some 6), none, .run (.bi .append ⟨[22, 22]⟩ 22) [(.tmp 3), (.tmp 5)]⟩,
   ⟨none, none, .st (.tmp 1) (.tmp 6)⟩])
theorem ok32 : fits Try.prog 32 ⟨s32, 7, []⟩ = some ⟨s32, 7, []⟩ := by kernel_rfl
theorem go32 {args : List Value} {w : World} {R : Value → World → Prop} (hle : Nat.ble args.length 7 = true) (h : vc Try.prog 7 s32 (argEnv args 0) w (fun L w => resL L w [] fun vs => oneOr vs fun v => R v w) (fun _ _ _ => False) (fun L w => resL L w [] fun vs => oneOr vs fun v => R v w)) : Cal Try.prog 32 ⟨args⟩ w R := cal_of mo ok32 hle h

-- footbridge/footbridgeref24.ends
def s33 : S := (.seq (.row [⟨(some 2), none, .box 24 (.tmp 0)⟩,
   ⟨(some 4), none, .mv (.const (.bool false))⟩])
 (.prune [1, 2] (.seq (.row [⟨(some 8), none, .fad 1 (.tmp 2)⟩,
   ⟨(some 9), none, .ld (.tmp 8)⟩,
   ⟨(some 5), none, .mv (.tmp 9)⟩])
 (.prune [1, 2, 5] (.seq (.row [⟨(some 10), none, .mv (.tmp 5)⟩,
   ⟨(some 11), none, .mv (.tmp 1)⟩,
   ⟨(some 12), none, .ibin .eql .i64 (.tmp 10) (.tmp 11)⟩,
   ⟨(some 6), none, .mv (.tmp 12)⟩])
 (.prune [1, 6, 2, 5] (.seq (.seq (.row [⟨(some 13), none, .fad 2 (.tmp 2)⟩,
   ⟨(some 14), none, .ld (.tmp 13)⟩,
   ⟨(some 15), none, .lenA (.tmp 14)⟩,
   ⟨(some 16), none, .mv (.const (.int .i64 0))⟩])
 (.prune [16, 1, 6, 2, 5, 15] (.block 0 (.loop [5, 6, 16] [5, 6, 7, 16, 17, 18, 19, 20, 21, 22, 23, 24, 25, 26, 27, 28, 29, 30, 31, 32] (.seq (.row [⟨(some 17), none, .ibin .lss .i64 (.tmp 16) (.tmp 15)⟩])
  (.prune [17, 5, 6, 16, 1, 2, 15] (.seq (.cond (.tmp 17)
   .skip
   (.exit 0))
  (.prune [5, 6, 16, 1, 2, 15] (.seq (.block 1 (.seq (.row [⟨(some 18), none, .mv (.tmp 16)⟩,
    ⟨(some 7), none, .mv (.tmp 18)⟩])
  (.prune [5, 7, 6, 16, 1, 2, 15] (.seq (.row [⟨(some 19), none, .mv (.tmp 5)⟩,
    ⟨(some 20), none, .fad 2 (.tmp 2)⟩,
    ⟨(some 21), none, .ld (.tmp 20)⟩,
    ⟨(some 22), none, .mv (.tmp 7)⟩,
    ⟨(some 23), none, .ixA 1 (.tmp 21) (.tmp 22)⟩,
    ⟨(some 24), none, .ld (.tmp 23)⟩,
    ⟨(some 25), none, .ibin .add .i64 (.tmp 19) (.tmp 24)⟩,
    ⟨(some 5), none, .mv (.tmp 25)⟩])
  (.prune [6, 16, 1, 2, 5, 15] (.row [⟨(some 26), none, .mv (.tmp 6)⟩,
    ⟨(some 27), none, .mv (.tmp 26)⟩,
    ⟨(some 28), (some (27, false)), .mv (.tmp 5)⟩,
    ⟨(some 29), (some (27, false)), .mv (.tmp 1)⟩,
    ⟨(some 30), (some (27, false)), .ibin .eql .i64 (.tmp 28) (.tmp 29)⟩,
    ⟨(some 31), none, .pick (.tmp 27) (.const (.bool true)) (.tmp 30)⟩,
    ⟨(some 6), none, .mv (.tmp 31)⟩]))))))
  (.prune [16, 1, 6, 2, 5, 15] (.row [⟨(some 32), none, .ibin .add .i64 (.tmp 16) (.const (.int .i64 1))⟩,
    ⟨(some 16), none, .mv (.tmp 32)⟩])))))))))))
 (.prune [6] (.seq (.row [⟨(some 33), none, .mv (.tmp 6)⟩,
   ⟨(some 4), none, .mv (.tmp 33)⟩])
 (.prune [4] .ret))))))))))
theorem ok33 : fits Try.prog 33 ⟨s33, 34, [.tmp 4]⟩ = some ⟨s33, 34, [.tmp 4]⟩ := by kernel_rfl
theorem go33 {args : List Value} {w : World} {R : Value → World → Prop} (hle : Nat.ble args.length 34 = true) (h : vc Try.prog 34 s33 (argEnv args 0) w (fun L w => resL L w [.tmp 4] fun vs => oneOr vs fun v => R v w) (fun _ _ _ => False) (fun L w => resL L w [.tmp 4] fun vs => oneOr vs fun v => R v w)) : Cal Try.prog 33 ⟨args⟩ w R := cal_of mo ok33 hle h

-- sort.Search
def s34 : S := (.seq (.row [⟨(some 4), none, .mv (.const (.int .i64 0))⟩])
 (.prune [0, 1] (.seq (.row [⟨(some 8), none, .mv (.tmp 0)⟩,
   ⟨(some 5), none, .mv (.const (.int .i64 0))⟩,
   ⟨(some 6), none, .mv (.tmp 8)⟩])
 (.prune [1, 6, 5] (.seq (.block 0 (.loop [5, 6] [5, 6, 7, 9, 10, 11, 12, 13, 14, 15, 16, 17, 18, 19, 20, 21, 22, 23, 24] (.seq (.seq (.row [⟨(some 9), none, .mv (.tmp 5)⟩,
    ⟨(some 10), none, .mv (.tmp 6)⟩,
    ⟨(some 11), none, .ibin .lss .i64 (.tmp 9) (.tmp 10)⟩])
  (.prune [11, 5, 1, 6] (.cond (.tmp 11)
   .skip
   (.exit 0))))
  (.prune [5, 1, 6] (.block 1 (.seq (.row [⟨(some 12), none, .mv (.tmp 5)⟩,
    ⟨(some 13), none, .mv (.tmp 6)⟩,
    ⟨(some 14), none, .ibin .add .i64 (.tmp 12) (.tmp 13)⟩,
    ⟨(some 15), none, .conv .u64 (.tmp 14)⟩,
    ⟨(some 16), none, .ibin .shr .u64 (.tmp 15) (.const (.int .u64 1))⟩,
    ⟨(some 17), none, .conv .i64 (.tmp 16)⟩,
    ⟨(some 7), none, .mv (.tmp 17)⟩])
  (.prune [5, 7, 1, 6] (.seq (.row [⟨(some 18), none, .mv (.tmp 1)⟩,
    ⟨(some 19), none, .mv (.tmp 7)⟩,
    ⟨(some 20), none, .callv (.tmp 18) [(.tmp 19)]⟩,
    ⟨(some 21), none, .notB (.tmp 20)⟩])
  (.prune [21, 5, 7, 1, 6] (.cond (.tmp 21)
   (.row [⟨(some 22), none, .mv (.tmp 7)⟩,
     ⟨(some 23), none, .ibin .add .i64 (.tmp 22) (.const (.int .i64 1))⟩,
     ⟨(some 5), none, .mv (.tmp 23)⟩])
   (.row [⟨(some 24), none, .mv (.tmp 7)⟩,
     ⟨(some 6), none, .mv (.tmp 24)⟩])))))))))))
 (.prune [5] (.seq (.row [⟨(some 25), none, .mv (.tmp 5)⟩,
   ⟨(some 4), none, .mv (.tmp 25)⟩])
 (.prune [4] .ret))))))))
theorem ok34 : fits Try.prog 34 ⟨s34, 26, [.tmp 4]⟩ = some ⟨s34, 26, [.tmp 4]⟩ := by kernel_rfl
theorem go34 {args : List Value} {w : World} {R : Value → World → Prop} (hle : Nat.ble args.length 26 = true) (h : vc Try.prog 26 s34 (argEnv args 0) w (fun L w => resL L w [.tmp 4] fun vs => oneOr vs fun v => R v w) (fun _ _ _ => False) (fun L w => resL L w [.tmp 4] fun vs => oneOr vs fun v => R v w)) : Cal Try.prog 34 ⟨args⟩ w R := cal_of mo ok34 hle h

-- sort.SearchInts$1
def s35 : S := (.seq (.row [⟨(some 4), none, .mv (.const (.bool false))⟩])
 (.prune [1, 0, 2] (.seq (.draw (.take 0 ⟨(some 5), none, .ld (.tmp 1)⟩ (.take 1 ⟨(some 6), none, .mv (.tmp 0)⟩ (.take 2 ⟨(some 7), none, .ixA 1 (.tmp 5) (.tmp 6)⟩ (.take 3 ⟨(some 8), none, .ld (.tmp 7)⟩ (.take 4 ⟨(some 9), none, .ld (.tmp 2)⟩ (.take 5 ⟨(some 10), none, .ibin .geq .i64 (.tmp 8) (.tmp 9)⟩ (.take 6 ⟨(some 4), none, .mv (.tmp 10)⟩ .done))))))))
 (.prune [4] .ret))))
theorem ok35 : fits Try.prog 35 ⟨s35, 11, [.tmp 4]⟩ = some ⟨s35, 11, [.tmp 4]⟩ := by kernel_rfl
theorem go35 {args : List Value} {w : World} {R : Value → World → Prop} (hle : Nat.ble args.length 11 = true) (h : vc Try.prog 11 s35 (argEnv args 0) w (fun L w => resL L w [.tmp 4] fun vs => oneOr vs fun v => R v w) (fun _ _ _ => False) (fun L w => resL L w [.tmp 4] fun vs => oneOr vs fun v => R v w)) : Cal Try.prog 35 ⟨args⟩ w R := cal_of mo ok35 hle h

-- slices.IndexFunc[[]int,int]
def s36 : S := (.seq (.row [⟨(some 4), none, .mv (.const (.int .i64 0))⟩])
 (.prune [0, 1] (.seq (.seq (.row [⟨(some 6), none, .mv (.tmp 0)⟩,
   ⟨(some 7), none, .lenA (.tmp 6)⟩,
   ⟨(some 8), none, .mv (.const (.int .i64 0))⟩])
 (.prune [8, 0, 1, 7] (.block 0 (.loop [8] [4, 5, 8, 9, 10, 11, 12, 13, 14, 15, 16, 17, 18] (.seq (.row [⟨(some 9), none, .ibin .lss .i64 (.tmp 8) (.tmp 7)⟩])
  (.prune [9, 7, 1, 0, 8] (.seq (.cond (.tmp 9)
   .skip
   (.exit 0))
  (.prune [7, 1, 0, 8] (.seq (.block 1 (.seq (.row [⟨(some 10), none, .mv (.tmp 8)⟩,
    ⟨(some 5), none, .mv (.tmp 10)⟩])
  (.prune [7, 1, 0, 8, 5] (.seq (.row [⟨(some 11), none, .mv (.tmp 1)⟩,
    ⟨(some 12), none, .mv (.tmp 0)⟩,
    ⟨(some 13), none, .mv (.tmp 5)⟩,
    ⟨(some 14), none, .ixA 1 (.tmp 12) (.tmp 13)⟩,
    ⟨(some 15), none, .ld (.tmp 14)⟩,
    ⟨(some 16), none, .callv (.tmp 11) [(.tmp 15)]⟩])
  (.prune [16, 7, 1, 0, 8, 5] (.cond (.tmp 16)
   (.seq (.row [⟨(some 17), none, .mv (.tmp 5)⟩,
     ⟨(some 4), none, .mv (.tmp 17)⟩])
   (.prune [4] .ret))
   .skip))))))
  (.prune [8, 0, 1, 7] (.row [⟨(some 18), none, .ibin .add .i64 (.tmp 8) (.const (.int .i64 1))⟩,
    ⟨(some 8), none, .mv (.tmp 18)⟩])))))))))))
 (.prune [] (.seq (.row [⟨(some 4), none, .mv (.const (.int .i64 (-1)))⟩])
 (.prune [4] .ret))))))
theorem ok36 : fits Try.prog 36 ⟨s36, 19, [.tmp 4]⟩ = some ⟨s36, 19, [.tmp 4]⟩ := by kernel_rfl
theorem go36 {args : List Value} {w : World} {R : Value → World → Prop} (hle : Nat.ble args.length 19 = true) (h : vc Try.prog 19 s36 (argEnv args 0) w (fun L w => resL L w [.tmp 4] fun vs => oneOr vs fun v => R v w) (fun _ _ _ => False) (fun L w => resL L w [.tmp 4] fun vs => oneOr vs fun v => R v w)) : Cal Try.prog 36 ⟨args⟩ w R := cal_of mo ok36 hle h

end Fb.Try
