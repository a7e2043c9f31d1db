/-
  Made by a program of ours (wip/tools/slim.lean): the slim code of this claim's functions, each held against the model's code by one closed fact.
-/
import Derived.Test.YtalkcjehehljcaaVw
import Derived.Test.YtalkcjehehljcaaChecked
namespace Fb.Try
open Go Go.Proofs Fb

theorem mo : Try.prog.follows .mixedOrders = true := by kernel_rfl

-- footbridge/footbridgelaw27.CodecNumbers
def s3 : S := (.seq (.row [⟨(some 4), none, .mv (.const (.bool false))⟩])
 (.prune [1, 0] (.seq (.seq (.row [⟨(some 13), none, .mv (.tmp 1)⟩,
   ⟨(some 14), none, .lenA (.tmp 13)⟩,
   ⟨(some 15), none, .ibin .gtr .i64 (.tmp 14) (.const (.int .i64 100))⟩])
 (.prune [15, 1, 0] (.cond (.tmp 15)
  (.seq (.row [⟨(some 16), none, .call 10 []⟩,
    ⟨(some 4), none, .mv (.tmp 16)⟩])
  (.prune [4] .ret))
  .skip)))
 (.prune [0, 1] (.seq (.row [⟨(some 17), none, .mv (.tmp 0)⟩,
   ⟨(some 18), none, .call 11 [(.tmp 17)]⟩,
   ⟨(some 5), none, .mv (.tmp 18)⟩])
 (.prune [0, 5, 1] (.seq (.row [⟨(some 20), none, .bsl 5 0 [] [] []⟩,
   ⟨(some 21), none, .mv (.tmp 5)⟩,
   ⟨(some 22), none, .run (.bi .append ⟨[22, 22]⟩ 22) [(.tmp 20), (.tmp 21)]⟩,
   ⟨(some 23), none, .mv (.tmp 1)⟩,
   ⟨(some 24), none, .run (.bi .append ⟨[22, 22]⟩ 22) [(.tmp 22), (.tmp 23)]⟩,
   ⟨(some 25), none, .call 12 [(.tmp 24)]⟩,
   ⟨(some 19), none, .mv (.tmp 25)⟩,
   ⟨(some 26), none, .ext (.tmp 19) 0⟩,
   ⟨(some 27), none, .ext (.tmp 19) 1⟩,
   ⟨(some 28), none, .ext (.tmp 19) 2⟩,
   ⟨(some 6), none, .mv (.tmp 26)⟩,
   ⟨(some 7), none, .mv (.tmp 27)⟩,
   ⟨(some 8), none, .mv (.tmp 28)⟩])
 (.prune [8, 6, 0, 7, 5, 1] (.seq (.row [⟨(some 30), none, .mv (.tmp 1)⟩,
   ⟨(some 31), none, .call 12 [(.tmp 30)]⟩,
   ⟨(some 29), none, .mv (.tmp 31)⟩,
   ⟨(some 32), none, .ext (.tmp 29) 0⟩,
   ⟨(some 33), none, .ext (.tmp 29) 1⟩,
   ⟨(some 34), none, .ext (.tmp 29) 2⟩,
   ⟨(some 9), none, .mv (.tmp 32)⟩,
   ⟨(some 10), none, .mv (.tmp 33)⟩,
   ⟨(some 11), none, .mv (.tmp 34)⟩])
 (.prune [8, 6, 0, 7, 5, 11, 9, 10, 1] (.seq (.row [⟨(some 35), none, .mv (.tmp 1)⟩,
   ⟨(some 36), none, .get (.conv 22 9) [(.tmp 35)]⟩,
   ⟨(some 37), none, .call 13 [(.tmp 36)]⟩,
   ⟨(some 12), none, .new [(.int .i64 0), (.string ⟨#[]⟩), (.bool false)] 28⟩,
   ⟨none, none, .stn 3 (.tmp 12) (.tmp 37)⟩])
 (.prune [8, 6, 0, 7, 5, 11, 9, 10, 1, 12] (.seq (.seq (.row [⟨(some 38), none, .fad 2 (.tmp 12)⟩,
   ⟨(some 39), none, .ld (.tmp 38)⟩,
   ⟨(some 40), none, .notB (.tmp 39)⟩])
 (.prune [40, 8, 6, 0, 7, 5, 11, 9, 10, 1, 12] (.cond (.tmp 40)
  (.row [⟨(some 41), none, .mv (.tmp 1)⟩,
    ⟨(some 42), none, .get (.conv 22 9) [(.tmp 41)]⟩,
    ⟨(some 43), none, .bld [(.int .i64 0), (.string ⟨#[]⟩), (.bool false)] [(1, 1)] [(.tmp 42)]⟩,
    ⟨none, none, .stn 3 (.tmp 12) (.tmp 43)⟩])
  .skip)))
 (.prune [8, 6, 0, 7, 5, 11, 9, 10, 1, 12] (.seq (.draw (.step 0 true ⟨(some 44), none, .call 10 []⟩ (.take 1 ⟨(some 45), none, .mv (.tmp 44)⟩ (.take 2 ⟨(some 46), (some (45, true)), .mv (.tmp 5)⟩ (.take 3 ⟨(some 47), (some (45, true)), .get (.conv 22 9) [(.tmp 46)]⟩ (.take 4 ⟨(some 48), (some (45, true)), .mv (.tmp 0)⟩ (.step 5 true ⟨(some 49), (some (45, true)), .call 14 [(.tmp 48)]⟩ (.take 6 ⟨(some 50), (some (45, true)), .sbin .eql (.tmp 47) (.tmp 49)⟩ (.take 7 ⟨(some 51), none, .pick (.tmp 45) (.tmp 50) (.const (.bool false))⟩ (.take 8 ⟨(some 52), none, .mv (.tmp 51)⟩ (.take 9 ⟨(some 53), (some (52, true)), .mv (.tmp 8)⟩ (.take 10 ⟨(some 54), none, .pick (.tmp 52) (.tmp 53) (.const (.bool false))⟩ (.take 11 ⟨(some 55), none, .mv (.tmp 54)⟩ (.take 12 ⟨(some 56), (some (55, true)), .mv (.tmp 6)⟩ (.take 13 ⟨(some 57), (some (55, true)), .mv (.tmp 0)⟩ (.take 14 ⟨(some 58), (some (55, true)), .ibin .eql .i64 (.tmp 56) (.tmp 57)⟩ (.take 15 ⟨(some 59), none, .pick (.tmp 55) (.tmp 58) (.const (.bool false))⟩ (.take 16 ⟨(some 60), none, .mv (.tmp 59)⟩ (.take 17 ⟨(some 61), (some (60, true)), .mv (.tmp 7)⟩ (.take 18 ⟨(some 62), (some (60, true)), .mv (.tmp 5)⟩ (.take 19 ⟨(some 63), (some (60, true)), .lenA (.tmp 62)⟩ (.take 20 ⟨(some 64), (some (60, true)), .ibin .eql .i64 (.tmp 61) (.tmp 63)⟩ (.take 21 ⟨(some 65), none, .pick (.tmp 60) (.tmp 64) (.const (.bool false))⟩ (.take 22 ⟨(some 66), none, .mv (.tmp 65)⟩ (.take 23 ⟨(some 67), (some (66, true)), .mv (.tmp 11)⟩ (.take 24 ⟨(some 68), (some (66, true)), .fad 2 (.tmp 12)⟩ (.take 25 ⟨(some 69), (some (66, true)), .ld (.tmp 68)⟩ (.take 26 ⟨(some 70), (some (66, true)), .bbin false (.tmp 67) (.tmp 69)⟩ (.take 27 ⟨(some 71), none, .pick (.tmp 66) (.tmp 70) (.const (.bool false))⟩ (.take 28 ⟨(some 72), none, .mv (.tmp 71)⟩ (.take 29 ⟨(some 73), (some (72, true)), .mv (.tmp 9)⟩ (.take 30 ⟨(some 74), (some (72, true)), .fad 0 (.tmp 12)⟩ (.take 31 ⟨(some 75), (some (72, true)), .ld (.tmp 74)⟩ (.take 32 ⟨(some 76), (some (72, true)), .ibin .eql .i64 (.tmp 73) (.tmp 75)⟩ (.take 33 ⟨(some 77), none, .pick (.tmp 72) (.tmp 76) (.const (.bool false))⟩ (.take 34 ⟨(some 78), none, .mv (.tmp 77)⟩ (.take 35 ⟨(some 79), (some (78, true)), .mv (.tmp 10)⟩ (.take 36 ⟨(some 80), (some (78, true)), .mv (.tmp 1)⟩ (.take 37 ⟨(some 81), (some (78, true)), .lenA (.tmp 80)⟩ (.take 38 ⟨(some 82), (some (78, true)), .fad 1 (.tmp 12)⟩ (.take 39 ⟨(some 83), (some (78, true)), .ld (.tmp 82)⟩ (.take 40 ⟨(some 84), (some (78, true)), .lenS (.tmp 83)⟩ (.take 41 ⟨(some 85), (some (78, true)), .ibin .sub .i64 (.tmp 81) (.tmp 84)⟩ (.take 42 ⟨(some 86), (some (78, true)), .ibin .eql .i64 (.tmp 79) (.tmp 85)⟩ (.take 43 ⟨(some 87), none, .pick (.tmp 78) (.tmp 86) (.const (.bool false))⟩ (.take 44 ⟨(some 4), none, .mv (.tmp 87)⟩ .done))))))))))))))))))))))))))))))))))))))))))))))
 (.prune [4] .ret))))))))))))))))
theorem ok3 : fits Try.prog 3 ⟨s3, 88, [.tmp 4]⟩ = some ⟨s3, 88, [.tmp 4]⟩ := by kernel_rfl
theorem go3 {args : List Value} {w : World} {R : Value → World → Prop} (hle : Nat.ble args.length 88 = true) (h : vc Try.prog 88 s3 (argEnv args 0) w (fun L w => resL L w [.tmp 4] fun vs => oneOr vs fun v => R v w) (fun _ _ _ => False) (fun L w => resL L w [.tmp 4] fun vs => oneOr vs fun v => R v w)) : Cal Try.prog 3 ⟨args⟩ w R := cal_of mo ok3 hle h

-- footbridge/footbridgelaw27.CodecEvents
def s4 : S := (.seq (.row [⟨(some 1), none, .box 36 (.tmp 0)⟩,
   ⟨(some 2), none, .mv (.const (.bool false))⟩])
 (.prune [1] (.seq (.seq (.row [⟨(some 7), none, .fad 3 (.tmp 1)⟩,
   ⟨(some 8), none, .ld (.tmp 7)⟩,
   ⟨(some 9), none, .fad 4 (.tmp 1)⟩,
   ⟨(some 10), none, .ld (.tmp 9)⟩,
   ⟨(some 11), none, .bsl 34 2 [(.slice none 0 0), (.slice none 0 0)] [(0, 1), (1, 1)] [(.tmp 8), (.tmp 10)]⟩,
   ⟨(some 12), none, .call 15 [(.tmp 11)]⟩])
 (.prune [12, 1] (.cond (.tmp 12)
  (.seq (.row [⟨(some 13), none, .call 10 []⟩,
    ⟨(some 2), none, .mv (.tmp 13)⟩])
  (.prune [2] .ret))
  .skip)))
 (.prune [1] (.seq (.row [⟨(some 15), none, .ldn 7 (.tmp 1)⟩,
   ⟨(some 16), none, .call 16 [(.tmp 15)]⟩,
   ⟨(some 14), none, .mv (.tmp 16)⟩,
   ⟨(some 17), none, .ext (.tmp 14) 0⟩,
   ⟨(some 18), none, .ext (.tmp 14) 1⟩,
   ⟨(some 3), none, .mv (.tmp 17)⟩,
   ⟨(some 4), none, .mv (.tmp 18)⟩])
 (.prune [4, 3, 1] (.seq (.row [⟨(some 20), none, .mv (.tmp 3)⟩,
   ⟨(some 21), none, .call 17 [(.tmp 20)]⟩,
   ⟨(some 19), none, .mv (.tmp 21)⟩,
   ⟨(some 22), none, .ext (.tmp 19) 0⟩,
   ⟨(some 23), none, .ext (.tmp 19) 1⟩,
   ⟨(some 5), none, .new [(.int .i64 0), (.int .i64 0), (.int .i64 0), (.slice none 0 0), (.slice none 0 0), (.int .i64 0), (.int .i64 0)] 36⟩,
   ⟨none, none, .stn 7 (.tmp 5) (.tmp 22)⟩,
   ⟨(some 6), none, .mv (.tmp 23)⟩])
 (.prune [4, 3, 6, 5, 1] (.seq (.draw (.step 0 true ⟨(some 24), none, .call 10 []⟩ (.take 1 ⟨(some 25), none, .mv (.tmp 24)⟩ (.take 2 ⟨(some 26), (some (25, true)), .mv (.tmp 4)⟩ (.take 3 ⟨(some 27), none, .pick (.tmp 25) (.tmp 26) (.const (.bool false))⟩ (.take 4 ⟨(some 28), none, .mv (.tmp 27)⟩ (.take 5 ⟨(some 29), (some (28, true)), .mv (.tmp 3)⟩ (.take 6 ⟨(some 30), (some (28, true)), .get (.conv 22 9) [(.tmp 29)]⟩ (.take 7 ⟨(some 31), (some (28, true)), .ldn 7 (.tmp 1)⟩ (.step 8 true ⟨(some 32), (some (28, true)), .call 18 [(.tmp 31)]⟩ (.take 9 ⟨(some 33), (some (28, true)), .sbin .eql (.tmp 30) (.tmp 32)⟩ (.take 10 ⟨(some 34), none, .pick (.tmp 28) (.tmp 33) (.const (.bool false))⟩ (.take 11 ⟨(some 35), none, .mv (.tmp 34)⟩ (.take 12 ⟨(some 36), (some (35, true)), .mv (.tmp 6)⟩ (.take 13 ⟨(some 37), none, .pick (.tmp 35) (.tmp 36) (.const (.bool false))⟩ (.take 14 ⟨(some 38), none, .mv (.tmp 37)⟩ (.take 15 ⟨(some 39), (some (38, true)), .ldn 7 (.tmp 5)⟩ (.take 16 ⟨(some 40), (some (38, true)), .ldn 7 (.tmp 1)⟩ (.step 17 true ⟨(some 41), (some (38, true)), .call 19 [(.tmp 39), (.tmp 40)]⟩ (.take 18 ⟨(some 42), none, .pick (.tmp 38) (.tmp 41) (.const (.bool false))⟩ (.take 19 ⟨(some 2), none, .mv (.tmp 42)⟩ .done)))))))))))))))))))))
 (.prune [2] .ret))))))))))
theorem ok4 : fits Try.prog 4 ⟨s4, 43, [.tmp 2]⟩ = some ⟨s4, 43, [.tmp 2]⟩ := by kernel_rfl
theorem go4 {args : List Value} {w : World} {R : Value → World → Prop} (hle : Nat.ble args.length 43 = true) (h : vc Try.prog 43 s4 (argEnv args 0) w (fun L w => resL L w [.tmp 2] fun vs => oneOr vs fun v => R v w) (fun _ _ _ => False) (fun L w => resL L w [.tmp 2] fun vs => oneOr vs fun v => R v w)) : Cal Try.prog 4 ⟨args⟩ w R := cal_of mo ok4 hle h

-- footbridge/footbridgelaw27.CodecApart
def s5 : S := (.seq (.row [⟨(some 4), none, .box 36 (.tmp 0)⟩,
   ⟨(some 5), none, .box 36 (.tmp 1)⟩,
   ⟨(some 6), none, .box 49 (.tmp 2)⟩,
   ⟨(some 7), none, .box 49 (.tmp 3)⟩,
   ⟨(some 8), none, .mv (.const (.bool false))⟩])
 (.prune [7, 6, 5, 4] (.seq (.seq (.row [⟨(some 17), none, .fad 3 (.tmp 4)⟩,
   ⟨(some 18), none, .ld (.tmp 17)⟩,
   ⟨(some 19), none, .fad 4 (.tmp 4)⟩,
   ⟨(some 20), none, .ld (.tmp 19)⟩,
   ⟨(some 21), none, .fad 3 (.tmp 5)⟩,
   ⟨(some 22), none, .ld (.tmp 21)⟩,
   ⟨(some 23), none, .fad 4 (.tmp 5)⟩,
   ⟨(some 24), none, .ld (.tmp 23)⟩,
   ⟨(some 25), none, .bsl 34 4 [(.slice none 0 0), (.slice none 0 0), (.slice none 0 0), (.slice none 0 0)] [(0, 1), (1, 1), (2, 1), (3, 1)] [(.tmp 18), (.tmp 20), (.tmp 22), (.tmp 24)]⟩,
   ⟨(some 26), none, .call 15 [(.tmp 25)]⟩,
   ⟨(some 27), none, .mv (.tmp 26)⟩,
   ⟨(some 28), (some (27, false)), .ldn 14 (.tmp 6)⟩,
   ⟨(some 29), (some (27, false)), .call 20 [(.tmp 28)]⟩,
   ⟨(some 30), none, .pick (.tmp 27) (.const (.bool true)) (.tmp 29)⟩,
   ⟨(some 31), none, .mv (.tmp 30)⟩,
   ⟨(some 32), (some (31, false)), .ldn 14 (.tmp 7)⟩,
   ⟨(some 33), (some (31, false)), .call 20 [(.tmp 32)]⟩,
   ⟨(some 34), none, .pick (.tmp 31) (.const (.bool true)) (.tmp 33)⟩])
 (.prune [34, 7, 6, 5, 4] (.cond (.tmp 34)
  (.seq (.row [⟨(some 35), none, .call 10 []⟩,
    ⟨(some 8), none, .mv (.tmp 35)⟩])
  (.prune [8] .ret))
  .skip)))
 (.prune [4, 5, 6, 7] (.seq (.row [⟨(some 37), none, .ldn 7 (.tmp 4)⟩,
   ⟨(some 38), none, .call 16 [(.tmp 37)]⟩,
   ⟨(some 36), none, .mv (.tmp 38)⟩,
   ⟨(some 39), none, .ext (.tmp 36) 0⟩,
   ⟨(some 40), none, .ext (.tmp 36) 1⟩,
   ⟨(some 9), none, .mv (.tmp 39)⟩,
   ⟨(some 10), none, .mv (.tmp 40)⟩])
 (.prune [9, 4, 5, 6, 7] (.seq (.row [⟨(some 42), none, .ldn 7 (.tmp 5)⟩,
   ⟨(some 43), none, .call 16 [(.tmp 42)]⟩,
   ⟨(some 41), none, .mv (.tmp 43)⟩,
   ⟨(some 44), none, .ext (.tmp 41) 0⟩,
   ⟨(some 45), none, .ext (.tmp 41) 1⟩,
   ⟨(some 11), none, .mv (.tmp 44)⟩,
   ⟨(some 12), none, .mv (.tmp 45)⟩])
 (.prune [9, 11, 4, 5, 6, 7] (.seq (.row [⟨(some 47), none, .ldn 14 (.tmp 6)⟩,
   ⟨(some 48), none, .call 21 [(.tmp 47)]⟩,
   ⟨(some 46), none, .mv (.tmp 48)⟩,
   ⟨(some 49), none, .ext (.tmp 46) 0⟩,
   ⟨(some 50), none, .ext (.tmp 46) 1⟩,
   ⟨(some 13), none, .mv (.tmp 49)⟩,
   ⟨(some 14), none, .mv (.tmp 50)⟩])
 (.prune [9, 11, 4, 5, 13, 6, 7] (.seq (.row [⟨(some 52), none, .ldn 14 (.tmp 7)⟩,
   ⟨(some 53), none, .call 21 [(.tmp 52)]⟩,
   ⟨(some 51), none, .mv (.tmp 53)⟩,
   ⟨(some 54), none, .ext (.tmp 51) 0⟩,
   ⟨(some 55), none, .ext (.tmp 51) 1⟩,
   ⟨(some 15), none, .mv (.tmp 54)⟩,
   ⟨(some 16), none, .mv (.tmp 55)⟩])
 (.prune [9, 11, 4, 5, 13, 15, 6, 7] (.seq (.draw (.step 0 true ⟨(some 56), none, .call 10 []⟩ (.take 1 ⟨(some 57), none, .mv (.tmp 56)⟩ (.take 2 ⟨(some 58), (some (57, true)), .mv (.tmp 9)⟩ (.take 3 ⟨(some 59), (some (57, true)), .get (.conv 22 9) [(.tmp 58)]⟩ (.take 4 ⟨(some 60), (some (57, true)), .mv (.tmp 11)⟩ (.take 5 ⟨(some 61), (some (57, true)), .get (.conv 22 9) [(.tmp 60)]⟩ (.take 6 ⟨(some 62), (some (57, true)), .sbin .eql (.tmp 59) (.tmp 61)⟩ (.take 7 ⟨(some 63), (some (57, true)), .ldn 7 (.tmp 4)⟩ (.take 8 ⟨(some 64), (some (57, true)), .ldn 7 (.tmp 5)⟩ (.step 9 true ⟨(some 65), (some (57, true)), .call 19 [(.tmp 63), (.tmp 64)]⟩ (.take 10 ⟨(some 66), (some (57, true)), .bbin false (.tmp 62) (.tmp 65)⟩ (.take 11 ⟨(some 67), none, .pick (.tmp 57) (.tmp 66) (.const (.bool false))⟩ (.take 12 ⟨(some 68), none, .mv (.tmp 67)⟩ (.take 13 ⟨(some 69), (some (68, true)), .mv (.tmp 13)⟩ (.take 14 ⟨(some 70), (some (68, true)), .get (.conv 22 9) [(.tmp 69)]⟩ (.take 15 ⟨(some 71), (some (68, true)), .mv (.tmp 15)⟩ (.take 16 ⟨(some 72), (some (68, true)), .get (.conv 22 9) [(.tmp 71)]⟩ (.take 17 ⟨(some 73), (some (68, true)), .sbin .eql (.tmp 70) (.tmp 72)⟩ (.take 18 ⟨(some 74), (some (68, true)), .ldn 14 (.tmp 6)⟩ (.take 19 ⟨(some 75), (some (68, true)), .ldn 14 (.tmp 7)⟩ (.step 20 true ⟨(some 76), (some (68, true)), .call 22 [(.tmp 74), (.tmp 75)]⟩ (.take 21 ⟨(some 77), (some (68, true)), .bbin false (.tmp 73) (.tmp 76)⟩ (.take 22 ⟨(some 78), none, .pick (.tmp 68) (.tmp 77) (.const (.bool false))⟩ (.take 23 ⟨(some 8), none, .mv (.tmp 78)⟩ .done)))))))))))))))))))))))))
 (.prune [8] .ret))))))))))))))
theorem ok5 : fits Try.prog 5 ⟨s5, 79, [.tmp 8]⟩ = some ⟨s5, 79, [.tmp 8]⟩ := by kernel_rfl
theorem go5 {args : List Value} {w : World} {R : Value → World → Prop} (hle : Nat.ble args.length 79 = true) (h : vc Try.prog 79 s5 (argEnv args 0) w (fun L w => resL L w [.tmp 8] fun vs => oneOr vs fun v => R v w) (fun _ _ _ => False) (fun L w => resL L w [.tmp 8] fun vs => oneOr vs fun v => R v w)) : Cal Try.prog 5 ⟨args⟩ w R := cal_of mo ok5 hle h

-- footbridge/footbridgelaw27.CodecLong
def s6 : S := (.seq (.row [⟨(some 2), none, .mv (.const (.bool false))⟩])
 (.prune [0] (.seq (.row [⟨(some 10), none, .mv (.tmp 0)⟩,
   ⟨(some 11), none, .ibin .rem .u32 (.tmp 10) (.const (.int .u32 70000))⟩,
   ⟨(some 12), none, .conv .i64 (.tmp 11)⟩,
   ⟨(some 3), none, .mv (.tmp 12)⟩])
 (.prune [3] (.seq (.row [⟨(some 13), none, .mv (.tmp 3)⟩,
   ⟨(some 14), none, .run (.makeSlice 34) [(.tmp 13), (.tmp 13)]⟩,
   ⟨(some 4), none, .mv (.tmp 14)⟩])
 (.prune [4, 3] (.seq (.row [⟨(some 16), none, .mv (.tmp 4)⟩,
   ⟨(some 17), none, .bld [(.int .i64 0), (.int .i64 0), (.int .i64 0), (.slice none 0 0), (.slice none 0 0), (.int .i64 0), (.int .i64 0)] [(4, 1)] [(.tmp 16)]⟩,
   ⟨(some 18), none, .call 16 [(.tmp 17)]⟩,
   ⟨(some 15), none, .mv (.tmp 18)⟩,
   ⟨(some 19), none, .ext (.tmp 15) 0⟩,
   ⟨(some 20), none, .ext (.tmp 15) 1⟩,
   ⟨(some 5), none, .mv (.tmp 19)⟩,
   ⟨(some 6), none, .mv (.tmp 20)⟩])
 (.prune [4, 3, 6, 5] (.seq (.row [⟨(some 22), none, .mv (.tmp 4)⟩,
   ⟨(some 23), none, .bld [(.int .i64 0), (.int .i64 0), (.int .i64 0), (.int .i64 0), (.slice none 0 0), (.int .i64 0), (.slice none 0 0), (.int .i64 0), (.int .i64 0), (.int .i64 0), (.slice none 0 0), (.int .i64 0), (.int .i64 0), (.slice none 0 0)] [(13, 1)] [(.tmp 22)]⟩,
   ⟨(some 24), none, .call 21 [(.tmp 23)]⟩,
   ⟨(some 21), none, .mv (.tmp 24)⟩,
   ⟨(some 25), none, .ext (.tmp 21) 0⟩,
   ⟨(some 26), none, .ext (.tmp 21) 1⟩,
   ⟨(some 7), none, .mv (.tmp 25)⟩,
   ⟨(some 8), none, .mv (.tmp 26)⟩])
 (.prune [3, 6, 5, 8, 7] (.seq (.row [⟨(some 27), none, .mv (.tmp 3)⟩,
   ⟨(some 28), none, .call 11 [(.tmp 27)]⟩,
   ⟨(some 29), none, .lenA (.tmp 28)⟩,
   ⟨(some 30), none, .mv (.tmp 3)⟩,
   ⟨(some 31), none, .ibin .add .i64 (.tmp 29) (.tmp 30)⟩,
   ⟨(some 9), none, .mv (.tmp 31)⟩])
 (.prune [6, 5, 9, 8, 7] (.seq (.row [⟨(some 32), none, .call 10 []⟩,
   ⟨(some 33), none, .mv (.tmp 32)⟩,
   ⟨(some 34), (some (33, true)), .mv (.tmp 6)⟩,
   ⟨(some 35), (some (33, true)), .mv (.tmp 9)⟩,
   ⟨(some 36), (some (33, true)), .ibin .add .i64 (.const (.int .i64 6)) (.tmp 35)⟩,
   ⟨(some 37), (some (33, true)), .ibin .leq .i64 (.tmp 36) (.const (.int .i64 65536))⟩,
   ⟨(some 38), (some (33, true)), .bbin false (.tmp 34) (.tmp 37)⟩,
   ⟨(some 39), none, .pick (.tmp 33) (.tmp 38) (.const (.bool false))⟩,
   ⟨(some 40), none, .mv (.tmp 39)⟩,
   ⟨(some 41), (some (40, true)), .mv (.tmp 8)⟩,
   ⟨(some 42), (some (40, true)), .mv (.tmp 9)⟩,
   ⟨(some 43), (some (40, true)), .ibin .add .i64 (.const (.int .i64 13)) (.tmp 42)⟩,
   ⟨(some 44), (some (40, true)), .ibin .leq .i64 (.tmp 43) (.const (.int .i64 65536))⟩,
   ⟨(some 45), (some (40, true)), .bbin false (.tmp 41) (.tmp 44)⟩,
   ⟨(some 46), none, .pick (.tmp 40) (.tmp 45) (.const (.bool false))⟩,
   ⟨(some 47), none, .mv (.tmp 46)⟩,
   ⟨(some 48), (some (47, true)), .mv (.tmp 6)⟩,
   ⟨(some 49), (some (47, true)), .mv (.tmp 48)⟩,
   ⟨(some 50), (some (49, true)), .mv (.tmp 5)⟩,
   ⟨(some 51), (some (49, true)), .lenA (.tmp 50)⟩,
   ⟨(some 52), (some (49, true)), .mv (.tmp 9)⟩,
   ⟨(some 53), (some (49, true)), .ibin .add .i64 (.const (.int .i64 6)) (.tmp 52)⟩,
   ⟨(some 54), (some (49, true)), .ibin .eql .i64 (.tmp 51) (.tmp 53)⟩,
   ⟨(some 55), (some (47, true)), .pick (.tmp 49) (.tmp 54) (.const (.bool false))⟩,
   ⟨(some 56), (some (47, true)), .mv (.tmp 55)⟩,
   ⟨(some 57), (some (56, false)), .mv (.tmp 6)⟩,
   ⟨(some 58), (some (56, false)), .notB (.tmp 57)⟩,
   ⟨(some 59), (some (56, false)), .mv (.tmp 58)⟩,
   ⟨(some 60), (some (59, true)), .mv (.tmp 5)⟩,
   ⟨(some 61), (some (59, true)), .lenA (.tmp 60)⟩,
   ⟨(some 62), (some (59, true)), .ibin .eql .i64 (.tmp 61) (.const (.int .i64 0))⟩,
   ⟨(some 63), (some (56, false)), .pick (.tmp 59) (.tmp 62) (.const (.bool false))⟩,
   ⟨(some 64), (some (47, true)), .pick (.tmp 56) (.const (.bool true)) (.tmp 63)⟩,
   ⟨(some 65), none, .pick (.tmp 47) (.tmp 64) (.const (.bool false))⟩,
   ⟨(some 66), none, .mv (.tmp 65)⟩,
   ⟨(some 67), (some (66, true)), .mv (.tmp 8)⟩,
   ⟨(some 68), (some (66, true)), .mv (.tmp 67)⟩,
   ⟨(some 69), (some (68, true)), .mv (.tmp 7)⟩,
   ⟨(some 70), (some (68, true)), .lenA (.tmp 69)⟩,
   ⟨(some 71), (some (68, true)), .mv (.tmp 9)⟩,
   ⟨(some 72), (some (68, true)), .ibin .add .i64 (.const (.int .i64 13)) (.tmp 71)⟩,
   ⟨(some 73), (some (68, true)), .ibin .eql .i64 (.tmp 70) (.tmp 72)⟩,
   ⟨(some 74), (some (66, true)), .pick (.tmp 68) (.tmp 73) (.const (.bool false))⟩,
   ⟨(some 75), (some (66, true)), .mv (.tmp 74)⟩,
   ⟨(some 76), (some (75, false)), .mv (.tmp 8)⟩,
   ⟨(some 77), (some (75, false)), .notB (.tmp 76)⟩,
   ⟨(some 78), (some (75, false)), .mv (.tmp 77)⟩,
   ⟨(some 79), (some (78, true)), .mv (.tmp 7)⟩,
   ⟨(some 80), (some (78, true)), .lenA (.tmp 79)⟩,
   ⟨(some 81), (some (78, true)), .ibin .eql .i64 (.tmp 80) (.const (.int .i64 0))⟩,
   ⟨(some 82), (some (75, false)), .pick (.tmp 78) (.tmp 81) (.const (.bool false))⟩,
   ⟨(some 83), (some (66, true)), .pick (.tmp 75) (.const (.bool true)) (.tmp 82)⟩,
   ⟨(some 84), none, .pick (.tmp 66) (.tmp 83) (.const (.bool false))⟩,
   ⟨(some 2), none, .mv (.tmp 84)⟩])
 (.prune [2] .ret))))))))))))))
theorem ok6 : fits Try.prog 6 ⟨s6, 85, [.tmp 2]⟩ = some ⟨s6, 85, [.tmp 2]⟩ := by kernel_rfl
theorem go6 {args : List Value} {w : World} {R : Value → World → Prop} (hle : Nat.ble args.length 85 = true) (h : vc Try.prog 85 s6 (argEnv args 0) w (fun L w => resL L w [.tmp 2] fun vs => oneOr vs fun v => R v w) (fun _ _ _ => False) (fun L w => resL L w [.tmp 2] fun vs => oneOr vs fun v => R v w)) : Cal Try.prog 6 ⟨args⟩ w R := cal_of mo ok6 hle h

-- footbridge/footbridgelaw27.CodecReplies
def s7 : S := (.seq (.row [⟨(some 1), none, .box 49 (.tmp 0)⟩,
   ⟨(some 2), none, .mv (.const (.bool false))⟩])
 (.prune [1] (.seq (.seq (.row [⟨(some 7), none, .ldn 14 (.tmp 1)⟩,
   ⟨(some 8), none, .call 20 [(.tmp 7)]⟩])
 (.prune [8, 1] (.cond (.tmp 8)
  (.seq (.row [⟨(some 9), none, .call 10 []⟩,
    ⟨(some 2), none, .mv (.tmp 9)⟩])
  (.prune [2] .ret))
  .skip)))
 (.prune [1] (.seq (.row [⟨(some 11), none, .ldn 14 (.tmp 1)⟩,
   ⟨(some 12), none, .call 21 [(.tmp 11)]⟩,
   ⟨(some 10), none, .mv (.tmp 12)⟩,
   ⟨(some 13), none, .ext (.tmp 10) 0⟩,
   ⟨(some 14), none, .ext (.tmp 10) 1⟩,
   ⟨(some 3), none, .mv (.tmp 13)⟩,
   ⟨(some 4), none, .mv (.tmp 14)⟩])
 (.prune [4, 3, 1] (.seq (.row [⟨(some 16), none, .mv (.tmp 3)⟩,
   ⟨(some 17), none, .call 23 [(.tmp 16)]⟩,
   ⟨(some 15), none, .mv (.tmp 17)⟩,
   ⟨(some 18), none, .ext (.tmp 15) 0⟩,
   ⟨(some 19), none, .ext (.tmp 15) 1⟩,
   ⟨(some 5), none, .new [(.int .i64 0), (.int .i64 0), (.int .i64 0), (.int .i64 0), (.slice none 0 0), (.int .i64 0), (.slice none 0 0), (.int .i64 0), (.int .i64 0), (.int .i64 0), (.slice none 0 0), (.int .i64 0), (.int .i64 0), (.slice none 0 0)] 49⟩,
   ⟨none, none, .stn 14 (.tmp 5) (.tmp 18)⟩,
   ⟨(some 6), none, .mv (.tmp 19)⟩])
 (.prune [4, 3, 6, 5, 1] (.seq (.draw (.step 0 true ⟨(some 20), none, .call 10 []⟩ (.take 1 ⟨(some 21), none, .mv (.tmp 20)⟩ (.take 2 ⟨(some 22), (some (21, true)), .mv (.tmp 4)⟩ (.take 3 ⟨(some 23), none, .pick (.tmp 21) (.tmp 22) (.const (.bool false))⟩ (.take 4 ⟨(some 24), none, .mv (.tmp 23)⟩ (.take 5 ⟨(some 25), (some (24, true)), .mv (.tmp 3)⟩ (.take 6 ⟨(some 26), (some (24, true)), .get (.conv 22 9) [(.tmp 25)]⟩ (.take 7 ⟨(some 27), (some (24, true)), .ldn 14 (.tmp 1)⟩ (.step 8 true ⟨(some 28), (some (24, true)), .call 24 [(.tmp 27)]⟩ (.take 9 ⟨(some 29), (some (24, true)), .sbin .eql (.tmp 26) (.tmp 28)⟩ (.take 10 ⟨(some 30), none, .pick (.tmp 24) (.tmp 29) (.const (.bool false))⟩ (.take 11 ⟨(some 31), none, .mv (.tmp 30)⟩ (.take 12 ⟨(some 32), (some (31, true)), .mv (.tmp 6)⟩ (.take 13 ⟨(some 33), none, .pick (.tmp 31) (.tmp 32) (.const (.bool false))⟩ (.take 14 ⟨(some 34), none, .mv (.tmp 33)⟩ (.take 15 ⟨(some 35), (some (34, true)), .ldn 14 (.tmp 5)⟩ (.take 16 ⟨(some 36), (some (34, true)), .ldn 14 (.tmp 1)⟩ (.step 17 true ⟨(some 37), (some (34, true)), .call 22 [(.tmp 35), (.tmp 36)]⟩ (.take 18 ⟨(some 38), none, .pick (.tmp 34) (.tmp 37) (.const (.bool false))⟩ (.take 19 ⟨(some 2), none, .mv (.tmp 38)⟩ .done)))))))))))))))))))))
 (.prune [2] .ret))))))))))
theorem ok7 : fits Try.prog 7 ⟨s7, 39, [.tmp 2]⟩ = some ⟨s7, 39, [.tmp 2]⟩ := by kernel_rfl
theorem go7 {args : List Value} {w : World} {R : Value → World → Prop} (hle : Nat.ble args.length 39 = true) (h : vc Try.prog 39 s7 (argEnv args 0) w (fun L w => resL L w [.tmp 2] fun vs => oneOr vs fun v => R v w) (fun _ _ _ => False) (fun L w => resL L w [.tmp 2] fun vs => oneOr vs fun v => R v w)) : Cal Try.prog 7 ⟨args⟩ w R := cal_of mo ok7 hle h

-- footbridge/footbridgelaw27.CodecReads
def s8 : S := (.seq (.row [⟨(some 2), none, .mv (.const (.bool false))⟩])
 (.prune [0] (.seq (.seq (.row [⟨(some 15), none, .mv (.tmp 0)⟩,
   ⟨(some 16), none, .lenA (.tmp 15)⟩,
   ⟨(some 17), none, .ibin .gtr .i64 (.tmp 16) (.const (.int .i64 500))⟩])
 (.prune [17, 0] (.cond (.tmp 17)
  (.seq (.row [⟨(some 18), none, .call 10 []⟩,
    ⟨(some 2), none, .mv (.tmp 18)⟩])
  (.prune [2] .ret))
  .skip)))
 (.prune [0] (.seq (.row [⟨(some 20), none, .mv (.tmp 0)⟩,
   ⟨(some 21), none, .call 17 [(.tmp 20)]⟩,
   ⟨(some 19), none, .mv (.tmp 21)⟩,
   ⟨(some 22), none, .ext (.tmp 19) 0⟩,
   ⟨(some 23), none, .ext (.tmp 19) 1⟩,
   ⟨(some 3), none, .new [(.int .i64 0), (.int .i64 0), (.int .i64 0), (.slice none 0 0), (.slice none 0 0), (.int .i64 0), (.int .i64 0)] 36⟩,
   ⟨none, none, .stn 7 (.tmp 3) (.tmp 22)⟩,
   ⟨(some 4), none, .mv (.tmp 23)⟩])
 (.prune [0, 4, 3] (.seq (.row [⟨(some 25), none, .mv (.tmp 0)⟩,
   ⟨(some 26), none, .get (.conv 22 9) [(.tmp 25)]⟩,
   ⟨(some 27), none, .call 25 [(.tmp 26)]⟩,
   ⟨(some 24), none, .mv (.tmp 27)⟩,
   ⟨(some 28), none, .ext (.tmp 24) 0⟩,
   ⟨(some 29), none, .ext (.tmp 24) 1⟩,
   ⟨(some 5), none, .new [(.int .i64 0), (.int .i64 0), (.int .i64 0), (.slice none 0 0), (.slice none 0 0), (.int .i64 0), (.int .i64 0)] 36⟩,
   ⟨none, none, .stn 7 (.tmp 5) (.tmp 28)⟩,
   ⟨(some 6), none, .mv (.tmp 29)⟩])
 (.prune [6, 5, 0, 4, 3] (.seq (.row [⟨(some 31), none, .mv (.tmp 0)⟩,
   ⟨(some 32), none, .call 23 [(.tmp 31)]⟩,
   ⟨(some 30), none, .mv (.tmp 32)⟩,
   ⟨(some 33), none, .ext (.tmp 30) 0⟩,
   ⟨(some 34), none, .ext (.tmp 30) 1⟩,
   ⟨(some 7), none, .new [(.int .i64 0), (.int .i64 0), (.int .i64 0), (.int .i64 0), (.slice none 0 0), (.int .i64 0), (.slice none 0 0), (.int .i64 0), (.int .i64 0), (.int .i64 0), (.slice none 0 0), (.int .i64 0), (.int .i64 0), (.slice none 0 0)] 49⟩,
   ⟨none, none, .stn 14 (.tmp 7) (.tmp 33)⟩,
   ⟨(some 8), none, .mv (.tmp 34)⟩])
 (.prune [6, 5, 0, 8, 4, 7, 3] (.seq (.row [⟨(some 36), none, .mv (.tmp 0)⟩,
   ⟨(some 37), none, .get (.conv 22 9) [(.tmp 36)]⟩,
   ⟨(some 38), none, .call 26 [(.tmp 37)]⟩,
   ⟨(some 35), none, .mv (.tmp 38)⟩,
   ⟨(some 39), none, .ext (.tmp 35) 0⟩,
   ⟨(some 40), none, .ext (.tmp 35) 1⟩,
   ⟨(some 9), none, .new [(.int .i64 0), (.int .i64 0), (.int .i64 0), (.int .i64 0), (.slice none 0 0), (.int .i64 0), (.slice none 0 0), (.int .i64 0), (.int .i64 0), (.int .i64 0), (.slice none 0 0), (.int .i64 0), (.int .i64 0), (.slice none 0 0)] 49⟩,
   ⟨none, none, .stn 14 (.tmp 9) (.tmp 39)⟩,
   ⟨(some 10), none, .mv (.tmp 40)⟩])
 (.prune [6, 5, 10, 9, 0, 8, 4, 7, 3] (.seq (.seq (.row [⟨(some 41), none, .mv (.tmp 4)⟩,
   ⟨(some 42), none, .mv (.tmp 6)⟩,
   ⟨(some 43), none, .bbin true (.tmp 41) (.tmp 42)⟩,
   ⟨(some 44), none, .mv (.tmp 43)⟩,
   ⟨(some 45), (some (44, false)), .ldn 7 (.tmp 3)⟩,
   ⟨(some 46), (some (44, false)), .ldn 7 (.tmp 5)⟩,
   ⟨(some 47), (some (44, false)), .call 19 [(.tmp 45), (.tmp 46)]⟩,
   ⟨(some 48), (some (44, false)), .notB (.tmp 47)⟩,
   ⟨(some 49), none, .pick (.tmp 44) (.const (.bool true)) (.tmp 48)⟩,
   ⟨(some 50), none, .mv (.tmp 49)⟩,
   ⟨(some 51), (some (50, false)), .mv (.tmp 8)⟩,
   ⟨(some 52), (some (50, false)), .mv (.tmp 10)⟩,
   ⟨(some 53), (some (50, false)), .bbin true (.tmp 51) (.tmp 52)⟩,
   ⟨(some 54), none, .pick (.tmp 50) (.const (.bool true)) (.tmp 53)⟩,
   ⟨(some 55), none, .mv (.tmp 54)⟩,
   ⟨(some 56), (some (55, false)), .ldn 14 (.tmp 7)⟩,
   ⟨(some 57), (some (55, false)), .ldn 14 (.tmp 9)⟩,
   ⟨(some 58), (some (55, false)), .call 22 [(.tmp 56), (.tmp 57)]⟩,
   ⟨(some 59), (some (55, false)), .notB (.tmp 58)⟩,
   ⟨(some 60), none, .pick (.tmp 55) (.const (.bool true)) (.tmp 59)⟩])
 (.prune [60, 0, 8, 4, 7, 3] (.cond (.tmp 60)
  (.seq (.row [⟨(some 2), none, .mv (.const (.bool false))⟩])
  (.prune [2] .ret))
  .skip)))
 (.prune [3, 7, 4, 8, 0] (.seq (.row [⟨(some 62), none, .ldn 7 (.tmp 3)⟩,
   ⟨(some 63), none, .call 16 [(.tmp 62)]⟩,
   ⟨(some 61), none, .mv (.tmp 63)⟩,
   ⟨(some 64), none, .ext (.tmp 61) 0⟩,
   ⟨(some 65), none, .ext (.tmp 61) 1⟩,
   ⟨(some 11), none, .mv (.tmp 64)⟩,
   ⟨(some 12), none, .mv (.tmp 65)⟩])
 (.prune [7, 4, 12, 11, 8, 0] (.seq (.row [⟨(some 67), none, .ldn 14 (.tmp 7)⟩,
   ⟨(some 68), none, .call 21 [(.tmp 67)]⟩,
   ⟨(some 66), none, .mv (.tmp 68)⟩,
   ⟨(some 69), none, .ext (.tmp 66) 0⟩,
   ⟨(some 70), none, .ext (.tmp 66) 1⟩,
   ⟨(some 13), none, .mv (.tmp 69)⟩,
   ⟨(some 14), none, .mv (.tmp 70)⟩])
 (.prune [4, 12, 11, 8, 14, 13, 0] (.seq (.row [⟨(some 71), none, .call 10 []⟩,
   ⟨(some 72), none, .mv (.tmp 71)⟩,
   ⟨(some 73), (some (72, true)), .mv (.tmp 4)⟩,
   ⟨(some 74), (some (72, true)), .notB (.tmp 73)⟩,
   ⟨(some 75), (some (72, true)), .mv (.tmp 74)⟩,
   ⟨(some 76), (some (75, false)), .mv (.tmp 12)⟩,
   ⟨(some 77), (some (75, false)), .mv (.tmp 76)⟩,
   ⟨(some 78), (some (77, true)), .mv (.tmp 11)⟩,
   ⟨(some 79), (some (77, true)), .get (.conv 22 9) [(.tmp 78)]⟩,
   ⟨(some 80), (some (77, true)), .mv (.tmp 0)⟩,
   ⟨(some 81), (some (77, true)), .get (.conv 22 9) [(.tmp 80)]⟩,
   ⟨(some 82), (some (77, true)), .sbin .eql (.tmp 79) (.tmp 81)⟩,
   ⟨(some 83), (some (75, false)), .pick (.tmp 77) (.tmp 82) (.const (.bool false))⟩,
   ⟨(some 84), (some (72, true)), .pick (.tmp 75) (.const (.bool true)) (.tmp 83)⟩,
   ⟨(some 85), none, .pick (.tmp 72) (.tmp 84) (.const (.bool false))⟩,
   ⟨(some 86), none, .mv (.tmp 85)⟩,
   ⟨(some 87), (some (86, true)), .mv (.tmp 8)⟩,
   ⟨(some 88), (some (86, true)), .notB (.tmp 87)⟩,
   ⟨(some 89), (some (86, true)), .mv (.tmp 88)⟩,
   ⟨(some 90), (some (89, false)), .mv (.tmp 14)⟩,
   ⟨(some 91), (some (89, false)), .mv (.tmp 90)⟩,
   ⟨(some 92), (some (91, true)), .mv (.tmp 13)⟩,
   ⟨(some 93), (some (91, true)), .get (.conv 22 9) [(.tmp 92)]⟩,
   ⟨(some 94), (some (91, true)), .mv (.tmp 0)⟩,
   ⟨(some 95), (some (91, true)), .get (.conv 22 9) [(.tmp 94)]⟩,
   ⟨(some 96), (some (91, true)), .sbin .eql (.tmp 93) (.tmp 95)⟩,
   ⟨(some 97), (some (89, false)), .pick (.tmp 91) (.tmp 96) (.const (.bool false))⟩,
   ⟨(some 98), (some (86, true)), .pick (.tmp 89) (.const (.bool true)) (.tmp 97)⟩,
   ⟨(some 99), none, .pick (.tmp 86) (.tmp 98) (.const (.bool false))⟩,
   ⟨(some 2), none, .mv (.tmp 99)⟩])
 (.prune [2] .ret))))))))))))))))))))
theorem ok8 : fits Try.prog 8 ⟨s8, 100, [.tmp 2]⟩ = some ⟨s8, 100, [.tmp 2]⟩ := by kernel_rfl
theorem go8 {args : List Value} {w : World} {R : Value → World → Prop} (hle : Nat.ble args.length 100 = true) (h : vc Try.prog 100 s8 (argEnv args 0) w (fun L w => resL L w [.tmp 2] fun vs => oneOr vs fun v => R v w) (fun _ _ _ => False) (fun L w => resL L w [.tmp 2] fun vs => oneOr vs fun v => R v w)) : Cal Try.prog 8 ⟨args⟩ w R := cal_of mo ok8 hle h

-- footbridge/footbridgelaw27.CodecParts
def s9 : S := (.seq (.row [⟨(some 4), none, .box 36 (.tmp 0)⟩,
   ⟨(some 5), none, .box 49 (.tmp 1)⟩,
   ⟨(some 8), none, .mv (.const (.bool false))⟩])
 (.prune [2, 3, 5, 4] (.seq (.seq (.row [⟨(some 21), none, .fad 3 (.tmp 4)⟩,
   ⟨(some 22), none, .ld (.tmp 21)⟩,
   ⟨(some 23), none, .fad 4 (.tmp 4)⟩,
   ⟨(some 24), none, .ld (.tmp 23)⟩,
   ⟨(some 25), none, .bsl 34 2 [(.slice none 0 0), (.slice none 0 0)] [(0, 1), (1, 1)] [(.tmp 22), (.tmp 24)]⟩,
   ⟨(some 26), none, .call 15 [(.tmp 25)]⟩,
   ⟨(some 27), none, .mv (.tmp 26)⟩,
   ⟨(some 28), (some (27, false)), .ldn 14 (.tmp 5)⟩,
   ⟨(some 29), (some (27, false)), .call 20 [(.tmp 28)]⟩,
   ⟨(some 30), none, .pick (.tmp 27) (.const (.bool true)) (.tmp 29)⟩,
   ⟨(some 31), none, .mv (.tmp 30)⟩,
   ⟨(some 32), (some (31, false)), .mv (.tmp 3)⟩,
   ⟨(some 33), (some (31, false)), .lenA (.tmp 32)⟩,
   ⟨(some 34), (some (31, false)), .ibin .gtr .i64 (.tmp 33) (.const (.int .i64 50))⟩,
   ⟨(some 35), none, .pick (.tmp 31) (.const (.bool true)) (.tmp 34)⟩,
   ⟨(some 36), none, .mv (.tmp 35)⟩,
   ⟨(some 37), (some (36, false)), .mv (.tmp 3)⟩,
   ⟨(some 38), (some (36, false)), .lenA (.tmp 37)⟩,
   ⟨(some 39), (some (36, false)), .ibin .eql .i64 (.tmp 38) (.const (.int .i64 0))⟩,
   ⟨(some 40), none, .pick (.tmp 36) (.const (.bool true)) (.tmp 39)⟩])
 (.prune [40, 2, 3, 5, 4] (.cond (.tmp 40)
  (.seq (.row [⟨(some 41), none, .call 10 []⟩,
    ⟨(some 8), none, .mv (.tmp 41)⟩])
  (.prune [8] .ret))
  .skip)))
 (.prune [4, 5, 3, 2] (.seq (.row [⟨(some 43), none, .ldn 7 (.tmp 4)⟩,
   ⟨(some 44), none, .call 16 [(.tmp 43)]⟩,
   ⟨(some 42), none, .mv (.tmp 44)⟩,
   ⟨(some 45), none, .ext (.tmp 42) 0⟩,
   ⟨(some 46), none, .ext (.tmp 42) 1⟩,
   ⟨(some 9), none, .mv (.tmp 45)⟩,
   ⟨(some 10), none, .mv (.tmp 46)⟩])
 (.prune [5, 3, 9, 2] (.seq (.row [⟨(some 48), none, .ldn 14 (.tmp 5)⟩,
   ⟨(some 49), none, .call 21 [(.tmp 48)]⟩,
   ⟨(some 47), none, .mv (.tmp 49)⟩,
   ⟨(some 50), none, .ext (.tmp 47) 0⟩,
   ⟨(some 51), none, .ext (.tmp 47) 1⟩,
   ⟨(some 11), none, .mv (.tmp 50)⟩,
   ⟨(some 12), none, .mv (.tmp 51)⟩])
 (.prune [3, 11, 9, 2] (.seq (.seq (.row [⟨(some 52), none, .mv (.tmp 9)⟩,
   ⟨(some 53), none, .lenA (.tmp 52)⟩,
   ⟨(some 54), none, .ibin .eql .i64 (.tmp 53) (.const (.int .i64 0))⟩,
   ⟨(some 55), none, .mv (.tmp 54)⟩,
   ⟨(some 56), (some (55, false)), .mv (.tmp 11)⟩,
   ⟨(some 57), (some (55, false)), .lenA (.tmp 56)⟩,
   ⟨(some 58), (some (55, false)), .ibin .eql .i64 (.tmp 57) (.const (.int .i64 0))⟩,
   ⟨(some 59), none, .pick (.tmp 55) (.const (.bool true)) (.tmp 58)⟩])
 (.prune [59, 3, 11, 9, 2] (.cond (.tmp 59)
  (.seq (.row [⟨(some 8), none, .mv (.const (.bool false))⟩])
  (.prune [8] .ret))
  .skip)))
 (.prune [2, 9, 11, 3] (.seq (.row [⟨(some 61), none, .mv (.tmp 9)⟩,
   ⟨(some 62), none, .mv (.tmp 2)⟩,
   ⟨(some 63), none, .conv .i64 (.tmp 62)⟩,
   ⟨(some 64), none, .mv (.tmp 9)⟩,
   ⟨(some 65), none, .lenA (.tmp 64)⟩,
   ⟨(some 66), none, .ibin .rem .i64 (.tmp 63) (.tmp 65)⟩,
   ⟨(some 67), none, .slc 1 (.tmp 61) none (some (.tmp 66))⟩,
   ⟨(some 68), none, .call 17 [(.tmp 67)]⟩,
   ⟨(some 60), none, .mv (.tmp 68)⟩,
   ⟨(some 69), none, .ext (.tmp 60) 0⟩,
   ⟨(some 70), none, .ext (.tmp 60) 1⟩,
   ⟨(some 13), none, .new [(.int .i64 0), (.int .i64 0), (.int .i64 0), (.slice none 0 0), (.slice none 0 0), (.int .i64 0), (.int .i64 0)] 36⟩,
   ⟨none, none, .stn 7 (.tmp 13) (.tmp 69)⟩,
   ⟨(some 14), none, .mv (.tmp 70)⟩])
 (.prune [2, 9, 11, 3, 14] (.seq (.row [⟨(some 72), none, .mv (.tmp 11)⟩,
   ⟨(some 73), none, .mv (.tmp 2)⟩,
   ⟨(some 74), none, .conv .i64 (.tmp 73)⟩,
   ⟨(some 75), none, .mv (.tmp 11)⟩,
   ⟨(some 76), none, .lenA (.tmp 75)⟩,
   ⟨(some 77), none, .ibin .rem .i64 (.tmp 74) (.tmp 76)⟩,
   ⟨(some 78), none, .slc 1 (.tmp 72) none (some (.tmp 77))⟩,
   ⟨(some 79), none, .call 23 [(.tmp 78)]⟩,
   ⟨(some 71), none, .mv (.tmp 79)⟩,
   ⟨(some 80), none, .ext (.tmp 71) 0⟩,
   ⟨(some 81), none, .ext (.tmp 71) 1⟩,
   ⟨(some 15), none, .new [(.int .i64 0), (.int .i64 0), (.int .i64 0), (.int .i64 0), (.slice none 0 0), (.int .i64 0), (.slice none 0 0), (.int .i64 0), (.int .i64 0), (.int .i64 0), (.slice none 0 0), (.int .i64 0), (.int .i64 0), (.slice none 0 0)] 49⟩,
   ⟨none, none, .stn 14 (.tmp 15) (.tmp 80)⟩,
   ⟨(some 16), none, .mv (.tmp 81)⟩])
 (.prune [9, 11, 3, 14, 16] (.seq (.row [⟨(some 83), none, .bsl 5 0 [] [] []⟩,
   ⟨(some 84), none, .mv (.tmp 9)⟩,
   ⟨(some 85), none, .run (.bi .append ⟨[22, 22]⟩ 22) [(.tmp 83), (.tmp 84)]⟩,
   ⟨(some 86), none, .mv (.tmp 3)⟩,
   ⟨(some 87), none, .run (.bi .append ⟨[22, 22]⟩ 22) [(.tmp 85), (.tmp 86)]⟩,
   ⟨(some 88), none, .call 17 [(.tmp 87)]⟩,
   ⟨(some 82), none, .mv (.tmp 88)⟩,
   ⟨(some 89), none, .ext (.tmp 82) 0⟩,
   ⟨(some 90), none, .ext (.tmp 82) 1⟩,
   ⟨(some 17), none, .new [(.int .i64 0), (.int .i64 0), (.int .i64 0), (.slice none 0 0), (.slice none 0 0), (.int .i64 0), (.int .i64 0)] 36⟩,
   ⟨none, none, .stn 7 (.tmp 17) (.tmp 89)⟩,
   ⟨(some 18), none, .mv (.tmp 90)⟩])
 (.prune [11, 3, 14, 16, 18] (.seq (.row [⟨(some 92), none, .bsl 5 0 [] [] []⟩,
   ⟨(some 93), none, .mv (.tmp 11)⟩,
   ⟨(some 94), none, .run (.bi .append ⟨[22, 22]⟩ 22) [(.tmp 92), (.tmp 93)]⟩,
   ⟨(some 95), none, .mv (.tmp 3)⟩,
   ⟨(some 96), none, .run (.bi .append ⟨[22, 22]⟩ 22) [(.tmp 94), (.tmp 95)]⟩,
   ⟨(some 97), none, .call 23 [(.tmp 96)]⟩,
   ⟨(some 91), none, .mv (.tmp 97)⟩,
   ⟨(some 98), none, .ext (.tmp 91) 0⟩,
   ⟨(some 99), none, .ext (.tmp 91) 1⟩,
   ⟨(some 19), none, .new [(.int .i64 0), (.int .i64 0), (.int .i64 0), (.int .i64 0), (.slice none 0 0), (.int .i64 0), (.slice none 0 0), (.int .i64 0), (.int .i64 0), (.int .i64 0), (.slice none 0 0), (.int .i64 0), (.int .i64 0), (.slice none 0 0)] 49⟩,
   ⟨none, none, .stn 14 (.tmp 19) (.tmp 98)⟩,
   ⟨(some 20), none, .mv (.tmp 99)⟩])
 (.prune [14, 16, 18, 20] (.seq (.row [⟨(some 100), none, .call 10 []⟩,
   ⟨(some 101), none, .mv (.tmp 100)⟩,
   ⟨(some 102), (some (101, true)), .mv (.tmp 14)⟩,
   ⟨(some 103), (some (101, true)), .notB (.tmp 102)⟩,
   ⟨(some 104), none, .pick (.tmp 101) (.tmp 103) (.const (.bool false))⟩,
   ⟨(some 105), none, .mv (.tmp 104)⟩,
   ⟨(some 106), (some (105, true)), .mv (.tmp 16)⟩,
   ⟨(some 107), (some (105, true)), .notB (.tmp 106)⟩,
   ⟨(some 108), none, .pick (.tmp 105) (.tmp 107) (.const (.bool false))⟩,
   ⟨(some 109), none, .mv (.tmp 108)⟩,
   ⟨(some 110), (some (109, true)), .mv (.tmp 18)⟩,
   ⟨(some 111), (some (109, true)), .notB (.tmp 110)⟩,
   ⟨(some 112), none, .pick (.tmp 109) (.tmp 111) (.const (.bool false))⟩,
   ⟨(some 113), none, .mv (.tmp 112)⟩,
   ⟨(some 114), (some (113, true)), .mv (.tmp 20)⟩,
   ⟨(some 115), (some (113, true)), .notB (.tmp 114)⟩,
   ⟨(some 116), none, .pick (.tmp 113) (.tmp 115) (.const (.bool false))⟩,
   ⟨(some 8), none, .mv (.tmp 116)⟩])
 (.prune [8] .ret))))))))))))))))))))
theorem ok9 : fits Try.prog 9 ⟨s9, 117, [.tmp 8]⟩ = some ⟨s9, 117, [.tmp 8]⟩ := by kernel_rfl
theorem go9 {args : List Value} {w : World} {R : Value → World → Prop} (hle : Nat.ble args.length 117 = true) (h : vc Try.prog 117 s9 (argEnv args 0) w (fun L w => resL L w [.tmp 8] fun vs => oneOr vs fun v => R v w) (fun _ _ _ => False) (fun L w => resL L w [.tmp 8] fun vs => oneOr vs fun v => R v w)) : Cal Try.prog 9 ⟨args⟩ w R := cal_of mo ok9 hle h

-- footbridge/footbridgelaw27.fixed
def s10 : S := (.seq (.row [⟨(some 0), none, .mv (.const (.bool false))⟩])
 (.prune [] (.seq (.row [⟨(some 4), none, .bld [(.int .i64 0), (.int .i64 0), (.int .i64 0), (.slice none 0 0), (.slice none 0 0), (.int .i64 0), (.int .i64 0)] [(0, 1)] [(.const (.int .i64 12))]⟩,
   ⟨(some 5), none, .call 16 [(.tmp 4)]⟩,
   ⟨(some 3), none, .mv (.tmp 5)⟩,
   ⟨(some 6), none, .ext (.tmp 3) 0⟩,
   ⟨(some 7), none, .ext (.tmp 3) 1⟩,
   ⟨(some 1), none, .mv (.tmp 6)⟩,
   ⟨(some 2), none, .mv (.tmp 7)⟩])
 (.prune [2, 1] (.seq (.row [⟨(some 8), none, .mv (.tmp 2)⟩,
   ⟨(some 9), none, .mv (.tmp 8)⟩,
   ⟨(some 10), (some (9, true)), .mv (.tmp 1)⟩,
   ⟨(some 11), (some (9, true)), .get (.conv 22 9) [(.tmp 10)]⟩,
   ⟨(some 12), (some (9, true)), .sbin .eql (.tmp 11) (.const (.string ⟨#[24, 0, 0, 0, 0, 0, 0]⟩))⟩,
   ⟨(some 13), none, .pick (.tmp 9) (.tmp 12) (.const (.bool false))⟩,
   ⟨(some 14), none, .mv (.tmp 13)⟩,
   ⟨(some 15), (some (14, true)), .call 11 [(.const (.int .i64 0))]⟩,
   ⟨(some 16), (some (14, true)), .get (.conv 22 9) [(.tmp 15)]⟩,
   ⟨(some 17), (some (14, true)), .sbin .eql (.tmp 16) (.const (.string ⟨#[0]⟩))⟩,
   ⟨(some 18), none, .pick (.tmp 14) (.tmp 17) (.const (.bool false))⟩,
   ⟨(some 19), none, .mv (.tmp 18)⟩,
   ⟨(some 20), (some (19, true)), .call 11 [(.const (.int .i64 (-1)))]⟩,
   ⟨(some 21), (some (19, true)), .get (.conv 22 9) [(.tmp 20)]⟩,
   ⟨(some 22), (some (19, true)), .sbin .eql (.tmp 21) (.const (.string ⟨#[1]⟩))⟩,
   ⟨(some 23), none, .pick (.tmp 19) (.tmp 22) (.const (.bool false))⟩,
   ⟨(some 24), none, .mv (.tmp 23)⟩,
   ⟨(some 25), (some (24, true)), .call 11 [(.const (.int .i64 64))]⟩,
   ⟨(some 26), (some (24, true)), .get (.conv 22 9) [(.tmp 25)]⟩,
   ⟨(some 27), (some (24, true)), .sbin .eql (.tmp 26) (.const (.string ⟨#[128, 1]⟩))⟩,
   ⟨(some 28), none, .pick (.tmp 24) (.tmp 27) (.const (.bool false))⟩,
   ⟨(some 0), none, .mv (.tmp 28)⟩])
 (.prune [0] .ret))))))
theorem ok10 : fits Try.prog 10 ⟨s10, 29, [.tmp 0]⟩ = some ⟨s10, 29, [.tmp 0]⟩ := by kernel_rfl
theorem go10 {args : List Value} {w : World} {R : Value → World → Prop} (hle : Nat.ble args.length 29 = true) (h : vc Try.prog 29 s10 (argEnv args 0) w (fun L w => resL L w [.tmp 0] fun vs => oneOr vs fun v => R v w) (fun _ _ _ => False) (fun L w => resL L w [.tmp 0] fun vs => oneOr vs fun v => R v w)) : Cal Try.prog 10 ⟨args⟩ w R := cal_of mo ok10 hle h

-- footbridge/codec.PutNumber
def s11 : S := (.seq (.row [⟨(some 2), none, .mv (.const (.slice none 0 0))⟩])
 (.prune [0] (.seq (.row [⟨(some 5), none, .mv (.tmp 0)⟩,
   ⟨(some 6), none, .conv .u64 (.tmp 5)⟩,
   ⟨(some 7), none, .ibin .shl .u64 (.tmp 6) (.const (.int .u64 1))⟩,
   ⟨(some 8), none, .mv (.tmp 0)⟩,
   ⟨(some 9), none, .ibin .shr .i64 (.tmp 8) (.const (.int .u64 63))⟩,
   ⟨(some 10), none, .conv .u64 (.tmp 9)⟩,
   ⟨(some 11), none, .ibin .xor .u64 (.tmp 7) (.tmp 10)⟩,
   ⟨(some 3), none, .mv (.tmp 11)⟩])
 (.prune [3] (.seq (.row [⟨(some 4), none, .mv (.const (.slice none 0 0))⟩])
 (.prune [3, 4] (.seq (.block 0 (.loop [3, 4] [3, 4, 12, 13, 14, 15, 16, 17, 18, 19, 20, 21] (.seq (.seq (.row [⟨(some 12), none, .mv (.tmp 3)⟩,
    ⟨(some 13), none, .ibin .geq .u64 (.tmp 12) (.const (.int .u64 128))⟩])
  (.prune [13, 4, 3] (.cond (.tmp 13)
   .skip
   (.exit 0))))
  (.prune [4, 3] (.block 1 (.seq (.row [⟨(some 14), none, .mv (.tmp 4)⟩,
    ⟨(some 15), none, .mv (.tmp 3)⟩,
    ⟨(some 16), none, .conv .u8 (.tmp 15)⟩,
    ⟨(some 17), none, .ibin .or .u8 (.tmp 16) (.const (.int .u8 128))⟩,
    ⟨(some 18), none, .bsl 5 1 [(.int .u8 0)] [(0, 1)] [(.tmp 17)]⟩,
    ⟨(some 19), none, .run (.bi .append ⟨[22, 22]⟩ 22) [(.tmp 14), (.tmp 18)]⟩,
    ⟨(some 4), none, .mv (.tmp 19)⟩])
  (.prune [3, 4] (.row [⟨(some 20), none, .mv (.tmp 3)⟩,
    ⟨(some 21), none, .ibin .shr .u64 (.tmp 20) (.const (.int .u64 7))⟩,
    ⟨(some 3), none, .mv (.tmp 21)⟩]))))))))
 (.prune [4, 3] (.seq (.row [⟨(some 22), none, .mv (.tmp 4)⟩,
   ⟨(some 23), none, .mv (.tmp 3)⟩,
   ⟨(some 24), none, .conv .u8 (.tmp 23)⟩,
   ⟨(some 25), none, .bsl 5 1 [(.int .u8 0)] [(0, 1)] [(.tmp 24)]⟩,
   ⟨(some 26), none, .run (.bi .append ⟨[22, 22]⟩ 22) [(.tmp 22), (.tmp 25)]⟩,
   ⟨(some 2), none, .mv (.tmp 26)⟩])
 (.prune [2] .ret))))))))))
theorem ok11 : fits Try.prog 11 ⟨s11, 27, [.tmp 2]⟩ = some ⟨s11, 27, [.tmp 2]⟩ := by kernel_rfl
theorem go11 {args : List Value} {w : World} {R : Value → World → Prop} (hle : Nat.ble args.length 27 = true) (h : vc Try.prog 27 s11 (argEnv args 0) w (fun L w => resL L w [.tmp 2] fun vs => oneOr vs fun v => R v w) (fun _ _ _ => False) (fun L w => resL L w [.tmp 2] fun vs => oneOr vs fun v => R v w)) : Cal Try.prog 11 ⟨args⟩ w R := cal_of mo ok11 hle h

-- footbridge/codec.GetNumber
def s12 : S := (.seq (.row [⟨(some 2), none, .mv (.const (.int .i64 0))⟩,
   ⟨(some 3), none, .mv (.const (.int .i64 0))⟩,
   ⟨(some 4), none, .mv (.const (.bool false))⟩])
 (.prune [0] (.seq (.row [⟨(some 5), none, .mv (.const (.int .u64 0))⟩])
 (.prune [5, 0] (.seq (.seq (.row [⟨(some 6), none, .mv (.const (.int .i64 0))⟩])
 (.prune [5, 0, 6] (.block 0 (.loop [5, 6] [2, 3, 4, 5, 6, 7, 8, 9, 10, 11, 12, 13, 14, 15, 16, 17, 18, 19, 20, 21, 22, 23, 24, 25, 26, 27, 28, 29, 30, 31, 32, 33, 34, 35, 36, 37, 38, 39, 40, 41, 42, 43, 44, 45, 46, 47, 48, 49, 50, 51, 52, 53, 54, 55, 56] (.seq (.seq (.row [⟨(some 8), none, .mv (.tmp 6)⟩,
    ⟨(some 9), none, .mv (.tmp 0)⟩,
    ⟨(some 10), none, .lenA (.tmp 9)⟩,
    ⟨(some 11), none, .ibin .lss .i64 (.tmp 8) (.tmp 10)⟩,
    ⟨(some 12), none, .mv (.tmp 11)⟩,
    ⟨(some 13), (some (12, true)), .mv (.tmp 6)⟩,
    ⟨(some 14), (some (12, true)), .ibin .lss .i64 (.tmp 13) (.const (.int .i64 10))⟩,
    ⟨(some 15), none, .pick (.tmp 12) (.tmp 14) (.const (.bool false))⟩])
  (.prune [15, 0, 6, 5] (.cond (.tmp 15)
   .skip
   (.exit 0))))
  (.prune [0, 6, 5] (.seq (.block 1 (.seq (.row [⟨(some 18), none, .mv (.tmp 0)⟩,
    ⟨(some 19), none, .mv (.tmp 6)⟩,
    ⟨(some 20), none, .ixA 1 (.tmp 18) (.tmp 19)⟩,
    ⟨(some 21), none, .ld (.tmp 20)⟩,
    ⟨(some 22), none, .ibin .and .u8 (.tmp 21) (.const (.int .u8 127))⟩,
    ⟨(some 23), none, .conv .u64 (.tmp 22)⟩,
    ⟨(some 7), none, .mv (.tmp 23)⟩])
  (.prune [0, 6, 7, 5] (.seq (.seq (.row [⟨(some 24), none, .mv (.tmp 6)⟩,
    ⟨(some 25), none, .ibin .eql .i64 (.tmp 24) (.const (.int .i64 9))⟩,
    ⟨(some 26), none, .mv (.tmp 25)⟩,
    ⟨(some 27), (some (26, true)), .mv (.tmp 7)⟩,
    ⟨(some 28), (some (26, true)), .ibin .gtr .u64 (.tmp 27) (.const (.int .u64 1))⟩,
    ⟨(some 29), none, .pick (.tmp 26) (.tmp 28) (.const (.bool false))⟩])
  (.prune [29, 0, 6, 7, 5] (.cond (.tmp 29)
   (.exit 0)
   .skip)))
  (.prune [5, 7, 6, 0] (.seq (.row [⟨(some 30), none, .mv (.tmp 5)⟩,
    ⟨(some 31), none, .mv (.tmp 7)⟩,
    ⟨(some 32), none, .mv (.tmp 6)⟩,
    ⟨(some 33), none, .ibin .mul .i64 (.const (.int .i64 7)) (.tmp 32)⟩,
    ⟨(some 34), none, .ibin .shl .u64 (.tmp 31) (.tmp 33)⟩,
    ⟨(some 35), none, .ibin .or .u64 (.tmp 30) (.tmp 34)⟩,
    ⟨(some 5), none, .mv (.tmp 35)⟩])
  (.prune [7, 6, 5, 0] (.seq (.seq (.row [⟨(some 36), none, .mv (.tmp 0)⟩,
    ⟨(some 37), none, .mv (.tmp 6)⟩,
    ⟨(some 38), none, .ixA 1 (.tmp 36) (.tmp 37)⟩,
    ⟨(some 39), none, .ld (.tmp 38)⟩,
    ⟨(some 40), none, .ibin .geq .u8 (.tmp 39) (.const (.int .u8 128))⟩])
  (.prune [40, 7, 6, 5, 0] (.cond (.tmp 40)
   (.exit 1)
   .skip)))
  (.prune [7, 6, 5] (.seq (.seq (.row [⟨(some 41), none, .mv (.tmp 7)⟩,
    ⟨(some 42), none, .ibin .eql .u64 (.tmp 41) (.const (.int .u64 0))⟩,
    ⟨(some 43), none, .mv (.tmp 42)⟩,
    ⟨(some 44), (some (43, true)), .mv (.tmp 6)⟩,
    ⟨(some 45), (some (43, true)), .ibin .gtr .i64 (.tmp 44) (.const (.int .i64 0))⟩,
    ⟨(some 46), none, .pick (.tmp 43) (.tmp 45) (.const (.bool false))⟩])
  (.prune [46, 6, 5] (.cond (.tmp 46)
   (.exit 0)
   .skip)))
  (.prune [5, 6] (.seq (.row [⟨(some 47), none, .mv (.tmp 5)⟩,
    ⟨(some 48), none, .ibin .shr .u64 (.tmp 47) (.const (.int .u64 1))⟩,
    ⟨(some 49), none, .conv .i64 (.tmp 48)⟩,
    ⟨(some 50), none, .mv (.tmp 5)⟩,
    ⟨(some 51), none, .ibin .and .u64 (.tmp 50) (.const (.int .u64 1))⟩,
    ⟨(some 52), none, .conv .i64 (.tmp 51)⟩,
    ⟨(some 53), none, .neg .i64 (.tmp 52)⟩,
    ⟨(some 54), none, .ibin .xor .i64 (.tmp 49) (.tmp 53)⟩,
    ⟨(some 55), none, .mv (.tmp 6)⟩,
    ⟨(some 56), none, .ibin .add .i64 (.tmp 55) (.const (.int .i64 1))⟩,
    ⟨(some 2), none, .mv (.tmp 54)⟩,
    ⟨(some 3), none, .mv (.tmp 56)⟩,
    ⟨(some 4), none, .mv (.const (.bool true))⟩])
  (.prune [2, 3, 4] .ret)))))))))))))
  (.prune [6, 5, 0] (.row [⟨(some 16), none, .mv (.tmp 6)⟩,
    ⟨(some 17), none, .ibin .add .i64 (.tmp 16) (.const (.int .i64 1))⟩,
    ⟨(some 6), none, .mv (.tmp 17)⟩])))))))))
 (.prune [] (.seq (.row [⟨(some 2), none, .mv (.const (.int .i64 0))⟩,
   ⟨(some 3), none, .mv (.const (.int .i64 0))⟩,
   ⟨(some 4), none, .mv (.const (.bool false))⟩])
 (.prune [2, 3, 4] .ret))))))))
theorem ok12 : fits Try.prog 12 ⟨s12, 57, [.tmp 2, .tmp 3, .tmp 4]⟩ = some ⟨s12, 57, [.tmp 2, .tmp 3, .tmp 4]⟩ := by kernel_rfl
theorem go12 {args : List Value} {w : World} {R : Value → World → Prop} (hle : Nat.ble args.length 57 = true) (h : vc Try.prog 57 s12 (argEnv args 0) w (fun L w => resL L w [.tmp 2, .tmp 3, .tmp 4] fun vs => oneOr vs fun v => R v w) (fun _ _ _ => False) (fun L w => resL L w [.tmp 2, .tmp 3, .tmp 4] fun vs => oneOr vs fun v => R v w)) : Cal Try.prog 12 ⟨args⟩ w R := cal_of mo ok12 hle h

-- footbridge/footbridgeref27.Get
def s13 : S := (.seq (.row [⟨(some 2), none, .new [(.int .i64 0), (.string ⟨#[]⟩), (.bool false)] 28⟩])
 (.prune [0, 2] (.seq (.seq (.row [⟨(some 3), none, .mv (.const (.int .i64 1))⟩])
 (.prune [3, 0, 2] (.block 0 (.loop [3] [3, 4, 5, 6, 7, 8, 9, 10, 11, 12, 13, 14, 15, 16, 17, 18, 19, 20, 21, 22, 23, 24, 25, 26, 27, 28, 29, 30, 31, 32, 33, 34, 35, 36, 37, 38, 39, 40, 41, 42, 43, 44, 45, 46, 47, 48] (.seq (.seq (.row [⟨(some 7), none, .mv (.tmp 3)⟩,
    ⟨(some 8), none, .ibin .leq .i64 (.tmp 7) (.const (.int .i64 10))⟩,
    ⟨(some 9), none, .mv (.tmp 8)⟩,
    ⟨(some 10), (some (9, true)), .mv (.tmp 3)⟩,
    ⟨(some 11), (some (9, true)), .mv (.tmp 0)⟩,
    ⟨(some 12), (some (9, true)), .lenS (.tmp 11)⟩,
    ⟨(some 13), (some (9, true)), .ibin .leq .i64 (.tmp 10) (.tmp 12)⟩,
    ⟨(some 14), none, .pick (.tmp 9) (.tmp 13) (.const (.bool false))⟩])
  (.prune [14, 3, 0, 2] (.cond (.tmp 14)
   .skip
   (.exit 0))))
  (.prune [3, 0, 2] (.seq (.block 1 (.seq (.seq (.row [⟨(some 17), none, .mv (.tmp 0)⟩,
    ⟨(some 18), none, .mv (.tmp 3)⟩,
    ⟨(some 19), none, .ibin .sub .i64 (.tmp 18) (.const (.int .i64 1))⟩,
    ⟨(some 20), none, .ixS (.tmp 17) (.tmp 19)⟩,
    ⟨(some 21), none, .ibin .gtr .u8 (.tmp 20) (.const (.int .u8 127))⟩])
  (.prune [21, 3, 0, 2] (.cond (.tmp 21)
   (.exit 1)
   .skip)))
  (.prune [0, 3, 2] (.seq (.row [⟨(some 4), none, .mv (.const (.int .u64 0))⟩])
  (.prune [0, 4, 3, 2] (.seq (.seq (.row [⟨(some 22), none, .mv (.tmp 3)⟩,
    ⟨(some 23), none, .ibin .sub .i64 (.tmp 22) (.const (.int .i64 1))⟩,
    ⟨(some 5), none, .mv (.tmp 23)⟩])
  (.prune [5, 0, 4, 3, 2] (.block 2 (.loop [4, 5] [4, 5, 24, 25, 26, 27, 28, 29, 30, 31, 32, 33, 34, 35] (.seq (.seq (.row [⟨(some 24), none, .mv (.tmp 5)⟩,
     ⟨(some 25), none, .ibin .geq .i64 (.tmp 24) (.const (.int .i64 0))⟩])
   (.prune [25, 4, 5, 0, 3, 2] (.cond (.tmp 25)
    .skip
    (.exit 2))))
   (.prune [4, 5, 0, 3, 2] (.seq (.block 3 (.row [⟨(some 28), none, .mv (.tmp 4)⟩,
     ⟨(some 29), none, .ibin .mul .u64 (.tmp 28) (.const (.int .u64 128))⟩,
     ⟨(some 30), none, .mv (.tmp 0)⟩,
     ⟨(some 31), none, .mv (.tmp 5)⟩,
     ⟨(some 32), none, .ixS (.tmp 30) (.tmp 31)⟩,
     ⟨(some 33), none, .conv .u64 (.tmp 32)⟩,
     ⟨(some 34), none, .ibin .rem .u64 (.tmp 33) (.const (.int .u64 128))⟩,
     ⟨(some 35), none, .ibin .add .u64 (.tmp 29) (.tmp 34)⟩,
     ⟨(some 4), none, .mv (.tmp 35)⟩]))
   (.prune [5, 0, 4, 3, 2] (.row [⟨(some 26), none, .mv (.tmp 5)⟩,
     ⟨(some 27), none, .ibin .sub .i64 (.tmp 26) (.const (.int .i64 1))⟩,
     ⟨(some 5), none, .mv (.tmp 27)⟩])))))))))
  (.prune [4, 0, 3, 2] (.seq (.row [⟨(some 36), none, .mv (.tmp 4)⟩,
    ⟨(some 37), none, .call 27 [(.tmp 36)]⟩,
    ⟨(some 6), none, .mv (.tmp 37)⟩])
  (.prune [6, 0, 3, 2] (.seq (.draw (.take 0 ⟨(some 38), none, .mv (.tmp 6)⟩ (.take 1 ⟨(some 39), none, .mv (.tmp 0)⟩ (.take 2 ⟨(some 40), none, .mv (.tmp 3)⟩ (.take 3 ⟨(some 41), none, .sls (.tmp 39) (some (.tmp 40)) none⟩ (.take 4 ⟨(some 42), none, .mv (.tmp 6)⟩ (.take 6 ⟨(some 44), none, .mv (.tmp 0)⟩ (.take 7 ⟨(some 45), none, .mv (.tmp 3)⟩ (.take 8 ⟨(some 46), none, .sls (.tmp 44) none (some (.tmp 45))⟩ (.step 5 false ⟨(some 43), none, .call 14 [(.tmp 42)]⟩ (.take 9 ⟨(some 47), none, .sbin .eql (.tmp 43) (.tmp 46)⟩ (.take 10 ⟨(some 48), none, .bld [(.int .i64 0), (.string ⟨#[]⟩), (.bool false)] [(0, 1), (1, 1), (2, 1)] [(.tmp 38), (.tmp 41), (.tmp 47)]⟩ (.step 11 false ⟨none, none, .stn 3 (.tmp 2) (.tmp 48)⟩ .done)))))))))))))
  (.prune [2] .ret)))))))))))
  (.prune [3, 0, 2] (.row [⟨(some 15), none, .mv (.tmp 3)⟩,
    ⟨(some 16), none, .ibin .add .i64 (.tmp 15) (.const (.int .i64 1))⟩,
    ⟨(some 3), none, .mv (.tmp 16)⟩])))))))))
 (.prune [2] (.seq (.row [⟨(some 49), none, .bld [(.int .i64 0), (.string ⟨#[]⟩), (.bool false)] [] []⟩,
   ⟨none, none, .stn 3 (.tmp 2) (.tmp 49)⟩])
 (.prune [2] .ret))))))
theorem ok13 : fits Try.prog 13 ⟨s13, 50, [.cell 2 (some 3)]⟩ = some ⟨s13, 50, [.cell 2 (some 3)]⟩ := by kernel_rfl
theorem go13 {args : List Value} {w : World} {R : Value → World → Prop} (hle : Nat.ble args.length 50 = true) (h : vc Try.prog 50 s13 (argEnv args 0) w (fun L w => resL L w [.cell 2 (some 3)] fun vs => oneOr vs fun v => R v w) (fun _ _ _ => False) (fun L w => resL L w [.cell 2 (some 3)] fun vs => oneOr vs fun v => R v w)) : Cal Try.prog 13 ⟨args⟩ w R := cal_of mo ok13 hle h

-- footbridge/footbridgeref27.Number
def s14 : S := (.seq (.row [⟨(some 2), none, .mv (.const (.string ⟨#[]⟩))⟩])
 (.prune [0] (.seq (.row [⟨(some 5), none, .mv (.tmp 0)⟩,
   ⟨(some 6), none, .call 28 [(.tmp 5)]⟩,
   ⟨(some 3), none, .mv (.tmp 6)⟩])
 (.prune [3] (.seq (.row [⟨(some 4), none, .mv (.const (.string ⟨#[]⟩))⟩])
 (.prune [3, 4] (.seq (.block 0 (.loop [3, 4] [3, 4, 7, 8, 9, 10, 11, 12, 13, 14, 15, 16, 17, 18] (.seq (.seq (.row [⟨(some 7), none, .mv (.tmp 3)⟩,
    ⟨(some 8), none, .ibin .gtr .u64 (.tmp 7) (.const (.int .u64 127))⟩])
  (.prune [8, 4, 3] (.cond (.tmp 8)
   .skip
   (.exit 0))))
  (.prune [4, 3] (.block 1 (.seq (.row [⟨(some 9), none, .mv (.tmp 4)⟩,
    ⟨(some 10), none, .mv (.tmp 3)⟩,
    ⟨(some 11), none, .ibin .rem .u64 (.tmp 10) (.const (.int .u64 128))⟩,
    ⟨(some 12), none, .ibin .add .u64 (.const (.int .u64 128)) (.tmp 11)⟩,
    ⟨(some 13), none, .conv .u8 (.tmp 12)⟩,
    ⟨(some 14), none, .bsl 5 1 [(.int .u8 0)] [(0, 1)] [(.tmp 13)]⟩,
    ⟨(some 15), none, .get (.conv 22 9) [(.tmp 14)]⟩,
    ⟨(some 16), none, .sbin .add (.tmp 9) (.tmp 15)⟩,
    ⟨(some 4), none, .mv (.tmp 16)⟩])
  (.prune [3, 4] (.row [⟨(some 17), none, .mv (.tmp 3)⟩,
    ⟨(some 18), none, .ibin .quo .u64 (.tmp 17) (.const (.int .u64 128))⟩,
    ⟨(some 3), none, .mv (.tmp 18)⟩]))))))))
 (.prune [4, 3] (.seq (.row [⟨(some 19), none, .mv (.tmp 4)⟩,
   ⟨(some 20), none, .mv (.tmp 3)⟩,
   ⟨(some 21), none, .conv .u8 (.tmp 20)⟩,
   ⟨(some 22), none, .bsl 5 1 [(.int .u8 0)] [(0, 1)] [(.tmp 21)]⟩,
   ⟨(some 23), none, .get (.conv 22 9) [(.tmp 22)]⟩,
   ⟨(some 24), none, .sbin .add (.tmp 19) (.tmp 23)⟩,
   ⟨(some 2), none, .mv (.tmp 24)⟩])
 (.prune [2] .ret))))))))))
theorem ok14 : fits Try.prog 14 ⟨s14, 25, [.tmp 2]⟩ = some ⟨s14, 25, [.tmp 2]⟩ := by kernel_rfl
theorem go14 {args : List Value} {w : World} {R : Value → World → Prop} (hle : Nat.ble args.length 25 = true) (h : vc Try.prog 25 s14 (argEnv args 0) w (fun L w => resL L w [.tmp 2] fun vs => oneOr vs fun v => R v w) (fun _ _ _ => False) (fun L w => resL L w [.tmp 2] fun vs => oneOr vs fun v => R v w)) : Cal Try.prog 14 ⟨args⟩ w R := cal_of mo ok14 hle h

-- footbridge/footbridgelaw27.great
def s15 : S := (.seq (.row [⟨(some 2), none, .mv (.const (.bool false))⟩])
 (.prune [0] (.seq (.seq (.row [⟨(some 5), none, .mv (.tmp 0)⟩,
   ⟨(some 6), none, .lenA (.tmp 5)⟩,
   ⟨(some 7), none, .mv (.const (.int .i64 0))⟩])
 (.prune [7, 5, 6] (.block 0 (.loop [7] [2, 4, 7, 8, 9, 10, 11, 12, 13, 14] (.seq (.row [⟨(some 8), none, .ibin .lss .i64 (.tmp 7) (.tmp 6)⟩])
  (.prune [8, 6, 5, 7] (.seq (.cond (.tmp 8)
   .skip
   (.exit 0))
  (.prune [6, 5, 7] (.seq (.block 1 (.seq (.row [⟨(some 9), none, .ixA 1 (.tmp 5) (.tmp 7)⟩,
    ⟨(some 10), none, .ld (.tmp 9)⟩,
    ⟨(some 4), none, .mv (.tmp 10)⟩])
  (.prune [4, 6, 5, 7] (.seq (.row [⟨(some 11), none, .mv (.tmp 4)⟩,
    ⟨(some 12), none, .lenA (.tmp 11)⟩,
    ⟨(some 13), none, .ibin .gtr .i64 (.tmp 12) (.const (.int .i64 200))⟩])
  (.prune [13, 6, 5, 7] (.cond (.tmp 13)
   (.seq (.row [⟨(some 2), none, .mv (.const (.bool true))⟩])
   (.prune [2] .ret))
   .skip))))))
  (.prune [7, 5, 6] (.row [⟨(some 14), none, .ibin .add .i64 (.tmp 7) (.const (.int .i64 1))⟩,
    ⟨(some 7), none, .mv (.tmp 14)⟩])))))))))))
 (.prune [] (.seq (.row [⟨(some 2), none, .mv (.const (.bool false))⟩])
 (.prune [2] .ret))))))
theorem ok15 : fits Try.prog 15 ⟨s15, 15, [.tmp 2]⟩ = some ⟨s15, 15, [.tmp 2]⟩ := by kernel_rfl
theorem go15 {args : List Value} {w : World} {R : Value → World → Prop} (hle : Nat.ble args.length 15 = true) (h : vc Try.prog 15 s15 (argEnv args 0) w (fun L w => resL L w [.tmp 2] fun vs => oneOr vs fun v => R v w) (fun _ _ _ => False) (fun L w => resL L w [.tmp 2] fun vs => oneOr vs fun v => R v w)) : Cal Try.prog 15 ⟨args⟩ w R := cal_of mo ok15 hle h

-- footbridge/codec.PutEvent
def s16 : S := (.seq (.row [⟨(some 1), none, .box 36 (.tmp 0)⟩,
   ⟨(some 2), none, .mv (.const (.slice none 0 0))⟩,
   ⟨(some 3), none, .mv (.const (.bool false))⟩])
 (.prune [1] (.seq (.row [⟨(some 5), none, .bld [(.slice none 0 0)] [] []⟩,
   ⟨(some 6), none, .box 71 (.tmp 5)⟩,
   ⟨(some 4), none, .mv (.tmp 6)⟩])
 (.prune [1, 4] (.seq (.row [⟨(some 7), none, .mv (.tmp 4)⟩,
   ⟨(some 8), none, .mki 69 (.tmp 7)⟩,
   ⟨(some 9), none, .call 29 [(.tmp 8), (.tmp 1)]⟩])
 (.prune [4] (.seq (.row [⟨(some 10), none, .mv (.tmp 4)⟩,
   ⟨(some 11), none, .call 30 [(.tmp 10)]⟩,
   ⟨(some 12), none, .ext (.tmp 11) 0⟩,
   ⟨(some 13), none, .ext (.tmp 11) 1⟩,
   ⟨(some 2), none, .mv (.tmp 12)⟩,
   ⟨(some 3), none, .mv (.tmp 13)⟩])
 (.prune [2, 3] .ret))))))))
theorem ok16 : fits Try.prog 16 ⟨s16, 14, [.tmp 2, .tmp 3]⟩ = some ⟨s16, 14, [.tmp 2, .tmp 3]⟩ := by kernel_rfl
theorem go16 {args : List Value} {w : World} {R : Value → World → Prop} (hle : Nat.ble args.length 14 = true) (h : vc Try.prog 14 s16 (argEnv args 0) w (fun L w => resL L w [.tmp 2, .tmp 3] fun vs => oneOr vs fun v => R v w) (fun _ _ _ => False) (fun L w => resL L w [.tmp 2, .tmp 3] fun vs => oneOr vs fun v => R v w)) : Cal Try.prog 16 ⟨args⟩ w R := cal_of mo ok16 hle h

-- footbridge/codec.GetEvent
def s17 : S := (.seq (.row [⟨(some 2), none, .new [(.int .i64 0), (.int .i64 0), (.int .i64 0), (.slice none 0 0), (.slice none 0 0), (.int .i64 0), (.int .i64 0)] 36⟩,
   ⟨(some 3), none, .mv (.const (.bool false))⟩])
 (.prune [0, 2] (.seq (.row [⟨(some 4), none, .new [(.int .i64 0), (.int .i64 0), (.int .i64 0), (.slice none 0 0), (.slice none 0 0), (.int .i64 0), (.int .i64 0)] 36⟩])
 (.prune [0, 4, 2] (.seq (.row [⟨(some 6), none, .mv (.tmp 0)⟩,
   ⟨(some 7), none, .mv (.tmp 0)⟩,
   ⟨(some 8), none, .lenA (.tmp 7)⟩,
   ⟨(some 9), none, .ibin .gtr .i64 (.tmp 8) (.const (.int .i64 65536))⟩,
   ⟨(some 10), none, .bld [(.slice none 0 0), (.bool false)] [(0, 1), (1, 1)] [(.tmp 6), (.tmp 9)]⟩,
   ⟨(some 11), none, .box 77 (.tmp 10)⟩,
   ⟨(some 5), none, .mv (.tmp 11)⟩])
 (.prune [5, 4, 2] (.seq (.row [⟨(some 12), none, .mv (.tmp 5)⟩,
   ⟨(some 13), none, .mki 75 (.tmp 12)⟩,
   ⟨(some 14), none, .call 29 [(.tmp 13), (.tmp 4)]⟩])
 (.prune [5, 4, 2] (.seq (.seq (.row [⟨(some 15), none, .mv (.tmp 5)⟩,
   ⟨(some 16), none, .call 31 [(.tmp 15)]⟩,
   ⟨(some 17), none, .notB (.tmp 16)⟩])
 (.prune [17, 4, 2] (.cond (.tmp 17)
  (.seq (.row [⟨(some 18), none, .bld [(.int .i64 0), (.int .i64 0), (.int .i64 0), (.slice none 0 0), (.slice none 0 0), (.int .i64 0), (.int .i64 0)] [] []⟩,
    ⟨none, none, .stn 7 (.tmp 2) (.tmp 18)⟩,
    ⟨(some 3), none, .mv (.const (.bool false))⟩])
  (.prune [2, 3] .ret))
  .skip)))
 (.prune [4, 2] (.seq (.row [⟨(some 19), none, .ldn 7 (.tmp 4)⟩,
   ⟨none, none, .stn 7 (.tmp 2) (.tmp 19)⟩,
   ⟨(some 3), none, .mv (.const (.bool true))⟩])
 (.prune [2, 3] .ret))))))))))))
theorem ok17 : fits Try.prog 17 ⟨s17, 20, [.cell 2 (some 7), .tmp 3]⟩ = some ⟨s17, 20, [.cell 2 (some 7), .tmp 3]⟩ := by kernel_rfl
theorem go17 {args : List Value} {w : World} {R : Value → World → Prop} (hle : Nat.ble args.length 20 = true) (h : vc Try.prog 20 s17 (argEnv args 0) w (fun L w => resL L w [.cell 2 (some 7), .tmp 3] fun vs => oneOr vs fun v => R v w) (fun _ _ _ => False) (fun L w => resL L w [.cell 2 (some 7), .tmp 3] fun vs => oneOr vs fun v => R v w)) : Cal Try.prog 17 ⟨args⟩ w R := cal_of mo ok17 hle h

-- footbridge/footbridgeref27.Event
def s18 : S := (.seq (.row [⟨(some 1), none, .box 36 (.tmp 0)⟩,
   ⟨(some 2), none, .mv (.const (.string ⟨#[]⟩))⟩])
 (.prune [1] (.seq (.draw (.take 0 ⟨(some 3), none, .fad 0 (.tmp 1)⟩ (.take 1 ⟨(some 4), none, .ld (.tmp 3)⟩ (.take 3 ⟨(some 6), none, .fad 1 (.tmp 1)⟩ (.take 4 ⟨(some 7), none, .fad 0 (.tmp 6)⟩ (.take 5 ⟨(some 8), none, .ld (.tmp 7)⟩ (.take 8 ⟨(some 11), none, .fad 1 (.tmp 1)⟩ (.take 9 ⟨(some 12), none, .fad 1 (.tmp 11)⟩ (.take 10 ⟨(some 13), none, .ld (.tmp 12)⟩ (.take 13 ⟨(some 16), none, .fad 5 (.tmp 1)⟩ (.take 14 ⟨(some 17), none, .ld (.tmp 16)⟩ (.take 17 ⟨(some 20), none, .fad 6 (.tmp 1)⟩ (.take 18 ⟨(some 21), none, .ld (.tmp 20)⟩ (.take 21 ⟨(some 24), none, .fad 3 (.tmp 1)⟩ (.take 22 ⟨(some 25), none, .ld (.tmp 24)⟩ (.take 25 ⟨(some 28), none, .fad 4 (.tmp 1)⟩ (.take 26 ⟨(some 29), none, .ld (.tmp 28)⟩ (.step 2 true ⟨(some 5), none, .call 14 [(.tmp 4)]⟩ (.step 6 true ⟨(some 9), none, .call 14 [(.tmp 8)]⟩ (.take 7 ⟨(some 10), none, .sbin .add (.tmp 5) (.tmp 9)⟩ (.step 11 true ⟨(some 14), none, .call 14 [(.tmp 13)]⟩ (.take 12 ⟨(some 15), none, .sbin .add (.tmp 10) (.tmp 14)⟩ (.step 15 true ⟨(some 18), none, .call 14 [(.tmp 17)]⟩ (.take 16 ⟨(some 19), none, .sbin .add (.tmp 15) (.tmp 18)⟩ (.step 19 true ⟨(some 22), none, .call 14 [(.tmp 21)]⟩ (.take 20 ⟨(some 23), none, .sbin .add (.tmp 19) (.tmp 22)⟩ (.step 23 true ⟨(some 26), none, .call 32 [(.tmp 25)]⟩ (.take 24 ⟨(some 27), none, .sbin .add (.tmp 23) (.tmp 26)⟩ (.step 27 true ⟨(some 30), none, .call 32 [(.tmp 29)]⟩ (.take 28 ⟨(some 31), none, .sbin .add (.tmp 27) (.tmp 30)⟩ (.take 29 ⟨(some 2), none, .mv (.tmp 31)⟩ .done)))))))))))))))))))))))))))))))
 (.prune [2] .ret))))
theorem ok18 : fits Try.prog 18 ⟨s18, 32, [.tmp 2]⟩ = some ⟨s18, 32, [.tmp 2]⟩ := by kernel_rfl
theorem go18 {args : List Value} {w : World} {R : Value → World → Prop} (hle : Nat.ble args.length 32 = true) (h : vc Try.prog 32 s18 (argEnv args 0) w (fun L w => resL L w [.tmp 2] fun vs => oneOr vs fun v => R v w) (fun _ _ _ => False) (fun L w => resL L w [.tmp 2] fun vs => oneOr vs fun v => R v w)) : Cal Try.prog 18 ⟨args⟩ w R := cal_of mo ok18 hle h

-- footbridge/footbridgeref27.SameEvent
def s19 : S := (.seq (.row [⟨(some 2), none, .box 36 (.tmp 0)⟩,
   ⟨(some 3), none, .box 36 (.tmp 1)⟩,
   ⟨(some 4), none, .mv (.const (.bool false))⟩])
 (.prune [2, 3] (.seq (.row [⟨(some 5), none, .fad 0 (.tmp 2)⟩,
   ⟨(some 6), none, .ld (.tmp 5)⟩,
   ⟨(some 7), none, .fad 0 (.tmp 3)⟩,
   ⟨(some 8), none, .ld (.tmp 7)⟩,
   ⟨(some 9), none, .ibin .eql .i64 (.tmp 6) (.tmp 8)⟩,
   ⟨(some 10), none, .mv (.tmp 9)⟩,
   ⟨(some 11), (some (10, true)), .fad 1 (.tmp 2)⟩,
   ⟨(some 12), (some (10, true)), .ldn 2 (.tmp 11)⟩,
   ⟨(some 13), (some (10, true)), .fad 1 (.tmp 3)⟩,
   ⟨(some 14), (some (10, true)), .ldn 2 (.tmp 13)⟩,
   ⟨(some 15), (some (10, true)), .get (.eq .eql 33 (.tmp 12) (.tmp 14)) [(.tmp 12), (.tmp 14)]⟩,
   ⟨(some 16), none, .pick (.tmp 10) (.tmp 15) (.const (.bool false))⟩,
   ⟨(some 17), none, .mv (.tmp 16)⟩,
   ⟨(some 18), (some (17, true)), .fad 5 (.tmp 2)⟩,
   ⟨(some 19), (some (17, true)), .ld (.tmp 18)⟩,
   ⟨(some 20), (some (17, true)), .fad 5 (.tmp 3)⟩,
   ⟨(some 21), (some (17, true)), .ld (.tmp 20)⟩,
   ⟨(some 22), (some (17, true)), .ibin .eql .i64 (.tmp 19) (.tmp 21)⟩,
   ⟨(some 23), none, .pick (.tmp 17) (.tmp 22) (.const (.bool false))⟩,
   ⟨(some 24), none, .mv (.tmp 23)⟩,
   ⟨(some 25), (some (24, true)), .fad 6 (.tmp 2)⟩,
   ⟨(some 26), (some (24, true)), .ld (.tmp 25)⟩,
   ⟨(some 27), (some (24, true)), .fad 6 (.tmp 3)⟩,
   ⟨(some 28), (some (24, true)), .ld (.tmp 27)⟩,
   ⟨(some 29), (some (24, true)), .ibin .eql .i64 (.tmp 26) (.tmp 28)⟩,
   ⟨(some 30), none, .pick (.tmp 24) (.tmp 29) (.const (.bool false))⟩,
   ⟨(some 31), none, .mv (.tmp 30)⟩,
   ⟨(some 32), (some (31, true)), .fad 3 (.tmp 2)⟩,
   ⟨(some 33), (some (31, true)), .ld (.tmp 32)⟩,
   ⟨(some 34), (some (31, true)), .fad 3 (.tmp 3)⟩,
   ⟨(some 35), (some (31, true)), .ld (.tmp 34)⟩,
   ⟨(some 36), (some (31, true)), .call 33 [(.tmp 33), (.tmp 35)]⟩,
   ⟨(some 37), none, .pick (.tmp 31) (.tmp 36) (.const (.bool false))⟩,
   ⟨(some 38), none, .mv (.tmp 37)⟩,
   ⟨(some 39), (some (38, true)), .fad 4 (.tmp 2)⟩,
   ⟨(some 40), (some (38, true)), .ld (.tmp 39)⟩,
   ⟨(some 41), (some (38, true)), .fad 4 (.tmp 3)⟩,
   ⟨(some 42), (some (38, true)), .ld (.tmp 41)⟩,
   ⟨(some 43), (some (38, true)), .call 33 [(.tmp 40), (.tmp 42)]⟩,
   ⟨(some 44), none, .pick (.tmp 38) (.tmp 43) (.const (.bool false))⟩,
   ⟨(some 4), none, .mv (.tmp 44)⟩])
 (.prune [4] .ret))))
theorem ok19 : fits Try.prog 19 ⟨s19, 45, [.tmp 4]⟩ = some ⟨s19, 45, [.tmp 4]⟩ := by kernel_rfl
theorem go19 {args : List Value} {w : World} {R : Value → World → Prop} (hle : Nat.ble args.length 45 = true) (h : vc Try.prog 45 s19 (argEnv args 0) w (fun L w => resL L w [.tmp 4] fun vs => oneOr vs fun v => R v w) (fun _ _ _ => False) (fun L w => resL L w [.tmp 4] fun vs => oneOr vs fun v => R v w)) : Cal Try.prog 19 ⟨args⟩ w R := cal_of mo ok19 hle h

-- footbridge/footbridgelaw27.greatReply
def s20 : S := (.seq (.row [⟨(some 1), none, .box 49 (.tmp 0)⟩,
   ⟨(some 2), none, .mv (.const (.bool false))⟩])
 (.prune [1] (.seq (.row [⟨(some 3), none, .fad 3 (.tmp 1)⟩,
   ⟨(some 4), none, .fad 1 (.tmp 3)⟩,
   ⟨(some 5), none, .ld (.tmp 4)⟩,
   ⟨(some 6), none, .fad 5 (.tmp 1)⟩,
   ⟨(some 7), none, .fad 1 (.tmp 6)⟩,
   ⟨(some 8), none, .ld (.tmp 7)⟩,
   ⟨(some 9), none, .fad 10 (.tmp 1)⟩,
   ⟨(some 10), none, .ld (.tmp 9)⟩,
   ⟨(some 11), none, .fad 13 (.tmp 1)⟩,
   ⟨(some 12), none, .ld (.tmp 11)⟩,
   ⟨(some 13), none, .bsl 34 4 [(.slice none 0 0), (.slice none 0 0), (.slice none 0 0), (.slice none 0 0)] [(0, 1), (1, 1), (2, 1), (3, 1)] [(.tmp 5), (.tmp 8), (.tmp 10), (.tmp 12)]⟩,
   ⟨(some 14), none, .call 15 [(.tmp 13)]⟩,
   ⟨(some 2), none, .mv (.tmp 14)⟩])
 (.prune [2] .ret))))
theorem ok20 : fits Try.prog 20 ⟨s20, 15, [.tmp 2]⟩ = some ⟨s20, 15, [.tmp 2]⟩ := by kernel_rfl
theorem go20 {args : List Value} {w : World} {R : Value → World → Prop} (hle : Nat.ble args.length 15 = true) (h : vc Try.prog 15 s20 (argEnv args 0) w (fun L w => resL L w [.tmp 2] fun vs => oneOr vs fun v => R v w) (fun _ _ _ => False) (fun L w => resL L w [.tmp 2] fun vs => oneOr vs fun v => R v w)) : Cal Try.prog 20 ⟨args⟩ w R := cal_of mo ok20 hle h

-- footbridge/codec.PutReply
def s21 : S := (.seq (.row [⟨(some 1), none, .box 49 (.tmp 0)⟩,
   ⟨(some 2), none, .mv (.const (.slice none 0 0))⟩,
   ⟨(some 3), none, .mv (.const (.bool false))⟩])
 (.prune [1] (.seq (.row [⟨(some 5), none, .bld [(.slice none 0 0)] [] []⟩,
   ⟨(some 6), none, .box 71 (.tmp 5)⟩,
   ⟨(some 4), none, .mv (.tmp 6)⟩])
 (.prune [1, 4] (.seq (.row [⟨(some 7), none, .mv (.tmp 4)⟩,
   ⟨(some 8), none, .mki 69 (.tmp 7)⟩,
   ⟨(some 9), none, .call 34 [(.tmp 8), (.tmp 1)]⟩])
 (.prune [4] (.seq (.row [⟨(some 10), none, .mv (.tmp 4)⟩,
   ⟨(some 11), none, .call 30 [(.tmp 10)]⟩,
   ⟨(some 12), none, .ext (.tmp 11) 0⟩,
   ⟨(some 13), none, .ext (.tmp 11) 1⟩,
   ⟨(some 2), none, .mv (.tmp 12)⟩,
   ⟨(some 3), none, .mv (.tmp 13)⟩])
 (.prune [2, 3] .ret))))))))
theorem ok21 : fits Try.prog 21 ⟨s21, 14, [.tmp 2, .tmp 3]⟩ = some ⟨s21, 14, [.tmp 2, .tmp 3]⟩ := by kernel_rfl
theorem go21 {args : List Value} {w : World} {R : Value → World → Prop} (hle : Nat.ble args.length 14 = true) (h : vc Try.prog 14 s21 (argEnv args 0) w (fun L w => resL L w [.tmp 2, .tmp 3] fun vs => oneOr vs fun v => R v w) (fun _ _ _ => False) (fun L w => resL L w [.tmp 2, .tmp 3] fun vs => oneOr vs fun v => R v w)) : Cal Try.prog 21 ⟨args⟩ w R := cal_of mo ok21 hle h

-- footbridge/footbridgeref25.SameReply
def s22 : S := (.seq (.row [⟨(some 2), none, .box 49 (.tmp 0)⟩,
   ⟨(some 3), none, .box 49 (.tmp 1)⟩,
   ⟨(some 4), none, .mv (.const (.bool false))⟩])
 (.prune [2, 3] (.seq (.row [⟨(some 5), none, .fad 0 (.tmp 2)⟩,
   ⟨(some 6), none, .ld (.tmp 5)⟩,
   ⟨(some 7), none, .fad 0 (.tmp 3)⟩,
   ⟨(some 8), none, .ld (.tmp 7)⟩,
   ⟨(some 9), none, .ibin .eql .i64 (.tmp 6) (.tmp 8)⟩,
   ⟨(some 10), none, .mv (.tmp 9)⟩,
   ⟨(some 11), (some (10, true)), .fad 1 (.tmp 2)⟩,
   ⟨(some 12), (some (10, true)), .ldn 2 (.tmp 11)⟩,
   ⟨(some 13), (some (10, true)), .fad 1 (.tmp 3)⟩,
   ⟨(some 14), (some (10, true)), .ldn 2 (.tmp 13)⟩,
   ⟨(some 15), (some (10, true)), .get (.eq .eql 33 (.tmp 12) (.tmp 14)) [(.tmp 12), (.tmp 14)]⟩,
   ⟨(some 16), none, .pick (.tmp 10) (.tmp 15) (.const (.bool false))⟩,
   ⟨(some 17), none, .mv (.tmp 16)⟩,
   ⟨(some 18), (some (17, true)), .fad 3 (.tmp 2)⟩,
   ⟨(some 19), (some (17, true)), .ldn 2 (.tmp 18)⟩,
   ⟨(some 20), (some (17, true)), .fad 3 (.tmp 3)⟩,
   ⟨(some 21), (some (17, true)), .ldn 2 (.tmp 20)⟩,
   ⟨(some 22), (some (17, true)), .call 35 [(.tmp 19), (.tmp 21)]⟩,
   ⟨(some 23), none, .pick (.tmp 17) (.tmp 22) (.const (.bool false))⟩,
   ⟨(some 24), none, .mv (.tmp 23)⟩,
   ⟨(some 25), (some (24, true)), .fad 5 (.tmp 2)⟩,
   ⟨(some 26), (some (24, true)), .ldn 2 (.tmp 25)⟩,
   ⟨(some 27), (some (24, true)), .fad 5 (.tmp 3)⟩,
   ⟨(some 28), (some (24, true)), .ldn 2 (.tmp 27)⟩,
   ⟨(some 29), (some (24, true)), .call 35 [(.tmp 26), (.tmp 28)]⟩,
   ⟨(some 30), none, .pick (.tmp 24) (.tmp 29) (.const (.bool false))⟩,
   ⟨(some 31), none, .mv (.tmp 30)⟩,
   ⟨(some 32), (some (31, true)), .fad 7 (.tmp 2)⟩,
   ⟨(some 33), (some (31, true)), .ld (.tmp 32)⟩,
   ⟨(some 34), (some (31, true)), .fad 7 (.tmp 3)⟩,
   ⟨(some 35), (some (31, true)), .ld (.tmp 34)⟩,
   ⟨(some 36), (some (31, true)), .ibin .eql .i64 (.tmp 33) (.tmp 35)⟩,
   ⟨(some 37), none, .pick (.tmp 31) (.tmp 36) (.const (.bool false))⟩,
   ⟨(some 38), none, .mv (.tmp 37)⟩,
   ⟨(some 39), (some (38, true)), .fad 8 (.tmp 2)⟩,
   ⟨(some 40), (some (38, true)), .ld (.tmp 39)⟩,
   ⟨(some 41), (some (38, true)), .fad 8 (.tmp 3)⟩,
   ⟨(some 42), (some (38, true)), .ld (.tmp 41)⟩,
   ⟨(some 43), (some (38, true)), .ibin .eql .i64 (.tmp 40) (.tmp 42)⟩,
   ⟨(some 44), none, .pick (.tmp 38) (.tmp 43) (.const (.bool false))⟩,
   ⟨(some 45), none, .mv (.tmp 44)⟩,
   ⟨(some 46), (some (45, true)), .fad 9 (.tmp 2)⟩,
   ⟨(some 47), (some (45, true)), .ld (.tmp 46)⟩,
   ⟨(some 48), (some (45, true)), .fad 9 (.tmp 3)⟩,
   ⟨(some 49), (some (45, true)), .ld (.tmp 48)⟩,
   ⟨(some 50), (some (45, true)), .ibin .eql .i64 (.tmp 47) (.tmp 49)⟩,
   ⟨(some 51), none, .pick (.tmp 45) (.tmp 50) (.const (.bool false))⟩,
   ⟨(some 52), none, .mv (.tmp 51)⟩,
   ⟨(some 53), (some (52, true)), .fad 10 (.tmp 2)⟩,
   ⟨(some 54), (some (52, true)), .ld (.tmp 53)⟩,
   ⟨(some 55), (some (52, true)), .fad 10 (.tmp 3)⟩,
   ⟨(some 56), (some (52, true)), .ld (.tmp 55)⟩,
   ⟨(some 57), (some (52, true)), .call 36 [(.tmp 54), (.tmp 56)]⟩,
   ⟨(some 58), none, .pick (.tmp 52) (.tmp 57) (.const (.bool false))⟩,
   ⟨(some 59), none, .mv (.tmp 58)⟩,
   ⟨(some 60), (some (59, true)), .fad 11 (.tmp 2)⟩,
   ⟨(some 61), (some (59, true)), .ld (.tmp 60)⟩,
   ⟨(some 62), (some (59, true)), .fad 11 (.tmp 3)⟩,
   ⟨(some 63), (some (59, true)), .ld (.tmp 62)⟩,
   ⟨(some 64), (some (59, true)), .ibin .eql .i64 (.tmp 61) (.tmp 63)⟩,
   ⟨(some 65), none, .pick (.tmp 59) (.tmp 64) (.const (.bool false))⟩,
   ⟨(some 66), none, .mv (.tmp 65)⟩,
   ⟨(some 67), (some (66, true)), .fad 12 (.tmp 2)⟩,
   ⟨(some 68), (some (66, true)), .ld (.tmp 67)⟩,
   ⟨(some 69), (some (66, true)), .fad 12 (.tmp 3)⟩,
   ⟨(some 70), (some (66, true)), .ld (.tmp 69)⟩,
   ⟨(some 71), (some (66, true)), .ibin .eql .i64 (.tmp 68) (.tmp 70)⟩,
   ⟨(some 72), none, .pick (.tmp 66) (.tmp 71) (.const (.bool false))⟩,
   ⟨(some 73), none, .mv (.tmp 72)⟩,
   ⟨(some 74), (some (73, true)), .fad 13 (.tmp 2)⟩,
   ⟨(some 75), (some (73, true)), .ld (.tmp 74)⟩,
   ⟨(some 76), (some (73, true)), .fad 13 (.tmp 3)⟩,
   ⟨(some 77), (some (73, true)), .ld (.tmp 76)⟩,
   ⟨(some 78), (some (73, true)), .call 36 [(.tmp 75), (.tmp 77)]⟩,
   ⟨(some 79), none, .pick (.tmp 73) (.tmp 78) (.const (.bool false))⟩,
   ⟨(some 4), none, .mv (.tmp 79)⟩])
 (.prune [4] .ret))))
theorem ok22 : fits Try.prog 22 ⟨s22, 80, [.tmp 4]⟩ = some ⟨s22, 80, [.tmp 4]⟩ := by kernel_rfl
theorem go22 {args : List Value} {w : World} {R : Value → World → Prop} (hle : Nat.ble args.length 80 = true) (h : vc Try.prog 80 s22 (argEnv args 0) w (fun L w => resL L w [.tmp 4] fun vs => oneOr vs fun v => R v w) (fun _ _ _ => False) (fun L w => resL L w [.tmp 4] fun vs => oneOr vs fun v => R v w)) : Cal Try.prog 22 ⟨args⟩ w R := cal_of mo ok22 hle h

-- footbridge/codec.GetReply
def s23 : S := (.seq (.row [⟨(some 2), none, .new [(.int .i64 0), (.int .i64 0), (.int .i64 0), (.int .i64 0), (.slice none 0 0), (.int .i64 0), (.slice none 0 0), (.int .i64 0), (.int .i64 0), (.int .i64 0), (.slice none 0 0), (.int .i64 0), (.int .i64 0), (.slice none 0 0)] 49⟩,
   ⟨(some 3), none, .mv (.const (.bool false))⟩])
 (.prune [0, 2] (.seq (.row [⟨(some 4), none, .new [(.int .i64 0), (.int .i64 0), (.int .i64 0), (.int .i64 0), (.slice none 0 0), (.int .i64 0), (.slice none 0 0), (.int .i64 0), (.int .i64 0), (.int .i64 0), (.slice none 0 0), (.int .i64 0), (.int .i64 0), (.slice none 0 0)] 49⟩])
 (.prune [0, 4, 2] (.seq (.row [⟨(some 6), none, .mv (.tmp 0)⟩,
   ⟨(some 7), none, .mv (.tmp 0)⟩,
   ⟨(some 8), none, .lenA (.tmp 7)⟩,
   ⟨(some 9), none, .ibin .gtr .i64 (.tmp 8) (.const (.int .i64 65536))⟩,
   ⟨(some 10), none, .bld [(.slice none 0 0), (.bool false)] [(0, 1), (1, 1)] [(.tmp 6), (.tmp 9)]⟩,
   ⟨(some 11), none, .box 77 (.tmp 10)⟩,
   ⟨(some 5), none, .mv (.tmp 11)⟩])
 (.prune [5, 4, 2] (.seq (.row [⟨(some 12), none, .mv (.tmp 5)⟩,
   ⟨(some 13), none, .mki 75 (.tmp 12)⟩,
   ⟨(some 14), none, .call 34 [(.tmp 13), (.tmp 4)]⟩])
 (.prune [5, 4, 2] (.seq (.seq (.row [⟨(some 15), none, .mv (.tmp 5)⟩,
   ⟨(some 16), none, .call 31 [(.tmp 15)]⟩,
   ⟨(some 17), none, .notB (.tmp 16)⟩])
 (.prune [17, 4, 2] (.cond (.tmp 17)
  (.seq (.row [⟨(some 18), none, .bld [(.int .i64 0), (.int .i64 0), (.int .i64 0), (.int .i64 0), (.slice none 0 0), (.int .i64 0), (.slice none 0 0), (.int .i64 0), (.int .i64 0), (.int .i64 0), (.slice none 0 0), (.int .i64 0), (.int .i64 0), (.slice none 0 0)] [] []⟩,
    ⟨none, none, .stn 14 (.tmp 2) (.tmp 18)⟩,
    ⟨(some 3), none, .mv (.const (.bool false))⟩])
  (.prune [2, 3] .ret))
  .skip)))
 (.prune [4, 2] (.seq (.row [⟨(some 19), none, .ldn 14 (.tmp 4)⟩,
   ⟨none, none, .stn 14 (.tmp 2) (.tmp 19)⟩,
   ⟨(some 3), none, .mv (.const (.bool true))⟩])
 (.prune [2, 3] .ret))))))))))))
theorem ok23 : fits Try.prog 23 ⟨s23, 20, [.cell 2 (some 14), .tmp 3]⟩ = some ⟨s23, 20, [.cell 2 (some 14), .tmp 3]⟩ := by kernel_rfl
theorem go23 {args : List Value} {w : World} {R : Value → World → Prop} (hle : Nat.ble args.length 20 = true) (h : vc Try.prog 20 s23 (argEnv args 0) w (fun L w => resL L w [.cell 2 (some 14), .tmp 3] fun vs => oneOr vs fun v => R v w) (fun _ _ _ => False) (fun L w => resL L w [.cell 2 (some 14), .tmp 3] fun vs => oneOr vs fun v => R v w)) : Cal Try.prog 23 ⟨args⟩ w R := cal_of mo ok23 hle h

-- footbridge/footbridgeref27.Reply
def s24 : S := (.seq (.row [⟨(some 1), none, .box 49 (.tmp 0)⟩,
   ⟨(some 2), none, .mv (.const (.string ⟨#[]⟩))⟩])
 (.prune [1] (.seq (.draw (.take 0 ⟨(some 4), none, .fad 0 (.tmp 1)⟩ (.take 1 ⟨(some 5), none, .ld (.tmp 4)⟩ (.take 3 ⟨(some 7), none, .fad 1 (.tmp 1)⟩ (.take 4 ⟨(some 8), none, .fad 0 (.tmp 7)⟩ (.take 5 ⟨(some 9), none, .ld (.tmp 8)⟩ (.take 8 ⟨(some 12), none, .fad 1 (.tmp 1)⟩ (.take 9 ⟨(some 13), none, .fad 1 (.tmp 12)⟩ (.take 10 ⟨(some 14), none, .ld (.tmp 13)⟩ (.take 13 ⟨(some 17), none, .fad 3 (.tmp 1)⟩ (.take 14 ⟨(some 18), none, .ldn 2 (.tmp 17)⟩ (.take 17 ⟨(some 21), none, .fad 5 (.tmp 1)⟩ (.take 18 ⟨(some 22), none, .ldn 2 (.tmp 21)⟩ (.step 2 true ⟨(some 6), none, .call 14 [(.tmp 5)]⟩ (.step 6 true ⟨(some 10), none, .call 14 [(.tmp 9)]⟩ (.take 7 ⟨(some 11), none, .sbin .add (.tmp 6) (.tmp 10)⟩ (.step 11 true ⟨(some 15), none, .call 14 [(.tmp 14)]⟩ (.take 12 ⟨(some 16), none, .sbin .add (.tmp 11) (.tmp 15)⟩ (.step 15 true ⟨(some 19), none, .call 37 [(.tmp 18)]⟩ (.take 16 ⟨(some 20), none, .sbin .add (.tmp 16) (.tmp 19)⟩ (.step 19 true ⟨(some 23), none, .call 37 [(.tmp 22)]⟩ (.take 20 ⟨(some 24), none, .sbin .add (.tmp 20) (.tmp 23)⟩ (.take 21 ⟨(some 3), none, .mv (.tmp 24)⟩ .done)))))))))))))))))))))))
 (.prune [3, 1] (.seq (.draw (.take 0 ⟨(some 25), none, .mv (.tmp 3)⟩ (.take 1 ⟨(some 26), none, .fad 7 (.tmp 1)⟩ (.take 2 ⟨(some 27), none, .ld (.tmp 26)⟩ (.take 5 ⟨(some 30), none, .fad 8 (.tmp 1)⟩ (.take 6 ⟨(some 31), none, .ld (.tmp 30)⟩ (.take 9 ⟨(some 34), none, .fad 9 (.tmp 1)⟩ (.take 10 ⟨(some 35), none, .ld (.tmp 34)⟩ (.take 13 ⟨(some 38), none, .fad 10 (.tmp 1)⟩ (.take 14 ⟨(some 39), none, .ld (.tmp 38)⟩ (.take 17 ⟨(some 42), none, .fad 11 (.tmp 1)⟩ (.take 18 ⟨(some 43), none, .ld (.tmp 42)⟩ (.take 21 ⟨(some 46), none, .fad 12 (.tmp 1)⟩ (.take 22 ⟨(some 47), none, .ld (.tmp 46)⟩ (.take 25 ⟨(some 50), none, .fad 13 (.tmp 1)⟩ (.take 26 ⟨(some 51), none, .ld (.tmp 50)⟩ (.step 3 true ⟨(some 28), none, .call 14 [(.tmp 27)]⟩ (.take 4 ⟨(some 29), none, .sbin .add (.tmp 25) (.tmp 28)⟩ (.step 7 true ⟨(some 32), none, .call 14 [(.tmp 31)]⟩ (.take 8 ⟨(some 33), none, .sbin .add (.tmp 29) (.tmp 32)⟩ (.step 11 true ⟨(some 36), none, .call 14 [(.tmp 35)]⟩ (.take 12 ⟨(some 37), none, .sbin .add (.tmp 33) (.tmp 36)⟩ (.step 15 true ⟨(some 40), none, .call 32 [(.tmp 39)]⟩ (.take 16 ⟨(some 41), none, .sbin .add (.tmp 37) (.tmp 40)⟩ (.step 19 true ⟨(some 44), none, .call 14 [(.tmp 43)]⟩ (.take 20 ⟨(some 45), none, .sbin .add (.tmp 41) (.tmp 44)⟩ (.step 23 true ⟨(some 48), none, .call 14 [(.tmp 47)]⟩ (.take 24 ⟨(some 49), none, .sbin .add (.tmp 45) (.tmp 48)⟩ (.step 27 true ⟨(some 52), none, .call 32 [(.tmp 51)]⟩ (.take 28 ⟨(some 53), none, .sbin .add (.tmp 49) (.tmp 52)⟩ (.take 29 ⟨(some 2), none, .mv (.tmp 53)⟩ .done)))))))))))))))))))))))))))))))
 (.prune [2] .ret))))))
theorem ok24 : fits Try.prog 24 ⟨s24, 54, [.tmp 2]⟩ = some ⟨s24, 54, [.tmp 2]⟩ := by kernel_rfl
theorem go24 {args : List Value} {w : World} {R : Value → World → Prop} (hle : Nat.ble args.length 54 = true) (h : vc Try.prog 54 s24 (argEnv args 0) w (fun L w => resL L w [.tmp 2] fun vs => oneOr vs fun v => R v w) (fun _ _ _ => False) (fun L w => resL L w [.tmp 2] fun vs => oneOr vs fun v => R v w)) : Cal Try.prog 24 ⟨args⟩ w R := cal_of mo ok24 hle h

-- footbridge/footbridgeref27.GetEvent
def s25 : S := (.seq (.row [⟨(some 2), none, .new [(.int .i64 0), (.int .i64 0), (.int .i64 0), (.slice none 0 0), (.slice none 0 0), (.int .i64 0), (.int .i64 0)] 36⟩,
   ⟨(some 3), none, .mv (.const (.bool false))⟩])
 (.prune [0, 2] (.seq (.row [⟨(some 8), none, .bld [(.int .i64 0), (.int .i64 0), (.int .i64 0), (.slice none 0 0), (.slice none 0 0), (.int .i64 0), (.int .i64 0)] [] []⟩,
   ⟨(some 4), none, .new [(.int .i64 0), (.int .i64 0), (.int .i64 0), (.slice none 0 0), (.slice none 0 0), (.int .i64 0), (.int .i64 0)] 36⟩,
   ⟨none, none, .stn 7 (.tmp 4) (.tmp 8)⟩])
 (.prune [0, 4, 2] (.seq (.seq (.row [⟨(some 9), none, .mv (.tmp 0)⟩,
   ⟨(some 10), none, .lenS (.tmp 9)⟩,
   ⟨(some 11), none, .ibin .gtr .i64 (.tmp 10) (.const (.int .i64 65536))⟩])
 (.prune [11, 0, 4, 2] (.cond (.tmp 11)
  (.seq (.row [⟨(some 12), none, .ldn 7 (.tmp 4)⟩,
    ⟨none, none, .stn 7 (.tmp 2) (.tmp 12)⟩,
    ⟨(some 3), none, .mv (.const (.bool false))⟩])
  (.prune [2, 3] .ret))
  .skip)))
 (.prune [0, 4, 2] (.seq (.row [⟨(some 13), none, .mv (.tmp 0)⟩,
   ⟨(some 14), none, .call 38 [(.tmp 13), (.const (.int .i64 5))]⟩,
   ⟨(some 5), none, .new [(.slice none 0 0), (.string ⟨#[]⟩), (.bool false)] 85⟩,
   ⟨none, none, .stn 3 (.tmp 5) (.tmp 14)⟩])
 (.prune [5, 4, 2] (.seq (.seq (.row [⟨(some 15), none, .fad 2 (.tmp 5)⟩,
   ⟨(some 16), none, .ld (.tmp 15)⟩,
   ⟨(some 17), none, .notB (.tmp 16)⟩])
 (.prune [17, 5, 4, 2] (.cond (.tmp 17)
  (.seq (.row [⟨(some 18), none, .ldn 7 (.tmp 4)⟩,
    ⟨none, none, .stn 7 (.tmp 2) (.tmp 18)⟩,
    ⟨(some 3), none, .mv (.const (.bool false))⟩])
  (.prune [2, 3] .ret))
  .skip)))
 (.prune [5, 4, 2] (.seq (.row [⟨(some 19), none, .fad 1 (.tmp 5)⟩,
   ⟨(some 20), none, .ld (.tmp 19)⟩,
   ⟨(some 21), none, .call 39 [(.tmp 20)]⟩,
   ⟨(some 6), none, .new [(.slice none 0 0), (.string ⟨#[]⟩), (.bool false)] 85⟩,
   ⟨none, none, .stn 3 (.tmp 6) (.tmp 21)⟩])
 (.prune [5, 6, 4, 2] (.seq (.seq (.row [⟨(some 22), none, .fad 2 (.tmp 6)⟩,
   ⟨(some 23), none, .ld (.tmp 22)⟩,
   ⟨(some 24), none, .notB (.tmp 23)⟩])
 (.prune [24, 5, 6, 4, 2] (.cond (.tmp 24)
  (.seq (.row [⟨(some 25), none, .ldn 7 (.tmp 4)⟩,
    ⟨none, none, .stn 7 (.tmp 2) (.tmp 25)⟩,
    ⟨(some 3), none, .mv (.const (.bool false))⟩])
  (.prune [2, 3] .ret))
  .skip)))
 (.prune [6, 5, 4, 2] (.seq (.row [⟨(some 26), none, .fad 1 (.tmp 6)⟩,
   ⟨(some 27), none, .ld (.tmp 26)⟩,
   ⟨(some 28), none, .call 39 [(.tmp 27)]⟩,
   ⟨(some 7), none, .new [(.slice none 0 0), (.string ⟨#[]⟩), (.bool false)] 85⟩,
   ⟨none, none, .stn 3 (.tmp 7) (.tmp 28)⟩])
 (.prune [7, 6, 5, 4, 2] (.seq (.seq (.row [⟨(some 29), none, .fad 2 (.tmp 7)⟩,
   ⟨(some 30), none, .ld (.tmp 29)⟩,
   ⟨(some 31), none, .notB (.tmp 30)⟩,
   ⟨(some 32), none, .mv (.tmp 31)⟩,
   ⟨(some 33), (some (32, false)), .fad 1 (.tmp 7)⟩,
   ⟨(some 34), (some (32, false)), .ld (.tmp 33)⟩,
   ⟨(some 35), (some (32, false)), .sbin .neq (.tmp 34) (.const (.string ⟨#[]⟩))⟩,
   ⟨(some 36), none, .pick (.tmp 32) (.const (.bool true)) (.tmp 35)⟩])
 (.prune [36, 7, 6, 5, 4, 2] (.cond (.tmp 36)
  (.seq (.row [⟨(some 37), none, .ldn 7 (.tmp 4)⟩,
    ⟨none, none, .stn 7 (.tmp 2) (.tmp 37)⟩,
    ⟨(some 3), none, .mv (.const (.bool false))⟩])
  (.prune [2, 3] .ret))
  .skip)))
 (.prune [5, 6, 7, 2] (.seq (.draw (.take 0 ⟨(some 38), none, .fad 0 (.tmp 5)⟩ (.take 1 ⟨(some 39), none, .ld (.tmp 38)⟩ (.take 2 ⟨(some 40), none, .ixA 1 (.tmp 39) (.const (.int .i64 0))⟩ (.take 3 ⟨(some 41), none, .ld (.tmp 40)⟩ (.take 4 ⟨(some 42), none, .fad 0 (.tmp 5)⟩ (.take 5 ⟨(some 43), none, .ld (.tmp 42)⟩ (.take 6 ⟨(some 44), none, .ixA 1 (.tmp 43) (.const (.int .i64 1))⟩ (.take 7 ⟨(some 45), none, .ld (.tmp 44)⟩ (.take 8 ⟨(some 46), none, .fad 0 (.tmp 5)⟩ (.take 9 ⟨(some 47), none, .ld (.tmp 46)⟩ (.take 10 ⟨(some 48), none, .ixA 1 (.tmp 47) (.const (.int .i64 2))⟩ (.take 11 ⟨(some 49), none, .ld (.tmp 48)⟩ (.take 12 ⟨(some 50), none, .bld [(.int .i64 0), (.int .i64 0)] [(0, 1), (1, 1)] [(.tmp 45), (.tmp 49)]⟩ (.take 13 ⟨(some 51), none, .fad 0 (.tmp 5)⟩ (.take 14 ⟨(some 52), none, .ld (.tmp 51)⟩ (.take 15 ⟨(some 53), none, .ixA 1 (.tmp 52) (.const (.int .i64 3))⟩ (.take 16 ⟨(some 54), none, .ld (.tmp 53)⟩ (.take 17 ⟨(some 55), none, .fad 0 (.tmp 5)⟩ (.take 18 ⟨(some 56), none, .ld (.tmp 55)⟩ (.take 19 ⟨(some 57), none, .ixA 1 (.tmp 56) (.const (.int .i64 4))⟩ (.take 20 ⟨(some 58), none, .ld (.tmp 57)⟩ (.take 21 ⟨(some 59), none, .fad 0 (.tmp 6)⟩ (.take 22 ⟨(some 60), none, .ld (.tmp 59)⟩ (.take 23 ⟨(some 61), none, .fad 0 (.tmp 7)⟩ (.take 24 ⟨(some 62), none, .ld (.tmp 61)⟩ (.take 25 ⟨(some 63), none, .bld [(.int .i64 0), (.int .i64 0), (.int .i64 0), (.slice none 0 0), (.slice none 0 0), (.int .i64 0), (.int .i64 0)] [(0, 1), (1, 2), (5, 1), (6, 1), (3, 1), (4, 1)] [(.tmp 41), (.tmp 50), (.tmp 54), (.tmp 58), (.tmp 60), (.tmp 62)]⟩ (.step 26 false ⟨none, none, .stn 7 (.tmp 2) (.tmp 63)⟩ (.take 27 ⟨(some 3), none, .mv (.const (.bool true))⟩ .done)))))))))))))))))))))))))))))
 (.prune [2, 3] .ret))))))))))))))))))))
theorem ok25 : fits Try.prog 25 ⟨s25, 64, [.cell 2 (some 7), .tmp 3]⟩ = some ⟨s25, 64, [.cell 2 (some 7), .tmp 3]⟩ := by kernel_rfl
theorem go25 {args : List Value} {w : World} {R : Value → World → Prop} (hle : Nat.ble args.length 64 = true) (h : vc Try.prog 64 s25 (argEnv args 0) w (fun L w => resL L w [.cell 2 (some 7), .tmp 3] fun vs => oneOr vs fun v => R v w) (fun _ _ _ => False) (fun L w => resL L w [.cell 2 (some 7), .tmp 3] fun vs => oneOr vs fun v => R v w)) : Cal Try.prog 25 ⟨args⟩ w R := cal_of mo ok25 hle h

-- footbridge/footbridgeref27.GetReply
def s26 : S := (.seq (.row [⟨(some 2), none, .new [(.int .i64 0), (.int .i64 0), (.int .i64 0), (.int .i64 0), (.slice none 0 0), (.int .i64 0), (.slice none 0 0), (.int .i64 0), (.int .i64 0), (.int .i64 0), (.slice none 0 0), (.int .i64 0), (.int .i64 0), (.slice none 0 0)] 49⟩,
   ⟨(some 3), none, .mv (.const (.bool false))⟩])
 (.prune [0, 2] (.seq (.row [⟨(some 13), none, .bld [(.int .i64 0), (.int .i64 0), (.int .i64 0), (.int .i64 0), (.slice none 0 0), (.int .i64 0), (.slice none 0 0), (.int .i64 0), (.int .i64 0), (.int .i64 0), (.slice none 0 0), (.int .i64 0), (.int .i64 0), (.slice none 0 0)] [] []⟩,
   ⟨(some 4), none, .new [(.int .i64 0), (.int .i64 0), (.int .i64 0), (.int .i64 0), (.slice none 0 0), (.int .i64 0), (.slice none 0 0), (.int .i64 0), (.int .i64 0), (.int .i64 0), (.slice none 0 0), (.int .i64 0), (.int .i64 0), (.slice none 0 0)] 49⟩,
   ⟨none, none, .stn 14 (.tmp 4) (.tmp 13)⟩])
 (.prune [0, 4, 2] (.seq (.seq (.row [⟨(some 14), none, .mv (.tmp 0)⟩,
   ⟨(some 15), none, .lenS (.tmp 14)⟩,
   ⟨(some 16), none, .ibin .gtr .i64 (.tmp 15) (.const (.int .i64 65536))⟩])
 (.prune [16, 0, 4, 2] (.cond (.tmp 16)
  (.seq (.row [⟨(some 17), none, .ldn 14 (.tmp 4)⟩,
    ⟨none, none, .stn 14 (.tmp 2) (.tmp 17)⟩,
    ⟨(some 3), none, .mv (.const (.bool false))⟩])
  (.prune [2, 3] .ret))
  .skip)))
 (.prune [0, 4, 2] (.seq (.row [⟨(some 18), none, .mv (.tmp 0)⟩,
   ⟨(some 19), none, .call 38 [(.tmp 18), (.const (.int .i64 4))]⟩,
   ⟨(some 5), none, .new [(.slice none 0 0), (.string ⟨#[]⟩), (.bool false)] 85⟩,
   ⟨none, none, .stn 3 (.tmp 5) (.tmp 19)⟩])
 (.prune [5, 4, 2] (.seq (.seq (.row [⟨(some 20), none, .fad 2 (.tmp 5)⟩,
   ⟨(some 21), none, .ld (.tmp 20)⟩,
   ⟨(some 22), none, .notB (.tmp 21)⟩])
 (.prune [22, 5, 4, 2] (.cond (.tmp 22)
  (.seq (.row [⟨(some 23), none, .ldn 14 (.tmp 4)⟩,
    ⟨none, none, .stn 14 (.tmp 2) (.tmp 23)⟩,
    ⟨(some 3), none, .mv (.const (.bool false))⟩])
  (.prune [2, 3] .ret))
  .skip)))
 (.prune [5, 4, 2] (.seq (.row [⟨(some 24), none, .fad 1 (.tmp 5)⟩,
   ⟨(some 25), none, .ld (.tmp 24)⟩,
   ⟨(some 26), none, .call 39 [(.tmp 25)]⟩,
   ⟨(some 6), none, .new [(.slice none 0 0), (.string ⟨#[]⟩), (.bool false)] 85⟩,
   ⟨none, none, .stn 3 (.tmp 6) (.tmp 26)⟩])
 (.prune [6, 5, 4, 2] (.seq (.seq (.row [⟨(some 27), none, .fad 2 (.tmp 6)⟩,
   ⟨(some 28), none, .ld (.tmp 27)⟩,
   ⟨(some 29), none, .notB (.tmp 28)⟩])
 (.prune [29, 6, 5, 4, 2] (.cond (.tmp 29)
  (.seq (.row [⟨(some 30), none, .ldn 14 (.tmp 4)⟩,
    ⟨none, none, .stn 14 (.tmp 2) (.tmp 30)⟩,
    ⟨(some 3), none, .mv (.const (.bool false))⟩])
  (.prune [2, 3] .ret))
  .skip)))
 (.prune [5, 6, 4, 2] (.seq (.row [⟨(some 31), none, .fad 1 (.tmp 6)⟩,
   ⟨(some 32), none, .ld (.tmp 31)⟩,
   ⟨(some 33), none, .call 38 [(.tmp 32), (.const (.int .i64 1))]⟩,
   ⟨(some 7), none, .new [(.slice none 0 0), (.string ⟨#[]⟩), (.bool false)] 85⟩,
   ⟨none, none, .stn 3 (.tmp 7) (.tmp 33)⟩])
 (.prune [5, 6, 7, 4, 2] (.seq (.seq (.row [⟨(some 34), none, .fad 2 (.tmp 7)⟩,
   ⟨(some 35), none, .ld (.tmp 34)⟩,
   ⟨(some 36), none, .notB (.tmp 35)⟩])
 (.prune [36, 5, 6, 7, 4, 2] (.cond (.tmp 36)
  (.seq (.row [⟨(some 37), none, .ldn 14 (.tmp 4)⟩,
    ⟨none, none, .stn 14 (.tmp 2) (.tmp 37)⟩,
    ⟨(some 3), none, .mv (.const (.bool false))⟩])
  (.prune [2, 3] .ret))
  .skip)))
 (.prune [7, 6, 5, 4, 2] (.seq (.row [⟨(some 38), none, .fad 1 (.tmp 7)⟩,
   ⟨(some 39), none, .ld (.tmp 38)⟩,
   ⟨(some 40), none, .call 39 [(.tmp 39)]⟩,
   ⟨(some 8), none, .new [(.slice none 0 0), (.string ⟨#[]⟩), (.bool false)] 85⟩,
   ⟨none, none, .stn 3 (.tmp 8) (.tmp 40)⟩])
 (.prune [8, 7, 6, 5, 4, 2] (.seq (.seq (.row [⟨(some 41), none, .fad 2 (.tmp 8)⟩,
   ⟨(some 42), none, .ld (.tmp 41)⟩,
   ⟨(some 43), none, .notB (.tmp 42)⟩])
 (.prune [43, 8, 7, 6, 5, 4, 2] (.cond (.tmp 43)
  (.seq (.row [⟨(some 44), none, .ldn 14 (.tmp 4)⟩,
    ⟨none, none, .stn 14 (.tmp 2) (.tmp 44)⟩,
    ⟨(some 3), none, .mv (.const (.bool false))⟩])
  (.prune [2, 3] .ret))
  .skip)))
 (.prune [5, 6, 7, 8, 4, 2] (.seq (.row [⟨(some 45), none, .fad 1 (.tmp 8)⟩,
   ⟨(some 46), none, .ld (.tmp 45)⟩,
   ⟨(some 47), none, .call 38 [(.tmp 46), (.const (.int .i64 3))]⟩,
   ⟨(some 9), none, .new [(.slice none 0 0), (.string ⟨#[]⟩), (.bool false)] 85⟩,
   ⟨none, none, .stn 3 (.tmp 9) (.tmp 47)⟩])
 (.prune [5, 6, 7, 8, 9, 4, 2] (.seq (.seq (.row [⟨(some 48), none, .fad 2 (.tmp 9)⟩,
   ⟨(some 49), none, .ld (.tmp 48)⟩,
   ⟨(some 50), none, .notB (.tmp 49)⟩])
 (.prune [50, 5, 6, 7, 8, 9, 4, 2] (.cond (.tmp 50)
  (.seq (.row [⟨(some 51), none, .ldn 14 (.tmp 4)⟩,
    ⟨none, none, .stn 14 (.tmp 2) (.tmp 51)⟩,
    ⟨(some 3), none, .mv (.const (.bool false))⟩])
  (.prune [2, 3] .ret))
  .skip)))
 (.prune [9, 8, 7, 6, 5, 4, 2] (.seq (.row [⟨(some 52), none, .fad 1 (.tmp 9)⟩,
   ⟨(some 53), none, .ld (.tmp 52)⟩,
   ⟨(some 54), none, .call 39 [(.tmp 53)]⟩,
   ⟨(some 10), none, .new [(.slice none 0 0), (.string ⟨#[]⟩), (.bool false)] 85⟩,
   ⟨none, none, .stn 3 (.tmp 10) (.tmp 54)⟩])
 (.prune [10, 9, 8, 7, 6, 5, 4, 2] (.seq (.seq (.row [⟨(some 55), none, .fad 2 (.tmp 10)⟩,
   ⟨(some 56), none, .ld (.tmp 55)⟩,
   ⟨(some 57), none, .notB (.tmp 56)⟩])
 (.prune [57, 10, 9, 8, 7, 6, 5, 4, 2] (.cond (.tmp 57)
  (.seq (.row [⟨(some 58), none, .ldn 14 (.tmp 4)⟩,
    ⟨none, none, .stn 14 (.tmp 2) (.tmp 58)⟩,
    ⟨(some 3), none, .mv (.const (.bool false))⟩])
  (.prune [2, 3] .ret))
  .skip)))
 (.prune [5, 6, 7, 8, 9, 10, 4, 2] (.seq (.row [⟨(some 59), none, .fad 1 (.tmp 10)⟩,
   ⟨(some 60), none, .ld (.tmp 59)⟩,
   ⟨(some 61), none, .call 38 [(.tmp 60), (.const (.int .i64 2))]⟩,
   ⟨(some 11), none, .new [(.slice none 0 0), (.string ⟨#[]⟩), (.bool false)] 85⟩,
   ⟨none, none, .stn 3 (.tmp 11) (.tmp 61)⟩])
 (.prune [5, 6, 7, 8, 9, 10, 11, 4, 2] (.seq (.seq (.row [⟨(some 62), none, .fad 2 (.tmp 11)⟩,
   ⟨(some 63), none, .ld (.tmp 62)⟩,
   ⟨(some 64), none, .notB (.tmp 63)⟩])
 (.prune [64, 5, 6, 7, 8, 9, 10, 11, 4, 2] (.cond (.tmp 64)
  (.seq (.row [⟨(some 65), none, .ldn 14 (.tmp 4)⟩,
    ⟨none, none, .stn 14 (.tmp 2) (.tmp 65)⟩,
    ⟨(some 3), none, .mv (.const (.bool false))⟩])
  (.prune [2, 3] .ret))
  .skip)))
 (.prune [11, 10, 9, 8, 7, 6, 5, 4, 2] (.seq (.row [⟨(some 66), none, .fad 1 (.tmp 11)⟩,
   ⟨(some 67), none, .ld (.tmp 66)⟩,
   ⟨(some 68), none, .call 39 [(.tmp 67)]⟩,
   ⟨(some 12), none, .new [(.slice none 0 0), (.string ⟨#[]⟩), (.bool false)] 85⟩,
   ⟨none, none, .stn 3 (.tmp 12) (.tmp 68)⟩])
 (.prune [12, 11, 10, 9, 8, 7, 6, 5, 4, 2] (.seq (.seq (.row [⟨(some 69), none, .fad 2 (.tmp 12)⟩,
   ⟨(some 70), none, .ld (.tmp 69)⟩,
   ⟨(some 71), none, .notB (.tmp 70)⟩,
   ⟨(some 72), none, .mv (.tmp 71)⟩,
   ⟨(some 73), (some (72, false)), .fad 1 (.tmp 12)⟩,
   ⟨(some 74), (some (72, false)), .ld (.tmp 73)⟩,
   ⟨(some 75), (some (72, false)), .sbin .neq (.tmp 74) (.const (.string ⟨#[]⟩))⟩,
   ⟨(some 76), none, .pick (.tmp 72) (.const (.bool true)) (.tmp 75)⟩])
 (.prune [76, 12, 11, 10, 9, 8, 7, 6, 5, 4, 2] (.cond (.tmp 76)
  (.seq (.row [⟨(some 77), none, .ldn 14 (.tmp 4)⟩,
    ⟨none, none, .stn 14 (.tmp 2) (.tmp 77)⟩,
    ⟨(some 3), none, .mv (.const (.bool false))⟩])
  (.prune [2, 3] .ret))
  .skip)))
 (.prune [5, 6, 7, 8, 9, 10, 11, 12, 2] (.seq (.draw (.take 0 ⟨(some 78), none, .fad 0 (.tmp 5)⟩ (.take 1 ⟨(some 79), none, .ld (.tmp 78)⟩ (.take 2 ⟨(some 80), none, .ixA 1 (.tmp 79) (.const (.int .i64 0))⟩ (.take 3 ⟨(some 81), none, .ld (.tmp 80)⟩ (.take 4 ⟨(some 82), none, .fad 0 (.tmp 5)⟩ (.take 5 ⟨(some 83), none, .ld (.tmp 82)⟩ (.take 6 ⟨(some 84), none, .ixA 1 (.tmp 83) (.const (.int .i64 1))⟩ (.take 7 ⟨(some 85), none, .ld (.tmp 84)⟩ (.take 8 ⟨(some 86), none, .fad 0 (.tmp 5)⟩ (.take 9 ⟨(some 87), none, .ld (.tmp 86)⟩ (.take 10 ⟨(some 88), none, .ixA 1 (.tmp 87) (.const (.int .i64 2))⟩ (.take 11 ⟨(some 89), none, .ld (.tmp 88)⟩ (.take 12 ⟨(some 90), none, .bld [(.int .i64 0), (.int .i64 0)] [(0, 1), (1, 1)] [(.tmp 85), (.tmp 89)]⟩ (.take 13 ⟨(some 91), none, .fad 0 (.tmp 5)⟩ (.take 14 ⟨(some 92), none, .ld (.tmp 91)⟩ (.take 15 ⟨(some 93), none, .ixA 1 (.tmp 92) (.const (.int .i64 3))⟩ (.take 16 ⟨(some 94), none, .ld (.tmp 93)⟩ (.take 17 ⟨(some 95), none, .fad 0 (.tmp 6)⟩ (.take 18 ⟨(some 96), none, .ld (.tmp 95)⟩ (.take 19 ⟨(some 97), none, .bld [(.int .i64 0), (.slice none 0 0)] [(0, 1), (1, 1)] [(.tmp 94), (.tmp 96)]⟩ (.take 20 ⟨(some 98), none, .fad 0 (.tmp 7)⟩ (.take 21 ⟨(some 99), none, .ld (.tmp 98)⟩ (.take 22 ⟨(some 100), none, .ixA 1 (.tmp 99) (.const (.int .i64 0))⟩ (.take 23 ⟨(some 101), none, .ld (.tmp 100)⟩ (.take 24 ⟨(some 102), none, .fad 0 (.tmp 8)⟩ (.take 25 ⟨(some 103), none, .ld (.tmp 102)⟩ (.take 26 ⟨(some 104), none, .bld [(.int .i64 0), (.slice none 0 0)] [(0, 1), (1, 1)] [(.tmp 101), (.tmp 103)]⟩ (.take 27 ⟨(some 105), none, .fad 0 (.tmp 9)⟩ (.take 28 ⟨(some 106), none, .ld (.tmp 105)⟩ (.take 29 ⟨(some 107), none, .ixA 1 (.tmp 106) (.const (.int .i64 0))⟩ (.take 30 ⟨(some 108), none, .ld (.tmp 107)⟩ (.take 31 ⟨(some 109), none, .fad 0 (.tmp 9)⟩ (.take 32 ⟨(some 110), none, .ld (.tmp 109)⟩ (.take 33 ⟨(some 111), none, .ixA 1 (.tmp 110) (.const (.int .i64 1))⟩ (.take 34 ⟨(some 112), none, .ld (.tmp 111)⟩ (.take 35 ⟨(some 113), none, .fad 0 (.tmp 9)⟩ (.take 36 ⟨(some 114), none, .ld (.tmp 113)⟩ (.take 37 ⟨(some 115), none, .ixA 1 (.tmp 114) (.const (.int .i64 2))⟩ (.take 38 ⟨(some 116), none, .ld (.tmp 115)⟩ (.take 39 ⟨(some 117), none, .fad 0 (.tmp 10)⟩ (.take 40 ⟨(some 118), none, .ld (.tmp 117)⟩ (.take 41 ⟨(some 119), none, .fad 0 (.tmp 11)⟩ (.take 42 ⟨(some 120), none, .ld (.tmp 119)⟩ (.take 43 ⟨(some 121), none, .ixA 1 (.tmp 120) (.const (.int .i64 0))⟩ (.take 44 ⟨(some 122), none, .ld (.tmp 121)⟩ (.take 45 ⟨(some 123), none, .fad 0 (.tmp 11)⟩ (.take 46 ⟨(some 124), none, .ld (.tmp 123)⟩ (.take 47 ⟨(some 125), none, .ixA 1 (.tmp 124) (.const (.int .i64 1))⟩ (.take 48 ⟨(some 126), none, .ld (.tmp 125)⟩ (.take 49 ⟨(some 127), none, .fad 0 (.tmp 12)⟩ (.take 50 ⟨(some 128), none, .ld (.tmp 127)⟩ (.take 51 ⟨(some 129), none, .bld [(.int .i64 0), (.int .i64 0), (.int .i64 0), (.int .i64 0), (.slice none 0 0), (.int .i64 0), (.slice none 0 0), (.int .i64 0), (.int .i64 0), (.int .i64 0), (.slice none 0 0), (.int .i64 0), (.int .i64 0), (.slice none 0 0)] [(0, 1), (1, 2), (3, 2), (5, 2), (7, 1), (8, 1), (9, 1), (10, 1), (11, 1), (12, 1), (13, 1)] [(.tmp 81), (.tmp 90), (.tmp 97), (.tmp 104), (.tmp 108), (.tmp 112), (.tmp 116), (.tmp 118), (.tmp 122), (.tmp 126), (.tmp 128)]⟩ (.step 52 false ⟨none, none, .stn 14 (.tmp 2) (.tmp 129)⟩ (.take 53 ⟨(some 3), none, .mv (.const (.bool true))⟩ .done)))))))))))))))))))))))))))))))))))))))))))))))))))))))
 (.prune [2, 3] .ret))))))))))))))))))))))))))))))))))))))))
theorem ok26 : fits Try.prog 26 ⟨s26, 130, [.cell 2 (some 14), .tmp 3]⟩ = some ⟨s26, 130, [.cell 2 (some 14), .tmp 3]⟩ := by kernel_rfl
theorem go26 {args : List Value} {w : World} {R : Value → World → Prop} (hle : Nat.ble args.length 130 = true) (h : vc Try.prog 130 s26 (argEnv args 0) w (fun L w => resL L w [.cell 2 (some 14), .tmp 3] fun vs => oneOr vs fun v => R v w) (fun _ _ _ => False) (fun L w => resL L w [.cell 2 (some 14), .tmp 3] fun vs => oneOr vs fun v => R v w)) : Cal Try.prog 26 ⟨args⟩ w R := cal_of mo ok26 hle h

-- footbridge/footbridgeref27.signed
def s27 : S := (.seq (.row [⟨(some 2), none, .mv (.const (.int .i64 0))⟩])
 (.prune [0] (.seq (.seq (.row [⟨(some 3), none, .mv (.tmp 0)⟩,
   ⟨(some 4), none, .ibin .rem .u64 (.tmp 3) (.const (.int .u64 2))⟩,
   ⟨(some 5), none, .ibin .eql .u64 (.tmp 4) (.const (.int .u64 0))⟩])
 (.prune [5, 0] (.cond (.tmp 5)
  (.seq (.row [⟨(some 6), none, .mv (.tmp 0)⟩,
    ⟨(some 7), none, .ibin .quo .u64 (.tmp 6) (.const (.int .u64 2))⟩,
    ⟨(some 8), none, .conv .i64 (.tmp 7)⟩,
    ⟨(some 2), none, .mv (.tmp 8)⟩])
  (.prune [2] .ret))
  .skip)))
 (.prune [0] (.seq (.row [⟨(some 9), none, .mv (.tmp 0)⟩,
   ⟨(some 10), none, .ibin .quo .u64 (.tmp 9) (.const (.int .u64 2))⟩,
   ⟨(some 11), none, .conv .i64 (.tmp 10)⟩,
   ⟨(some 12), none, .neg .i64 (.tmp 11)⟩,
   ⟨(some 13), none, .ibin .sub .i64 (.tmp 12) (.const (.int .i64 1))⟩,
   ⟨(some 2), none, .mv (.tmp 13)⟩])
 (.prune [2] .ret))))))
theorem ok27 : fits Try.prog 27 ⟨s27, 14, [.tmp 2]⟩ = some ⟨s27, 14, [.tmp 2]⟩ := by kernel_rfl
theorem go27 {args : List Value} {w : World} {R : Value → World → Prop} (hle : Nat.ble args.length 14 = true) (h : vc Try.prog 14 s27 (argEnv args 0) w (fun L w => resL L w [.tmp 2] fun vs => oneOr vs fun v => R v w) (fun _ _ _ => False) (fun L w => resL L w [.tmp 2] fun vs => oneOr vs fun v => R v w)) : Cal Try.prog 27 ⟨args⟩ w R := cal_of mo ok27 hle h

-- footbridge/footbridgeref27.unsigned
def s28 : S := (.seq (.row [⟨(some 2), none, .mv (.const (.int .u64 0))⟩])
 (.prune [0] (.seq (.seq (.row [⟨(some 3), none, .mv (.tmp 0)⟩,
   ⟨(some 4), none, .ibin .geq .i64 (.tmp 3) (.const (.int .i64 0))⟩])
 (.prune [4, 0] (.cond (.tmp 4)
  (.seq (.row [⟨(some 5), none, .mv (.tmp 0)⟩,
    ⟨(some 6), none, .conv .u64 (.tmp 5)⟩,
    ⟨(some 7), none, .ibin .mul .u64 (.const (.int .u64 2)) (.tmp 6)⟩,
    ⟨(some 2), none, .mv (.tmp 7)⟩])
  (.prune [2] .ret))
  .skip)))
 (.prune [0] (.seq (.row [⟨(some 8), none, .mv (.tmp 0)⟩,
   ⟨(some 9), none, .ibin .add .i64 (.tmp 8) (.const (.int .i64 1))⟩,
   ⟨(some 10), none, .neg .i64 (.tmp 9)⟩,
   ⟨(some 11), none, .conv .u64 (.tmp 10)⟩,
   ⟨(some 12), none, .ibin .mul .u64 (.const (.int .u64 2)) (.tmp 11)⟩,
   ⟨(some 13), none, .ibin .add .u64 (.tmp 12) (.const (.int .u64 1))⟩,
   ⟨(some 2), none, .mv (.tmp 13)⟩])
 (.prune [2] .ret))))))
theorem ok28 : fits Try.prog 28 ⟨s28, 14, [.tmp 2]⟩ = some ⟨s28, 14, [.tmp 2]⟩ := by kernel_rfl
theorem go28 {args : List Value} {w : World} {R : Value → World → Prop} (hle : Nat.ble args.length 14 = true) (h : vc Try.prog 14 s28 (argEnv args 0) w (fun L w => resL L w [.tmp 2] fun vs => oneOr vs fun v => R v w) (fun _ _ _ => False) (fun L w => resL L w [.tmp 2] fun vs => oneOr vs fun v => R v w)) : Cal Try.prog 28 ⟨args⟩ w R := cal_of mo ok28 hle h

-- footbridge/codec.event
def s29 : S := (.seq (.seq (.draw (.take 0 ⟨(some 6), none, .mv (.tmp 1)⟩ (.take 1 ⟨(some 7), none, .nck (.tmp 6)⟩ (.take 2 ⟨(some 8), none, .fad 0 (.tmp 7)⟩ (.take 3 ⟨(some 9), none, .mv (.tmp 1)⟩ (.take 4 ⟨(some 10), none, .nck (.tmp 9)⟩ (.take 5 ⟨(some 11), none, .fad 1 (.tmp 10)⟩ (.take 6 ⟨(some 12), none, .fad 0 (.tmp 11)⟩ (.take 7 ⟨(some 13), none, .mv (.tmp 1)⟩ (.take 8 ⟨(some 14), none, .nck (.tmp 13)⟩ (.take 9 ⟨(some 15), none, .fad 1 (.tmp 14)⟩ (.take 10 ⟨(some 16), none, .fad 1 (.tmp 15)⟩ (.take 11 ⟨(some 17), none, .mv (.tmp 1)⟩ (.take 12 ⟨(some 18), none, .nck (.tmp 17)⟩ (.take 13 ⟨(some 19), none, .fad 5 (.tmp 18)⟩ (.take 14 ⟨(some 20), none, .mv (.tmp 1)⟩ (.take 15 ⟨(some 21), none, .nck (.tmp 20)⟩ (.take 16 ⟨(some 22), none, .fad 6 (.tmp 21)⟩ (.take 17 ⟨(some 23), none, .bld [(.pointer none), (.pointer none), (.pointer none), (.pointer none), (.pointer none)] [(0, 1), (1, 1), (2, 1), (3, 1), (4, 1)] [(.tmp 8), (.tmp 12), (.tmp 16), (.tmp 19), (.tmp 22)]⟩ (.take 18 ⟨(some 24), none, .mv (.const (.int .i64 0))⟩ .done))))))))))))))))))))
 (.prune [24, 0, 23, 1] (.block 0 (.loop [24] [5, 24, 25, 26, 27, 28, 29, 30] (.seq (.row [⟨(some 25), none, .ibin .lss .i64 (.tmp 24) (.const (.int .i64 5))⟩])
  (.prune [25, 24, 0, 23, 1] (.seq (.cond (.tmp 25)
   .skip
   (.exit 0))
  (.prune [24, 0, 23, 1] (.seq (.block 1 (.seq (.row [⟨(some 26), none, .get (.index 91) [(.tmp 23), (.tmp 24)]⟩,
    ⟨(some 5), none, .mv (.tmp 26)⟩])
  (.prune [5, 24, 0, 23, 1] (.row [⟨(some 27), none, .mv (.tmp 0)⟩,
    ⟨(some 28), none, .mv (.tmp 5)⟩,
    ⟨(some 29), none, .calli (.tmp 27) "footbridge/codec.number" [(.tmp 28)]⟩]))))
  (.prune [24, 0, 23, 1] (.row [⟨(some 30), none, .ibin .add .i64 (.tmp 24) (.const (.int .i64 1))⟩,
    ⟨(some 24), none, .mv (.tmp 30)⟩])))))))))))
 (.prune [0, 1] (.seq (.draw (.take 0 ⟨(some 31), none, .mv (.tmp 0)⟩ (.take 1 ⟨(some 32), none, .mv (.tmp 1)⟩ (.take 2 ⟨(some 33), none, .nck (.tmp 32)⟩ (.take 3 ⟨(some 34), none, .fad 3 (.tmp 33)⟩ (.take 4 ⟨(some 35), none, .mkf (.method "footbridge/codec.list") [(.tmp 31)] []⟩ (.take 5 ⟨(some 36), none, .nck (.tmp 35)⟩ (.take 6 ⟨(some 37), none, .mv (.tmp 31)⟩ (.step 7 false ⟨(some 38), none, .calli (.tmp 37) "footbridge/codec.list" [(.tmp 34)]⟩ .done)))))))))
 (.prune [0, 1] (.draw (.take 0 ⟨(some 39), none, .mv (.tmp 0)⟩ (.take 1 ⟨(some 40), none, .mv (.tmp 1)⟩ (.take 2 ⟨(some 41), none, .nck (.tmp 40)⟩ (.take 3 ⟨(some 42), none, .fad 4 (.tmp 41)⟩ (.take 4 ⟨(some 43), none, .mkf (.method "footbridge/codec.list") [(.tmp 39)] []⟩ (.take 5 ⟨(some 44), none, .nck (.tmp 43)⟩ (.take 6 ⟨(some 45), none, .mv (.tmp 39)⟩ (.step 7 false ⟨(some 46), none, .calli (.tmp 45) "footbridge/codec.list" [(.tmp 42)]⟩ .done)))))))))))))
theorem ok29 : fits Try.prog 29 ⟨s29, 47, []⟩ = some ⟨s29, 47, []⟩ := by kernel_rfl
theorem go29 {args : List Value} {w : World} {R : Value → World → Prop} (hle : Nat.ble args.length 47 = true) (h : vc Try.prog 47 s29 (argEnv args 0) w (fun L w => resL L w [] fun vs => oneOr vs fun v => R v w) (fun _ _ _ => False) (fun L w => resL L w [] fun vs => oneOr vs fun v => R v w)) : Cal Try.prog 29 ⟨args⟩ w R := cal_of mo ok29 hle h

-- (*footbridge/codec.writer).done
def s30 : S := (.seq (.row [⟨(some 2), none, .mv (.const (.slice none 0 0))⟩,
   ⟨(some 3), none, .mv (.const (.bool false))⟩])
 (.prune [0] (.seq (.seq (.row [⟨(some 4), none, .mv (.tmp 0)⟩,
   ⟨(some 5), none, .nck (.tmp 4)⟩,
   ⟨(some 6), none, .fad 0 (.tmp 5)⟩,
   ⟨(some 7), none, .ld (.tmp 6)⟩,
   ⟨(some 8), none, .lenA (.tmp 7)⟩,
   ⟨(some 9), none, .ibin .gtr .i64 (.tmp 8) (.const (.int .i64 65536))⟩])
 (.prune [9, 0] (.cond (.tmp 9)
  (.seq (.row [⟨(some 2), none, .mv (.const (.slice none 0 0))⟩,
    ⟨(some 3), none, .mv (.const (.bool false))⟩])
  (.prune [2, 3] .ret))
  .skip)))
 (.prune [0] (.seq (.row [⟨(some 10), none, .mv (.tmp 0)⟩,
   ⟨(some 11), none, .nck (.tmp 10)⟩,
   ⟨(some 12), none, .fad 0 (.tmp 11)⟩,
   ⟨(some 13), none, .ld (.tmp 12)⟩,
   ⟨(some 2), none, .mv (.tmp 13)⟩,
   ⟨(some 3), none, .mv (.const (.bool true))⟩])
 (.prune [2, 3] .ret))))))
theorem ok30 : fits Try.prog 30 ⟨s30, 14, [.tmp 2, .tmp 3]⟩ = some ⟨s30, 14, [.tmp 2, .tmp 3]⟩ := by kernel_rfl
theorem go30 {args : List Value} {w : World} {R : Value → World → Prop} (hle : Nat.ble args.length 14 = true) (h : vc Try.prog 14 s30 (argEnv args 0) w (fun L w => resL L w [.tmp 2, .tmp 3] fun vs => oneOr vs fun v => R v w) (fun _ _ _ => False) (fun L w => resL L w [.tmp 2, .tmp 3] fun vs => oneOr vs fun v => R v w)) : Cal Try.prog 30 ⟨args⟩ w R := cal_of mo ok30 hle h

-- (*footbridge/codec.reader).done
def s31 : S := (.seq (.row [⟨(some 2), none, .mv (.const (.bool false))⟩])
 (.prune [0] (.seq (.row [⟨(some 3), none, .mv (.tmp 0)⟩,
   ⟨(some 4), none, .nck (.tmp 3)⟩,
   ⟨(some 5), none, .fad 1 (.tmp 4)⟩,
   ⟨(some 6), none, .ld (.tmp 5)⟩,
   ⟨(some 7), none, .notB (.tmp 6)⟩,
   ⟨(some 8), none, .mv (.tmp 7)⟩,
   ⟨(some 9), (some (8, true)), .mv (.tmp 0)⟩,
   ⟨(some 10), (some (8, true)), .nck (.tmp 9)⟩,
   ⟨(some 11), (some (8, true)), .fad 0 (.tmp 10)⟩,
   ⟨(some 12), (some (8, true)), .ld (.tmp 11)⟩,
   ⟨(some 13), (some (8, true)), .lenA (.tmp 12)⟩,
   ⟨(some 14), (some (8, true)), .ibin .eql .i64 (.tmp 13) (.const (.int .i64 0))⟩,
   ⟨(some 15), none, .pick (.tmp 8) (.tmp 14) (.const (.bool false))⟩,
   ⟨(some 2), none, .mv (.tmp 15)⟩])
 (.prune [2] .ret))))
theorem ok31 : fits Try.prog 31 ⟨s31, 16, [.tmp 2]⟩ = some ⟨s31, 16, [.tmp 2]⟩ := by kernel_rfl
theorem go31 {args : List Value} {w : World} {R : Value → World → Prop} (hle : Nat.ble args.length 16 = true) (h : vc Try.prog 16 s31 (argEnv args 0) w (fun L w => resL L w [.tmp 2] fun vs => oneOr vs fun v => R v w) (fun _ _ _ => False) (fun L w => resL L w [.tmp 2] fun vs => oneOr vs fun v => R v w)) : Cal Try.prog 31 ⟨args⟩ w R := cal_of mo ok31 hle h

-- footbridge/footbridgeref27.List
def s32 : S := (.seq (.row [⟨(some 2), none, .mv (.const (.string ⟨#[]⟩))⟩])
 (.prune [0] (.seq (.row [⟨(some 5), none, .mv (.tmp 0)⟩,
   ⟨(some 6), none, .lenA (.tmp 5)⟩,
   ⟨(some 7), none, .call 14 [(.tmp 6)]⟩,
   ⟨(some 3), none, .mv (.tmp 7)⟩])
 (.prune [0, 3] (.seq (.seq (.row [⟨(some 8), none, .mv (.tmp 0)⟩,
   ⟨(some 9), none, .lenA (.tmp 8)⟩,
   ⟨(some 10), none, .mv (.const (.int .i64 0))⟩])
 (.prune [10, 0, 3, 9] (.block 0 (.loop [3, 10] [3, 4, 10, 11, 12, 13, 14, 15, 16, 17, 18, 19, 20] (.seq (.row [⟨(some 11), none, .ibin .lss .i64 (.tmp 10) (.tmp 9)⟩])
  (.prune [11, 3, 10, 0, 9] (.seq (.cond (.tmp 11)
   .skip
   (.exit 0))
  (.prune [3, 10, 0, 9] (.seq (.block 1 (.seq (.row [⟨(some 12), none, .mv (.tmp 10)⟩,
    ⟨(some 4), none, .mv (.tmp 12)⟩])
  (.prune [3, 4, 10, 0, 9] (.row [⟨(some 13), none, .mv (.tmp 3)⟩,
    ⟨(some 14), none, .mv (.tmp 0)⟩,
    ⟨(some 15), none, .mv (.tmp 4)⟩,
    ⟨(some 16), none, .ixA 1 (.tmp 14) (.tmp 15)⟩,
    ⟨(some 17), none, .ld (.tmp 16)⟩,
    ⟨(some 18), none, .call 14 [(.tmp 17)]⟩,
    ⟨(some 19), none, .sbin .add (.tmp 13) (.tmp 18)⟩,
    ⟨(some 3), none, .mv (.tmp 19)⟩]))))
  (.prune [10, 0, 3, 9] (.row [⟨(some 20), none, .ibin .add .i64 (.tmp 10) (.const (.int .i64 1))⟩,
    ⟨(some 10), none, .mv (.tmp 20)⟩])))))))))))
 (.prune [3] (.seq (.row [⟨(some 21), none, .mv (.tmp 3)⟩,
   ⟨(some 2), none, .mv (.tmp 21)⟩])
 (.prune [2] .ret))))))))
theorem ok32 : fits Try.prog 32 ⟨s32, 22, [.tmp 2]⟩ = some ⟨s32, 22, [.tmp 2]⟩ := by kernel_rfl
theorem go32 {args : List Value} {w : World} {R : Value → World → Prop} (hle : Nat.ble args.length 22 = true) (h : vc Try.prog 22 s32 (argEnv args 0) w (fun L w => resL L w [.tmp 2] fun vs => oneOr vs fun v => R v w) (fun _ _ _ => False) (fun L w => resL L w [.tmp 2] fun vs => oneOr vs fun v => R v w)) : Cal Try.prog 32 ⟨args⟩ w R := cal_of mo ok32 hle h

-- footbridge/footbridgeref27.same
def s33 : S := (.seq (.row [⟨(some 4), none, .mv (.const (.bool false))⟩])
 (.prune [0, 1] (.seq (.seq (.row [⟨(some 6), none, .mv (.tmp 0)⟩,
   ⟨(some 7), none, .lenA (.tmp 6)⟩,
   ⟨(some 8), none, .mv (.tmp 1)⟩,
   ⟨(some 9), none, .lenA (.tmp 8)⟩,
   ⟨(some 10), none, .ibin .neq .i64 (.tmp 7) (.tmp 9)⟩])
 (.prune [10, 0, 1] (.cond (.tmp 10)
  (.seq (.row [⟨(some 4), none, .mv (.const (.bool false))⟩])
  (.prune [4] .ret))
  .skip)))
 (.prune [1, 0] (.seq (.seq (.row [⟨(some 11), none, .mv (.tmp 0)⟩,
   ⟨(some 12), none, .lenA (.tmp 11)⟩,
   ⟨(some 13), none, .mv (.const (.int .i64 0))⟩])
 (.prune [13, 1, 0, 12] (.block 0 (.loop [13] [4, 5, 13, 14, 15, 16, 17, 18, 19, 20, 21, 22, 23, 24, 25] (.seq (.row [⟨(some 14), none, .ibin .lss .i64 (.tmp 13) (.tmp 12)⟩])
  (.prune [14, 12, 0, 1, 13] (.seq (.cond (.tmp 14)
   .skip
   (.exit 0))
  (.prune [12, 0, 1, 13] (.seq (.block 1 (.seq (.row [⟨(some 15), none, .mv (.tmp 13)⟩,
    ⟨(some 5), none, .mv (.tmp 15)⟩])
  (.prune [5, 12, 0, 1, 13] (.seq (.draw (.take 0 ⟨(some 16), none, .mv (.tmp 0)⟩ (.take 1 ⟨(some 17), none, .mv (.tmp 5)⟩ (.take 2 ⟨(some 18), none, .ixA 1 (.tmp 16) (.tmp 17)⟩ (.take 3 ⟨(some 19), none, .ld (.tmp 18)⟩ (.take 4 ⟨(some 20), none, .mv (.tmp 1)⟩ (.take 5 ⟨(some 21), none, .mv (.tmp 5)⟩ (.take 6 ⟨(some 22), none, .ixA 1 (.tmp 20) (.tmp 21)⟩ (.take 7 ⟨(some 23), none, .ld (.tmp 22)⟩ (.take 8 ⟨(some 24), none, .ibin .neq .i64 (.tmp 19) (.tmp 23)⟩ .done))))))))))
  (.prune [24, 12, 0, 1, 13] (.cond (.tmp 24)
   (.seq (.row [⟨(some 4), none, .mv (.const (.bool false))⟩])
   (.prune [4] .ret))
   .skip))))))
  (.prune [13, 1, 0, 12] (.row [⟨(some 25), none, .ibin .add .i64 (.tmp 13) (.const (.int .i64 1))⟩,
    ⟨(some 13), none, .mv (.tmp 25)⟩])))))))))))
 (.prune [] (.seq (.row [⟨(some 4), none, .mv (.const (.bool true))⟩])
 (.prune [4] .ret))))))))
theorem ok33 : fits Try.prog 33 ⟨s33, 26, [.tmp 4]⟩ = some ⟨s33, 26, [.tmp 4]⟩ := by kernel_rfl
theorem go33 {args : List Value} {w : World} {R : Value → World → Prop} (hle : Nat.ble args.length 26 = true) (h : vc Try.prog 26 s33 (argEnv args 0) w (fun L w => resL L w [.tmp 4] fun vs => oneOr vs fun v => R v w) (fun _ _ _ => False) (fun L w => resL L w [.tmp 4] fun vs => oneOr vs fun v => R v w)) : Cal Try.prog 33 ⟨args⟩ w R := cal_of mo ok33 hle h

-- footbridge/codec.reply
def s34 : S := (.seq (.row [⟨(some 5), none, .mv (.tmp 1)⟩,
   ⟨(some 6), none, .nck (.tmp 5)⟩,
   ⟨(some 7), none, .fad 0 (.tmp 6)⟩,
   ⟨(some 8), none, .ld (.tmp 7)⟩,
   ⟨(some 4), none, .new [(.int .i64 0)] 3⟩,
   ⟨none, none, .st (.tmp 4) (.tmp 8)⟩])
 (.prune [4, 0, 1] (.seq (.row [⟨(some 9), none, .mv (.tmp 0)⟩,
   ⟨(some 10), none, .calli (.tmp 9) "footbridge/codec.number" [(.tmp 4)]⟩])
 (.prune [4, 0, 1] (.seq (.row [⟨(some 11), none, .mv (.tmp 1)⟩,
   ⟨(some 12), none, .ld (.tmp 4)⟩,
   ⟨(some 13), none, .nck (.tmp 11)⟩,
   ⟨(some 14), none, .fad 0 (.tmp 13)⟩,
   ⟨none, none, .st (.tmp 14) (.tmp 12)⟩])
 (.prune [0, 1] (.seq (.draw (.take 0 ⟨(some 15), none, .mv (.tmp 0)⟩ (.take 1 ⟨(some 16), none, .mv (.tmp 1)⟩ (.take 2 ⟨(some 17), none, .nck (.tmp 16)⟩ (.take 3 ⟨(some 18), none, .fad 1 (.tmp 17)⟩ (.take 4 ⟨(some 19), none, .fad 0 (.tmp 18)⟩ (.take 5 ⟨(some 20), none, .mkf (.method "footbridge/codec.number") [(.tmp 15)] []⟩ (.take 6 ⟨(some 21), none, .nck (.tmp 20)⟩ (.take 7 ⟨(some 22), none, .mv (.tmp 15)⟩ (.step 8 false ⟨(some 23), none, .calli (.tmp 22) "footbridge/codec.number" [(.tmp 19)]⟩ .done))))))))))
 (.prune [0, 1] (.seq (.draw (.take 0 ⟨(some 24), none, .mv (.tmp 0)⟩ (.take 1 ⟨(some 25), none, .mv (.tmp 1)⟩ (.take 2 ⟨(some 26), none, .nck (.tmp 25)⟩ (.take 3 ⟨(some 27), none, .fad 1 (.tmp 26)⟩ (.take 4 ⟨(some 28), none, .fad 1 (.tmp 27)⟩ (.take 5 ⟨(some 29), none, .mkf (.method "footbridge/codec.number") [(.tmp 24)] []⟩ (.take 6 ⟨(some 30), none, .nck (.tmp 29)⟩ (.take 7 ⟨(some 31), none, .mv (.tmp 24)⟩ (.step 8 false ⟨(some 32), none, .calli (.tmp 31) "footbridge/codec.number" [(.tmp 28)]⟩ .done))))))))))
 (.prune [0, 1] (.seq (.row [⟨(some 33), none, .mv (.tmp 0)⟩,
   ⟨(some 34), none, .mv (.tmp 1)⟩,
   ⟨(some 35), none, .nck (.tmp 34)⟩,
   ⟨(some 36), none, .fad 3 (.tmp 35)⟩,
   ⟨(some 37), none, .call 40 [(.tmp 33), (.tmp 36)]⟩])
 (.prune [0, 1] (.seq (.row [⟨(some 38), none, .mv (.tmp 0)⟩,
   ⟨(some 39), none, .mv (.tmp 1)⟩,
   ⟨(some 40), none, .nck (.tmp 39)⟩,
   ⟨(some 41), none, .fad 5 (.tmp 40)⟩,
   ⟨(some 42), none, .call 40 [(.tmp 38), (.tmp 41)]⟩])
 (.prune [0, 1] (.seq (.draw (.take 0 ⟨(some 43), none, .mv (.tmp 0)⟩ (.take 1 ⟨(some 44), none, .mv (.tmp 1)⟩ (.take 2 ⟨(some 45), none, .nck (.tmp 44)⟩ (.take 3 ⟨(some 46), none, .fad 7 (.tmp 45)⟩ (.take 4 ⟨(some 47), none, .mkf (.method "footbridge/codec.number") [(.tmp 43)] []⟩ (.take 5 ⟨(some 48), none, .nck (.tmp 47)⟩ (.take 6 ⟨(some 49), none, .mv (.tmp 43)⟩ (.step 7 false ⟨(some 50), none, .calli (.tmp 49) "footbridge/codec.number" [(.tmp 46)]⟩ .done)))))))))
 (.prune [0, 1] (.seq (.draw (.take 0 ⟨(some 51), none, .mv (.tmp 0)⟩ (.take 1 ⟨(some 52), none, .mv (.tmp 1)⟩ (.take 2 ⟨(some 53), none, .nck (.tmp 52)⟩ (.take 3 ⟨(some 54), none, .fad 8 (.tmp 53)⟩ (.take 4 ⟨(some 55), none, .mkf (.method "footbridge/codec.number") [(.tmp 51)] []⟩ (.take 5 ⟨(some 56), none, .nck (.tmp 55)⟩ (.take 6 ⟨(some 57), none, .mv (.tmp 51)⟩ (.step 7 false ⟨(some 58), none, .calli (.tmp 57) "footbridge/codec.number" [(.tmp 54)]⟩ .done)))))))))
 (.prune [0, 1] (.seq (.draw (.take 0 ⟨(some 59), none, .mv (.tmp 0)⟩ (.take 1 ⟨(some 60), none, .mv (.tmp 1)⟩ (.take 2 ⟨(some 61), none, .nck (.tmp 60)⟩ (.take 3 ⟨(some 62), none, .fad 9 (.tmp 61)⟩ (.take 4 ⟨(some 63), none, .mkf (.method "footbridge/codec.number") [(.tmp 59)] []⟩ (.take 5 ⟨(some 64), none, .nck (.tmp 63)⟩ (.take 6 ⟨(some 65), none, .mv (.tmp 59)⟩ (.step 7 false ⟨(some 66), none, .calli (.tmp 65) "footbridge/codec.number" [(.tmp 62)]⟩ .done)))))))))
 (.prune [0, 1] (.seq (.draw (.take 0 ⟨(some 67), none, .mv (.tmp 0)⟩ (.take 1 ⟨(some 68), none, .mv (.tmp 1)⟩ (.take 2 ⟨(some 69), none, .nck (.tmp 68)⟩ (.take 3 ⟨(some 70), none, .fad 10 (.tmp 69)⟩ (.take 4 ⟨(some 71), none, .mkf (.method "footbridge/codec.list") [(.tmp 67)] []⟩ (.take 5 ⟨(some 72), none, .nck (.tmp 71)⟩ (.take 6 ⟨(some 73), none, .mv (.tmp 67)⟩ (.step 7 false ⟨(some 74), none, .calli (.tmp 73) "footbridge/codec.list" [(.tmp 70)]⟩ .done)))))))))
 (.prune [0, 1] (.seq (.draw (.take 0 ⟨(some 75), none, .mv (.tmp 0)⟩ (.take 1 ⟨(some 76), none, .mv (.tmp 1)⟩ (.take 2 ⟨(some 77), none, .nck (.tmp 76)⟩ (.take 3 ⟨(some 78), none, .fad 11 (.tmp 77)⟩ (.take 4 ⟨(some 79), none, .mkf (.method "footbridge/codec.number") [(.tmp 75)] []⟩ (.take 5 ⟨(some 80), none, .nck (.tmp 79)⟩ (.take 6 ⟨(some 81), none, .mv (.tmp 75)⟩ (.step 7 false ⟨(some 82), none, .calli (.tmp 81) "footbridge/codec.number" [(.tmp 78)]⟩ .done)))))))))
 (.prune [0, 1] (.seq (.draw (.take 0 ⟨(some 83), none, .mv (.tmp 0)⟩ (.take 1 ⟨(some 84), none, .mv (.tmp 1)⟩ (.take 2 ⟨(some 85), none, .nck (.tmp 84)⟩ (.take 3 ⟨(some 86), none, .fad 12 (.tmp 85)⟩ (.take 4 ⟨(some 87), none, .mkf (.method "footbridge/codec.number") [(.tmp 83)] []⟩ (.take 5 ⟨(some 88), none, .nck (.tmp 87)⟩ (.take 6 ⟨(some 89), none, .mv (.tmp 83)⟩ (.step 7 false ⟨(some 90), none, .calli (.tmp 89) "footbridge/codec.number" [(.tmp 86)]⟩ .done)))))))))
 (.prune [0, 1] (.draw (.take 0 ⟨(some 91), none, .mv (.tmp 0)⟩ (.take 1 ⟨(some 92), none, .mv (.tmp 1)⟩ (.take 2 ⟨(some 93), none, .nck (.tmp 92)⟩ (.take 3 ⟨(some 94), none, .fad 13 (.tmp 93)⟩ (.take 4 ⟨(some 95), none, .mkf (.method "footbridge/codec.list") [(.tmp 91)] []⟩ (.take 5 ⟨(some 96), none, .nck (.tmp 95)⟩ (.take 6 ⟨(some 97), none, .mv (.tmp 91)⟩ (.step 7 false ⟨(some 98), none, .calli (.tmp 97) "footbridge/codec.list" [(.tmp 94)]⟩ .done)))))))))))))))))))))))))))))))))))
theorem ok34 : fits Try.prog 34 ⟨s34, 99, []⟩ = some ⟨s34, 99, []⟩ := by kernel_rfl
theorem go34 {args : List Value} {w : World} {R : Value → World → Prop} (hle : Nat.ble args.length 99 = true) (h : vc Try.prog 99 s34 (argEnv args 0) w (fun L w => resL L w [] fun vs => oneOr vs fun v => R v w) (fun _ _ _ => False) (fun L w => resL L w [] fun vs => oneOr vs fun v => R v w)) : Cal Try.prog 34 ⟨args⟩ w R := cal_of mo ok34 hle h

-- footbridge/footbridgeref17.Same
def s35 : S := (.seq (.row [⟨(some 2), none, .box 47 (.tmp 0)⟩,
   ⟨(some 3), none, .box 47 (.tmp 1)⟩,
   ⟨(some 4), none, .mv (.const (.bool false))⟩])
 (.prune [2, 3] (.seq (.seq (.row [⟨(some 6), none, .fad 0 (.tmp 2)⟩,
   ⟨(some 7), none, .ld (.tmp 6)⟩,
   ⟨(some 8), none, .fad 0 (.tmp 3)⟩,
   ⟨(some 9), none, .ld (.tmp 8)⟩,
   ⟨(some 10), none, .ibin .neq .i64 (.tmp 7) (.tmp 9)⟩,
   ⟨(some 11), none, .mv (.tmp 10)⟩,
   ⟨(some 12), (some (11, false)), .fad 1 (.tmp 2)⟩,
   ⟨(some 13), (some (11, false)), .ld (.tmp 12)⟩,
   ⟨(some 14), (some (11, false)), .lenA (.tmp 13)⟩,
   ⟨(some 15), (some (11, false)), .fad 1 (.tmp 3)⟩,
   ⟨(some 16), (some (11, false)), .ld (.tmp 15)⟩,
   ⟨(some 17), (some (11, false)), .lenA (.tmp 16)⟩,
   ⟨(some 18), (some (11, false)), .ibin .neq .i64 (.tmp 14) (.tmp 17)⟩,
   ⟨(some 19), none, .pick (.tmp 11) (.const (.bool true)) (.tmp 18)⟩])
 (.prune [19, 2, 3] (.cond (.tmp 19)
  (.seq (.row [⟨(some 4), none, .mv (.const (.bool false))⟩])
  (.prune [4] .ret))
  .skip)))
 (.prune [3, 2] (.seq (.seq (.row [⟨(some 20), none, .fad 1 (.tmp 2)⟩,
   ⟨(some 21), none, .ld (.tmp 20)⟩,
   ⟨(some 22), none, .lenA (.tmp 21)⟩,
   ⟨(some 23), none, .mv (.const (.int .i64 0))⟩])
 (.prune [23, 3, 2, 22] (.block 0 (.loop [23] [4, 5, 23, 24, 25, 26, 27, 28, 29, 30, 31, 32, 33, 34, 35, 36, 37] (.seq (.row [⟨(some 24), none, .ibin .lss .i64 (.tmp 23) (.tmp 22)⟩])
  (.prune [24, 22, 2, 3, 23] (.seq (.cond (.tmp 24)
   .skip
   (.exit 0))
  (.prune [22, 2, 3, 23] (.seq (.block 1 (.seq (.row [⟨(some 25), none, .mv (.tmp 23)⟩,
    ⟨(some 5), none, .mv (.tmp 25)⟩])
  (.prune [5, 22, 2, 3, 23] (.seq (.draw (.take 0 ⟨(some 26), none, .fad 1 (.tmp 2)⟩ (.take 1 ⟨(some 27), none, .ld (.tmp 26)⟩ (.take 2 ⟨(some 28), none, .mv (.tmp 5)⟩ (.take 3 ⟨(some 29), none, .ixA 1 (.tmp 27) (.tmp 28)⟩ (.take 4 ⟨(some 30), none, .ld (.tmp 29)⟩ (.take 5 ⟨(some 31), none, .fad 1 (.tmp 3)⟩ (.take 6 ⟨(some 32), none, .ld (.tmp 31)⟩ (.take 7 ⟨(some 33), none, .mv (.tmp 5)⟩ (.take 8 ⟨(some 34), none, .ixA 1 (.tmp 32) (.tmp 33)⟩ (.take 9 ⟨(some 35), none, .ld (.tmp 34)⟩ (.take 10 ⟨(some 36), none, .ibin .neq .i64 (.tmp 30) (.tmp 35)⟩ .done))))))))))))
  (.prune [36, 22, 2, 3, 23] (.cond (.tmp 36)
   (.seq (.row [⟨(some 4), none, .mv (.const (.bool false))⟩])
   (.prune [4] .ret))
   .skip))))))
  (.prune [23, 3, 2, 22] (.row [⟨(some 37), none, .ibin .add .i64 (.tmp 23) (.const (.int .i64 1))⟩,
    ⟨(some 23), none, .mv (.tmp 37)⟩])))))))))))
 (.prune [] (.seq (.row [⟨(some 4), none, .mv (.const (.bool true))⟩])
 (.prune [4] .ret))))))))
theorem ok35 : fits Try.prog 35 ⟨s35, 38, [.tmp 4]⟩ = some ⟨s35, 38, [.tmp 4]⟩ := by kernel_rfl
theorem go35 {args : List Value} {w : World} {R : Value → World → Prop} (hle : Nat.ble args.length 38 = true) (h : vc Try.prog 38 s35 (argEnv args 0) w (fun L w => resL L w [.tmp 4] fun vs => oneOr vs fun v => R v w) (fun _ _ _ => False) (fun L w => resL L w [.tmp 4] fun vs => oneOr vs fun v => R v w)) : Cal Try.prog 35 ⟨args⟩ w R := cal_of mo ok35 hle h

-- footbridge/footbridgeref25.same
def s36 : S := (.seq (.row [⟨(some 4), none, .mv (.const (.bool false))⟩])
 (.prune [0, 1] (.seq (.row [⟨(some 5), none, .mv (.tmp 0)⟩,
   ⟨(some 6), none, .lenA (.tmp 5)⟩,
   ⟨(some 7), none, .mv (.tmp 1)⟩,
   ⟨(some 8), none, .lenA (.tmp 7)⟩,
   ⟨(some 9), none, .ibin .eql .i64 (.tmp 6) (.tmp 8)⟩,
   ⟨(some 10), none, .mv (.tmp 9)⟩,
   ⟨(some 11), (some (10, true)), .mv (.tmp 0)⟩,
   ⟨(some 12), (some (10, true)), .mv (.tmp 1)⟩,
   ⟨(some 13), (some (10, true)), .call 41 [(.tmp 11), (.tmp 12)]⟩,
   ⟨(some 14), none, .pick (.tmp 10) (.tmp 13) (.const (.bool false))⟩,
   ⟨(some 4), none, .mv (.tmp 14)⟩])
 (.prune [4] .ret))))
theorem ok36 : fits Try.prog 36 ⟨s36, 15, [.tmp 4]⟩ = some ⟨s36, 15, [.tmp 4]⟩ := by kernel_rfl
theorem go36 {args : List Value} {w : World} {R : Value → World → Prop} (hle : Nat.ble args.length 15 = true) (h : vc Try.prog 15 s36 (argEnv args 0) w (fun L w => resL L w [.tmp 4] fun vs => oneOr vs fun v => R v w) (fun _ _ _ => False) (fun L w => resL L w [.tmp 4] fun vs => oneOr vs fun v => R v w)) : Cal Try.prog 36 ⟨args⟩ w R := cal_of mo ok36 hle h

-- footbridge/footbridgeref27.edit
def s37 : S := (.seq (.row [⟨(some 1), none, .box 47 (.tmp 0)⟩,
   ⟨(some 2), none, .mv (.const (.string ⟨#[]⟩))⟩])
 (.prune [1] (.seq (.draw (.take 0 ⟨(some 3), none, .fad 0 (.tmp 1)⟩ (.take 1 ⟨(some 4), none, .ld (.tmp 3)⟩ (.take 3 ⟨(some 6), none, .fad 1 (.tmp 1)⟩ (.take 4 ⟨(some 7), none, .ld (.tmp 6)⟩ (.step 2 true ⟨(some 5), none, .call 14 [(.tmp 4)]⟩ (.step 5 true ⟨(some 8), none, .call 32 [(.tmp 7)]⟩ (.take 6 ⟨(some 9), none, .sbin .add (.tmp 5) (.tmp 8)⟩ (.take 7 ⟨(some 2), none, .mv (.tmp 9)⟩ .done)))))))))
 (.prune [2] .ret))))
theorem ok37 : fits Try.prog 37 ⟨s37, 10, [.tmp 2]⟩ = some ⟨s37, 10, [.tmp 2]⟩ := by kernel_rfl
theorem go37 {args : List Value} {w : World} {R : Value → World → Prop} (hle : Nat.ble args.length 10 = true) (h : vc Try.prog 10 s37 (argEnv args 0) w (fun L w => resL L w [.tmp 2] fun vs => oneOr vs fun v => R v w) (fun _ _ _ => False) (fun L w => resL L w [.tmp 2] fun vs => oneOr vs fun v => R v w)) : Cal Try.prog 37 ⟨args⟩ w R := cal_of mo ok37 hle h

-- footbridge/footbridgeref27.numbers
def s38 : S := (.seq (.row [⟨(some 4), none, .new [(.slice none 0 0), (.string ⟨#[]⟩), (.bool false)] 85⟩])
 (.prune [4, 0, 1] (.seq (.row [⟨(some 7), none, .bsl 3 0 [] [] []⟩,
   ⟨(some 5), none, .mv (.tmp 7)⟩])
 (.prune [4, 5, 0, 1] (.seq (.block 0 (.loop [0, 5] [0, 5, 6, 8, 9, 10, 11, 12, 13, 14, 15, 16, 17, 18, 19, 20, 21, 22, 23, 24] (.seq (.seq (.row [⟨(some 8), none, .mv (.tmp 5)⟩,
    ⟨(some 9), none, .lenA (.tmp 8)⟩,
    ⟨(some 10), none, .mv (.tmp 1)⟩,
    ⟨(some 11), none, .ibin .lss .i64 (.tmp 9) (.tmp 10)⟩])
  (.prune [11, 0, 1, 5, 4] (.cond (.tmp 11)
   .skip
   (.exit 0))))
  (.prune [0, 1, 5, 4] (.block 1 (.seq (.row [⟨(some 12), none, .mv (.tmp 0)⟩,
    ⟨(some 13), none, .call 13 [(.tmp 12)]⟩,
    ⟨(some 6), none, .new [(.int .i64 0), (.string ⟨#[]⟩), (.bool false)] 28⟩,
    ⟨none, none, .stn 3 (.tmp 6) (.tmp 13)⟩])
  (.prune [1, 6, 5, 4] (.seq (.seq (.row [⟨(some 14), none, .fad 2 (.tmp 6)⟩,
    ⟨(some 15), none, .ld (.tmp 14)⟩,
    ⟨(some 16), none, .notB (.tmp 15)⟩])
  (.prune [16, 1, 6, 5, 4] (.cond (.tmp 16)
   (.seq (.row [⟨(some 17), none, .bld [(.slice none 0 0), (.string ⟨#[]⟩), (.bool false)] [] []⟩,
     ⟨none, none, .stn 3 (.tmp 4) (.tmp 17)⟩])
   (.prune [4] .ret))
   .skip)))
  (.prune [5, 6, 4, 1] (.seq (.row [⟨(some 18), none, .mv (.tmp 5)⟩,
    ⟨(some 19), none, .fad 0 (.tmp 6)⟩,
    ⟨(some 20), none, .ld (.tmp 19)⟩,
    ⟨(some 21), none, .bsl 3 1 [(.int .i64 0)] [(0, 1)] [(.tmp 20)]⟩,
    ⟨(some 22), none, .run (.bi .append ⟨[34, 34]⟩ 34) [(.tmp 18), (.tmp 21)]⟩,
    ⟨(some 5), none, .mv (.tmp 22)⟩])
  (.prune [6, 4, 5, 1] (.row [⟨(some 23), none, .fad 1 (.tmp 6)⟩,
    ⟨(some 24), none, .ld (.tmp 23)⟩,
    ⟨(some 0), none, .mv (.tmp 24)⟩]))))))))))))
 (.prune [5, 0, 4] (.seq (.row [⟨(some 25), none, .mv (.tmp 5)⟩,
   ⟨(some 26), none, .mv (.tmp 0)⟩,
   ⟨(some 27), none, .bld [(.slice none 0 0), (.string ⟨#[]⟩), (.bool false)] [(0, 1), (1, 1), (2, 1)] [(.tmp 25), (.tmp 26), (.const (.bool true))]⟩,
   ⟨none, none, .stn 3 (.tmp 4) (.tmp 27)⟩])
 (.prune [4] .ret))))))))
theorem ok38 : fits Try.prog 38 ⟨s38, 28, [.cell 4 (some 3)]⟩ = some ⟨s38, 28, [.cell 4 (some 3)]⟩ := by kernel_rfl
theorem go38 {args : List Value} {w : World} {R : Value → World → Prop} (hle : Nat.ble args.length 28 = true) (h : vc Try.prog 28 s38 (argEnv args 0) w (fun L w => resL L w [.cell 4 (some 3)] fun vs => oneOr vs fun v => R v w) (fun _ _ _ => False) (fun L w => resL L w [.cell 4 (some 3)] fun vs => oneOr vs fun v => R v w)) : Cal Try.prog 38 ⟨args⟩ w R := cal_of mo ok38 hle h

-- footbridge/footbridgeref27.list
def s39 : S := (.seq (.row [⟨(some 2), none, .new [(.slice none 0 0), (.string ⟨#[]⟩), (.bool false)] 85⟩])
 (.prune [0, 2] (.seq (.row [⟨(some 7), none, .mv (.tmp 0)⟩,
   ⟨(some 8), none, .call 13 [(.tmp 7)]⟩,
   ⟨(some 3), none, .new [(.int .i64 0), (.string ⟨#[]⟩), (.bool false)] 28⟩,
   ⟨none, none, .stn 3 (.tmp 3) (.tmp 8)⟩])
 (.prune [3, 2] (.seq (.seq (.row [⟨(some 9), none, .fad 2 (.tmp 3)⟩,
   ⟨(some 10), none, .ld (.tmp 9)⟩,
   ⟨(some 11), none, .notB (.tmp 10)⟩,
   ⟨(some 12), none, .mv (.tmp 11)⟩,
   ⟨(some 13), (some (12, false)), .fad 0 (.tmp 3)⟩,
   ⟨(some 14), (some (12, false)), .ld (.tmp 13)⟩,
   ⟨(some 15), (some (12, false)), .ibin .lss .i64 (.tmp 14) (.const (.int .i64 0))⟩,
   ⟨(some 16), none, .pick (.tmp 12) (.const (.bool true)) (.tmp 15)⟩,
   ⟨(some 17), none, .mv (.tmp 16)⟩,
   ⟨(some 18), (some (17, false)), .fad 0 (.tmp 3)⟩,
   ⟨(some 19), (some (17, false)), .ld (.tmp 18)⟩,
   ⟨(some 20), (some (17, false)), .fad 1 (.tmp 3)⟩,
   ⟨(some 21), (some (17, false)), .ld (.tmp 20)⟩,
   ⟨(some 22), (some (17, false)), .lenS (.tmp 21)⟩,
   ⟨(some 23), (some (17, false)), .ibin .gtr .i64 (.tmp 19) (.tmp 22)⟩,
   ⟨(some 24), none, .pick (.tmp 17) (.const (.bool true)) (.tmp 23)⟩])
 (.prune [24, 3, 2] (.cond (.tmp 24)
  (.seq (.row [⟨(some 25), none, .bld [(.slice none 0 0), (.string ⟨#[]⟩), (.bool false)] [] []⟩,
    ⟨none, none, .stn 3 (.tmp 2) (.tmp 25)⟩])
  (.prune [2] .ret))
  .skip)))
 (.prune [2, 3] (.seq (.row [⟨(some 26), none, .bsl 3 0 [] [] []⟩,
   ⟨(some 4), none, .mv (.tmp 26)⟩])
 (.prune [2, 4, 3] (.seq (.row [⟨(some 27), none, .fad 1 (.tmp 3)⟩,
   ⟨(some 28), none, .ld (.tmp 27)⟩,
   ⟨(some 5), none, .mv (.tmp 28)⟩])
 (.prune [2, 4, 5, 3] (.seq (.block 0 (.loop [4, 5] [4, 5, 6, 29, 30, 31, 32, 33, 34, 35, 36, 37, 38, 39, 40, 41, 42, 43, 44, 45, 46] (.seq (.seq (.row [⟨(some 29), none, .mv (.tmp 4)⟩,
    ⟨(some 30), none, .lenA (.tmp 29)⟩,
    ⟨(some 31), none, .fad 0 (.tmp 3)⟩,
    ⟨(some 32), none, .ld (.tmp 31)⟩,
    ⟨(some 33), none, .ibin .lss .i64 (.tmp 30) (.tmp 32)⟩])
  (.prune [33, 5, 3, 4, 2] (.cond (.tmp 33)
   .skip
   (.exit 0))))
  (.prune [5, 3, 4, 2] (.block 1 (.seq (.row [⟨(some 34), none, .mv (.tmp 5)⟩,
    ⟨(some 35), none, .call 13 [(.tmp 34)]⟩,
    ⟨(some 6), none, .new [(.int .i64 0), (.string ⟨#[]⟩), (.bool false)] 28⟩,
    ⟨none, none, .stn 3 (.tmp 6) (.tmp 35)⟩])
  (.prune [3, 6, 4, 2] (.seq (.seq (.row [⟨(some 36), none, .fad 2 (.tmp 6)⟩,
    ⟨(some 37), none, .ld (.tmp 36)⟩,
    ⟨(some 38), none, .notB (.tmp 37)⟩])
  (.prune [38, 3, 6, 4, 2] (.cond (.tmp 38)
   (.seq (.row [⟨(some 39), none, .bld [(.slice none 0 0), (.string ⟨#[]⟩), (.bool false)] [] []⟩,
     ⟨none, none, .stn 3 (.tmp 2) (.tmp 39)⟩])
   (.prune [2] .ret))
   .skip)))
  (.prune [4, 6, 2, 3] (.seq (.row [⟨(some 40), none, .mv (.tmp 4)⟩,
    ⟨(some 41), none, .fad 0 (.tmp 6)⟩,
    ⟨(some 42), none, .ld (.tmp 41)⟩,
    ⟨(some 43), none, .bsl 3 1 [(.int .i64 0)] [(0, 1)] [(.tmp 42)]⟩,
    ⟨(some 44), none, .run (.bi .append ⟨[34, 34]⟩ 34) [(.tmp 40), (.tmp 43)]⟩,
    ⟨(some 4), none, .mv (.tmp 44)⟩])
  (.prune [6, 2, 4, 3] (.row [⟨(some 45), none, .fad 1 (.tmp 6)⟩,
    ⟨(some 46), none, .ld (.tmp 45)⟩,
    ⟨(some 5), none, .mv (.tmp 46)⟩]))))))))))))
 (.prune [4, 5, 2] (.seq (.row [⟨(some 47), none, .mv (.tmp 4)⟩,
   ⟨(some 48), none, .mv (.tmp 5)⟩,
   ⟨(some 49), none, .bld [(.slice none 0 0), (.string ⟨#[]⟩), (.bool false)] [(0, 1), (1, 1), (2, 1)] [(.tmp 47), (.tmp 48), (.const (.bool true))]⟩,
   ⟨none, none, .stn 3 (.tmp 2) (.tmp 49)⟩])
 (.prune [2] .ret))))))))))))))
theorem ok39 : fits Try.prog 39 ⟨s39, 50, [.cell 2 (some 3)]⟩ = some ⟨s39, 50, [.cell 2 (some 3)]⟩ := by kernel_rfl
theorem go39 {args : List Value} {w : World} {R : Value → World → Prop} (hle : Nat.ble args.length 50 = true) (h : vc Try.prog 50 s39 (argEnv args 0) w (fun L w => resL L w [.cell 2 (some 3)] fun vs => oneOr vs fun v => R v w) (fun _ _ _ => False) (fun L w => resL L w [.cell 2 (some 3)] fun vs => oneOr vs fun v => R v w)) : Cal Try.prog 39 ⟨args⟩ w R := cal_of mo ok39 hle h

-- footbridge/codec.edit
def s40 : S := (.seq (.draw (.take 0 ⟨(some 4), none, .mv (.tmp 0)⟩ (.take 1 ⟨(some 5), none, .mv (.tmp 1)⟩ (.take 2 ⟨(some 6), none, .nck (.tmp 5)⟩ (.take 3 ⟨(some 7), none, .fad 0 (.tmp 6)⟩ (.take 4 ⟨(some 8), none, .mkf (.method "footbridge/codec.number") [(.tmp 4)] []⟩ (.take 5 ⟨(some 9), none, .nck (.tmp 8)⟩ (.take 6 ⟨(some 10), none, .mv (.tmp 4)⟩ (.step 7 false ⟨(some 11), none, .calli (.tmp 10) "footbridge/codec.number" [(.tmp 7)]⟩ .done)))))))))
 (.prune [0, 1] (.draw (.take 0 ⟨(some 12), none, .mv (.tmp 0)⟩ (.take 1 ⟨(some 13), none, .mv (.tmp 1)⟩ (.take 2 ⟨(some 14), none, .nck (.tmp 13)⟩ (.take 3 ⟨(some 15), none, .fad 1 (.tmp 14)⟩ (.take 4 ⟨(some 16), none, .mkf (.method "footbridge/codec.list") [(.tmp 12)] []⟩ (.take 5 ⟨(some 17), none, .nck (.tmp 16)⟩ (.take 6 ⟨(some 18), none, .mv (.tmp 12)⟩ (.step 7 false ⟨(some 19), none, .calli (.tmp 18) "footbridge/codec.list" [(.tmp 15)]⟩ .done)))))))))))
theorem ok40 : fits Try.prog 40 ⟨s40, 20, []⟩ = some ⟨s40, 20, []⟩ := by kernel_rfl
theorem go40 {args : List Value} {w : World} {R : Value → World → Prop} (hle : Nat.ble args.length 20 = true) (h : vc Try.prog 20 s40 (argEnv args 0) w (fun L w => resL L w [] fun vs => oneOr vs fun v => R v w) (fun _ _ _ => False) (fun L w => resL L w [] fun vs => oneOr vs fun v => R v w)) : Cal Try.prog 40 ⟨args⟩ w R := cal_of mo ok40 hle h

-- footbridge/footbridgeref25.begins
def s41 : S := (.seq (.row [⟨(some 4), none, .mv (.const (.bool false))⟩])
 (.prune [0, 1] (.seq (.seq (.row [⟨(some 6), none, .mv (.tmp 0)⟩,
   ⟨(some 7), none, .lenA (.tmp 6)⟩,
   ⟨(some 8), none, .mv (.tmp 1)⟩,
   ⟨(some 9), none, .lenA (.tmp 8)⟩,
   ⟨(some 10), none, .ibin .lss .i64 (.tmp 7) (.tmp 9)⟩])
 (.prune [10, 0, 1] (.cond (.tmp 10)
  (.seq (.row [⟨(some 4), none, .mv (.const (.bool false))⟩])
  (.prune [4] .ret))
  .skip)))
 (.prune [1, 0] (.seq (.seq (.row [⟨(some 11), none, .mv (.tmp 1)⟩,
   ⟨(some 12), none, .lenA (.tmp 11)⟩,
   ⟨(some 13), none, .mv (.const (.int .i64 0))⟩])
 (.prune [13, 1, 0, 12] (.block 0 (.loop [13] [4, 5, 13, 14, 15, 16, 17, 18, 19, 20, 21, 22, 23, 24, 25] (.seq (.row [⟨(some 14), none, .ibin .lss .i64 (.tmp 13) (.tmp 12)⟩])
  (.prune [14, 12, 0, 1, 13] (.seq (.cond (.tmp 14)
   .skip
   (.exit 0))
  (.prune [12, 0, 1, 13] (.seq (.block 1 (.seq (.row [⟨(some 15), none, .mv (.tmp 13)⟩,
    ⟨(some 5), none, .mv (.tmp 15)⟩])
  (.prune [5, 12, 0, 1, 13] (.seq (.draw (.take 0 ⟨(some 16), none, .mv (.tmp 0)⟩ (.take 1 ⟨(some 17), none, .mv (.tmp 5)⟩ (.take 2 ⟨(some 18), none, .ixA 1 (.tmp 16) (.tmp 17)⟩ (.take 3 ⟨(some 19), none, .ld (.tmp 18)⟩ (.take 4 ⟨(some 20), none, .mv (.tmp 1)⟩ (.take 5 ⟨(some 21), none, .mv (.tmp 5)⟩ (.take 6 ⟨(some 22), none, .ixA 1 (.tmp 20) (.tmp 21)⟩ (.take 7 ⟨(some 23), none, .ld (.tmp 22)⟩ (.take 8 ⟨(some 24), none, .ibin .neq .i64 (.tmp 19) (.tmp 23)⟩ .done))))))))))
  (.prune [24, 12, 0, 1, 13] (.cond (.tmp 24)
   (.seq (.row [⟨(some 4), none, .mv (.const (.bool false))⟩])
   (.prune [4] .ret))
   .skip))))))
  (.prune [13, 1, 0, 12] (.row [⟨(some 25), none, .ibin .add .i64 (.tmp 13) (.const (.int .i64 1))⟩,
    ⟨(some 13), none, .mv (.tmp 25)⟩])))))))))))
 (.prune [] (.seq (.row [⟨(some 4), none, .mv (.const (.bool true))⟩])
 (.prune [4] .ret))))))))
theorem ok41 : fits Try.prog 41 ⟨s41, 26, [.tmp 4]⟩ = some ⟨s41, 26, [.tmp 4]⟩ := by kernel_rfl
theorem go41 {args : List Value} {w : World} {R : Value → World → Prop} (hle : Nat.ble args.length 26 = true) (h : vc Try.prog 26 s41 (argEnv args 0) w (fun L w => resL L w [.tmp 4] fun vs => oneOr vs fun v => R v w) (fun _ _ _ => False) (fun L w => resL L w [.tmp 4] fun vs => oneOr vs fun v => R v w)) : Cal Try.prog 41 ⟨args⟩ w R := cal_of mo ok41 hle h

-- (*footbridge/codec.writer).list
def s58 : S := (.seq (.row [⟨(some 6), none, .mv (.tmp 1)⟩,
   ⟨(some 7), none, .nck (.tmp 6)⟩,
   ⟨(some 8), none, .ld (.tmp 7)⟩,
   ⟨(some 9), none, .lenA (.tmp 8)⟩,
   ⟨(some 4), none, .new [(.int .i64 0)] 3⟩,
   ⟨none, none, .st (.tmp 4) (.tmp 9)⟩])
 (.prune [1, 0, 4] (.seq (.row [⟨(some 10), none, .mv (.tmp 0)⟩,
   ⟨(some 11), none, .call 59 [(.tmp 10), (.tmp 4)]⟩])
 (.prune [1, 0, 4] (.seq (.row [⟨(some 5), none, .mv (.const (.int .i64 0))⟩])
 (.prune [5, 1, 0, 4] (.block 0 (.loop [5] [5, 12, 13, 14, 15, 16, 17, 18, 19, 20, 21, 22, 23, 24, 25, 26, 27, 28, 29, 30, 31] (.seq (.seq (.row [⟨(some 12), none, .mv (.tmp 5)⟩,
    ⟨(some 13), none, .ld (.tmp 4)⟩,
    ⟨(some 14), none, .ibin .lss .i64 (.tmp 12) (.tmp 13)⟩,
    ⟨(some 15), none, .mv (.tmp 14)⟩,
    ⟨(some 16), (some (15, true)), .mv (.tmp 0)⟩,
    ⟨(some 17), (some (15, true)), .nck (.tmp 16)⟩,
    ⟨(some 18), (some (15, true)), .fad 0 (.tmp 17)⟩,
    ⟨(some 19), (some (15, true)), .ld (.tmp 18)⟩,
    ⟨(some 20), (some (15, true)), .lenA (.tmp 19)⟩,
    ⟨(some 21), (some (15, true)), .ibin .leq .i64 (.tmp 20) (.const (.int .i64 65536))⟩,
    ⟨(some 22), none, .pick (.tmp 15) (.tmp 21) (.const (.bool false))⟩])
  (.prune [22, 5, 1, 0, 4] (.cond (.tmp 22)
   .skip
   (.exit 0))))
  (.prune [5, 1, 0, 4] (.seq (.block 1 (.row [⟨(some 25), none, .mv (.tmp 0)⟩,
    ⟨(some 26), none, .mv (.tmp 1)⟩,
    ⟨(some 27), none, .nck (.tmp 26)⟩,
    ⟨(some 28), none, .ld (.tmp 27)⟩,
    ⟨(some 29), none, .mv (.tmp 5)⟩,
    ⟨(some 30), none, .ixA 1 (.tmp 28) (.tmp 29)⟩,
    ⟨(some 31), none, .call 59 [(.tmp 25), (.tmp 30)]⟩]))
  (.prune [5, 1, 0, 4] (.row [⟨(some 23), none, .mv (.tmp 5)⟩,
    ⟨(some 24), none, .ibin .add .i64 (.tmp 23) (.const (.int .i64 1))⟩,
    ⟨(some 5), none, .mv (.tmp 24)⟩])))))))))))))
theorem ok58 : fits Try.prog 58 ⟨s58, 32, []⟩ = some ⟨s58, 32, []⟩ := by kernel_rfl
theorem go58 {args : List Value} {w : World} {R : Value → World → Prop} (hle : Nat.ble args.length 32 = true) (h : vc Try.prog 32 s58 (argEnv args 0) w (fun L w => resL L w [] fun vs => oneOr vs fun v => R v w) (fun _ _ _ => False) (fun L w => resL L w [] fun vs => oneOr vs fun v => R v w)) : Cal Try.prog 58 ⟨args⟩ w R := cal_of mo ok58 hle h

-- (*footbridge/codec.writer).number
def s59 : S := (.draw (.take 0 ⟨(some 4), none, .mv (.tmp 0)⟩ (.take 1 ⟨(some 5), none, .mv (.tmp 0)⟩ (.take 2 ⟨(some 6), none, .nck (.tmp 5)⟩ (.take 3 ⟨(some 7), none, .fad 0 (.tmp 6)⟩ (.take 4 ⟨(some 8), none, .ld (.tmp 7)⟩ (.take 5 ⟨(some 9), none, .mv (.tmp 1)⟩ (.take 6 ⟨(some 10), none, .nck (.tmp 9)⟩ (.take 7 ⟨(some 11), none, .ld (.tmp 10)⟩ (.step 8 true ⟨(some 12), none, .call 11 [(.tmp 11)]⟩ (.step 9 true ⟨(some 13), none, .run (.bi .append ⟨[22, 22]⟩ 22) [(.tmp 8), (.tmp 12)]⟩ (.take 10 ⟨(some 14), none, .nck (.tmp 4)⟩ (.take 11 ⟨(some 15), none, .fad 0 (.tmp 14)⟩ (.step 12 false ⟨none, none, .st (.tmp 15) (.tmp 13)⟩ .done))))))))))))))
theorem ok59 : fits Try.prog 59 ⟨s59, 16, []⟩ = some ⟨s59, 16, []⟩ := by kernel_rfl
theorem go59 {args : List Value} {w : World} {R : Value → World → Prop} (hle : Nat.ble args.length 16 = true) (h : vc Try.prog 16 s59 (argEnv args 0) w (fun L w => resL L w [] fun vs => oneOr vs fun v => R v w) (fun _ _ _ => False) (fun L w => resL L w [] fun vs => oneOr vs fun v => R v w)) : Cal Try.prog 59 ⟨args⟩ w R := cal_of mo ok59 hle h

-- (*footbridge/codec.reader).list
def s60 : S := (.seq (.row [⟨(some 4), none, .new [(.int .i64 0)] 3⟩])
 (.prune [1, 0, 4] (.seq (.row [⟨(some 7), none, .mv (.tmp 0)⟩,
   ⟨(some 8), none, .call 61 [(.tmp 7), (.tmp 4)]⟩])
 (.prune [1, 0, 4] (.seq (.seq (.draw (.take 0 ⟨(some 9), none, .ld (.tmp 4)⟩ (.take 1 ⟨(some 10), none, .ibin .lss .i64 (.tmp 9) (.const (.int .i64 0))⟩ (.take 2 ⟨(some 11), none, .mv (.tmp 10)⟩ (.take 3 ⟨(some 12), (some (11, false)), .ld (.tmp 4)⟩ (.take 4 ⟨(some 13), (some (11, false)), .mv (.tmp 0)⟩ (.take 5 ⟨(some 14), (some (11, false)), .nck (.tmp 13)⟩ (.take 6 ⟨(some 15), (some (11, false)), .fad 0 (.tmp 14)⟩ (.take 7 ⟨(some 16), (some (11, false)), .ld (.tmp 15)⟩ (.take 8 ⟨(some 17), (some (11, false)), .lenA (.tmp 16)⟩ (.take 9 ⟨(some 18), (some (11, false)), .ibin .gtr .i64 (.tmp 12) (.tmp 17)⟩ (.take 10 ⟨(some 19), none, .pick (.tmp 11) (.const (.bool true)) (.tmp 18)⟩ .done))))))))))))
 (.prune [19, 1, 0, 4] (.cond (.tmp 19)
  (.row [⟨(some 20), none, .mv (.tmp 0)⟩,
    ⟨(some 21), none, .nck (.tmp 20)⟩,
    ⟨(some 22), none, .fad 1 (.tmp 21)⟩,
    ⟨none, none, .st (.tmp 22) (.const (.bool true))⟩])
  .skip)))
 (.prune [1, 0, 4] (.seq (.row [⟨(some 5), none, .mv (.const (.int .i64 0))⟩])
 (.prune [5, 1, 0, 4] (.block 0 (.loop [5] [5, 6, 23, 24, 25, 26, 27, 28, 29, 30, 31, 32, 33, 34, 35, 36, 37, 38, 39, 40, 41, 42, 43, 44] (.seq (.seq (.row [⟨(some 23), none, .mv (.tmp 5)⟩,
    ⟨(some 24), none, .ld (.tmp 4)⟩,
    ⟨(some 25), none, .ibin .lss .i64 (.tmp 23) (.tmp 24)⟩,
    ⟨(some 26), none, .mv (.tmp 25)⟩,
    ⟨(some 27), (some (26, true)), .mv (.tmp 0)⟩,
    ⟨(some 28), (some (26, true)), .nck (.tmp 27)⟩,
    ⟨(some 29), (some (26, true)), .fad 1 (.tmp 28)⟩,
    ⟨(some 30), (some (26, true)), .ld (.tmp 29)⟩,
    ⟨(some 31), (some (26, true)), .notB (.tmp 30)⟩,
    ⟨(some 32), none, .pick (.tmp 26) (.tmp 31) (.const (.bool false))⟩])
  (.prune [32, 5, 1, 0, 4] (.cond (.tmp 32)
   .skip
   (.exit 0))))
  (.prune [5, 1, 0, 4] (.seq (.block 1 (.seq (.row [⟨(some 6), none, .new [(.int .i64 0)] 3⟩])
  (.prune [6, 5, 1, 0, 4] (.seq (.row [⟨(some 35), none, .mv (.tmp 0)⟩,
    ⟨(some 36), none, .call 61 [(.tmp 35), (.tmp 6)]⟩])
  (.prune [6, 5, 1, 0, 4] (.draw (.take 0 ⟨(some 37), none, .mv (.tmp 1)⟩ (.take 1 ⟨(some 38), none, .mv (.tmp 1)⟩ (.take 2 ⟨(some 39), none, .nck (.tmp 38)⟩ (.take 3 ⟨(some 40), none, .ld (.tmp 39)⟩ (.take 4 ⟨(some 41), none, .ld (.tmp 6)⟩ (.step 5 true ⟨(some 42), none, .bsl 3 1 [(.int .i64 0)] [(0, 1)] [(.tmp 41)]⟩ (.step 6 true ⟨(some 43), none, .run (.bi .append ⟨[34, 34]⟩ 34) [(.tmp 40), (.tmp 42)]⟩ (.take 7 ⟨(some 44), none, .nck (.tmp 37)⟩ (.step 8 false ⟨none, none, .st (.tmp 44) (.tmp 43)⟩ .done)))))))))))))))
  (.prune [5, 1, 0, 4] (.row [⟨(some 33), none, .mv (.tmp 5)⟩,
    ⟨(some 34), none, .ibin .add .i64 (.tmp 33) (.const (.int .i64 1))⟩,
    ⟨(some 5), none, .mv (.tmp 34)⟩])))))))))))))))
theorem ok60 : fits Try.prog 60 ⟨s60, 45, []⟩ = some ⟨s60, 45, []⟩ := by kernel_rfl
theorem go60 {args : List Value} {w : World} {R : Value → World → Prop} (hle : Nat.ble args.length 45 = true) (h : vc Try.prog 45 s60 (argEnv args 0) w (fun L w => resL L w [] fun vs => oneOr vs fun v => R v w) (fun _ _ _ => False) (fun L w => resL L w [] fun vs => oneOr vs fun v => R v w)) : Cal Try.prog 60 ⟨args⟩ w R := cal_of mo ok60 hle h

-- (*footbridge/codec.reader).number
def s61 : S := (.seq (.row [⟨(some 8), none, .mv (.tmp 0)⟩,
   ⟨(some 9), none, .nck (.tmp 8)⟩,
   ⟨(some 10), none, .fad 0 (.tmp 9)⟩,
   ⟨(some 11), none, .ld (.tmp 10)⟩,
   ⟨(some 12), none, .call 12 [(.tmp 11)]⟩,
   ⟨(some 7), none, .mv (.tmp 12)⟩,
   ⟨(some 13), none, .ext (.tmp 7) 0⟩,
   ⟨(some 14), none, .ext (.tmp 7) 1⟩,
   ⟨(some 15), none, .ext (.tmp 7) 2⟩,
   ⟨(some 4), none, .mv (.tmp 13)⟩,
   ⟨(some 5), none, .mv (.tmp 14)⟩,
   ⟨(some 6), none, .mv (.tmp 15)⟩])
 (.prune [6, 1, 4, 0, 5] (.seq (.row [⟨(some 16), none, .mv (.tmp 0)⟩,
   ⟨(some 17), none, .mv (.tmp 0)⟩,
   ⟨(some 18), none, .nck (.tmp 17)⟩,
   ⟨(some 19), none, .fad 1 (.tmp 18)⟩,
   ⟨(some 20), none, .ld (.tmp 19)⟩,
   ⟨(some 21), none, .mv (.tmp 20)⟩,
   ⟨(some 22), (some (21, false)), .mv (.tmp 6)⟩,
   ⟨(some 23), (some (21, false)), .notB (.tmp 22)⟩,
   ⟨(some 24), none, .pick (.tmp 21) (.const (.bool true)) (.tmp 23)⟩,
   ⟨(some 25), none, .nck (.tmp 16)⟩,
   ⟨(some 26), none, .fad 1 (.tmp 25)⟩,
   ⟨none, none, .st (.tmp 26) (.tmp 24)⟩])
 (.prune [1, 4, 0, 5] (.draw (.take 0 ⟨(some 27), none, .mv (.tmp 1)⟩ (.take 1 ⟨(some 28), none, .mv (.tmp 0)⟩ (.take 2 ⟨(some 29), none, .mv (.tmp 4)⟩ (.take 3 ⟨(some 30), none, .mv (.tmp 0)⟩ (.take 4 ⟨(some 31), none, .nck (.tmp 30)⟩ (.take 5 ⟨(some 32), none, .fad 0 (.tmp 31)⟩ (.take 6 ⟨(some 33), none, .ld (.tmp 32)⟩ (.take 7 ⟨(some 34), none, .mv (.tmp 5)⟩ (.take 8 ⟨(some 35), none, .slc 1 (.tmp 33) (some (.tmp 34)) none⟩ (.take 9 ⟨(some 36), none, .nck (.tmp 27)⟩ (.step 10 false ⟨none, none, .st (.tmp 36) (.tmp 29)⟩ (.take 11 ⟨(some 37), none, .nck (.tmp 28)⟩ (.take 12 ⟨(some 38), none, .fad 0 (.tmp 37)⟩ (.step 13 false ⟨none, none, .st (.tmp 38) (.tmp 35)⟩ .done)))))))))))))))))))
theorem ok61 : fits Try.prog 61 ⟨s61, 39, []⟩ = some ⟨s61, 39, []⟩ := by kernel_rfl
theorem go61 {args : List Value} {w : World} {R : Value → World → Prop} (hle : Nat.ble args.length 39 = true) (h : vc Try.prog 39 s61 (argEnv args 0) w (fun L w => resL L w [] fun vs => oneOr vs fun v => R v w) (fun _ _ _ => False) (fun L w => resL L w [] fun vs => oneOr vs fun v => R v w)) : Cal Try.prog 61 ⟨args⟩ w R := cal_of mo ok61 hle h

end Fb.Try
