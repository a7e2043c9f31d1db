/-
  Made by a program of ours (wip/tools/slim.lean): the slim code of this claim's functions, each held against the model's code by one closed fact.
-/
import Derived.Test.YtoiiohogalmobaaVw
import Derived.Test.YtoiiohogalmobaaChecked
namespace Fb.Try
open Go Go.Proofs Fb

theorem mo : Try.prog.follows .mixedOrders = true := by kernel_rfl

-- footbridge/footbridgelaw05.RingQueue
def s3 : S := (.seq (.row [⟨(some 6), none, .mv (.const (.bool false))⟩])
 (.prune [0, 1, 2] (.seq (.seq (.row [⟨(some 16), none, .mv (.tmp 0)⟩,
   ⟨(some 17), none, .lenA (.tmp 16)⟩,
   ⟨(some 18), none, .ibin .gtr .i64 (.tmp 17) (.const (.int .i64 500))⟩])
 (.prune [18, 0, 1, 2] (.cond (.tmp 18)
  (.seq (.row [⟨(some 19), none, .call 13 []⟩,
    ⟨(some 6), none, .mv (.tmp 19)⟩])
  (.prune [6] .ret))
  .skip)))
 (.prune [2, 1, 0] (.seq (.row [⟨(some 20), none, .mv (.tmp 1)⟩,
   ⟨(some 21), none, .conv .i64 (.tmp 20)⟩,
   ⟨(some 22), none, .call 14 [(.tmp 21)]⟩,
   ⟨(some 7), none, .mv (.tmp 22)⟩])
 (.prune [2, 1, 7, 0] (.seq (.row [⟨(some 23), none, .bsl 5 0 [] [] []⟩,
   ⟨(some 8), none, .mv (.tmp 23)⟩])
 (.prune [2, 1, 7, 8, 0] (.seq (.row [⟨(some 24), none, .mv (.tmp 2)⟩,
   ⟨(some 25), none, .conv .i64 (.tmp 24)⟩,
   ⟨(some 26), none, .ibin .rem .i64 (.tmp 25) (.const (.int .i64 7))⟩,
   ⟨(some 27), none, .ibin .add .i64 (.const (.int .i64 1)) (.tmp 26)⟩,
   ⟨(some 9), none, .mv (.tmp 27)⟩])
 (.prune [9, 1, 7, 8, 0] (.seq (.seq (.row [⟨(some 28), none, .mv (.tmp 0)⟩,
   ⟨(some 29), none, .lenA (.tmp 28)⟩,
   ⟨(some 30), none, .mv (.const (.int .i64 0))⟩])
 (.prune [9, 30, 1, 7, 8, 28, 0, 29] (.block 0 (.loop [8, 30] [6, 8, 10, 11, 12, 13, 14, 15, 30, 31, 32, 33, 34, 35, 36, 37, 38, 39, 40, 41, 42, 43, 44, 45, 46, 47, 48, 49, 50, 51, 52, 53, 54, 55, 56, 57, 58, 59, 60, 61, 62, 63, 64, 65, 66, 67, 68, 69, 70, 71, 72, 73, 74, 75] (.seq (.row [⟨(some 31), none, .ibin .lss .i64 (.tmp 30) (.tmp 29)⟩])
  (.prune [31, 8, 7, 29, 0, 28, 1, 9, 30] (.seq (.cond (.tmp 31)
   .skip
   (.exit 0))
  (.prune [8, 7, 29, 0, 28, 1, 9, 30] (.seq (.block 1 (.seq (.row [⟨(some 32), none, .mv (.tmp 30)⟩,
    ⟨(some 33), none, .ixA 1 (.tmp 28) (.tmp 30)⟩,
    ⟨(some 34), none, .ld (.tmp 33)⟩,
    ⟨(some 10), none, .mv (.tmp 32)⟩,
    ⟨(some 11), none, .mv (.tmp 34)⟩])
  (.prune [8, 7, 11, 29, 0, 28, 1, 9, 30, 10] (.seq (.block 2 (.loop [8] [6, 8, 12, 13, 35, 36, 37, 38, 39, 40, 41, 42, 43, 44, 45, 46, 47, 48, 49, 50, 51, 52, 53, 54] (.seq (.seq (.row [⟨(some 35), none, .mv (.tmp 7)⟩,
     ⟨(some 36), none, .call 15 [(.tmp 35)]⟩,
     ⟨(some 37), none, .mv (.tmp 1)⟩,
     ⟨(some 38), none, .conv .i64 (.tmp 37)⟩,
     ⟨(some 39), none, .ibin .eql .i64 (.tmp 36) (.tmp 38)⟩,
     ⟨(some 40), none, .mv (.tmp 39)⟩,
     ⟨(some 41), (some (40, true)), .mv (.tmp 1)⟩,
     ⟨(some 42), (some (40, true)), .ibin .gtr .u8 (.tmp 41) (.const (.int .u8 0))⟩,
     ⟨(some 43), none, .pick (.tmp 40) (.tmp 42) (.const (.bool false))⟩])
   (.prune [43, 10, 30, 9, 1, 28, 0, 29, 11, 7, 8] (.cond (.tmp 43)
    .skip
    (.exit 2))))
   (.prune [10, 30, 9, 1, 28, 0, 29, 11, 7, 8] (.block 3 (.seq (.row [⟨(some 45), none, .mv (.tmp 7)⟩,
     ⟨(some 46), none, .call 16 [(.tmp 45)]⟩,
     ⟨(some 44), none, .mv (.tmp 46)⟩,
     ⟨(some 47), none, .ext (.tmp 44) 0⟩,
     ⟨(some 48), none, .ext (.tmp 44) 1⟩,
     ⟨(some 12), none, .mv (.tmp 47)⟩,
     ⟨(some 13), none, .mv (.tmp 48)⟩])
   (.prune [13, 10, 30, 9, 1, 28, 0, 29, 11, 7, 12, 8] (.seq (.seq (.row [⟨(some 49), none, .mv (.tmp 13)⟩,
     ⟨(some 50), none, .notB (.tmp 49)⟩])
   (.prune [50, 10, 30, 9, 1, 28, 0, 29, 11, 7, 12, 8] (.cond (.tmp 50)
    (.seq (.row [⟨(some 6), none, .mv (.const (.bool false))⟩])
    (.prune [6] .ret))
    .skip)))
   (.prune [8, 12, 7, 11, 29, 0, 28, 1, 9, 30, 10] (.row [⟨(some 51), none, .mv (.tmp 8)⟩,
     ⟨(some 52), none, .mv (.tmp 12)⟩,
     ⟨(some 53), none, .bsl 5 1 [(.int .u8 0)] [(0, 1)] [(.tmp 52)]⟩,
     ⟨(some 54), none, .run (.bi .append ⟨[22, 22]⟩ 22) [(.tmp 51), (.tmp 53)]⟩,
     ⟨(some 8), none, .mv (.tmp 54)⟩]))))))))))
  (.prune [11, 29, 0, 28, 7, 1, 9, 30, 8, 10] (.seq (.seq (.row [⟨(some 55), none, .mv (.tmp 7)⟩,
    ⟨(some 56), none, .mv (.tmp 11)⟩,
    ⟨(some 57), none, .call 17 [(.tmp 55), (.tmp 56)]⟩,
    ⟨(some 58), none, .mv (.tmp 1)⟩,
    ⟨(some 59), none, .ibin .gtr .u8 (.tmp 58) (.const (.int .u8 0))⟩,
    ⟨(some 60), none, .bbin true (.tmp 57) (.tmp 59)⟩])
  (.prune [60, 29, 0, 28, 7, 1, 9, 30, 8, 10] (.cond (.tmp 60)
   (.seq (.row [⟨(some 6), none, .mv (.const (.bool false))⟩])
   (.prune [6] .ret))
   .skip)))
  (.prune [10, 8, 30, 9, 1, 7, 28, 0, 29] (.seq (.row [⟨(some 61), none, .mv (.tmp 10)⟩,
    ⟨(some 62), none, .mv (.tmp 9)⟩,
    ⟨(some 63), none, .ibin .rem .i64 (.tmp 61) (.tmp 62)⟩,
    ⟨(some 64), none, .ibin .eql .i64 (.tmp 63) (.const (.int .i64 0))⟩])
  (.prune [64, 8, 30, 9, 1, 7, 28, 0, 29] (.cond (.tmp 64)
   (.seq (.row [⟨(some 66), none, .mv (.tmp 7)⟩,
     ⟨(some 67), none, .call 16 [(.tmp 66)]⟩,
     ⟨(some 65), none, .mv (.tmp 67)⟩,
     ⟨(some 68), none, .ext (.tmp 65) 0⟩,
     ⟨(some 69), none, .ext (.tmp 65) 1⟩,
     ⟨(some 14), none, .mv (.tmp 68)⟩,
     ⟨(some 15), none, .mv (.tmp 69)⟩])
   (.prune [15, 8, 14, 30, 9, 1, 7, 28, 0, 29] (.seq (.row [⟨(some 70), none, .mv (.tmp 15)⟩])
   (.prune [70, 8, 14, 30, 9, 1, 7, 28, 0, 29] (.cond (.tmp 70)
    (.row [⟨(some 71), none, .mv (.tmp 8)⟩,
      ⟨(some 72), none, .mv (.tmp 14)⟩,
      ⟨(some 73), none, .bsl 5 1 [(.int .u8 0)] [(0, 1)] [(.tmp 72)]⟩,
      ⟨(some 74), none, .run (.bi .append ⟨[22, 22]⟩ 22) [(.tmp 71), (.tmp 73)]⟩,
      ⟨(some 8), none, .mv (.tmp 74)⟩])
    .skip)))))
   .skip))))))))))
  (.prune [30, 9, 1, 7, 8, 28, 0, 29] (.row [⟨(some 75), none, .ibin .add .i64 (.tmp 30) (.const (.int .i64 1))⟩,
    ⟨(some 30), none, .mv (.tmp 75)⟩])))))))))))
 (.prune [8, 7, 1, 0] (.seq (.row [⟨(some 76), none, .mv (.tmp 8)⟩,
   ⟨(some 77), none, .mv (.tmp 7)⟩,
   ⟨(some 78), none, .call 18 [(.tmp 77)]⟩,
   ⟨(some 79), none, .run (.bi .append ⟨[22, 22]⟩ 22) [(.tmp 76), (.tmp 78)]⟩,
   ⟨(some 8), none, .mv (.tmp 79)⟩])
 (.prune [1, 8, 0] (.seq (.row [⟨(some 80), none, .call 13 []⟩,
   ⟨(some 81), none, .mv (.tmp 80)⟩,
   ⟨(some 82), (some (81, true)), .mv (.tmp 1)⟩,
   ⟨(some 83), (some (81, true)), .ibin .eql .u8 (.tmp 82) (.const (.int .u8 0))⟩,
   ⟨(some 84), (some (81, true)), .mv (.tmp 83)⟩,
   ⟨(some 85), (some (84, false)), .mv (.tmp 8)⟩,
   ⟨(some 86), (some (84, false)), .get (.conv 22 9) [(.tmp 85)]⟩,
   ⟨(some 87), (some (84, false)), .mv (.tmp 0)⟩,
   ⟨(some 88), (some (84, false)), .get (.conv 22 9) [(.tmp 87)]⟩,
   ⟨(some 89), (some (84, false)), .sbin .eql (.tmp 86) (.tmp 88)⟩,
   ⟨(some 90), (some (81, true)), .pick (.tmp 84) (.const (.bool true)) (.tmp 89)⟩,
   ⟨(some 91), none, .pick (.tmp 81) (.tmp 90) (.const (.bool false))⟩,
   ⟨(some 6), none, .mv (.tmp 91)⟩])
 (.prune [6] .ret))))))))))))))))
theorem ok3 : fits Try.prog 3 ⟨s3, 92, [.tmp 6]⟩ = some ⟨s3, 92, [.tmp 6]⟩ := by kernel_rfl
theorem go3 {args : List Value} {w : World} {R : Value → World → Prop} (hle : Nat.ble args.length 92 = true) (h : vc Try.prog 92 s3 (argEnv args 0) w (fun L w => resL L w [.tmp 6] fun vs => oneOr vs fun v => R v w) (fun _ _ _ => False) (fun L w => resL L w [.tmp 6] fun vs => oneOr vs fun v => R v w)) : Cal Try.prog 3 ⟨args⟩ w R := cal_of mo ok3 hle h

-- footbridge/footbridgelaw05.RingOwn
def s4 : S := (.seq (.row [⟨(some 6), none, .mv (.const (.bool false))⟩])
 (.prune [2, 1, 0] (.seq (.seq (.row [⟨(some 15), none, .mv (.tmp 1)⟩,
   ⟨(some 16), none, .lenA (.tmp 15)⟩,
   ⟨(some 17), none, .ibin .gtr .i64 (.tmp 16) (.const (.int .i64 100))⟩])
 (.prune [17, 2, 1, 0] (.cond (.tmp 17)
  (.seq (.row [⟨(some 18), none, .call 13 []⟩,
    ⟨(some 6), none, .mv (.tmp 18)⟩])
  (.prune [6] .ret))
  .skip)))
 (.prune [0, 1, 2] (.seq (.row [⟨(some 19), none, .mv (.tmp 0)⟩,
   ⟨(some 20), none, .conv .i64 (.tmp 19)⟩,
   ⟨(some 21), none, .call 19 [(.tmp 20)]⟩,
   ⟨(some 7), none, .mv (.tmp 21)⟩])
 (.prune [0, 1, 7, 2] (.seq (.row [⟨(some 22), none, .mv (.tmp 0)⟩,
   ⟨(some 23), none, .conv .i64 (.tmp 22)⟩,
   ⟨(some 24), none, .bld [(.slice none 0 0), (.int .i64 0), (.int .i64 0)] [(2, 1)] [(.tmp 23)]⟩,
   ⟨(some 8), none, .new [(.slice none 0 0), (.int .i64 0), (.int .i64 0)] 37⟩,
   ⟨none, none, .stn 3 (.tmp 8) (.tmp 24)⟩])
 (.prune [1, 7, 2, 8] (.seq (.seq (.row [⟨(some 25), none, .mv (.tmp 1)⟩,
   ⟨(some 26), none, .lenA (.tmp 25)⟩,
   ⟨(some 27), none, .mv (.const (.int .i64 0))⟩])
 (.prune [7, 2, 27, 8, 25, 26] (.block 0 (.loop [27] [6, 10, 11, 12, 13, 14, 27, 28, 29, 30, 31, 32, 33, 34, 35, 36, 37, 38, 39, 40, 41, 42, 43, 44, 45, 46, 47, 48, 49, 50, 51, 52, 53, 54, 55, 56, 57] (.seq (.row [⟨(some 28), none, .ibin .lss .i64 (.tmp 27) (.tmp 26)⟩])
  (.prune [28, 26, 25, 8, 7, 27, 2] (.seq (.cond (.tmp 28)
   .skip
   (.exit 0))
  (.prune [26, 25, 8, 7, 27, 2] (.seq (.block 1 (.seq (.row [⟨(some 29), none, .ixA 3 (.tmp 25) (.tmp 27)⟩,
    ⟨(some 30), none, .ldn 3 (.tmp 29)⟩,
    ⟨(some 10), none, .new [(.int .u8 0), (.int .i32 0), (.int .i64 0)] 39⟩,
    ⟨none, none, .stn 3 (.tmp 10) (.tmp 30)⟩])
  (.prune [10, 26, 25, 8, 7, 27, 2] (.seq (.row [⟨(some 32), none, .mv (.tmp 7)⟩,
    ⟨(some 33), none, .ldn 3 (.tmp 8)⟩,
    ⟨(some 34), none, .ldn 3 (.tmp 10)⟩,
    ⟨(some 35), none, .call 20 [(.tmp 32), (.tmp 33), (.tmp 34)]⟩,
    ⟨(some 31), none, .mv (.tmp 35)⟩,
    ⟨(some 36), none, .ext (.tmp 31) 0⟩,
    ⟨(some 37), none, .ext (.tmp 31) 1⟩,
    ⟨(some 11), none, .new [(.slice none 0 0), (.int .i64 0), (.int .i64 0)] 37⟩,
    ⟨none, none, .stn 3 (.tmp 11) (.tmp 36)⟩,
    ⟨(some 12), none, .mv (.tmp 37)⟩])
  (.prune [11, 12, 26, 25, 8, 7, 27, 2] (.seq (.row [⟨(some 38), none, .ldn 3 (.tmp 11)⟩,
    ⟨none, none, .stn 3 (.tmp 8) (.tmp 38)⟩])
  (.prune [12, 26, 25, 8, 7, 27, 2] (.seq (.seq (.row [⟨(some 39), none, .mv (.tmp 12)⟩,
    ⟨(some 40), none, .notB (.tmp 39)⟩])
  (.prune [40, 26, 25, 8, 7, 27, 2] (.cond (.tmp 40)
   (.seq (.row [⟨(some 6), none, .mv (.const (.bool false))⟩])
   (.prune [6] .ret))
   .skip)))
  (.prune [2, 27, 7, 8, 25, 26] (.seq (.row [⟨(some 41), none, .mv (.tmp 7)⟩,
    ⟨(some 42), none, .call 21 [(.tmp 41)]⟩,
    ⟨(some 13), none, .mv (.tmp 42)⟩])
  (.prune [2, 13, 27, 7, 8, 25, 26] (.seq (.seq (.row [⟨(some 43), none, .mv (.tmp 13)⟩,
    ⟨(some 44), none, .lenA (.tmp 43)⟩,
    ⟨(some 45), none, .mv (.const (.int .i64 0))⟩])
  (.prune [45, 2, 13, 27, 7, 8, 25, 26, 44] (.block 2 (.loop [45] [14, 45, 46, 47, 48, 49, 50, 51, 52] (.seq (.row [⟨(some 46), none, .ibin .lss .i64 (.tmp 45) (.tmp 44)⟩])
   (.prune [46, 45, 2, 13, 27, 7, 8, 25, 26, 44] (.seq (.cond (.tmp 46)
    .skip
    (.exit 2))
   (.prune [45, 2, 13, 27, 7, 8, 25, 26, 44] (.seq (.block 3 (.seq (.row [⟨(some 47), none, .mv (.tmp 45)⟩,
     ⟨(some 14), none, .mv (.tmp 47)⟩])
   (.prune [14, 45, 2, 13, 27, 7, 8, 25, 26, 44] (.row [⟨(some 48), none, .mv (.tmp 13)⟩,
     ⟨(some 49), none, .mv (.tmp 14)⟩,
     ⟨(some 50), none, .mv (.tmp 2)⟩,
     ⟨(some 51), none, .ixA 1 (.tmp 48) (.tmp 49)⟩,
     ⟨none, none, .st (.tmp 51) (.tmp 50)⟩]))))
   (.prune [45, 2, 13, 27, 7, 8, 25, 26, 44] (.row [⟨(some 52), none, .ibin .add .i64 (.tmp 45) (.const (.int .i64 1))⟩,
     ⟨(some 45), none, .mv (.tmp 52)⟩])))))))))))
  (.prune [13, 27, 7, 2, 8, 25, 26] (.row [⟨(some 53), none, .mv (.tmp 13)⟩,
    ⟨(some 54), none, .mv (.tmp 2)⟩,
    ⟨(some 55), none, .bsl 21 1 [(.int .i32 0)] [(0, 1)] [(.tmp 54)]⟩,
    ⟨(some 56), none, .run (.bi .append ⟨[35, 35]⟩ 35) [(.tmp 53), (.tmp 55)]⟩]))))))))))))))
  (.prune [27, 7, 2, 8, 25, 26] (.row [⟨(some 57), none, .ibin .add .i64 (.tmp 27) (.const (.int .i64 1))⟩,
    ⟨(some 27), none, .mv (.tmp 57)⟩])))))))))))
 (.prune [7, 8] (.seq (.draw (.step 0 true ⟨(some 58), none, .call 13 []⟩ (.take 1 ⟨(some 59), none, .mv (.tmp 58)⟩ (.take 2 ⟨(some 60), (some (59, true)), .mv (.tmp 7)⟩ (.take 4 ⟨(some 62), (some (59, true)), .fad 0 (.tmp 8)⟩ (.take 5 ⟨(some 63), (some (59, true)), .ld (.tmp 62)⟩ (.step 3 true ⟨(some 61), (some (59, true)), .call 21 [(.tmp 60)]⟩ (.step 6 false ⟨(some 64), (some (59, true)), .call 22 [(.tmp 61), (.tmp 63)]⟩ (.take 7 ⟨(some 65), none, .pick (.tmp 59) (.tmp 64) (.const (.bool false))⟩ (.take 8 ⟨(some 6), none, .mv (.tmp 65)⟩ .done))))))))))
 (.prune [6] .ret))))))))))))
theorem ok4 : fits Try.prog 4 ⟨s4, 66, [.tmp 6]⟩ = some ⟨s4, 66, [.tmp 6]⟩ := by kernel_rfl
theorem go4 {args : List Value} {w : World} {R : Value → World → Prop} (hle : Nat.ble args.length 66 = true) (h : vc Try.prog 66 s4 (argEnv args 0) w (fun L w => resL L w [.tmp 6] fun vs => oneOr vs fun v => R v w) (fun _ _ _ => False) (fun L w => resL L w [.tmp 6] fun vs => oneOr vs fun v => R v w)) : Cal Try.prog 4 ⟨args⟩ w R := cal_of mo ok4 hle h

-- footbridge/footbridgelaw05.RingPlays
def s5 : S := (.seq (.row [⟨(some 4), none, .mv (.const (.bool false))⟩])
 (.prune [0, 1] (.seq (.row [⟨(some 11), none, .mv (.tmp 0)⟩,
   ⟨(some 12), none, .call 19 [(.tmp 11)]⟩,
   ⟨(some 5), none, .mv (.tmp 12)⟩])
 (.prune [0, 1, 5] (.seq (.seq (.row [⟨(some 13), none, .mv (.tmp 0)⟩,
   ⟨(some 14), none, .ibin .lss .i64 (.tmp 13) (.const (.int .i64 0))⟩,
   ⟨(some 15), none, .mv (.tmp 14)⟩,
   ⟨(some 16), (some (15, false)), .mv (.tmp 0)⟩,
   ⟨(some 17), (some (15, false)), .ibin .gtr .i64 (.tmp 16) (.const (.int .i64 1048576))⟩,
   ⟨(some 18), none, .pick (.tmp 15) (.const (.bool true)) (.tmp 17)⟩])
 (.prune [18, 0, 1, 5] (.cond (.tmp 18)
  (.seq (.row [⟨(some 19), none, .call 13 []⟩,
    ⟨(some 20), none, .mv (.tmp 19)⟩,
    ⟨(some 21), (some (20, true)), .mv (.tmp 5)⟩,
    ⟨(some 22), (some (20, true)), .isnil 0 false (.tmp 21)⟩,
    ⟨(some 23), none, .pick (.tmp 20) (.tmp 22) (.const (.bool false))⟩,
    ⟨(some 4), none, .mv (.tmp 23)⟩])
  (.prune [4] .ret))
  .skip)))
 (.prune [1, 5, 0] (.seq (.seq (.row [⟨(some 24), none, .mv (.tmp 5)⟩,
   ⟨(some 25), none, .isnil 0 false (.tmp 24)⟩,
   ⟨(some 26), none, .mv (.tmp 25)⟩,
   ⟨(some 27), (some (26, false)), .mv (.tmp 5)⟩,
   ⟨(some 28), (some (26, false)), .call 23 [(.tmp 27)]⟩,
   ⟨(some 29), (some (26, false)), .mv (.tmp 0)⟩,
   ⟨(some 30), (some (26, false)), .ibin .neq .i64 (.tmp 28) (.tmp 29)⟩,
   ⟨(some 31), none, .pick (.tmp 26) (.const (.bool true)) (.tmp 30)⟩,
   ⟨(some 32), none, .mv (.tmp 31)⟩,
   ⟨(some 33), (some (32, false)), .mv (.tmp 1)⟩,
   ⟨(some 34), (some (32, false)), .lenA (.tmp 33)⟩,
   ⟨(some 35), (some (32, false)), .ibin .gtr .i64 (.tmp 34) (.const (.int .i64 200))⟩,
   ⟨(some 36), none, .pick (.tmp 32) (.const (.bool true)) (.tmp 35)⟩])
 (.prune [36, 1, 5, 0] (.cond (.tmp 36)
  (.seq (.row [⟨(some 37), none, .mv (.tmp 5)⟩,
    ⟨(some 38), none, .isnil 0 true (.tmp 37)⟩,
    ⟨(some 39), none, .mv (.tmp 38)⟩,
    ⟨(some 40), (some (39, true)), .mv (.tmp 5)⟩,
    ⟨(some 41), (some (39, true)), .call 23 [(.tmp 40)]⟩,
    ⟨(some 42), (some (39, true)), .mv (.tmp 0)⟩,
    ⟨(some 43), (some (39, true)), .ibin .eql .i64 (.tmp 41) (.tmp 42)⟩,
    ⟨(some 44), none, .pick (.tmp 39) (.tmp 43) (.const (.bool false))⟩,
    ⟨(some 45), none, .mv (.tmp 44)⟩,
    ⟨(some 46), (some (45, true)), .call 13 []⟩,
    ⟨(some 47), none, .pick (.tmp 45) (.tmp 46) (.const (.bool false))⟩,
    ⟨(some 4), none, .mv (.tmp 47)⟩])
  (.prune [4] .ret))
  .skip)))
 (.prune [0, 1, 5] (.seq (.row [⟨(some 48), none, .mv (.tmp 0)⟩,
   ⟨(some 49), none, .bld [(.slice none 0 0), (.int .i64 0), (.int .i64 0)] [(2, 1)] [(.tmp 48)]⟩,
   ⟨(some 6), none, .new [(.slice none 0 0), (.int .i64 0), (.int .i64 0)] 37⟩,
   ⟨none, none, .stn 3 (.tmp 6) (.tmp 49)⟩])
 (.prune [1, 6, 5] (.seq (.seq (.row [⟨(some 50), none, .mv (.tmp 1)⟩,
   ⟨(some 51), none, .lenA (.tmp 50)⟩,
   ⟨(some 52), none, .mv (.const (.int .i64 0))⟩])
 (.prune [52, 6, 5, 50, 51] (.block 0 (.loop [52] [4, 8, 9, 10, 52, 53, 54, 55, 56, 57, 58, 59, 60, 61, 62, 63, 64, 65, 66, 67, 68, 69, 70, 71, 72, 73, 74, 75, 76, 77, 78, 79, 80, 81] (.seq (.row [⟨(some 53), none, .ibin .lss .i64 (.tmp 52) (.tmp 51)⟩])
  (.prune [53, 51, 50, 5, 6, 52] (.seq (.cond (.tmp 53)
   .skip
   (.exit 0))
  (.prune [51, 50, 5, 6, 52] (.seq (.block 1 (.seq (.row [⟨(some 54), none, .ixA 3 (.tmp 50) (.tmp 52)⟩,
    ⟨(some 55), none, .ldn 3 (.tmp 54)⟩,
    ⟨(some 8), none, .new [(.int .u8 0), (.int .i32 0), (.int .i64 0)] 39⟩,
    ⟨none, none, .stn 3 (.tmp 8) (.tmp 55)⟩])
  (.prune [8, 51, 50, 5, 6, 52] (.seq (.row [⟨(some 57), none, .mv (.tmp 5)⟩,
    ⟨(some 58), none, .ldn 3 (.tmp 6)⟩,
    ⟨(some 59), none, .ldn 3 (.tmp 8)⟩,
    ⟨(some 60), none, .call 20 [(.tmp 57), (.tmp 58), (.tmp 59)]⟩,
    ⟨(some 56), none, .mv (.tmp 60)⟩,
    ⟨(some 61), none, .ext (.tmp 56) 0⟩,
    ⟨(some 62), none, .ext (.tmp 56) 1⟩,
    ⟨(some 9), none, .new [(.slice none 0 0), (.int .i64 0), (.int .i64 0)] 37⟩,
    ⟨none, none, .stn 3 (.tmp 9) (.tmp 61)⟩,
    ⟨(some 10), none, .mv (.tmp 62)⟩])
  (.prune [9, 10, 51, 50, 5, 6, 52] (.seq (.row [⟨(some 63), none, .ldn 3 (.tmp 9)⟩,
    ⟨none, none, .stn 3 (.tmp 6) (.tmp 63)⟩])
  (.prune [10, 51, 50, 5, 6, 52] (.seq (.draw (.take 0 ⟨(some 64), none, .mv (.tmp 10)⟩ (.take 1 ⟨(some 65), none, .notB (.tmp 64)⟩ (.take 2 ⟨(some 66), none, .mv (.tmp 65)⟩ (.take 3 ⟨(some 67), (some (66, false)), .mv (.tmp 5)⟩ (.take 5 ⟨(some 69), (some (66, false)), .fad 0 (.tmp 6)⟩ (.take 6 ⟨(some 70), (some (66, false)), .ld (.tmp 69)⟩ (.take 7 ⟨(some 71), (some (66, false)), .lenA (.tmp 70)⟩ (.step 4 true ⟨(some 68), (some (66, false)), .call 24 [(.tmp 67)]⟩ (.take 8 ⟨(some 72), (some (66, false)), .ibin .neq .i64 (.tmp 68) (.tmp 71)⟩ (.take 9 ⟨(some 73), none, .pick (.tmp 66) (.const (.bool true)) (.tmp 72)⟩ (.take 10 ⟨(some 74), none, .mv (.tmp 73)⟩ (.take 11 ⟨(some 75), (some (74, false)), .mv (.tmp 5)⟩ (.take 13 ⟨(some 77), (some (74, false)), .fad 1 (.tmp 6)⟩ (.take 14 ⟨(some 78), (some (74, false)), .ld (.tmp 77)⟩ (.step 12 true ⟨(some 76), (some (74, false)), .call 25 [(.tmp 75)]⟩ (.take 15 ⟨(some 79), (some (74, false)), .ibin .neq .i64 (.tmp 76) (.tmp 78)⟩ (.take 16 ⟨(some 80), none, .pick (.tmp 74) (.const (.bool true)) (.tmp 79)⟩ .done))))))))))))))))))
  (.prune [80, 51, 50, 5, 6, 52] (.cond (.tmp 80)
   (.seq (.row [⟨(some 4), none, .mv (.const (.bool false))⟩])
   (.prune [4] .ret))
   .skip))))))))))
  (.prune [52, 6, 5, 50, 51] (.row [⟨(some 81), none, .ibin .add .i64 (.tmp 52) (.const (.int .i64 1))⟩,
    ⟨(some 52), none, .mv (.tmp 81)⟩])))))))))))
 (.prune [5, 6] (.seq (.draw (.step 0 true ⟨(some 82), none, .call 13 []⟩ (.take 1 ⟨(some 83), none, .mv (.tmp 82)⟩ (.take 2 ⟨(some 84), (some (83, true)), .mv (.tmp 5)⟩ (.take 4 ⟨(some 86), (some (83, true)), .fad 0 (.tmp 6)⟩ (.take 5 ⟨(some 87), (some (83, true)), .ld (.tmp 86)⟩ (.step 3 true ⟨(some 85), (some (83, true)), .call 21 [(.tmp 84)]⟩ (.step 6 false ⟨(some 88), (some (83, true)), .call 22 [(.tmp 85), (.tmp 87)]⟩ (.take 7 ⟨(some 89), none, .pick (.tmp 83) (.tmp 88) (.const (.bool false))⟩ (.take 8 ⟨(some 4), none, .mv (.tmp 89)⟩ .done))))))))))
 (.prune [4] .ret))))))))))))))
theorem ok5 : fits Try.prog 5 ⟨s5, 90, [.tmp 4]⟩ = some ⟨s5, 90, [.tmp 4]⟩ := by kernel_rfl
theorem go5 {args : List Value} {w : World} {R : Value → World → Prop} (hle : Nat.ble args.length 90 = true) (h : vc Try.prog 90 s5 (argEnv args 0) w (fun L w => resL L w [.tmp 4] fun vs => oneOr vs fun v => R v w) (fun _ _ _ => False) (fun L w => resL L w [.tmp 4] fun vs => oneOr vs fun v => R v w)) : Cal Try.prog 5 ⟨args⟩ w R := cal_of mo ok5 hle h

-- footbridge/footbridgelaw05.RingCopies
def s6 : S := (.seq (.row [⟨(some 8), none, .mv (.const (.bool false))⟩])
 (.prune [3, 2, 0, 1] (.seq (.seq (.row [⟨(some 23), none, .mv (.tmp 1)⟩,
   ⟨(some 24), none, .lenA (.tmp 23)⟩,
   ⟨(some 25), none, .ibin .gtr .i64 (.tmp 24) (.const (.int .i64 100))⟩,
   ⟨(some 26), none, .mv (.tmp 25)⟩,
   ⟨(some 27), (some (26, false)), .mv (.tmp 2)⟩,
   ⟨(some 28), (some (26, false)), .lenA (.tmp 27)⟩,
   ⟨(some 29), (some (26, false)), .ibin .gtr .i64 (.tmp 28) (.const (.int .i64 100))⟩,
   ⟨(some 30), none, .pick (.tmp 26) (.const (.bool true)) (.tmp 29)⟩,
   ⟨(some 31), none, .mv (.tmp 30)⟩,
   ⟨(some 32), (some (31, false)), .mv (.tmp 3)⟩,
   ⟨(some 33), (some (31, false)), .lenA (.tmp 32)⟩,
   ⟨(some 34), (some (31, false)), .ibin .gtr .i64 (.tmp 33) (.const (.int .i64 100))⟩,
   ⟨(some 35), none, .pick (.tmp 31) (.const (.bool true)) (.tmp 34)⟩])
 (.prune [35, 3, 2, 0, 1] (.cond (.tmp 35)
  (.seq (.row [⟨(some 36), none, .call 13 []⟩,
    ⟨(some 8), none, .mv (.tmp 36)⟩])
  (.prune [8] .ret))
  .skip)))
 (.prune [1, 0, 2, 3] (.seq (.row [⟨(some 37), none, .mv (.tmp 0)⟩,
   ⟨(some 38), none, .conv .i64 (.tmp 37)⟩,
   ⟨(some 39), none, .call 19 [(.tmp 38)]⟩,
   ⟨(some 9), none, .mv (.tmp 39)⟩])
 (.prune [1, 9, 0, 2, 3] (.seq (.row [⟨(some 40), none, .mv (.tmp 0)⟩,
   ⟨(some 41), none, .conv .i64 (.tmp 40)⟩,
   ⟨(some 42), none, .bld [(.slice none 0 0), (.int .i64 0), (.int .i64 0)] [(2, 1)] [(.tmp 41)]⟩,
   ⟨(some 10), none, .new [(.slice none 0 0), (.int .i64 0), (.int .i64 0)] 37⟩,
   ⟨none, none, .stn 3 (.tmp 10) (.tmp 42)⟩])
 (.prune [1, 10, 9, 0, 2, 3] (.seq (.row [⟨(some 11), none, .mv (.const (.bool true))⟩])
 (.prune [1, 10, 11, 9, 0, 2, 3] (.seq (.seq (.row [⟨(some 43), none, .mv (.tmp 1)⟩,
   ⟨(some 44), none, .lenA (.tmp 43)⟩,
   ⟨(some 45), none, .mv (.const (.int .i64 0))⟩])
 (.prune [45, 10, 11, 9, 43, 0, 2, 3, 44] (.block 0 (.loop [11, 45] [11, 13, 14, 15, 45, 46, 47, 48, 49, 50, 51, 52, 53, 54, 55, 56, 57, 58, 59, 60, 61] (.seq (.row [⟨(some 46), none, .ibin .lss .i64 (.tmp 45) (.tmp 44)⟩])
  (.prune [46, 11, 45, 10, 9, 43, 0, 2, 3, 44] (.seq (.cond (.tmp 46)
   .skip
   (.exit 0))
  (.prune [11, 45, 10, 9, 43, 0, 2, 3, 44] (.seq (.block 1 (.seq (.row [⟨(some 47), none, .ixA 3 (.tmp 43) (.tmp 45)⟩,
    ⟨(some 48), none, .ldn 3 (.tmp 47)⟩,
    ⟨(some 13), none, .new [(.int .u8 0), (.int .i32 0), (.int .i64 0)] 39⟩,
    ⟨none, none, .stn 3 (.tmp 13) (.tmp 48)⟩])
  (.prune [13, 11, 45, 10, 9, 43, 0, 2, 3, 44] (.seq (.row [⟨(some 50), none, .mv (.tmp 9)⟩,
    ⟨(some 51), none, .ldn 3 (.tmp 10)⟩,
    ⟨(some 52), none, .ldn 3 (.tmp 13)⟩,
    ⟨(some 53), none, .call 20 [(.tmp 50), (.tmp 51), (.tmp 52)]⟩,
    ⟨(some 49), none, .mv (.tmp 53)⟩,
    ⟨(some 54), none, .ext (.tmp 49) 0⟩,
    ⟨(some 55), none, .ext (.tmp 49) 1⟩,
    ⟨(some 14), none, .new [(.slice none 0 0), (.int .i64 0), (.int .i64 0)] 37⟩,
    ⟨none, none, .stn 3 (.tmp 14) (.tmp 54)⟩,
    ⟨(some 15), none, .mv (.tmp 55)⟩])
  (.prune [14, 11, 15, 45, 10, 9, 43, 0, 2, 3, 44] (.row [⟨(some 56), none, .ldn 3 (.tmp 14)⟩,
    ⟨(some 57), none, .mv (.tmp 11)⟩,
    ⟨(some 58), none, .mv (.tmp 57)⟩,
    ⟨(some 59), (some (58, true)), .mv (.tmp 15)⟩,
    ⟨(some 60), none, .pick (.tmp 58) (.tmp 59) (.const (.bool false))⟩,
    ⟨none, none, .stn 3 (.tmp 10) (.tmp 56)⟩,
    ⟨(some 11), none, .mv (.tmp 60)⟩]))))))
  (.prune [45, 10, 11, 9, 43, 0, 2, 3, 44] (.row [⟨(some 61), none, .ibin .add .i64 (.tmp 45) (.const (.int .i64 1))⟩,
    ⟨(some 45), none, .mv (.tmp 61)⟩])))))))))))
 (.prune [0, 9, 2, 11, 10, 3] (.seq (.draw (.take 0 ⟨(some 62), none, .mv (.tmp 9)⟩ (.take 2 ⟨(some 64), none, .ldn 3 (.tmp 10)⟩ (.alt (.step 1 true ⟨(some 63), none, .call 26 [(.tmp 62)]⟩ (.step 3 true ⟨(some 17), none, .new [(.slice none 0 0), (.int .i64 0), (.int .i64 0)] 37⟩ (.take 4 ⟨(some 16), none, .mv (.tmp 63)⟩ (.step 5 false ⟨none, none, .stn 3 (.tmp 17) (.tmp 64)⟩ .done)))) (.step 3 true ⟨(some 17), none, .new [(.slice none 0 0), (.int .i64 0), (.int .i64 0)] 37⟩ (.step 1 true ⟨(some 63), none, .call 26 [(.tmp 62)]⟩ (.take 4 ⟨(some 16), none, .mv (.tmp 63)⟩ (.step 5 false ⟨none, none, .stn 3 (.tmp 17) (.tmp 64)⟩ .done))))))))
 (.prune [0, 9, 2, 11, 10, 16, 3, 17] (.seq (.seq (.row [⟨(some 65), none, .mv (.tmp 16)⟩,
   ⟨(some 66), none, .isnil 0 false (.tmp 65)⟩,
   ⟨(some 67), none, .mv (.tmp 66)⟩,
   ⟨(some 68), (some (67, false)), .mv (.tmp 11)⟩,
   ⟨(some 69), (some (67, false)), .notB (.tmp 68)⟩,
   ⟨(some 70), none, .pick (.tmp 67) (.const (.bool true)) (.tmp 69)⟩])
 (.prune [70, 0, 9, 2, 11, 10, 16, 3, 17] (.cond (.tmp 70)
  (.seq (.row [⟨(some 8), none, .mv (.const (.bool false))⟩])
  (.prune [8] .ret))
  .skip)))
 (.prune [17, 3, 16, 10, 11, 2, 9, 0] (.seq (.seq (.row [⟨(some 18), none, .mv (.const (.int .i64 0))⟩])
 (.prune [18, 17, 3, 16, 10, 11, 2, 9, 0] (.block 2 (.loop [11, 18] [11, 18, 19, 20, 21, 22, 71, 72, 73, 74, 75, 76, 77, 78, 79, 80, 81, 82, 83, 84, 85, 86, 87, 88, 89, 90, 91, 92, 93, 94, 95, 96, 97, 98, 99, 100, 101, 102, 103, 104, 105, 106, 107, 108, 109, 110, 111, 112, 113, 114, 115, 116, 117, 118, 119, 120] (.seq (.seq (.row [⟨(some 71), none, .mv (.tmp 18)⟩,
    ⟨(some 72), none, .mv (.tmp 2)⟩,
    ⟨(some 73), none, .lenA (.tmp 72)⟩,
    ⟨(some 74), none, .ibin .lss .i64 (.tmp 71) (.tmp 73)⟩,
    ⟨(some 75), none, .mv (.tmp 74)⟩,
    ⟨(some 76), (some (75, false)), .mv (.tmp 18)⟩,
    ⟨(some 77), (some (75, false)), .mv (.tmp 3)⟩,
    ⟨(some 78), (some (75, false)), .lenA (.tmp 77)⟩,
    ⟨(some 79), (some (75, false)), .ibin .lss .i64 (.tmp 76) (.tmp 78)⟩,
    ⟨(some 80), none, .pick (.tmp 75) (.const (.bool true)) (.tmp 79)⟩])
  (.prune [80, 11, 18, 17, 3, 16, 10, 2, 9, 0] (.cond (.tmp 80)
   .skip
   (.exit 2))))
  (.prune [11, 18, 17, 3, 16, 10, 2, 9, 0] (.seq (.block 3 (.seq (.seq (.row [⟨(some 83), none, .mv (.tmp 18)⟩,
    ⟨(some 84), none, .mv (.tmp 2)⟩,
    ⟨(some 85), none, .lenA (.tmp 84)⟩,
    ⟨(some 86), none, .ibin .lss .i64 (.tmp 83) (.tmp 85)⟩])
  (.prune [86, 11, 18, 17, 3, 16, 10, 2, 9, 0] (.cond (.tmp 86)
   (.seq (.draw (.take 0 ⟨(some 88), none, .mv (.tmp 9)⟩ (.take 1 ⟨(some 89), none, .ldn 3 (.tmp 10)⟩ (.take 2 ⟨(some 90), none, .mv (.tmp 2)⟩ (.take 3 ⟨(some 91), none, .mv (.tmp 18)⟩ (.take 4 ⟨(some 92), none, .ixA 3 (.tmp 90) (.tmp 91)⟩ (.take 5 ⟨(some 93), none, .ldn 3 (.tmp 92)⟩ (.alt (.step 6 false ⟨(some 94), none, .call 20 [(.tmp 88), (.tmp 89), (.tmp 93)]⟩ (.take 7 ⟨(some 87), none, .mv (.tmp 94)⟩ (.take 8 ⟨(some 95), none, .ext (.tmp 87) 0⟩ (.take 9 ⟨(some 96), none, .ext (.tmp 87) 1⟩ (.step 10 true ⟨(some 19), none, .new [(.slice none 0 0), (.int .i64 0), (.int .i64 0)] 37⟩ (.step 11 false ⟨none, none, .stn 3 (.tmp 19) (.tmp 95)⟩ (.take 12 ⟨(some 20), none, .mv (.tmp 96)⟩ .done))))))) (.step 10 true ⟨(some 19), none, .new [(.slice none 0 0), (.int .i64 0), (.int .i64 0)] 37⟩ (.step 6 false ⟨(some 94), none, .call 20 [(.tmp 88), (.tmp 89), (.tmp 93)]⟩ (.take 7 ⟨(some 87), none, .mv (.tmp 94)⟩ (.take 8 ⟨(some 95), none, .ext (.tmp 87) 0⟩ (.take 9 ⟨(some 96), none, .ext (.tmp 87) 1⟩ (.step 11 false ⟨none, none, .stn 3 (.tmp 19) (.tmp 95)⟩ (.take 12 ⟨(some 20), none, .mv (.tmp 96)⟩ .done)))))))))))))))
   (.prune [19, 11, 20, 18, 17, 3, 16, 10, 2, 9, 0] (.row [⟨(some 97), none, .ldn 3 (.tmp 19)⟩,
     ⟨(some 98), none, .mv (.tmp 11)⟩,
     ⟨(some 99), none, .mv (.tmp 98)⟩,
     ⟨(some 100), (some (99, true)), .mv (.tmp 20)⟩,
     ⟨(some 101), none, .pick (.tmp 99) (.tmp 100) (.const (.bool false))⟩,
     ⟨none, none, .stn 3 (.tmp 10) (.tmp 97)⟩,
     ⟨(some 11), none, .mv (.tmp 101)⟩])))
   .skip)))
  (.prune [11, 18, 17, 3, 16, 10, 2, 9, 0] (.seq (.row [⟨(some 102), none, .mv (.tmp 18)⟩,
    ⟨(some 103), none, .mv (.tmp 3)⟩,
    ⟨(some 104), none, .lenA (.tmp 103)⟩,
    ⟨(some 105), none, .ibin .lss .i64 (.tmp 102) (.tmp 104)⟩])
  (.prune [105, 11, 18, 17, 3, 16, 10, 2, 9, 0] (.cond (.tmp 105)
   (.seq (.draw (.take 0 ⟨(some 107), none, .mv (.tmp 16)⟩ (.take 1 ⟨(some 108), none, .ldn 3 (.tmp 17)⟩ (.take 2 ⟨(some 109), none, .mv (.tmp 3)⟩ (.take 3 ⟨(some 110), none, .mv (.tmp 18)⟩ (.take 4 ⟨(some 111), none, .ixA 3 (.tmp 109) (.tmp 110)⟩ (.take 5 ⟨(some 112), none, .ldn 3 (.tmp 111)⟩ (.alt (.step 6 false ⟨(some 113), none, .call 20 [(.tmp 107), (.tmp 108), (.tmp 112)]⟩ (.take 7 ⟨(some 106), none, .mv (.tmp 113)⟩ (.take 8 ⟨(some 114), none, .ext (.tmp 106) 0⟩ (.take 9 ⟨(some 115), none, .ext (.tmp 106) 1⟩ (.step 10 true ⟨(some 21), none, .new [(.slice none 0 0), (.int .i64 0), (.int .i64 0)] 37⟩ (.step 11 false ⟨none, none, .stn 3 (.tmp 21) (.tmp 114)⟩ (.take 12 ⟨(some 22), none, .mv (.tmp 115)⟩ .done))))))) (.step 10 true ⟨(some 21), none, .new [(.slice none 0 0), (.int .i64 0), (.int .i64 0)] 37⟩ (.step 6 false ⟨(some 113), none, .call 20 [(.tmp 107), (.tmp 108), (.tmp 112)]⟩ (.take 7 ⟨(some 106), none, .mv (.tmp 113)⟩ (.take 8 ⟨(some 114), none, .ext (.tmp 106) 0⟩ (.take 9 ⟨(some 115), none, .ext (.tmp 106) 1⟩ (.step 11 false ⟨none, none, .stn 3 (.tmp 21) (.tmp 114)⟩ (.take 12 ⟨(some 22), none, .mv (.tmp 115)⟩ .done)))))))))))))))
   (.prune [21, 11, 22, 18, 17, 3, 16, 10, 2, 9, 0] (.row [⟨(some 116), none, .ldn 3 (.tmp 21)⟩,
     ⟨(some 117), none, .mv (.tmp 11)⟩,
     ⟨(some 118), none, .mv (.tmp 117)⟩,
     ⟨(some 119), (some (118, true)), .mv (.tmp 22)⟩,
     ⟨(some 120), none, .pick (.tmp 118) (.tmp 119) (.const (.bool false))⟩,
     ⟨none, none, .stn 3 (.tmp 17) (.tmp 116)⟩,
     ⟨(some 11), none, .mv (.tmp 120)⟩])))
   .skip))))))
  (.prune [18, 17, 3, 16, 10, 11, 2, 9, 0] (.row [⟨(some 81), none, .mv (.tmp 18)⟩,
    ⟨(some 82), none, .ibin .add .i64 (.tmp 81) (.const (.int .i64 1))⟩,
    ⟨(some 18), none, .mv (.tmp 82)⟩])))))))))
 (.prune [11, 9, 10, 17, 16, 0] (.seq (.draw (.step 0 true ⟨(some 121), none, .call 13 []⟩ (.take 1 ⟨(some 122), none, .mv (.tmp 121)⟩ (.take 2 ⟨(some 123), (some (122, true)), .mv (.tmp 11)⟩ (.take 3 ⟨(some 124), none, .pick (.tmp 122) (.tmp 123) (.const (.bool false))⟩ (.take 4 ⟨(some 125), none, .mv (.tmp 124)⟩ (.take 5 ⟨(some 126), (some (125, true)), .mv (.tmp 9)⟩ (.take 7 ⟨(some 128), (some (125, true)), .fad 0 (.tmp 10)⟩ (.take 8 ⟨(some 129), (some (125, true)), .ld (.tmp 128)⟩ (.step 6 true ⟨(some 127), (some (125, true)), .call 21 [(.tmp 126)]⟩ (.step 9 true ⟨(some 130), (some (125, true)), .call 22 [(.tmp 127), (.tmp 129)]⟩ (.take 10 ⟨(some 131), none, .pick (.tmp 125) (.tmp 130) (.const (.bool false))⟩ (.take 11 ⟨(some 132), none, .mv (.tmp 131)⟩ (.take 12 ⟨(some 133), (some (132, true)), .mv (.tmp 16)⟩ (.take 14 ⟨(some 135), (some (132, true)), .fad 0 (.tmp 17)⟩ (.take 15 ⟨(some 136), (some (132, true)), .ld (.tmp 135)⟩ (.step 13 true ⟨(some 134), (some (132, true)), .call 21 [(.tmp 133)]⟩ (.step 16 true ⟨(some 137), (some (132, true)), .call 22 [(.tmp 134), (.tmp 136)]⟩ (.take 17 ⟨(some 138), none, .pick (.tmp 132) (.tmp 137) (.const (.bool false))⟩ (.take 18 ⟨(some 139), none, .mv (.tmp 138)⟩ (.take 19 ⟨(some 140), (some (139, true)), .mv (.tmp 9)⟩ (.take 21 ⟨(some 142), (some (139, true)), .fad 1 (.tmp 10)⟩ (.take 22 ⟨(some 143), (some (139, true)), .ld (.tmp 142)⟩ (.step 20 true ⟨(some 141), (some (139, true)), .call 25 [(.tmp 140)]⟩ (.take 23 ⟨(some 144), (some (139, true)), .ibin .eql .i64 (.tmp 141) (.tmp 143)⟩ (.take 24 ⟨(some 145), none, .pick (.tmp 139) (.tmp 144) (.const (.bool false))⟩ (.take 25 ⟨(some 146), none, .mv (.tmp 145)⟩ (.take 26 ⟨(some 147), (some (146, true)), .mv (.tmp 16)⟩ (.take 28 ⟨(some 149), (some (146, true)), .fad 1 (.tmp 17)⟩ (.take 29 ⟨(some 150), (some (146, true)), .ld (.tmp 149)⟩ (.step 27 true ⟨(some 148), (some (146, true)), .call 25 [(.tmp 147)]⟩ (.take 30 ⟨(some 151), (some (146, true)), .ibin .eql .i64 (.tmp 148) (.tmp 150)⟩ (.take 31 ⟨(some 152), none, .pick (.tmp 146) (.tmp 151) (.const (.bool false))⟩ (.take 32 ⟨(some 153), none, .mv (.tmp 152)⟩ (.take 33 ⟨(some 154), (some (153, true)), .mv (.tmp 16)⟩ (.take 35 ⟨(some 156), (some (153, true)), .mv (.tmp 0)⟩ (.take 36 ⟨(some 157), (some (153, true)), .conv .i64 (.tmp 156)⟩ (.step 34 true ⟨(some 155), (some (153, true)), .call 23 [(.tmp 154)]⟩ (.take 37 ⟨(some 158), (some (153, true)), .ibin .eql .i64 (.tmp 155) (.tmp 157)⟩ (.take 38 ⟨(some 159), none, .pick (.tmp 153) (.tmp 158) (.const (.bool false))⟩ (.take 39 ⟨(some 8), none, .mv (.tmp 159)⟩ .done)))))))))))))))))))))))))))))))))))))))))
 (.prune [8] .ret))))))))))))))))))))
theorem ok6 : fits Try.prog 6 ⟨s6, 160, [.tmp 8]⟩ = some ⟨s6, 160, [.tmp 8]⟩ := by kernel_rfl
theorem go6 {args : List Value} {w : World} {R : Value → World → Prop} (hle : Nat.ble args.length 160 = true) (h : vc Try.prog 160 s6 (argEnv args 0) w (fun L w => resL L w [.tmp 8] fun vs => oneOr vs fun v => R v w) (fun _ _ _ => False) (fun L w => resL L w [.tmp 8] fun vs => oneOr vs fun v => R v w)) : Cal Try.prog 6 ⟨args⟩ w R := cal_of mo ok6 hle h

-- footbridge/footbridgelaw05.RingNil
def s7 : S := (.seq (.row [⟨(some 4), none, .mv (.const (.bool false))⟩])
 (.prune [1, 0] (.seq (.row [⟨(some 5), none, .mv (.const (.pointer none))⟩])
 (.prune [1, 0, 5] (.seq (.row [⟨(some 13), none, .mv (.tmp 5)⟩,
   ⟨(some 14), none, .call 27 [(.tmp 13)]⟩,
   ⟨(some 12), none, .mv (.tmp 14)⟩,
   ⟨(some 15), none, .ext (.tmp 12) 0⟩,
   ⟨(some 16), none, .ext (.tmp 12) 1⟩,
   ⟨(some 6), none, .mv (.tmp 15)⟩,
   ⟨(some 7), none, .mv (.tmp 16)⟩])
 (.prune [7, 1, 0, 5] (.seq (.row [⟨(some 18), none, .mv (.tmp 5)⟩,
   ⟨(some 19), none, .call 28 [(.tmp 18)]⟩,
   ⟨(some 17), none, .mv (.tmp 19)⟩,
   ⟨(some 20), none, .ext (.tmp 17) 0⟩,
   ⟨(some 21), none, .ext (.tmp 17) 1⟩,
   ⟨(some 8), none, .mv (.tmp 20)⟩,
   ⟨(some 9), none, .mv (.tmp 21)⟩])
 (.prune [7, 9, 1, 0, 5] (.seq (.row [⟨(some 23), none, .mv (.tmp 5)⟩,
   ⟨(some 24), none, .mv (.tmp 0)⟩,
   ⟨(some 25), none, .call 29 [(.tmp 23), (.tmp 24)]⟩,
   ⟨(some 22), none, .mv (.tmp 25)⟩,
   ⟨(some 26), none, .ext (.tmp 22) 0⟩,
   ⟨(some 27), none, .ext (.tmp 22) 1⟩,
   ⟨(some 10), none, .mv (.tmp 26)⟩,
   ⟨(some 11), none, .mv (.tmp 27)⟩])
 (.prune [7, 9, 11, 1, 0, 5] (.seq (.row [⟨(some 28), none, .call 13 []⟩,
   ⟨(some 29), none, .mv (.tmp 28)⟩,
   ⟨(some 30), (some (29, true)), .mv (.tmp 7)⟩,
   ⟨(some 31), (some (29, true)), .notB (.tmp 30)⟩,
   ⟨(some 32), none, .pick (.tmp 29) (.tmp 31) (.const (.bool false))⟩,
   ⟨(some 33), none, .mv (.tmp 32)⟩,
   ⟨(some 34), (some (33, true)), .mv (.tmp 9)⟩,
   ⟨(some 35), (some (33, true)), .notB (.tmp 34)⟩,
   ⟨(some 36), none, .pick (.tmp 33) (.tmp 35) (.const (.bool false))⟩,
   ⟨(some 37), none, .mv (.tmp 36)⟩,
   ⟨(some 38), (some (37, true)), .mv (.tmp 11)⟩,
   ⟨(some 39), (some (37, true)), .notB (.tmp 38)⟩,
   ⟨(some 40), none, .pick (.tmp 37) (.tmp 39) (.const (.bool false))⟩,
   ⟨(some 41), none, .mv (.tmp 40)⟩,
   ⟨(some 42), (some (41, true)), .mv (.tmp 5)⟩,
   ⟨(some 43), (some (41, true)), .mv (.tmp 1)⟩,
   ⟨(some 44), (some (41, true)), .call 30 [(.tmp 42), (.tmp 43)]⟩,
   ⟨(some 45), (some (41, true)), .notB (.tmp 44)⟩,
   ⟨(some 46), none, .pick (.tmp 41) (.tmp 45) (.const (.bool false))⟩,
   ⟨(some 47), none, .mv (.tmp 46)⟩,
   ⟨(some 48), (some (47, true)), .mv (.tmp 5)⟩,
   ⟨(some 49), (some (47, true)), .mv (.tmp 0)⟩,
   ⟨(some 50), (some (47, true)), .call 31 [(.tmp 48), (.tmp 49)]⟩,
   ⟨(some 51), (some (47, true)), .notB (.tmp 50)⟩,
   ⟨(some 52), none, .pick (.tmp 47) (.tmp 51) (.const (.bool false))⟩,
   ⟨(some 53), none, .mv (.tmp 52)⟩,
   ⟨(some 54), (some (53, true)), .mv (.tmp 5)⟩,
   ⟨(some 55), (some (53, true)), .call 24 [(.tmp 54)]⟩,
   ⟨(some 56), (some (53, true)), .ibin .eql .i64 (.tmp 55) (.const (.int .i64 0))⟩,
   ⟨(some 57), none, .pick (.tmp 53) (.tmp 56) (.const (.bool false))⟩,
   ⟨(some 58), none, .mv (.tmp 57)⟩,
   ⟨(some 59), (some (58, true)), .mv (.tmp 5)⟩,
   ⟨(some 60), (some (58, true)), .call 23 [(.tmp 59)]⟩,
   ⟨(some 61), (some (58, true)), .ibin .eql .i64 (.tmp 60) (.const (.int .i64 0))⟩,
   ⟨(some 62), none, .pick (.tmp 58) (.tmp 61) (.const (.bool false))⟩,
   ⟨(some 63), none, .mv (.tmp 62)⟩,
   ⟨(some 64), (some (63, true)), .mv (.tmp 5)⟩,
   ⟨(some 65), (some (63, true)), .call 25 [(.tmp 64)]⟩,
   ⟨(some 66), (some (63, true)), .ibin .eql .i64 (.tmp 65) (.const (.int .i64 0))⟩,
   ⟨(some 67), none, .pick (.tmp 63) (.tmp 66) (.const (.bool false))⟩,
   ⟨(some 68), none, .mv (.tmp 67)⟩,
   ⟨(some 69), (some (68, true)), .mv (.tmp 5)⟩,
   ⟨(some 70), (some (68, true)), .call 21 [(.tmp 69)]⟩,
   ⟨(some 71), (some (68, true)), .lenA (.tmp 70)⟩,
   ⟨(some 72), (some (68, true)), .ibin .eql .i64 (.tmp 71) (.const (.int .i64 0))⟩,
   ⟨(some 73), none, .pick (.tmp 68) (.tmp 72) (.const (.bool false))⟩,
   ⟨(some 74), none, .mv (.tmp 73)⟩,
   ⟨(some 75), (some (74, true)), .mv (.tmp 5)⟩,
   ⟨(some 76), (some (74, true)), .call 26 [(.tmp 75)]⟩,
   ⟨(some 77), (some (74, true)), .isnil 0 false (.tmp 76)⟩,
   ⟨(some 78), none, .pick (.tmp 74) (.tmp 77) (.const (.bool false))⟩,
   ⟨(some 4), none, .mv (.tmp 78)⟩])
 (.prune [4] .ret))))))))))))
theorem ok7 : fits Try.prog 7 ⟨s7, 79, [.tmp 4]⟩ = some ⟨s7, 79, [.tmp 4]⟩ := by kernel_rfl
theorem go7 {args : List Value} {w : World} {R : Value → World → Prop} (hle : Nat.ble args.length 79 = true) (h : vc Try.prog 79 s7 (argEnv args 0) w (fun L w => resL L w [.tmp 4] fun vs => oneOr vs fun v => R v w) (fun _ _ _ => False) (fun L w => resL L w [.tmp 4] fun vs => oneOr vs fun v => R v w)) : Cal Try.prog 7 ⟨args⟩ w R := cal_of mo ok7 hle h

-- footbridge/footbridgelaw21.WindowAsks
def s8 : S := (.seq (.row [⟨(some 6), none, .mv (.const (.bool false))⟩])
 (.prune [2, 1, 0] (.seq (.seq (.row [⟨(some 15), none, .mv (.tmp 1)⟩,
   ⟨(some 16), none, .lenA (.tmp 15)⟩,
   ⟨(some 17), none, .ibin .gtr .i64 (.tmp 16) (.const (.int .i64 60))⟩,
   ⟨(some 18), none, .mv (.tmp 17)⟩,
   ⟨(some 19), (some (18, false)), .mv (.tmp 2)⟩,
   ⟨(some 20), (some (18, false)), .lenA (.tmp 19)⟩,
   ⟨(some 21), (some (18, false)), .ibin .gtr .i64 (.tmp 20) (.const (.int .i64 20))⟩,
   ⟨(some 22), none, .pick (.tmp 18) (.const (.bool true)) (.tmp 21)⟩])
 (.prune [22, 2, 1, 0] (.cond (.tmp 22)
  (.seq (.row [⟨(some 23), none, .call 32 []⟩,
    ⟨(some 6), none, .mv (.tmp 23)⟩])
  (.prune [6] .ret))
  .skip)))
 (.prune [0, 1, 2] (.seq (.row [⟨(some 24), none, .mv (.tmp 0)⟩,
   ⟨(some 25), none, .conv .i64 (.tmp 24)⟩,
   ⟨(some 26), none, .call 33 [(.tmp 25)]⟩,
   ⟨(some 7), none, .mv (.tmp 26)⟩])
 (.prune [0, 1, 7, 2] (.seq (.row [⟨(some 27), none, .mv (.tmp 0)⟩,
   ⟨(some 28), none, .conv .i64 (.tmp 27)⟩,
   ⟨(some 29), none, .bld [(.slice none 0 0), (.slice none 0 0), (.int .i64 0), (.int .i64 0)] [(3, 1)] [(.tmp 28)]⟩,
   ⟨(some 8), none, .new [(.slice none 0 0), (.slice none 0 0), (.int .i64 0), (.int .i64 0)] 60⟩,
   ⟨none, none, .stn 4 (.tmp 8) (.tmp 29)⟩])
 (.prune [1, 8, 7, 2] (.seq (.seq (.row [⟨(some 30), none, .mv (.tmp 1)⟩,
   ⟨(some 31), none, .lenA (.tmp 30)⟩,
   ⟨(some 32), none, .mv (.const (.int .i64 0))⟩])
 (.prune [32, 8, 7, 30, 2, 31] (.block 0 (.loop [32] [6, 10, 11, 12, 32, 33, 34, 35, 36, 37, 38, 39, 40, 41, 42, 43, 44, 45, 46] (.seq (.row [⟨(some 33), none, .ibin .lss .i64 (.tmp 32) (.tmp 31)⟩])
  (.prune [33, 31, 2, 30, 7, 8, 32] (.seq (.cond (.tmp 33)
   .skip
   (.exit 0))
  (.prune [31, 2, 30, 7, 8, 32] (.seq (.block 1 (.seq (.row [⟨(some 34), none, .ixA 3 (.tmp 30) (.tmp 32)⟩,
    ⟨(some 35), none, .ldn 3 (.tmp 34)⟩,
    ⟨(some 10), none, .new [(.int .u8 0), (.int .i64 0), (.int .i64 0)] 62⟩,
    ⟨none, none, .stn 3 (.tmp 10) (.tmp 35)⟩])
  (.prune [10, 31, 2, 30, 7, 8, 32] (.seq (.row [⟨(some 37), none, .mv (.tmp 7)⟩,
    ⟨(some 38), none, .ldn 4 (.tmp 8)⟩,
    ⟨(some 39), none, .ldn 3 (.tmp 10)⟩,
    ⟨(some 40), none, .call 34 [(.tmp 37), (.tmp 38), (.tmp 39)]⟩,
    ⟨(some 36), none, .mv (.tmp 40)⟩,
    ⟨(some 41), none, .ext (.tmp 36) 0⟩,
    ⟨(some 42), none, .ext (.tmp 36) 1⟩,
    ⟨(some 11), none, .new [(.slice none 0 0), (.slice none 0 0), (.int .i64 0), (.int .i64 0)] 60⟩,
    ⟨none, none, .stn 4 (.tmp 11) (.tmp 41)⟩,
    ⟨(some 12), none, .mv (.tmp 42)⟩])
  (.prune [11, 12, 31, 2, 30, 7, 8, 32] (.seq (.row [⟨(some 43), none, .ldn 4 (.tmp 11)⟩,
    ⟨none, none, .stn 4 (.tmp 8) (.tmp 43)⟩])
  (.prune [12, 31, 2, 30, 7, 8, 32] (.seq (.row [⟨(some 44), none, .mv (.tmp 12)⟩,
    ⟨(some 45), none, .notB (.tmp 44)⟩])
  (.prune [45, 31, 2, 30, 7, 8, 32] (.cond (.tmp 45)
   (.seq (.row [⟨(some 6), none, .mv (.const (.bool false))⟩])
   (.prune [6] .ret))
   .skip))))))))))
  (.prune [32, 8, 7, 30, 2, 31] (.row [⟨(some 46), none, .ibin .add .i64 (.tmp 32) (.const (.int .i64 1))⟩,
    ⟨(some 32), none, .mv (.tmp 46)⟩])))))))))))
 (.prune [2, 8, 7] (.seq (.seq (.row [⟨(some 47), none, .mv (.tmp 2)⟩,
   ⟨(some 48), none, .lenA (.tmp 47)⟩,
   ⟨(some 49), none, .mv (.const (.int .i64 0))⟩])
 (.prune [49, 8, 7, 47, 48] (.block 2 (.loop [49] [6, 14, 49, 50, 51, 52, 53, 54, 55, 56, 57, 58] (.seq (.row [⟨(some 50), none, .ibin .lss .i64 (.tmp 49) (.tmp 48)⟩])
  (.prune [50, 48, 47, 7, 8, 49] (.seq (.cond (.tmp 50)
   .skip
   (.exit 2))
  (.prune [48, 47, 7, 8, 49] (.seq (.block 3 (.seq (.row [⟨(some 51), none, .ixA 1 (.tmp 47) (.tmp 49)⟩,
    ⟨(some 52), none, .ld (.tmp 51)⟩,
    ⟨(some 14), none, .mv (.tmp 52)⟩])
  (.prune [14, 48, 47, 7, 8, 49] (.seq (.row [⟨(some 53), none, .mv (.tmp 7)⟩,
    ⟨(some 54), none, .ldn 4 (.tmp 8)⟩,
    ⟨(some 55), none, .mv (.tmp 14)⟩,
    ⟨(some 56), none, .call 35 [(.tmp 53), (.tmp 54), (.tmp 55)]⟩,
    ⟨(some 57), none, .notB (.tmp 56)⟩])
  (.prune [57, 48, 47, 7, 8, 49] (.cond (.tmp 57)
   (.seq (.row [⟨(some 6), none, .mv (.const (.bool false))⟩])
   (.prune [6] .ret))
   .skip))))))
  (.prune [49, 8, 7, 47, 48] (.row [⟨(some 58), none, .ibin .add .i64 (.tmp 49) (.const (.int .i64 1))⟩,
    ⟨(some 49), none, .mv (.tmp 58)⟩])))))))))))
 (.prune [] (.seq (.row [⟨(some 59), none, .call 32 []⟩,
   ⟨(some 6), none, .mv (.tmp 59)⟩])
 (.prune [6] .ret))))))))))))))
theorem ok8 : fits Try.prog 8 ⟨s8, 60, [.tmp 6]⟩ = some ⟨s8, 60, [.tmp 6]⟩ := by kernel_rfl
theorem go8 {args : List Value} {w : World} {R : Value → World → Prop} (hle : Nat.ble args.length 60 = true) (h : vc Try.prog 60 s8 (argEnv args 0) w (fun L w => resL L w [.tmp 6] fun vs => oneOr vs fun v => R v w) (fun _ _ _ => False) (fun L w => resL L w [.tmp 6] fun vs => oneOr vs fun v => R v w)) : Cal Try.prog 8 ⟨args⟩ w R := cal_of mo ok8 hle h

-- footbridge/footbridgelaw21.WindowWhole
def s9 : S := (.seq (.row [⟨(some 4), none, .mv (.const (.bool false))⟩])
 (.prune [0, 1] (.seq (.seq (.row [⟨(some 16), none, .mv (.tmp 1)⟩,
   ⟨(some 17), none, .lenA (.tmp 16)⟩,
   ⟨(some 18), none, .ibin .gtr .i64 (.tmp 17) (.const (.int .i64 60))⟩])
 (.prune [18, 0, 1] (.cond (.tmp 18)
  (.seq (.row [⟨(some 19), none, .call 32 []⟩,
    ⟨(some 4), none, .mv (.tmp 19)⟩])
  (.prune [4] .ret))
  .skip)))
 (.prune [1, 0] (.seq (.row [⟨(some 20), none, .mv (.tmp 0)⟩,
   ⟨(some 21), none, .conv .i64 (.tmp 20)⟩,
   ⟨(some 22), none, .call 33 [(.tmp 21)]⟩,
   ⟨(some 5), none, .mv (.tmp 22)⟩])
 (.prune [1, 5, 0] (.seq (.seq (.row [⟨(some 23), none, .mv (.tmp 1)⟩,
   ⟨(some 24), none, .lenA (.tmp 23)⟩,
   ⟨(some 25), none, .mv (.const (.int .i64 0))⟩])
 (.prune [25, 5, 23, 0, 24] (.block 0 (.loop [25] [7, 25, 26, 27, 28, 29, 30, 31, 32, 33] (.seq (.row [⟨(some 26), none, .ibin .lss .i64 (.tmp 25) (.tmp 24)⟩])
  (.prune [26, 25, 5, 23, 0, 24] (.seq (.cond (.tmp 26)
   .skip
   (.exit 0))
  (.prune [25, 5, 23, 0, 24] (.seq (.block 1 (.seq (.row [⟨(some 27), none, .ixA 3 (.tmp 23) (.tmp 25)⟩,
    ⟨(some 28), none, .ldn 3 (.tmp 27)⟩,
    ⟨(some 7), none, .new [(.int .u8 0), (.int .i64 0), (.int .i64 0)] 62⟩,
    ⟨none, none, .stn 3 (.tmp 7) (.tmp 28)⟩])
  (.prune [7, 25, 5, 23, 0, 24] (.row [⟨(some 29), none, .mv (.tmp 5)⟩,
    ⟨(some 30), none, .bld [(.slice none 0 0), (.slice none 0 0), (.int .i64 0), (.int .i64 0)] [] []⟩,
    ⟨(some 31), none, .ldn 3 (.tmp 7)⟩,
    ⟨(some 32), none, .call 34 [(.tmp 29), (.tmp 30), (.tmp 31)]⟩]))))
  (.prune [25, 5, 23, 0, 24] (.row [⟨(some 33), none, .ibin .add .i64 (.tmp 25) (.const (.int .i64 1))⟩,
    ⟨(some 25), none, .mv (.tmp 33)⟩])))))))))))
 (.prune [5, 0] (.seq (.row [⟨(some 34), none, .mv (.tmp 5)⟩,
   ⟨(some 35), none, .call 36 [(.tmp 34)]⟩,
   ⟨(some 8), none, .mv (.tmp 35)⟩])
 (.prune [5, 8, 0] (.seq (.seq (.row [⟨(some 36), none, .mv (.tmp 5)⟩,
   ⟨(some 37), none, .call 37 [(.tmp 36)]⟩,
   ⟨(some 9), none, .mv (.tmp 37)⟩])
 (.prune [9, 5, 8, 0] (.block 2 (.loop [8, 9] [4, 8, 9, 10, 11, 12, 13, 14, 15, 38, 39, 40, 41, 42, 43, 44, 45, 46, 47, 48, 49, 50, 51, 52, 53, 54, 55, 56, 57, 58, 59, 60, 61, 62, 63, 64, 65, 66, 67, 68, 69, 70, 71, 72, 73, 74, 75, 76, 77, 78, 79, 80, 81, 82, 83, 84, 85, 86, 87, 88, 89, 90, 91, 92, 93, 94, 95] (.seq (.seq (.row [⟨(some 38), none, .mv (.tmp 9)⟩,
    ⟨(some 39), none, .mv (.tmp 5)⟩,
    ⟨(some 40), none, .call 38 [(.tmp 39)]⟩,
    ⟨(some 41), none, .ibin .lss .i64 (.tmp 38) (.tmp 40)⟩,
    ⟨(some 42), none, .mv (.tmp 41)⟩,
    ⟨(some 43), (some (42, true)), .mv (.tmp 9)⟩,
    ⟨(some 44), (some (42, true)), .mv (.tmp 5)⟩,
    ⟨(some 45), (some (42, true)), .call 37 [(.tmp 44)]⟩,
    ⟨(some 46), (some (42, true)), .ibin .add .i64 (.tmp 45) (.const (.int .i64 60))⟩,
    ⟨(some 47), (some (42, true)), .ibin .lss .i64 (.tmp 43) (.tmp 46)⟩,
    ⟨(some 48), none, .pick (.tmp 42) (.tmp 47) (.const (.bool false))⟩])
  (.prune [48, 8, 0, 5, 9] (.cond (.tmp 48)
   .skip
   (.exit 2))))
  (.prune [8, 0, 5, 9] (.seq (.block 3 (.seq (.row [⟨(some 52), none, .mv (.tmp 5)⟩,
    ⟨(some 53), none, .mv (.tmp 9)⟩,
    ⟨(some 54), none, .call 39 [(.tmp 52), (.tmp 53)]⟩,
    ⟨(some 51), none, .mv (.tmp 54)⟩,
    ⟨(some 55), none, .ext (.tmp 51) 0⟩,
    ⟨(some 56), none, .ext (.tmp 51) 1⟩,
    ⟨(some 57), none, .ext (.tmp 51) 2⟩,
    ⟨(some 10), none, .mv (.tmp 55)⟩,
    ⟨(some 11), none, .mv (.tmp 56)⟩,
    ⟨(some 12), none, .mv (.tmp 57)⟩])
  (.prune [12, 8, 0, 11, 5, 9, 10] (.seq (.seq (.row [⟨(some 58), none, .mv (.tmp 12)⟩,
    ⟨(some 59), none, .ibin .neq .i64 (.tmp 58) (.const (.int .i64 0))⟩,
    ⟨(some 60), none, .mv (.tmp 59)⟩,
    ⟨(some 61), (some (60, false)), .mv (.tmp 10)⟩,
    ⟨(some 62), (some (60, false)), .mv (.tmp 8)⟩,
    ⟨(some 63), (some (60, false)), .ibin .neq .i64 (.tmp 61) (.tmp 62)⟩,
    ⟨(some 64), none, .pick (.tmp 60) (.const (.bool true)) (.tmp 63)⟩,
    ⟨(some 65), none, .mv (.tmp 64)⟩,
    ⟨(some 66), (some (65, false)), .mv (.tmp 11)⟩,
    ⟨(some 67), (some (65, false)), .mv (.tmp 10)⟩,
    ⟨(some 68), (some (65, false)), .ibin .leq .i64 (.tmp 66) (.tmp 67)⟩,
    ⟨(some 69), none, .pick (.tmp 65) (.const (.bool true)) (.tmp 68)⟩,
    ⟨(some 70), none, .mv (.tmp 69)⟩,
    ⟨(some 71), (some (70, false)), .mv (.tmp 11)⟩,
    ⟨(some 72), (some (70, false)), .mv (.tmp 10)⟩,
    ⟨(some 73), (some (70, false)), .ibin .sub .i64 (.tmp 71) (.tmp 72)⟩,
    ⟨(some 74), (some (70, false)), .ibin .gtr .i64 (.tmp 73) (.const (.int .i64 64))⟩,
    ⟨(some 75), none, .pick (.tmp 70) (.const (.bool true)) (.tmp 74)⟩])
  (.prune [75, 0, 11, 5, 9, 10] (.cond (.tmp 75)
   (.seq (.row [⟨(some 4), none, .mv (.const (.bool false))⟩])
   (.prune [4] .ret))
   .skip)))
  (.prune [10, 9, 5, 11, 0] (.seq (.seq (.row [⟨(some 76), none, .mv (.tmp 10)⟩,
    ⟨(some 13), none, .mv (.tmp 76)⟩])
  (.prune [13, 9, 5, 11, 0] (.block 4 (.loop [13] [4, 13, 14, 15, 77, 78, 79, 80, 81, 82, 83, 84, 85, 86, 87, 88, 89, 90, 91, 92, 93, 94] (.seq (.seq (.row [⟨(some 77), none, .mv (.tmp 13)⟩,
     ⟨(some 78), none, .mv (.tmp 11)⟩,
     ⟨(some 79), none, .ibin .lss .i64 (.tmp 77) (.tmp 78)⟩])
   (.prune [79, 0, 11, 5, 9, 13] (.cond (.tmp 79)
    .skip
    (.exit 4))))
   (.prune [0, 11, 5, 9, 13] (.seq (.block 5 (.seq (.row [⟨(some 83), none, .mv (.tmp 5)⟩,
     ⟨(some 84), none, .mv (.tmp 13)⟩,
     ⟨(some 85), none, .call 40 [(.tmp 83), (.tmp 84)]⟩,
     ⟨(some 82), none, .mv (.tmp 85)⟩,
     ⟨(some 86), none, .ext (.tmp 82) 0⟩,
     ⟨(some 87), none, .ext (.tmp 82) 1⟩,
     ⟨(some 14), none, .mv (.tmp 86)⟩,
     ⟨(some 15), none, .mv (.tmp 87)⟩])
   (.prune [15, 14, 0, 11, 5, 9, 13] (.seq (.row [⟨(some 88), none, .mv (.tmp 15)⟩,
     ⟨(some 89), none, .ibin .neq .i64 (.tmp 88) (.const (.int .i64 0))⟩,
     ⟨(some 90), none, .mv (.tmp 89)⟩,
     ⟨(some 91), (some (90, false)), .mv (.tmp 14)⟩,
     ⟨(some 92), (some (90, false)), .mv (.tmp 9)⟩,
     ⟨(some 93), (some (90, false)), .ibin .neq .i64 (.tmp 91) (.tmp 92)⟩,
     ⟨(some 94), none, .pick (.tmp 90) (.const (.bool true)) (.tmp 93)⟩])
   (.prune [94, 0, 11, 5, 9, 13] (.cond (.tmp 94)
    (.seq (.row [⟨(some 4), none, .mv (.const (.bool false))⟩])
    (.prune [4] .ret))
    .skip))))))
   (.prune [13, 9, 5, 11, 0] (.row [⟨(some 80), none, .mv (.tmp 13)⟩,
     ⟨(some 81), none, .ibin .add .i64 (.tmp 80) (.const (.int .i64 1))⟩,
     ⟨(some 13), none, .mv (.tmp 81)⟩])))))))))
  (.prune [11, 9, 5, 0] (.row [⟨(some 95), none, .mv (.tmp 11)⟩,
    ⟨(some 8), none, .mv (.tmp 95)⟩]))))))))
  (.prune [9, 5, 8, 0] (.row [⟨(some 49), none, .mv (.tmp 9)⟩,
    ⟨(some 50), none, .ibin .add .i64 (.tmp 49) (.const (.int .i64 1))⟩,
    ⟨(some 9), none, .mv (.tmp 50)⟩])))))))))
 (.prune [8, 0, 5] (.seq (.row [⟨(some 96), none, .call 32 []⟩,
   ⟨(some 97), none, .mv (.tmp 96)⟩,
   ⟨(some 98), (some (97, true)), .mv (.tmp 8)⟩,
   ⟨(some 99), (some (97, true)), .mv (.tmp 5)⟩,
   ⟨(some 100), (some (97, true)), .call 41 [(.tmp 99)]⟩,
   ⟨(some 101), (some (97, true)), .ibin .eql .i64 (.tmp 98) (.tmp 100)⟩,
   ⟨(some 102), none, .pick (.tmp 97) (.tmp 101) (.const (.bool false))⟩,
   ⟨(some 103), none, .mv (.tmp 102)⟩,
   ⟨(some 104), (some (103, true)), .mv (.tmp 5)⟩,
   ⟨(some 105), (some (103, true)), .call 37 [(.tmp 104)]⟩,
   ⟨(some 106), (some (103, true)), .mv (.tmp 5)⟩,
   ⟨(some 107), (some (103, true)), .call 42 [(.tmp 106)]⟩,
   ⟨(some 108), (some (103, true)), .ibin .leq .i64 (.tmp 105) (.tmp 107)⟩,
   ⟨(some 109), none, .pick (.tmp 103) (.tmp 108) (.const (.bool false))⟩,
   ⟨(some 110), none, .mv (.tmp 109)⟩,
   ⟨(some 111), (some (110, true)), .mv (.tmp 5)⟩,
   ⟨(some 112), (some (110, true)), .call 42 [(.tmp 111)]⟩,
   ⟨(some 113), (some (110, true)), .mv (.tmp 5)⟩,
   ⟨(some 114), (some (110, true)), .call 37 [(.tmp 113)]⟩,
   ⟨(some 115), (some (110, true)), .ibin .sub .i64 (.tmp 112) (.tmp 114)⟩,
   ⟨(some 116), (some (110, true)), .mv (.tmp 0)⟩,
   ⟨(some 117), (some (110, true)), .conv .i64 (.tmp 116)⟩,
   ⟨(some 118), (some (110, true)), .ibin .leq .i64 (.tmp 115) (.tmp 117)⟩,
   ⟨(some 119), none, .pick (.tmp 110) (.tmp 118) (.const (.bool false))⟩,
   ⟨(some 120), none, .mv (.tmp 119)⟩,
   ⟨(some 121), (some (120, true)), .mv (.tmp 5)⟩,
   ⟨(some 122), (some (120, true)), .call 42 [(.tmp 121)]⟩,
   ⟨(some 123), (some (120, true)), .mv (.tmp 5)⟩,
   ⟨(some 124), (some (120, true)), .call 38 [(.tmp 123)]⟩,
   ⟨(some 125), (some (120, true)), .ibin .leq .i64 (.tmp 122) (.tmp 124)⟩,
   ⟨(some 126), none, .pick (.tmp 120) (.tmp 125) (.const (.bool false))⟩,
   ⟨(some 4), none, .mv (.tmp 126)⟩])
 (.prune [4] .ret))))))))))))))
theorem ok9 : fits Try.prog 9 ⟨s9, 127, [.tmp 4]⟩ = some ⟨s9, 127, [.tmp 4]⟩ := by kernel_rfl
theorem go9 {args : List Value} {w : World} {R : Value → World → Prop} (hle : Nat.ble args.length 127 = true) (h : vc Try.prog 127 s9 (argEnv args 0) w (fun L w => resL L w [.tmp 4] fun vs => oneOr vs fun v => R v w) (fun _ _ _ => False) (fun L w => resL L w [.tmp 4] fun vs => oneOr vs fun v => R v w)) : Cal Try.prog 9 ⟨args⟩ w R := cal_of mo ok9 hle h

-- footbridge/footbridgelaw21.WindowPlays
def s10 : S := (.seq (.row [⟨(some 4), none, .mv (.const (.bool false))⟩])
 (.prune [0, 1] (.seq (.row [⟨(some 11), none, .mv (.tmp 0)⟩,
   ⟨(some 12), none, .call 33 [(.tmp 11)]⟩,
   ⟨(some 5), none, .mv (.tmp 12)⟩])
 (.prune [0, 1, 5] (.seq (.seq (.row [⟨(some 13), none, .mv (.tmp 0)⟩,
   ⟨(some 14), none, .ibin .lss .i64 (.tmp 13) (.const (.int .i64 0))⟩,
   ⟨(some 15), none, .mv (.tmp 14)⟩,
   ⟨(some 16), (some (15, false)), .mv (.tmp 0)⟩,
   ⟨(some 17), (some (15, false)), .ibin .gtr .i64 (.tmp 16) (.const (.int .i64 4096))⟩,
   ⟨(some 18), none, .pick (.tmp 15) (.const (.bool true)) (.tmp 17)⟩])
 (.prune [18, 0, 1, 5] (.cond (.tmp 18)
  (.seq (.row [⟨(some 19), none, .call 32 []⟩,
    ⟨(some 20), none, .mv (.tmp 19)⟩,
    ⟨(some 21), (some (20, true)), .mv (.tmp 5)⟩,
    ⟨(some 22), (some (20, true)), .isnil 0 false (.tmp 21)⟩,
    ⟨(some 23), none, .pick (.tmp 20) (.tmp 22) (.const (.bool false))⟩,
    ⟨(some 4), none, .mv (.tmp 23)⟩])
  (.prune [4] .ret))
  .skip)))
 (.prune [1, 0, 5] (.seq (.seq (.row [⟨(some 24), none, .mv (.tmp 1)⟩,
   ⟨(some 25), none, .lenA (.tmp 24)⟩,
   ⟨(some 26), none, .ibin .gtr .i64 (.tmp 25) (.const (.int .i64 100))⟩])
 (.prune [26, 1, 0, 5] (.cond (.tmp 26)
  (.seq (.row [⟨(some 27), none, .call 32 []⟩,
    ⟨(some 28), none, .mv (.tmp 27)⟩,
    ⟨(some 29), (some (28, true)), .mv (.tmp 5)⟩,
    ⟨(some 30), (some (28, true)), .isnil 0 true (.tmp 29)⟩,
    ⟨(some 31), none, .pick (.tmp 28) (.tmp 30) (.const (.bool false))⟩,
    ⟨(some 4), none, .mv (.tmp 31)⟩])
  (.prune [4] .ret))
  .skip)))
 (.prune [0, 1, 5] (.seq (.row [⟨(some 32), none, .mv (.tmp 0)⟩,
   ⟨(some 33), none, .bld [(.slice none 0 0), (.slice none 0 0), (.int .i64 0), (.int .i64 0)] [(3, 1)] [(.tmp 32)]⟩,
   ⟨(some 6), none, .new [(.slice none 0 0), (.slice none 0 0), (.int .i64 0), (.int .i64 0)] 60⟩,
   ⟨none, none, .stn 4 (.tmp 6) (.tmp 33)⟩])
 (.prune [1, 6, 5] (.seq (.seq (.row [⟨(some 34), none, .mv (.tmp 1)⟩,
   ⟨(some 35), none, .lenA (.tmp 34)⟩,
   ⟨(some 36), none, .mv (.const (.int .i64 0))⟩])
 (.prune [36, 6, 5, 34, 35] (.block 0 (.loop [36] [4, 8, 9, 10, 36, 37, 38, 39, 40, 41, 42, 43, 44, 45, 46, 47, 48, 49, 50, 51, 52, 53, 54, 55, 56] (.seq (.row [⟨(some 37), none, .ibin .lss .i64 (.tmp 36) (.tmp 35)⟩])
  (.prune [37, 35, 34, 5, 6, 36] (.seq (.cond (.tmp 37)
   .skip
   (.exit 0))
  (.prune [35, 34, 5, 6, 36] (.seq (.block 1 (.seq (.row [⟨(some 38), none, .ixA 3 (.tmp 34) (.tmp 36)⟩,
    ⟨(some 39), none, .ldn 3 (.tmp 38)⟩,
    ⟨(some 8), none, .new [(.int .u8 0), (.int .i64 0), (.int .i64 0)] 62⟩,
    ⟨none, none, .stn 3 (.tmp 8) (.tmp 39)⟩])
  (.prune [8, 35, 34, 5, 6, 36] (.seq (.row [⟨(some 41), none, .mv (.tmp 5)⟩,
    ⟨(some 42), none, .ldn 4 (.tmp 6)⟩,
    ⟨(some 43), none, .ldn 3 (.tmp 8)⟩,
    ⟨(some 44), none, .call 34 [(.tmp 41), (.tmp 42), (.tmp 43)]⟩,
    ⟨(some 40), none, .mv (.tmp 44)⟩,
    ⟨(some 45), none, .ext (.tmp 40) 0⟩,
    ⟨(some 46), none, .ext (.tmp 40) 1⟩,
    ⟨(some 9), none, .new [(.slice none 0 0), (.slice none 0 0), (.int .i64 0), (.int .i64 0)] 60⟩,
    ⟨none, none, .stn 4 (.tmp 9) (.tmp 45)⟩,
    ⟨(some 10), none, .mv (.tmp 46)⟩])
  (.prune [9, 10, 35, 34, 5, 6, 36] (.seq (.row [⟨(some 47), none, .ldn 4 (.tmp 9)⟩,
    ⟨none, none, .stn 4 (.tmp 6) (.tmp 47)⟩])
  (.prune [10, 35, 34, 5, 6, 36] (.seq (.row [⟨(some 48), none, .mv (.tmp 10)⟩,
    ⟨(some 49), none, .notB (.tmp 48)⟩,
    ⟨(some 50), none, .mv (.tmp 49)⟩,
    ⟨(some 51), (some (50, false)), .mv (.tmp 5)⟩,
    ⟨(some 52), (some (50, false)), .ldn 4 (.tmp 6)⟩,
    ⟨(some 53), (some (50, false)), .call 43 [(.tmp 51), (.tmp 52)]⟩,
    ⟨(some 54), (some (50, false)), .notB (.tmp 53)⟩,
    ⟨(some 55), none, .pick (.tmp 50) (.const (.bool true)) (.tmp 54)⟩])
  (.prune [55, 35, 34, 5, 6, 36] (.cond (.tmp 55)
   (.seq (.row [⟨(some 4), none, .mv (.const (.bool false))⟩])
   (.prune [4] .ret))
   .skip))))))))))
  (.prune [36, 6, 5, 34, 35] (.row [⟨(some 56), none, .ibin .add .i64 (.tmp 36) (.const (.int .i64 1))⟩,
    ⟨(some 36), none, .mv (.tmp 56)⟩])))))))))))
 (.prune [5, 6] (.seq (.row [⟨(some 57), none, .call 32 []⟩,
   ⟨(some 58), none, .mv (.tmp 57)⟩,
   ⟨(some 59), (some (58, true)), .mv (.tmp 5)⟩,
   ⟨(some 60), (some (58, true)), .ldn 4 (.tmp 6)⟩,
   ⟨(some 61), (some (58, true)), .call 43 [(.tmp 59), (.tmp 60)]⟩,
   ⟨(some 62), none, .pick (.tmp 58) (.tmp 61) (.const (.bool false))⟩,
   ⟨(some 4), none, .mv (.tmp 62)⟩])
 (.prune [4] .ret))))))))))))))
theorem ok10 : fits Try.prog 10 ⟨s10, 63, [.tmp 4]⟩ = some ⟨s10, 63, [.tmp 4]⟩ := by kernel_rfl
theorem go10 {args : List Value} {w : World} {R : Value → World → Prop} (hle : Nat.ble args.length 63 = true) (h : vc Try.prog 63 s10 (argEnv args 0) w (fun L w => resL L w [.tmp 4] fun vs => oneOr vs fun v => R v w) (fun _ _ _ => False) (fun L w => resL L w [.tmp 4] fun vs => oneOr vs fun v => R v w)) : Cal Try.prog 10 ⟨args⟩ w R := cal_of mo ok10 hle h

-- footbridge/footbridgelaw21.WindowCopies
def s11 : S := (.seq (.row [⟨(some 8), none, .mv (.const (.bool false))⟩])
 (.prune [2, 3, 1, 0] (.seq (.seq (.row [⟨(some 23), none, .mv (.tmp 1)⟩,
   ⟨(some 24), none, .lenA (.tmp 23)⟩,
   ⟨(some 25), none, .ibin .gtr .i64 (.tmp 24) (.const (.int .i64 40))⟩,
   ⟨(some 26), none, .mv (.tmp 25)⟩,
   ⟨(some 27), (some (26, false)), .mv (.tmp 2)⟩,
   ⟨(some 28), (some (26, false)), .lenA (.tmp 27)⟩,
   ⟨(some 29), (some (26, false)), .ibin .gtr .i64 (.tmp 28) (.const (.int .i64 40))⟩,
   ⟨(some 30), none, .pick (.tmp 26) (.const (.bool true)) (.tmp 29)⟩,
   ⟨(some 31), none, .mv (.tmp 30)⟩,
   ⟨(some 32), (some (31, false)), .mv (.tmp 3)⟩,
   ⟨(some 33), (some (31, false)), .lenA (.tmp 32)⟩,
   ⟨(some 34), (some (31, false)), .ibin .gtr .i64 (.tmp 33) (.const (.int .i64 40))⟩,
   ⟨(some 35), none, .pick (.tmp 31) (.const (.bool true)) (.tmp 34)⟩])
 (.prune [35, 2, 3, 1, 0] (.cond (.tmp 35)
  (.seq (.row [⟨(some 36), none, .call 32 []⟩,
    ⟨(some 8), none, .mv (.tmp 36)⟩])
  (.prune [8] .ret))
  .skip)))
 (.prune [0, 1, 3, 2] (.seq (.row [⟨(some 37), none, .mv (.tmp 0)⟩,
   ⟨(some 38), none, .conv .i64 (.tmp 37)⟩,
   ⟨(some 39), none, .call 33 [(.tmp 38)]⟩,
   ⟨(some 9), none, .mv (.tmp 39)⟩])
 (.prune [0, 1, 9, 3, 2] (.seq (.row [⟨(some 40), none, .mv (.tmp 0)⟩,
   ⟨(some 41), none, .conv .i64 (.tmp 40)⟩,
   ⟨(some 42), none, .bld [(.slice none 0 0), (.slice none 0 0), (.int .i64 0), (.int .i64 0)] [(3, 1)] [(.tmp 41)]⟩,
   ⟨(some 10), none, .new [(.slice none 0 0), (.slice none 0 0), (.int .i64 0), (.int .i64 0)] 60⟩,
   ⟨none, none, .stn 4 (.tmp 10) (.tmp 42)⟩])
 (.prune [1, 10, 9, 3, 2] (.seq (.row [⟨(some 11), none, .mv (.const (.bool true))⟩])
 (.prune [1, 10, 11, 9, 3, 2] (.seq (.seq (.row [⟨(some 43), none, .mv (.tmp 1)⟩,
   ⟨(some 44), none, .lenA (.tmp 43)⟩,
   ⟨(some 45), none, .mv (.const (.int .i64 0))⟩])
 (.prune [45, 10, 11, 9, 43, 3, 2, 44] (.block 0 (.loop [11, 45] [11, 13, 14, 15, 45, 46, 47, 48, 49, 50, 51, 52, 53, 54, 55, 56, 57, 58, 59, 60, 61] (.seq (.row [⟨(some 46), none, .ibin .lss .i64 (.tmp 45) (.tmp 44)⟩])
  (.prune [46, 11, 45, 10, 9, 43, 3, 2, 44] (.seq (.cond (.tmp 46)
   .skip
   (.exit 0))
  (.prune [11, 45, 10, 9, 43, 3, 2, 44] (.seq (.block 1 (.seq (.row [⟨(some 47), none, .ixA 3 (.tmp 43) (.tmp 45)⟩,
    ⟨(some 48), none, .ldn 3 (.tmp 47)⟩,
    ⟨(some 13), none, .new [(.int .u8 0), (.int .i64 0), (.int .i64 0)] 62⟩,
    ⟨none, none, .stn 3 (.tmp 13) (.tmp 48)⟩])
  (.prune [13, 11, 45, 10, 9, 43, 3, 2, 44] (.seq (.row [⟨(some 50), none, .mv (.tmp 9)⟩,
    ⟨(some 51), none, .ldn 4 (.tmp 10)⟩,
    ⟨(some 52), none, .ldn 3 (.tmp 13)⟩,
    ⟨(some 53), none, .call 34 [(.tmp 50), (.tmp 51), (.tmp 52)]⟩,
    ⟨(some 49), none, .mv (.tmp 53)⟩,
    ⟨(some 54), none, .ext (.tmp 49) 0⟩,
    ⟨(some 55), none, .ext (.tmp 49) 1⟩,
    ⟨(some 14), none, .new [(.slice none 0 0), (.slice none 0 0), (.int .i64 0), (.int .i64 0)] 60⟩,
    ⟨none, none, .stn 4 (.tmp 14) (.tmp 54)⟩,
    ⟨(some 15), none, .mv (.tmp 55)⟩])
  (.prune [14, 11, 15, 45, 10, 9, 43, 3, 2, 44] (.row [⟨(some 56), none, .ldn 4 (.tmp 14)⟩,
    ⟨(some 57), none, .mv (.tmp 11)⟩,
    ⟨(some 58), none, .mv (.tmp 57)⟩,
    ⟨(some 59), (some (58, true)), .mv (.tmp 15)⟩,
    ⟨(some 60), none, .pick (.tmp 58) (.tmp 59) (.const (.bool false))⟩,
    ⟨none, none, .stn 4 (.tmp 10) (.tmp 56)⟩,
    ⟨(some 11), none, .mv (.tmp 60)⟩]))))))
  (.prune [45, 10, 11, 9, 43, 3, 2, 44] (.row [⟨(some 61), none, .ibin .add .i64 (.tmp 45) (.const (.int .i64 1))⟩,
    ⟨(some 45), none, .mv (.tmp 61)⟩])))))))))))
 (.prune [3, 10, 11, 2, 9] (.seq (.draw (.take 0 ⟨(some 62), none, .mv (.tmp 9)⟩ (.take 2 ⟨(some 64), none, .ldn 4 (.tmp 10)⟩ (.alt (.step 1 true ⟨(some 63), none, .call 44 [(.tmp 62)]⟩ (.step 3 true ⟨(some 17), none, .new [(.slice none 0 0), (.slice none 0 0), (.int .i64 0), (.int .i64 0)] 60⟩ (.take 4 ⟨(some 16), none, .mv (.tmp 63)⟩ (.step 5 false ⟨none, none, .stn 4 (.tmp 17) (.tmp 64)⟩ .done)))) (.step 3 true ⟨(some 17), none, .new [(.slice none 0 0), (.slice none 0 0), (.int .i64 0), (.int .i64 0)] 60⟩ (.step 1 true ⟨(some 63), none, .call 44 [(.tmp 62)]⟩ (.take 4 ⟨(some 16), none, .mv (.tmp 63)⟩ (.step 5 false ⟨none, none, .stn 4 (.tmp 17) (.tmp 64)⟩ .done))))))))
 (.prune [17, 3, 16, 10, 11, 2, 9] (.seq (.seq (.row [⟨(some 18), none, .mv (.const (.int .i64 0))⟩])
 (.prune [18, 17, 3, 16, 10, 11, 2, 9] (.block 2 (.loop [11, 18] [11, 18, 19, 20, 21, 22, 65, 66, 67, 68, 69, 70, 71, 72, 73, 74, 75, 76, 77, 78, 79, 80, 81, 82, 83, 84, 85, 86, 87, 88, 89, 90, 91, 92, 93, 94, 95, 96, 97, 98, 99, 100, 101, 102, 103, 104, 105, 106, 107, 108, 109, 110, 111, 112, 113, 114] (.seq (.seq (.row [⟨(some 65), none, .mv (.tmp 18)⟩,
    ⟨(some 66), none, .mv (.tmp 2)⟩,
    ⟨(some 67), none, .lenA (.tmp 66)⟩,
    ⟨(some 68), none, .ibin .lss .i64 (.tmp 65) (.tmp 67)⟩,
    ⟨(some 69), none, .mv (.tmp 68)⟩,
    ⟨(some 70), (some (69, false)), .mv (.tmp 18)⟩,
    ⟨(some 71), (some (69, false)), .mv (.tmp 3)⟩,
    ⟨(some 72), (some (69, false)), .lenA (.tmp 71)⟩,
    ⟨(some 73), (some (69, false)), .ibin .lss .i64 (.tmp 70) (.tmp 72)⟩,
    ⟨(some 74), none, .pick (.tmp 69) (.const (.bool true)) (.tmp 73)⟩])
  (.prune [74, 11, 18, 17, 3, 16, 10, 2, 9] (.cond (.tmp 74)
   .skip
   (.exit 2))))
  (.prune [11, 18, 17, 3, 16, 10, 2, 9] (.seq (.block 3 (.seq (.seq (.row [⟨(some 77), none, .mv (.tmp 18)⟩,
    ⟨(some 78), none, .mv (.tmp 2)⟩,
    ⟨(some 79), none, .lenA (.tmp 78)⟩,
    ⟨(some 80), none, .ibin .lss .i64 (.tmp 77) (.tmp 79)⟩])
  (.prune [80, 11, 18, 17, 3, 16, 10, 2, 9] (.cond (.tmp 80)
   (.seq (.draw (.take 0 ⟨(some 82), none, .mv (.tmp 9)⟩ (.take 1 ⟨(some 83), none, .ldn 4 (.tmp 10)⟩ (.take 2 ⟨(some 84), none, .mv (.tmp 2)⟩ (.take 3 ⟨(some 85), none, .mv (.tmp 18)⟩ (.take 4 ⟨(some 86), none, .ixA 3 (.tmp 84) (.tmp 85)⟩ (.take 5 ⟨(some 87), none, .ldn 3 (.tmp 86)⟩ (.alt (.step 6 false ⟨(some 88), none, .call 34 [(.tmp 82), (.tmp 83), (.tmp 87)]⟩ (.take 7 ⟨(some 81), none, .mv (.tmp 88)⟩ (.take 8 ⟨(some 89), none, .ext (.tmp 81) 0⟩ (.take 9 ⟨(some 90), none, .ext (.tmp 81) 1⟩ (.step 10 true ⟨(some 19), none, .new [(.slice none 0 0), (.slice none 0 0), (.int .i64 0), (.int .i64 0)] 60⟩ (.step 11 false ⟨none, none, .stn 4 (.tmp 19) (.tmp 89)⟩ (.take 12 ⟨(some 20), none, .mv (.tmp 90)⟩ .done))))))) (.step 10 true ⟨(some 19), none, .new [(.slice none 0 0), (.slice none 0 0), (.int .i64 0), (.int .i64 0)] 60⟩ (.step 6 false ⟨(some 88), none, .call 34 [(.tmp 82), (.tmp 83), (.tmp 87)]⟩ (.take 7 ⟨(some 81), none, .mv (.tmp 88)⟩ (.take 8 ⟨(some 89), none, .ext (.tmp 81) 0⟩ (.take 9 ⟨(some 90), none, .ext (.tmp 81) 1⟩ (.step 11 false ⟨none, none, .stn 4 (.tmp 19) (.tmp 89)⟩ (.take 12 ⟨(some 20), none, .mv (.tmp 90)⟩ .done)))))))))))))))
   (.prune [19, 11, 20, 18, 17, 3, 16, 10, 2, 9] (.row [⟨(some 91), none, .ldn 4 (.tmp 19)⟩,
     ⟨(some 92), none, .mv (.tmp 11)⟩,
     ⟨(some 93), none, .mv (.tmp 92)⟩,
     ⟨(some 94), (some (93, true)), .mv (.tmp 20)⟩,
     ⟨(some 95), none, .pick (.tmp 93) (.tmp 94) (.const (.bool false))⟩,
     ⟨none, none, .stn 4 (.tmp 10) (.tmp 91)⟩,
     ⟨(some 11), none, .mv (.tmp 95)⟩])))
   .skip)))
  (.prune [11, 18, 17, 3, 16, 10, 2, 9] (.seq (.row [⟨(some 96), none, .mv (.tmp 18)⟩,
    ⟨(some 97), none, .mv (.tmp 3)⟩,
    ⟨(some 98), none, .lenA (.tmp 97)⟩,
    ⟨(some 99), none, .ibin .lss .i64 (.tmp 96) (.tmp 98)⟩])
  (.prune [99, 11, 18, 17, 3, 16, 10, 2, 9] (.cond (.tmp 99)
   (.seq (.draw (.take 0 ⟨(some 101), none, .mv (.tmp 16)⟩ (.take 1 ⟨(some 102), none, .ldn 4 (.tmp 17)⟩ (.take 2 ⟨(some 103), none, .mv (.tmp 3)⟩ (.take 3 ⟨(some 104), none, .mv (.tmp 18)⟩ (.take 4 ⟨(some 105), none, .ixA 3 (.tmp 103) (.tmp 104)⟩ (.take 5 ⟨(some 106), none, .ldn 3 (.tmp 105)⟩ (.alt (.step 6 false ⟨(some 107), none, .call 34 [(.tmp 101), (.tmp 102), (.tmp 106)]⟩ (.take 7 ⟨(some 100), none, .mv (.tmp 107)⟩ (.take 8 ⟨(some 108), none, .ext (.tmp 100) 0⟩ (.take 9 ⟨(some 109), none, .ext (.tmp 100) 1⟩ (.step 10 true ⟨(some 21), none, .new [(.slice none 0 0), (.slice none 0 0), (.int .i64 0), (.int .i64 0)] 60⟩ (.step 11 false ⟨none, none, .stn 4 (.tmp 21) (.tmp 108)⟩ (.take 12 ⟨(some 22), none, .mv (.tmp 109)⟩ .done))))))) (.step 10 true ⟨(some 21), none, .new [(.slice none 0 0), (.slice none 0 0), (.int .i64 0), (.int .i64 0)] 60⟩ (.step 6 false ⟨(some 107), none, .call 34 [(.tmp 101), (.tmp 102), (.tmp 106)]⟩ (.take 7 ⟨(some 100), none, .mv (.tmp 107)⟩ (.take 8 ⟨(some 108), none, .ext (.tmp 100) 0⟩ (.take 9 ⟨(some 109), none, .ext (.tmp 100) 1⟩ (.step 11 false ⟨none, none, .stn 4 (.tmp 21) (.tmp 108)⟩ (.take 12 ⟨(some 22), none, .mv (.tmp 109)⟩ .done)))))))))))))))
   (.prune [21, 11, 22, 18, 17, 3, 16, 10, 2, 9] (.row [⟨(some 110), none, .ldn 4 (.tmp 21)⟩,
     ⟨(some 111), none, .mv (.tmp 11)⟩,
     ⟨(some 112), none, .mv (.tmp 111)⟩,
     ⟨(some 113), (some (112, true)), .mv (.tmp 22)⟩,
     ⟨(some 114), none, .pick (.tmp 112) (.tmp 113) (.const (.bool false))⟩,
     ⟨none, none, .stn 4 (.tmp 17) (.tmp 110)⟩,
     ⟨(some 11), none, .mv (.tmp 114)⟩])))
   .skip))))))
  (.prune [18, 17, 3, 16, 10, 11, 2, 9] (.row [⟨(some 75), none, .mv (.tmp 18)⟩,
    ⟨(some 76), none, .ibin .add .i64 (.tmp 75) (.const (.int .i64 1))⟩,
    ⟨(some 18), none, .mv (.tmp 76)⟩])))))))))
 (.prune [11, 9, 10, 16, 17] (.seq (.row [⟨(some 115), none, .call 32 []⟩,
   ⟨(some 116), none, .mv (.tmp 115)⟩,
   ⟨(some 117), (some (116, true)), .mv (.tmp 11)⟩,
   ⟨(some 118), none, .pick (.tmp 116) (.tmp 117) (.const (.bool false))⟩,
   ⟨(some 119), none, .mv (.tmp 118)⟩,
   ⟨(some 120), (some (119, true)), .mv (.tmp 9)⟩,
   ⟨(some 121), (some (119, true)), .ldn 4 (.tmp 10)⟩,
   ⟨(some 122), (some (119, true)), .call 43 [(.tmp 120), (.tmp 121)]⟩,
   ⟨(some 123), none, .pick (.tmp 119) (.tmp 122) (.const (.bool false))⟩,
   ⟨(some 124), none, .mv (.tmp 123)⟩,
   ⟨(some 125), (some (124, true)), .mv (.tmp 16)⟩,
   ⟨(some 126), (some (124, true)), .ldn 4 (.tmp 17)⟩,
   ⟨(some 127), (some (124, true)), .call 43 [(.tmp 125), (.tmp 126)]⟩,
   ⟨(some 128), none, .pick (.tmp 124) (.tmp 127) (.const (.bool false))⟩,
   ⟨(some 8), none, .mv (.tmp 128)⟩])
 (.prune [8] .ret))))))))))))))))))
theorem ok11 : fits Try.prog 11 ⟨s11, 129, [.tmp 8]⟩ = some ⟨s11, 129, [.tmp 8]⟩ := by kernel_rfl
theorem go11 {args : List Value} {w : World} {R : Value → World → Prop} (hle : Nat.ble args.length 129 = true) (h : vc Try.prog 129 s11 (argEnv args 0) w (fun L w => resL L w [.tmp 8] fun vs => oneOr vs fun v => R v w) (fun _ _ _ => False) (fun L w => resL L w [.tmp 8] fun vs => oneOr vs fun v => R v w)) : Cal Try.prog 11 ⟨args⟩ w R := cal_of mo ok11 hle h

-- footbridge/footbridgelaw21.WindowNil
def s12 : S := (.seq (.row [⟨(some 4), none, .mv (.const (.bool false))⟩])
 (.prune [0, 1] (.seq (.row [⟨(some 5), none, .mv (.const (.pointer none))⟩])
 (.prune [0, 1, 5] (.seq (.row [⟨(some 15), none, .mv (.tmp 5)⟩,
   ⟨(some 16), none, .mv (.tmp 0)⟩,
   ⟨(some 17), none, .call 45 [(.tmp 15), (.tmp 16)]⟩,
   ⟨(some 14), none, .mv (.tmp 17)⟩,
   ⟨(some 18), none, .ext (.tmp 14) 0⟩,
   ⟨(some 19), none, .ext (.tmp 14) 1⟩,
   ⟨(some 6), none, .mv (.tmp 18)⟩,
   ⟨(some 7), none, .mv (.tmp 19)⟩])
 (.prune [0, 1, 7, 5] (.seq (.row [⟨(some 21), none, .mv (.tmp 5)⟩,
   ⟨(some 22), none, .mv (.tmp 0)⟩,
   ⟨(some 23), none, .call 39 [(.tmp 21), (.tmp 22)]⟩,
   ⟨(some 20), none, .mv (.tmp 23)⟩,
   ⟨(some 24), none, .ext (.tmp 20) 0⟩,
   ⟨(some 25), none, .ext (.tmp 20) 1⟩,
   ⟨(some 26), none, .ext (.tmp 20) 2⟩,
   ⟨(some 8), none, .mv (.tmp 24)⟩,
   ⟨(some 9), none, .mv (.tmp 25)⟩,
   ⟨(some 10), none, .mv (.tmp 26)⟩])
 (.prune [0, 1, 7, 10, 5] (.seq (.row [⟨(some 28), none, .mv (.tmp 5)⟩,
   ⟨(some 29), none, .mv (.tmp 0)⟩,
   ⟨(some 30), none, .call 40 [(.tmp 28), (.tmp 29)]⟩,
   ⟨(some 27), none, .mv (.tmp 30)⟩,
   ⟨(some 31), none, .ext (.tmp 27) 0⟩,
   ⟨(some 32), none, .ext (.tmp 27) 1⟩,
   ⟨(some 11), none, .mv (.tmp 31)⟩,
   ⟨(some 12), none, .mv (.tmp 32)⟩])
 (.prune [0, 1, 7, 10, 12, 5] (.seq (.row [⟨(some 33), none, .mv (.tmp 5)⟩,
   ⟨(some 34), none, .call 46 [(.tmp 33)]⟩,
   ⟨(some 13), none, .new [(.int .i64 0), (.int .i64 0), (.slice none 0 0)] 78⟩,
   ⟨none, none, .stn 3 (.tmp 13) (.tmp 34)⟩])
 (.prune [0, 1, 7, 10, 12, 13, 5] (.seq (.row [⟨(some 35), none, .call 32 []⟩,
   ⟨(some 36), none, .mv (.tmp 35)⟩,
   ⟨(some 37), (some (36, true)), .mv (.tmp 5)⟩,
   ⟨(some 38), (some (36, true)), .mv (.tmp 0)⟩,
   ⟨(some 39), (some (36, true)), .mv (.tmp 1)⟩,
   ⟨(some 40), (some (36, true)), .call 47 [(.tmp 37), (.tmp 38), (.tmp 39)]⟩,
   ⟨(some 41), (some (36, true)), .ibin .eql .i64 (.tmp 40) (.const (.int .i64 1))⟩,
   ⟨(some 42), none, .pick (.tmp 36) (.tmp 41) (.const (.bool false))⟩,
   ⟨(some 43), none, .mv (.tmp 42)⟩,
   ⟨(some 44), (some (43, true)), .mv (.tmp 5)⟩,
   ⟨(some 45), (some (43, true)), .mv (.tmp 1)⟩,
   ⟨(some 46), (some (43, true)), .call 48 [(.tmp 44), (.tmp 45)]⟩,
   ⟨(some 47), (some (43, true)), .ibin .eql .i64 (.tmp 46) (.const (.int .i64 1))⟩,
   ⟨(some 48), none, .pick (.tmp 43) (.tmp 47) (.const (.bool false))⟩,
   ⟨(some 49), none, .mv (.tmp 48)⟩,
   ⟨(some 50), (some (49, true)), .mv (.tmp 5)⟩,
   ⟨(some 51), (some (49, true)), .mv (.tmp 1)⟩,
   ⟨(some 52), (some (49, true)), .call 49 [(.tmp 50), (.tmp 51)]⟩,
   ⟨(some 53), (some (49, true)), .ibin .eql .i64 (.tmp 52) (.const (.int .i64 1))⟩,
   ⟨(some 54), none, .pick (.tmp 49) (.tmp 53) (.const (.bool false))⟩,
   ⟨(some 55), none, .mv (.tmp 54)⟩,
   ⟨(some 56), (some (55, true)), .mv (.tmp 7)⟩,
   ⟨(some 57), (some (55, true)), .ibin .eql .i64 (.tmp 56) (.const (.int .i64 1))⟩,
   ⟨(some 58), none, .pick (.tmp 55) (.tmp 57) (.const (.bool false))⟩,
   ⟨(some 59), none, .mv (.tmp 58)⟩,
   ⟨(some 60), (some (59, true)), .mv (.tmp 10)⟩,
   ⟨(some 61), (some (59, true)), .ibin .eql .i64 (.tmp 60) (.const (.int .i64 1))⟩,
   ⟨(some 62), none, .pick (.tmp 59) (.tmp 61) (.const (.bool false))⟩,
   ⟨(some 63), none, .mv (.tmp 62)⟩,
   ⟨(some 64), (some (63, true)), .mv (.tmp 12)⟩,
   ⟨(some 65), (some (63, true)), .ibin .eql .i64 (.tmp 64) (.const (.int .i64 1))⟩,
   ⟨(some 66), none, .pick (.tmp 63) (.tmp 65) (.const (.bool false))⟩,
   ⟨(some 67), none, .mv (.tmp 66)⟩,
   ⟨(some 68), (some (67, true)), .mv (.tmp 5)⟩,
   ⟨(some 69), (some (67, true)), .call 38 [(.tmp 68)]⟩,
   ⟨(some 70), (some (67, true)), .ibin .eql .i64 (.tmp 69) (.const (.int .i64 0))⟩,
   ⟨(some 71), none, .pick (.tmp 67) (.tmp 70) (.const (.bool false))⟩,
   ⟨(some 72), none, .mv (.tmp 71)⟩,
   ⟨(some 73), (some (72, true)), .mv (.tmp 5)⟩,
   ⟨(some 74), (some (72, true)), .call 42 [(.tmp 73)]⟩,
   ⟨(some 75), (some (72, true)), .ibin .eql .i64 (.tmp 74) (.const (.int .i64 0))⟩,
   ⟨(some 76), none, .pick (.tmp 72) (.tmp 75) (.const (.bool false))⟩,
   ⟨(some 77), none, .mv (.tmp 76)⟩,
   ⟨(some 78), (some (77, true)), .mv (.tmp 5)⟩,
   ⟨(some 79), (some (77, true)), .call 37 [(.tmp 78)]⟩,
   ⟨(some 80), (some (77, true)), .ibin .eql .i64 (.tmp 79) (.const (.int .i64 0))⟩,
   ⟨(some 81), none, .pick (.tmp 77) (.tmp 80) (.const (.bool false))⟩,
   ⟨(some 82), none, .mv (.tmp 81)⟩,
   ⟨(some 83), (some (82, true)), .mv (.tmp 5)⟩,
   ⟨(some 84), (some (82, true)), .call 36 [(.tmp 83)]⟩,
   ⟨(some 85), (some (82, true)), .ibin .eql .i64 (.tmp 84) (.const (.int .i64 0))⟩,
   ⟨(some 86), none, .pick (.tmp 82) (.tmp 85) (.const (.bool false))⟩,
   ⟨(some 87), none, .mv (.tmp 86)⟩,
   ⟨(some 88), (some (87, true)), .mv (.tmp 5)⟩,
   ⟨(some 89), (some (87, true)), .call 41 [(.tmp 88)]⟩,
   ⟨(some 90), (some (87, true)), .ibin .eql .i64 (.tmp 89) (.const (.int .i64 0))⟩,
   ⟨(some 91), none, .pick (.tmp 87) (.tmp 90) (.const (.bool false))⟩,
   ⟨(some 92), none, .mv (.tmp 91)⟩,
   ⟨(some 93), (some (92, true)), .mv (.tmp 5)⟩,
   ⟨(some 94), (some (92, true)), .call 50 [(.tmp 93)]⟩,
   ⟨(some 95), (some (92, true)), .lenA (.tmp 94)⟩,
   ⟨(some 96), (some (92, true)), .ibin .eql .i64 (.tmp 95) (.const (.int .i64 0))⟩,
   ⟨(some 97), none, .pick (.tmp 92) (.tmp 96) (.const (.bool false))⟩,
   ⟨(some 98), none, .mv (.tmp 97)⟩,
   ⟨(some 99), (some (98, true)), .fad 2 (.tmp 13)⟩,
   ⟨(some 100), (some (98, true)), .ld (.tmp 99)⟩,
   ⟨(some 101), (some (98, true)), .lenA (.tmp 100)⟩,
   ⟨(some 102), (some (98, true)), .ibin .eql .i64 (.tmp 101) (.const (.int .i64 0))⟩,
   ⟨(some 103), none, .pick (.tmp 98) (.tmp 102) (.const (.bool false))⟩,
   ⟨(some 104), none, .mv (.tmp 103)⟩,
   ⟨(some 105), (some (104, true)), .fad 0 (.tmp 13)⟩,
   ⟨(some 106), (some (104, true)), .ld (.tmp 105)⟩,
   ⟨(some 107), (some (104, true)), .ibin .eql .i64 (.tmp 106) (.const (.int .i64 0))⟩,
   ⟨(some 108), none, .pick (.tmp 104) (.tmp 107) (.const (.bool false))⟩,
   ⟨(some 109), none, .mv (.tmp 108)⟩,
   ⟨(some 110), (some (109, true)), .fad 1 (.tmp 13)⟩,
   ⟨(some 111), (some (109, true)), .ld (.tmp 110)⟩,
   ⟨(some 112), (some (109, true)), .ibin .eql .i64 (.tmp 111) (.const (.int .i64 0))⟩,
   ⟨(some 113), none, .pick (.tmp 109) (.tmp 112) (.const (.bool false))⟩,
   ⟨(some 114), none, .mv (.tmp 113)⟩,
   ⟨(some 115), (some (114, true)), .mv (.tmp 5)⟩,
   ⟨(some 116), (some (114, true)), .call 44 [(.tmp 115)]⟩,
   ⟨(some 117), (some (114, true)), .isnil 0 false (.tmp 116)⟩,
   ⟨(some 118), none, .pick (.tmp 114) (.tmp 117) (.const (.bool false))⟩,
   ⟨(some 4), none, .mv (.tmp 118)⟩])
 (.prune [4] .ret))))))))))))))
theorem ok12 : fits Try.prog 12 ⟨s12, 119, [.tmp 4]⟩ = some ⟨s12, 119, [.tmp 4]⟩ := by kernel_rfl
theorem go12 {args : List Value} {w : World} {R : Value → World → Prop} (hle : Nat.ble args.length 119 = true) (h : vc Try.prog 119 s12 (argEnv args 0) w (fun L w => resL L w [.tmp 4] fun vs => oneOr vs fun v => R v w) (fun _ _ _ => False) (fun L w => resL L w [.tmp 4] fun vs => oneOr vs fun v => R v w)) : Cal Try.prog 12 ⟨args⟩ w R := cal_of mo ok12 hle h

-- footbridge/footbridgelaw05.fixed
def s13 : S := (.seq (.row [⟨(some 0), none, .mv (.const (.bool false))⟩])
 (.prune [] (.seq (.row [⟨(some 8), none, .call 19 [(.const (.int .i64 3))]⟩,
   ⟨(some 1), none, .mv (.tmp 8)⟩])
 (.prune [1] (.seq (.row [⟨(some 9), none, .mv (.tmp 1)⟩,
   ⟨(some 10), none, .call 30 [(.tmp 9), (.const (.int .i32 7))]⟩])
 (.prune [1] (.seq (.row [⟨(some 11), none, .mv (.tmp 1)⟩,
   ⟨(some 12), none, .call 30 [(.tmp 11), (.const (.int .i32 8))]⟩])
 (.prune [1] (.seq (.row [⟨(some 14), none, .mv (.tmp 1)⟩,
   ⟨(some 15), none, .call 28 [(.tmp 14)]⟩,
   ⟨(some 13), none, .mv (.tmp 15)⟩,
   ⟨(some 16), none, .ext (.tmp 13) 0⟩,
   ⟨(some 17), none, .ext (.tmp 13) 1⟩,
   ⟨(some 2), none, .mv (.tmp 16)⟩,
   ⟨(some 3), none, .mv (.tmp 17)⟩])
 (.prune [2, 1] (.seq (.row [⟨(some 18), none, .mv (.tmp 1)⟩,
   ⟨(some 19), none, .call 30 [(.tmp 18), (.const (.int .i32 9))]⟩])
 (.prune [2, 1] (.seq (.row [⟨(some 21), none, .mv (.tmp 1)⟩,
   ⟨(some 22), none, .call 29 [(.tmp 21), (.const (.int .i64 1))]⟩,
   ⟨(some 20), none, .mv (.tmp 22)⟩,
   ⟨(some 23), none, .ext (.tmp 20) 0⟩,
   ⟨(some 24), none, .ext (.tmp 20) 1⟩,
   ⟨(some 4), none, .mv (.tmp 23)⟩,
   ⟨(some 5), none, .mv (.tmp 24)⟩])
 (.prune [2, 4, 1] (.seq (.row [⟨(some 26), none, .mv (.tmp 1)⟩,
   ⟨(some 27), none, .call 29 [(.tmp 26), (.const (.int .i64 2))]⟩,
   ⟨(some 25), none, .mv (.tmp 27)⟩,
   ⟨(some 28), none, .ext (.tmp 25) 0⟩,
   ⟨(some 29), none, .ext (.tmp 25) 1⟩,
   ⟨(some 6), none, .mv (.tmp 28)⟩,
   ⟨(some 7), none, .mv (.tmp 29)⟩])
 (.prune [2, 4, 6, 1] (.seq (.row [⟨(some 30), none, .mv (.tmp 2)⟩,
   ⟨(some 31), none, .ibin .eql .i32 (.tmp 30) (.const (.int .i32 7))⟩,
   ⟨(some 32), none, .mv (.tmp 31)⟩,
   ⟨(some 33), (some (32, true)), .mv (.tmp 4)⟩,
   ⟨(some 34), (some (32, true)), .ibin .eql .i32 (.tmp 33) (.const (.int .i32 8))⟩,
   ⟨(some 35), none, .pick (.tmp 32) (.tmp 34) (.const (.bool false))⟩,
   ⟨(some 36), none, .mv (.tmp 35)⟩,
   ⟨(some 37), (some (36, true)), .mv (.tmp 6)⟩,
   ⟨(some 38), (some (36, true)), .ibin .eql .i32 (.tmp 37) (.const (.int .i32 9))⟩,
   ⟨(some 39), none, .pick (.tmp 36) (.tmp 38) (.const (.bool false))⟩,
   ⟨(some 40), none, .mv (.tmp 39)⟩,
   ⟨(some 41), (some (40, true)), .mv (.tmp 1)⟩,
   ⟨(some 42), (some (40, true)), .call 25 [(.tmp 41)]⟩,
   ⟨(some 43), (some (40, true)), .ibin .eql .i64 (.tmp 42) (.const (.int .i64 1))⟩,
   ⟨(some 44), none, .pick (.tmp 40) (.tmp 43) (.const (.bool false))⟩,
   ⟨(some 45), none, .mv (.tmp 44)⟩,
   ⟨(some 46), (some (45, true)), .mv (.tmp 1)⟩,
   ⟨(some 47), (some (45, true)), .call 31 [(.tmp 46), (.const (.int .i64 2))]⟩,
   ⟨(some 48), none, .pick (.tmp 45) (.tmp 47) (.const (.bool false))⟩,
   ⟨(some 49), none, .mv (.tmp 48)⟩,
   ⟨(some 50), (some (49, true)), .mv (.tmp 1)⟩,
   ⟨(some 51), (some (49, true)), .call 24 [(.tmp 50)]⟩,
   ⟨(some 52), (some (49, true)), .ibin .eql .i64 (.tmp 51) (.const (.int .i64 1))⟩,
   ⟨(some 53), none, .pick (.tmp 49) (.tmp 52) (.const (.bool false))⟩,
   ⟨(some 0), none, .mv (.tmp 53)⟩])
 (.prune [0] .ret))))))))))))))))))
theorem ok13 : fits Try.prog 13 ⟨s13, 54, [.tmp 0]⟩ = some ⟨s13, 54, [.tmp 0]⟩ := by kernel_rfl
theorem go13 {args : List Value} {w : World} {R : Value → World → Prop} (hle : Nat.ble args.length 54 = true) (h : vc Try.prog 54 s13 (argEnv args 0) w (fun L w => resL L w [.tmp 0] fun vs => oneOr vs fun v => R v w) (fun _ _ _ => False) (fun L w => resL L w [.tmp 0] fun vs => oneOr vs fun v => R v w)) : Cal Try.prog 13 ⟨args⟩ w R := cal_of mo ok13 hle h

-- footbridge/ring.New[byte]
def s14 : S := (.seq (.row [⟨(some 2), none, .mv (.const (.pointer none))⟩])
 (.prune [0] (.seq (.seq (.row [⟨(some 3), none, .mv (.tmp 0)⟩,
   ⟨(some 4), none, .ibin .lss .i64 (.tmp 3) (.const (.int .i64 0))⟩,
   ⟨(some 5), none, .mv (.tmp 4)⟩,
   ⟨(some 6), (some (5, false)), .mv (.tmp 0)⟩,
   ⟨(some 7), (some (5, false)), .ibin .gtr .i64 (.tmp 6) (.const (.int .i64 1048576))⟩,
   ⟨(some 8), none, .pick (.tmp 5) (.const (.bool true)) (.tmp 7)⟩])
 (.prune [8, 0] (.cond (.tmp 8)
  (.seq (.row [⟨(some 2), none, .mv (.const (.pointer none))⟩])
  (.prune [2] .ret))
  .skip)))
 (.prune [0] (.seq (.row [⟨(some 9), none, .mv (.tmp 0)⟩,
   ⟨(some 10), none, .bld [(.slice none 0 0), (.int .i64 0), (.int .i64 0), (.int .i64 0), (.int .i64 0)] [(4, 1)] [(.tmp 9)]⟩,
   ⟨(some 11), none, .box 85 (.tmp 10)⟩,
   ⟨(some 2), none, .mv (.tmp 11)⟩])
 (.prune [2] .ret))))))
theorem ok14 : fits Try.prog 14 ⟨s14, 12, [.tmp 2]⟩ = some ⟨s14, 12, [.tmp 2]⟩ := by kernel_rfl
theorem go14 {args : List Value} {w : World} {R : Value → World → Prop} (hle : Nat.ble args.length 12 = true) (h : vc Try.prog 12 s14 (argEnv args 0) w (fun L w => resL L w [.tmp 2] fun vs => oneOr vs fun v => R v w) (fun _ _ _ => False) (fun L w => resL L w [.tmp 2] fun vs => oneOr vs fun v => R v w)) : Cal Try.prog 14 ⟨args⟩ w R := cal_of mo ok14 hle h

-- (*footbridge/ring.Ring[byte]).Len
def s15 : S := (.seq (.row [⟨(some 2), none, .mv (.const (.int .i64 0))⟩])
 (.prune [0] (.seq (.seq (.row [⟨(some 3), none, .mv (.tmp 0)⟩,
   ⟨(some 4), none, .isnil 0 false (.tmp 3)⟩])
 (.prune [4, 0] (.cond (.tmp 4)
  (.seq (.row [⟨(some 2), none, .mv (.const (.int .i64 0))⟩])
  (.prune [2] .ret))
  .skip)))
 (.prune [0] (.seq (.row [⟨(some 5), none, .mv (.tmp 0)⟩,
   ⟨(some 6), none, .nck (.tmp 5)⟩,
   ⟨(some 7), none, .fad 2 (.tmp 6)⟩,
   ⟨(some 8), none, .ld (.tmp 7)⟩,
   ⟨(some 2), none, .mv (.tmp 8)⟩])
 (.prune [2] .ret))))))
theorem ok15 : fits Try.prog 15 ⟨s15, 9, [.tmp 2]⟩ = some ⟨s15, 9, [.tmp 2]⟩ := by kernel_rfl
theorem go15 {args : List Value} {w : World} {R : Value → World → Prop} (hle : Nat.ble args.length 9 = true) (h : vc Try.prog 9 s15 (argEnv args 0) w (fun L w => resL L w [.tmp 2] fun vs => oneOr vs fun v => R v w) (fun _ _ _ => False) (fun L w => resL L w [.tmp 2] fun vs => oneOr vs fun v => R v w)) : Cal Try.prog 15 ⟨args⟩ w R := cal_of mo ok15 hle h

-- (*footbridge/ring.Ring[byte]).Shift
def s16 : S := (.seq (.row [⟨(some 2), none, .mv (.const (.int .u8 0))⟩,
   ⟨(some 3), none, .mv (.const (.bool false))⟩])
 (.prune [0] (.seq (.seq (.row [⟨(some 6), none, .mv (.tmp 0)⟩,
   ⟨(some 7), none, .call 15 [(.tmp 6)]⟩,
   ⟨(some 8), none, .ibin .eql .i64 (.tmp 7) (.const (.int .i64 0))⟩])
 (.prune [8, 0] (.cond (.tmp 8)
  (.seq (.row [⟨(some 4), none, .mv (.const (.int .u8 0))⟩])
  (.prune [4] (.seq (.row [⟨(some 9), none, .mv (.tmp 4)⟩,
    ⟨(some 2), none, .mv (.tmp 9)⟩,
    ⟨(some 3), none, .mv (.const (.bool false))⟩])
  (.prune [2, 3] .ret))))
  .skip)))
 (.prune [0] (.seq (.row [⟨(some 10), none, .mv (.tmp 0)⟩,
   ⟨(some 11), none, .call 51 [(.tmp 10), (.const (.int .i64 0))]⟩,
   ⟨(some 5), none, .mv (.tmp 11)⟩])
 (.prune [0, 5] (.seq (.row [⟨(some 12), none, .mv (.tmp 0)⟩,
   ⟨(some 13), none, .mv (.tmp 0)⟩,
   ⟨(some 14), none, .call 52 [(.tmp 13), (.const (.int .i64 1))]⟩,
   ⟨(some 15), none, .nck (.tmp 12)⟩,
   ⟨(some 16), none, .fad 1 (.tmp 15)⟩,
   ⟨none, none, .st (.tmp 16) (.tmp 14)⟩])
 (.prune [0, 5] (.seq (.row [⟨(some 17), none, .mv (.tmp 0)⟩,
   ⟨(some 18), none, .nck (.tmp 17)⟩,
   ⟨(some 19), none, .fad 2 (.tmp 18)⟩,
   ⟨(some 20), none, .ld (.tmp 19)⟩,
   ⟨(some 21), none, .ibin .sub .i64 (.tmp 20) (.const (.int .i64 1))⟩,
   ⟨(some 22), none, .nck (.tmp 17)⟩,
   ⟨(some 23), none, .fad 2 (.tmp 22)⟩,
   ⟨none, none, .st (.tmp 23) (.tmp 21)⟩])
 (.prune [0, 5] (.seq (.row [⟨(some 24), none, .mv (.tmp 0)⟩,
   ⟨(some 25), none, .nck (.tmp 24)⟩,
   ⟨(some 26), none, .fad 3 (.tmp 25)⟩,
   ⟨(some 27), none, .ld (.tmp 26)⟩,
   ⟨(some 28), none, .ibin .add .i64 (.tmp 27) (.const (.int .i64 1))⟩,
   ⟨(some 29), none, .nck (.tmp 24)⟩,
   ⟨(some 30), none, .fad 3 (.tmp 29)⟩,
   ⟨none, none, .st (.tmp 30) (.tmp 28)⟩])
 (.prune [5] (.seq (.row [⟨(some 31), none, .mv (.tmp 5)⟩,
   ⟨(some 2), none, .mv (.tmp 31)⟩,
   ⟨(some 3), none, .mv (.const (.bool true))⟩])
 (.prune [2, 3] .ret))))))))))))))
theorem ok16 : fits Try.prog 16 ⟨s16, 32, [.tmp 2, .tmp 3]⟩ = some ⟨s16, 32, [.tmp 2, .tmp 3]⟩ := by kernel_rfl
theorem go16 {args : List Value} {w : World} {R : Value → World → Prop} (hle : Nat.ble args.length 32 = true) (h : vc Try.prog 32 s16 (argEnv args 0) w (fun L w => resL L w [.tmp 2, .tmp 3] fun vs => oneOr vs fun v => R v w) (fun _ _ _ => False) (fun L w => resL L w [.tmp 2, .tmp 3] fun vs => oneOr vs fun v => R v w)) : Cal Try.prog 16 ⟨args⟩ w R := cal_of mo ok16 hle h

-- (*footbridge/ring.Ring[byte]).Push
def s17 : S := (.seq (.row [⟨(some 4), none, .mv (.const (.bool false))⟩])
 (.prune [0, 1] (.seq (.seq (.draw (.take 0 ⟨(some 5), none, .mv (.tmp 0)⟩ (.take 1 ⟨(some 6), none, .isnil 0 false (.tmp 5)⟩ (.take 2 ⟨(some 7), none, .mv (.tmp 6)⟩ (.take 3 ⟨(some 8), (some (7, false)), .mv (.tmp 0)⟩ (.take 4 ⟨(some 9), (some (7, false)), .nck (.tmp 8)⟩ (.take 5 ⟨(some 10), (some (7, false)), .fad 2 (.tmp 9)⟩ (.take 6 ⟨(some 11), (some (7, false)), .ld (.tmp 10)⟩ (.take 7 ⟨(some 12), (some (7, false)), .mv (.tmp 0)⟩ (.take 8 ⟨(some 13), (some (7, false)), .nck (.tmp 12)⟩ (.take 9 ⟨(some 14), (some (7, false)), .fad 4 (.tmp 13)⟩ (.take 10 ⟨(some 15), (some (7, false)), .ld (.tmp 14)⟩ (.take 11 ⟨(some 16), (some (7, false)), .ibin .eql .i64 (.tmp 11) (.tmp 15)⟩ (.take 12 ⟨(some 17), none, .pick (.tmp 7) (.const (.bool true)) (.tmp 16)⟩ .done))))))))))))))
 (.prune [17, 0, 1] (.cond (.tmp 17)
  (.seq (.row [⟨(some 4), none, .mv (.const (.bool false))⟩])
  (.prune [4] .ret))
  .skip)))
 (.prune [1, 0] (.seq (.seq (.draw (.take 0 ⟨(some 18), none, .mv (.tmp 0)⟩ (.take 1 ⟨(some 19), none, .nck (.tmp 18)⟩ (.take 2 ⟨(some 20), none, .fad 2 (.tmp 19)⟩ (.take 3 ⟨(some 21), none, .ld (.tmp 20)⟩ (.take 4 ⟨(some 22), none, .mv (.tmp 0)⟩ (.take 5 ⟨(some 23), none, .nck (.tmp 22)⟩ (.take 6 ⟨(some 24), none, .fad 0 (.tmp 23)⟩ (.take 7 ⟨(some 25), none, .ld (.tmp 24)⟩ (.take 8 ⟨(some 26), none, .lenA (.tmp 25)⟩ (.take 9 ⟨(some 27), none, .ibin .eql .i64 (.tmp 21) (.tmp 26)⟩ .done)))))))))))
 (.prune [27, 1, 0] (.cond (.tmp 27)
  (.row [⟨(some 28), none, .mv (.tmp 0)⟩,
    ⟨(some 29), none, .call 53 [(.tmp 28)]⟩])
  .skip)))
 (.prune [1, 0] (.seq (.draw (.take 0 ⟨(some 30), none, .mv (.tmp 0)⟩ (.take 1 ⟨(some 31), none, .nck (.tmp 30)⟩ (.take 2 ⟨(some 32), none, .fad 0 (.tmp 31)⟩ (.take 3 ⟨(some 33), none, .ld (.tmp 32)⟩ (.take 4 ⟨(some 34), none, .mv (.tmp 0)⟩ (.take 5 ⟨(some 35), none, .mv (.tmp 0)⟩ (.take 6 ⟨(some 36), none, .nck (.tmp 35)⟩ (.take 7 ⟨(some 37), none, .fad 2 (.tmp 36)⟩ (.take 8 ⟨(some 38), none, .ld (.tmp 37)⟩ (.take 10 ⟨(some 40), none, .mv (.tmp 1)⟩ (.step 9 true ⟨(some 39), none, .call 52 [(.tmp 34), (.tmp 38)]⟩ (.take 11 ⟨(some 41), none, .ixA 1 (.tmp 33) (.tmp 39)⟩ (.step 12 false ⟨none, none, .st (.tmp 41) (.tmp 40)⟩ .done))))))))))))))
 (.prune [0] (.seq (.row [⟨(some 42), none, .mv (.tmp 0)⟩,
   ⟨(some 43), none, .nck (.tmp 42)⟩,
   ⟨(some 44), none, .fad 2 (.tmp 43)⟩,
   ⟨(some 45), none, .ld (.tmp 44)⟩,
   ⟨(some 46), none, .ibin .add .i64 (.tmp 45) (.const (.int .i64 1))⟩,
   ⟨(some 47), none, .nck (.tmp 42)⟩,
   ⟨(some 48), none, .fad 2 (.tmp 47)⟩,
   ⟨none, none, .st (.tmp 48) (.tmp 46)⟩])
 (.prune [] (.seq (.row [⟨(some 4), none, .mv (.const (.bool true))⟩])
 (.prune [4] .ret))))))))))))
theorem ok17 : fits Try.prog 17 ⟨s17, 49, [.tmp 4]⟩ = some ⟨s17, 49, [.tmp 4]⟩ := by kernel_rfl
theorem go17 {args : List Value} {w : World} {R : Value → World → Prop} (hle : Nat.ble args.length 49 = true) (h : vc Try.prog 49 s17 (argEnv args 0) w (fun L w => resL L w [.tmp 4] fun vs => oneOr vs fun v => R v w) (fun _ _ _ => False) (fun L w => resL L w [.tmp 4] fun vs => oneOr vs fun v => R v w)) : Cal Try.prog 17 ⟨args⟩ w R := cal_of mo ok17 hle h

-- (*footbridge/ring.Ring[byte]).All
def s18 : S := (.seq (.row [⟨(some 2), none, .mv (.const (.slice none 0 0))⟩])
 (.prune [0] (.seq (.row [⟨(some 3), none, .mv (.const (.slice none 0 0))⟩])
 (.prune [0, 3] (.seq (.seq (.row [⟨(some 5), none, .mv (.tmp 0)⟩,
   ⟨(some 6), none, .call 15 [(.tmp 5)]⟩,
   ⟨(some 7), none, .mv (.const (.int .i64 0))⟩])
 (.prune [7, 0, 3, 6] (.block 0 (.loop [3, 7] [3, 4, 7, 8, 9, 10, 11, 12, 13, 14, 15, 16, 17, 18, 19, 20, 21, 22] (.seq (.row [⟨(some 8), none, .ibin .lss .i64 (.tmp 7) (.tmp 6)⟩])
  (.prune [8, 3, 7, 0, 6] (.seq (.cond (.tmp 8)
   .skip
   (.exit 0))
  (.prune [3, 7, 0, 6] (.seq (.block 1 (.seq (.row [⟨(some 9), none, .mv (.tmp 7)⟩,
    ⟨(some 4), none, .mv (.tmp 9)⟩])
  (.prune [3, 4, 7, 0, 6] (.draw (.take 0 ⟨(some 10), none, .mv (.tmp 3)⟩ (.take 1 ⟨(some 11), none, .mv (.tmp 0)⟩ (.take 2 ⟨(some 12), none, .nck (.tmp 11)⟩ (.take 3 ⟨(some 13), none, .fad 0 (.tmp 12)⟩ (.take 4 ⟨(some 14), none, .ld (.tmp 13)⟩ (.take 5 ⟨(some 15), none, .mv (.tmp 0)⟩ (.take 6 ⟨(some 16), none, .mv (.tmp 4)⟩ (.step 7 true ⟨(some 17), none, .call 52 [(.tmp 15), (.tmp 16)]⟩ (.take 8 ⟨(some 18), none, .ixA 1 (.tmp 14) (.tmp 17)⟩ (.take 9 ⟨(some 19), none, .ld (.tmp 18)⟩ (.step 10 true ⟨(some 20), none, .bsl 5 1 [(.int .u8 0)] [(0, 1)] [(.tmp 19)]⟩ (.step 11 true ⟨(some 21), none, .run (.bi .append ⟨[22, 22]⟩ 22) [(.tmp 10), (.tmp 20)]⟩ (.take 12 ⟨(some 3), none, .mv (.tmp 21)⟩ .done)))))))))))))))))
  (.prune [7, 0, 3, 6] (.row [⟨(some 22), none, .ibin .add .i64 (.tmp 7) (.const (.int .i64 1))⟩,
    ⟨(some 7), none, .mv (.tmp 22)⟩])))))))))))
 (.prune [3] (.seq (.row [⟨(some 23), none, .mv (.tmp 3)⟩,
   ⟨(some 2), none, .mv (.tmp 23)⟩])
 (.prune [2] .ret))))))))
theorem ok18 : fits Try.prog 18 ⟨s18, 24, [.tmp 2]⟩ = some ⟨s18, 24, [.tmp 2]⟩ := by kernel_rfl
theorem go18 {args : List Value} {w : World} {R : Value → World → Prop} (hle : Nat.ble args.length 24 = true) (h : vc Try.prog 24 s18 (argEnv args 0) w (fun L w => resL L w [.tmp 2] fun vs => oneOr vs fun v => R v w) (fun _ _ _ => False) (fun L w => resL L w [.tmp 2] fun vs => oneOr vs fun v => R v w)) : Cal Try.prog 18 ⟨args⟩ w R := cal_of mo ok18 hle h

-- footbridge/ring.New[int32]
def s19 : S := (.seq (.row [⟨(some 2), none, .mv (.const (.pointer none))⟩])
 (.prune [0] (.seq (.seq (.row [⟨(some 3), none, .mv (.tmp 0)⟩,
   ⟨(some 4), none, .ibin .lss .i64 (.tmp 3) (.const (.int .i64 0))⟩,
   ⟨(some 5), none, .mv (.tmp 4)⟩,
   ⟨(some 6), (some (5, false)), .mv (.tmp 0)⟩,
   ⟨(some 7), (some (5, false)), .ibin .gtr .i64 (.tmp 6) (.const (.int .i64 1048576))⟩,
   ⟨(some 8), none, .pick (.tmp 5) (.const (.bool true)) (.tmp 7)⟩])
 (.prune [8, 0] (.cond (.tmp 8)
  (.seq (.row [⟨(some 2), none, .mv (.const (.pointer none))⟩])
  (.prune [2] .ret))
  .skip)))
 (.prune [0] (.seq (.row [⟨(some 9), none, .mv (.tmp 0)⟩,
   ⟨(some 10), none, .bld [(.slice none 0 0), (.int .i64 0), (.int .i64 0), (.int .i64 0), (.int .i64 0)] [(4, 1)] [(.tmp 9)]⟩,
   ⟨(some 11), none, .box 89 (.tmp 10)⟩,
   ⟨(some 2), none, .mv (.tmp 11)⟩])
 (.prune [2] .ret))))))
theorem ok19 : fits Try.prog 19 ⟨s19, 12, [.tmp 2]⟩ = some ⟨s19, 12, [.tmp 2]⟩ := by kernel_rfl
theorem go19 {args : List Value} {w : World} {R : Value → World → Prop} (hle : Nat.ble args.length 12 = true) (h : vc Try.prog 12 s19 (argEnv args 0) w (fun L w => resL L w [.tmp 2] fun vs => oneOr vs fun v => R v w) (fun _ _ _ => False) (fun L w => resL L w [.tmp 2] fun vs => oneOr vs fun v => R v w)) : Cal Try.prog 19 ⟨args⟩ w R := cal_of mo ok19 hle h

-- footbridge/footbridgelaw05.does
def s20 : S := (.seq (.row [⟨(some 4), none, .box 37 (.tmp 1)⟩,
   ⟨(some 5), none, .box 39 (.tmp 2)⟩,
   ⟨(some 6), none, .new [(.slice none 0 0), (.int .i64 0), (.int .i64 0)] 37⟩,
   ⟨(some 7), none, .mv (.const (.bool false))⟩])
 (.prune [4, 0, 5, 6] (.seq (.seq (.row [⟨(some 27), none, .fad 0 (.tmp 5)⟩,
   ⟨(some 28), none, .ld (.tmp 27)⟩])
 (.prune [28, 4, 0, 5, 6] (.block 0 (.seq (.row [⟨(some 30), none, .ibin .eql .u8 (.tmp 28) (.const (.int .u8 0))⟩,
   ⟨(some 29), none, .mv (.tmp 30)⟩])
 (.prune [29, 28, 4, 0, 5, 6] (.cond (.tmp 29)
  (.seq (.row [⟨(some 32), none, .ldn 3 (.tmp 4)⟩,
    ⟨(some 33), none, .fad 1 (.tmp 5)⟩,
    ⟨(some 34), none, .ld (.tmp 33)⟩,
    ⟨(some 35), none, .call 54 [(.tmp 32), (.tmp 34)]⟩,
    ⟨(some 31), none, .mv (.tmp 35)⟩,
    ⟨(some 36), none, .ext (.tmp 31) 0⟩,
    ⟨(some 37), none, .ext (.tmp 31) 1⟩,
    ⟨(some 8), none, .new [(.slice none 0 0), (.int .i64 0), (.int .i64 0)] 37⟩,
    ⟨none, none, .stn 3 (.tmp 8) (.tmp 36)⟩,
    ⟨(some 9), none, .mv (.tmp 37)⟩])
  (.prune [8, 0, 5, 9, 6] (.seq (.draw (.take 0 ⟨(some 38), none, .ldn 3 (.tmp 8)⟩ (.take 1 ⟨(some 39), none, .mv (.tmp 0)⟩ (.take 2 ⟨(some 40), none, .fad 1 (.tmp 5)⟩ (.take 3 ⟨(some 41), none, .ld (.tmp 40)⟩ (.take 5 ⟨(some 43), none, .mv (.tmp 9)⟩ (.step 4 true ⟨(some 42), none, .call 30 [(.tmp 39), (.tmp 41)]⟩ (.take 6 ⟨(some 44), none, .bbin false (.tmp 42) (.tmp 43)⟩ (.step 7 true ⟨none, none, .stn 3 (.tmp 6) (.tmp 38)⟩ (.take 8 ⟨(some 7), none, .mv (.tmp 44)⟩ .done))))))))))
  (.prune [6, 7] .ret))))
  (.seq (.row [⟨(some 46), none, .ibin .eql .u8 (.tmp 28) (.const (.int .u8 1))⟩,
    ⟨(some 45), none, .mv (.tmp 46)⟩])
  (.prune [45, 28, 5, 0, 4, 6] (.cond (.tmp 45)
   (.seq (.row [⟨(some 48), none, .mv (.tmp 0)⟩,
     ⟨(some 49), none, .call 27 [(.tmp 48)]⟩,
     ⟨(some 47), none, .mv (.tmp 49)⟩,
     ⟨(some 50), none, .ext (.tmp 47) 0⟩,
     ⟨(some 51), none, .ext (.tmp 47) 1⟩,
     ⟨(some 10), none, .mv (.tmp 50)⟩,
     ⟨(some 11), none, .mv (.tmp 51)⟩])
   (.prune [10, 11, 4, 6] (.seq (.row [⟨(some 53), none, .ldn 3 (.tmp 4)⟩,
     ⟨(some 54), none, .fad 1 (.tmp 4)⟩,
     ⟨(some 55), none, .ld (.tmp 54)⟩,
     ⟨(some 56), none, .fad 0 (.tmp 4)⟩,
     ⟨(some 57), none, .ld (.tmp 56)⟩,
     ⟨(some 58), none, .lenA (.tmp 57)⟩,
     ⟨(some 59), none, .ibin .add .i64 (.tmp 55) (.tmp 58)⟩,
     ⟨(some 60), none, .ibin .sub .i64 (.tmp 59) (.const (.int .i64 1))⟩,
     ⟨(some 61), none, .call 55 [(.tmp 53), (.tmp 60)]⟩,
     ⟨(some 52), none, .mv (.tmp 61)⟩,
     ⟨(some 62), none, .ext (.tmp 52) 0⟩,
     ⟨(some 63), none, .ext (.tmp 52) 1⟩,
     ⟨(some 12), none, .mv (.tmp 62)⟩,
     ⟨(some 13), none, .mv (.tmp 63)⟩])
   (.prune [10, 12, 11, 4, 6] (.seq (.row [⟨(some 65), none, .ldn 3 (.tmp 4)⟩,
     ⟨(some 66), none, .fad 1 (.tmp 4)⟩,
     ⟨(some 67), none, .ld (.tmp 66)⟩,
     ⟨(some 68), none, .fad 0 (.tmp 4)⟩,
     ⟨(some 69), none, .ld (.tmp 68)⟩,
     ⟨(some 70), none, .lenA (.tmp 69)⟩,
     ⟨(some 71), none, .ibin .sub .i64 (.tmp 70) (.const (.int .i64 1))⟩,
     ⟨(some 72), none, .mm true .i64 (.const (.int .i64 0)) (.tmp 71)⟩,
     ⟨(some 73), none, .ibin .add .i64 (.tmp 67) (.tmp 72)⟩,
     ⟨(some 74), none, .call 56 [(.tmp 65), (.tmp 73)]⟩,
     ⟨(some 64), none, .mv (.tmp 74)⟩,
     ⟨(some 75), none, .ext (.tmp 64) 0⟩,
     ⟨(some 76), none, .ext (.tmp 64) 1⟩,
     ⟨(some 14), none, .new [(.slice none 0 0), (.int .i64 0), (.int .i64 0)] 37⟩,
     ⟨none, none, .stn 3 (.tmp 14) (.tmp 75)⟩,
     ⟨(some 15), none, .mv (.tmp 76)⟩])
   (.prune [14, 10, 12, 11, 4, 6] (.seq (.draw (.take 0 ⟨(some 77), none, .ldn 3 (.tmp 14)⟩ (.take 1 ⟨(some 78), none, .mv (.tmp 10)⟩ (.take 2 ⟨(some 79), none, .mv (.tmp 12)⟩ (.take 3 ⟨(some 80), none, .ibin .eql .i32 (.tmp 78) (.tmp 79)⟩ (.take 4 ⟨(some 81), none, .mv (.tmp 80)⟩ (.take 5 ⟨(some 82), (some (81, true)), .mv (.tmp 11)⟩ (.take 6 ⟨(some 83), (some (81, true)), .fad 0 (.tmp 4)⟩ (.take 7 ⟨(some 84), (some (81, true)), .ld (.tmp 83)⟩ (.take 8 ⟨(some 85), (some (81, true)), .lenA (.tmp 84)⟩ (.take 9 ⟨(some 86), (some (81, true)), .ibin .gtr .i64 (.tmp 85) (.const (.int .i64 0))⟩ (.take 10 ⟨(some 87), (some (81, true)), .bbin false (.tmp 82) (.tmp 86)⟩ (.take 11 ⟨(some 88), none, .pick (.tmp 81) (.tmp 87) (.const (.bool false))⟩ (.step 12 true ⟨none, none, .stn 3 (.tmp 6) (.tmp 77)⟩ (.take 13 ⟨(some 7), none, .mv (.tmp 88)⟩ .done)))))))))))))))
   (.prune [6, 7] .ret))))))))
   (.seq (.row [⟨(some 90), none, .ibin .eql .u8 (.tmp 28) (.const (.int .u8 2))⟩,
     ⟨(some 89), none, .mv (.tmp 90)⟩])
   (.prune [89, 5, 28, 0, 4, 6] (.cond (.tmp 89)
    (.seq (.row [⟨(some 92), none, .mv (.tmp 0)⟩,
      ⟨(some 93), none, .call 28 [(.tmp 92)]⟩,
      ⟨(some 91), none, .mv (.tmp 93)⟩,
      ⟨(some 94), none, .ext (.tmp 91) 0⟩,
      ⟨(some 95), none, .ext (.tmp 91) 1⟩,
      ⟨(some 16), none, .mv (.tmp 94)⟩,
      ⟨(some 17), none, .mv (.tmp 95)⟩])
    (.prune [4, 16, 17, 6] (.seq (.row [⟨(some 97), none, .ldn 3 (.tmp 4)⟩,
      ⟨(some 98), none, .call 57 [(.tmp 97)]⟩,
      ⟨(some 96), none, .mv (.tmp 98)⟩,
      ⟨(some 99), none, .ext (.tmp 96) 0⟩,
      ⟨(some 100), none, .ext (.tmp 96) 1⟩,
      ⟨(some 101), none, .ext (.tmp 96) 2⟩,
      ⟨(some 18), none, .new [(.slice none 0 0), (.int .i64 0), (.int .i64 0)] 37⟩,
      ⟨none, none, .stn 3 (.tmp 18) (.tmp 99)⟩,
      ⟨(some 19), none, .mv (.tmp 100)⟩,
      ⟨(some 20), none, .mv (.tmp 101)⟩])
    (.prune [18, 16, 19, 17, 20, 6] (.seq (.row [⟨(some 102), none, .ldn 3 (.tmp 18)⟩,
      ⟨(some 103), none, .mv (.tmp 16)⟩,
      ⟨(some 104), none, .mv (.tmp 19)⟩,
      ⟨(some 105), none, .ibin .eql .i32 (.tmp 103) (.tmp 104)⟩,
      ⟨(some 106), none, .mv (.tmp 105)⟩,
      ⟨(some 107), (some (106, true)), .mv (.tmp 17)⟩,
      ⟨(some 108), (some (106, true)), .mv (.tmp 20)⟩,
      ⟨(some 109), (some (106, true)), .bbin false (.tmp 107) (.tmp 108)⟩,
      ⟨(some 110), none, .pick (.tmp 106) (.tmp 109) (.const (.bool false))⟩,
      ⟨none, none, .stn 3 (.tmp 6) (.tmp 102)⟩,
      ⟨(some 7), none, .mv (.tmp 110)⟩])
    (.prune [6, 7] .ret))))))
    (.seq (.row [⟨(some 112), none, .ibin .eql .u8 (.tmp 28) (.const (.int .u8 3))⟩,
      ⟨(some 111), none, .mv (.tmp 112)⟩])
    (.prune [111, 28, 0, 5, 4, 6] (.cond (.tmp 111)
     (.seq (.row [⟨(some 114), none, .mv (.tmp 0)⟩,
       ⟨(some 115), none, .fad 2 (.tmp 5)⟩,
       ⟨(some 116), none, .ld (.tmp 115)⟩,
       ⟨(some 117), none, .call 29 [(.tmp 114), (.tmp 116)]⟩,
       ⟨(some 113), none, .mv (.tmp 117)⟩,
       ⟨(some 118), none, .ext (.tmp 113) 0⟩,
       ⟨(some 119), none, .ext (.tmp 113) 1⟩,
       ⟨(some 21), none, .mv (.tmp 118)⟩,
       ⟨(some 22), none, .mv (.tmp 119)⟩])
     (.prune [5, 4, 21, 22, 6] (.seq (.row [⟨(some 121), none, .ldn 3 (.tmp 4)⟩,
       ⟨(some 122), none, .fad 2 (.tmp 5)⟩,
       ⟨(some 123), none, .ld (.tmp 122)⟩,
       ⟨(some 124), none, .call 55 [(.tmp 121), (.tmp 123)]⟩,
       ⟨(some 120), none, .mv (.tmp 124)⟩,
       ⟨(some 125), none, .ext (.tmp 120) 0⟩,
       ⟨(some 126), none, .ext (.tmp 120) 1⟩,
       ⟨(some 23), none, .mv (.tmp 125)⟩,
       ⟨(some 24), none, .mv (.tmp 126)⟩])
     (.prune [4, 21, 23, 22, 24, 6] (.seq (.row [⟨(some 127), none, .ldn 3 (.tmp 4)⟩,
       ⟨(some 128), none, .mv (.tmp 21)⟩,
       ⟨(some 129), none, .mv (.tmp 23)⟩,
       ⟨(some 130), none, .ibin .eql .i32 (.tmp 128) (.tmp 129)⟩,
       ⟨(some 131), none, .mv (.tmp 130)⟩,
       ⟨(some 132), (some (131, true)), .mv (.tmp 22)⟩,
       ⟨(some 133), (some (131, true)), .mv (.tmp 24)⟩,
       ⟨(some 134), (some (131, true)), .bbin false (.tmp 132) (.tmp 133)⟩,
       ⟨(some 135), none, .pick (.tmp 131) (.tmp 134) (.const (.bool false))⟩,
       ⟨none, none, .stn 3 (.tmp 6) (.tmp 127)⟩,
       ⟨(some 7), none, .mv (.tmp 135)⟩])
     (.prune [6, 7] .ret))))))
     (.seq (.row [⟨(some 137), none, .ibin .eql .u8 (.tmp 28) (.const (.int .u8 4))⟩,
       ⟨(some 136), none, .mv (.tmp 137)⟩])
     (.prune [136, 4, 0, 5, 6] (.cond (.tmp 136)
      (.seq (.row [⟨(some 139), none, .ldn 3 (.tmp 4)⟩,
        ⟨(some 140), none, .fad 2 (.tmp 5)⟩,
        ⟨(some 141), none, .ld (.tmp 140)⟩,
        ⟨(some 142), none, .call 56 [(.tmp 139), (.tmp 141)]⟩,
        ⟨(some 138), none, .mv (.tmp 142)⟩,
        ⟨(some 143), none, .ext (.tmp 138) 0⟩,
        ⟨(some 144), none, .ext (.tmp 138) 1⟩,
        ⟨(some 25), none, .new [(.slice none 0 0), (.int .i64 0), (.int .i64 0)] 37⟩,
        ⟨none, none, .stn 3 (.tmp 25) (.tmp 143)⟩,
        ⟨(some 26), none, .mv (.tmp 144)⟩])
      (.prune [25, 0, 5, 26, 6] (.seq (.draw (.take 0 ⟨(some 145), none, .ldn 3 (.tmp 25)⟩ (.take 1 ⟨(some 146), none, .mv (.tmp 0)⟩ (.take 2 ⟨(some 147), none, .fad 2 (.tmp 5)⟩ (.take 3 ⟨(some 148), none, .ld (.tmp 147)⟩ (.take 5 ⟨(some 150), none, .mv (.tmp 26)⟩ (.step 4 true ⟨(some 149), none, .call 31 [(.tmp 146), (.tmp 148)]⟩ (.take 6 ⟨(some 151), none, .bbin false (.tmp 149) (.tmp 150)⟩ (.step 7 true ⟨none, none, .stn 3 (.tmp 6) (.tmp 145)⟩ (.take 8 ⟨(some 7), none, .mv (.tmp 151)⟩ .done))))))))))
      (.prune [6, 7] .ret))))
      .skip))))))))))))))))))
 (.prune [0, 4, 6] (.seq (.draw (.take 0 ⟨(some 152), none, .ldn 3 (.tmp 4)⟩ (.take 1 ⟨(some 153), none, .mv (.tmp 0)⟩ (.take 3 ⟨(some 155), none, .fad 0 (.tmp 4)⟩ (.take 4 ⟨(some 156), none, .ld (.tmp 155)⟩ (.step 2 true ⟨(some 154), none, .call 21 [(.tmp 153)]⟩ (.step 5 true ⟨(some 157), none, .call 22 [(.tmp 154), (.tmp 156)]⟩ (.step 6 true ⟨none, none, .stn 3 (.tmp 6) (.tmp 152)⟩ (.take 7 ⟨(some 7), none, .mv (.tmp 157)⟩ .done)))))))))
 (.prune [6, 7] .ret))))))
theorem ok20 : fits Try.prog 20 ⟨s20, 158, [.cell 6 (some 3), .tmp 7]⟩ = some ⟨s20, 158, [.cell 6 (some 3), .tmp 7]⟩ := by kernel_rfl
theorem go20 {args : List Value} {w : World} {R : Value → World → Prop} (hle : Nat.ble args.length 158 = true) (h : vc Try.prog 158 s20 (argEnv args 0) w (fun L w => resL L w [.cell 6 (some 3), .tmp 7] fun vs => oneOr vs fun v => R v w) (fun _ _ _ => False) (fun L w => resL L w [.cell 6 (some 3), .tmp 7] fun vs => oneOr vs fun v => R v w)) : Cal Try.prog 20 ⟨args⟩ w R := cal_of mo ok20 hle h

-- (*footbridge/ring.Ring[int32]).All
def s21 : S := (.seq (.row [⟨(some 2), none, .mv (.const (.slice none 0 0))⟩])
 (.prune [0] (.seq (.row [⟨(some 3), none, .mv (.const (.slice none 0 0))⟩])
 (.prune [0, 3] (.seq (.seq (.row [⟨(some 5), none, .mv (.tmp 0)⟩,
   ⟨(some 6), none, .call 24 [(.tmp 5)]⟩,
   ⟨(some 7), none, .mv (.const (.int .i64 0))⟩])
 (.prune [7, 0, 3, 6] (.block 0 (.loop [3, 7] [3, 4, 7, 8, 9, 10, 11, 12, 13, 14, 15, 16, 17, 18, 19, 20, 21, 22] (.seq (.row [⟨(some 8), none, .ibin .lss .i64 (.tmp 7) (.tmp 6)⟩])
  (.prune [8, 3, 7, 0, 6] (.seq (.cond (.tmp 8)
   .skip
   (.exit 0))
  (.prune [3, 7, 0, 6] (.seq (.block 1 (.seq (.row [⟨(some 9), none, .mv (.tmp 7)⟩,
    ⟨(some 4), none, .mv (.tmp 9)⟩])
  (.prune [3, 4, 7, 0, 6] (.draw (.take 0 ⟨(some 10), none, .mv (.tmp 3)⟩ (.take 1 ⟨(some 11), none, .mv (.tmp 0)⟩ (.take 2 ⟨(some 12), none, .nck (.tmp 11)⟩ (.take 3 ⟨(some 13), none, .fad 0 (.tmp 12)⟩ (.take 4 ⟨(some 14), none, .ld (.tmp 13)⟩ (.take 5 ⟨(some 15), none, .mv (.tmp 0)⟩ (.take 6 ⟨(some 16), none, .mv (.tmp 4)⟩ (.step 7 true ⟨(some 17), none, .call 58 [(.tmp 15), (.tmp 16)]⟩ (.take 8 ⟨(some 18), none, .ixA 1 (.tmp 14) (.tmp 17)⟩ (.take 9 ⟨(some 19), none, .ld (.tmp 18)⟩ (.step 10 true ⟨(some 20), none, .bsl 21 1 [(.int .i32 0)] [(0, 1)] [(.tmp 19)]⟩ (.step 11 true ⟨(some 21), none, .run (.bi .append ⟨[35, 35]⟩ 35) [(.tmp 10), (.tmp 20)]⟩ (.take 12 ⟨(some 3), none, .mv (.tmp 21)⟩ .done)))))))))))))))))
  (.prune [7, 0, 3, 6] (.row [⟨(some 22), none, .ibin .add .i64 (.tmp 7) (.const (.int .i64 1))⟩,
    ⟨(some 7), none, .mv (.tmp 22)⟩])))))))))))
 (.prune [3] (.seq (.row [⟨(some 23), none, .mv (.tmp 3)⟩,
   ⟨(some 2), none, .mv (.tmp 23)⟩])
 (.prune [2] .ret))))))))
theorem ok21 : fits Try.prog 21 ⟨s21, 24, [.tmp 2]⟩ = some ⟨s21, 24, [.tmp 2]⟩ := by kernel_rfl
theorem go21 {args : List Value} {w : World} {R : Value → World → Prop} (hle : Nat.ble args.length 24 = true) (h : vc Try.prog 24 s21 (argEnv args 0) w (fun L w => resL L w [.tmp 2] fun vs => oneOr vs fun v => R v w) (fun _ _ _ => False) (fun L w => resL L w [.tmp 2] fun vs => oneOr vs fun v => R v w)) : Cal Try.prog 21 ⟨args⟩ w R := cal_of mo ok21 hle h

-- footbridge/footbridgelaw05.same
def s22 : S := (.seq (.row [⟨(some 4), none, .mv (.const (.bool false))⟩])
 (.prune [0, 1] (.seq (.seq (.row [⟨(some 6), none, .mv (.tmp 0)⟩,
   ⟨(some 7), none, .lenA (.tmp 6)⟩,
   ⟨(some 8), none, .mv (.tmp 1)⟩,
   ⟨(some 9), none, .lenA (.tmp 8)⟩,
   ⟨(some 10), none, .ibin .neq .i64 (.tmp 7) (.tmp 9)⟩])
 (.prune [10, 0, 1] (.cond (.tmp 10)
  (.seq (.row [⟨(some 4), none, .mv (.const (.bool false))⟩])
  (.prune [4] .ret))
  .skip)))
 (.prune [1, 0] (.seq (.seq (.row [⟨(some 11), none, .mv (.tmp 0)⟩,
   ⟨(some 12), none, .lenA (.tmp 11)⟩,
   ⟨(some 13), none, .mv (.const (.int .i64 0))⟩])
 (.prune [13, 1, 0, 12] (.block 0 (.loop [13] [4, 5, 13, 14, 15, 16, 17, 18, 19, 20, 21, 22, 23, 24, 25] (.seq (.row [⟨(some 14), none, .ibin .lss .i64 (.tmp 13) (.tmp 12)⟩])
  (.prune [14, 12, 0, 1, 13] (.seq (.cond (.tmp 14)
   .skip
   (.exit 0))
  (.prune [12, 0, 1, 13] (.seq (.block 1 (.seq (.row [⟨(some 15), none, .mv (.tmp 13)⟩,
    ⟨(some 5), none, .mv (.tmp 15)⟩])
  (.prune [5, 12, 0, 1, 13] (.seq (.draw (.take 0 ⟨(some 16), none, .mv (.tmp 0)⟩ (.take 1 ⟨(some 17), none, .mv (.tmp 5)⟩ (.take 2 ⟨(some 18), none, .ixA 1 (.tmp 16) (.tmp 17)⟩ (.take 3 ⟨(some 19), none, .ld (.tmp 18)⟩ (.take 4 ⟨(some 20), none, .mv (.tmp 1)⟩ (.take 5 ⟨(some 21), none, .mv (.tmp 5)⟩ (.take 6 ⟨(some 22), none, .ixA 1 (.tmp 20) (.tmp 21)⟩ (.take 7 ⟨(some 23), none, .ld (.tmp 22)⟩ (.take 8 ⟨(some 24), none, .ibin .neq .i32 (.tmp 19) (.tmp 23)⟩ .done))))))))))
  (.prune [24, 12, 0, 1, 13] (.cond (.tmp 24)
   (.seq (.row [⟨(some 4), none, .mv (.const (.bool false))⟩])
   (.prune [4] .ret))
   .skip))))))
  (.prune [13, 1, 0, 12] (.row [⟨(some 25), none, .ibin .add .i64 (.tmp 13) (.const (.int .i64 1))⟩,
    ⟨(some 13), none, .mv (.tmp 25)⟩])))))))))))
 (.prune [] (.seq (.row [⟨(some 4), none, .mv (.const (.bool true))⟩])
 (.prune [4] .ret))))))))
theorem ok22 : fits Try.prog 22 ⟨s22, 26, [.tmp 4]⟩ = some ⟨s22, 26, [.tmp 4]⟩ := by kernel_rfl
theorem go22 {args : List Value} {w : World} {R : Value → World → Prop} (hle : Nat.ble args.length 26 = true) (h : vc Try.prog 26 s22 (argEnv args 0) w (fun L w => resL L w [.tmp 4] fun vs => oneOr vs fun v => R v w) (fun _ _ _ => False) (fun L w => resL L w [.tmp 4] fun vs => oneOr vs fun v => R v w)) : Cal Try.prog 22 ⟨args⟩ w R := cal_of mo ok22 hle h

-- (*footbridge/ring.Ring[int32]).Room
def s23 : S := (.seq (.row [⟨(some 2), none, .mv (.const (.int .i64 0))⟩])
 (.prune [0] (.seq (.seq (.row [⟨(some 3), none, .mv (.tmp 0)⟩,
   ⟨(some 4), none, .isnil 0 false (.tmp 3)⟩])
 (.prune [4, 0] (.cond (.tmp 4)
  (.seq (.row [⟨(some 2), none, .mv (.const (.int .i64 0))⟩])
  (.prune [2] .ret))
  .skip)))
 (.prune [0] (.seq (.row [⟨(some 5), none, .mv (.tmp 0)⟩,
   ⟨(some 6), none, .nck (.tmp 5)⟩,
   ⟨(some 7), none, .fad 4 (.tmp 6)⟩,
   ⟨(some 8), none, .ld (.tmp 7)⟩,
   ⟨(some 2), none, .mv (.tmp 8)⟩])
 (.prune [2] .ret))))))
theorem ok23 : fits Try.prog 23 ⟨s23, 9, [.tmp 2]⟩ = some ⟨s23, 9, [.tmp 2]⟩ := by kernel_rfl
theorem go23 {args : List Value} {w : World} {R : Value → World → Prop} (hle : Nat.ble args.length 9 = true) (h : vc Try.prog 9 s23 (argEnv args 0) w (fun L w => resL L w [.tmp 2] fun vs => oneOr vs fun v => R v w) (fun _ _ _ => False) (fun L w => resL L w [.tmp 2] fun vs => oneOr vs fun v => R v w)) : Cal Try.prog 23 ⟨args⟩ w R := cal_of mo ok23 hle h

-- (*footbridge/ring.Ring[int32]).Len
def s24 : S := (.seq (.row [⟨(some 2), none, .mv (.const (.int .i64 0))⟩])
 (.prune [0] (.seq (.seq (.row [⟨(some 3), none, .mv (.tmp 0)⟩,
   ⟨(some 4), none, .isnil 0 false (.tmp 3)⟩])
 (.prune [4, 0] (.cond (.tmp 4)
  (.seq (.row [⟨(some 2), none, .mv (.const (.int .i64 0))⟩])
  (.prune [2] .ret))
  .skip)))
 (.prune [0] (.seq (.row [⟨(some 5), none, .mv (.tmp 0)⟩,
   ⟨(some 6), none, .nck (.tmp 5)⟩,
   ⟨(some 7), none, .fad 2 (.tmp 6)⟩,
   ⟨(some 8), none, .ld (.tmp 7)⟩,
   ⟨(some 2), none, .mv (.tmp 8)⟩])
 (.prune [2] .ret))))))
theorem ok24 : fits Try.prog 24 ⟨s24, 9, [.tmp 2]⟩ = some ⟨s24, 9, [.tmp 2]⟩ := by kernel_rfl
theorem go24 {args : List Value} {w : World} {R : Value → World → Prop} (hle : Nat.ble args.length 9 = true) (h : vc Try.prog 9 s24 (argEnv args 0) w (fun L w => resL L w [.tmp 2] fun vs => oneOr vs fun v => R v w) (fun _ _ _ => False) (fun L w => resL L w [.tmp 2] fun vs => oneOr vs fun v => R v w)) : Cal Try.prog 24 ⟨args⟩ w R := cal_of mo ok24 hle h

-- (*footbridge/ring.Ring[int32]).From
def s25 : S := (.seq (.row [⟨(some 2), none, .mv (.const (.int .i64 0))⟩])
 (.prune [0] (.seq (.seq (.row [⟨(some 3), none, .mv (.tmp 0)⟩,
   ⟨(some 4), none, .isnil 0 false (.tmp 3)⟩])
 (.prune [4, 0] (.cond (.tmp 4)
  (.seq (.row [⟨(some 2), none, .mv (.const (.int .i64 0))⟩])
  (.prune [2] .ret))
  .skip)))
 (.prune [0] (.seq (.row [⟨(some 5), none, .mv (.tmp 0)⟩,
   ⟨(some 6), none, .nck (.tmp 5)⟩,
   ⟨(some 7), none, .fad 3 (.tmp 6)⟩,
   ⟨(some 8), none, .ld (.tmp 7)⟩,
   ⟨(some 2), none, .mv (.tmp 8)⟩])
 (.prune [2] .ret))))))
theorem ok25 : fits Try.prog 25 ⟨s25, 9, [.tmp 2]⟩ = some ⟨s25, 9, [.tmp 2]⟩ := by kernel_rfl
theorem go25 {args : List Value} {w : World} {R : Value → World → Prop} (hle : Nat.ble args.length 9 = true) (h : vc Try.prog 9 s25 (argEnv args 0) w (fun L w => resL L w [.tmp 2] fun vs => oneOr vs fun v => R v w) (fun _ _ _ => False) (fun L w => resL L w [.tmp 2] fun vs => oneOr vs fun v => R v w)) : Cal Try.prog 25 ⟨args⟩ w R := cal_of mo ok25 hle h

-- (*footbridge/ring.Ring[int32]).Copy
def s26 : S := (.seq (.row [⟨(some 2), none, .mv (.const (.pointer none))⟩])
 (.prune [0] (.seq (.seq (.row [⟨(some 4), none, .mv (.tmp 0)⟩,
   ⟨(some 5), none, .isnil 0 false (.tmp 4)⟩])
 (.prune [5, 0] (.cond (.tmp 5)
  (.seq (.row [⟨(some 2), none, .mv (.const (.pointer none))⟩])
  (.prune [2] .ret))
  .skip)))
 (.prune [0] (.seq (.row [⟨(some 6), none, .mv (.tmp 0)⟩,
   ⟨(some 7), none, .nck (.tmp 6)⟩,
   ⟨(some 8), none, .ldn 5 (.tmp 7)⟩,
   ⟨(some 3), none, .new [(.slice none 0 0), (.int .i64 0), (.int .i64 0), (.int .i64 0), (.int .i64 0)] 89⟩,
   ⟨none, none, .stn 5 (.tmp 3) (.tmp 8)⟩])
 (.prune [0, 3] (.seq (.row [⟨(some 9), none, .mv (.tmp 0)⟩,
   ⟨(some 10), none, .nck (.tmp 9)⟩,
   ⟨(some 11), none, .fad 0 (.tmp 10)⟩,
   ⟨(some 12), none, .ld (.tmp 11)⟩,
   ⟨(some 13), none, .call 59 [(.tmp 12)]⟩,
   ⟨(some 14), none, .fad 0 (.tmp 3)⟩,
   ⟨none, none, .st (.tmp 14) (.tmp 13)⟩])
 (.prune [3] (.seq (.row [⟨(some 2), none, .mv (.tmp 3)⟩])
 (.prune [2] .ret))))))))))
theorem ok26 : fits Try.prog 26 ⟨s26, 15, [.tmp 2]⟩ = some ⟨s26, 15, [.tmp 2]⟩ := by kernel_rfl
theorem go26 {args : List Value} {w : World} {R : Value → World → Prop} (hle : Nat.ble args.length 15 = true) (h : vc Try.prog 15 s26 (argEnv args 0) w (fun L w => resL L w [.tmp 2] fun vs => oneOr vs fun v => R v w) (fun _ _ _ => False) (fun L w => resL L w [.tmp 2] fun vs => oneOr vs fun v => R v w)) : Cal Try.prog 26 ⟨args⟩ w R := cal_of mo ok26 hle h

-- (*footbridge/ring.Ring[int32]).Pop
def s27 : S := (.seq (.row [⟨(some 2), none, .mv (.const (.int .i32 0))⟩,
   ⟨(some 3), none, .mv (.const (.bool false))⟩])
 (.prune [0] (.seq (.seq (.row [⟨(some 5), none, .mv (.tmp 0)⟩,
   ⟨(some 6), none, .call 24 [(.tmp 5)]⟩,
   ⟨(some 7), none, .ibin .eql .i64 (.tmp 6) (.const (.int .i64 0))⟩])
 (.prune [7, 0] (.cond (.tmp 7)
  (.seq (.row [⟨(some 4), none, .mv (.const (.int .i32 0))⟩])
  (.prune [4] (.seq (.row [⟨(some 8), none, .mv (.tmp 4)⟩,
    ⟨(some 2), none, .mv (.tmp 8)⟩,
    ⟨(some 3), none, .mv (.const (.bool false))⟩])
  (.prune [2, 3] .ret))))
  .skip)))
 (.prune [0] (.seq (.row [⟨(some 9), none, .mv (.tmp 0)⟩,
   ⟨(some 10), none, .nck (.tmp 9)⟩,
   ⟨(some 11), none, .fad 2 (.tmp 10)⟩,
   ⟨(some 12), none, .ld (.tmp 11)⟩,
   ⟨(some 13), none, .ibin .sub .i64 (.tmp 12) (.const (.int .i64 1))⟩,
   ⟨(some 14), none, .nck (.tmp 9)⟩,
   ⟨(some 15), none, .fad 2 (.tmp 14)⟩,
   ⟨none, none, .st (.tmp 15) (.tmp 13)⟩])
 (.prune [0] (.seq (.row [⟨(some 16), none, .mv (.tmp 0)⟩,
   ⟨(some 17), none, .mv (.tmp 0)⟩,
   ⟨(some 18), none, .nck (.tmp 17)⟩,
   ⟨(some 19), none, .fad 2 (.tmp 18)⟩,
   ⟨(some 20), none, .ld (.tmp 19)⟩,
   ⟨(some 21), none, .call 60 [(.tmp 16), (.tmp 20)]⟩,
   ⟨(some 2), none, .mv (.tmp 21)⟩,
   ⟨(some 3), none, .mv (.const (.bool true))⟩])
 (.prune [2, 3] .ret))))))))
theorem ok27 : fits Try.prog 27 ⟨s27, 22, [.tmp 2, .tmp 3]⟩ = some ⟨s27, 22, [.tmp 2, .tmp 3]⟩ := by kernel_rfl
theorem go27 {args : List Value} {w : World} {R : Value → World → Prop} (hle : Nat.ble args.length 22 = true) (h : vc Try.prog 22 s27 (argEnv args 0) w (fun L w => resL L w [.tmp 2, .tmp 3] fun vs => oneOr vs fun v => R v w) (fun _ _ _ => False) (fun L w => resL L w [.tmp 2, .tmp 3] fun vs => oneOr vs fun v => R v w)) : Cal Try.prog 27 ⟨args⟩ w R := cal_of mo ok27 hle h

-- (*footbridge/ring.Ring[int32]).Shift
def s28 : S := (.seq (.row [⟨(some 2), none, .mv (.const (.int .i32 0))⟩,
   ⟨(some 3), none, .mv (.const (.bool false))⟩])
 (.prune [0] (.seq (.seq (.row [⟨(some 6), none, .mv (.tmp 0)⟩,
   ⟨(some 7), none, .call 24 [(.tmp 6)]⟩,
   ⟨(some 8), none, .ibin .eql .i64 (.tmp 7) (.const (.int .i64 0))⟩])
 (.prune [8, 0] (.cond (.tmp 8)
  (.seq (.row [⟨(some 4), none, .mv (.const (.int .i32 0))⟩])
  (.prune [4] (.seq (.row [⟨(some 9), none, .mv (.tmp 4)⟩,
    ⟨(some 2), none, .mv (.tmp 9)⟩,
    ⟨(some 3), none, .mv (.const (.bool false))⟩])
  (.prune [2, 3] .ret))))
  .skip)))
 (.prune [0] (.seq (.row [⟨(some 10), none, .mv (.tmp 0)⟩,
   ⟨(some 11), none, .call 60 [(.tmp 10), (.const (.int .i64 0))]⟩,
   ⟨(some 5), none, .mv (.tmp 11)⟩])
 (.prune [0, 5] (.seq (.row [⟨(some 12), none, .mv (.tmp 0)⟩,
   ⟨(some 13), none, .mv (.tmp 0)⟩,
   ⟨(some 14), none, .call 58 [(.tmp 13), (.const (.int .i64 1))]⟩,
   ⟨(some 15), none, .nck (.tmp 12)⟩,
   ⟨(some 16), none, .fad 1 (.tmp 15)⟩,
   ⟨none, none, .st (.tmp 16) (.tmp 14)⟩])
 (.prune [0, 5] (.seq (.row [⟨(some 17), none, .mv (.tmp 0)⟩,
   ⟨(some 18), none, .nck (.tmp 17)⟩,
   ⟨(some 19), none, .fad 2 (.tmp 18)⟩,
   ⟨(some 20), none, .ld (.tmp 19)⟩,
   ⟨(some 21), none, .ibin .sub .i64 (.tmp 20) (.const (.int .i64 1))⟩,
   ⟨(some 22), none, .nck (.tmp 17)⟩,
   ⟨(some 23), none, .fad 2 (.tmp 22)⟩,
   ⟨none, none, .st (.tmp 23) (.tmp 21)⟩])
 (.prune [0, 5] (.seq (.row [⟨(some 24), none, .mv (.tmp 0)⟩,
   ⟨(some 25), none, .nck (.tmp 24)⟩,
   ⟨(some 26), none, .fad 3 (.tmp 25)⟩,
   ⟨(some 27), none, .ld (.tmp 26)⟩,
   ⟨(some 28), none, .ibin .add .i64 (.tmp 27) (.const (.int .i64 1))⟩,
   ⟨(some 29), none, .nck (.tmp 24)⟩,
   ⟨(some 30), none, .fad 3 (.tmp 29)⟩,
   ⟨none, none, .st (.tmp 30) (.tmp 28)⟩])
 (.prune [5] (.seq (.row [⟨(some 31), none, .mv (.tmp 5)⟩,
   ⟨(some 2), none, .mv (.tmp 31)⟩,
   ⟨(some 3), none, .mv (.const (.bool true))⟩])
 (.prune [2, 3] .ret))))))))))))))
theorem ok28 : fits Try.prog 28 ⟨s28, 32, [.tmp 2, .tmp 3]⟩ = some ⟨s28, 32, [.tmp 2, .tmp 3]⟩ := by kernel_rfl
theorem go28 {args : List Value} {w : World} {R : Value → World → Prop} (hle : Nat.ble args.length 32 = true) (h : vc Try.prog 32 s28 (argEnv args 0) w (fun L w => resL L w [.tmp 2, .tmp 3] fun vs => oneOr vs fun v => R v w) (fun _ _ _ => False) (fun L w => resL L w [.tmp 2, .tmp 3] fun vs => oneOr vs fun v => R v w)) : Cal Try.prog 28 ⟨args⟩ w R := cal_of mo ok28 hle h

-- (*footbridge/ring.Ring[int32]).At
def s29 : S := (.seq (.row [⟨(some 4), none, .mv (.const (.int .i32 0))⟩,
   ⟨(some 5), none, .mv (.const (.bool false))⟩])
 (.prune [0, 1] (.seq (.seq (.draw (.take 0 ⟨(some 7), none, .mv (.tmp 0)⟩ (.take 1 ⟨(some 8), none, .isnil 0 false (.tmp 7)⟩ (.take 2 ⟨(some 9), none, .mv (.tmp 8)⟩ (.take 3 ⟨(some 10), (some (9, false)), .mv (.tmp 1)⟩ (.take 4 ⟨(some 11), (some (9, false)), .mv (.tmp 0)⟩ (.take 5 ⟨(some 12), (some (9, false)), .nck (.tmp 11)⟩ (.take 6 ⟨(some 13), (some (9, false)), .fad 3 (.tmp 12)⟩ (.take 7 ⟨(some 14), (some (9, false)), .ld (.tmp 13)⟩ (.take 8 ⟨(some 15), (some (9, false)), .ibin .lss .i64 (.tmp 10) (.tmp 14)⟩ (.take 9 ⟨(some 16), none, .pick (.tmp 9) (.const (.bool true)) (.tmp 15)⟩ (.take 10 ⟨(some 17), none, .mv (.tmp 16)⟩ (.take 11 ⟨(some 18), (some (17, false)), .mv (.tmp 1)⟩ (.take 12 ⟨(some 19), (some (17, false)), .mv (.tmp 0)⟩ (.take 13 ⟨(some 20), (some (17, false)), .nck (.tmp 19)⟩ (.take 14 ⟨(some 21), (some (17, false)), .fad 3 (.tmp 20)⟩ (.take 15 ⟨(some 22), (some (17, false)), .ld (.tmp 21)⟩ (.take 16 ⟨(some 23), (some (17, false)), .ibin .sub .i64 (.tmp 18) (.tmp 22)⟩ (.take 17 ⟨(some 24), (some (17, false)), .mv (.tmp 0)⟩ (.take 18 ⟨(some 25), (some (17, false)), .nck (.tmp 24)⟩ (.take 19 ⟨(some 26), (some (17, false)), .fad 2 (.tmp 25)⟩ (.take 20 ⟨(some 27), (some (17, false)), .ld (.tmp 26)⟩ (.take 21 ⟨(some 28), (some (17, false)), .ibin .geq .i64 (.tmp 23) (.tmp 27)⟩ (.take 22 ⟨(some 29), none, .pick (.tmp 17) (.const (.bool true)) (.tmp 28)⟩ .done))))))))))))))))))))))))
 (.prune [29, 0, 1] (.cond (.tmp 29)
  (.seq (.row [⟨(some 6), none, .mv (.const (.int .i32 0))⟩])
  (.prune [6] (.seq (.row [⟨(some 30), none, .mv (.tmp 6)⟩,
    ⟨(some 4), none, .mv (.tmp 30)⟩,
    ⟨(some 5), none, .mv (.const (.bool false))⟩])
  (.prune [4, 5] .ret))))
  .skip)))
 (.prune [1, 0] (.seq (.draw (.take 0 ⟨(some 31), none, .mv (.tmp 0)⟩ (.take 1 ⟨(some 32), none, .nck (.tmp 31)⟩ (.take 2 ⟨(some 33), none, .fad 0 (.tmp 32)⟩ (.take 3 ⟨(some 34), none, .ld (.tmp 33)⟩ (.take 4 ⟨(some 35), none, .mv (.tmp 0)⟩ (.take 5 ⟨(some 36), none, .mv (.tmp 1)⟩ (.take 6 ⟨(some 37), none, .mv (.tmp 0)⟩ (.take 7 ⟨(some 38), none, .nck (.tmp 37)⟩ (.take 8 ⟨(some 39), none, .fad 3 (.tmp 38)⟩ (.take 9 ⟨(some 40), none, .ld (.tmp 39)⟩ (.take 10 ⟨(some 41), none, .ibin .sub .i64 (.tmp 36) (.tmp 40)⟩ (.step 11 true ⟨(some 42), none, .call 58 [(.tmp 35), (.tmp 41)]⟩ (.take 12 ⟨(some 43), none, .ixA 1 (.tmp 34) (.tmp 42)⟩ (.take 13 ⟨(some 44), none, .ld (.tmp 43)⟩ (.take 14 ⟨(some 4), none, .mv (.tmp 44)⟩ (.take 15 ⟨(some 5), none, .mv (.const (.bool true))⟩ .done)))))))))))))))))
 (.prune [4, 5] .ret))))))
theorem ok29 : fits Try.prog 29 ⟨s29, 45, [.tmp 4, .tmp 5]⟩ = some ⟨s29, 45, [.tmp 4, .tmp 5]⟩ := by kernel_rfl
theorem go29 {args : List Value} {w : World} {R : Value → World → Prop} (hle : Nat.ble args.length 45 = true) (h : vc Try.prog 45 s29 (argEnv args 0) w (fun L w => resL L w [.tmp 4, .tmp 5] fun vs => oneOr vs fun v => R v w) (fun _ _ _ => False) (fun L w => resL L w [.tmp 4, .tmp 5] fun vs => oneOr vs fun v => R v w)) : Cal Try.prog 29 ⟨args⟩ w R := cal_of mo ok29 hle h

-- (*footbridge/ring.Ring[int32]).Push
def s30 : S := (.seq (.row [⟨(some 4), none, .mv (.const (.bool false))⟩])
 (.prune [0, 1] (.seq (.seq (.draw (.take 0 ⟨(some 5), none, .mv (.tmp 0)⟩ (.take 1 ⟨(some 6), none, .isnil 0 false (.tmp 5)⟩ (.take 2 ⟨(some 7), none, .mv (.tmp 6)⟩ (.take 3 ⟨(some 8), (some (7, false)), .mv (.tmp 0)⟩ (.take 4 ⟨(some 9), (some (7, false)), .nck (.tmp 8)⟩ (.take 5 ⟨(some 10), (some (7, false)), .fad 2 (.tmp 9)⟩ (.take 6 ⟨(some 11), (some (7, false)), .ld (.tmp 10)⟩ (.take 7 ⟨(some 12), (some (7, false)), .mv (.tmp 0)⟩ (.take 8 ⟨(some 13), (some (7, false)), .nck (.tmp 12)⟩ (.take 9 ⟨(some 14), (some (7, false)), .fad 4 (.tmp 13)⟩ (.take 10 ⟨(some 15), (some (7, false)), .ld (.tmp 14)⟩ (.take 11 ⟨(some 16), (some (7, false)), .ibin .eql .i64 (.tmp 11) (.tmp 15)⟩ (.take 12 ⟨(some 17), none, .pick (.tmp 7) (.const (.bool true)) (.tmp 16)⟩ .done))))))))))))))
 (.prune [17, 0, 1] (.cond (.tmp 17)
  (.seq (.row [⟨(some 4), none, .mv (.const (.bool false))⟩])
  (.prune [4] .ret))
  .skip)))
 (.prune [1, 0] (.seq (.seq (.draw (.take 0 ⟨(some 18), none, .mv (.tmp 0)⟩ (.take 1 ⟨(some 19), none, .nck (.tmp 18)⟩ (.take 2 ⟨(some 20), none, .fad 2 (.tmp 19)⟩ (.take 3 ⟨(some 21), none, .ld (.tmp 20)⟩ (.take 4 ⟨(some 22), none, .mv (.tmp 0)⟩ (.take 5 ⟨(some 23), none, .nck (.tmp 22)⟩ (.take 6 ⟨(some 24), none, .fad 0 (.tmp 23)⟩ (.take 7 ⟨(some 25), none, .ld (.tmp 24)⟩ (.take 8 ⟨(some 26), none, .lenA (.tmp 25)⟩ (.take 9 ⟨(some 27), none, .ibin .eql .i64 (.tmp 21) (.tmp 26)⟩ .done)))))))))))
 (.prune [27, 1, 0] (.cond (.tmp 27)
  (.row [⟨(some 28), none, .mv (.tmp 0)⟩,
    ⟨(some 29), none, .call 61 [(.tmp 28)]⟩])
  .skip)))
 (.prune [1, 0] (.seq (.draw (.take 0 ⟨(some 30), none, .mv (.tmp 0)⟩ (.take 1 ⟨(some 31), none, .nck (.tmp 30)⟩ (.take 2 ⟨(some 32), none, .fad 0 (.tmp 31)⟩ (.take 3 ⟨(some 33), none, .ld (.tmp 32)⟩ (.take 4 ⟨(some 34), none, .mv (.tmp 0)⟩ (.take 5 ⟨(some 35), none, .mv (.tmp 0)⟩ (.take 6 ⟨(some 36), none, .nck (.tmp 35)⟩ (.take 7 ⟨(some 37), none, .fad 2 (.tmp 36)⟩ (.take 8 ⟨(some 38), none, .ld (.tmp 37)⟩ (.take 10 ⟨(some 40), none, .mv (.tmp 1)⟩ (.step 9 true ⟨(some 39), none, .call 58 [(.tmp 34), (.tmp 38)]⟩ (.take 11 ⟨(some 41), none, .ixA 1 (.tmp 33) (.tmp 39)⟩ (.step 12 false ⟨none, none, .st (.tmp 41) (.tmp 40)⟩ .done))))))))))))))
 (.prune [0] (.seq (.row [⟨(some 42), none, .mv (.tmp 0)⟩,
   ⟨(some 43), none, .nck (.tmp 42)⟩,
   ⟨(some 44), none, .fad 2 (.tmp 43)⟩,
   ⟨(some 45), none, .ld (.tmp 44)⟩,
   ⟨(some 46), none, .ibin .add .i64 (.tmp 45) (.const (.int .i64 1))⟩,
   ⟨(some 47), none, .nck (.tmp 42)⟩,
   ⟨(some 48), none, .fad 2 (.tmp 47)⟩,
   ⟨none, none, .st (.tmp 48) (.tmp 46)⟩])
 (.prune [] (.seq (.row [⟨(some 4), none, .mv (.const (.bool true))⟩])
 (.prune [4] .ret))))))))))))
theorem ok30 : fits Try.prog 30 ⟨s30, 49, [.tmp 4]⟩ = some ⟨s30, 49, [.tmp 4]⟩ := by kernel_rfl
theorem go30 {args : List Value} {w : World} {R : Value → World → Prop} (hle : Nat.ble args.length 49 = true) (h : vc Try.prog 49 s30 (argEnv args 0) w (fun L w => resL L w [.tmp 4] fun vs => oneOr vs fun v => R v w) (fun _ _ _ => False) (fun L w => resL L w [.tmp 4] fun vs => oneOr vs fun v => R v w)) : Cal Try.prog 30 ⟨args⟩ w R := cal_of mo ok30 hle h

-- (*footbridge/ring.Ring[int32]).Cut
def s31 : S := (.seq (.row [⟨(some 4), none, .mv (.const (.bool false))⟩])
 (.prune [1, 0] (.seq (.seq (.draw (.take 0 ⟨(some 5), none, .mv (.tmp 0)⟩ (.take 1 ⟨(some 6), none, .isnil 0 false (.tmp 5)⟩ (.take 2 ⟨(some 7), none, .mv (.tmp 6)⟩ (.take 3 ⟨(some 8), (some (7, false)), .mv (.tmp 1)⟩ (.take 4 ⟨(some 9), (some (7, false)), .mv (.tmp 0)⟩ (.take 5 ⟨(some 10), (some (7, false)), .nck (.tmp 9)⟩ (.take 6 ⟨(some 11), (some (7, false)), .fad 3 (.tmp 10)⟩ (.take 7 ⟨(some 12), (some (7, false)), .ld (.tmp 11)⟩ (.take 8 ⟨(some 13), (some (7, false)), .ibin .lss .i64 (.tmp 8) (.tmp 12)⟩ (.take 9 ⟨(some 14), none, .pick (.tmp 7) (.const (.bool true)) (.tmp 13)⟩ (.take 10 ⟨(some 15), none, .mv (.tmp 14)⟩ (.take 11 ⟨(some 16), (some (15, false)), .mv (.tmp 1)⟩ (.take 12 ⟨(some 17), (some (15, false)), .mv (.tmp 0)⟩ (.take 13 ⟨(some 18), (some (15, false)), .nck (.tmp 17)⟩ (.take 14 ⟨(some 19), (some (15, false)), .fad 3 (.tmp 18)⟩ (.take 15 ⟨(some 20), (some (15, false)), .ld (.tmp 19)⟩ (.take 16 ⟨(some 21), (some (15, false)), .ibin .sub .i64 (.tmp 16) (.tmp 20)⟩ (.take 17 ⟨(some 22), (some (15, false)), .mv (.tmp 0)⟩ (.take 18 ⟨(some 23), (some (15, false)), .nck (.tmp 22)⟩ (.take 19 ⟨(some 24), (some (15, false)), .fad 2 (.tmp 23)⟩ (.take 20 ⟨(some 25), (some (15, false)), .ld (.tmp 24)⟩ (.take 21 ⟨(some 26), (some (15, false)), .ibin .gtr .i64 (.tmp 21) (.tmp 25)⟩ (.take 22 ⟨(some 27), none, .pick (.tmp 15) (.const (.bool true)) (.tmp 26)⟩ .done))))))))))))))))))))))))
 (.prune [27, 1, 0] (.cond (.tmp 27)
  (.seq (.row [⟨(some 4), none, .mv (.const (.bool false))⟩])
  (.prune [4] .ret))
  .skip)))
 (.prune [0, 1] (.seq (.block 0 (.loop [] [28, 29, 30, 31, 32, 33, 34, 35, 36, 37, 38, 39, 40] (.seq (.seq (.draw (.take 0 ⟨(some 28), none, .mv (.tmp 0)⟩ (.take 1 ⟨(some 29), none, .nck (.tmp 28)⟩ (.take 2 ⟨(some 30), none, .fad 2 (.tmp 29)⟩ (.take 3 ⟨(some 31), none, .ld (.tmp 30)⟩ (.take 4 ⟨(some 32), none, .mv (.tmp 1)⟩ (.take 5 ⟨(some 33), none, .mv (.tmp 0)⟩ (.take 6 ⟨(some 34), none, .nck (.tmp 33)⟩ (.take 7 ⟨(some 35), none, .fad 3 (.tmp 34)⟩ (.take 8 ⟨(some 36), none, .ld (.tmp 35)⟩ (.take 9 ⟨(some 37), none, .ibin .sub .i64 (.tmp 32) (.tmp 36)⟩ (.take 10 ⟨(some 38), none, .ibin .gtr .i64 (.tmp 31) (.tmp 37)⟩ .done))))))))))))
  (.prune [38, 0, 1] (.cond (.tmp 38)
   .skip
   (.exit 0))))
  (.prune [0, 1] (.block 1 (.row [⟨(some 39), none, .mv (.tmp 0)⟩,
    ⟨(some 40), none, .call 27 [(.tmp 39)]⟩]))))))
 (.prune [] (.seq (.row [⟨(some 4), none, .mv (.const (.bool true))⟩])
 (.prune [4] .ret))))))))
theorem ok31 : fits Try.prog 31 ⟨s31, 41, [.tmp 4]⟩ = some ⟨s31, 41, [.tmp 4]⟩ := by kernel_rfl
theorem go31 {args : List Value} {w : World} {R : Value → World → Prop} (hle : Nat.ble args.length 41 = true) (h : vc Try.prog 41 s31 (argEnv args 0) w (fun L w => resL L w [.tmp 4] fun vs => oneOr vs fun v => R v w) (fun _ _ _ => False) (fun L w => resL L w [.tmp 4] fun vs => oneOr vs fun v => R v w)) : Cal Try.prog 31 ⟨args⟩ w R := cal_of mo ok31 hle h

-- footbridge/footbridgelaw21.fixed
def s32 : S := (.seq (.row [⟨(some 0), none, .mv (.const (.bool false))⟩])
 (.prune [] (.seq (.row [⟨(some 11), none, .call 33 [(.const (.int .i64 1))]⟩,
   ⟨(some 1), none, .mv (.tmp 11)⟩])
 (.prune [1] (.seq (.seq (.row [⟨(some 12), none, .bsl 3 3 [(.int .i64 0), (.int .i64 0), (.int .i64 0)] [(0, 1), (1, 1), (2, 1)] [(.const (.int .i64 2)), (.const (.int .i64 3)), (.const (.int .i64 1))]⟩,
   ⟨(some 13), none, .lenA (.tmp 12)⟩,
   ⟨(some 14), none, .mv (.const (.int .i64 0))⟩])
 (.prune [14, 1, 12, 13] (.block 0 (.loop [14] [0, 2, 3, 14, 15, 16, 17, 18, 19, 20, 21, 22, 23, 24] (.seq (.row [⟨(some 15), none, .ibin .lss .i64 (.tmp 14) (.tmp 13)⟩])
  (.prune [15, 13, 12, 1, 14] (.seq (.cond (.tmp 15)
   .skip
   (.exit 0))
  (.prune [13, 12, 1, 14] (.seq (.block 1 (.seq (.row [⟨(some 16), none, .mv (.tmp 14)⟩,
    ⟨(some 17), none, .ixA 1 (.tmp 12) (.tmp 14)⟩,
    ⟨(some 18), none, .ld (.tmp 17)⟩,
    ⟨(some 2), none, .mv (.tmp 16)⟩,
    ⟨(some 3), none, .mv (.tmp 18)⟩])
  (.prune [2, 3, 13, 12, 1, 14] (.seq (.row [⟨(some 19), none, .mv (.tmp 1)⟩,
    ⟨(some 20), none, .mv (.tmp 2)⟩,
    ⟨(some 21), none, .mv (.tmp 3)⟩,
    ⟨(some 22), none, .call 47 [(.tmp 19), (.tmp 20), (.tmp 21)]⟩,
    ⟨(some 23), none, .ibin .neq .i64 (.tmp 22) (.const (.int .i64 0))⟩])
  (.prune [23, 13, 12, 1, 14] (.cond (.tmp 23)
   (.seq (.row [⟨(some 0), none, .mv (.const (.bool false))⟩])
   (.prune [0] .ret))
   .skip))))))
  (.prune [14, 1, 12, 13] (.row [⟨(some 24), none, .ibin .add .i64 (.tmp 14) (.const (.int .i64 1))⟩,
    ⟨(some 14), none, .mv (.tmp 24)⟩])))))))))))
 (.prune [1] (.seq (.row [⟨(some 25), none, .mv (.tmp 1)⟩,
   ⟨(some 26), none, .call 49 [(.tmp 25), (.const (.int .i64 2))]⟩,
   ⟨(some 4), none, .mv (.tmp 26)⟩])
 (.prune [4, 1] (.seq (.row [⟨(some 28), none, .mv (.tmp 1)⟩,
   ⟨(some 29), none, .call 39 [(.tmp 28), (.const (.int .i64 1))]⟩,
   ⟨(some 27), none, .mv (.tmp 29)⟩,
   ⟨(some 30), none, .ext (.tmp 27) 0⟩,
   ⟨(some 31), none, .ext (.tmp 27) 1⟩,
   ⟨(some 32), none, .ext (.tmp 27) 2⟩,
   ⟨(some 5), none, .mv (.tmp 30)⟩,
   ⟨(some 6), none, .mv (.tmp 31)⟩,
   ⟨(some 7), none, .mv (.tmp 32)⟩])
 (.prune [4, 1, 5, 6, 7] (.seq (.row [⟨(some 34), none, .mv (.tmp 1)⟩,
   ⟨(some 35), none, .call 39 [(.tmp 34), (.const (.int .i64 0))]⟩,
   ⟨(some 33), none, .mv (.tmp 35)⟩,
   ⟨(some 36), none, .ext (.tmp 33) 0⟩,
   ⟨(some 37), none, .ext (.tmp 33) 1⟩,
   ⟨(some 38), none, .ext (.tmp 33) 2⟩,
   ⟨(some 8), none, .mv (.tmp 36)⟩,
   ⟨(some 9), none, .mv (.tmp 37)⟩,
   ⟨(some 10), none, .mv (.tmp 38)⟩])
 (.prune [4, 1, 5, 6, 7, 10] (.seq (.row [⟨(some 39), none, .mv (.tmp 4)⟩,
   ⟨(some 40), none, .ibin .eql .i64 (.tmp 39) (.const (.int .i64 0))⟩,
   ⟨(some 41), none, .mv (.tmp 40)⟩,
   ⟨(some 42), (some (41, true)), .mv (.tmp 1)⟩,
   ⟨(some 43), (some (41, true)), .call 37 [(.tmp 42)]⟩,
   ⟨(some 44), (some (41, true)), .ibin .eql .i64 (.tmp 43) (.const (.int .i64 1))⟩,
   ⟨(some 45), none, .pick (.tmp 41) (.tmp 44) (.const (.bool false))⟩,
   ⟨(some 46), none, .mv (.tmp 45)⟩,
   ⟨(some 47), (some (46, true)), .mv (.tmp 1)⟩,
   ⟨(some 48), (some (46, true)), .call 36 [(.tmp 47)]⟩,
   ⟨(some 49), (some (46, true)), .ibin .eql .i64 (.tmp 48) (.const (.int .i64 2))⟩,
   ⟨(some 50), none, .pick (.tmp 46) (.tmp 49) (.const (.bool false))⟩,
   ⟨(some 51), none, .mv (.tmp 50)⟩,
   ⟨(some 52), (some (51, true)), .mv (.tmp 5)⟩,
   ⟨(some 53), (some (51, true)), .ibin .eql .i64 (.tmp 52) (.const (.int .i64 2))⟩,
   ⟨(some 54), none, .pick (.tmp 51) (.tmp 53) (.const (.bool false))⟩,
   ⟨(some 55), none, .mv (.tmp 54)⟩,
   ⟨(some 56), (some (55, true)), .mv (.tmp 6)⟩,
   ⟨(some 57), (some (55, true)), .ibin .eql .i64 (.tmp 56) (.const (.int .i64 5))⟩,
   ⟨(some 58), none, .pick (.tmp 55) (.tmp 57) (.const (.bool false))⟩,
   ⟨(some 59), none, .mv (.tmp 58)⟩,
   ⟨(some 60), (some (59, true)), .mv (.tmp 7)⟩,
   ⟨(some 61), (some (59, true)), .ibin .eql .i64 (.tmp 60) (.const (.int .i64 0))⟩,
   ⟨(some 62), none, .pick (.tmp 59) (.tmp 61) (.const (.bool false))⟩,
   ⟨(some 63), none, .mv (.tmp 62)⟩,
   ⟨(some 64), (some (63, true)), .mv (.tmp 10)⟩,
   ⟨(some 65), (some (63, true)), .ibin .eql .i64 (.tmp 64) (.const (.int .i64 12))⟩,
   ⟨(some 66), none, .pick (.tmp 63) (.tmp 65) (.const (.bool false))⟩,
   ⟨(some 0), none, .mv (.tmp 66)⟩])
 (.prune [0] .ret))))))))))))))
theorem ok32 : fits Try.prog 32 ⟨s32, 67, [.tmp 0]⟩ = some ⟨s32, 67, [.tmp 0]⟩ := by kernel_rfl
theorem go32 {args : List Value} {w : World} {R : Value → World → Prop} (hle : Nat.ble args.length 67 = true) (h : vc Try.prog 67 s32 (argEnv args 0) w (fun L w => resL L w [.tmp 0] fun vs => oneOr vs fun v => R v w) (fun _ _ _ => False) (fun L w => resL L w [.tmp 0] fun vs => oneOr vs fun v => R v w)) : Cal Try.prog 32 ⟨args⟩ w R := cal_of mo ok32 hle h

-- footbridge/window.New
def s33 : S := (.seq (.row [⟨(some 2), none, .mv (.const (.pointer none))⟩])
 (.prune [0] (.seq (.seq (.row [⟨(some 3), none, .mv (.tmp 0)⟩,
   ⟨(some 4), none, .ibin .lss .i64 (.tmp 3) (.const (.int .i64 0))⟩,
   ⟨(some 5), none, .mv (.tmp 4)⟩,
   ⟨(some 6), (some (5, false)), .mv (.tmp 0)⟩,
   ⟨(some 7), (some (5, false)), .ibin .gtr .i64 (.tmp 6) (.const (.int .i64 4096))⟩,
   ⟨(some 8), none, .pick (.tmp 5) (.const (.bool true)) (.tmp 7)⟩])
 (.prune [8, 0] (.cond (.tmp 8)
  (.seq (.row [⟨(some 2), none, .mv (.const (.pointer none))⟩])
  (.prune [2] .ret))
  .skip)))
 (.prune [0] (.seq (.row [⟨(some 9), none, .bld [(.int .i64 0), (.int .i64 0)] [] []⟩,
   ⟨(some 10), none, .box 99 (.tmp 9)⟩,
   ⟨(some 11), none, .call 62 [(.const (.int .i64 1048576))]⟩,
   ⟨(some 12), none, .mv (.tmp 0)⟩,
   ⟨(some 13), none, .bld [(.pointer none), (.pointer none), (.int .i64 0), (.int .i64 0)] [(0, 1), (1, 1), (2, 1)] [(.tmp 10), (.tmp 11), (.tmp 12)]⟩,
   ⟨(some 14), none, .box 105 (.tmp 13)⟩,
   ⟨(some 2), none, .mv (.tmp 14)⟩])
 (.prune [2] .ret))))))
theorem ok33 : fits Try.prog 33 ⟨s33, 15, [.tmp 2]⟩ = some ⟨s33, 15, [.tmp 2]⟩ := by kernel_rfl
theorem go33 {args : List Value} {w : World} {R : Value → World → Prop} (hle : Nat.ble args.length 15 = true) (h : vc Try.prog 15 s33 (argEnv args 0) w (fun L w => resL L w [.tmp 2] fun vs => oneOr vs fun v => R v w) (fun _ _ _ => False) (fun L w => resL L w [.tmp 2] fun vs => oneOr vs fun v => R v w)) : Cal Try.prog 33 ⟨args⟩ w R := cal_of mo ok33 hle h

-- footbridge/footbridgelaw21.does
def s34 : S := (.seq (.row [⟨(some 4), none, .box 60 (.tmp 1)⟩,
   ⟨(some 5), none, .box 62 (.tmp 2)⟩,
   ⟨(some 6), none, .new [(.slice none 0 0), (.slice none 0 0), (.int .i64 0), (.int .i64 0)] 60⟩,
   ⟨(some 7), none, .mv (.const (.bool false))⟩])
 (.prune [4, 0, 5, 6] (.seq (.seq (.row [⟨(some 14), none, .fad 0 (.tmp 5)⟩,
   ⟨(some 15), none, .ld (.tmp 14)⟩])
 (.prune [15, 4, 0, 5, 6] (.block 0 (.seq (.row [⟨(some 17), none, .ibin .eql .u8 (.tmp 15) (.const (.int .u8 0))⟩,
   ⟨(some 16), none, .mv (.tmp 17)⟩])
 (.prune [16, 15, 4, 0, 5, 6] (.cond (.tmp 16)
  (.seq (.row [⟨(some 19), none, .ldn 4 (.tmp 4)⟩,
    ⟨(some 20), none, .fad 1 (.tmp 5)⟩,
    ⟨(some 21), none, .ld (.tmp 20)⟩,
    ⟨(some 22), none, .fad 2 (.tmp 5)⟩,
    ⟨(some 23), none, .ld (.tmp 22)⟩,
    ⟨(some 24), none, .call 63 [(.tmp 19), (.tmp 21), (.tmp 23)]⟩,
    ⟨(some 18), none, .mv (.tmp 24)⟩,
    ⟨(some 25), none, .ext (.tmp 18) 0⟩,
    ⟨(some 26), none, .ext (.tmp 18) 1⟩,
    ⟨(some 8), none, .new [(.slice none 0 0), (.slice none 0 0), (.int .i64 0), (.int .i64 0)] 60⟩,
    ⟨none, none, .stn 4 (.tmp 8) (.tmp 25)⟩,
    ⟨(some 9), none, .mv (.tmp 26)⟩])
  (.prune [8, 0, 5, 9, 6] (.seq (.draw (.take 0 ⟨(some 27), none, .ldn 4 (.tmp 8)⟩ (.take 1 ⟨(some 28), none, .mv (.tmp 0)⟩ (.take 2 ⟨(some 29), none, .fad 1 (.tmp 5)⟩ (.take 3 ⟨(some 30), none, .ld (.tmp 29)⟩ (.take 4 ⟨(some 31), none, .fad 2 (.tmp 5)⟩ (.take 5 ⟨(some 32), none, .ld (.tmp 31)⟩ (.take 7 ⟨(some 34), none, .mv (.tmp 9)⟩ (.step 6 true ⟨(some 33), none, .call 47 [(.tmp 28), (.tmp 30), (.tmp 32)]⟩ (.take 8 ⟨(some 35), none, .ibin .eql .i64 (.tmp 33) (.tmp 34)⟩ (.step 9 true ⟨none, none, .stn 4 (.tmp 6) (.tmp 27)⟩ (.take 10 ⟨(some 7), none, .mv (.tmp 35)⟩ .done))))))))))))
  (.prune [6, 7] .ret))))
  (.seq (.row [⟨(some 37), none, .ibin .eql .u8 (.tmp 15) (.const (.int .u8 1))⟩,
    ⟨(some 36), none, .mv (.tmp 37)⟩])
  (.prune [36, 4, 0, 5, 6] (.cond (.tmp 36)
   (.seq (.row [⟨(some 39), none, .ldn 4 (.tmp 4)⟩,
     ⟨(some 40), none, .fad 1 (.tmp 5)⟩,
     ⟨(some 41), none, .ld (.tmp 40)⟩,
     ⟨(some 42), none, .call 64 [(.tmp 39), (.tmp 41)]⟩,
     ⟨(some 38), none, .mv (.tmp 42)⟩,
     ⟨(some 43), none, .ext (.tmp 38) 0⟩,
     ⟨(some 44), none, .ext (.tmp 38) 1⟩,
     ⟨(some 10), none, .new [(.slice none 0 0), (.slice none 0 0), (.int .i64 0), (.int .i64 0)] 60⟩,
     ⟨none, none, .stn 4 (.tmp 10) (.tmp 43)⟩,
     ⟨(some 11), none, .mv (.tmp 44)⟩])
   (.prune [10, 0, 5, 11, 6] (.seq (.draw (.take 0 ⟨(some 45), none, .ldn 4 (.tmp 10)⟩ (.take 1 ⟨(some 46), none, .mv (.tmp 0)⟩ (.take 2 ⟨(some 47), none, .fad 1 (.tmp 5)⟩ (.take 3 ⟨(some 48), none, .ld (.tmp 47)⟩ (.take 5 ⟨(some 50), none, .mv (.tmp 11)⟩ (.step 4 true ⟨(some 49), none, .call 48 [(.tmp 46), (.tmp 48)]⟩ (.take 6 ⟨(some 51), none, .ibin .eql .i64 (.tmp 49) (.tmp 50)⟩ (.step 7 true ⟨none, none, .stn 4 (.tmp 6) (.tmp 45)⟩ (.take 8 ⟨(some 7), none, .mv (.tmp 51)⟩ .done))))))))))
   (.prune [6, 7] .ret))))
   .skip)))))))))
 (.prune [4, 0, 5, 6] (.seq (.row [⟨(some 53), none, .ldn 4 (.tmp 4)⟩,
   ⟨(some 54), none, .fad 1 (.tmp 5)⟩,
   ⟨(some 55), none, .ld (.tmp 54)⟩,
   ⟨(some 56), none, .call 65 [(.tmp 53), (.tmp 55)]⟩,
   ⟨(some 52), none, .mv (.tmp 56)⟩,
   ⟨(some 57), none, .ext (.tmp 52) 0⟩,
   ⟨(some 58), none, .ext (.tmp 52) 1⟩,
   ⟨(some 12), none, .new [(.slice none 0 0), (.slice none 0 0), (.int .i64 0), (.int .i64 0)] 60⟩,
   ⟨none, none, .stn 4 (.tmp 12) (.tmp 57)⟩,
   ⟨(some 13), none, .mv (.tmp 58)⟩])
 (.prune [12, 0, 5, 13, 6] (.seq (.draw (.take 0 ⟨(some 59), none, .ldn 4 (.tmp 12)⟩ (.take 1 ⟨(some 60), none, .mv (.tmp 0)⟩ (.take 2 ⟨(some 61), none, .fad 1 (.tmp 5)⟩ (.take 3 ⟨(some 62), none, .ld (.tmp 61)⟩ (.take 5 ⟨(some 64), none, .mv (.tmp 13)⟩ (.step 4 true ⟨(some 63), none, .call 49 [(.tmp 60), (.tmp 62)]⟩ (.take 6 ⟨(some 65), none, .ibin .eql .i64 (.tmp 63) (.tmp 64)⟩ (.step 7 true ⟨none, none, .stn 4 (.tmp 6) (.tmp 59)⟩ (.take 8 ⟨(some 7), none, .mv (.tmp 65)⟩ .done))))))))))
 (.prune [6, 7] .ret))))))))
theorem ok34 : fits Try.prog 34 ⟨s34, 66, [.cell 6 (some 4), .tmp 7]⟩ = some ⟨s34, 66, [.cell 6 (some 4), .tmp 7]⟩ := by kernel_rfl
theorem go34 {args : List Value} {w : World} {R : Value → World → Prop} (hle : Nat.ble args.length 66 = true) (h : vc Try.prog 66 s34 (argEnv args 0) w (fun L w => resL L w [.cell 6 (some 4), .tmp 7] fun vs => oneOr vs fun v => R v w) (fun _ _ _ => False) (fun L w => resL L w [.cell 6 (some 4), .tmp 7] fun vs => oneOr vs fun v => R v w)) : Cal Try.prog 34 ⟨args⟩ w R := cal_of mo ok34 hle h

-- footbridge/footbridgelaw21.asks
def s35 : S := (.seq (.row [⟨(some 4), none, .box 60 (.tmp 1)⟩,
   ⟨(some 6), none, .mv (.const (.bool false))⟩])
 (.prune [0, 4, 2] (.seq (.row [⟨(some 20), none, .mv (.tmp 0)⟩,
   ⟨(some 21), none, .mv (.tmp 2)⟩,
   ⟨(some 22), none, .call 45 [(.tmp 20), (.tmp 21)]⟩,
   ⟨(some 19), none, .mv (.tmp 22)⟩,
   ⟨(some 23), none, .ext (.tmp 19) 0⟩,
   ⟨(some 24), none, .ext (.tmp 19) 1⟩,
   ⟨(some 7), none, .mv (.tmp 23)⟩,
   ⟨(some 8), none, .mv (.tmp 24)⟩])
 (.prune [8, 0, 4, 2, 7] (.seq (.row [⟨(some 26), none, .mv (.tmp 0)⟩,
   ⟨(some 27), none, .mv (.tmp 2)⟩,
   ⟨(some 28), none, .call 39 [(.tmp 26), (.tmp 27)]⟩,
   ⟨(some 25), none, .mv (.tmp 28)⟩,
   ⟨(some 29), none, .ext (.tmp 25) 0⟩,
   ⟨(some 30), none, .ext (.tmp 25) 1⟩,
   ⟨(some 31), none, .ext (.tmp 25) 2⟩,
   ⟨(some 9), none, .mv (.tmp 29)⟩,
   ⟨(some 10), none, .mv (.tmp 30)⟩,
   ⟨(some 11), none, .mv (.tmp 31)⟩])
 (.prune [8, 11, 0, 4, 2, 10, 9, 7] (.seq (.row [⟨(some 32), none, .ldn 4 (.tmp 4)⟩,
   ⟨(some 33), none, .mv (.tmp 2)⟩,
   ⟨(some 34), none, .call 66 [(.tmp 32), (.tmp 33)]⟩,
   ⟨(some 12), none, .mv (.tmp 34)⟩])
 (.prune [8, 11, 0, 4, 2, 10, 9, 7, 12] (.seq (.seq (.row [⟨(some 35), none, .mv (.tmp 8)⟩,
   ⟨(some 36), none, .mv (.tmp 12)⟩,
   ⟨(some 37), none, .ibin .neq .i64 (.tmp 35) (.tmp 36)⟩,
   ⟨(some 38), none, .mv (.tmp 37)⟩,
   ⟨(some 39), (some (38, false)), .mv (.tmp 11)⟩,
   ⟨(some 40), (some (38, false)), .mv (.tmp 12)⟩,
   ⟨(some 41), (some (38, false)), .ibin .neq .i64 (.tmp 39) (.tmp 40)⟩,
   ⟨(some 42), none, .pick (.tmp 38) (.const (.bool true)) (.tmp 41)⟩,
   ⟨(some 43), none, .mv (.tmp 42)⟩,
   ⟨(some 44), (some (43, false)), .mv (.tmp 12)⟩,
   ⟨(some 45), (some (43, false)), .ibin .neq .i64 (.tmp 44) (.const (.int .i64 0))⟩,
   ⟨(some 46), (some (43, false)), .mv (.tmp 45)⟩,
   ⟨(some 47), (some (46, true)), .mv (.tmp 7)⟩,
   ⟨(some 48), (some (46, true)), .ibin .neq .i64 (.tmp 47) (.const (.int .i64 0))⟩,
   ⟨(some 49), (some (46, true)), .mv (.tmp 48)⟩,
   ⟨(some 50), (some (49, false)), .mv (.tmp 9)⟩,
   ⟨(some 51), (some (49, false)), .ibin .neq .i64 (.tmp 50) (.const (.int .i64 0))⟩,
   ⟨(some 52), (some (46, true)), .pick (.tmp 49) (.const (.bool true)) (.tmp 51)⟩,
   ⟨(some 53), (some (46, true)), .mv (.tmp 52)⟩,
   ⟨(some 54), (some (53, false)), .mv (.tmp 10)⟩,
   ⟨(some 55), (some (53, false)), .ibin .neq .i64 (.tmp 54) (.const (.int .i64 0))⟩,
   ⟨(some 56), (some (46, true)), .pick (.tmp 53) (.const (.bool true)) (.tmp 55)⟩,
   ⟨(some 57), (some (43, false)), .pick (.tmp 46) (.tmp 56) (.const (.bool false))⟩,
   ⟨(some 58), none, .pick (.tmp 43) (.const (.bool true)) (.tmp 57)⟩])
 (.prune [58, 0, 4, 2, 10, 9, 7, 12] (.cond (.tmp 58)
  (.seq (.row [⟨(some 6), none, .mv (.const (.bool false))⟩])
  (.prune [6] .ret))
  .skip)))
 (.prune [12, 7, 9, 10, 2, 4, 0] (.seq (.seq (.row [⟨(some 59), none, .mv (.tmp 12)⟩,
   ⟨(some 60), none, .ibin .eql .i64 (.tmp 59) (.const (.int .i64 0))⟩])
 (.prune [60, 7, 9, 10, 2, 4, 0] (.cond (.tmp 60)
  (.seq (.row [⟨(some 62), none, .ldn 4 (.tmp 4)⟩,
    ⟨(some 63), none, .mv (.tmp 2)⟩,
    ⟨(some 64), none, .call 67 [(.tmp 62), (.tmp 63)]⟩,
    ⟨(some 61), none, .mv (.tmp 64)⟩,
    ⟨(some 65), none, .ext (.tmp 61) 0⟩,
    ⟨(some 66), none, .ext (.tmp 61) 1⟩,
    ⟨(some 13), none, .mv (.tmp 65)⟩,
    ⟨(some 14), none, .mv (.tmp 66)⟩])
  (.prune [7, 9, 13, 10, 14, 2, 4, 0] (.seq (.row [⟨(some 67), none, .mv (.tmp 7)⟩,
    ⟨(some 68), none, .fad 0 (.tmp 4)⟩,
    ⟨(some 69), none, .ld (.tmp 68)⟩,
    ⟨(some 70), none, .mv (.tmp 2)⟩,
    ⟨(some 71), none, .ixA 1 (.tmp 69) (.tmp 70)⟩,
    ⟨(some 72), none, .ld (.tmp 71)⟩,
    ⟨(some 73), none, .ibin .neq .i64 (.tmp 67) (.tmp 72)⟩,
    ⟨(some 74), none, .mv (.tmp 73)⟩,
    ⟨(some 75), (some (74, false)), .mv (.tmp 9)⟩,
    ⟨(some 76), (some (74, false)), .mv (.tmp 13)⟩,
    ⟨(some 77), (some (74, false)), .ibin .neq .i64 (.tmp 75) (.tmp 76)⟩,
    ⟨(some 78), none, .pick (.tmp 74) (.const (.bool true)) (.tmp 77)⟩,
    ⟨(some 79), none, .mv (.tmp 78)⟩,
    ⟨(some 80), (some (79, false)), .mv (.tmp 10)⟩,
    ⟨(some 81), (some (79, false)), .mv (.tmp 14)⟩,
    ⟨(some 82), (some (79, false)), .ibin .neq .i64 (.tmp 80) (.tmp 81)⟩,
    ⟨(some 83), none, .pick (.tmp 79) (.const (.bool true)) (.tmp 82)⟩])
  (.prune [83, 2, 4, 0] (.cond (.tmp 83)
   (.seq (.row [⟨(some 6), none, .mv (.const (.bool false))⟩])
   (.prune [6] .ret))
   .skip)))))
  .skip)))
 (.prune [0, 4, 2] (.seq (.row [⟨(some 85), none, .mv (.tmp 0)⟩,
   ⟨(some 86), none, .mv (.tmp 2)⟩,
   ⟨(some 87), none, .call 40 [(.tmp 85), (.tmp 86)]⟩,
   ⟨(some 84), none, .mv (.tmp 87)⟩,
   ⟨(some 88), none, .ext (.tmp 84) 0⟩,
   ⟨(some 89), none, .ext (.tmp 84) 1⟩,
   ⟨(some 15), none, .mv (.tmp 88)⟩,
   ⟨(some 16), none, .mv (.tmp 89)⟩])
 (.prune [4, 2, 15, 16] (.seq (.row [⟨(some 91), none, .ldn 4 (.tmp 4)⟩,
   ⟨(some 92), none, .mv (.tmp 2)⟩,
   ⟨(some 93), none, .call 68 [(.tmp 91), (.tmp 92)]⟩,
   ⟨(some 90), none, .mv (.tmp 93)⟩,
   ⟨(some 94), none, .ext (.tmp 90) 0⟩,
   ⟨(some 95), none, .ext (.tmp 90) 1⟩,
   ⟨(some 17), none, .mv (.tmp 94)⟩,
   ⟨(some 18), none, .mv (.tmp 95)⟩])
 (.prune [15, 17, 16, 18] (.seq (.row [⟨(some 96), none, .mv (.tmp 15)⟩,
   ⟨(some 97), none, .mv (.tmp 17)⟩,
   ⟨(some 98), none, .ibin .eql .i64 (.tmp 96) (.tmp 97)⟩,
   ⟨(some 99), none, .mv (.tmp 98)⟩,
   ⟨(some 100), (some (99, true)), .mv (.tmp 16)⟩,
   ⟨(some 101), (some (99, true)), .mv (.tmp 18)⟩,
   ⟨(some 102), (some (99, true)), .ibin .eql .i64 (.tmp 100) (.tmp 101)⟩,
   ⟨(some 103), none, .pick (.tmp 99) (.tmp 102) (.const (.bool false))⟩,
   ⟨(some 6), none, .mv (.tmp 103)⟩])
 (.prune [6] .ret))))))))))))))))))
theorem ok35 : fits Try.prog 35 ⟨s35, 104, [.tmp 6]⟩ = some ⟨s35, 104, [.tmp 6]⟩ := by kernel_rfl
theorem go35 {args : List Value} {w : World} {R : Value → World → Prop} (hle : Nat.ble args.length 104 = true) (h : vc Try.prog 104 s35 (argEnv args 0) w (fun L w => resL L w [.tmp 6] fun vs => oneOr vs fun v => R v w) (fun _ _ _ => False) (fun L w => resL L w [.tmp 6] fun vs => oneOr vs fun v => R v w)) : Cal Try.prog 35 ⟨args⟩ w R := cal_of mo ok35 hle h

-- (*footbridge/window.Window).Start
def s36 : S := (.seq (.row [⟨(some 2), none, .mv (.const (.int .i64 0))⟩])
 (.prune [0] (.seq (.seq (.row [⟨(some 3), none, .mv (.tmp 0)⟩,
   ⟨(some 4), none, .isnil 0 false (.tmp 3)⟩])
 (.prune [4, 0] (.cond (.tmp 4)
  (.seq (.row [⟨(some 2), none, .mv (.const (.int .i64 0))⟩])
  (.prune [2] .ret))
  .skip)))
 (.prune [0] (.seq (.row [⟨(some 5), none, .mv (.tmp 0)⟩,
   ⟨(some 6), none, .nck (.tmp 5)⟩,
   ⟨(some 7), none, .fad 0 (.tmp 6)⟩,
   ⟨(some 8), none, .ld (.tmp 7)⟩,
   ⟨(some 9), none, .call 69 [(.tmp 8)]⟩,
   ⟨(some 2), none, .mv (.tmp 9)⟩])
 (.prune [2] .ret))))))
theorem ok36 : fits Try.prog 36 ⟨s36, 10, [.tmp 2]⟩ = some ⟨s36, 10, [.tmp 2]⟩ := by kernel_rfl
theorem go36 {args : List Value} {w : World} {R : Value → World → Prop} (hle : Nat.ble args.length 10 = true) (h : vc Try.prog 10 s36 (argEnv args 0) w (fun L w => resL L w [.tmp 2] fun vs => oneOr vs fun v => R v w) (fun _ _ _ => False) (fun L w => resL L w [.tmp 2] fun vs => oneOr vs fun v => R v w)) : Cal Try.prog 36 ⟨args⟩ w R := cal_of mo ok36 hle h

-- (*footbridge/window.Window).Base
def s37 : S := (.seq (.row [⟨(some 2), none, .mv (.const (.int .i64 0))⟩])
 (.prune [0] (.seq (.seq (.row [⟨(some 3), none, .mv (.tmp 0)⟩,
   ⟨(some 4), none, .isnil 0 false (.tmp 3)⟩])
 (.prune [4, 0] (.cond (.tmp 4)
  (.seq (.row [⟨(some 2), none, .mv (.const (.int .i64 0))⟩])
  (.prune [2] .ret))
  .skip)))
 (.prune [0] (.seq (.row [⟨(some 5), none, .mv (.tmp 0)⟩,
   ⟨(some 6), none, .nck (.tmp 5)⟩,
   ⟨(some 7), none, .fad 0 (.tmp 6)⟩,
   ⟨(some 8), none, .ld (.tmp 7)⟩,
   ⟨(some 9), none, .call 70 [(.tmp 8)]⟩,
   ⟨(some 2), none, .mv (.tmp 9)⟩])
 (.prune [2] .ret))))))
theorem ok37 : fits Try.prog 37 ⟨s37, 10, [.tmp 2]⟩ = some ⟨s37, 10, [.tmp 2]⟩ := by kernel_rfl
theorem go37 {args : List Value} {w : World} {R : Value → World → Prop} (hle : Nat.ble args.length 10 = true) (h : vc Try.prog 10 s37 (argEnv args 0) w (fun L w => resL L w [.tmp 2] fun vs => oneOr vs fun v => R v w) (fun _ _ _ => False) (fun L w => resL L w [.tmp 2] fun vs => oneOr vs fun v => R v w)) : Cal Try.prog 37 ⟨args⟩ w R := cal_of mo ok37 hle h

-- (*footbridge/window.Window).Len
def s38 : S := (.seq (.row [⟨(some 2), none, .mv (.const (.int .i64 0))⟩])
 (.prune [0] (.seq (.seq (.row [⟨(some 3), none, .mv (.tmp 0)⟩,
   ⟨(some 4), none, .isnil 0 false (.tmp 3)⟩])
 (.prune [4, 0] (.cond (.tmp 4)
  (.seq (.row [⟨(some 2), none, .mv (.const (.int .i64 0))⟩])
  (.prune [2] .ret))
  .skip)))
 (.prune [0] (.seq (.draw (.take 0 ⟨(some 5), none, .mv (.tmp 0)⟩ (.take 1 ⟨(some 6), none, .nck (.tmp 5)⟩ (.take 2 ⟨(some 7), none, .fad 1 (.tmp 6)⟩ (.take 3 ⟨(some 8), none, .ld (.tmp 7)⟩ (.take 5 ⟨(some 10), none, .mv (.tmp 0)⟩ (.take 6 ⟨(some 11), none, .nck (.tmp 10)⟩ (.take 7 ⟨(some 12), none, .fad 1 (.tmp 11)⟩ (.take 8 ⟨(some 13), none, .ld (.tmp 12)⟩ (.step 4 true ⟨(some 9), none, .call 71 [(.tmp 8)]⟩ (.step 9 true ⟨(some 14), none, .call 72 [(.tmp 13)]⟩ (.take 10 ⟨(some 15), none, .ibin .add .i64 (.tmp 9) (.tmp 14)⟩ (.take 11 ⟨(some 2), none, .mv (.tmp 15)⟩ .done)))))))))))))
 (.prune [2] .ret))))))
theorem ok38 : fits Try.prog 38 ⟨s38, 16, [.tmp 2]⟩ = some ⟨s38, 16, [.tmp 2]⟩ := by kernel_rfl
theorem go38 {args : List Value} {w : World} {R : Value → World → Prop} (hle : Nat.ble args.length 16 = true) (h : vc Try.prog 16 s38 (argEnv args 0) w (fun L w => resL L w [.tmp 2] fun vs => oneOr vs fun v => R v w) (fun _ _ _ => False) (fun L w => resL L w [.tmp 2] fun vs => oneOr vs fun v => R v w)) : Cal Try.prog 38 ⟨args⟩ w R := cal_of mo ok38 hle h

-- (*footbridge/window.Window).Span
def s39 : S := (.seq (.row [⟨(some 4), none, .mv (.const (.int .i64 0))⟩,
   ⟨(some 5), none, .mv (.const (.int .i64 0))⟩,
   ⟨(some 6), none, .mv (.const (.int .i64 0))⟩])
 (.prune [1, 0] (.seq (.row [⟨(some 10), none, .mv (.tmp 0)⟩,
   ⟨(some 11), none, .mv (.tmp 1)⟩,
   ⟨(some 12), none, .call 73 [(.tmp 10), (.tmp 11)]⟩,
   ⟨(some 9), none, .mv (.tmp 12)⟩,
   ⟨(some 13), none, .ext (.tmp 9) 0⟩,
   ⟨(some 14), none, .ext (.tmp 9) 1⟩,
   ⟨(some 7), none, .new [(.int .i64 0), (.int .i64 0)] 103⟩,
   ⟨none, none, .stn 2 (.tmp 7) (.tmp 13)⟩,
   ⟨(some 8), none, .mv (.tmp 14)⟩])
 (.prune [7, 1, 0, 8] (.seq (.seq (.row [⟨(some 15), none, .mv (.tmp 8)⟩,
   ⟨(some 16), none, .ibin .neq .i64 (.tmp 15) (.const (.int .i64 0))⟩])
 (.prune [16, 7, 1, 0, 8] (.cond (.tmp 16)
  (.seq (.row [⟨(some 17), none, .mv (.tmp 8)⟩,
    ⟨(some 4), none, .mv (.const (.int .i64 0))⟩,
    ⟨(some 5), none, .mv (.const (.int .i64 0))⟩,
    ⟨(some 6), none, .mv (.tmp 17)⟩])
  (.prune [4, 5, 6] .ret))
  .skip)))
 (.prune [0, 1, 7] (.seq (.draw (.take 0 ⟨(some 18), none, .mv (.tmp 0)⟩ (.take 1 ⟨(some 19), none, .mv (.tmp 1)⟩ (.take 2 ⟨(some 20), none, .ibin .sub .i64 (.tmp 19) (.const (.int .i64 1))⟩ (.take 4 ⟨(some 22), none, .fad 1 (.tmp 7)⟩ (.take 5 ⟨(some 23), none, .ld (.tmp 22)⟩ (.step 3 true ⟨(some 21), none, .call 74 [(.tmp 18), (.tmp 20)]⟩ (.take 6 ⟨(some 4), none, .mv (.tmp 21)⟩ (.take 7 ⟨(some 5), none, .mv (.tmp 23)⟩ (.take 8 ⟨(some 6), none, .mv (.const (.int .i64 0))⟩ .done))))))))))
 (.prune [4, 5, 6] .ret))))))))
theorem ok39 : fits Try.prog 39 ⟨s39, 24, [.tmp 4, .tmp 5, .tmp 6]⟩ = some ⟨s39, 24, [.tmp 4, .tmp 5, .tmp 6]⟩ := by kernel_rfl
theorem go39 {args : List Value} {w : World} {R : Value → World → Prop} (hle : Nat.ble args.length 24 = true) (h : vc Try.prog 24 s39 (argEnv args 0) w (fun L w => resL L w [.tmp 4, .tmp 5, .tmp 6] fun vs => oneOr vs fun v => R v w) (fun _ _ _ => False) (fun L w => resL L w [.tmp 4, .tmp 5, .tmp 6] fun vs => oneOr vs fun v => R v w)) : Cal Try.prog 39 ⟨args⟩ w R := cal_of mo ok39 hle h

-- (*footbridge/window.Window).Find
def s40 : S := (.seq (.row [⟨(some 2), none, .box 57 (.tmp 0)⟩,
   ⟨(some 3), none, .box 3 (.tmp 1)⟩,
   ⟨(some 4), none, .mv (.const (.int .i64 0))⟩,
   ⟨(some 5), none, .mv (.const (.int .i64 0))⟩])
 (.prune [2, 3] (.seq (.block 0 (.seq (.row [⟨(some 7), none, .ld (.tmp 2)⟩,
   ⟨(some 8), none, .isnil 0 false (.tmp 7)⟩,
   ⟨(some 6), none, .mv (.tmp 8)⟩])
 (.prune [6, 2, 3] (.cond (.tmp 6)
  (.seq (.row [⟨(some 4), none, .mv (.const (.int .i64 0))⟩,
    ⟨(some 5), none, .mv (.const (.int .i64 1))⟩])
  (.prune [4, 5] .ret))
  (.seq (.draw (.take 0 ⟨(some 10), none, .ld (.tmp 3)⟩ (.take 1 ⟨(some 11), none, .ibin .lss .i64 (.tmp 10) (.const (.int .i64 0))⟩ (.take 2 ⟨(some 12), none, .mv (.tmp 11)⟩ (.take 3 ⟨(some 13), (some (12, false)), .ld (.tmp 3)⟩ (.take 4 ⟨(some 14), (some (12, false)), .ld (.tmp 2)⟩ (.step 5 true ⟨(some 15), (some (12, false)), .call 41 [(.tmp 14)]⟩ (.take 6 ⟨(some 16), (some (12, false)), .ibin .geq .i64 (.tmp 13) (.tmp 15)⟩ (.take 7 ⟨(some 17), none, .pick (.tmp 12) (.const (.bool true)) (.tmp 16)⟩ (.take 8 ⟨(some 9), none, .mv (.tmp 17)⟩ .done))))))))))
  (.prune [9, 3, 2] (.cond (.tmp 9)
   (.seq (.row [⟨(some 4), none, .mv (.const (.int .i64 0))⟩,
     ⟨(some 5), none, .mv (.const (.int .i64 13))⟩])
   (.prune [4, 5] .ret))
   (.seq (.draw (.take 0 ⟨(some 19), none, .ld (.tmp 3)⟩ (.take 1 ⟨(some 20), none, .ld (.tmp 2)⟩ (.take 2 ⟨(some 21), none, .nck (.tmp 20)⟩ (.take 3 ⟨(some 22), none, .fad 0 (.tmp 21)⟩ (.take 4 ⟨(some 23), none, .ld (.tmp 22)⟩ (.take 5 ⟨(some 24), none, .nck (.tmp 23)⟩ (.take 6 ⟨(some 25), none, .fad 1 (.tmp 24)⟩ (.take 7 ⟨(some 26), none, .ld (.tmp 25)⟩ (.take 8 ⟨(some 27), none, .ibin .lss .i64 (.tmp 19) (.tmp 26)⟩ (.take 9 ⟨(some 18), none, .mv (.tmp 27)⟩ .done)))))))))))
   (.prune [18, 2, 3] (.cond (.tmp 18)
    (.seq (.row [⟨(some 4), none, .mv (.const (.int .i64 0))⟩,
      ⟨(some 5), none, .mv (.const (.int .i64 12))⟩])
    (.prune [4, 5] .ret))
    .skip))))))))))
 (.prune [3, 2] (.seq (.draw (.take 0 ⟨(some 28), none, .ld (.tmp 2)⟩ (.take 1 ⟨(some 29), none, .nck (.tmp 28)⟩ (.take 2 ⟨(some 30), none, .fad 0 (.tmp 29)⟩ (.take 3 ⟨(some 31), none, .ld (.tmp 30)⟩ (.take 4 ⟨(some 32), none, .nck (.tmp 31)⟩ (.take 5 ⟨(some 33), none, .fad 0 (.tmp 32)⟩ (.take 6 ⟨(some 34), none, .ld (.tmp 33)⟩ (.take 7 ⟨(some 35), none, .ld (.tmp 2)⟩ (.take 8 ⟨(some 36), none, .nck (.tmp 35)⟩ (.take 9 ⟨(some 37), none, .fad 1 (.tmp 36)⟩ (.take 10 ⟨(some 38), none, .ld (.tmp 37)⟩ (.take 12 ⟨(some 40), none, .mkf (.func 76) [] [(.tmp 2), (.tmp 3)]⟩ (.step 11 true ⟨(some 39), none, .call 72 [(.tmp 38)]⟩ (.step 13 true ⟨(some 41), none, .call 75 [(.tmp 39), (.tmp 40)]⟩ (.take 14 ⟨(some 42), none, .ibin .add .i64 (.tmp 34) (.tmp 41)⟩ (.take 15 ⟨(some 4), none, .mv (.tmp 42)⟩ (.take 16 ⟨(some 5), none, .mv (.const (.int .i64 0))⟩ .done))))))))))))))))))
 (.prune [4, 5] .ret))))))
theorem ok40 : fits Try.prog 40 ⟨s40, 43, [.tmp 4, .tmp 5]⟩ = some ⟨s40, 43, [.tmp 4, .tmp 5]⟩ := by kernel_rfl
theorem go40 {args : List Value} {w : World} {R : Value → World → Prop} (hle : Nat.ble args.length 43 = true) (h : vc Try.prog 43 s40 (argEnv args 0) w (fun L w => resL L w [.tmp 4, .tmp 5] fun vs => oneOr vs fun v => R v w) (fun _ _ _ => False) (fun L w => resL L w [.tmp 4, .tmp 5] fun vs => oneOr vs fun v => R v w)) : Cal Try.prog 40 ⟨args⟩ w R := cal_of mo ok40 hle h

-- (*footbridge/window.Window).Total
def s41 : S := (.seq (.row [⟨(some 2), none, .mv (.const (.int .i64 0))⟩])
 (.prune [0] (.seq (.seq (.row [⟨(some 3), none, .mv (.tmp 0)⟩,
   ⟨(some 4), none, .isnil 0 false (.tmp 3)⟩])
 (.prune [4, 0] (.cond (.tmp 4)
  (.seq (.row [⟨(some 2), none, .mv (.const (.int .i64 0))⟩])
  (.prune [2] .ret))
  .skip)))
 (.prune [0] (.seq (.row [⟨(some 5), none, .mv (.tmp 0)⟩,
   ⟨(some 6), none, .mv (.tmp 0)⟩,
   ⟨(some 7), none, .call 38 [(.tmp 6)]⟩,
   ⟨(some 8), none, .ibin .sub .i64 (.tmp 7) (.const (.int .i64 1))⟩,
   ⟨(some 9), none, .call 74 [(.tmp 5), (.tmp 8)]⟩,
   ⟨(some 2), none, .mv (.tmp 9)⟩])
 (.prune [2] .ret))))))
theorem ok41 : fits Try.prog 41 ⟨s41, 10, [.tmp 2]⟩ = some ⟨s41, 10, [.tmp 2]⟩ := by kernel_rfl
theorem go41 {args : List Value} {w : World} {R : Value → World → Prop} (hle : Nat.ble args.length 10 = true) (h : vc Try.prog 10 s41 (argEnv args 0) w (fun L w => resL L w [.tmp 2] fun vs => oneOr vs fun v => R v w) (fun _ _ _ => False) (fun L w => resL L w [.tmp 2] fun vs => oneOr vs fun v => R v w)) : Cal Try.prog 41 ⟨args⟩ w R := cal_of mo ok41 hle h

-- (*footbridge/window.Window).Committed
def s42 : S := (.seq (.row [⟨(some 2), none, .mv (.const (.int .i64 0))⟩])
 (.prune [0] (.seq (.seq (.row [⟨(some 3), none, .mv (.tmp 0)⟩,
   ⟨(some 4), none, .isnil 0 false (.tmp 3)⟩])
 (.prune [4, 0] (.cond (.tmp 4)
  (.seq (.row [⟨(some 2), none, .mv (.const (.int .i64 0))⟩])
  (.prune [2] .ret))
  .skip)))
 (.prune [0] (.seq (.row [⟨(some 5), none, .mv (.tmp 0)⟩,
   ⟨(some 6), none, .nck (.tmp 5)⟩,
   ⟨(some 7), none, .fad 3 (.tmp 6)⟩,
   ⟨(some 8), none, .ld (.tmp 7)⟩,
   ⟨(some 2), none, .mv (.tmp 8)⟩])
 (.prune [2] .ret))))))
theorem ok42 : fits Try.prog 42 ⟨s42, 9, [.tmp 2]⟩ = some ⟨s42, 9, [.tmp 2]⟩ := by kernel_rfl
theorem go42 {args : List Value} {w : World} {R : Value → World → Prop} (hle : Nat.ble args.length 9 = true) (h : vc Try.prog 9 s42 (argEnv args 0) w (fun L w => resL L w [.tmp 2] fun vs => oneOr vs fun v => R v w) (fun _ _ _ => False) (fun L w => resL L w [.tmp 2] fun vs => oneOr vs fun v => R v w)) : Cal Try.prog 42 ⟨args⟩ w R := cal_of mo ok42 hle h

-- footbridge/footbridgelaw21.is
def s43 : S := (.seq (.row [⟨(some 3), none, .box 60 (.tmp 1)⟩,
   ⟨(some 4), none, .mv (.const (.bool false))⟩])
 (.prune [0, 3] (.seq (.draw (.take 0 ⟨(some 5), none, .mv (.tmp 0)⟩ (.take 2 ⟨(some 7), none, .fad 0 (.tmp 3)⟩ (.take 3 ⟨(some 8), none, .ld (.tmp 7)⟩ (.take 4 ⟨(some 9), none, .lenA (.tmp 8)⟩ (.step 1 true ⟨(some 6), none, .call 38 [(.tmp 5)]⟩ (.take 5 ⟨(some 10), none, .ibin .eql .i64 (.tmp 6) (.tmp 9)⟩ (.take 6 ⟨(some 11), none, .mv (.tmp 10)⟩ (.take 7 ⟨(some 12), (some (11, true)), .mv (.tmp 0)⟩ (.take 9 ⟨(some 14), (some (11, true)), .fad 2 (.tmp 3)⟩ (.take 10 ⟨(some 15), (some (11, true)), .ld (.tmp 14)⟩ (.step 8 true ⟨(some 13), (some (11, true)), .call 42 [(.tmp 12)]⟩ (.take 11 ⟨(some 16), (some (11, true)), .ibin .eql .i64 (.tmp 13) (.tmp 15)⟩ (.take 12 ⟨(some 17), none, .pick (.tmp 11) (.tmp 16) (.const (.bool false))⟩ (.take 13 ⟨(some 18), none, .mv (.tmp 17)⟩ (.take 14 ⟨(some 19), (some (18, true)), .mv (.tmp 0)⟩ (.take 16 ⟨(some 21), (some (18, true)), .ldn 4 (.tmp 3)⟩ (.step 15 true ⟨(some 20), (some (18, true)), .call 37 [(.tmp 19)]⟩ (.step 17 true ⟨(some 22), (some (18, true)), .call 77 [(.tmp 21)]⟩ (.take 18 ⟨(some 23), (some (18, true)), .ibin .eql .i64 (.tmp 20) (.tmp 22)⟩ (.take 19 ⟨(some 24), none, .pick (.tmp 18) (.tmp 23) (.const (.bool false))⟩ (.take 20 ⟨(some 25), none, .mv (.tmp 24)⟩ (.take 21 ⟨(some 26), (some (25, true)), .mv (.tmp 0)⟩ (.take 23 ⟨(some 28), (some (25, true)), .ldn 4 (.tmp 3)⟩ (.step 22 true ⟨(some 27), (some (25, true)), .call 36 [(.tmp 26)]⟩ (.step 24 true ⟨(some 29), (some (25, true)), .call 78 [(.tmp 28)]⟩ (.take 25 ⟨(some 30), (some (25, true)), .ibin .eql .i64 (.tmp 27) (.tmp 29)⟩ (.take 26 ⟨(some 31), none, .pick (.tmp 25) (.tmp 30) (.const (.bool false))⟩ (.take 27 ⟨(some 32), none, .mv (.tmp 31)⟩ (.take 28 ⟨(some 33), (some (32, true)), .mv (.tmp 0)⟩ (.take 30 ⟨(some 35), (some (32, true)), .ldn 4 (.tmp 3)⟩ (.step 29 true ⟨(some 34), (some (32, true)), .call 41 [(.tmp 33)]⟩ (.step 31 true ⟨(some 36), (some (32, true)), .call 79 [(.tmp 35)]⟩ (.take 32 ⟨(some 37), (some (32, true)), .ibin .eql .i64 (.tmp 34) (.tmp 36)⟩ (.take 33 ⟨(some 38), none, .pick (.tmp 32) (.tmp 37) (.const (.bool false))⟩ (.take 34 ⟨(some 39), none, .mv (.tmp 38)⟩ (.take 35 ⟨(some 40), (some (39, true)), .mv (.tmp 0)⟩ (.take 37 ⟨(some 42), (some (39, true)), .fad 0 (.tmp 3)⟩ (.take 38 ⟨(some 43), (some (39, true)), .ld (.tmp 42)⟩ (.take 39 ⟨(some 44), (some (39, true)), .ldn 4 (.tmp 3)⟩ (.step 36 true ⟨(some 41), (some (39, true)), .call 50 [(.tmp 40)]⟩ (.step 40 true ⟨(some 45), (some (39, true)), .call 77 [(.tmp 44)]⟩ (.take 41 ⟨(some 46), (some (39, true)), .slc 1 (.tmp 43) (some (.tmp 45)) none⟩ (.step 42 true ⟨(some 47), (some (39, true)), .call 80 [(.tmp 41), (.tmp 46)]⟩ (.take 43 ⟨(some 48), none, .pick (.tmp 39) (.tmp 47) (.const (.bool false))⟩ (.take 44 ⟨(some 49), none, .mv (.tmp 48)⟩ (.take 45 ⟨(some 50), (some (49, true)), .mv (.tmp 0)⟩ (.take 47 ⟨(some 52), (some (49, true)), .ldn 4 (.tmp 3)⟩ (.step 46 true ⟨(some 51), (some (49, true)), .call 46 [(.tmp 50)]⟩ (.step 48 true ⟨(some 53), (some (49, true)), .call 82 [(.tmp 52)]⟩ (.step 49 true ⟨(some 54), (some (49, true)), .call 81 [(.tmp 51), (.tmp 53)]⟩ (.take 50 ⟨(some 55), none, .pick (.tmp 49) (.tmp 54) (.const (.bool false))⟩ (.take 51 ⟨(some 4), none, .mv (.tmp 55)⟩ .done)))))))))))))))))))))))))))))))))))))))))))))))))))))
 (.prune [4] .ret))))
theorem ok43 : fits Try.prog 43 ⟨s43, 56, [.tmp 4]⟩ = some ⟨s43, 56, [.tmp 4]⟩ := by kernel_rfl
theorem go43 {args : List Value} {w : World} {R : Value → World → Prop} (hle : Nat.ble args.length 56 = true) (h : vc Try.prog 56 s43 (argEnv args 0) w (fun L w => resL L w [.tmp 4] fun vs => oneOr vs fun v => R v w) (fun _ _ _ => False) (fun L w => resL L w [.tmp 4] fun vs => oneOr vs fun v => R v w)) : Cal Try.prog 43 ⟨args⟩ w R := cal_of mo ok43 hle h

-- (*footbridge/window.Window).Copy
def s44 : S := (.seq (.row [⟨(some 2), none, .mv (.const (.pointer none))⟩])
 (.prune [0] (.seq (.seq (.row [⟨(some 4), none, .mv (.tmp 0)⟩,
   ⟨(some 5), none, .isnil 0 false (.tmp 4)⟩])
 (.prune [5, 0] (.cond (.tmp 5)
  (.seq (.row [⟨(some 2), none, .mv (.const (.pointer none))⟩])
  (.prune [2] .ret))
  .skip)))
 (.prune [0] (.seq (.row [⟨(some 6), none, .mv (.tmp 0)⟩,
   ⟨(some 7), none, .nck (.tmp 6)⟩,
   ⟨(some 8), none, .fad 0 (.tmp 7)⟩,
   ⟨(some 9), none, .ld (.tmp 8)⟩,
   ⟨(some 10), none, .nck (.tmp 9)⟩,
   ⟨(some 11), none, .ldn 2 (.tmp 10)⟩,
   ⟨(some 3), none, .new [(.int .i64 0), (.int .i64 0)] 99⟩,
   ⟨none, none, .stn 2 (.tmp 3) (.tmp 11)⟩])
 (.prune [0, 3] (.seq (.draw (.take 0 ⟨(some 12), none, .mv (.tmp 0)⟩ (.take 1 ⟨(some 13), none, .nck (.tmp 12)⟩ (.take 2 ⟨(some 14), none, .fad 1 (.tmp 13)⟩ (.take 3 ⟨(some 15), none, .ld (.tmp 14)⟩ (.take 5 ⟨(some 17), none, .mv (.tmp 0)⟩ (.take 6 ⟨(some 18), none, .nck (.tmp 17)⟩ (.take 7 ⟨(some 19), none, .fad 2 (.tmp 18)⟩ (.take 8 ⟨(some 20), none, .ld (.tmp 19)⟩ (.take 9 ⟨(some 21), none, .mv (.tmp 0)⟩ (.take 10 ⟨(some 22), none, .nck (.tmp 21)⟩ (.take 11 ⟨(some 23), none, .fad 3 (.tmp 22)⟩ (.take 12 ⟨(some 24), none, .ld (.tmp 23)⟩ (.step 4 true ⟨(some 16), none, .call 83 [(.tmp 15)]⟩ (.take 13 ⟨(some 25), none, .bld [(.pointer none), (.pointer none), (.int .i64 0), (.int .i64 0)] [(0, 1), (1, 1), (2, 1), (3, 1)] [(.tmp 3), (.tmp 16), (.tmp 20), (.tmp 24)]⟩ (.step 14 true ⟨(some 26), none, .box 105 (.tmp 25)⟩ (.take 15 ⟨(some 2), none, .mv (.tmp 26)⟩ .done)))))))))))))))))
 (.prune [2] .ret))))))))
theorem ok44 : fits Try.prog 44 ⟨s44, 27, [.tmp 2]⟩ = some ⟨s44, 27, [.tmp 2]⟩ := by kernel_rfl
theorem go44 {args : List Value} {w : World} {R : Value → World → Prop} (hle : Nat.ble args.length 27 = true) (h : vc Try.prog 27 s44 (argEnv args 0) w (fun L w => resL L w [.tmp 2] fun vs => oneOr vs fun v => R v w) (fun _ _ _ => False) (fun L w => resL L w [.tmp 2] fun vs => oneOr vs fun v => R v w)) : Cal Try.prog 44 ⟨args⟩ w R := cal_of mo ok44 hle h

-- (*footbridge/window.Window).Token
def s45 : S := (.seq (.row [⟨(some 4), none, .mv (.const (.int .i64 0))⟩,
   ⟨(some 5), none, .mv (.const (.int .i64 0))⟩])
 (.prune [0, 1] (.seq (.row [⟨(some 9), none, .mv (.tmp 0)⟩,
   ⟨(some 10), none, .mv (.tmp 1)⟩,
   ⟨(some 11), none, .call 73 [(.tmp 9), (.tmp 10)]⟩,
   ⟨(some 8), none, .mv (.tmp 11)⟩,
   ⟨(some 12), none, .ext (.tmp 8) 0⟩,
   ⟨(some 13), none, .ext (.tmp 8) 1⟩,
   ⟨(some 6), none, .new [(.int .i64 0), (.int .i64 0)] 103⟩,
   ⟨none, none, .stn 2 (.tmp 6) (.tmp 12)⟩,
   ⟨(some 7), none, .mv (.tmp 13)⟩])
 (.prune [6, 7] (.seq (.row [⟨(some 14), none, .fad 0 (.tmp 6)⟩,
   ⟨(some 15), none, .ld (.tmp 14)⟩,
   ⟨(some 16), none, .mv (.tmp 7)⟩,
   ⟨(some 4), none, .mv (.tmp 15)⟩,
   ⟨(some 5), none, .mv (.tmp 16)⟩])
 (.prune [4, 5] .ret))))))
theorem ok45 : fits Try.prog 45 ⟨s45, 17, [.tmp 4, .tmp 5]⟩ = some ⟨s45, 17, [.tmp 4, .tmp 5]⟩ := by kernel_rfl
theorem go45 {args : List Value} {w : World} {R : Value → World → Prop} (hle : Nat.ble args.length 17 = true) (h : vc Try.prog 17 s45 (argEnv args 0) w (fun L w => resL L w [.tmp 4, .tmp 5] fun vs => oneOr vs fun v => R v w) (fun _ _ _ => False) (fun L w => resL L w [.tmp 4, .tmp 5] fun vs => oneOr vs fun v => R v w)) : Cal Try.prog 45 ⟨args⟩ w R := cal_of mo ok45 hle h

-- (*footbridge/window.Window).Cuts
def s46 : S := (.seq (.row [⟨(some 2), none, .new [(.int .i64 0), (.int .i64 0), (.slice none 0 0)] 78⟩])
 (.prune [0, 2] (.seq (.seq (.row [⟨(some 7), none, .mv (.tmp 0)⟩,
   ⟨(some 8), none, .isnil 0 false (.tmp 7)⟩])
 (.prune [8, 0, 2] (.cond (.tmp 8)
  (.seq (.row [⟨(some 9), none, .bld [(.int .i64 0), (.int .i64 0), (.slice none 0 0)] [] []⟩,
    ⟨none, none, .stn 3 (.tmp 2) (.tmp 9)⟩])
  (.prune [2] .ret))
  .skip)))
 (.prune [0, 2] (.seq (.draw (.take 0 ⟨(some 10), none, .mv (.tmp 0)⟩ (.take 1 ⟨(some 11), none, .nck (.tmp 10)⟩ (.take 2 ⟨(some 12), none, .fad 0 (.tmp 11)⟩ (.take 3 ⟨(some 13), none, .ld (.tmp 12)⟩ (.take 4 ⟨(some 14), none, .nck (.tmp 13)⟩ (.take 5 ⟨(some 15), none, .fad 0 (.tmp 14)⟩ (.take 6 ⟨(some 16), none, .ld (.tmp 15)⟩ (.take 7 ⟨(some 17), none, .mv (.tmp 0)⟩ (.take 8 ⟨(some 18), none, .nck (.tmp 17)⟩ (.take 9 ⟨(some 19), none, .fad 0 (.tmp 18)⟩ (.take 10 ⟨(some 20), none, .ld (.tmp 19)⟩ (.take 11 ⟨(some 21), none, .nck (.tmp 20)⟩ (.take 12 ⟨(some 22), none, .fad 1 (.tmp 21)⟩ (.take 13 ⟨(some 23), none, .ld (.tmp 22)⟩ (.take 14 ⟨(some 24), none, .bld [(.int .i64 0), (.int .i64 0), (.slice none 0 0)] [(0, 1), (1, 1)] [(.tmp 16), (.tmp 23)]⟩ (.step 15 true ⟨(some 3), none, .new [(.int .i64 0), (.int .i64 0), (.slice none 0 0)] 78⟩ (.step 16 false ⟨none, none, .stn 3 (.tmp 3) (.tmp 24)⟩ .done))))))))))))))))))
 (.prune [0, 3, 2] (.seq (.row [⟨(some 25), none, .mv (.tmp 0)⟩,
   ⟨(some 26), none, .nck (.tmp 25)⟩,
   ⟨(some 27), none, .fad 0 (.tmp 26)⟩,
   ⟨(some 28), none, .ld (.tmp 27)⟩,
   ⟨(some 29), none, .nck (.tmp 28)⟩,
   ⟨(some 30), none, .fad 1 (.tmp 29)⟩,
   ⟨(some 31), none, .ld (.tmp 30)⟩,
   ⟨(some 4), none, .mv (.tmp 31)⟩])
 (.prune [0, 3, 4, 2] (.seq (.seq (.row [⟨(some 32), none, .mv (.tmp 0)⟩,
   ⟨(some 33), none, .nck (.tmp 32)⟩,
   ⟨(some 34), none, .fad 1 (.tmp 33)⟩,
   ⟨(some 35), none, .ld (.tmp 34)⟩,
   ⟨(some 36), none, .call 84 [(.tmp 35)]⟩,
   ⟨(some 37), none, .lenA (.tmp 36)⟩,
   ⟨(some 38), none, .mv (.const (.int .i64 0))⟩])
 (.prune [38, 3, 4, 36, 2, 37] (.block 0 (.loop [4, 38] [4, 6, 38, 39, 40, 41, 42, 43, 44, 45, 46, 47, 48, 49, 50, 51, 52, 53] (.seq (.row [⟨(some 39), none, .ibin .lss .i64 (.tmp 38) (.tmp 37)⟩])
  (.prune [39, 4, 38, 3, 36, 2, 37] (.seq (.cond (.tmp 39)
   .skip
   (.exit 0))
  (.prune [4, 38, 3, 36, 2, 37] (.seq (.block 1 (.seq (.row [⟨(some 40), none, .ixA 2 (.tmp 36) (.tmp 38)⟩,
    ⟨(some 41), none, .ldn 2 (.tmp 40)⟩,
    ⟨(some 6), none, .new [(.int .i64 0), (.int .i64 0)] 103⟩,
    ⟨none, none, .stn 2 (.tmp 6) (.tmp 41)⟩])
  (.prune [4, 6, 38, 3, 36, 2, 37] (.seq (.row [⟨(some 42), none, .fad 2 (.tmp 3)⟩,
    ⟨(some 43), none, .ld (.tmp 42)⟩,
    ⟨(some 44), none, .fad 1 (.tmp 6)⟩,
    ⟨(some 45), none, .ld (.tmp 44)⟩,
    ⟨(some 46), none, .mv (.tmp 4)⟩,
    ⟨(some 47), none, .ibin .sub .i64 (.tmp 45) (.tmp 46)⟩,
    ⟨(some 48), none, .bsl 3 1 [(.int .i64 0)] [(0, 1)] [(.tmp 47)]⟩,
    ⟨(some 49), none, .run (.bi .append ⟨[56, 56]⟩ 56) [(.tmp 43), (.tmp 48)]⟩,
    ⟨(some 50), none, .fad 2 (.tmp 3)⟩,
    ⟨none, none, .st (.tmp 50) (.tmp 49)⟩])
  (.prune [6, 38, 3, 36, 2, 37] (.row [⟨(some 51), none, .fad 1 (.tmp 6)⟩,
    ⟨(some 52), none, .ld (.tmp 51)⟩,
    ⟨(some 4), none, .mv (.tmp 52)⟩]))))))
  (.prune [38, 3, 4, 36, 2, 37] (.row [⟨(some 53), none, .ibin .add .i64 (.tmp 38) (.const (.int .i64 1))⟩,
    ⟨(some 38), none, .mv (.tmp 53)⟩])))))))))))
 (.prune [3, 2] (.seq (.row [⟨(some 54), none, .ldn 3 (.tmp 3)⟩,
   ⟨none, none, .stn 3 (.tmp 2) (.tmp 54)⟩])
 (.prune [2] .ret))))))))))))
theorem ok46 : fits Try.prog 46 ⟨s46, 55, [.cell 2 (some 3)]⟩ = some ⟨s46, 55, [.cell 2 (some 3)]⟩ := by kernel_rfl
theorem go46 {args : List Value} {w : World} {R : Value → World → Prop} (hle : Nat.ble args.length 55 = true) (h : vc Try.prog 55 s46 (argEnv args 0) w (fun L w => resL L w [.cell 2 (some 3)] fun vs => oneOr vs fun v => R v w) (fun _ _ _ => False) (fun L w => resL L w [.cell 2 (some 3)] fun vs => oneOr vs fun v => R v w)) : Cal Try.prog 46 ⟨args⟩ w R := cal_of mo ok46 hle h

-- (*footbridge/window.Window).Push
def s47 : S := (.seq (.row [⟨(some 6), none, .mv (.const (.int .i64 0))⟩])
 (.prune [2, 0, 1] (.seq (.seq (.row [⟨(some 7), none, .mv (.tmp 0)⟩,
   ⟨(some 8), none, .isnil 0 false (.tmp 7)⟩,
   ⟨(some 9), none, .mv (.tmp 8)⟩,
   ⟨(some 10), (some (9, false)), .mv (.tmp 2)⟩,
   ⟨(some 11), (some (9, false)), .ibin .lss .i64 (.tmp 10) (.const (.int .i64 1))⟩,
   ⟨(some 12), none, .pick (.tmp 9) (.const (.bool true)) (.tmp 11)⟩,
   ⟨(some 13), none, .mv (.tmp 12)⟩,
   ⟨(some 14), (some (13, false)), .mv (.tmp 2)⟩,
   ⟨(some 15), (some (13, false)), .ibin .gtr .i64 (.tmp 14) (.const (.int .i64 64))⟩,
   ⟨(some 16), none, .pick (.tmp 13) (.const (.bool true)) (.tmp 15)⟩])
 (.prune [16, 2, 0, 1] (.cond (.tmp 16)
  (.seq (.row [⟨(some 6), none, .mv (.const (.int .i64 1))⟩])
  (.prune [6] .ret))
  .skip)))
 (.prune [1, 0, 2] (.seq (.seq (.draw (.take 0 ⟨(some 17), none, .mv (.tmp 0)⟩ (.take 1 ⟨(some 18), none, .nck (.tmp 17)⟩ (.take 2 ⟨(some 19), none, .fad 1 (.tmp 18)⟩ (.take 3 ⟨(some 20), none, .ld (.tmp 19)⟩ (.take 4 ⟨(some 21), none, .mv (.tmp 1)⟩ (.take 5 ⟨(some 22), none, .mv (.tmp 0)⟩ (.take 7 ⟨(some 24), none, .mv (.tmp 2)⟩ (.step 6 true ⟨(some 23), none, .call 41 [(.tmp 22)]⟩ (.take 8 ⟨(some 25), none, .ibin .add .i64 (.tmp 23) (.tmp 24)⟩ (.take 9 ⟨(some 26), none, .bld [(.int .i64 0), (.int .i64 0)] [(0, 1), (1, 1)] [(.tmp 21), (.tmp 25)]⟩ (.step 10 false ⟨(some 27), none, .call 85 [(.tmp 20), (.tmp 26)]⟩ (.take 11 ⟨(some 28), none, .notB (.tmp 27)⟩ .done)))))))))))))
 (.prune [28] (.cond (.tmp 28)
  (.seq (.row [⟨(some 6), none, .mv (.const (.int .i64 7))⟩])
  (.prune [6] .ret))
  .skip)))
 (.prune [] (.seq (.row [⟨(some 6), none, .mv (.const (.int .i64 0))⟩])
 (.prune [6] .ret))))))))
theorem ok47 : fits Try.prog 47 ⟨s47, 29, [.tmp 6]⟩ = some ⟨s47, 29, [.tmp 6]⟩ := by kernel_rfl
theorem go47 {args : List Value} {w : World} {R : Value → World → Prop} (hle : Nat.ble args.length 29 = true) (h : vc Try.prog 29 s47 (argEnv args 0) w (fun L w => resL L w [.tmp 6] fun vs => oneOr vs fun v => R v w) (fun _ _ _ => False) (fun L w => resL L w [.tmp 6] fun vs => oneOr vs fun v => R v w)) : Cal Try.prog 47 ⟨args⟩ w R := cal_of mo ok47 hle h

-- (*footbridge/window.Window).Retract
def s48 : S := (.seq (.row [⟨(some 4), none, .mv (.const (.int .i64 0))⟩])
 (.prune [1, 0] (.seq (.seq (.draw (.take 0 ⟨(some 5), none, .mv (.tmp 0)⟩ (.take 1 ⟨(some 6), none, .isnil 0 false (.tmp 5)⟩ (.take 2 ⟨(some 7), none, .mv (.tmp 6)⟩ (.take 3 ⟨(some 8), (some (7, false)), .mv (.tmp 1)⟩ (.take 4 ⟨(some 9), (some (7, false)), .ibin .lss .i64 (.tmp 8) (.const (.int .i64 0))⟩ (.take 5 ⟨(some 10), none, .pick (.tmp 7) (.const (.bool true)) (.tmp 9)⟩ (.take 6 ⟨(some 11), none, .mv (.tmp 10)⟩ (.take 7 ⟨(some 12), (some (11, false)), .mv (.tmp 1)⟩ (.take 8 ⟨(some 13), (some (11, false)), .mv (.tmp 0)⟩ (.take 10 ⟨(some 15), (some (11, false)), .mv (.tmp 0)⟩ (.take 11 ⟨(some 16), (some (11, false)), .nck (.tmp 15)⟩ (.take 12 ⟨(some 17), (some (11, false)), .fad 3 (.tmp 16)⟩ (.take 13 ⟨(some 18), (some (11, false)), .ld (.tmp 17)⟩ (.step 9 true ⟨(some 14), (some (11, false)), .call 38 [(.tmp 13)]⟩ (.take 14 ⟨(some 19), (some (11, false)), .ibin .sub .i64 (.tmp 14) (.tmp 18)⟩ (.take 15 ⟨(some 20), (some (11, false)), .ibin .gtr .i64 (.tmp 12) (.tmp 19)⟩ (.take 16 ⟨(some 21), none, .pick (.tmp 11) (.const (.bool true)) (.tmp 20)⟩ .done))))))))))))))))))
 (.prune [21, 1, 0] (.cond (.tmp 21)
  (.seq (.row [⟨(some 4), none, .mv (.const (.int .i64 1))⟩])
  (.prune [4] .ret))
  .skip)))
 (.prune [0, 1] (.seq (.draw (.take 0 ⟨(some 22), none, .mv (.tmp 0)⟩ (.take 1 ⟨(some 23), none, .nck (.tmp 22)⟩ (.take 2 ⟨(some 24), none, .fad 1 (.tmp 23)⟩ (.take 3 ⟨(some 25), none, .ld (.tmp 24)⟩ (.take 4 ⟨(some 26), none, .mv (.tmp 0)⟩ (.take 6 ⟨(some 28), none, .mv (.tmp 1)⟩ (.step 5 true ⟨(some 27), none, .call 38 [(.tmp 26)]⟩ (.take 7 ⟨(some 29), none, .ibin .sub .i64 (.tmp 27) (.tmp 28)⟩ (.step 8 false ⟨(some 30), none, .call 86 [(.tmp 25), (.tmp 29)]⟩ .done))))))))))
 (.prune [] (.seq (.row [⟨(some 4), none, .mv (.const (.int .i64 0))⟩])
 (.prune [4] .ret))))))))
theorem ok48 : fits Try.prog 48 ⟨s48, 31, [.tmp 4]⟩ = some ⟨s48, 31, [.tmp 4]⟩ := by kernel_rfl
theorem go48 {args : List Value} {w : World} {R : Value → World → Prop} (hle : Nat.ble args.length 31 = true) (h : vc Try.prog 31 s48 (argEnv args 0) w (fun L w => resL L w [.tmp 4] fun vs => oneOr vs fun v => R v w) (fun _ _ _ => False) (fun L w => resL L w [.tmp 4] fun vs => oneOr vs fun v => R v w)) : Cal Try.prog 48 ⟨args⟩ w R := cal_of mo ok48 hle h

-- (*footbridge/window.Window).Commit
def s49 : S := (.seq (.row [⟨(some 4), none, .mv (.const (.int .i64 0))⟩])
 (.prune [1, 0] (.seq (.seq (.row [⟨(some 7), none, .mv (.tmp 0)⟩,
   ⟨(some 8), none, .isnil 0 false (.tmp 7)⟩,
   ⟨(some 9), none, .mv (.tmp 8)⟩,
   ⟨(some 10), (some (9, false)), .mv (.tmp 1)⟩,
   ⟨(some 11), (some (9, false)), .mv (.tmp 0)⟩,
   ⟨(some 12), (some (9, false)), .nck (.tmp 11)⟩,
   ⟨(some 13), (some (9, false)), .fad 3 (.tmp 12)⟩,
   ⟨(some 14), (some (9, false)), .ld (.tmp 13)⟩,
   ⟨(some 15), (some (9, false)), .ibin .lss .i64 (.tmp 10) (.tmp 14)⟩,
   ⟨(some 16), none, .pick (.tmp 9) (.const (.bool true)) (.tmp 15)⟩,
   ⟨(some 17), none, .mv (.tmp 16)⟩,
   ⟨(some 18), (some (17, false)), .mv (.tmp 1)⟩,
   ⟨(some 19), (some (17, false)), .mv (.tmp 0)⟩,
   ⟨(some 20), (some (17, false)), .call 38 [(.tmp 19)]⟩,
   ⟨(some 21), (some (17, false)), .ibin .gtr .i64 (.tmp 18) (.tmp 20)⟩,
   ⟨(some 22), none, .pick (.tmp 17) (.const (.bool true)) (.tmp 21)⟩])
 (.prune [22, 1, 0] (.cond (.tmp 22)
  (.seq (.row [⟨(some 4), none, .mv (.const (.int .i64 1))⟩])
  (.prune [4] .ret))
  .skip)))
 (.prune [0, 1] (.seq (.row [⟨(some 23), none, .mv (.tmp 0)⟩,
   ⟨(some 24), none, .mv (.tmp 1)⟩,
   ⟨(some 25), none, .nck (.tmp 23)⟩,
   ⟨(some 26), none, .fad 3 (.tmp 25)⟩,
   ⟨none, none, .st (.tmp 26) (.tmp 24)⟩])
 (.prune [0, 1] (.seq (.block 0 (.loop [] [5, 6, 27, 28, 29, 30, 31, 32, 33, 34, 35, 36, 37, 38, 39, 40, 41, 42, 43, 44, 45, 46, 47, 48, 49, 50, 51, 52, 53, 54, 55, 56, 57, 58, 59, 60, 61, 62, 63, 64, 65, 66] (.seq (.seq (.draw (.take 0 ⟨(some 27), none, .mv (.tmp 0)⟩ (.take 1 ⟨(some 28), none, .nck (.tmp 27)⟩ (.take 2 ⟨(some 29), none, .fad 0 (.tmp 28)⟩ (.take 3 ⟨(some 30), none, .ld (.tmp 29)⟩ (.take 4 ⟨(some 31), none, .nck (.tmp 30)⟩ (.take 5 ⟨(some 32), none, .fad 0 (.tmp 31)⟩ (.take 6 ⟨(some 33), none, .ld (.tmp 32)⟩ (.take 7 ⟨(some 34), none, .mv (.tmp 1)⟩ (.take 8 ⟨(some 35), none, .mv (.tmp 0)⟩ (.take 9 ⟨(some 36), none, .nck (.tmp 35)⟩ (.take 10 ⟨(some 37), none, .fad 2 (.tmp 36)⟩ (.take 11 ⟨(some 38), none, .ld (.tmp 37)⟩ (.take 12 ⟨(some 39), none, .ibin .sub .i64 (.tmp 34) (.tmp 38)⟩ (.take 13 ⟨(some 40), none, .ibin .lss .i64 (.tmp 33) (.tmp 39)⟩ .done)))))))))))))))
  (.prune [40, 0, 1] (.cond (.tmp 40)
   .skip
   (.exit 0))))
  (.prune [0, 1] (.block 1 (.seq (.row [⟨(some 42), none, .mv (.tmp 0)⟩,
    ⟨(some 43), none, .nck (.tmp 42)⟩,
    ⟨(some 44), none, .fad 1 (.tmp 43)⟩,
    ⟨(some 45), none, .ld (.tmp 44)⟩,
    ⟨(some 46), none, .call 87 [(.tmp 45)]⟩,
    ⟨(some 41), none, .mv (.tmp 46)⟩,
    ⟨(some 47), none, .ext (.tmp 41) 0⟩,
    ⟨(some 48), none, .ext (.tmp 41) 1⟩,
    ⟨(some 5), none, .new [(.int .i64 0), (.int .i64 0)] 103⟩,
    ⟨none, none, .stn 2 (.tmp 5) (.tmp 47)⟩,
    ⟨(some 6), none, .mv (.tmp 48)⟩])
  (.prune [5, 0, 1] (.seq (.row [⟨(some 49), none, .mv (.tmp 0)⟩,
    ⟨(some 50), none, .nck (.tmp 49)⟩,
    ⟨(some 51), none, .fad 0 (.tmp 50)⟩,
    ⟨(some 52), none, .ld (.tmp 51)⟩,
    ⟨(some 53), none, .nck (.tmp 52)⟩,
    ⟨(some 54), none, .fad 0 (.tmp 53)⟩,
    ⟨(some 55), none, .ld (.tmp 54)⟩,
    ⟨(some 56), none, .ibin .add .i64 (.tmp 55) (.const (.int .i64 1))⟩,
    ⟨(some 57), none, .nck (.tmp 52)⟩,
    ⟨(some 58), none, .fad 0 (.tmp 57)⟩,
    ⟨none, none, .st (.tmp 58) (.tmp 56)⟩])
  (.prune [5, 0, 1] (.draw (.take 0 ⟨(some 59), none, .mv (.tmp 0)⟩ (.take 1 ⟨(some 60), none, .nck (.tmp 59)⟩ (.take 2 ⟨(some 61), none, .fad 0 (.tmp 60)⟩ (.take 3 ⟨(some 62), none, .ld (.tmp 61)⟩ (.take 4 ⟨(some 63), none, .fad 1 (.tmp 5)⟩ (.take 5 ⟨(some 64), none, .ld (.tmp 63)⟩ (.take 6 ⟨(some 65), none, .nck (.tmp 62)⟩ (.take 7 ⟨(some 66), none, .fad 1 (.tmp 65)⟩ (.step 8 false ⟨none, none, .st (.tmp 66) (.tmp 64)⟩ .done)))))))))))))))))))
 (.prune [] (.seq (.row [⟨(some 4), none, .mv (.const (.int .i64 0))⟩])
 (.prune [4] .ret))))))))))
theorem ok49 : fits Try.prog 49 ⟨s49, 67, [.tmp 4]⟩ = some ⟨s49, 67, [.tmp 4]⟩ := by kernel_rfl
theorem go49 {args : List Value} {w : World} {R : Value → World → Prop} (hle : Nat.ble args.length 67 = true) (h : vc Try.prog 67 s49 (argEnv args 0) w (fun L w => resL L w [.tmp 4] fun vs => oneOr vs fun v => R v w) (fun _ _ _ => False) (fun L w => resL L w [.tmp 4] fun vs => oneOr vs fun v => R v w)) : Cal Try.prog 49 ⟨args⟩ w R := cal_of mo ok49 hle h

-- (*footbridge/window.Window).Tokens
def s50 : S := (.seq (.row [⟨(some 2), none, .mv (.const (.slice none 0 0))⟩])
 (.prune [0] (.seq (.seq (.row [⟨(some 6), none, .mv (.tmp 0)⟩,
   ⟨(some 7), none, .isnil 0 false (.tmp 6)⟩])
 (.prune [7, 0] (.cond (.tmp 7)
  (.seq (.row [⟨(some 2), none, .mv (.const (.slice none 0 0))⟩])
  (.prune [2] .ret))
  .skip)))
 (.prune [0] (.seq (.row [⟨(some 3), none, .mv (.const (.slice none 0 0))⟩])
 (.prune [0, 3] (.seq (.seq (.row [⟨(some 8), none, .mv (.tmp 0)⟩,
   ⟨(some 9), none, .nck (.tmp 8)⟩,
   ⟨(some 10), none, .fad 1 (.tmp 9)⟩,
   ⟨(some 11), none, .ld (.tmp 10)⟩,
   ⟨(some 12), none, .call 84 [(.tmp 11)]⟩,
   ⟨(some 13), none, .lenA (.tmp 12)⟩,
   ⟨(some 14), none, .mv (.const (.int .i64 0))⟩])
 (.prune [14, 3, 12, 13] (.block 0 (.loop [3, 14] [3, 5, 14, 15, 16, 17, 18, 19, 20, 21, 22, 23] (.seq (.row [⟨(some 15), none, .ibin .lss .i64 (.tmp 14) (.tmp 13)⟩])
  (.prune [15, 3, 14, 12, 13] (.seq (.cond (.tmp 15)
   .skip
   (.exit 0))
  (.prune [3, 14, 12, 13] (.seq (.block 1 (.seq (.row [⟨(some 16), none, .ixA 2 (.tmp 12) (.tmp 14)⟩,
    ⟨(some 17), none, .ldn 2 (.tmp 16)⟩,
    ⟨(some 5), none, .new [(.int .i64 0), (.int .i64 0)] 103⟩,
    ⟨none, none, .stn 2 (.tmp 5) (.tmp 17)⟩])
  (.prune [3, 5, 14, 12, 13] (.row [⟨(some 18), none, .mv (.tmp 3)⟩,
    ⟨(some 19), none, .fad 0 (.tmp 5)⟩,
    ⟨(some 20), none, .ld (.tmp 19)⟩,
    ⟨(some 21), none, .bsl 3 1 [(.int .i64 0)] [(0, 1)] [(.tmp 20)]⟩,
    ⟨(some 22), none, .run (.bi .append ⟨[56, 56]⟩ 56) [(.tmp 18), (.tmp 21)]⟩,
    ⟨(some 3), none, .mv (.tmp 22)⟩]))))
  (.prune [14, 3, 12, 13] (.row [⟨(some 23), none, .ibin .add .i64 (.tmp 14) (.const (.int .i64 1))⟩,
    ⟨(some 14), none, .mv (.tmp 23)⟩])))))))))))
 (.prune [3] (.seq (.row [⟨(some 24), none, .mv (.tmp 3)⟩,
   ⟨(some 2), none, .mv (.tmp 24)⟩])
 (.prune [2] .ret))))))))))
theorem ok50 : fits Try.prog 50 ⟨s50, 25, [.tmp 2]⟩ = some ⟨s50, 25, [.tmp 2]⟩ := by kernel_rfl
theorem go50 {args : List Value} {w : World} {R : Value → World → Prop} (hle : Nat.ble args.length 25 = true) (h : vc Try.prog 25 s50 (argEnv args 0) w (fun L w => resL L w [.tmp 2] fun vs => oneOr vs fun v => R v w) (fun _ _ _ => False) (fun L w => resL L w [.tmp 2] fun vs => oneOr vs fun v => R v w)) : Cal Try.prog 50 ⟨args⟩ w R := cal_of mo ok50 hle h

-- (*footbridge/ring.Ring[byte]).take
def s51 : S := (.seq (.row [⟨(some 4), none, .mv (.const (.int .u8 0))⟩])
 (.prune [1, 0] (.seq (.row [⟨(some 5), none, .mv (.const (.int .u8 0))⟩])
 (.prune [1, 0, 5] (.seq (.row [⟨(some 8), none, .mv (.tmp 0)⟩,
   ⟨(some 9), none, .mv (.tmp 1)⟩,
   ⟨(some 10), none, .call 52 [(.tmp 8), (.tmp 9)]⟩,
   ⟨(some 6), none, .mv (.tmp 10)⟩])
 (.prune [0, 6, 5] (.seq (.row [⟨(some 11), none, .mv (.tmp 0)⟩,
   ⟨(some 12), none, .nck (.tmp 11)⟩,
   ⟨(some 13), none, .fad 0 (.tmp 12)⟩,
   ⟨(some 14), none, .ld (.tmp 13)⟩,
   ⟨(some 15), none, .mv (.tmp 6)⟩,
   ⟨(some 16), none, .ixA 1 (.tmp 14) (.tmp 15)⟩,
   ⟨(some 17), none, .ld (.tmp 16)⟩,
   ⟨(some 7), none, .mv (.tmp 17)⟩])
 (.prune [0, 6, 5, 7] (.seq (.row [⟨(some 18), none, .mv (.tmp 0)⟩,
   ⟨(some 19), none, .nck (.tmp 18)⟩,
   ⟨(some 20), none, .fad 0 (.tmp 19)⟩,
   ⟨(some 21), none, .ld (.tmp 20)⟩,
   ⟨(some 22), none, .mv (.tmp 6)⟩,
   ⟨(some 23), none, .mv (.tmp 5)⟩,
   ⟨(some 24), none, .ixA 1 (.tmp 21) (.tmp 22)⟩,
   ⟨none, none, .st (.tmp 24) (.tmp 23)⟩])
 (.prune [7] (.seq (.row [⟨(some 25), none, .mv (.tmp 7)⟩,
   ⟨(some 4), none, .mv (.tmp 25)⟩])
 (.prune [4] .ret))))))))))))
theorem ok51 : fits Try.prog 51 ⟨s51, 26, [.tmp 4]⟩ = some ⟨s51, 26, [.tmp 4]⟩ := by kernel_rfl
theorem go51 {args : List Value} {w : World} {R : Value → World → Prop} (hle : Nat.ble args.length 26 = true) (h : vc Try.prog 26 s51 (argEnv args 0) w (fun L w => resL L w [.tmp 4] fun vs => oneOr vs fun v => R v w) (fun _ _ _ => False) (fun L w => resL L w [.tmp 4] fun vs => oneOr vs fun v => R v w)) : Cal Try.prog 51 ⟨args⟩ w R := cal_of mo ok51 hle h

-- (*footbridge/ring.Ring[byte]).place
def s52 : S := (.seq (.row [⟨(some 4), none, .mv (.const (.int .i64 0))⟩])
 (.prune [1, 0] (.seq (.draw (.take 0 ⟨(some 5), none, .mv (.tmp 0)⟩ (.take 1 ⟨(some 6), none, .nck (.tmp 5)⟩ (.take 2 ⟨(some 7), none, .fad 1 (.tmp 6)⟩ (.take 3 ⟨(some 8), none, .ld (.tmp 7)⟩ (.take 4 ⟨(some 9), none, .mv (.tmp 1)⟩ (.take 5 ⟨(some 10), none, .ibin .add .i64 (.tmp 8) (.tmp 9)⟩ (.take 6 ⟨(some 11), none, .mv (.tmp 0)⟩ (.take 7 ⟨(some 12), none, .nck (.tmp 11)⟩ (.take 8 ⟨(some 13), none, .fad 0 (.tmp 12)⟩ (.take 9 ⟨(some 14), none, .ld (.tmp 13)⟩ (.take 10 ⟨(some 15), none, .lenA (.tmp 14)⟩ (.take 11 ⟨(some 16), none, .ibin .rem .i64 (.tmp 10) (.tmp 15)⟩ (.take 12 ⟨(some 4), none, .mv (.tmp 16)⟩ .done))))))))))))))
 (.prune [4] .ret))))
theorem ok52 : fits Try.prog 52 ⟨s52, 17, [.tmp 4]⟩ = some ⟨s52, 17, [.tmp 4]⟩ := by kernel_rfl
theorem go52 {args : List Value} {w : World} {R : Value → World → Prop} (hle : Nat.ble args.length 17 = true) (h : vc Try.prog 17 s52 (argEnv args 0) w (fun L w => resL L w [.tmp 4] fun vs => oneOr vs fun v => R v w) (fun _ _ _ => False) (fun L w => resL L w [.tmp 4] fun vs => oneOr vs fun v => R v w)) : Cal Try.prog 52 ⟨args⟩ w R := cal_of mo ok52 hle h

-- (*footbridge/ring.Ring[byte]).grow
def s53 : S := (.seq (.draw (.take 0 ⟨(some 4), none, .mv (.tmp 0)⟩ (.take 1 ⟨(some 5), none, .nck (.tmp 4)⟩ (.take 2 ⟨(some 6), none, .fad 4 (.tmp 5)⟩ (.take 3 ⟨(some 7), none, .ld (.tmp 6)⟩ (.take 4 ⟨(some 8), none, .mv (.tmp 0)⟩ (.take 5 ⟨(some 9), none, .nck (.tmp 8)⟩ (.take 6 ⟨(some 10), none, .fad 0 (.tmp 9)⟩ (.take 7 ⟨(some 11), none, .ld (.tmp 10)⟩ (.take 8 ⟨(some 12), none, .lenA (.tmp 11)⟩ (.take 9 ⟨(some 13), none, .ibin .mul .i64 (.const (.int .i64 2)) (.tmp 12)⟩ (.take 10 ⟨(some 14), none, .mm true .i64 (.const (.int .i64 8)) (.tmp 13)⟩ (.take 11 ⟨(some 15), none, .mm false .i64 (.tmp 7) (.tmp 14)⟩ (.step 12 true ⟨(some 16), none, .run (.makeSlice 22) [(.tmp 15), (.tmp 15)]⟩ (.take 13 ⟨(some 2), none, .mv (.tmp 16)⟩ .done)))))))))))))))
 (.prune [0, 2] (.seq (.draw (.take 0 ⟨(some 17), none, .mv (.tmp 2)⟩ (.take 1 ⟨(some 18), none, .mv (.tmp 0)⟩ (.take 2 ⟨(some 19), none, .nck (.tmp 18)⟩ (.take 3 ⟨(some 20), none, .fad 0 (.tmp 19)⟩ (.take 4 ⟨(some 21), none, .ld (.tmp 20)⟩ (.take 5 ⟨(some 22), none, .mv (.tmp 0)⟩ (.take 6 ⟨(some 23), none, .nck (.tmp 22)⟩ (.take 7 ⟨(some 24), none, .fad 1 (.tmp 23)⟩ (.take 8 ⟨(some 25), none, .ld (.tmp 24)⟩ (.take 9 ⟨(some 26), none, .slc 1 (.tmp 21) (some (.tmp 25)) none⟩ (.step 10 true ⟨(some 27), none, .run (.bi .copy ⟨[22, 22]⟩ 3) [(.tmp 17), (.tmp 26)]⟩ (.take 11 ⟨(some 3), none, .mv (.tmp 27)⟩ .done)))))))))))))
 (.prune [3, 0, 2] (.seq (.draw (.take 0 ⟨(some 28), none, .mv (.tmp 2)⟩ (.take 1 ⟨(some 29), none, .mv (.tmp 3)⟩ (.take 2 ⟨(some 30), none, .slc 1 (.tmp 28) (some (.tmp 29)) none⟩ (.take 3 ⟨(some 31), none, .mv (.tmp 0)⟩ (.take 4 ⟨(some 32), none, .nck (.tmp 31)⟩ (.take 5 ⟨(some 33), none, .fad 0 (.tmp 32)⟩ (.take 6 ⟨(some 34), none, .ld (.tmp 33)⟩ (.take 7 ⟨(some 35), none, .mv (.tmp 0)⟩ (.take 8 ⟨(some 36), none, .nck (.tmp 35)⟩ (.take 9 ⟨(some 37), none, .fad 1 (.tmp 36)⟩ (.take 10 ⟨(some 38), none, .ld (.tmp 37)⟩ (.take 11 ⟨(some 39), none, .slc 1 (.tmp 34) none (some (.tmp 38))⟩ (.step 12 true ⟨(some 40), none, .run (.bi .copy ⟨[22, 22]⟩ 3) [(.tmp 30), (.tmp 39)]⟩ .done))))))))))))))
 (.prune [0, 2] (.row [⟨(some 41), none, .mv (.tmp 0)⟩,
   ⟨(some 42), none, .mv (.tmp 0)⟩,
   ⟨(some 43), none, .mv (.tmp 2)⟩,
   ⟨(some 44), none, .nck (.tmp 41)⟩,
   ⟨(some 45), none, .fad 0 (.tmp 44)⟩,
   ⟨none, none, .st (.tmp 45) (.tmp 43)⟩,
   ⟨(some 46), none, .nck (.tmp 42)⟩,
   ⟨(some 47), none, .fad 1 (.tmp 46)⟩,
   ⟨none, none, .st (.tmp 47) (.const (.int .i64 0))⟩])))))))
theorem ok53 : fits Try.prog 53 ⟨s53, 48, []⟩ = some ⟨s53, 48, []⟩ := by kernel_rfl
theorem go53 {args : List Value} {w : World} {R : Value → World → Prop} (hle : Nat.ble args.length 48 = true) (h : vc Try.prog 48 s53 (argEnv args 0) w (fun L w => resL L w [] fun vs => oneOr vs fun v => R v w) (fun _ _ _ => False) (fun L w => resL L w [] fun vs => oneOr vs fun v => R v w)) : Cal Try.prog 53 ⟨args⟩ w R := cal_of mo ok53 hle h

-- footbridge/footbridgeref05.Push
def s54 : S := (.seq (.row [⟨(some 2), none, .box 37 (.tmp 0)⟩,
   ⟨(some 4), none, .new [(.slice none 0 0), (.int .i64 0), (.int .i64 0)] 37⟩,
   ⟨(some 5), none, .mv (.const (.bool false))⟩])
 (.prune [1, 2, 4] (.seq (.seq (.row [⟨(some 7), none, .fad 0 (.tmp 2)⟩,
   ⟨(some 8), none, .ld (.tmp 7)⟩,
   ⟨(some 9), none, .lenA (.tmp 8)⟩,
   ⟨(some 10), none, .fad 2 (.tmp 2)⟩,
   ⟨(some 11), none, .ld (.tmp 10)⟩,
   ⟨(some 12), none, .ibin .geq .i64 (.tmp 9) (.tmp 11)⟩])
 (.prune [12, 1, 2, 4] (.cond (.tmp 12)
  (.seq (.row [⟨(some 13), none, .ldn 3 (.tmp 2)⟩,
    ⟨none, none, .stn 3 (.tmp 4) (.tmp 13)⟩,
    ⟨(some 5), none, .mv (.const (.bool false))⟩])
  (.prune [4, 5] .ret))
  .skip)))
 (.prune [1, 2, 4] (.seq (.row [⟨(some 14), none, .bsl 21 0 [] [] []⟩,
   ⟨(some 6), none, .mv (.tmp 14)⟩])
 (.prune [6, 1, 2, 4] (.seq (.row [⟨(some 15), none, .mv (.tmp 6)⟩,
   ⟨(some 16), none, .fad 0 (.tmp 2)⟩,
   ⟨(some 17), none, .ld (.tmp 16)⟩,
   ⟨(some 18), none, .run (.bi .append ⟨[35, 35]⟩ 35) [(.tmp 15), (.tmp 17)]⟩,
   ⟨(some 6), none, .mv (.tmp 18)⟩])
 (.prune [6, 1, 2, 4] (.seq (.row [⟨(some 19), none, .mv (.tmp 6)⟩,
   ⟨(some 20), none, .mv (.tmp 1)⟩,
   ⟨(some 21), none, .bsl 21 1 [(.int .i32 0)] [(0, 1)] [(.tmp 20)]⟩,
   ⟨(some 22), none, .run (.bi .append ⟨[35, 35]⟩ 35) [(.tmp 19), (.tmp 21)]⟩,
   ⟨(some 6), none, .mv (.tmp 22)⟩])
 (.prune [6, 2, 4] (.seq (.row [⟨(some 23), none, .mv (.tmp 6)⟩,
   ⟨(some 24), none, .fad 1 (.tmp 2)⟩,
   ⟨(some 25), none, .ld (.tmp 24)⟩,
   ⟨(some 26), none, .fad 2 (.tmp 2)⟩,
   ⟨(some 27), none, .ld (.tmp 26)⟩,
   ⟨(some 28), none, .bld [(.slice none 0 0), (.int .i64 0), (.int .i64 0)] [(0, 1), (1, 1), (2, 1)] [(.tmp 23), (.tmp 25), (.tmp 27)]⟩,
   ⟨none, none, .stn 3 (.tmp 4) (.tmp 28)⟩,
   ⟨(some 5), none, .mv (.const (.bool true))⟩])
 (.prune [4, 5] .ret))))))))))))
theorem ok54 : fits Try.prog 54 ⟨s54, 29, [.cell 4 (some 3), .tmp 5]⟩ = some ⟨s54, 29, [.cell 4 (some 3), .tmp 5]⟩ := by kernel_rfl
theorem go54 {args : List Value} {w : World} {R : Value → World → Prop} (hle : Nat.ble args.length 29 = true) (h : vc Try.prog 29 s54 (argEnv args 0) w (fun L w => resL L w [.cell 4 (some 3), .tmp 5] fun vs => oneOr vs fun v => R v w) (fun _ _ _ => False) (fun L w => resL L w [.cell 4 (some 3), .tmp 5] fun vs => oneOr vs fun v => R v w)) : Cal Try.prog 54 ⟨args⟩ w R := cal_of mo ok54 hle h

-- footbridge/footbridgeref05.At
def s55 : S := (.seq (.row [⟨(some 2), none, .box 37 (.tmp 0)⟩,
   ⟨(some 4), none, .mv (.const (.int .i32 0))⟩,
   ⟨(some 5), none, .mv (.const (.bool false))⟩])
 (.prune [2, 1] (.seq (.seq (.row [⟨(some 7), none, .fad 0 (.tmp 2)⟩,
   ⟨(some 8), none, .ld (.tmp 7)⟩,
   ⟨(some 9), none, .lenA (.tmp 8)⟩,
   ⟨(some 10), none, .mv (.const (.int .i64 0))⟩])
 (.prune [2, 10, 1, 9] (.block 0 (.loop [10] [4, 5, 6, 10, 11, 12, 13, 14, 15, 16, 17, 18, 19, 20, 21, 22, 23, 24] (.seq (.row [⟨(some 11), none, .ibin .lss .i64 (.tmp 10) (.tmp 9)⟩])
  (.prune [11, 9, 1, 10, 2] (.seq (.cond (.tmp 11)
   .skip
   (.exit 0))
  (.prune [9, 1, 10, 2] (.seq (.block 1 (.seq (.row [⟨(some 12), none, .mv (.tmp 10)⟩,
    ⟨(some 6), none, .mv (.tmp 12)⟩])
  (.prune [9, 1, 10, 2, 6] (.seq (.row [⟨(some 13), none, .fad 1 (.tmp 2)⟩,
    ⟨(some 14), none, .ld (.tmp 13)⟩,
    ⟨(some 15), none, .mv (.tmp 6)⟩,
    ⟨(some 16), none, .ibin .add .i64 (.tmp 14) (.tmp 15)⟩,
    ⟨(some 17), none, .mv (.tmp 1)⟩,
    ⟨(some 18), none, .ibin .eql .i64 (.tmp 16) (.tmp 17)⟩])
  (.prune [18, 9, 1, 10, 2, 6] (.cond (.tmp 18)
   (.seq (.row [⟨(some 19), none, .fad 0 (.tmp 2)⟩,
     ⟨(some 20), none, .ld (.tmp 19)⟩,
     ⟨(some 21), none, .mv (.tmp 6)⟩,
     ⟨(some 22), none, .ixA 1 (.tmp 20) (.tmp 21)⟩,
     ⟨(some 23), none, .ld (.tmp 22)⟩,
     ⟨(some 4), none, .mv (.tmp 23)⟩,
     ⟨(some 5), none, .mv (.const (.bool true))⟩])
   (.prune [4, 5] .ret))
   .skip))))))
  (.prune [10, 2, 1, 9] (.row [⟨(some 24), none, .ibin .add .i64 (.tmp 10) (.const (.int .i64 1))⟩,
    ⟨(some 10), none, .mv (.tmp 24)⟩])))))))))))
 (.prune [] (.seq (.row [⟨(some 4), none, .mv (.const (.int .i32 0))⟩,
   ⟨(some 5), none, .mv (.const (.bool false))⟩])
 (.prune [4, 5] .ret))))))
theorem ok55 : fits Try.prog 55 ⟨s55, 25, [.tmp 4, .tmp 5]⟩ = some ⟨s55, 25, [.tmp 4, .tmp 5]⟩ := by kernel_rfl
theorem go55 {args : List Value} {w : World} {R : Value → World → Prop} (hle : Nat.ble args.length 25 = true) (h : vc Try.prog 25 s55 (argEnv args 0) w (fun L w => resL L w [.tmp 4, .tmp 5] fun vs => oneOr vs fun v => R v w) (fun _ _ _ => False) (fun L w => resL L w [.tmp 4, .tmp 5] fun vs => oneOr vs fun v => R v w)) : Cal Try.prog 55 ⟨args⟩ w R := cal_of mo ok55 hle h

-- footbridge/footbridgeref05.Cut
def s56 : S := (.seq (.row [⟨(some 2), none, .box 37 (.tmp 0)⟩,
   ⟨(some 4), none, .new [(.slice none 0 0), (.int .i64 0), (.int .i64 0)] 37⟩,
   ⟨(some 5), none, .mv (.const (.bool false))⟩])
 (.prune [1, 2, 4] (.seq (.seq (.row [⟨(some 8), none, .mv (.tmp 1)⟩,
   ⟨(some 9), none, .fad 1 (.tmp 2)⟩,
   ⟨(some 10), none, .ld (.tmp 9)⟩,
   ⟨(some 11), none, .ibin .lss .i64 (.tmp 8) (.tmp 10)⟩,
   ⟨(some 12), none, .mv (.tmp 11)⟩,
   ⟨(some 13), (some (12, false)), .mv (.tmp 1)⟩,
   ⟨(some 14), (some (12, false)), .fad 1 (.tmp 2)⟩,
   ⟨(some 15), (some (12, false)), .ld (.tmp 14)⟩,
   ⟨(some 16), (some (12, false)), .fad 0 (.tmp 2)⟩,
   ⟨(some 17), (some (12, false)), .ld (.tmp 16)⟩,
   ⟨(some 18), (some (12, false)), .lenA (.tmp 17)⟩,
   ⟨(some 19), (some (12, false)), .ibin .add .i64 (.tmp 15) (.tmp 18)⟩,
   ⟨(some 20), (some (12, false)), .ibin .gtr .i64 (.tmp 13) (.tmp 19)⟩,
   ⟨(some 21), none, .pick (.tmp 12) (.const (.bool true)) (.tmp 20)⟩])
 (.prune [21, 1, 2, 4] (.cond (.tmp 21)
  (.seq (.row [⟨(some 22), none, .ldn 3 (.tmp 2)⟩,
    ⟨none, none, .stn 3 (.tmp 4) (.tmp 22)⟩,
    ⟨(some 5), none, .mv (.const (.bool false))⟩])
  (.prune [4, 5] .ret))
  .skip)))
 (.prune [2, 4, 1] (.seq (.row [⟨(some 23), none, .bsl 21 0 [] [] []⟩,
   ⟨(some 6), none, .mv (.tmp 23)⟩])
 (.prune [2, 6, 4, 1] (.seq (.seq (.row [⟨(some 7), none, .mv (.const (.int .i64 0))⟩])
 (.prune [7, 2, 6, 4, 1] (.block 0 (.loop [6, 7] [6, 7, 24, 25, 26, 27, 28, 29, 30, 31, 32, 33, 34, 35, 36, 37, 38, 39] (.seq (.seq (.row [⟨(some 24), none, .mv (.tmp 7)⟩,
    ⟨(some 25), none, .mv (.tmp 1)⟩,
    ⟨(some 26), none, .fad 1 (.tmp 2)⟩,
    ⟨(some 27), none, .ld (.tmp 26)⟩,
    ⟨(some 28), none, .ibin .sub .i64 (.tmp 25) (.tmp 27)⟩,
    ⟨(some 29), none, .ibin .lss .i64 (.tmp 24) (.tmp 28)⟩])
  (.prune [29, 6, 7, 2, 4, 1] (.cond (.tmp 29)
   .skip
   (.exit 0))))
  (.prune [6, 7, 2, 4, 1] (.seq (.block 1 (.row [⟨(some 32), none, .mv (.tmp 6)⟩,
    ⟨(some 33), none, .fad 0 (.tmp 2)⟩,
    ⟨(some 34), none, .ld (.tmp 33)⟩,
    ⟨(some 35), none, .mv (.tmp 7)⟩,
    ⟨(some 36), none, .ixA 1 (.tmp 34) (.tmp 35)⟩,
    ⟨(some 37), none, .ld (.tmp 36)⟩,
    ⟨(some 38), none, .bsl 21 1 [(.int .i32 0)] [(0, 1)] [(.tmp 37)]⟩,
    ⟨(some 39), none, .run (.bi .append ⟨[35, 35]⟩ 35) [(.tmp 32), (.tmp 38)]⟩,
    ⟨(some 6), none, .mv (.tmp 39)⟩]))
  (.prune [7, 2, 6, 4, 1] (.row [⟨(some 30), none, .mv (.tmp 7)⟩,
    ⟨(some 31), none, .ibin .add .i64 (.tmp 30) (.const (.int .i64 1))⟩,
    ⟨(some 7), none, .mv (.tmp 31)⟩])))))))))
 (.prune [6, 2, 4] (.seq (.row [⟨(some 40), none, .mv (.tmp 6)⟩,
   ⟨(some 41), none, .fad 1 (.tmp 2)⟩,
   ⟨(some 42), none, .ld (.tmp 41)⟩,
   ⟨(some 43), none, .fad 2 (.tmp 2)⟩,
   ⟨(some 44), none, .ld (.tmp 43)⟩,
   ⟨(some 45), none, .bld [(.slice none 0 0), (.int .i64 0), (.int .i64 0)] [(0, 1), (1, 1), (2, 1)] [(.tmp 40), (.tmp 42), (.tmp 44)]⟩,
   ⟨none, none, .stn 3 (.tmp 4) (.tmp 45)⟩,
   ⟨(some 5), none, .mv (.const (.bool true))⟩])
 (.prune [4, 5] .ret))))))))))
theorem ok56 : fits Try.prog 56 ⟨s56, 46, [.cell 4 (some 3), .tmp 5]⟩ = some ⟨s56, 46, [.cell 4 (some 3), .tmp 5]⟩ := by kernel_rfl
theorem go56 {args : List Value} {w : World} {R : Value → World → Prop} (hle : Nat.ble args.length 46 = true) (h : vc Try.prog 46 s56 (argEnv args 0) w (fun L w => resL L w [.cell 4 (some 3), .tmp 5] fun vs => oneOr vs fun v => R v w) (fun _ _ _ => False) (fun L w => resL L w [.cell 4 (some 3), .tmp 5] fun vs => oneOr vs fun v => R v w)) : Cal Try.prog 56 ⟨args⟩ w R := cal_of mo ok56 hle h

-- footbridge/footbridgeref05.Shift
def s57 : S := (.seq (.row [⟨(some 1), none, .box 37 (.tmp 0)⟩,
   ⟨(some 2), none, .new [(.slice none 0 0), (.int .i64 0), (.int .i64 0)] 37⟩,
   ⟨(some 3), none, .mv (.const (.int .i32 0))⟩,
   ⟨(some 4), none, .mv (.const (.bool false))⟩])
 (.prune [1, 2] (.seq (.seq (.row [⟨(some 6), none, .fad 0 (.tmp 1)⟩,
   ⟨(some 7), none, .ld (.tmp 6)⟩,
   ⟨(some 8), none, .lenA (.tmp 7)⟩,
   ⟨(some 9), none, .ibin .eql .i64 (.tmp 8) (.const (.int .i64 0))⟩])
 (.prune [9, 1, 2] (.cond (.tmp 9)
  (.seq (.row [⟨(some 10), none, .ldn 3 (.tmp 1)⟩,
    ⟨none, none, .stn 3 (.tmp 2) (.tmp 10)⟩,
    ⟨(some 3), none, .mv (.const (.int .i32 0))⟩,
    ⟨(some 4), none, .mv (.const (.bool false))⟩])
  (.prune [2, 3, 4] .ret))
  .skip)))
 (.prune [1, 2] (.seq (.row [⟨(some 11), none, .bsl 21 0 [] [] []⟩,
   ⟨(some 5), none, .mv (.tmp 11)⟩])
 (.prune [5, 1, 2] (.seq (.row [⟨(some 12), none, .mv (.tmp 5)⟩,
   ⟨(some 13), none, .fad 0 (.tmp 1)⟩,
   ⟨(some 14), none, .ld (.tmp 13)⟩,
   ⟨(some 15), none, .slc 1 (.tmp 14) (some (.const (.int .i64 1))) none⟩,
   ⟨(some 16), none, .run (.bi .append ⟨[35, 35]⟩ 35) [(.tmp 12), (.tmp 15)]⟩,
   ⟨(some 5), none, .mv (.tmp 16)⟩])
 (.prune [5, 1, 2] (.seq (.draw (.take 0 ⟨(some 17), none, .mv (.tmp 5)⟩ (.take 1 ⟨(some 18), none, .fad 1 (.tmp 1)⟩ (.take 2 ⟨(some 19), none, .ld (.tmp 18)⟩ (.take 3 ⟨(some 20), none, .ibin .add .i64 (.tmp 19) (.const (.int .i64 1))⟩ (.take 4 ⟨(some 21), none, .fad 2 (.tmp 1)⟩ (.take 5 ⟨(some 22), none, .ld (.tmp 21)⟩ (.take 6 ⟨(some 23), none, .bld [(.slice none 0 0), (.int .i64 0), (.int .i64 0)] [(0, 1), (1, 1), (2, 1)] [(.tmp 17), (.tmp 20), (.tmp 22)]⟩ (.take 7 ⟨(some 24), none, .fad 0 (.tmp 1)⟩ (.take 8 ⟨(some 25), none, .ld (.tmp 24)⟩ (.take 9 ⟨(some 26), none, .ixA 1 (.tmp 25) (.const (.int .i64 0))⟩ (.take 10 ⟨(some 27), none, .ld (.tmp 26)⟩ (.step 11 true ⟨none, none, .stn 3 (.tmp 2) (.tmp 23)⟩ (.take 12 ⟨(some 3), none, .mv (.tmp 27)⟩ (.take 13 ⟨(some 4), none, .mv (.const (.bool true))⟩ .done)))))))))))))))
 (.prune [2, 3, 4] .ret))))))))))
theorem ok57 : fits Try.prog 57 ⟨s57, 28, [.cell 2 (some 3), .tmp 3, .tmp 4]⟩ = some ⟨s57, 28, [.cell 2 (some 3), .tmp 3, .tmp 4]⟩ := by kernel_rfl
theorem go57 {args : List Value} {w : World} {R : Value → World → Prop} (hle : Nat.ble args.length 28 = true) (h : vc Try.prog 28 s57 (argEnv args 0) w (fun L w => resL L w [.cell 2 (some 3), .tmp 3, .tmp 4] fun vs => oneOr vs fun v => R v w) (fun _ _ _ => False) (fun L w => resL L w [.cell 2 (some 3), .tmp 3, .tmp 4] fun vs => oneOr vs fun v => R v w)) : Cal Try.prog 57 ⟨args⟩ w R := cal_of mo ok57 hle h

-- (*footbridge/ring.Ring[int32]).place
def s58 : S := (.seq (.row [⟨(some 4), none, .mv (.const (.int .i64 0))⟩])
 (.prune [1, 0] (.seq (.draw (.take 0 ⟨(some 5), none, .mv (.tmp 0)⟩ (.take 1 ⟨(some 6), none, .nck (.tmp 5)⟩ (.take 2 ⟨(some 7), none, .fad 1 (.tmp 6)⟩ (.take 3 ⟨(some 8), none, .ld (.tmp 7)⟩ (.take 4 ⟨(some 9), none, .mv (.tmp 1)⟩ (.take 5 ⟨(some 10), none, .ibin .add .i64 (.tmp 8) (.tmp 9)⟩ (.take 6 ⟨(some 11), none, .mv (.tmp 0)⟩ (.take 7 ⟨(some 12), none, .nck (.tmp 11)⟩ (.take 8 ⟨(some 13), none, .fad 0 (.tmp 12)⟩ (.take 9 ⟨(some 14), none, .ld (.tmp 13)⟩ (.take 10 ⟨(some 15), none, .lenA (.tmp 14)⟩ (.take 11 ⟨(some 16), none, .ibin .rem .i64 (.tmp 10) (.tmp 15)⟩ (.take 12 ⟨(some 4), none, .mv (.tmp 16)⟩ .done))))))))))))))
 (.prune [4] .ret))))
theorem ok58 : fits Try.prog 58 ⟨s58, 17, [.tmp 4]⟩ = some ⟨s58, 17, [.tmp 4]⟩ := by kernel_rfl
theorem go58 {args : List Value} {w : World} {R : Value → World → Prop} (hle : Nat.ble args.length 17 = true) (h : vc Try.prog 17 s58 (argEnv args 0) w (fun L w => resL L w [.tmp 4] fun vs => oneOr vs fun v => R v w) (fun _ _ _ => False) (fun L w => resL L w [.tmp 4] fun vs => oneOr vs fun v => R v w)) : Cal Try.prog 58 ⟨args⟩ w R := cal_of mo ok58 hle h

-- slices.Clone[[]int32,int32]
def s59 : S := (.seq (.row [⟨(some 2), none, .mv (.const (.slice none 0 0))⟩])
 (.prune [0] (.seq (.seq (.row [⟨(some 3), none, .mv (.tmp 0)⟩,
   ⟨(some 4), none, .isnil 1 false (.tmp 3)⟩])
 (.prune [4, 0] (.cond (.tmp 4)
  (.seq (.row [⟨(some 2), none, .mv (.const (.slice none 0 0))⟩])
  (.prune [2] .ret))
  .skip)))
 (.prune [0] (.seq (.row [⟨(some 5), none, .bsl 21 0 [] [] []⟩,
   ⟨(some 6), none, .mv (.tmp 0)⟩,
   ⟨(some 7), none, .run (.bi .append ⟨[35, 35]⟩ 35) [(.tmp 5), (.tmp 6)]⟩,
   ⟨(some 2), none, .mv (.tmp 7)⟩])
 (.prune [2] .ret))))))
theorem ok59 : fits Try.prog 59 ⟨s59, 8, [.tmp 2]⟩ = some ⟨s59, 8, [.tmp 2]⟩ := by kernel_rfl
theorem go59 {args : List Value} {w : World} {R : Value → World → Prop} (hle : Nat.ble args.length 8 = true) (h : vc Try.prog 8 s59 (argEnv args 0) w (fun L w => resL L w [.tmp 2] fun vs => oneOr vs fun v => R v w) (fun _ _ _ => False) (fun L w => resL L w [.tmp 2] fun vs => oneOr vs fun v => R v w)) : Cal Try.prog 59 ⟨args⟩ w R := cal_of mo ok59 hle h

-- (*footbridge/ring.Ring[int32]).take
def s60 : S := (.seq (.row [⟨(some 4), none, .mv (.const (.int .i32 0))⟩])
 (.prune [1, 0] (.seq (.row [⟨(some 5), none, .mv (.const (.int .i32 0))⟩])
 (.prune [1, 0, 5] (.seq (.row [⟨(some 8), none, .mv (.tmp 0)⟩,
   ⟨(some 9), none, .mv (.tmp 1)⟩,
   ⟨(some 10), none, .call 58 [(.tmp 8), (.tmp 9)]⟩,
   ⟨(some 6), none, .mv (.tmp 10)⟩])
 (.prune [0, 6, 5] (.seq (.row [⟨(some 11), none, .mv (.tmp 0)⟩,
   ⟨(some 12), none, .nck (.tmp 11)⟩,
   ⟨(some 13), none, .fad 0 (.tmp 12)⟩,
   ⟨(some 14), none, .ld (.tmp 13)⟩,
   ⟨(some 15), none, .mv (.tmp 6)⟩,
   ⟨(some 16), none, .ixA 1 (.tmp 14) (.tmp 15)⟩,
   ⟨(some 17), none, .ld (.tmp 16)⟩,
   ⟨(some 7), none, .mv (.tmp 17)⟩])
 (.prune [0, 6, 5, 7] (.seq (.row [⟨(some 18), none, .mv (.tmp 0)⟩,
   ⟨(some 19), none, .nck (.tmp 18)⟩,
   ⟨(some 20), none, .fad 0 (.tmp 19)⟩,
   ⟨(some 21), none, .ld (.tmp 20)⟩,
   ⟨(some 22), none, .mv (.tmp 6)⟩,
   ⟨(some 23), none, .mv (.tmp 5)⟩,
   ⟨(some 24), none, .ixA 1 (.tmp 21) (.tmp 22)⟩,
   ⟨none, none, .st (.tmp 24) (.tmp 23)⟩])
 (.prune [7] (.seq (.row [⟨(some 25), none, .mv (.tmp 7)⟩,
   ⟨(some 4), none, .mv (.tmp 25)⟩])
 (.prune [4] .ret))))))))))))
theorem ok60 : fits Try.prog 60 ⟨s60, 26, [.tmp 4]⟩ = some ⟨s60, 26, [.tmp 4]⟩ := by kernel_rfl
theorem go60 {args : List Value} {w : World} {R : Value → World → Prop} (hle : Nat.ble args.length 26 = true) (h : vc Try.prog 26 s60 (argEnv args 0) w (fun L w => resL L w [.tmp 4] fun vs => oneOr vs fun v => R v w) (fun _ _ _ => False) (fun L w => resL L w [.tmp 4] fun vs => oneOr vs fun v => R v w)) : Cal Try.prog 60 ⟨args⟩ w R := cal_of mo ok60 hle h

-- (*footbridge/ring.Ring[int32]).grow
def s61 : S := (.seq (.draw (.take 0 ⟨(some 4), none, .mv (.tmp 0)⟩ (.take 1 ⟨(some 5), none, .nck (.tmp 4)⟩ (.take 2 ⟨(some 6), none, .fad 4 (.tmp 5)⟩ (.take 3 ⟨(some 7), none, .ld (.tmp 6)⟩ (.take 4 ⟨(some 8), none, .mv (.tmp 0)⟩ (.take 5 ⟨(some 9), none, .nck (.tmp 8)⟩ (.take 6 ⟨(some 10), none, .fad 0 (.tmp 9)⟩ (.take 7 ⟨(some 11), none, .ld (.tmp 10)⟩ (.take 8 ⟨(some 12), none, .lenA (.tmp 11)⟩ (.take 9 ⟨(some 13), none, .ibin .mul .i64 (.const (.int .i64 2)) (.tmp 12)⟩ (.take 10 ⟨(some 14), none, .mm true .i64 (.const (.int .i64 8)) (.tmp 13)⟩ (.take 11 ⟨(some 15), none, .mm false .i64 (.tmp 7) (.tmp 14)⟩ (.step 12 true ⟨(some 16), none, .run (.makeSlice 35) [(.tmp 15), (.tmp 15)]⟩ (.take 13 ⟨(some 2), none, .mv (.tmp 16)⟩ .done)))))))))))))))
 (.prune [0, 2] (.seq (.draw (.take 0 ⟨(some 17), none, .mv (.tmp 2)⟩ (.take 1 ⟨(some 18), none, .mv (.tmp 0)⟩ (.take 2 ⟨(some 19), none, .nck (.tmp 18)⟩ (.take 3 ⟨(some 20), none, .fad 0 (.tmp 19)⟩ (.take 4 ⟨(some 21), none, .ld (.tmp 20)⟩ (.take 5 ⟨(some 22), none, .mv (.tmp 0)⟩ (.take 6 ⟨(some 23), none, .nck (.tmp 22)⟩ (.take 7 ⟨(some 24), none, .fad 1 (.tmp 23)⟩ (.take 8 ⟨(some 25), none, .ld (.tmp 24)⟩ (.take 9 ⟨(some 26), none, .slc 1 (.tmp 21) (some (.tmp 25)) none⟩ (.step 10 true ⟨(some 27), none, .run (.bi .copy ⟨[35, 35]⟩ 3) [(.tmp 17), (.tmp 26)]⟩ (.take 11 ⟨(some 3), none, .mv (.tmp 27)⟩ .done)))))))))))))
 (.prune [3, 0, 2] (.seq (.draw (.take 0 ⟨(some 28), none, .mv (.tmp 2)⟩ (.take 1 ⟨(some 29), none, .mv (.tmp 3)⟩ (.take 2 ⟨(some 30), none, .slc 1 (.tmp 28) (some (.tmp 29)) none⟩ (.take 3 ⟨(some 31), none, .mv (.tmp 0)⟩ (.take 4 ⟨(some 32), none, .nck (.tmp 31)⟩ (.take 5 ⟨(some 33), none, .fad 0 (.tmp 32)⟩ (.take 6 ⟨(some 34), none, .ld (.tmp 33)⟩ (.take 7 ⟨(some 35), none, .mv (.tmp 0)⟩ (.take 8 ⟨(some 36), none, .nck (.tmp 35)⟩ (.take 9 ⟨(some 37), none, .fad 1 (.tmp 36)⟩ (.take 10 ⟨(some 38), none, .ld (.tmp 37)⟩ (.take 11 ⟨(some 39), none, .slc 1 (.tmp 34) none (some (.tmp 38))⟩ (.step 12 true ⟨(some 40), none, .run (.bi .copy ⟨[35, 35]⟩ 3) [(.tmp 30), (.tmp 39)]⟩ .done))))))))))))))
 (.prune [0, 2] (.row [⟨(some 41), none, .mv (.tmp 0)⟩,
   ⟨(some 42), none, .mv (.tmp 0)⟩,
   ⟨(some 43), none, .mv (.tmp 2)⟩,
   ⟨(some 44), none, .nck (.tmp 41)⟩,
   ⟨(some 45), none, .fad 0 (.tmp 44)⟩,
   ⟨none, none, .st (.tmp 45) (.tmp 43)⟩,
   ⟨(some 46), none, .nck (.tmp 42)⟩,
   ⟨(some 47), none, .fad 1 (.tmp 46)⟩,
   ⟨none, none, .st (.tmp 47) (.const (.int .i64 0))⟩])))))))
theorem ok61 : fits Try.prog 61 ⟨s61, 48, []⟩ = some ⟨s61, 48, []⟩ := by kernel_rfl
theorem go61 {args : List Value} {w : World} {R : Value → World → Prop} (hle : Nat.ble args.length 48 = true) (h : vc Try.prog 48 s61 (argEnv args 0) w (fun L w => resL L w [] fun vs => oneOr vs fun v => R v w) (fun _ _ _ => False) (fun L w => resL L w [] fun vs => oneOr vs fun v => R v w)) : Cal Try.prog 61 ⟨args⟩ w R := cal_of mo ok61 hle h

-- footbridge/ring.New[footbridge/window.place]
def s62 : S := (.seq (.row [⟨(some 2), none, .mv (.const (.pointer none))⟩])
 (.prune [0] (.seq (.seq (.row [⟨(some 3), none, .mv (.tmp 0)⟩,
   ⟨(some 4), none, .ibin .lss .i64 (.tmp 3) (.const (.int .i64 0))⟩,
   ⟨(some 5), none, .mv (.tmp 4)⟩,
   ⟨(some 6), (some (5, false)), .mv (.tmp 0)⟩,
   ⟨(some 7), (some (5, false)), .ibin .gtr .i64 (.tmp 6) (.const (.int .i64 1048576))⟩,
   ⟨(some 8), none, .pick (.tmp 5) (.const (.bool true)) (.tmp 7)⟩])
 (.prune [8, 0] (.cond (.tmp 8)
  (.seq (.row [⟨(some 2), none, .mv (.const (.pointer none))⟩])
  (.prune [2] .ret))
  .skip)))
 (.prune [0] (.seq (.row [⟨(some 9), none, .mv (.tmp 0)⟩,
   ⟨(some 10), none, .bld [(.slice none 0 0), (.int .i64 0), (.int .i64 0), (.int .i64 0), (.int .i64 0)] [(4, 1)] [(.tmp 9)]⟩,
   ⟨(some 11), none, .box 126 (.tmp 10)⟩,
   ⟨(some 2), none, .mv (.tmp 11)⟩])
 (.prune [2] .ret))))))
theorem ok62 : fits Try.prog 62 ⟨s62, 12, [.tmp 2]⟩ = some ⟨s62, 12, [.tmp 2]⟩ := by kernel_rfl
theorem go62 {args : List Value} {w : World} {R : Value → World → Prop} (hle : Nat.ble args.length 12 = true) (h : vc Try.prog 12 s62 (argEnv args 0) w (fun L w => resL L w [.tmp 2] fun vs => oneOr vs fun v => R v w) (fun _ _ _ => False) (fun L w => resL L w [.tmp 2] fun vs => oneOr vs fun v => R v w)) : Cal Try.prog 62 ⟨args⟩ w R := cal_of mo ok62 hle h

-- footbridge/footbridgeref21.Push
def s63 : S := (.seq (.row [⟨(some 3), none, .box 60 (.tmp 0)⟩,
   ⟨(some 6), none, .new [(.slice none 0 0), (.slice none 0 0), (.int .i64 0), (.int .i64 0)] 60⟩,
   ⟨(some 7), none, .mv (.const (.int .i64 0))⟩])
 (.prune [2, 1, 3, 6] (.seq (.seq (.row [⟨(some 10), none, .mv (.tmp 2)⟩,
   ⟨(some 11), none, .ibin .lss .i64 (.tmp 10) (.const (.int .i64 1))⟩,
   ⟨(some 12), none, .mv (.tmp 11)⟩,
   ⟨(some 13), (some (12, false)), .mv (.tmp 2)⟩,
   ⟨(some 14), (some (12, false)), .ibin .gtr .i64 (.tmp 13) (.const (.int .i64 64))⟩,
   ⟨(some 15), none, .pick (.tmp 12) (.const (.bool true)) (.tmp 14)⟩])
 (.prune [15, 2, 1, 3, 6] (.cond (.tmp 15)
  (.seq (.row [⟨(some 16), none, .ldn 4 (.tmp 3)⟩,
    ⟨none, none, .stn 4 (.tmp 6) (.tmp 16)⟩,
    ⟨(some 7), none, .mv (.const (.int .i64 1))⟩])
  (.prune [6, 7] .ret))
  .skip)))
 (.prune [1, 2, 3, 6] (.seq (.row [⟨(some 17), none, .bsl 3 0 [] [] []⟩,
   ⟨(some 8), none, .mv (.tmp 17)⟩])
 (.prune [8, 1, 2, 3, 6] (.seq (.row [⟨(some 18), none, .mv (.tmp 8)⟩,
   ⟨(some 19), none, .fad 0 (.tmp 3)⟩,
   ⟨(some 20), none, .ld (.tmp 19)⟩,
   ⟨(some 21), none, .run (.bi .append ⟨[56, 56]⟩ 56) [(.tmp 18), (.tmp 20)]⟩,
   ⟨(some 8), none, .mv (.tmp 21)⟩])
 (.prune [8, 1, 2, 3, 6] (.seq (.row [⟨(some 22), none, .bsl 3 0 [] [] []⟩,
   ⟨(some 9), none, .mv (.tmp 22)⟩])
 (.prune [9, 8, 1, 2, 3, 6] (.seq (.row [⟨(some 23), none, .mv (.tmp 9)⟩,
   ⟨(some 24), none, .fad 1 (.tmp 3)⟩,
   ⟨(some 25), none, .ld (.tmp 24)⟩,
   ⟨(some 26), none, .run (.bi .append ⟨[56, 56]⟩ 56) [(.tmp 23), (.tmp 25)]⟩,
   ⟨(some 9), none, .mv (.tmp 26)⟩])
 (.prune [8, 1, 9, 2, 3, 6] (.seq (.draw (.take 0 ⟨(some 27), none, .mv (.tmp 8)⟩ (.take 1 ⟨(some 28), none, .mv (.tmp 1)⟩ (.take 4 ⟨(some 31), none, .mv (.tmp 9)⟩ (.take 5 ⟨(some 32), none, .mv (.tmp 2)⟩ (.take 8 ⟨(some 35), none, .fad 2 (.tmp 3)⟩ (.take 9 ⟨(some 36), none, .ld (.tmp 35)⟩ (.take 10 ⟨(some 37), none, .fad 3 (.tmp 3)⟩ (.take 11 ⟨(some 38), none, .ld (.tmp 37)⟩ (.alt (.step 2 true ⟨(some 29), none, .bsl 3 1 [(.int .i64 0)] [(0, 1)] [(.tmp 28)]⟩ (.alt (.step 3 true ⟨(some 30), none, .run (.bi .append ⟨[56, 56]⟩ 56) [(.tmp 27), (.tmp 29)]⟩ (.step 6 true ⟨(some 33), none, .bsl 3 1 [(.int .i64 0)] [(0, 1)] [(.tmp 32)]⟩ (.step 7 true ⟨(some 34), none, .run (.bi .append ⟨[56, 56]⟩ 56) [(.tmp 31), (.tmp 33)]⟩ (.take 12 ⟨(some 39), none, .bld [(.slice none 0 0), (.slice none 0 0), (.int .i64 0), (.int .i64 0)] [(0, 1), (1, 1), (2, 1), (3, 1)] [(.tmp 30), (.tmp 34), (.tmp 36), (.tmp 38)]⟩ (.step 13 false ⟨none, none, .stn 4 (.tmp 6) (.tmp 39)⟩ (.take 14 ⟨(some 7), none, .mv (.const (.int .i64 0))⟩ .done)))))) (.step 6 true ⟨(some 33), none, .bsl 3 1 [(.int .i64 0)] [(0, 1)] [(.tmp 32)]⟩ (.step 3 true ⟨(some 30), none, .run (.bi .append ⟨[56, 56]⟩ 56) [(.tmp 27), (.tmp 29)]⟩ (.step 7 true ⟨(some 34), none, .run (.bi .append ⟨[56, 56]⟩ 56) [(.tmp 31), (.tmp 33)]⟩ (.take 12 ⟨(some 39), none, .bld [(.slice none 0 0), (.slice none 0 0), (.int .i64 0), (.int .i64 0)] [(0, 1), (1, 1), (2, 1), (3, 1)] [(.tmp 30), (.tmp 34), (.tmp 36), (.tmp 38)]⟩ (.step 13 false ⟨none, none, .stn 4 (.tmp 6) (.tmp 39)⟩ (.take 14 ⟨(some 7), none, .mv (.const (.int .i64 0))⟩ .done)))))))) (.step 6 true ⟨(some 33), none, .bsl 3 1 [(.int .i64 0)] [(0, 1)] [(.tmp 32)]⟩ (.step 2 true ⟨(some 29), none, .bsl 3 1 [(.int .i64 0)] [(0, 1)] [(.tmp 28)]⟩ (.step 3 true ⟨(some 30), none, .run (.bi .append ⟨[56, 56]⟩ 56) [(.tmp 27), (.tmp 29)]⟩ (.step 7 true ⟨(some 34), none, .run (.bi .append ⟨[56, 56]⟩ 56) [(.tmp 31), (.tmp 33)]⟩ (.take 12 ⟨(some 39), none, .bld [(.slice none 0 0), (.slice none 0 0), (.int .i64 0), (.int .i64 0)] [(0, 1), (1, 1), (2, 1), (3, 1)] [(.tmp 30), (.tmp 34), (.tmp 36), (.tmp 38)]⟩ (.step 13 false ⟨none, none, .stn 4 (.tmp 6) (.tmp 39)⟩ (.take 14 ⟨(some 7), none, .mv (.const (.int .i64 0))⟩ .done)))))))))))))))))
 (.prune [6, 7] .ret))))))))))))))
theorem ok63 : fits Try.prog 63 ⟨s63, 40, [.cell 6 (some 4), .tmp 7]⟩ = some ⟨s63, 40, [.cell 6 (some 4), .tmp 7]⟩ := by kernel_rfl
theorem go63 {args : List Value} {w : World} {R : Value → World → Prop} (hle : Nat.ble args.length 40 = true) (h : vc Try.prog 40 s63 (argEnv args 0) w (fun L w => resL L w [.cell 6 (some 4), .tmp 7] fun vs => oneOr vs fun v => R v w) (fun _ _ _ => False) (fun L w => resL L w [.cell 6 (some 4), .tmp 7] fun vs => oneOr vs fun v => R v w)) : Cal Try.prog 63 ⟨args⟩ w R := cal_of mo ok63 hle h

-- footbridge/footbridgeref21.Retract
def s64 : S := (.seq (.row [⟨(some 2), none, .box 60 (.tmp 0)⟩,
   ⟨(some 4), none, .new [(.slice none 0 0), (.slice none 0 0), (.int .i64 0), (.int .i64 0)] 60⟩,
   ⟨(some 5), none, .mv (.const (.int .i64 0))⟩])
 (.prune [1, 2, 4] (.seq (.seq (.row [⟨(some 6), none, .mv (.tmp 1)⟩,
   ⟨(some 7), none, .ibin .lss .i64 (.tmp 6) (.const (.int .i64 0))⟩,
   ⟨(some 8), none, .mv (.tmp 7)⟩,
   ⟨(some 9), (some (8, false)), .mv (.tmp 1)⟩,
   ⟨(some 10), (some (8, false)), .fad 0 (.tmp 2)⟩,
   ⟨(some 11), (some (8, false)), .ld (.tmp 10)⟩,
   ⟨(some 12), (some (8, false)), .lenA (.tmp 11)⟩,
   ⟨(some 13), (some (8, false)), .fad 2 (.tmp 2)⟩,
   ⟨(some 14), (some (8, false)), .ld (.tmp 13)⟩,
   ⟨(some 15), (some (8, false)), .ibin .sub .i64 (.tmp 12) (.tmp 14)⟩,
   ⟨(some 16), (some (8, false)), .ibin .gtr .i64 (.tmp 9) (.tmp 15)⟩,
   ⟨(some 17), none, .pick (.tmp 8) (.const (.bool true)) (.tmp 16)⟩])
 (.prune [17, 1, 2, 4] (.cond (.tmp 17)
  (.seq (.row [⟨(some 18), none, .ldn 4 (.tmp 2)⟩,
    ⟨none, none, .stn 4 (.tmp 4) (.tmp 18)⟩,
    ⟨(some 5), none, .mv (.const (.int .i64 1))⟩])
  (.prune [4, 5] .ret))
  .skip)))
 (.prune [1, 2, 4] (.seq (.draw (.take 0 ⟨(some 19), none, .fad 0 (.tmp 2)⟩ (.take 1 ⟨(some 20), none, .ld (.tmp 19)⟩ (.take 2 ⟨(some 21), none, .fad 0 (.tmp 2)⟩ (.take 3 ⟨(some 22), none, .ld (.tmp 21)⟩ (.take 4 ⟨(some 23), none, .lenA (.tmp 22)⟩ (.take 5 ⟨(some 24), none, .mv (.tmp 1)⟩ (.take 6 ⟨(some 25), none, .ibin .sub .i64 (.tmp 23) (.tmp 24)⟩ (.take 7 ⟨(some 26), none, .slc 1 (.tmp 20) none (some (.tmp 25))⟩ (.take 8 ⟨(some 27), none, .fad 1 (.tmp 2)⟩ (.take 9 ⟨(some 28), none, .ld (.tmp 27)⟩ (.take 10 ⟨(some 29), none, .fad 1 (.tmp 2)⟩ (.take 11 ⟨(some 30), none, .ld (.tmp 29)⟩ (.take 12 ⟨(some 31), none, .lenA (.tmp 30)⟩ (.take 13 ⟨(some 32), none, .mv (.tmp 1)⟩ (.take 14 ⟨(some 33), none, .ibin .sub .i64 (.tmp 31) (.tmp 32)⟩ (.take 15 ⟨(some 34), none, .slc 1 (.tmp 28) none (some (.tmp 33))⟩ (.take 16 ⟨(some 35), none, .fad 2 (.tmp 2)⟩ (.take 17 ⟨(some 36), none, .ld (.tmp 35)⟩ (.take 18 ⟨(some 37), none, .fad 3 (.tmp 2)⟩ (.take 19 ⟨(some 38), none, .ld (.tmp 37)⟩ (.take 20 ⟨(some 39), none, .bld [(.slice none 0 0), (.slice none 0 0), (.int .i64 0), (.int .i64 0)] [(0, 1), (1, 1), (2, 1), (3, 1)] [(.tmp 26), (.tmp 34), (.tmp 36), (.tmp 38)]⟩ (.step 21 false ⟨none, none, .stn 4 (.tmp 4) (.tmp 39)⟩ (.take 22 ⟨(some 5), none, .mv (.const (.int .i64 0))⟩ .done))))))))))))))))))))))))
 (.prune [4, 5] .ret))))))
theorem ok64 : fits Try.prog 64 ⟨s64, 40, [.cell 4 (some 4), .tmp 5]⟩ = some ⟨s64, 40, [.cell 4 (some 4), .tmp 5]⟩ := by kernel_rfl
theorem go64 {args : List Value} {w : World} {R : Value → World → Prop} (hle : Nat.ble args.length 40 = true) (h : vc Try.prog 40 s64 (argEnv args 0) w (fun L w => resL L w [.cell 4 (some 4), .tmp 5] fun vs => oneOr vs fun v => R v w) (fun _ _ _ => False) (fun L w => resL L w [.cell 4 (some 4), .tmp 5] fun vs => oneOr vs fun v => R v w)) : Cal Try.prog 64 ⟨args⟩ w R := cal_of mo ok64 hle h

-- footbridge/footbridgeref21.Commit
def s65 : S := (.seq (.row [⟨(some 2), none, .box 60 (.tmp 0)⟩,
   ⟨(some 4), none, .new [(.slice none 0 0), (.slice none 0 0), (.int .i64 0), (.int .i64 0)] 60⟩,
   ⟨(some 5), none, .mv (.const (.int .i64 0))⟩])
 (.prune [1, 2, 4] (.seq (.seq (.row [⟨(some 6), none, .mv (.tmp 1)⟩,
   ⟨(some 7), none, .fad 2 (.tmp 2)⟩,
   ⟨(some 8), none, .ld (.tmp 7)⟩,
   ⟨(some 9), none, .ibin .lss .i64 (.tmp 6) (.tmp 8)⟩,
   ⟨(some 10), none, .mv (.tmp 9)⟩,
   ⟨(some 11), (some (10, false)), .mv (.tmp 1)⟩,
   ⟨(some 12), (some (10, false)), .fad 0 (.tmp 2)⟩,
   ⟨(some 13), (some (10, false)), .ld (.tmp 12)⟩,
   ⟨(some 14), (some (10, false)), .lenA (.tmp 13)⟩,
   ⟨(some 15), (some (10, false)), .ibin .gtr .i64 (.tmp 11) (.tmp 14)⟩,
   ⟨(some 16), none, .pick (.tmp 10) (.const (.bool true)) (.tmp 15)⟩])
 (.prune [16, 1, 2, 4] (.cond (.tmp 16)
  (.seq (.row [⟨(some 17), none, .ldn 4 (.tmp 2)⟩,
    ⟨none, none, .stn 4 (.tmp 4) (.tmp 17)⟩,
    ⟨(some 5), none, .mv (.const (.int .i64 1))⟩])
  (.prune [4, 5] .ret))
  .skip)))
 (.prune [1, 2, 4] (.seq (.row [⟨(some 18), none, .fad 0 (.tmp 2)⟩,
   ⟨(some 19), none, .ld (.tmp 18)⟩,
   ⟨(some 20), none, .fad 1 (.tmp 2)⟩,
   ⟨(some 21), none, .ld (.tmp 20)⟩,
   ⟨(some 22), none, .mv (.tmp 1)⟩,
   ⟨(some 23), none, .fad 3 (.tmp 2)⟩,
   ⟨(some 24), none, .ld (.tmp 23)⟩,
   ⟨(some 25), none, .bld [(.slice none 0 0), (.slice none 0 0), (.int .i64 0), (.int .i64 0)] [(0, 1), (1, 1), (2, 1), (3, 1)] [(.tmp 19), (.tmp 21), (.tmp 22), (.tmp 24)]⟩,
   ⟨none, none, .stn 4 (.tmp 4) (.tmp 25)⟩,
   ⟨(some 5), none, .mv (.const (.int .i64 0))⟩])
 (.prune [4, 5] .ret))))))
theorem ok65 : fits Try.prog 65 ⟨s65, 26, [.cell 4 (some 4), .tmp 5]⟩ = some ⟨s65, 26, [.cell 4 (some 4), .tmp 5]⟩ := by kernel_rfl
theorem go65 {args : List Value} {w : World} {R : Value → World → Prop} (hle : Nat.ble args.length 26 = true) (h : vc Try.prog 26 s65 (argEnv args 0) w (fun L w => resL L w [.cell 4 (some 4), .tmp 5] fun vs => oneOr vs fun v => R v w) (fun _ _ _ => False) (fun L w => resL L w [.cell 4 (some 4), .tmp 5] fun vs => oneOr vs fun v => R v w)) : Cal Try.prog 65 ⟨args⟩ w R := cal_of mo ok65 hle h

-- footbridge/footbridgeref21.Fault
def s66 : S := (.seq (.row [⟨(some 2), none, .box 60 (.tmp 0)⟩,
   ⟨(some 4), none, .mv (.const (.int .i64 0))⟩])
 (.prune [2, 1] (.seq (.seq (.row [⟨(some 5), none, .mv (.tmp 1)⟩,
   ⟨(some 6), none, .ibin .lss .i64 (.tmp 5) (.const (.int .i64 0))⟩,
   ⟨(some 7), none, .mv (.tmp 6)⟩,
   ⟨(some 8), (some (7, false)), .mv (.tmp 1)⟩,
   ⟨(some 9), (some (7, false)), .fad 0 (.tmp 2)⟩,
   ⟨(some 10), (some (7, false)), .ld (.tmp 9)⟩,
   ⟨(some 11), (some (7, false)), .lenA (.tmp 10)⟩,
   ⟨(some 12), (some (7, false)), .ibin .geq .i64 (.tmp 8) (.tmp 11)⟩,
   ⟨(some 13), none, .pick (.tmp 7) (.const (.bool true)) (.tmp 12)⟩])
 (.prune [13, 2, 1] (.cond (.tmp 13)
  (.seq (.row [⟨(some 4), none, .mv (.const (.int .i64 13))⟩])
  (.prune [4] .ret))
  .skip)))
 (.prune [1, 2] (.seq (.seq (.row [⟨(some 14), none, .mv (.tmp 1)⟩,
   ⟨(some 15), none, .ldn 4 (.tmp 2)⟩,
   ⟨(some 16), none, .call 77 [(.tmp 15)]⟩,
   ⟨(some 17), none, .ibin .lss .i64 (.tmp 14) (.tmp 16)⟩])
 (.prune [17] (.cond (.tmp 17)
  (.seq (.row [⟨(some 4), none, .mv (.const (.int .i64 12))⟩])
  (.prune [4] .ret))
  .skip)))
 (.prune [] (.seq (.row [⟨(some 4), none, .mv (.const (.int .i64 0))⟩])
 (.prune [4] .ret))))))))
theorem ok66 : fits Try.prog 66 ⟨s66, 18, [.tmp 4]⟩ = some ⟨s66, 18, [.tmp 4]⟩ := by kernel_rfl
theorem go66 {args : List Value} {w : World} {R : Value → World → Prop} (hle : Nat.ble args.length 18 = true) (h : vc Try.prog 18 s66 (argEnv args 0) w (fun L w => resL L w [.tmp 4] fun vs => oneOr vs fun v => R v w) (fun _ _ _ => False) (fun L w => resL L w [.tmp 4] fun vs => oneOr vs fun v => R v w)) : Cal Try.prog 66 ⟨args⟩ w R := cal_of mo ok66 hle h

-- footbridge/footbridgeref21.Span
def s67 : S := (.seq (.row [⟨(some 2), none, .box 60 (.tmp 0)⟩,
   ⟨(some 4), none, .mv (.const (.int .i64 0))⟩,
   ⟨(some 5), none, .mv (.const (.int .i64 0))⟩])
 (.prune [2, 1] (.seq (.draw (.take 0 ⟨(some 6), none, .fad 1 (.tmp 2)⟩ (.take 1 ⟨(some 7), none, .ld (.tmp 6)⟩ (.take 2 ⟨(some 8), none, .mv (.tmp 1)⟩ (.take 4 ⟨(some 10), none, .fad 1 (.tmp 2)⟩ (.take 5 ⟨(some 11), none, .ld (.tmp 10)⟩ (.take 6 ⟨(some 12), none, .mv (.tmp 1)⟩ (.take 7 ⟨(some 13), none, .ibin .add .i64 (.tmp 12) (.const (.int .i64 1))⟩ (.step 3 true ⟨(some 9), none, .call 88 [(.tmp 7), (.tmp 8)]⟩ (.step 8 true ⟨(some 14), none, .call 88 [(.tmp 11), (.tmp 13)]⟩ (.take 9 ⟨(some 4), none, .mv (.tmp 9)⟩ (.take 10 ⟨(some 5), none, .mv (.tmp 14)⟩ .done))))))))))))
 (.prune [4, 5] .ret))))
theorem ok67 : fits Try.prog 67 ⟨s67, 15, [.tmp 4, .tmp 5]⟩ = some ⟨s67, 15, [.tmp 4, .tmp 5]⟩ := by kernel_rfl
theorem go67 {args : List Value} {w : World} {R : Value → World → Prop} (hle : Nat.ble args.length 15 = true) (h : vc Try.prog 15 s67 (argEnv args 0) w (fun L w => resL L w [.tmp 4, .tmp 5] fun vs => oneOr vs fun v => R v w) (fun _ _ _ => False) (fun L w => resL L w [.tmp 4, .tmp 5] fun vs => oneOr vs fun v => R v w)) : Cal Try.prog 67 ⟨args⟩ w R := cal_of mo ok67 hle h

-- footbridge/footbridgeref21.Find
def s68 : S := (.seq (.row [⟨(some 2), none, .box 60 (.tmp 0)⟩,
   ⟨(some 4), none, .mv (.const (.int .i64 0))⟩,
   ⟨(some 5), none, .mv (.const (.int .i64 0))⟩])
 (.prune [1, 2] (.seq (.seq (.row [⟨(some 7), none, .mv (.tmp 1)⟩,
   ⟨(some 8), none, .ibin .lss .i64 (.tmp 7) (.const (.int .i64 0))⟩,
   ⟨(some 9), none, .mv (.tmp 8)⟩,
   ⟨(some 10), (some (9, false)), .mv (.tmp 1)⟩,
   ⟨(some 11), (some (9, false)), .ldn 4 (.tmp 2)⟩,
   ⟨(some 12), (some (9, false)), .call 79 [(.tmp 11)]⟩,
   ⟨(some 13), (some (9, false)), .ibin .geq .i64 (.tmp 10) (.tmp 12)⟩,
   ⟨(some 14), none, .pick (.tmp 9) (.const (.bool true)) (.tmp 13)⟩])
 (.prune [14, 1, 2] (.cond (.tmp 14)
  (.seq (.row [⟨(some 4), none, .mv (.const (.int .i64 0))⟩,
    ⟨(some 5), none, .mv (.const (.int .i64 13))⟩])
  (.prune [4, 5] .ret))
  .skip)))
 (.prune [2, 1] (.seq (.seq (.row [⟨(some 15), none, .mv (.tmp 1)⟩,
   ⟨(some 16), none, .ldn 4 (.tmp 2)⟩,
   ⟨(some 17), none, .call 78 [(.tmp 16)]⟩,
   ⟨(some 18), none, .ibin .lss .i64 (.tmp 15) (.tmp 17)⟩])
 (.prune [18, 2, 1] (.cond (.tmp 18)
  (.seq (.row [⟨(some 4), none, .mv (.const (.int .i64 0))⟩,
    ⟨(some 5), none, .mv (.const (.int .i64 12))⟩])
  (.prune [4, 5] .ret))
  .skip)))
 (.prune [1, 2] (.seq (.row [⟨(some 6), none, .mv (.const (.int .i64 0))⟩])
 (.prune [6, 1, 2] (.seq (.block 0 (.loop [6] [6, 19, 20, 21, 22, 23, 24, 25, 26, 27] (.seq (.seq (.row [⟨(some 19), none, .fad 1 (.tmp 2)⟩,
    ⟨(some 20), none, .ld (.tmp 19)⟩,
    ⟨(some 21), none, .mv (.tmp 6)⟩,
    ⟨(some 22), none, .ibin .add .i64 (.tmp 21) (.const (.int .i64 1))⟩,
    ⟨(some 23), none, .call 88 [(.tmp 20), (.tmp 22)]⟩,
    ⟨(some 24), none, .mv (.tmp 1)⟩,
    ⟨(some 25), none, .ibin .leq .i64 (.tmp 23) (.tmp 24)⟩])
  (.prune [25, 6, 1, 2] (.cond (.tmp 25)
   .skip
   (.exit 0))))
  (.prune [6, 1, 2] (.block 1 (.row [⟨(some 26), none, .mv (.tmp 6)⟩,
    ⟨(some 27), none, .ibin .add .i64 (.tmp 26) (.const (.int .i64 1))⟩,
    ⟨(some 6), none, .mv (.tmp 27)⟩]))))))
 (.prune [6] (.seq (.row [⟨(some 28), none, .mv (.tmp 6)⟩,
   ⟨(some 4), none, .mv (.tmp 28)⟩,
   ⟨(some 5), none, .mv (.const (.int .i64 0))⟩])
 (.prune [4, 5] .ret))))))))))))
theorem ok68 : fits Try.prog 68 ⟨s68, 29, [.tmp 4, .tmp 5]⟩ = some ⟨s68, 29, [.tmp 4, .tmp 5]⟩ := by kernel_rfl
theorem go68 {args : List Value} {w : World} {R : Value → World → Prop} (hle : Nat.ble args.length 29 = true) (h : vc Try.prog 29 s68 (argEnv args 0) w (fun L w => resL L w [.tmp 4, .tmp 5] fun vs => oneOr vs fun v => R v w) (fun _ _ _ => False) (fun L w => resL L w [.tmp 4, .tmp 5] fun vs => oneOr vs fun v => R v w)) : Cal Try.prog 68 ⟨args⟩ w R := cal_of mo ok68 hle h

-- (*footbridge/window.evicted).Start
def s69 : S := (.seq (.row [⟨(some 2), none, .mv (.const (.int .i64 0))⟩])
 (.prune [0] (.seq (.seq (.row [⟨(some 3), none, .mv (.tmp 0)⟩,
   ⟨(some 4), none, .isnil 0 false (.tmp 3)⟩])
 (.prune [4, 0] (.cond (.tmp 4)
  (.seq (.row [⟨(some 2), none, .mv (.const (.int .i64 0))⟩])
  (.prune [2] .ret))
  .skip)))
 (.prune [0] (.seq (.row [⟨(some 5), none, .mv (.tmp 0)⟩,
   ⟨(some 6), none, .nck (.tmp 5)⟩,
   ⟨(some 7), none, .fad 1 (.tmp 6)⟩,
   ⟨(some 8), none, .ld (.tmp 7)⟩,
   ⟨(some 2), none, .mv (.tmp 8)⟩])
 (.prune [2] .ret))))))
theorem ok69 : fits Try.prog 69 ⟨s69, 9, [.tmp 2]⟩ = some ⟨s69, 9, [.tmp 2]⟩ := by kernel_rfl
theorem go69 {args : List Value} {w : World} {R : Value → World → Prop} (hle : Nat.ble args.length 9 = true) (h : vc Try.prog 9 s69 (argEnv args 0) w (fun L w => resL L w [.tmp 2] fun vs => oneOr vs fun v => R v w) (fun _ _ _ => False) (fun L w => resL L w [.tmp 2] fun vs => oneOr vs fun v => R v w)) : Cal Try.prog 69 ⟨args⟩ w R := cal_of mo ok69 hle h

-- (*footbridge/window.evicted).Base
def s70 : S := (.seq (.row [⟨(some 2), none, .mv (.const (.int .i64 0))⟩])
 (.prune [0] (.seq (.seq (.row [⟨(some 3), none, .mv (.tmp 0)⟩,
   ⟨(some 4), none, .isnil 0 false (.tmp 3)⟩])
 (.prune [4, 0] (.cond (.tmp 4)
  (.seq (.row [⟨(some 2), none, .mv (.const (.int .i64 0))⟩])
  (.prune [2] .ret))
  .skip)))
 (.prune [0] (.seq (.row [⟨(some 5), none, .mv (.tmp 0)⟩,
   ⟨(some 6), none, .nck (.tmp 5)⟩,
   ⟨(some 7), none, .fad 0 (.tmp 6)⟩,
   ⟨(some 8), none, .ld (.tmp 7)⟩,
   ⟨(some 2), none, .mv (.tmp 8)⟩])
 (.prune [2] .ret))))))
theorem ok70 : fits Try.prog 70 ⟨s70, 9, [.tmp 2]⟩ = some ⟨s70, 9, [.tmp 2]⟩ := by kernel_rfl
theorem go70 {args : List Value} {w : World} {R : Value → World → Prop} (hle : Nat.ble args.length 9 = true) (h : vc Try.prog 9 s70 (argEnv args 0) w (fun L w => resL L w [.tmp 2] fun vs => oneOr vs fun v => R v w) (fun _ _ _ => False) (fun L w => resL L w [.tmp 2] fun vs => oneOr vs fun v => R v w)) : Cal Try.prog 70 ⟨args⟩ w R := cal_of mo ok70 hle h

-- (*footbridge/ring.Ring[footbridge/window.place]).From
def s71 : S := (.seq (.row [⟨(some 2), none, .mv (.const (.int .i64 0))⟩])
 (.prune [0] (.seq (.seq (.row [⟨(some 3), none, .mv (.tmp 0)⟩,
   ⟨(some 4), none, .isnil 0 false (.tmp 3)⟩])
 (.prune [4, 0] (.cond (.tmp 4)
  (.seq (.row [⟨(some 2), none, .mv (.const (.int .i64 0))⟩])
  (.prune [2] .ret))
  .skip)))
 (.prune [0] (.seq (.row [⟨(some 5), none, .mv (.tmp 0)⟩,
   ⟨(some 6), none, .nck (.tmp 5)⟩,
   ⟨(some 7), none, .fad 3 (.tmp 6)⟩,
   ⟨(some 8), none, .ld (.tmp 7)⟩,
   ⟨(some 2), none, .mv (.tmp 8)⟩])
 (.prune [2] .ret))))))
theorem ok71 : fits Try.prog 71 ⟨s71, 9, [.tmp 2]⟩ = some ⟨s71, 9, [.tmp 2]⟩ := by kernel_rfl
theorem go71 {args : List Value} {w : World} {R : Value → World → Prop} (hle : Nat.ble args.length 9 = true) (h : vc Try.prog 9 s71 (argEnv args 0) w (fun L w => resL L w [.tmp 2] fun vs => oneOr vs fun v => R v w) (fun _ _ _ => False) (fun L w => resL L w [.tmp 2] fun vs => oneOr vs fun v => R v w)) : Cal Try.prog 71 ⟨args⟩ w R := cal_of mo ok71 hle h

-- (*footbridge/ring.Ring[footbridge/window.place]).Len
def s72 : S := (.seq (.row [⟨(some 2), none, .mv (.const (.int .i64 0))⟩])
 (.prune [0] (.seq (.seq (.row [⟨(some 3), none, .mv (.tmp 0)⟩,
   ⟨(some 4), none, .isnil 0 false (.tmp 3)⟩])
 (.prune [4, 0] (.cond (.tmp 4)
  (.seq (.row [⟨(some 2), none, .mv (.const (.int .i64 0))⟩])
  (.prune [2] .ret))
  .skip)))
 (.prune [0] (.seq (.row [⟨(some 5), none, .mv (.tmp 0)⟩,
   ⟨(some 6), none, .nck (.tmp 5)⟩,
   ⟨(some 7), none, .fad 2 (.tmp 6)⟩,
   ⟨(some 8), none, .ld (.tmp 7)⟩,
   ⟨(some 2), none, .mv (.tmp 8)⟩])
 (.prune [2] .ret))))))
theorem ok72 : fits Try.prog 72 ⟨s72, 9, [.tmp 2]⟩ = some ⟨s72, 9, [.tmp 2]⟩ := by kernel_rfl
theorem go72 {args : List Value} {w : World} {R : Value → World → Prop} (hle : Nat.ble args.length 9 = true) (h : vc Try.prog 9 s72 (argEnv args 0) w (fun L w => resL L w [.tmp 2] fun vs => oneOr vs fun v => R v w) (fun _ _ _ => False) (fun L w => resL L w [.tmp 2] fun vs => oneOr vs fun v => R v w)) : Cal Try.prog 72 ⟨args⟩ w R := cal_of mo ok72 hle h

-- (*footbridge/window.Window).at
def s73 : S := (.seq (.row [⟨(some 4), none, .new [(.int .i64 0), (.int .i64 0)] 103⟩,
   ⟨(some 5), none, .mv (.const (.int .i64 0))⟩])
 (.prune [1, 0, 4] (.seq (.block 0 (.seq (.row [⟨(some 9), none, .mv (.tmp 0)⟩,
   ⟨(some 10), none, .isnil 0 false (.tmp 9)⟩,
   ⟨(some 8), none, .mv (.tmp 10)⟩])
 (.prune [8, 1, 0, 4] (.cond (.tmp 8)
  (.seq (.row [⟨(some 11), none, .bld [(.int .i64 0), (.int .i64 0)] [] []⟩,
    ⟨none, none, .stn 2 (.tmp 4) (.tmp 11)⟩,
    ⟨(some 5), none, .mv (.const (.int .i64 1))⟩])
  (.prune [4, 5] .ret))
  (.seq (.row [⟨(some 13), none, .mv (.tmp 1)⟩,
    ⟨(some 14), none, .ibin .lss .i64 (.tmp 13) (.const (.int .i64 0))⟩,
    ⟨(some 15), none, .mv (.tmp 14)⟩,
    ⟨(some 16), (some (15, false)), .mv (.tmp 1)⟩,
    ⟨(some 17), (some (15, false)), .mv (.tmp 0)⟩,
    ⟨(some 18), (some (15, false)), .call 38 [(.tmp 17)]⟩,
    ⟨(some 19), (some (15, false)), .ibin .geq .i64 (.tmp 16) (.tmp 18)⟩,
    ⟨(some 20), none, .pick (.tmp 15) (.const (.bool true)) (.tmp 19)⟩,
    ⟨(some 12), none, .mv (.tmp 20)⟩])
  (.prune [12, 0, 1, 4] (.cond (.tmp 12)
   (.seq (.row [⟨(some 21), none, .bld [(.int .i64 0), (.int .i64 0)] [] []⟩,
     ⟨none, none, .stn 2 (.tmp 4) (.tmp 21)⟩,
     ⟨(some 5), none, .mv (.const (.int .i64 13))⟩])
   (.prune [4, 5] .ret))
   (.seq (.row [⟨(some 23), none, .mv (.tmp 1)⟩,
     ⟨(some 24), none, .mv (.tmp 0)⟩,
     ⟨(some 25), none, .nck (.tmp 24)⟩,
     ⟨(some 26), none, .fad 0 (.tmp 25)⟩,
     ⟨(some 27), none, .ld (.tmp 26)⟩,
     ⟨(some 28), none, .nck (.tmp 27)⟩,
     ⟨(some 29), none, .fad 0 (.tmp 28)⟩,
     ⟨(some 30), none, .ld (.tmp 29)⟩,
     ⟨(some 31), none, .ibin .lss .i64 (.tmp 23) (.tmp 30)⟩,
     ⟨(some 22), none, .mv (.tmp 31)⟩])
   (.prune [22, 1, 0, 4] (.cond (.tmp 22)
    (.seq (.row [⟨(some 32), none, .bld [(.int .i64 0), (.int .i64 0)] [] []⟩,
      ⟨none, none, .stn 2 (.tmp 4) (.tmp 32)⟩,
      ⟨(some 5), none, .mv (.const (.int .i64 12))⟩])
    (.prune [4, 5] .ret))
    .skip))))))))))
 (.prune [0, 1, 4] (.seq (.row [⟨(some 34), none, .mv (.tmp 0)⟩,
   ⟨(some 35), none, .nck (.tmp 34)⟩,
   ⟨(some 36), none, .fad 1 (.tmp 35)⟩,
   ⟨(some 37), none, .ld (.tmp 36)⟩,
   ⟨(some 38), none, .mv (.tmp 1)⟩,
   ⟨(some 39), none, .call 89 [(.tmp 37), (.tmp 38)]⟩,
   ⟨(some 33), none, .mv (.tmp 39)⟩,
   ⟨(some 40), none, .ext (.tmp 33) 0⟩,
   ⟨(some 41), none, .ext (.tmp 33) 1⟩,
   ⟨(some 6), none, .new [(.int .i64 0), (.int .i64 0)] 103⟩,
   ⟨none, none, .stn 2 (.tmp 6) (.tmp 40)⟩,
   ⟨(some 7), none, .mv (.tmp 41)⟩])
 (.prune [6, 4] (.seq (.row [⟨(some 42), none, .ldn 2 (.tmp 6)⟩,
   ⟨none, none, .stn 2 (.tmp 4) (.tmp 42)⟩,
   ⟨(some 5), none, .mv (.const (.int .i64 0))⟩])
 (.prune [4, 5] .ret))))))))
theorem ok73 : fits Try.prog 73 ⟨s73, 43, [.cell 4 (some 2), .tmp 5]⟩ = some ⟨s73, 43, [.cell 4 (some 2), .tmp 5]⟩ := by kernel_rfl
theorem go73 {args : List Value} {w : World} {R : Value → World → Prop} (hle : Nat.ble args.length 43 = true) (h : vc Try.prog 43 s73 (argEnv args 0) w (fun L w => resL L w [.cell 4 (some 2), .tmp 5] fun vs => oneOr vs fun v => R v w) (fun _ _ _ => False) (fun L w => resL L w [.cell 4 (some 2), .tmp 5] fun vs => oneOr vs fun v => R v w)) : Cal Try.prog 73 ⟨args⟩ w R := cal_of mo ok73 hle h

-- (*footbridge/window.Window).end
def s74 : S := (.seq (.row [⟨(some 4), none, .mv (.const (.int .i64 0))⟩])
 (.prune [1, 0] (.seq (.row [⟨(some 8), none, .mv (.tmp 0)⟩,
   ⟨(some 9), none, .nck (.tmp 8)⟩,
   ⟨(some 10), none, .fad 1 (.tmp 9)⟩,
   ⟨(some 11), none, .ld (.tmp 10)⟩,
   ⟨(some 12), none, .mv (.tmp 1)⟩,
   ⟨(some 13), none, .call 89 [(.tmp 11), (.tmp 12)]⟩,
   ⟨(some 7), none, .mv (.tmp 13)⟩,
   ⟨(some 14), none, .ext (.tmp 7) 0⟩,
   ⟨(some 15), none, .ext (.tmp 7) 1⟩,
   ⟨(some 5), none, .new [(.int .i64 0), (.int .i64 0)] 103⟩,
   ⟨none, none, .stn 2 (.tmp 5) (.tmp 14)⟩,
   ⟨(some 6), none, .mv (.tmp 15)⟩])
 (.prune [6, 5, 0] (.seq (.seq (.row [⟨(some 16), none, .mv (.tmp 6)⟩,
   ⟨(some 17), none, .notB (.tmp 16)⟩])
 (.prune [17, 5, 0] (.cond (.tmp 17)
  (.seq (.row [⟨(some 18), none, .mv (.tmp 0)⟩,
    ⟨(some 19), none, .nck (.tmp 18)⟩,
    ⟨(some 20), none, .fad 0 (.tmp 19)⟩,
    ⟨(some 21), none, .ld (.tmp 20)⟩,
    ⟨(some 22), none, .nck (.tmp 21)⟩,
    ⟨(some 23), none, .fad 1 (.tmp 22)⟩,
    ⟨(some 24), none, .ld (.tmp 23)⟩,
    ⟨(some 4), none, .mv (.tmp 24)⟩])
  (.prune [4] .ret))
  .skip)))
 (.prune [5] (.seq (.row [⟨(some 25), none, .fad 1 (.tmp 5)⟩,
   ⟨(some 26), none, .ld (.tmp 25)⟩,
   ⟨(some 4), none, .mv (.tmp 26)⟩])
 (.prune [4] .ret))))))))
theorem ok74 : fits Try.prog 74 ⟨s74, 27, [.tmp 4]⟩ = some ⟨s74, 27, [.tmp 4]⟩ := by kernel_rfl
theorem go74 {args : List Value} {w : World} {R : Value → World → Prop} (hle : Nat.ble args.length 27 = true) (h : vc Try.prog 27 s74 (argEnv args 0) w (fun L w => resL L w [.tmp 4] fun vs => oneOr vs fun v => R v w) (fun _ _ _ => False) (fun L w => resL L w [.tmp 4] fun vs => oneOr vs fun v => R v w)) : Cal Try.prog 74 ⟨args⟩ w R := cal_of mo ok74 hle h

-- sort.Search
def s75 : S := (.seq (.row [⟨(some 4), none, .mv (.const (.int .i64 0))⟩])
 (.prune [0, 1] (.seq (.row [⟨(some 8), none, .mv (.tmp 0)⟩,
   ⟨(some 5), none, .mv (.const (.int .i64 0))⟩,
   ⟨(some 6), none, .mv (.tmp 8)⟩])
 (.prune [1, 6, 5] (.seq (.block 0 (.loop [5, 6] [5, 6, 7, 9, 10, 11, 12, 13, 14, 15, 16, 17, 18, 19, 20, 21, 22, 23, 24] (.seq (.seq (.row [⟨(some 9), none, .mv (.tmp 5)⟩,
    ⟨(some 10), none, .mv (.tmp 6)⟩,
    ⟨(some 11), none, .ibin .lss .i64 (.tmp 9) (.tmp 10)⟩])
  (.prune [11, 5, 1, 6] (.cond (.tmp 11)
   .skip
   (.exit 0))))
  (.prune [5, 1, 6] (.block 1 (.seq (.row [⟨(some 12), none, .mv (.tmp 5)⟩,
    ⟨(some 13), none, .mv (.tmp 6)⟩,
    ⟨(some 14), none, .ibin .add .i64 (.tmp 12) (.tmp 13)⟩,
    ⟨(some 15), none, .conv .u64 (.tmp 14)⟩,
    ⟨(some 16), none, .ibin .shr .u64 (.tmp 15) (.const (.int .u64 1))⟩,
    ⟨(some 17), none, .conv .i64 (.tmp 16)⟩,
    ⟨(some 7), none, .mv (.tmp 17)⟩])
  (.prune [5, 7, 1, 6] (.seq (.row [⟨(some 18), none, .mv (.tmp 1)⟩,
    ⟨(some 19), none, .mv (.tmp 7)⟩,
    ⟨(some 20), none, .callv (.tmp 18) [(.tmp 19)]⟩,
    ⟨(some 21), none, .notB (.tmp 20)⟩])
  (.prune [21, 5, 7, 1, 6] (.cond (.tmp 21)
   (.row [⟨(some 22), none, .mv (.tmp 7)⟩,
     ⟨(some 23), none, .ibin .add .i64 (.tmp 22) (.const (.int .i64 1))⟩,
     ⟨(some 5), none, .mv (.tmp 23)⟩])
   (.row [⟨(some 24), none, .mv (.tmp 7)⟩,
     ⟨(some 6), none, .mv (.tmp 24)⟩])))))))))))
 (.prune [5] (.seq (.row [⟨(some 25), none, .mv (.tmp 5)⟩,
   ⟨(some 4), none, .mv (.tmp 25)⟩])
 (.prune [4] .ret))))))))
theorem ok75 : fits Try.prog 75 ⟨s75, 26, [.tmp 4]⟩ = some ⟨s75, 26, [.tmp 4]⟩ := by kernel_rfl
theorem go75 {args : List Value} {w : World} {R : Value → World → Prop} (hle : Nat.ble args.length 26 = true) (h : vc Try.prog 26 s75 (argEnv args 0) w (fun L w => resL L w [.tmp 4] fun vs => oneOr vs fun v => R v w) (fun _ _ _ => False) (fun L w => resL L w [.tmp 4] fun vs => oneOr vs fun v => R v w)) : Cal Try.prog 75 ⟨args⟩ w R := cal_of mo ok75 hle h

-- (*footbridge/window.Window).Find$1
def s76 : S := (.seq (.row [⟨(some 4), none, .mv (.const (.bool false))⟩])
 (.prune [1, 0, 2] (.seq (.draw (.take 0 ⟨(some 5), none, .ld (.tmp 1)⟩ (.take 1 ⟨(some 6), none, .ld (.tmp 1)⟩ (.take 2 ⟨(some 7), none, .nck (.tmp 6)⟩ (.take 3 ⟨(some 8), none, .fad 0 (.tmp 7)⟩ (.take 4 ⟨(some 9), none, .ld (.tmp 8)⟩ (.take 5 ⟨(some 10), none, .nck (.tmp 9)⟩ (.take 6 ⟨(some 11), none, .fad 0 (.tmp 10)⟩ (.take 7 ⟨(some 12), none, .ld (.tmp 11)⟩ (.take 8 ⟨(some 13), none, .mv (.tmp 0)⟩ (.take 9 ⟨(some 14), none, .ibin .add .i64 (.tmp 12) (.tmp 13)⟩ (.take 11 ⟨(some 16), none, .ld (.tmp 2)⟩ (.step 10 true ⟨(some 15), none, .call 74 [(.tmp 5), (.tmp 14)]⟩ (.take 12 ⟨(some 17), none, .ibin .gtr .i64 (.tmp 15) (.tmp 16)⟩ (.take 13 ⟨(some 4), none, .mv (.tmp 17)⟩ .done)))))))))))))))
 (.prune [4] .ret))))
theorem ok76 : fits Try.prog 76 ⟨s76, 18, [.tmp 4]⟩ = some ⟨s76, 18, [.tmp 4]⟩ := by kernel_rfl
theorem go76 {args : List Value} {w : World} {R : Value → World → Prop} (hle : Nat.ble args.length 18 = true) (h : vc Try.prog 18 s76 (argEnv args 0) w (fun L w => resL L w [.tmp 4] fun vs => oneOr vs fun v => R v w) (fun _ _ _ => False) (fun L w => resL L w [.tmp 4] fun vs => oneOr vs fun v => R v w)) : Cal Try.prog 76 ⟨args⟩ w R := cal_of mo ok76 hle h

-- footbridge/footbridgeref21.Base
def s77 : S := (.seq (.row [⟨(some 1), none, .box 60 (.tmp 0)⟩,
   ⟨(some 2), none, .mv (.const (.int .i64 0))⟩])
 (.prune [1] (.seq (.row [⟨(some 3), none, .fad 2 (.tmp 1)⟩,
   ⟨(some 4), none, .ld (.tmp 3)⟩,
   ⟨(some 5), none, .fad 3 (.tmp 1)⟩,
   ⟨(some 6), none, .ld (.tmp 5)⟩,
   ⟨(some 7), none, .ibin .sub .i64 (.tmp 4) (.tmp 6)⟩,
   ⟨(some 8), none, .mm true .i64 (.const (.int .i64 0)) (.tmp 7)⟩,
   ⟨(some 2), none, .mv (.tmp 8)⟩])
 (.prune [2] .ret))))
theorem ok77 : fits Try.prog 77 ⟨s77, 9, [.tmp 2]⟩ = some ⟨s77, 9, [.tmp 2]⟩ := by kernel_rfl
theorem go77 {args : List Value} {w : World} {R : Value → World → Prop} (hle : Nat.ble args.length 9 = true) (h : vc Try.prog 9 s77 (argEnv args 0) w (fun L w => resL L w [.tmp 2] fun vs => oneOr vs fun v => R v w) (fun _ _ _ => False) (fun L w => resL L w [.tmp 2] fun vs => oneOr vs fun v => R v w)) : Cal Try.prog 77 ⟨args⟩ w R := cal_of mo ok77 hle h

-- footbridge/footbridgeref21.Start
def s78 : S := (.seq (.row [⟨(some 1), none, .box 60 (.tmp 0)⟩,
   ⟨(some 2), none, .mv (.const (.int .i64 0))⟩])
 (.prune [1] (.seq (.draw (.take 0 ⟨(some 3), none, .fad 1 (.tmp 1)⟩ (.take 1 ⟨(some 4), none, .ld (.tmp 3)⟩ (.take 2 ⟨(some 5), none, .ldn 4 (.tmp 1)⟩ (.step 3 true ⟨(some 6), none, .call 77 [(.tmp 5)]⟩ (.step 4 true ⟨(some 7), none, .call 88 [(.tmp 4), (.tmp 6)]⟩ (.take 5 ⟨(some 2), none, .mv (.tmp 7)⟩ .done)))))))
 (.prune [2] .ret))))
theorem ok78 : fits Try.prog 78 ⟨s78, 8, [.tmp 2]⟩ = some ⟨s78, 8, [.tmp 2]⟩ := by kernel_rfl
theorem go78 {args : List Value} {w : World} {R : Value → World → Prop} (hle : Nat.ble args.length 8 = true) (h : vc Try.prog 8 s78 (argEnv args 0) w (fun L w => resL L w [.tmp 2] fun vs => oneOr vs fun v => R v w) (fun _ _ _ => False) (fun L w => resL L w [.tmp 2] fun vs => oneOr vs fun v => R v w)) : Cal Try.prog 78 ⟨args⟩ w R := cal_of mo ok78 hle h

-- footbridge/footbridgeref21.Total
def s79 : S := (.seq (.row [⟨(some 1), none, .box 60 (.tmp 0)⟩,
   ⟨(some 2), none, .mv (.const (.int .i64 0))⟩])
 (.prune [1] (.seq (.row [⟨(some 3), none, .fad 1 (.tmp 1)⟩,
   ⟨(some 4), none, .ld (.tmp 3)⟩,
   ⟨(some 5), none, .fad 1 (.tmp 1)⟩,
   ⟨(some 6), none, .ld (.tmp 5)⟩,
   ⟨(some 7), none, .lenA (.tmp 6)⟩,
   ⟨(some 8), none, .call 88 [(.tmp 4), (.tmp 7)]⟩,
   ⟨(some 2), none, .mv (.tmp 8)⟩])
 (.prune [2] .ret))))
theorem ok79 : fits Try.prog 79 ⟨s79, 9, [.tmp 2]⟩ = some ⟨s79, 9, [.tmp 2]⟩ := by kernel_rfl
theorem go79 {args : List Value} {w : World} {R : Value → World → Prop} (hle : Nat.ble args.length 9 = true) (h : vc Try.prog 9 s79 (argEnv args 0) w (fun L w => resL L w [.tmp 2] fun vs => oneOr vs fun v => R v w) (fun _ _ _ => False) (fun L w => resL L w [.tmp 2] fun vs => oneOr vs fun v => R v w)) : Cal Try.prog 79 ⟨args⟩ w R := cal_of mo ok79 hle h

-- footbridge/footbridgeref10.Same
def s80 : S := (.seq (.row [⟨(some 4), none, .mv (.const (.bool false))⟩])
 (.prune [0, 1] (.seq (.seq (.row [⟨(some 6), none, .mv (.tmp 0)⟩,
   ⟨(some 7), none, .lenA (.tmp 6)⟩,
   ⟨(some 8), none, .mv (.tmp 1)⟩,
   ⟨(some 9), none, .lenA (.tmp 8)⟩,
   ⟨(some 10), none, .ibin .neq .i64 (.tmp 7) (.tmp 9)⟩])
 (.prune [10, 0, 1] (.cond (.tmp 10)
  (.seq (.row [⟨(some 4), none, .mv (.const (.bool false))⟩])
  (.prune [4] .ret))
  .skip)))
 (.prune [1, 0] (.seq (.seq (.row [⟨(some 11), none, .mv (.tmp 0)⟩,
   ⟨(some 12), none, .lenA (.tmp 11)⟩,
   ⟨(some 13), none, .mv (.const (.int .i64 0))⟩])
 (.prune [13, 1, 0, 12] (.block 0 (.loop [13] [4, 5, 13, 14, 15, 16, 17, 18, 19, 20, 21, 22, 23, 24, 25] (.seq (.row [⟨(some 14), none, .ibin .lss .i64 (.tmp 13) (.tmp 12)⟩])
  (.prune [14, 12, 0, 1, 13] (.seq (.cond (.tmp 14)
   .skip
   (.exit 0))
  (.prune [12, 0, 1, 13] (.seq (.block 1 (.seq (.row [⟨(some 15), none, .mv (.tmp 13)⟩,
    ⟨(some 5), none, .mv (.tmp 15)⟩])
  (.prune [5, 12, 0, 1, 13] (.seq (.draw (.take 0 ⟨(some 16), none, .mv (.tmp 0)⟩ (.take 1 ⟨(some 17), none, .mv (.tmp 5)⟩ (.take 2 ⟨(some 18), none, .ixA 1 (.tmp 16) (.tmp 17)⟩ (.take 3 ⟨(some 19), none, .ld (.tmp 18)⟩ (.take 4 ⟨(some 20), none, .mv (.tmp 1)⟩ (.take 5 ⟨(some 21), none, .mv (.tmp 5)⟩ (.take 6 ⟨(some 22), none, .ixA 1 (.tmp 20) (.tmp 21)⟩ (.take 7 ⟨(some 23), none, .ld (.tmp 22)⟩ (.take 8 ⟨(some 24), none, .ibin .neq .i64 (.tmp 19) (.tmp 23)⟩ .done))))))))))
  (.prune [24, 12, 0, 1, 13] (.cond (.tmp 24)
   (.seq (.row [⟨(some 4), none, .mv (.const (.bool false))⟩])
   (.prune [4] .ret))
   .skip))))))
  (.prune [13, 1, 0, 12] (.row [⟨(some 25), none, .ibin .add .i64 (.tmp 13) (.const (.int .i64 1))⟩,
    ⟨(some 13), none, .mv (.tmp 25)⟩])))))))))))
 (.prune [] (.seq (.row [⟨(some 4), none, .mv (.const (.bool true))⟩])
 (.prune [4] .ret))))))))
theorem ok80 : fits Try.prog 80 ⟨s80, 26, [.tmp 4]⟩ = some ⟨s80, 26, [.tmp 4]⟩ := by kernel_rfl
theorem go80 {args : List Value} {w : World} {R : Value → World → Prop} (hle : Nat.ble args.length 26 = true) (h : vc Try.prog 26 s80 (argEnv args 0) w (fun L w => resL L w [.tmp 4] fun vs => oneOr vs fun v => R v w) (fun _ _ _ => False) (fun L w => resL L w [.tmp 4] fun vs => oneOr vs fun v => R v w)) : Cal Try.prog 80 ⟨args⟩ w R := cal_of mo ok80 hle h

-- footbridge/footbridgeref21.SameCuts
def s81 : S := (.seq (.row [⟨(some 2), none, .box 78 (.tmp 0)⟩,
   ⟨(some 3), none, .box 78 (.tmp 1)⟩,
   ⟨(some 4), none, .mv (.const (.bool false))⟩])
 (.prune [2, 3] (.seq (.seq (.row [⟨(some 6), none, .fad 0 (.tmp 2)⟩,
   ⟨(some 7), none, .ld (.tmp 6)⟩,
   ⟨(some 8), none, .fad 0 (.tmp 3)⟩,
   ⟨(some 9), none, .ld (.tmp 8)⟩,
   ⟨(some 10), none, .ibin .neq .i64 (.tmp 7) (.tmp 9)⟩,
   ⟨(some 11), none, .mv (.tmp 10)⟩,
   ⟨(some 12), (some (11, false)), .fad 1 (.tmp 2)⟩,
   ⟨(some 13), (some (11, false)), .ld (.tmp 12)⟩,
   ⟨(some 14), (some (11, false)), .fad 1 (.tmp 3)⟩,
   ⟨(some 15), (some (11, false)), .ld (.tmp 14)⟩,
   ⟨(some 16), (some (11, false)), .ibin .neq .i64 (.tmp 13) (.tmp 15)⟩,
   ⟨(some 17), none, .pick (.tmp 11) (.const (.bool true)) (.tmp 16)⟩,
   ⟨(some 18), none, .mv (.tmp 17)⟩,
   ⟨(some 19), (some (18, false)), .fad 2 (.tmp 2)⟩,
   ⟨(some 20), (some (18, false)), .ld (.tmp 19)⟩,
   ⟨(some 21), (some (18, false)), .lenA (.tmp 20)⟩,
   ⟨(some 22), (some (18, false)), .fad 2 (.tmp 3)⟩,
   ⟨(some 23), (some (18, false)), .ld (.tmp 22)⟩,
   ⟨(some 24), (some (18, false)), .lenA (.tmp 23)⟩,
   ⟨(some 25), (some (18, false)), .ibin .neq .i64 (.tmp 21) (.tmp 24)⟩,
   ⟨(some 26), none, .pick (.tmp 18) (.const (.bool true)) (.tmp 25)⟩])
 (.prune [26, 2, 3] (.cond (.tmp 26)
  (.seq (.row [⟨(some 4), none, .mv (.const (.bool false))⟩])
  (.prune [4] .ret))
  .skip)))
 (.prune [3, 2] (.seq (.seq (.row [⟨(some 27), none, .fad 2 (.tmp 2)⟩,
   ⟨(some 28), none, .ld (.tmp 27)⟩,
   ⟨(some 29), none, .lenA (.tmp 28)⟩,
   ⟨(some 30), none, .mv (.const (.int .i64 0))⟩])
 (.prune [30, 3, 2, 29] (.block 0 (.loop [30] [4, 5, 30, 31, 32, 33, 34, 35, 36, 37, 38, 39, 40, 41, 42, 43, 44] (.seq (.row [⟨(some 31), none, .ibin .lss .i64 (.tmp 30) (.tmp 29)⟩])
  (.prune [31, 29, 2, 3, 30] (.seq (.cond (.tmp 31)
   .skip
   (.exit 0))
  (.prune [29, 2, 3, 30] (.seq (.block 1 (.seq (.row [⟨(some 32), none, .mv (.tmp 30)⟩,
    ⟨(some 5), none, .mv (.tmp 32)⟩])
  (.prune [5, 29, 2, 3, 30] (.seq (.draw (.take 0 ⟨(some 33), none, .fad 2 (.tmp 2)⟩ (.take 1 ⟨(some 34), none, .ld (.tmp 33)⟩ (.take 2 ⟨(some 35), none, .mv (.tmp 5)⟩ (.take 3 ⟨(some 36), none, .ixA 1 (.tmp 34) (.tmp 35)⟩ (.take 4 ⟨(some 37), none, .ld (.tmp 36)⟩ (.take 5 ⟨(some 38), none, .fad 2 (.tmp 3)⟩ (.take 6 ⟨(some 39), none, .ld (.tmp 38)⟩ (.take 7 ⟨(some 40), none, .mv (.tmp 5)⟩ (.take 8 ⟨(some 41), none, .ixA 1 (.tmp 39) (.tmp 40)⟩ (.take 9 ⟨(some 42), none, .ld (.tmp 41)⟩ (.take 10 ⟨(some 43), none, .ibin .neq .i64 (.tmp 37) (.tmp 42)⟩ .done))))))))))))
  (.prune [43, 29, 2, 3, 30] (.cond (.tmp 43)
   (.seq (.row [⟨(some 4), none, .mv (.const (.bool false))⟩])
   (.prune [4] .ret))
   .skip))))))
  (.prune [30, 3, 2, 29] (.row [⟨(some 44), none, .ibin .add .i64 (.tmp 30) (.const (.int .i64 1))⟩,
    ⟨(some 30), none, .mv (.tmp 44)⟩])))))))))))
 (.prune [] (.seq (.row [⟨(some 4), none, .mv (.const (.bool true))⟩])
 (.prune [4] .ret))))))))
theorem ok81 : fits Try.prog 81 ⟨s81, 45, [.tmp 4]⟩ = some ⟨s81, 45, [.tmp 4]⟩ := by kernel_rfl
theorem go81 {args : List Value} {w : World} {R : Value → World → Prop} (hle : Nat.ble args.length 45 = true) (h : vc Try.prog 45 s81 (argEnv args 0) w (fun L w => resL L w [.tmp 4] fun vs => oneOr vs fun v => R v w) (fun _ _ _ => False) (fun L w => resL L w [.tmp 4] fun vs => oneOr vs fun v => R v w)) : Cal Try.prog 81 ⟨args⟩ w R := cal_of mo ok81 hle h

-- footbridge/footbridgeref21.Cuts
def s82 : S := (.seq (.row [⟨(some 1), none, .box 60 (.tmp 0)⟩,
   ⟨(some 2), none, .new [(.int .i64 0), (.int .i64 0), (.slice none 0 0)] 78⟩])
 (.prune [1, 2] (.seq (.row [⟨(some 4), none, .bsl 3 0 [] [] []⟩,
   ⟨(some 3), none, .mv (.tmp 4)⟩])
 (.prune [3, 1, 2] (.seq (.draw (.take 0 ⟨(some 5), none, .ldn 4 (.tmp 1)⟩ (.take 2 ⟨(some 7), none, .ldn 4 (.tmp 1)⟩ (.take 4 ⟨(some 9), none, .mv (.tmp 3)⟩ (.take 5 ⟨(some 10), none, .fad 1 (.tmp 1)⟩ (.take 6 ⟨(some 11), none, .ld (.tmp 10)⟩ (.take 7 ⟨(some 12), none, .ldn 4 (.tmp 1)⟩ (.step 1 true ⟨(some 6), none, .call 77 [(.tmp 5)]⟩ (.step 3 true ⟨(some 8), none, .call 78 [(.tmp 7)]⟩ (.step 8 true ⟨(some 13), none, .call 77 [(.tmp 12)]⟩ (.take 9 ⟨(some 14), none, .slc 1 (.tmp 11) (some (.tmp 13)) none⟩ (.step 10 true ⟨(some 15), none, .run (.bi .append ⟨[56, 56]⟩ 56) [(.tmp 9), (.tmp 14)]⟩ (.take 11 ⟨(some 16), none, .bld [(.int .i64 0), (.int .i64 0), (.slice none 0 0)] [(0, 1), (1, 1), (2, 1)] [(.tmp 6), (.tmp 8), (.tmp 15)]⟩ (.step 12 false ⟨none, none, .stn 3 (.tmp 2) (.tmp 16)⟩ .done))))))))))))))
 (.prune [2] .ret))))))
theorem ok82 : fits Try.prog 82 ⟨s82, 17, [.cell 2 (some 3)]⟩ = some ⟨s82, 17, [.cell 2 (some 3)]⟩ := by kernel_rfl
theorem go82 {args : List Value} {w : World} {R : Value → World → Prop} (hle : Nat.ble args.length 17 = true) (h : vc Try.prog 17 s82 (argEnv args 0) w (fun L w => resL L w [.cell 2 (some 3)] fun vs => oneOr vs fun v => R v w) (fun _ _ _ => False) (fun L w => resL L w [.cell 2 (some 3)] fun vs => oneOr vs fun v => R v w)) : Cal Try.prog 82 ⟨args⟩ w R := cal_of mo ok82 hle h

-- (*footbridge/ring.Ring[footbridge/window.place]).Copy
def s83 : S := (.seq (.row [⟨(some 2), none, .mv (.const (.pointer none))⟩])
 (.prune [0] (.seq (.seq (.row [⟨(some 4), none, .mv (.tmp 0)⟩,
   ⟨(some 5), none, .isnil 0 false (.tmp 4)⟩])
 (.prune [5, 0] (.cond (.tmp 5)
  (.seq (.row [⟨(some 2), none, .mv (.const (.pointer none))⟩])
  (.prune [2] .ret))
  .skip)))
 (.prune [0] (.seq (.row [⟨(some 6), none, .mv (.tmp 0)⟩,
   ⟨(some 7), none, .nck (.tmp 6)⟩,
   ⟨(some 8), none, .ldn 5 (.tmp 7)⟩,
   ⟨(some 3), none, .new [(.slice none 0 0), (.int .i64 0), (.int .i64 0), (.int .i64 0), (.int .i64 0)] 126⟩,
   ⟨none, none, .stn 5 (.tmp 3) (.tmp 8)⟩])
 (.prune [0, 3] (.seq (.row [⟨(some 9), none, .mv (.tmp 0)⟩,
   ⟨(some 10), none, .nck (.tmp 9)⟩,
   ⟨(some 11), none, .fad 0 (.tmp 10)⟩,
   ⟨(some 12), none, .ld (.tmp 11)⟩,
   ⟨(some 13), none, .call 90 [(.tmp 12)]⟩,
   ⟨(some 14), none, .fad 0 (.tmp 3)⟩,
   ⟨none, none, .st (.tmp 14) (.tmp 13)⟩])
 (.prune [3] (.seq (.row [⟨(some 2), none, .mv (.tmp 3)⟩])
 (.prune [2] .ret))))))))))
theorem ok83 : fits Try.prog 83 ⟨s83, 15, [.tmp 2]⟩ = some ⟨s83, 15, [.tmp 2]⟩ := by kernel_rfl
theorem go83 {args : List Value} {w : World} {R : Value → World → Prop} (hle : Nat.ble args.length 15 = true) (h : vc Try.prog 15 s83 (argEnv args 0) w (fun L w => resL L w [.tmp 2] fun vs => oneOr vs fun v => R v w) (fun _ _ _ => False) (fun L w => resL L w [.tmp 2] fun vs => oneOr vs fun v => R v w)) : Cal Try.prog 83 ⟨args⟩ w R := cal_of mo ok83 hle h

-- (*footbridge/ring.Ring[footbridge/window.place]).All
def s84 : S := (.seq (.row [⟨(some 2), none, .mv (.const (.slice none 0 0))⟩])
 (.prune [0] (.seq (.row [⟨(some 3), none, .mv (.const (.slice none 0 0))⟩])
 (.prune [0, 3] (.seq (.seq (.row [⟨(some 5), none, .mv (.tmp 0)⟩,
   ⟨(some 6), none, .call 72 [(.tmp 5)]⟩,
   ⟨(some 7), none, .mv (.const (.int .i64 0))⟩])
 (.prune [7, 0, 3, 6] (.block 0 (.loop [3, 7] [3, 4, 7, 8, 9, 10, 11, 12, 13, 14, 15, 16, 17, 18, 19, 20, 21, 22] (.seq (.row [⟨(some 8), none, .ibin .lss .i64 (.tmp 7) (.tmp 6)⟩])
  (.prune [8, 3, 7, 0, 6] (.seq (.cond (.tmp 8)
   .skip
   (.exit 0))
  (.prune [3, 7, 0, 6] (.seq (.block 1 (.seq (.row [⟨(some 9), none, .mv (.tmp 7)⟩,
    ⟨(some 4), none, .mv (.tmp 9)⟩])
  (.prune [3, 4, 7, 0, 6] (.draw (.take 0 ⟨(some 10), none, .mv (.tmp 3)⟩ (.take 1 ⟨(some 11), none, .mv (.tmp 0)⟩ (.take 2 ⟨(some 12), none, .nck (.tmp 11)⟩ (.take 3 ⟨(some 13), none, .fad 0 (.tmp 12)⟩ (.take 4 ⟨(some 14), none, .ld (.tmp 13)⟩ (.take 5 ⟨(some 15), none, .mv (.tmp 0)⟩ (.take 6 ⟨(some 16), none, .mv (.tmp 4)⟩ (.step 7 true ⟨(some 17), none, .call 91 [(.tmp 15), (.tmp 16)]⟩ (.take 8 ⟨(some 18), none, .ixA 2 (.tmp 14) (.tmp 17)⟩ (.take 9 ⟨(some 19), none, .ldn 2 (.tmp 18)⟩ (.step 10 true ⟨(some 20), none, .bsl 103 1 [(.int .i64 0), (.int .i64 0)] [(0, 2)] [(.tmp 19)]⟩ (.step 11 true ⟨(some 21), none, .run (.bi .append ⟨[120, 120]⟩ 120) [(.tmp 10), (.tmp 20)]⟩ (.take 12 ⟨(some 3), none, .mv (.tmp 21)⟩ .done)))))))))))))))))
  (.prune [7, 0, 3, 6] (.row [⟨(some 22), none, .ibin .add .i64 (.tmp 7) (.const (.int .i64 1))⟩,
    ⟨(some 7), none, .mv (.tmp 22)⟩])))))))))))
 (.prune [3] (.seq (.row [⟨(some 23), none, .mv (.tmp 3)⟩,
   ⟨(some 2), none, .mv (.tmp 23)⟩])
 (.prune [2] .ret))))))))
theorem ok84 : fits Try.prog 84 ⟨s84, 24, [.tmp 2]⟩ = some ⟨s84, 24, [.tmp 2]⟩ := by kernel_rfl
theorem go84 {args : List Value} {w : World} {R : Value → World → Prop} (hle : Nat.ble args.length 24 = true) (h : vc Try.prog 24 s84 (argEnv args 0) w (fun L w => resL L w [.tmp 2] fun vs => oneOr vs fun v => R v w) (fun _ _ _ => False) (fun L w => resL L w [.tmp 2] fun vs => oneOr vs fun v => R v w)) : Cal Try.prog 84 ⟨args⟩ w R := cal_of mo ok84 hle h

-- (*footbridge/ring.Ring[footbridge/window.place]).Push
def s85 : S := (.seq (.row [⟨(some 3), none, .box 103 (.tmp 1)⟩,
   ⟨(some 4), none, .mv (.const (.bool false))⟩])
 (.prune [0, 3] (.seq (.seq (.draw (.take 0 ⟨(some 5), none, .mv (.tmp 0)⟩ (.take 1 ⟨(some 6), none, .isnil 0 false (.tmp 5)⟩ (.take 2 ⟨(some 7), none, .mv (.tmp 6)⟩ (.take 3 ⟨(some 8), (some (7, false)), .mv (.tmp 0)⟩ (.take 4 ⟨(some 9), (some (7, false)), .nck (.tmp 8)⟩ (.take 5 ⟨(some 10), (some (7, false)), .fad 2 (.tmp 9)⟩ (.take 6 ⟨(some 11), (some (7, false)), .ld (.tmp 10)⟩ (.take 7 ⟨(some 12), (some (7, false)), .mv (.tmp 0)⟩ (.take 8 ⟨(some 13), (some (7, false)), .nck (.tmp 12)⟩ (.take 9 ⟨(some 14), (some (7, false)), .fad 4 (.tmp 13)⟩ (.take 10 ⟨(some 15), (some (7, false)), .ld (.tmp 14)⟩ (.take 11 ⟨(some 16), (some (7, false)), .ibin .eql .i64 (.tmp 11) (.tmp 15)⟩ (.take 12 ⟨(some 17), none, .pick (.tmp 7) (.const (.bool true)) (.tmp 16)⟩ .done))))))))))))))
 (.prune [17, 0, 3] (.cond (.tmp 17)
  (.seq (.row [⟨(some 4), none, .mv (.const (.bool false))⟩])
  (.prune [4] .ret))
  .skip)))
 (.prune [3, 0] (.seq (.seq (.draw (.take 0 ⟨(some 18), none, .mv (.tmp 0)⟩ (.take 1 ⟨(some 19), none, .nck (.tmp 18)⟩ (.take 2 ⟨(some 20), none, .fad 2 (.tmp 19)⟩ (.take 3 ⟨(some 21), none, .ld (.tmp 20)⟩ (.take 4 ⟨(some 22), none, .mv (.tmp 0)⟩ (.take 5 ⟨(some 23), none, .nck (.tmp 22)⟩ (.take 6 ⟨(some 24), none, .fad 0 (.tmp 23)⟩ (.take 7 ⟨(some 25), none, .ld (.tmp 24)⟩ (.take 8 ⟨(some 26), none, .lenA (.tmp 25)⟩ (.take 9 ⟨(some 27), none, .ibin .eql .i64 (.tmp 21) (.tmp 26)⟩ .done)))))))))))
 (.prune [27, 3, 0] (.cond (.tmp 27)
  (.row [⟨(some 28), none, .mv (.tmp 0)⟩,
    ⟨(some 29), none, .call 92 [(.tmp 28)]⟩])
  .skip)))
 (.prune [3, 0] (.seq (.draw (.take 0 ⟨(some 30), none, .mv (.tmp 0)⟩ (.take 1 ⟨(some 31), none, .nck (.tmp 30)⟩ (.take 2 ⟨(some 32), none, .fad 0 (.tmp 31)⟩ (.take 3 ⟨(some 33), none, .ld (.tmp 32)⟩ (.take 4 ⟨(some 34), none, .mv (.tmp 0)⟩ (.take 5 ⟨(some 35), none, .mv (.tmp 0)⟩ (.take 6 ⟨(some 36), none, .nck (.tmp 35)⟩ (.take 7 ⟨(some 37), none, .fad 2 (.tmp 36)⟩ (.take 8 ⟨(some 38), none, .ld (.tmp 37)⟩ (.take 10 ⟨(some 40), none, .ldn 2 (.tmp 3)⟩ (.step 9 true ⟨(some 39), none, .call 91 [(.tmp 34), (.tmp 38)]⟩ (.take 11 ⟨(some 41), none, .ixA 2 (.tmp 33) (.tmp 39)⟩ (.step 12 false ⟨none, none, .stn 2 (.tmp 41) (.tmp 40)⟩ .done))))))))))))))
 (.prune [0] (.seq (.row [⟨(some 42), none, .mv (.tmp 0)⟩,
   ⟨(some 43), none, .nck (.tmp 42)⟩,
   ⟨(some 44), none, .fad 2 (.tmp 43)⟩,
   ⟨(some 45), none, .ld (.tmp 44)⟩,
   ⟨(some 46), none, .ibin .add .i64 (.tmp 45) (.const (.int .i64 1))⟩,
   ⟨(some 47), none, .nck (.tmp 42)⟩,
   ⟨(some 48), none, .fad 2 (.tmp 47)⟩,
   ⟨none, none, .st (.tmp 48) (.tmp 46)⟩])
 (.prune [] (.seq (.row [⟨(some 4), none, .mv (.const (.bool true))⟩])
 (.prune [4] .ret))))))))))))
theorem ok85 : fits Try.prog 85 ⟨s85, 49, [.tmp 4]⟩ = some ⟨s85, 49, [.tmp 4]⟩ := by kernel_rfl
theorem go85 {args : List Value} {w : World} {R : Value → World → Prop} (hle : Nat.ble args.length 49 = true) (h : vc Try.prog 49 s85 (argEnv args 0) w (fun L w => resL L w [.tmp 4] fun vs => oneOr vs fun v => R v w) (fun _ _ _ => False) (fun L w => resL L w [.tmp 4] fun vs => oneOr vs fun v => R v w)) : Cal Try.prog 85 ⟨args⟩ w R := cal_of mo ok85 hle h

-- (*footbridge/ring.Ring[footbridge/window.place]).Cut
def s86 : S := (.seq (.row [⟨(some 4), none, .mv (.const (.bool false))⟩])
 (.prune [1, 0] (.seq (.seq (.draw (.take 0 ⟨(some 5), none, .mv (.tmp 0)⟩ (.take 1 ⟨(some 6), none, .isnil 0 false (.tmp 5)⟩ (.take 2 ⟨(some 7), none, .mv (.tmp 6)⟩ (.take 3 ⟨(some 8), (some (7, false)), .mv (.tmp 1)⟩ (.take 4 ⟨(some 9), (some (7, false)), .mv (.tmp 0)⟩ (.take 5 ⟨(some 10), (some (7, false)), .nck (.tmp 9)⟩ (.take 6 ⟨(some 11), (some (7, false)), .fad 3 (.tmp 10)⟩ (.take 7 ⟨(some 12), (some (7, false)), .ld (.tmp 11)⟩ (.take 8 ⟨(some 13), (some (7, false)), .ibin .lss .i64 (.tmp 8) (.tmp 12)⟩ (.take 9 ⟨(some 14), none, .pick (.tmp 7) (.const (.bool true)) (.tmp 13)⟩ (.take 10 ⟨(some 15), none, .mv (.tmp 14)⟩ (.take 11 ⟨(some 16), (some (15, false)), .mv (.tmp 1)⟩ (.take 12 ⟨(some 17), (some (15, false)), .mv (.tmp 0)⟩ (.take 13 ⟨(some 18), (some (15, false)), .nck (.tmp 17)⟩ (.take 14 ⟨(some 19), (some (15, false)), .fad 3 (.tmp 18)⟩ (.take 15 ⟨(some 20), (some (15, false)), .ld (.tmp 19)⟩ (.take 16 ⟨(some 21), (some (15, false)), .ibin .sub .i64 (.tmp 16) (.tmp 20)⟩ (.take 17 ⟨(some 22), (some (15, false)), .mv (.tmp 0)⟩ (.take 18 ⟨(some 23), (some (15, false)), .nck (.tmp 22)⟩ (.take 19 ⟨(some 24), (some (15, false)), .fad 2 (.tmp 23)⟩ (.take 20 ⟨(some 25), (some (15, false)), .ld (.tmp 24)⟩ (.take 21 ⟨(some 26), (some (15, false)), .ibin .gtr .i64 (.tmp 21) (.tmp 25)⟩ (.take 22 ⟨(some 27), none, .pick (.tmp 15) (.const (.bool true)) (.tmp 26)⟩ .done))))))))))))))))))))))))
 (.prune [27, 1, 0] (.cond (.tmp 27)
  (.seq (.row [⟨(some 4), none, .mv (.const (.bool false))⟩])
  (.prune [4] .ret))
  .skip)))
 (.prune [0, 1] (.seq (.block 0 (.loop [] [28, 29, 30, 31, 32, 33, 34, 35, 36, 37, 38, 39, 40] (.seq (.seq (.draw (.take 0 ⟨(some 28), none, .mv (.tmp 0)⟩ (.take 1 ⟨(some 29), none, .nck (.tmp 28)⟩ (.take 2 ⟨(some 30), none, .fad 2 (.tmp 29)⟩ (.take 3 ⟨(some 31), none, .ld (.tmp 30)⟩ (.take 4 ⟨(some 32), none, .mv (.tmp 1)⟩ (.take 5 ⟨(some 33), none, .mv (.tmp 0)⟩ (.take 6 ⟨(some 34), none, .nck (.tmp 33)⟩ (.take 7 ⟨(some 35), none, .fad 3 (.tmp 34)⟩ (.take 8 ⟨(some 36), none, .ld (.tmp 35)⟩ (.take 9 ⟨(some 37), none, .ibin .sub .i64 (.tmp 32) (.tmp 36)⟩ (.take 10 ⟨(some 38), none, .ibin .gtr .i64 (.tmp 31) (.tmp 37)⟩ .done))))))))))))
  (.prune [38, 0, 1] (.cond (.tmp 38)
   .skip
   (.exit 0))))
  (.prune [0, 1] (.block 1 (.row [⟨(some 39), none, .mv (.tmp 0)⟩,
    ⟨(some 40), none, .call 93 [(.tmp 39)]⟩]))))))
 (.prune [] (.seq (.row [⟨(some 4), none, .mv (.const (.bool true))⟩])
 (.prune [4] .ret))))))))
theorem ok86 : fits Try.prog 86 ⟨s86, 41, [.tmp 4]⟩ = some ⟨s86, 41, [.tmp 4]⟩ := by kernel_rfl
theorem go86 {args : List Value} {w : World} {R : Value → World → Prop} (hle : Nat.ble args.length 41 = true) (h : vc Try.prog 41 s86 (argEnv args 0) w (fun L w => resL L w [.tmp 4] fun vs => oneOr vs fun v => R v w) (fun _ _ _ => False) (fun L w => resL L w [.tmp 4] fun vs => oneOr vs fun v => R v w)) : Cal Try.prog 86 ⟨args⟩ w R := cal_of mo ok86 hle h

-- (*footbridge/ring.Ring[footbridge/window.place]).Shift
def s87 : S := (.seq (.row [⟨(some 2), none, .new [(.int .i64 0), (.int .i64 0)] 103⟩,
   ⟨(some 3), none, .mv (.const (.bool false))⟩])
 (.prune [0, 2] (.seq (.seq (.row [⟨(some 6), none, .mv (.tmp 0)⟩,
   ⟨(some 7), none, .call 72 [(.tmp 6)]⟩,
   ⟨(some 8), none, .ibin .eql .i64 (.tmp 7) (.const (.int .i64 0))⟩])
 (.prune [8, 0, 2] (.cond (.tmp 8)
  (.seq (.row [⟨(some 4), none, .new [(.int .i64 0), (.int .i64 0)] 103⟩])
  (.prune [4, 2] (.seq (.row [⟨(some 9), none, .ldn 2 (.tmp 4)⟩,
    ⟨none, none, .stn 2 (.tmp 2) (.tmp 9)⟩,
    ⟨(some 3), none, .mv (.const (.bool false))⟩])
  (.prune [2, 3] .ret))))
  .skip)))
 (.prune [0, 2] (.seq (.row [⟨(some 10), none, .mv (.tmp 0)⟩,
   ⟨(some 11), none, .call 94 [(.tmp 10), (.const (.int .i64 0))]⟩,
   ⟨(some 5), none, .new [(.int .i64 0), (.int .i64 0)] 103⟩,
   ⟨none, none, .stn 2 (.tmp 5) (.tmp 11)⟩])
 (.prune [0, 5, 2] (.seq (.row [⟨(some 12), none, .mv (.tmp 0)⟩,
   ⟨(some 13), none, .mv (.tmp 0)⟩,
   ⟨(some 14), none, .call 91 [(.tmp 13), (.const (.int .i64 1))]⟩,
   ⟨(some 15), none, .nck (.tmp 12)⟩,
   ⟨(some 16), none, .fad 1 (.tmp 15)⟩,
   ⟨none, none, .st (.tmp 16) (.tmp 14)⟩])
 (.prune [0, 5, 2] (.seq (.row [⟨(some 17), none, .mv (.tmp 0)⟩,
   ⟨(some 18), none, .nck (.tmp 17)⟩,
   ⟨(some 19), none, .fad 2 (.tmp 18)⟩,
   ⟨(some 20), none, .ld (.tmp 19)⟩,
   ⟨(some 21), none, .ibin .sub .i64 (.tmp 20) (.const (.int .i64 1))⟩,
   ⟨(some 22), none, .nck (.tmp 17)⟩,
   ⟨(some 23), none, .fad 2 (.tmp 22)⟩,
   ⟨none, none, .st (.tmp 23) (.tmp 21)⟩])
 (.prune [0, 5, 2] (.seq (.row [⟨(some 24), none, .mv (.tmp 0)⟩,
   ⟨(some 25), none, .nck (.tmp 24)⟩,
   ⟨(some 26), none, .fad 3 (.tmp 25)⟩,
   ⟨(some 27), none, .ld (.tmp 26)⟩,
   ⟨(some 28), none, .ibin .add .i64 (.tmp 27) (.const (.int .i64 1))⟩,
   ⟨(some 29), none, .nck (.tmp 24)⟩,
   ⟨(some 30), none, .fad 3 (.tmp 29)⟩,
   ⟨none, none, .st (.tmp 30) (.tmp 28)⟩])
 (.prune [5, 2] (.seq (.row [⟨(some 31), none, .ldn 2 (.tmp 5)⟩,
   ⟨none, none, .stn 2 (.tmp 2) (.tmp 31)⟩,
   ⟨(some 3), none, .mv (.const (.bool true))⟩])
 (.prune [2, 3] .ret))))))))))))))
theorem ok87 : fits Try.prog 87 ⟨s87, 32, [.cell 2 (some 2), .tmp 3]⟩ = some ⟨s87, 32, [.cell 2 (some 2), .tmp 3]⟩ := by kernel_rfl
theorem go87 {args : List Value} {w : World} {R : Value → World → Prop} (hle : Nat.ble args.length 32 = true) (h : vc Try.prog 32 s87 (argEnv args 0) w (fun L w => resL L w [.cell 2 (some 2), .tmp 3] fun vs => oneOr vs fun v => R v w) (fun _ _ _ => False) (fun L w => resL L w [.cell 2 (some 2), .tmp 3] fun vs => oneOr vs fun v => R v w)) : Cal Try.prog 87 ⟨args⟩ w R := cal_of mo ok87 hle h

-- footbridge/footbridgeref21.sum
def s88 : S := (.seq (.row [⟨(some 4), none, .mv (.const (.int .i64 0))⟩])
 (.prune [0, 1] (.seq (.row [⟨(some 5), none, .mv (.const (.int .i64 0))⟩])
 (.prune [0, 5, 1] (.seq (.seq (.row [⟨(some 6), none, .mv (.const (.int .i64 0))⟩])
 (.prune [6, 0, 5, 1] (.block 0 (.loop [5, 6] [5, 6, 7, 8, 9, 10, 11, 12, 13, 14, 15, 16, 17] (.seq (.seq (.row [⟨(some 7), none, .mv (.tmp 6)⟩,
    ⟨(some 8), none, .mv (.tmp 1)⟩,
    ⟨(some 9), none, .ibin .lss .i64 (.tmp 7) (.tmp 8)⟩])
  (.prune [9, 5, 6, 0, 1] (.cond (.tmp 9)
   .skip
   (.exit 0))))
  (.prune [5, 6, 0, 1] (.seq (.block 1 (.row [⟨(some 12), none, .mv (.tmp 5)⟩,
    ⟨(some 13), none, .mv (.tmp 0)⟩,
    ⟨(some 14), none, .mv (.tmp 6)⟩,
    ⟨(some 15), none, .ixA 1 (.tmp 13) (.tmp 14)⟩,
    ⟨(some 16), none, .ld (.tmp 15)⟩,
    ⟨(some 17), none, .ibin .add .i64 (.tmp 12) (.tmp 16)⟩,
    ⟨(some 5), none, .mv (.tmp 17)⟩]))
  (.prune [6, 0, 5, 1] (.row [⟨(some 10), none, .mv (.tmp 6)⟩,
    ⟨(some 11), none, .ibin .add .i64 (.tmp 10) (.const (.int .i64 1))⟩,
    ⟨(some 6), none, .mv (.tmp 11)⟩])))))))))
 (.prune [5] (.seq (.row [⟨(some 18), none, .mv (.tmp 5)⟩,
   ⟨(some 4), none, .mv (.tmp 18)⟩])
 (.prune [4] .ret))))))))
theorem ok88 : fits Try.prog 88 ⟨s88, 19, [.tmp 4]⟩ = some ⟨s88, 19, [.tmp 4]⟩ := by kernel_rfl
theorem go88 {args : List Value} {w : World} {R : Value → World → Prop} (hle : Nat.ble args.length 19 = true) (h : vc Try.prog 19 s88 (argEnv args 0) w (fun L w => resL L w [.tmp 4] fun vs => oneOr vs fun v => R v w) (fun _ _ _ => False) (fun L w => resL L w [.tmp 4] fun vs => oneOr vs fun v => R v w)) : Cal Try.prog 88 ⟨args⟩ w R := cal_of mo ok88 hle h

-- (*footbridge/ring.Ring[footbridge/window.place]).At
def s89 : S := (.seq (.row [⟨(some 4), none, .new [(.int .i64 0), (.int .i64 0)] 103⟩,
   ⟨(some 5), none, .mv (.const (.bool false))⟩])
 (.prune [0, 1, 4] (.seq (.seq (.draw (.take 0 ⟨(some 7), none, .mv (.tmp 0)⟩ (.take 1 ⟨(some 8), none, .isnil 0 false (.tmp 7)⟩ (.take 2 ⟨(some 9), none, .mv (.tmp 8)⟩ (.take 3 ⟨(some 10), (some (9, false)), .mv (.tmp 1)⟩ (.take 4 ⟨(some 11), (some (9, false)), .mv (.tmp 0)⟩ (.take 5 ⟨(some 12), (some (9, false)), .nck (.tmp 11)⟩ (.take 6 ⟨(some 13), (some (9, false)), .fad 3 (.tmp 12)⟩ (.take 7 ⟨(some 14), (some (9, false)), .ld (.tmp 13)⟩ (.take 8 ⟨(some 15), (some (9, false)), .ibin .lss .i64 (.tmp 10) (.tmp 14)⟩ (.take 9 ⟨(some 16), none, .pick (.tmp 9) (.const (.bool true)) (.tmp 15)⟩ (.take 10 ⟨(some 17), none, .mv (.tmp 16)⟩ (.take 11 ⟨(some 18), (some (17, false)), .mv (.tmp 1)⟩ (.take 12 ⟨(some 19), (some (17, false)), .mv (.tmp 0)⟩ (.take 13 ⟨(some 20), (some (17, false)), .nck (.tmp 19)⟩ (.take 14 ⟨(some 21), (some (17, false)), .fad 3 (.tmp 20)⟩ (.take 15 ⟨(some 22), (some (17, false)), .ld (.tmp 21)⟩ (.take 16 ⟨(some 23), (some (17, false)), .ibin .sub .i64 (.tmp 18) (.tmp 22)⟩ (.take 17 ⟨(some 24), (some (17, false)), .mv (.tmp 0)⟩ (.take 18 ⟨(some 25), (some (17, false)), .nck (.tmp 24)⟩ (.take 19 ⟨(some 26), (some (17, false)), .fad 2 (.tmp 25)⟩ (.take 20 ⟨(some 27), (some (17, false)), .ld (.tmp 26)⟩ (.take 21 ⟨(some 28), (some (17, false)), .ibin .geq .i64 (.tmp 23) (.tmp 27)⟩ (.take 22 ⟨(some 29), none, .pick (.tmp 17) (.const (.bool true)) (.tmp 28)⟩ .done))))))))))))))))))))))))
 (.prune [29, 0, 1, 4] (.cond (.tmp 29)
  (.seq (.row [⟨(some 6), none, .new [(.int .i64 0), (.int .i64 0)] 103⟩])
  (.prune [6, 4] (.seq (.row [⟨(some 30), none, .ldn 2 (.tmp 6)⟩,
    ⟨none, none, .stn 2 (.tmp 4) (.tmp 30)⟩,
    ⟨(some 5), none, .mv (.const (.bool false))⟩])
  (.prune [4, 5] .ret))))
  .skip)))
 (.prune [1, 0, 4] (.seq (.draw (.take 0 ⟨(some 31), none, .mv (.tmp 0)⟩ (.take 1 ⟨(some 32), none, .nck (.tmp 31)⟩ (.take 2 ⟨(some 33), none, .fad 0 (.tmp 32)⟩ (.take 3 ⟨(some 34), none, .ld (.tmp 33)⟩ (.take 4 ⟨(some 35), none, .mv (.tmp 0)⟩ (.take 5 ⟨(some 36), none, .mv (.tmp 1)⟩ (.take 6 ⟨(some 37), none, .mv (.tmp 0)⟩ (.take 7 ⟨(some 38), none, .nck (.tmp 37)⟩ (.take 8 ⟨(some 39), none, .fad 3 (.tmp 38)⟩ (.take 9 ⟨(some 40), none, .ld (.tmp 39)⟩ (.take 10 ⟨(some 41), none, .ibin .sub .i64 (.tmp 36) (.tmp 40)⟩ (.step 11 true ⟨(some 42), none, .call 91 [(.tmp 35), (.tmp 41)]⟩ (.take 12 ⟨(some 43), none, .ixA 2 (.tmp 34) (.tmp 42)⟩ (.take 13 ⟨(some 44), none, .ldn 2 (.tmp 43)⟩ (.step 14 false ⟨none, none, .stn 2 (.tmp 4) (.tmp 44)⟩ (.take 15 ⟨(some 5), none, .mv (.const (.bool true))⟩ .done)))))))))))))))))
 (.prune [4, 5] .ret))))))
theorem ok89 : fits Try.prog 89 ⟨s89, 45, [.cell 4 (some 2), .tmp 5]⟩ = some ⟨s89, 45, [.cell 4 (some 2), .tmp 5]⟩ := by kernel_rfl
theorem go89 {args : List Value} {w : World} {R : Value → World → Prop} (hle : Nat.ble args.length 45 = true) (h : vc Try.prog 45 s89 (argEnv args 0) w (fun L w => resL L w [.cell 4 (some 2), .tmp 5] fun vs => oneOr vs fun v => R v w) (fun _ _ _ => False) (fun L w => resL L w [.cell 4 (some 2), .tmp 5] fun vs => oneOr vs fun v => R v w)) : Cal Try.prog 89 ⟨args⟩ w R := cal_of mo ok89 hle h

-- slices.Clone[[]footbridge/window.place,footbridge/window.place]
def s90 : S := (.seq (.row [⟨(some 2), none, .mv (.const (.slice none 0 0))⟩])
 (.prune [0] (.seq (.seq (.row [⟨(some 3), none, .mv (.tmp 0)⟩,
   ⟨(some 4), none, .isnil 1 false (.tmp 3)⟩])
 (.prune [4, 0] (.cond (.tmp 4)
  (.seq (.row [⟨(some 2), none, .mv (.const (.slice none 0 0))⟩])
  (.prune [2] .ret))
  .skip)))
 (.prune [0] (.seq (.row [⟨(some 5), none, .bsl 103 0 [] [] []⟩,
   ⟨(some 6), none, .mv (.tmp 0)⟩,
   ⟨(some 7), none, .run (.bi .append ⟨[120, 120]⟩ 120) [(.tmp 5), (.tmp 6)]⟩,
   ⟨(some 2), none, .mv (.tmp 7)⟩])
 (.prune [2] .ret))))))
theorem ok90 : fits Try.prog 90 ⟨s90, 8, [.tmp 2]⟩ = some ⟨s90, 8, [.tmp 2]⟩ := by kernel_rfl
theorem go90 {args : List Value} {w : World} {R : Value → World → Prop} (hle : Nat.ble args.length 8 = true) (h : vc Try.prog 8 s90 (argEnv args 0) w (fun L w => resL L w [.tmp 2] fun vs => oneOr vs fun v => R v w) (fun _ _ _ => False) (fun L w => resL L w [.tmp 2] fun vs => oneOr vs fun v => R v w)) : Cal Try.prog 90 ⟨args⟩ w R := cal_of mo ok90 hle h

-- (*footbridge/ring.Ring[footbridge/window.place]).place
def s91 : S := (.seq (.row [⟨(some 4), none, .mv (.const (.int .i64 0))⟩])
 (.prune [1, 0] (.seq (.draw (.take 0 ⟨(some 5), none, .mv (.tmp 0)⟩ (.take 1 ⟨(some 6), none, .nck (.tmp 5)⟩ (.take 2 ⟨(some 7), none, .fad 1 (.tmp 6)⟩ (.take 3 ⟨(some 8), none, .ld (.tmp 7)⟩ (.take 4 ⟨(some 9), none, .mv (.tmp 1)⟩ (.take 5 ⟨(some 10), none, .ibin .add .i64 (.tmp 8) (.tmp 9)⟩ (.take 6 ⟨(some 11), none, .mv (.tmp 0)⟩ (.take 7 ⟨(some 12), none, .nck (.tmp 11)⟩ (.take 8 ⟨(some 13), none, .fad 0 (.tmp 12)⟩ (.take 9 ⟨(some 14), none, .ld (.tmp 13)⟩ (.take 10 ⟨(some 15), none, .lenA (.tmp 14)⟩ (.take 11 ⟨(some 16), none, .ibin .rem .i64 (.tmp 10) (.tmp 15)⟩ (.take 12 ⟨(some 4), none, .mv (.tmp 16)⟩ .done))))))))))))))
 (.prune [4] .ret))))
theorem ok91 : fits Try.prog 91 ⟨s91, 17, [.tmp 4]⟩ = some ⟨s91, 17, [.tmp 4]⟩ := by kernel_rfl
theorem go91 {args : List Value} {w : World} {R : Value → World → Prop} (hle : Nat.ble args.length 17 = true) (h : vc Try.prog 17 s91 (argEnv args 0) w (fun L w => resL L w [.tmp 4] fun vs => oneOr vs fun v => R v w) (fun _ _ _ => False) (fun L w => resL L w [.tmp 4] fun vs => oneOr vs fun v => R v w)) : Cal Try.prog 91 ⟨args⟩ w R := cal_of mo ok91 hle h

-- (*footbridge/ring.Ring[footbridge/window.place]).grow
def s92 : S := (.seq (.draw (.take 0 ⟨(some 4), none, .mv (.tmp 0)⟩ (.take 1 ⟨(some 5), none, .nck (.tmp 4)⟩ (.take 2 ⟨(some 6), none, .fad 4 (.tmp 5)⟩ (.take 3 ⟨(some 7), none, .ld (.tmp 6)⟩ (.take 4 ⟨(some 8), none, .mv (.tmp 0)⟩ (.take 5 ⟨(some 9), none, .nck (.tmp 8)⟩ (.take 6 ⟨(some 10), none, .fad 0 (.tmp 9)⟩ (.take 7 ⟨(some 11), none, .ld (.tmp 10)⟩ (.take 8 ⟨(some 12), none, .lenA (.tmp 11)⟩ (.take 9 ⟨(some 13), none, .ibin .mul .i64 (.const (.int .i64 2)) (.tmp 12)⟩ (.take 10 ⟨(some 14), none, .mm true .i64 (.const (.int .i64 8)) (.tmp 13)⟩ (.take 11 ⟨(some 15), none, .mm false .i64 (.tmp 7) (.tmp 14)⟩ (.step 12 true ⟨(some 16), none, .run (.makeSlice 120) [(.tmp 15), (.tmp 15)]⟩ (.take 13 ⟨(some 2), none, .mv (.tmp 16)⟩ .done)))))))))))))))
 (.prune [0, 2] (.seq (.draw (.take 0 ⟨(some 17), none, .mv (.tmp 2)⟩ (.take 1 ⟨(some 18), none, .mv (.tmp 0)⟩ (.take 2 ⟨(some 19), none, .nck (.tmp 18)⟩ (.take 3 ⟨(some 20), none, .fad 0 (.tmp 19)⟩ (.take 4 ⟨(some 21), none, .ld (.tmp 20)⟩ (.take 5 ⟨(some 22), none, .mv (.tmp 0)⟩ (.take 6 ⟨(some 23), none, .nck (.tmp 22)⟩ (.take 7 ⟨(some 24), none, .fad 1 (.tmp 23)⟩ (.take 8 ⟨(some 25), none, .ld (.tmp 24)⟩ (.take 9 ⟨(some 26), none, .slc 2 (.tmp 21) (some (.tmp 25)) none⟩ (.step 10 true ⟨(some 27), none, .run (.bi .copy ⟨[120, 120]⟩ 3) [(.tmp 17), (.tmp 26)]⟩ (.take 11 ⟨(some 3), none, .mv (.tmp 27)⟩ .done)))))))))))))
 (.prune [3, 0, 2] (.seq (.draw (.take 0 ⟨(some 28), none, .mv (.tmp 2)⟩ (.take 1 ⟨(some 29), none, .mv (.tmp 3)⟩ (.take 2 ⟨(some 30), none, .slc 2 (.tmp 28) (some (.tmp 29)) none⟩ (.take 3 ⟨(some 31), none, .mv (.tmp 0)⟩ (.take 4 ⟨(some 32), none, .nck (.tmp 31)⟩ (.take 5 ⟨(some 33), none, .fad 0 (.tmp 32)⟩ (.take 6 ⟨(some 34), none, .ld (.tmp 33)⟩ (.take 7 ⟨(some 35), none, .mv (.tmp 0)⟩ (.take 8 ⟨(some 36), none, .nck (.tmp 35)⟩ (.take 9 ⟨(some 37), none, .fad 1 (.tmp 36)⟩ (.take 10 ⟨(some 38), none, .ld (.tmp 37)⟩ (.take 11 ⟨(some 39), none, .slc 2 (.tmp 34) none (some (.tmp 38))⟩ (.step 12 true ⟨(some 40), none, .run (.bi .copy ⟨[120, 120]⟩ 3) [(.tmp 30), (.tmp 39)]⟩ .done))))))))))))))
 (.prune [0, 2] (.row [⟨(some 41), none, .mv (.tmp 0)⟩,
   ⟨(some 42), none, .mv (.tmp 0)⟩,
   ⟨(some 43), none, .mv (.tmp 2)⟩,
   ⟨(some 44), none, .nck (.tmp 41)⟩,
   ⟨(some 45), none, .fad 0 (.tmp 44)⟩,
   ⟨none, none, .st (.tmp 45) (.tmp 43)⟩,
   ⟨(some 46), none, .nck (.tmp 42)⟩,
   ⟨(some 47), none, .fad 1 (.tmp 46)⟩,
   ⟨none, none, .st (.tmp 47) (.const (.int .i64 0))⟩])))))))
theorem ok92 : fits Try.prog 92 ⟨s92, 48, []⟩ = some ⟨s92, 48, []⟩ := by kernel_rfl
theorem go92 {args : List Value} {w : World} {R : Value → World → Prop} (hle : Nat.ble args.length 48 = true) (h : vc Try.prog 48 s92 (argEnv args 0) w (fun L w => resL L w [] fun vs => oneOr vs fun v => R v w) (fun _ _ _ => False) (fun L w => resL L w [] fun vs => oneOr vs fun v => R v w)) : Cal Try.prog 92 ⟨args⟩ w R := cal_of mo ok92 hle h

-- (*footbridge/ring.Ring[footbridge/window.place]).Pop
def s93 : S := (.seq (.row [⟨(some 2), none, .new [(.int .i64 0), (.int .i64 0)] 103⟩,
   ⟨(some 3), none, .mv (.const (.bool false))⟩])
 (.prune [0, 2] (.seq (.seq (.row [⟨(some 5), none, .mv (.tmp 0)⟩,
   ⟨(some 6), none, .call 72 [(.tmp 5)]⟩,
   ⟨(some 7), none, .ibin .eql .i64 (.tmp 6) (.const (.int .i64 0))⟩])
 (.prune [7, 0, 2] (.cond (.tmp 7)
  (.seq (.row [⟨(some 4), none, .new [(.int .i64 0), (.int .i64 0)] 103⟩])
  (.prune [4, 2] (.seq (.row [⟨(some 8), none, .ldn 2 (.tmp 4)⟩,
    ⟨none, none, .stn 2 (.tmp 2) (.tmp 8)⟩,
    ⟨(some 3), none, .mv (.const (.bool false))⟩])
  (.prune [2, 3] .ret))))
  .skip)))
 (.prune [0, 2] (.seq (.row [⟨(some 9), none, .mv (.tmp 0)⟩,
   ⟨(some 10), none, .nck (.tmp 9)⟩,
   ⟨(some 11), none, .fad 2 (.tmp 10)⟩,
   ⟨(some 12), none, .ld (.tmp 11)⟩,
   ⟨(some 13), none, .ibin .sub .i64 (.tmp 12) (.const (.int .i64 1))⟩,
   ⟨(some 14), none, .nck (.tmp 9)⟩,
   ⟨(some 15), none, .fad 2 (.tmp 14)⟩,
   ⟨none, none, .st (.tmp 15) (.tmp 13)⟩])
 (.prune [0, 2] (.seq (.row [⟨(some 16), none, .mv (.tmp 0)⟩,
   ⟨(some 17), none, .mv (.tmp 0)⟩,
   ⟨(some 18), none, .nck (.tmp 17)⟩,
   ⟨(some 19), none, .fad 2 (.tmp 18)⟩,
   ⟨(some 20), none, .ld (.tmp 19)⟩,
   ⟨(some 21), none, .call 94 [(.tmp 16), (.tmp 20)]⟩,
   ⟨none, none, .stn 2 (.tmp 2) (.tmp 21)⟩,
   ⟨(some 3), none, .mv (.const (.bool true))⟩])
 (.prune [2, 3] .ret))))))))
theorem ok93 : fits Try.prog 93 ⟨s93, 22, [.cell 2 (some 2), .tmp 3]⟩ = some ⟨s93, 22, [.cell 2 (some 2), .tmp 3]⟩ := by kernel_rfl
theorem go93 {args : List Value} {w : World} {R : Value → World → Prop} (hle : Nat.ble args.length 22 = true) (h : vc Try.prog 22 s93 (argEnv args 0) w (fun L w => resL L w [.cell 2 (some 2), .tmp 3] fun vs => oneOr vs fun v => R v w) (fun _ _ _ => False) (fun L w => resL L w [.cell 2 (some 2), .tmp 3] fun vs => oneOr vs fun v => R v w)) : Cal Try.prog 93 ⟨args⟩ w R := cal_of mo ok93 hle h

-- (*footbridge/ring.Ring[footbridge/window.place]).take
def s94 : S := (.seq (.row [⟨(some 4), none, .new [(.int .i64 0), (.int .i64 0)] 103⟩])
 (.prune [1, 0, 4] (.seq (.row [⟨(some 5), none, .new [(.int .i64 0), (.int .i64 0)] 103⟩])
 (.prune [1, 0, 5, 4] (.seq (.row [⟨(some 8), none, .mv (.tmp 0)⟩,
   ⟨(some 9), none, .mv (.tmp 1)⟩,
   ⟨(some 10), none, .call 91 [(.tmp 8), (.tmp 9)]⟩,
   ⟨(some 6), none, .mv (.tmp 10)⟩])
 (.prune [0, 6, 5, 4] (.seq (.row [⟨(some 11), none, .mv (.tmp 0)⟩,
   ⟨(some 12), none, .nck (.tmp 11)⟩,
   ⟨(some 13), none, .fad 0 (.tmp 12)⟩,
   ⟨(some 14), none, .ld (.tmp 13)⟩,
   ⟨(some 15), none, .mv (.tmp 6)⟩,
   ⟨(some 16), none, .ixA 2 (.tmp 14) (.tmp 15)⟩,
   ⟨(some 17), none, .ldn 2 (.tmp 16)⟩,
   ⟨(some 7), none, .new [(.int .i64 0), (.int .i64 0)] 103⟩,
   ⟨none, none, .stn 2 (.tmp 7) (.tmp 17)⟩])
 (.prune [0, 6, 5, 7, 4] (.seq (.draw (.take 0 ⟨(some 18), none, .mv (.tmp 0)⟩ (.take 1 ⟨(some 19), none, .nck (.tmp 18)⟩ (.take 2 ⟨(some 20), none, .fad 0 (.tmp 19)⟩ (.take 3 ⟨(some 21), none, .ld (.tmp 20)⟩ (.take 4 ⟨(some 22), none, .mv (.tmp 6)⟩ (.take 5 ⟨(some 23), none, .ldn 2 (.tmp 5)⟩ (.take 6 ⟨(some 24), none, .ixA 2 (.tmp 21) (.tmp 22)⟩ (.step 7 false ⟨none, none, .stn 2 (.tmp 24) (.tmp 23)⟩ .done)))))))))
 (.prune [7, 4] (.seq (.row [⟨(some 25), none, .ldn 2 (.tmp 7)⟩,
   ⟨none, none, .stn 2 (.tmp 4) (.tmp 25)⟩])
 (.prune [4] .ret))))))))))))
theorem ok94 : fits Try.prog 94 ⟨s94, 26, [.cell 4 (some 2)]⟩ = some ⟨s94, 26, [.cell 4 (some 2)]⟩ := by kernel_rfl
theorem go94 {args : List Value} {w : World} {R : Value → World → Prop} (hle : Nat.ble args.length 26 = true) (h : vc Try.prog 26 s94 (argEnv args 0) w (fun L w => resL L w [.cell 4 (some 2)] fun vs => oneOr vs fun v => R v w) (fun _ _ _ => False) (fun L w => resL L w [.cell 4 (some 2)] fun vs => oneOr vs fun v => R v w)) : Cal Try.prog 94 ⟨args⟩ w R := cal_of mo ok94 hle h

-- 110 (*footbridge/ring.Ring[byte]).At: no body
-- 111 (*footbridge/ring.Ring[byte]).Copy: no body
-- 112 (*footbridge/ring.Ring[byte]).Cut: no body
-- 113 (*footbridge/ring.Ring[byte]).From: no body
-- 114 (*footbridge/ring.Ring[byte]).Pop: no body
-- 115 (*footbridge/ring.Ring[byte]).Room: no body
-- 117 (*footbridge/ring.Ring[footbridge/window.place]).Room: no body
end Fb.Try
