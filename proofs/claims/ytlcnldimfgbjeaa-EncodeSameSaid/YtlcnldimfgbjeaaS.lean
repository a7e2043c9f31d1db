/-
  Made by a program of ours (wip/tools/slim.lean): the slim code of this claim's functions, each held against the model's code by one closed fact.
-/
import Derived.Test.YtlcnldimfgbjeaaB1
import Derived.Test.YtlcnldimfgbjeaaChecked
namespace Fb.Try
open Go Go.Proofs Fb

theorem mo : Try.prog.follows .mixedOrders = true := by kernel_rfl

-- footbridge/footbridgelaw11.QueuePlays
def s3 : S := (.seq (.row [⟨(some 2), none, .mv (.const (.bool false))⟩])
 (.prune [0] (.seq (.seq (.row [⟨(some 18), none, .mv (.tmp 0)⟩,
   ⟨(some 19), none, .lenA (.tmp 18)⟩,
   ⟨(some 20), none, .ibin .gtr .i64 (.tmp 19) (.const (.int .i64 200))⟩])
 (.prune [20, 0] (.cond (.tmp 20)
  (.seq (.row [⟨(some 21), none, .call 11 []⟩,
    ⟨(some 2), none, .mv (.tmp 21)⟩])
  (.prune [2] .ret))
  .skip)))
 (.prune [0] (.seq (.row [⟨(some 22), none, .call 12 []⟩,
   ⟨(some 3), none, .mv (.tmp 22)⟩])
 (.prune [0, 3] (.seq (.row [⟨(some 23), none, .bsl 28 0 [] [] []⟩,
   ⟨(some 4), none, .mv (.tmp 23)⟩])
 (.prune [0, 3, 4] (.seq (.seq (.row [⟨(some 24), none, .mv (.tmp 0)⟩,
   ⟨(some 25), none, .lenA (.tmp 24)⟩,
   ⟨(some 26), none, .mv (.const (.int .i64 0))⟩])
 (.prune [26, 3, 4, 24, 25] (.block 0 (.loop [4, 26] [2, 4, 6, 7, 8, 9, 10, 11, 12, 13, 14, 15, 16, 17, 26, 27, 28, 29, 30, 31, 32, 33, 34, 35, 36, 37, 38, 39, 40, 41, 42, 43, 44, 45, 46, 47, 48, 49, 50, 51, 52, 53, 54, 55, 56, 57, 58, 59, 60, 61, 62, 63, 64, 65, 66, 67, 68, 69, 70, 71, 72, 73, 74, 75, 76, 77, 78, 79, 80, 81, 82, 83, 84, 85, 86, 87, 88, 89, 90, 91, 92, 93, 94, 95, 96, 97, 98, 99, 100, 101, 102, 103, 104, 105, 106, 107, 108, 109, 110, 111, 112, 113, 114, 115, 116, 117, 118, 119, 120, 121, 122, 123, 124, 125, 126, 127, 128, 129, 130, 131, 132, 133, 134, 135, 136, 137, 138, 139] (.seq (.row [⟨(some 27), none, .ibin .lss .i64 (.tmp 26) (.tmp 25)⟩])
  (.prune [27, 4, 25, 24, 3, 26] (.seq (.cond (.tmp 27)
   .skip
   (.exit 0))
  (.prune [4, 25, 24, 3, 26] (.seq (.block 1 (.seq (.row [⟨(some 28), none, .ixA 4 (.tmp 24) (.tmp 26)⟩,
    ⟨(some 29), none, .ldn 4 (.tmp 28)⟩,
    ⟨(some 6), none, .new [(.int .u8 0), (.int .i64 0), (.int .i64 0), (.int .i64 0)] 30⟩,
    ⟨none, none, .stn 4 (.tmp 6) (.tmp 29)⟩])
  (.prune [4, 6, 25, 24, 3, 26] (.seq (.seq (.row [⟨(some 30), none, .fad 0 (.tmp 6)⟩,
    ⟨(some 31), none, .ld (.tmp 30)⟩])
  (.prune [31, 4, 6, 25, 24, 3, 26] (.block 2 (.seq (.row [⟨(some 72), none, .ibin .eql .u8 (.tmp 31) (.const (.int .u8 0))⟩,
    ⟨(some 71), none, .mv (.tmp 72)⟩])
  (.prune [71, 31, 4, 6, 25, 24, 3, 26] (.cond (.tmp 71)
   (.seq (.row [⟨(some 73), none, .mv (.tmp 3)⟩,
     ⟨(some 74), none, .fad 1 (.tmp 6)⟩,
     ⟨(some 75), none, .ldn 3 (.tmp 74)⟩,
     ⟨(some 76), none, .call 13 [(.tmp 73), (.tmp 75)]⟩])
   (.prune [4, 6, 25, 24, 3, 26] (.seq (.row [⟨(some 78), none, .mv (.tmp 4)⟩,
     ⟨(some 79), none, .fad 1 (.tmp 6)⟩,
     ⟨(some 80), none, .fad 0 (.tmp 79)⟩,
     ⟨(some 81), none, .ld (.tmp 80)⟩,
     ⟨(some 82), none, .call 14 [(.tmp 78), (.tmp 81)]⟩,
     ⟨(some 77), none, .mv (.tmp 82)⟩,
     ⟨(some 83), none, .ext (.tmp 77) 0⟩,
     ⟨(some 84), none, .ext (.tmp 77) 1⟩,
     ⟨(some 7), none, .mv (.tmp 83)⟩,
     ⟨(some 8), none, .mv (.tmp 84)⟩])
   (.prune [7, 6, 25, 24, 3, 26] (.row [⟨(some 85), none, .mv (.tmp 7)⟩,
     ⟨(some 86), none, .fad 1 (.tmp 6)⟩,
     ⟨(some 87), none, .ldn 3 (.tmp 86)⟩,
     ⟨(some 88), none, .bsl 28 1 [(.int .i64 0), (.int .i64 0), (.int .i64 0)] [(0, 3)] [(.tmp 87)]⟩,
     ⟨(some 89), none, .run (.bi .append ⟨[26, 26]⟩ 26) [(.tmp 85), (.tmp 88)]⟩,
     ⟨(some 4), none, .mv (.tmp 89)⟩])))))
   (.seq (.row [⟨(some 91), none, .ibin .eql .u8 (.tmp 31) (.const (.int .u8 1))⟩,
     ⟨(some 90), none, .mv (.tmp 91)⟩])
   (.prune [90, 31, 4, 6, 26, 3, 24, 25] (.cond (.tmp 90)
    (.seq (.row [⟨(some 93), none, .mv (.tmp 4)⟩,
      ⟨(some 94), none, .fad 1 (.tmp 6)⟩,
      ⟨(some 95), none, .fad 0 (.tmp 94)⟩,
      ⟨(some 96), none, .ld (.tmp 95)⟩,
      ⟨(some 97), none, .call 14 [(.tmp 93), (.tmp 96)]⟩,
      ⟨(some 92), none, .mv (.tmp 97)⟩,
      ⟨(some 98), none, .ext (.tmp 92) 0⟩,
      ⟨(some 99), none, .ext (.tmp 92) 1⟩,
      ⟨(some 9), none, .mv (.tmp 98)⟩,
      ⟨(some 10), none, .mv (.tmp 99)⟩])
    (.prune [6, 10, 26, 3, 24, 25, 9] (.seq (.seq (.row [⟨(some 100), none, .mv (.tmp 3)⟩,
      ⟨(some 101), none, .fad 1 (.tmp 6)⟩,
      ⟨(some 102), none, .fad 0 (.tmp 101)⟩,
      ⟨(some 103), none, .ld (.tmp 102)⟩,
      ⟨(some 104), none, .call 15 [(.tmp 100), (.tmp 103)]⟩,
      ⟨(some 105), none, .mv (.tmp 10)⟩,
      ⟨(some 106), none, .bbin true (.tmp 104) (.tmp 105)⟩])
    (.prune [106, 26, 3, 24, 25, 9] (.cond (.tmp 106)
     (.seq (.row [⟨(some 2), none, .mv (.const (.bool false))⟩])
     (.prune [2] .ret))
     .skip)))
    (.prune [9, 25, 24, 3, 26] (.row [⟨(some 107), none, .mv (.tmp 9)⟩,
      ⟨(some 4), none, .mv (.tmp 107)⟩])))))
    (.seq (.row [⟨(some 109), none, .ibin .eql .u8 (.tmp 31) (.const (.int .u8 2))⟩,
      ⟨(some 108), none, .mv (.tmp 109)⟩])
    (.prune [108, 6, 26, 3, 4, 24, 25] (.cond (.tmp 108)
     (.seq (.row [⟨(some 111), none, .mv (.tmp 3)⟩,
       ⟨(some 112), none, .fad 1 (.tmp 6)⟩,
       ⟨(some 113), none, .fad 0 (.tmp 112)⟩,
       ⟨(some 114), none, .ld (.tmp 113)⟩,
       ⟨(some 115), none, .call 16 [(.tmp 111), (.tmp 114)]⟩,
       ⟨(some 110), none, .mv (.tmp 115)⟩,
       ⟨(some 116), none, .ext (.tmp 110) 0⟩,
       ⟨(some 117), none, .ext (.tmp 110) 1⟩,
       ⟨(some 11), none, .new [(.int .i64 0), (.int .i64 0), (.int .i64 0)] 28⟩,
       ⟨none, none, .stn 3 (.tmp 11) (.tmp 116)⟩,
       ⟨(some 12), none, .mv (.tmp 117)⟩])
     (.prune [6, 11, 12, 26, 3, 4, 24, 25] (.seq (.row [⟨(some 119), none, .mv (.tmp 4)⟩,
       ⟨(some 120), none, .fad 1 (.tmp 6)⟩,
       ⟨(some 121), none, .fad 0 (.tmp 120)⟩,
       ⟨(some 122), none, .ld (.tmp 121)⟩,
       ⟨(some 123), none, .call 17 [(.tmp 119), (.tmp 122)]⟩,
       ⟨(some 118), none, .mv (.tmp 123)⟩,
       ⟨(some 124), none, .ext (.tmp 118) 0⟩,
       ⟨(some 125), none, .ext (.tmp 118) 1⟩,
       ⟨(some 13), none, .new [(.int .i64 0), (.int .i64 0), (.int .i64 0)] 28⟩,
       ⟨none, none, .stn 3 (.tmp 13) (.tmp 124)⟩,
       ⟨(some 14), none, .mv (.tmp 125)⟩])
     (.prune [11, 13, 12, 14, 26, 3, 4, 24, 25] (.seq (.row [⟨(some 126), none, .ldn 3 (.tmp 11)⟩,
       ⟨(some 127), none, .ldn 3 (.tmp 13)⟩,
       ⟨(some 128), none, .get (.eq .neq 28 (.tmp 126) (.tmp 127)) [(.tmp 126), (.tmp 127)]⟩,
       ⟨(some 129), none, .mv (.tmp 128)⟩,
       ⟨(some 130), (some (129, false)), .mv (.tmp 12)⟩,
       ⟨(some 131), (some (129, false)), .mv (.tmp 14)⟩,
       ⟨(some 132), (some (129, false)), .bbin true (.tmp 130) (.tmp 131)⟩,
       ⟨(some 133), none, .pick (.tmp 129) (.const (.bool true)) (.tmp 132)⟩])
     (.prune [133, 26, 3, 4, 24, 25] (.cond (.tmp 133)
      (.seq (.row [⟨(some 2), none, .mv (.const (.bool false))⟩])
      (.prune [2] .ret))
      .skip)))))))
     (.seq (.row [⟨(some 33), none, .mv (.tmp 3)⟩,
       ⟨(some 34), none, .call 18 [(.tmp 33)]⟩,
       ⟨(some 32), none, .mv (.tmp 34)⟩,
       ⟨(some 35), none, .ext (.tmp 32) 0⟩,
       ⟨(some 36), none, .ext (.tmp 32) 1⟩,
       ⟨(some 15), none, .new [(.int .i64 0), (.int .i64 0), (.int .i64 0)] 28⟩,
       ⟨none, none, .stn 3 (.tmp 15) (.tmp 35)⟩,
       ⟨(some 16), none, .mv (.tmp 36)⟩])
     (.prune [26, 3, 24, 25, 15, 4, 16] (.seq (.row [⟨(some 37), none, .mv (.tmp 4)⟩,
       ⟨(some 38), none, .call 19 [(.tmp 37)]⟩,
       ⟨(some 17), none, .mv (.tmp 38)⟩])
     (.prune [17, 26, 3, 24, 25, 15, 4, 16] (.seq (.seq (.draw (.take 0 ⟨(some 39), none, .mv (.tmp 16)⟩ (.take 1 ⟨(some 40), none, .mv (.tmp 17)⟩ (.take 2 ⟨(some 41), none, .ibin .geq .i64 (.tmp 40) (.const (.int .i64 0))⟩ (.take 3 ⟨(some 42), none, .bbin true (.tmp 39) (.tmp 41)⟩ (.take 4 ⟨(some 43), none, .mv (.tmp 42)⟩ (.take 5 ⟨(some 44), (some (43, false)), .mv (.tmp 16)⟩ (.take 6 ⟨(some 45), (some (43, false)), .mv (.tmp 44)⟩ (.take 7 ⟨(some 46), (some (45, true)), .ldn 3 (.tmp 15)⟩ (.take 8 ⟨(some 47), (some (45, true)), .mv (.tmp 4)⟩ (.take 9 ⟨(some 48), (some (45, true)), .mv (.tmp 17)⟩ (.take 10 ⟨(some 49), (some (45, true)), .ixA 3 (.tmp 47) (.tmp 48)⟩ (.take 11 ⟨(some 50), (some (45, true)), .ldn 3 (.tmp 49)⟩ (.take 12 ⟨(some 51), (some (45, true)), .get (.eq .neq 28 (.tmp 46) (.tmp 50)) [(.tmp 46), (.tmp 50)]⟩ (.take 13 ⟨(some 52), (some (43, false)), .pick (.tmp 45) (.tmp 51) (.const (.bool false))⟩ (.take 14 ⟨(some 53), none, .pick (.tmp 43) (.const (.bool true)) (.tmp 52)⟩ (.take 15 ⟨(some 54), none, .mv (.tmp 53)⟩ (.take 16 ⟨(some 55), (some (54, false)), .mv (.tmp 16)⟩ (.take 17 ⟨(some 56), (some (54, false)), .notB (.tmp 55)⟩ (.take 18 ⟨(some 57), (some (54, false)), .mv (.tmp 56)⟩ (.take 19 ⟨(some 58), (some (57, true)), .ldn 3 (.tmp 15)⟩ (.take 20 ⟨(some 59), (some (57, true)), .bld [(.int .i64 0), (.int .i64 0), (.int .i64 0)] [] []⟩ (.take 21 ⟨(some 60), (some (57, true)), .get (.eq .neq 28 (.tmp 58) (.tmp 59)) [(.tmp 58), (.tmp 59)]⟩ (.take 22 ⟨(some 61), (some (54, false)), .pick (.tmp 57) (.tmp 60) (.const (.bool false))⟩ (.take 23 ⟨(some 62), none, .pick (.tmp 54) (.const (.bool true)) (.tmp 61)⟩ .done)))))))))))))))))))))))))
     (.prune [62, 26, 3, 24, 25, 15, 4, 16] (.cond (.tmp 62)
      (.seq (.row [⟨(some 2), none, .mv (.const (.bool false))⟩])
      (.prune [2] .ret))
      .skip)))
     (.prune [16, 4, 15, 25, 24, 3, 26] (.seq (.row [⟨(some 63), none, .mv (.tmp 16)⟩])
     (.prune [63, 4, 15, 25, 24, 3, 26] (.cond (.tmp 63)
      (.row [⟨(some 65), none, .mv (.tmp 4)⟩,
        ⟨(some 66), none, .fad 0 (.tmp 15)⟩,
        ⟨(some 67), none, .ld (.tmp 66)⟩,
        ⟨(some 68), none, .call 14 [(.tmp 65), (.tmp 67)]⟩,
        ⟨(some 64), none, .mv (.tmp 68)⟩,
        ⟨(some 69), none, .ext (.tmp 64) 0⟩,
        ⟨(some 70), none, .ext (.tmp 64) 1⟩,
        ⟨(some 4), none, .mv (.tmp 69)⟩])
      .skip)))))))))))))))))))))
  (.prune [25, 24, 4, 3, 26] (.seq (.row [⟨(some 134), none, .mv (.tmp 3)⟩,
    ⟨(some 135), none, .call 20 [(.tmp 134)]⟩,
    ⟨(some 136), none, .mv (.tmp 4)⟩,
    ⟨(some 137), none, .lenA (.tmp 136)⟩,
    ⟨(some 138), none, .ibin .neq .i64 (.tmp 135) (.tmp 137)⟩])
  (.prune [138, 25, 24, 4, 3, 26] (.cond (.tmp 138)
   (.seq (.row [⟨(some 2), none, .mv (.const (.bool false))⟩])
   (.prune [2] .ret))
   .skip))))))))
  (.prune [26, 3, 4, 24, 25] (.row [⟨(some 139), none, .ibin .add .i64 (.tmp 26) (.const (.int .i64 1))⟩,
    ⟨(some 26), none, .mv (.tmp 139)⟩])))))))))))
 (.prune [] (.seq (.row [⟨(some 140), none, .call 11 []⟩,
   ⟨(some 2), none, .mv (.tmp 140)⟩])
 (.prune [2] .ret))))))))))))
theorem ok3 : fits Try.prog 3 ⟨s3, 141, [.tmp 2]⟩ = some ⟨s3, 141, [.tmp 2]⟩ := by kernel_rfl
theorem go3 {args : List Value} {w : World} {R : Value → World → Prop} (hle : Nat.ble args.length 141 = true) (h : vc Try.prog 141 s3 (argEnv args 0) w (fun L w => resL L w [.tmp 2] fun vs => oneOr vs fun v => R v w) (fun _ _ _ => False) (fun L w => resL L w [.tmp 2] fun vs => oneOr vs fun v => R v w)) : Cal Try.prog 3 ⟨args⟩ w R := cal_of mo ok3 hle h

-- footbridge/footbridgelaw11.fixed
def s11 : S := (.seq (.row [⟨(some 0), none, .mv (.const (.bool false))⟩])
 (.prune [] (.seq (.row [⟨(some 8), none, .call 12 []⟩,
   ⟨(some 1), none, .mv (.tmp 8)⟩])
 (.prune [1] (.seq (.row [⟨(some 9), none, .mv (.tmp 1)⟩,
   ⟨(some 10), none, .bld [(.int .i64 0), (.int .i64 0), (.int .i64 0)] [(0, 1), (1, 1)] [(.const (.int .i64 5)), (.const (.int .i64 1))]⟩,
   ⟨(some 11), none, .call 13 [(.tmp 9), (.tmp 10)]⟩])
 (.prune [1] (.seq (.row [⟨(some 12), none, .mv (.tmp 1)⟩,
   ⟨(some 13), none, .bld [(.int .i64 0), (.int .i64 0), (.int .i64 0)] [(0, 1), (1, 1)] [(.const (.int .i64 2)), (.const (.int .i64 1))]⟩,
   ⟨(some 14), none, .call 13 [(.tmp 12), (.tmp 13)]⟩])
 (.prune [1] (.seq (.row [⟨(some 15), none, .mv (.tmp 1)⟩,
   ⟨(some 16), none, .bld [(.int .i64 0), (.int .i64 0), (.int .i64 0)] [(0, 1)] [(.const (.int .i64 9))]⟩,
   ⟨(some 17), none, .call 13 [(.tmp 15), (.tmp 16)]⟩])
 (.prune [1] (.seq (.row [⟨(some 19), none, .mv (.tmp 1)⟩,
   ⟨(some 20), none, .call 18 [(.tmp 19)]⟩,
   ⟨(some 18), none, .mv (.tmp 20)⟩,
   ⟨(some 21), none, .ext (.tmp 18) 0⟩,
   ⟨(some 22), none, .ext (.tmp 18) 1⟩,
   ⟨(some 2), none, .new [(.int .i64 0), (.int .i64 0), (.int .i64 0)] 28⟩,
   ⟨none, none, .stn 3 (.tmp 2) (.tmp 21)⟩,
   ⟨(some 3), none, .mv (.tmp 22)⟩])
 (.prune [2, 1] (.seq (.row [⟨(some 24), none, .mv (.tmp 1)⟩,
   ⟨(some 25), none, .call 18 [(.tmp 24)]⟩,
   ⟨(some 23), none, .mv (.tmp 25)⟩,
   ⟨(some 26), none, .ext (.tmp 23) 0⟩,
   ⟨(some 27), none, .ext (.tmp 23) 1⟩,
   ⟨(some 4), none, .new [(.int .i64 0), (.int .i64 0), (.int .i64 0)] 28⟩,
   ⟨none, none, .stn 3 (.tmp 4) (.tmp 26)⟩,
   ⟨(some 5), none, .mv (.tmp 27)⟩])
 (.prune [2, 4, 1] (.seq (.row [⟨(some 29), none, .mv (.tmp 1)⟩,
   ⟨(some 30), none, .call 18 [(.tmp 29)]⟩,
   ⟨(some 28), none, .mv (.tmp 30)⟩,
   ⟨(some 31), none, .ext (.tmp 28) 0⟩,
   ⟨(some 32), none, .ext (.tmp 28) 1⟩,
   ⟨(some 6), none, .new [(.int .i64 0), (.int .i64 0), (.int .i64 0)] 28⟩,
   ⟨none, none, .stn 3 (.tmp 6) (.tmp 31)⟩,
   ⟨(some 7), none, .mv (.tmp 32)⟩])
 (.prune [2, 4, 6, 7, 1] (.seq (.row [⟨(some 33), none, .fad 0 (.tmp 2)⟩,
   ⟨(some 34), none, .ld (.tmp 33)⟩,
   ⟨(some 35), none, .ibin .eql .i64 (.tmp 34) (.const (.int .i64 9))⟩,
   ⟨(some 36), none, .mv (.tmp 35)⟩,
   ⟨(some 37), (some (36, true)), .fad 0 (.tmp 4)⟩,
   ⟨(some 38), (some (36, true)), .ld (.tmp 37)⟩,
   ⟨(some 39), (some (36, true)), .ibin .eql .i64 (.tmp 38) (.const (.int .i64 2))⟩,
   ⟨(some 40), none, .pick (.tmp 36) (.tmp 39) (.const (.bool false))⟩,
   ⟨(some 41), none, .mv (.tmp 40)⟩,
   ⟨(some 42), (some (41, true)), .fad 0 (.tmp 6)⟩,
   ⟨(some 43), (some (41, true)), .ld (.tmp 42)⟩,
   ⟨(some 44), (some (41, true)), .ibin .eql .i64 (.tmp 43) (.const (.int .i64 5))⟩,
   ⟨(some 45), none, .pick (.tmp 41) (.tmp 44) (.const (.bool false))⟩,
   ⟨(some 46), none, .mv (.tmp 45)⟩,
   ⟨(some 47), (some (46, true)), .mv (.tmp 7)⟩,
   ⟨(some 48), none, .pick (.tmp 46) (.tmp 47) (.const (.bool false))⟩,
   ⟨(some 49), none, .mv (.tmp 48)⟩,
   ⟨(some 50), (some (49, true)), .mv (.tmp 1)⟩,
   ⟨(some 51), (some (49, true)), .call 20 [(.tmp 50)]⟩,
   ⟨(some 52), (some (49, true)), .ibin .eql .i64 (.tmp 51) (.const (.int .i64 0))⟩,
   ⟨(some 53), none, .pick (.tmp 49) (.tmp 52) (.const (.bool false))⟩,
   ⟨(some 0), none, .mv (.tmp 53)⟩])
 (.prune [0] .ret))))))))))))))))))
theorem ok11 : fits Try.prog 11 ⟨s11, 54, [.tmp 0]⟩ = some ⟨s11, 54, [.tmp 0]⟩ := by kernel_rfl
theorem go11 {args : List Value} {w : World} {R : Value → World → Prop} (hle : Nat.ble args.length 54 = true) (h : vc Try.prog 54 s11 (argEnv args 0) w (fun L w => resL L w [.tmp 0] fun vs => oneOr vs fun v => R v w) (fun _ _ _ => False) (fun L w => resL L w [.tmp 0] fun vs => oneOr vs fun v => R v w)) : Cal Try.prog 11 ⟨args⟩ w R := cal_of mo ok11 hle h

-- footbridge/queue.New
def s12 : S := (.seq (.row [⟨(some 0), none, .mv (.const (.pointer none))⟩])
 (.prune [] (.seq (.row [⟨(some 1), none, .run (.makeMap 78) []⟩,
   ⟨(some 2), none, .bld [(.slice none 0 0), (.map none)] [(1, 1)] [(.tmp 1)]⟩,
   ⟨(some 3), none, .bld [(.slice none 0 0), (.map none)] [(0, 2)] [(.tmp 2)]⟩,
   ⟨(some 4), none, .box 82 (.tmp 3)⟩,
   ⟨(some 0), none, .mv (.tmp 4)⟩])
 (.prune [0] .ret))))
theorem ok12 : fits Try.prog 12 ⟨s12, 5, [.tmp 0]⟩ = some ⟨s12, 5, [.tmp 0]⟩ := by kernel_rfl
theorem go12 {args : List Value} {w : World} {R : Value → World → Prop} (hle : Nat.ble args.length 5 = true) (h : vc Try.prog 5 s12 (argEnv args 0) w (fun L w => resL L w [.tmp 0] fun vs => oneOr vs fun v => R v w) (fun _ _ _ => False) (fun L w => resL L w [.tmp 0] fun vs => oneOr vs fun v => R v w)) : Cal Try.prog 12 ⟨args⟩ w R := cal_of mo ok12 hle h

-- (*footbridge/queue.Agenda).Put
def s13 : S := (.seq (.row [⟨(some 3), none, .box 28 (.tmp 1)⟩])
 (.prune [3, 0] (.seq (.seq (.row [⟨(some 6), none, .mv (.tmp 0)⟩,
   ⟨(some 7), none, .isnil 0 false (.tmp 6)⟩])
 (.prune [7, 3, 0] (.cond (.tmp 7)
  .ret
  .skip)))
 (.prune [0, 3] (.seq (.draw (.take 0 ⟨(some 9), none, .mv (.tmp 0)⟩ (.take 1 ⟨(some 10), none, .nck (.tmp 9)⟩ (.take 2 ⟨(some 11), none, .fad 0 (.tmp 10)⟩ (.take 3 ⟨(some 12), none, .fad 1 (.tmp 11)⟩ (.take 4 ⟨(some 13), none, .ld (.tmp 12)⟩ (.take 5 ⟨(some 14), none, .fad 0 (.tmp 3)⟩ (.take 6 ⟨(some 15), none, .ld (.tmp 14)⟩ (.take 7 ⟨(some 16), none, .get (.lookup 78 true) [(.tmp 13), (.tmp 15)]⟩ (.take 8 ⟨(some 8), none, .mv (.tmp 16)⟩ (.take 9 ⟨(some 17), none, .ext (.tmp 8) 0⟩ (.take 10 ⟨(some 18), none, .ext (.tmp 8) 1⟩ (.take 11 ⟨(some 4), none, .mv (.tmp 17)⟩ (.take 12 ⟨(some 5), none, .mv (.tmp 18)⟩ .done))))))))))))))
 (.prune [5, 4, 0, 3] (.seq (.seq (.row [⟨(some 19), none, .mv (.tmp 5)⟩,
   ⟨(some 20), none, .notB (.tmp 19)⟩])
 (.prune [20, 4, 0, 3] (.cond (.tmp 20)
  (.seq (.draw (.take 0 ⟨(some 21), none, .mv (.tmp 0)⟩ (.take 1 ⟨(some 22), none, .nck (.tmp 21)⟩ (.take 2 ⟨(some 23), none, .fad 0 (.tmp 22)⟩ (.take 3 ⟨(some 24), none, .mki 85 (.tmp 23)⟩ (.take 4 ⟨(some 25), none, .ldn 3 (.tmp 3)⟩ (.take 5 ⟨(some 26), none, .mki 28 (.tmp 25)⟩ (.step 6 true ⟨(some 27), none, .call 41 [(.tmp 24), (.tmp 26)]⟩ .done))))))))
  (.prune [] .ret))
  .skip)))
 (.prune [3, 0, 4] (.seq (.draw (.take 0 ⟨(some 28), none, .mv (.tmp 0)⟩ (.take 1 ⟨(some 29), none, .nck (.tmp 28)⟩ (.take 2 ⟨(some 30), none, .fad 0 (.tmp 29)⟩ (.take 3 ⟨(some 31), none, .fad 0 (.tmp 30)⟩ (.take 4 ⟨(some 32), none, .ld (.tmp 31)⟩ (.take 5 ⟨(some 33), none, .mv (.tmp 4)⟩ (.take 6 ⟨(some 34), none, .ldn 3 (.tmp 3)⟩ (.take 7 ⟨(some 35), none, .ixA 3 (.tmp 32) (.tmp 33)⟩ (.step 8 false ⟨none, none, .stn 3 (.tmp 35) (.tmp 34)⟩ .done))))))))))
 (.prune [0, 4] (.row [⟨(some 36), none, .mv (.tmp 0)⟩,
   ⟨(some 37), none, .nck (.tmp 36)⟩,
   ⟨(some 38), none, .fad 0 (.tmp 37)⟩,
   ⟨(some 39), none, .mki 85 (.tmp 38)⟩,
   ⟨(some 40), none, .mv (.tmp 4)⟩,
   ⟨(some 41), none, .call 42 [(.tmp 39), (.tmp 40)]⟩])))))))))))
theorem ok13 : fits Try.prog 13 ⟨s13, 42, []⟩ = some ⟨s13, 42, []⟩ := by kernel_rfl
theorem go13 {args : List Value} {w : World} {R : Value → World → Prop} (hle : Nat.ble args.length 42 = true) (h : vc Try.prog 42 s13 (argEnv args 0) w (fun L w => resL L w [] fun vs => oneOr vs fun v => R v w) (fun _ _ _ => False) (fun L w => resL L w [] fun vs => oneOr vs fun v => R v w)) : Cal Try.prog 13 ⟨args⟩ w R := cal_of mo ok13 hle h

-- footbridge/footbridgeref11.Without
def s14 : S := (.seq (.row [⟨(some 4), none, .mv (.const (.slice none 0 0))⟩,
   ⟨(some 5), none, .mv (.const (.bool false))⟩])
 (.prune [0, 1] (.seq (.row [⟨(some 8), none, .bsl 28 0 [] [] []⟩,
   ⟨(some 6), none, .mv (.tmp 8)⟩])
 (.prune [0, 6, 1] (.seq (.seq (.row [⟨(some 9), none, .mv (.tmp 0)⟩,
   ⟨(some 10), none, .lenA (.tmp 9)⟩,
   ⟨(some 11), none, .mv (.const (.int .i64 0))⟩])
 (.prune [11, 0, 6, 1, 10] (.block 0 (.loop [6, 11] [6, 7, 11, 12, 13, 14, 15, 16, 17, 18, 19, 20, 21, 22, 23, 24, 25, 26, 27, 28] (.seq (.row [⟨(some 12), none, .ibin .lss .i64 (.tmp 11) (.tmp 10)⟩])
  (.prune [12, 6, 11, 0, 1, 10] (.seq (.cond (.tmp 12)
   .skip
   (.exit 0))
  (.prune [6, 11, 0, 1, 10] (.seq (.block 1 (.seq (.row [⟨(some 13), none, .mv (.tmp 11)⟩,
    ⟨(some 7), none, .mv (.tmp 13)⟩])
  (.prune [6, 7, 11, 0, 1, 10] (.seq (.row [⟨(some 14), none, .mv (.tmp 0)⟩,
    ⟨(some 15), none, .mv (.tmp 7)⟩,
    ⟨(some 16), none, .ixA 3 (.tmp 14) (.tmp 15)⟩,
    ⟨(some 17), none, .fad 0 (.tmp 16)⟩,
    ⟨(some 18), none, .ld (.tmp 17)⟩,
    ⟨(some 19), none, .mv (.tmp 1)⟩,
    ⟨(some 20), none, .ibin .neq .i64 (.tmp 18) (.tmp 19)⟩])
  (.prune [20, 6, 7, 11, 0, 1, 10] (.cond (.tmp 20)
   (.row [⟨(some 21), none, .mv (.tmp 6)⟩,
     ⟨(some 22), none, .mv (.tmp 0)⟩,
     ⟨(some 23), none, .mv (.tmp 7)⟩,
     ⟨(some 24), none, .ixA 3 (.tmp 22) (.tmp 23)⟩,
     ⟨(some 25), none, .ldn 3 (.tmp 24)⟩,
     ⟨(some 26), none, .bsl 28 1 [(.int .i64 0), (.int .i64 0), (.int .i64 0)] [(0, 3)] [(.tmp 25)]⟩,
     ⟨(some 27), none, .run (.bi .append ⟨[26, 26]⟩ 26) [(.tmp 21), (.tmp 26)]⟩,
     ⟨(some 6), none, .mv (.tmp 27)⟩])
   .skip))))))
  (.prune [11, 0, 6, 1, 10] (.row [⟨(some 28), none, .ibin .add .i64 (.tmp 11) (.const (.int .i64 1))⟩,
    ⟨(some 11), none, .mv (.tmp 28)⟩])))))))))))
 (.prune [6, 0] (.seq (.row [⟨(some 29), none, .mv (.tmp 6)⟩,
   ⟨(some 30), none, .mv (.tmp 6)⟩,
   ⟨(some 31), none, .lenA (.tmp 30)⟩,
   ⟨(some 32), none, .mv (.tmp 0)⟩,
   ⟨(some 33), none, .lenA (.tmp 32)⟩,
   ⟨(some 34), none, .ibin .lss .i64 (.tmp 31) (.tmp 33)⟩,
   ⟨(some 4), none, .mv (.tmp 29)⟩,
   ⟨(some 5), none, .mv (.tmp 34)⟩])
 (.prune [4, 5] .ret))))))))
theorem ok14 : fits Try.prog 14 ⟨s14, 35, [.tmp 4, .tmp 5]⟩ = some ⟨s14, 35, [.tmp 4, .tmp 5]⟩ := by kernel_rfl
theorem go14 {args : List Value} {w : World} {R : Value → World → Prop} (hle : Nat.ble args.length 35 = true) (h : vc Try.prog 35 s14 (argEnv args 0) w (fun L w => resL L w [.tmp 4, .tmp 5] fun vs => oneOr vs fun v => R v w) (fun _ _ _ => False) (fun L w => resL L w [.tmp 4, .tmp 5] fun vs => oneOr vs fun v => R v w)) : Cal Try.prog 14 ⟨args⟩ w R := cal_of mo ok14 hle h

-- (*footbridge/queue.Agenda).Drop
def s15 : S := (.seq (.row [⟨(some 4), none, .mv (.const (.bool false))⟩])
 (.prune [0, 1] (.seq (.seq (.row [⟨(some 7), none, .mv (.tmp 0)⟩,
   ⟨(some 8), none, .isnil 0 false (.tmp 7)⟩])
 (.prune [8, 0, 1] (.cond (.tmp 8)
  (.seq (.row [⟨(some 4), none, .mv (.const (.bool false))⟩])
  (.prune [4] .ret))
  .skip)))
 (.prune [1, 0] (.seq (.row [⟨(some 10), none, .mv (.tmp 0)⟩,
   ⟨(some 11), none, .nck (.tmp 10)⟩,
   ⟨(some 12), none, .fad 0 (.tmp 11)⟩,
   ⟨(some 13), none, .fad 1 (.tmp 12)⟩,
   ⟨(some 14), none, .ld (.tmp 13)⟩,
   ⟨(some 15), none, .mv (.tmp 1)⟩,
   ⟨(some 16), none, .get (.lookup 78 true) [(.tmp 14), (.tmp 15)]⟩,
   ⟨(some 9), none, .mv (.tmp 16)⟩,
   ⟨(some 17), none, .ext (.tmp 9) 0⟩,
   ⟨(some 18), none, .ext (.tmp 9) 1⟩,
   ⟨(some 5), none, .mv (.tmp 17)⟩,
   ⟨(some 6), none, .mv (.tmp 18)⟩])
 (.prune [0, 5, 6] (.seq (.seq (.row [⟨(some 19), none, .mv (.tmp 6)⟩])
 (.prune [19, 0, 5, 6] (.cond (.tmp 19)
  (.row [⟨(some 20), none, .mv (.tmp 0)⟩,
    ⟨(some 21), none, .nck (.tmp 20)⟩,
    ⟨(some 22), none, .fad 0 (.tmp 21)⟩,
    ⟨(some 23), none, .mki 85 (.tmp 22)⟩,
    ⟨(some 24), none, .mv (.tmp 5)⟩,
    ⟨(some 25), none, .call 43 [(.tmp 23), (.tmp 24)]⟩])
  .skip)))
 (.prune [6] (.seq (.row [⟨(some 26), none, .mv (.tmp 6)⟩,
   ⟨(some 4), none, .mv (.tmp 26)⟩])
 (.prune [4] .ret))))))))))
theorem ok15 : fits Try.prog 15 ⟨s15, 27, [.tmp 4]⟩ = some ⟨s15, 27, [.tmp 4]⟩ := by kernel_rfl
theorem go15 {args : List Value} {w : World} {R : Value → World → Prop} (hle : Nat.ble args.length 27 = true) (h : vc Try.prog 27 s15 (argEnv args 0) w (fun L w => resL L w [.tmp 4] fun vs => oneOr vs fun v => R v w) (fun _ _ _ => False) (fun L w => resL L w [.tmp 4] fun vs => oneOr vs fun v => R v w)) : Cal Try.prog 15 ⟨args⟩ w R := cal_of mo ok15 hle h

-- (*footbridge/queue.Agenda).Has
def s16 : S := (.seq (.row [⟨(some 4), none, .new [(.int .i64 0), (.int .i64 0), (.int .i64 0)] 28⟩,
   ⟨(some 5), none, .mv (.const (.bool false))⟩])
 (.prune [0, 1, 4] (.seq (.seq (.row [⟨(some 8), none, .mv (.tmp 0)⟩,
   ⟨(some 9), none, .isnil 0 false (.tmp 8)⟩])
 (.prune [9, 0, 1, 4] (.cond (.tmp 9)
  (.seq (.row [⟨(some 10), none, .bld [(.int .i64 0), (.int .i64 0), (.int .i64 0)] [] []⟩,
    ⟨none, none, .stn 3 (.tmp 4) (.tmp 10)⟩,
    ⟨(some 5), none, .mv (.const (.bool false))⟩])
  (.prune [4, 5] .ret))
  .skip)))
 (.prune [1, 0, 4] (.seq (.row [⟨(some 12), none, .mv (.tmp 0)⟩,
   ⟨(some 13), none, .nck (.tmp 12)⟩,
   ⟨(some 14), none, .fad 0 (.tmp 13)⟩,
   ⟨(some 15), none, .fad 1 (.tmp 14)⟩,
   ⟨(some 16), none, .ld (.tmp 15)⟩,
   ⟨(some 17), none, .mv (.tmp 1)⟩,
   ⟨(some 18), none, .get (.lookup 78 true) [(.tmp 16), (.tmp 17)]⟩,
   ⟨(some 11), none, .mv (.tmp 18)⟩,
   ⟨(some 19), none, .ext (.tmp 11) 0⟩,
   ⟨(some 20), none, .ext (.tmp 11) 1⟩,
   ⟨(some 6), none, .mv (.tmp 19)⟩,
   ⟨(some 7), none, .mv (.tmp 20)⟩])
 (.prune [7, 6, 0, 4] (.seq (.seq (.row [⟨(some 21), none, .mv (.tmp 7)⟩,
   ⟨(some 22), none, .notB (.tmp 21)⟩])
 (.prune [22, 6, 0, 4] (.cond (.tmp 22)
  (.seq (.row [⟨(some 23), none, .bld [(.int .i64 0), (.int .i64 0), (.int .i64 0)] [] []⟩,
    ⟨none, none, .stn 3 (.tmp 4) (.tmp 23)⟩,
    ⟨(some 5), none, .mv (.const (.bool false))⟩])
  (.prune [4, 5] .ret))
  .skip)))
 (.prune [0, 6, 4] (.seq (.row [⟨(some 24), none, .mv (.tmp 0)⟩,
   ⟨(some 25), none, .nck (.tmp 24)⟩,
   ⟨(some 26), none, .fad 0 (.tmp 25)⟩,
   ⟨(some 27), none, .fad 0 (.tmp 26)⟩,
   ⟨(some 28), none, .ld (.tmp 27)⟩,
   ⟨(some 29), none, .mv (.tmp 6)⟩,
   ⟨(some 30), none, .ixA 3 (.tmp 28) (.tmp 29)⟩,
   ⟨(some 31), none, .ldn 3 (.tmp 30)⟩,
   ⟨none, none, .stn 3 (.tmp 4) (.tmp 31)⟩,
   ⟨(some 5), none, .mv (.const (.bool true))⟩])
 (.prune [4, 5] .ret))))))))))
theorem ok16 : fits Try.prog 16 ⟨s16, 32, [.cell 4 (some 3), .tmp 5]⟩ = some ⟨s16, 32, [.cell 4 (some 3), .tmp 5]⟩ := by kernel_rfl
theorem go16 {args : List Value} {w : World} {R : Value → World → Prop} (hle : Nat.ble args.length 32 = true) (h : vc Try.prog 32 s16 (argEnv args 0) w (fun L w => resL L w [.cell 4 (some 3), .tmp 5] fun vs => oneOr vs fun v => R v w) (fun _ _ _ => False) (fun L w => resL L w [.cell 4 (some 3), .tmp 5] fun vs => oneOr vs fun v => R v w)) : Cal Try.prog 16 ⟨args⟩ w R := cal_of mo ok16 hle h

-- footbridge/footbridgeref11.Has
def s17 : S := (.seq (.row [⟨(some 4), none, .new [(.int .i64 0), (.int .i64 0), (.int .i64 0)] 28⟩,
   ⟨(some 5), none, .mv (.const (.bool false))⟩])
 (.prune [4, 0, 1] (.seq (.seq (.row [⟨(some 7), none, .mv (.tmp 0)⟩,
   ⟨(some 8), none, .lenA (.tmp 7)⟩,
   ⟨(some 9), none, .mv (.const (.int .i64 0))⟩])
 (.prune [4, 0, 9, 1, 8] (.block 0 (.loop [9] [5, 6, 9, 10, 11, 12, 13, 14, 15, 16, 17, 18, 19, 20, 21, 22, 23] (.seq (.row [⟨(some 10), none, .ibin .lss .i64 (.tmp 9) (.tmp 8)⟩])
  (.prune [10, 8, 1, 9, 0, 4] (.seq (.cond (.tmp 10)
   .skip
   (.exit 0))
  (.prune [8, 1, 9, 0, 4] (.seq (.block 1 (.seq (.row [⟨(some 11), none, .mv (.tmp 9)⟩,
    ⟨(some 6), none, .mv (.tmp 11)⟩])
  (.prune [8, 1, 9, 0, 6, 4] (.seq (.row [⟨(some 12), none, .mv (.tmp 0)⟩,
    ⟨(some 13), none, .mv (.tmp 6)⟩,
    ⟨(some 14), none, .ixA 3 (.tmp 12) (.tmp 13)⟩,
    ⟨(some 15), none, .fad 0 (.tmp 14)⟩,
    ⟨(some 16), none, .ld (.tmp 15)⟩,
    ⟨(some 17), none, .mv (.tmp 1)⟩,
    ⟨(some 18), none, .ibin .eql .i64 (.tmp 16) (.tmp 17)⟩])
  (.prune [18, 8, 1, 9, 0, 6, 4] (.cond (.tmp 18)
   (.seq (.row [⟨(some 19), none, .mv (.tmp 0)⟩,
     ⟨(some 20), none, .mv (.tmp 6)⟩,
     ⟨(some 21), none, .ixA 3 (.tmp 19) (.tmp 20)⟩,
     ⟨(some 22), none, .ldn 3 (.tmp 21)⟩,
     ⟨none, none, .stn 3 (.tmp 4) (.tmp 22)⟩,
     ⟨(some 5), none, .mv (.const (.bool true))⟩])
   (.prune [4, 5] .ret))
   .skip))))))
  (.prune [9, 4, 0, 1, 8] (.row [⟨(some 23), none, .ibin .add .i64 (.tmp 9) (.const (.int .i64 1))⟩,
    ⟨(some 9), none, .mv (.tmp 23)⟩])))))))))))
 (.prune [4] (.seq (.row [⟨(some 24), none, .bld [(.int .i64 0), (.int .i64 0), (.int .i64 0)] [] []⟩,
   ⟨none, none, .stn 3 (.tmp 4) (.tmp 24)⟩,
   ⟨(some 5), none, .mv (.const (.bool false))⟩])
 (.prune [4, 5] .ret))))))
theorem ok17 : fits Try.prog 17 ⟨s17, 25, [.cell 4 (some 3), .tmp 5]⟩ = some ⟨s17, 25, [.cell 4 (some 3), .tmp 5]⟩ := by kernel_rfl
theorem go17 {args : List Value} {w : World} {R : Value → World → Prop} (hle : Nat.ble args.length 25 = true) (h : vc Try.prog 25 s17 (argEnv args 0) w (fun L w => resL L w [.cell 4 (some 3), .tmp 5] fun vs => oneOr vs fun v => R v w) (fun _ _ _ => False) (fun L w => resL L w [.cell 4 (some 3), .tmp 5] fun vs => oneOr vs fun v => R v w)) : Cal Try.prog 17 ⟨args⟩ w R := cal_of mo ok17 hle h

-- (*footbridge/queue.Agenda).Take
def s18 : S := (.seq (.row [⟨(some 2), none, .new [(.int .i64 0), (.int .i64 0), (.int .i64 0)] 28⟩,
   ⟨(some 3), none, .mv (.const (.bool false))⟩])
 (.prune [0, 2] (.seq (.seq (.row [⟨(some 5), none, .mv (.tmp 0)⟩,
   ⟨(some 6), none, .call 20 [(.tmp 5)]⟩,
   ⟨(some 7), none, .ibin .eql .i64 (.tmp 6) (.const (.int .i64 0))⟩])
 (.prune [7, 0, 2] (.cond (.tmp 7)
  (.seq (.row [⟨(some 8), none, .bld [(.int .i64 0), (.int .i64 0), (.int .i64 0)] [] []⟩,
    ⟨none, none, .stn 3 (.tmp 2) (.tmp 8)⟩,
    ⟨(some 3), none, .mv (.const (.bool false))⟩])
  (.prune [2, 3] .ret))
  .skip)))
 (.prune [0, 2] (.seq (.row [⟨(some 9), none, .mv (.tmp 0)⟩,
   ⟨(some 10), none, .nck (.tmp 9)⟩,
   ⟨(some 11), none, .fad 0 (.tmp 10)⟩,
   ⟨(some 12), none, .fad 0 (.tmp 11)⟩,
   ⟨(some 13), none, .ld (.tmp 12)⟩,
   ⟨(some 14), none, .ixA 3 (.tmp 13) (.const (.int .i64 0))⟩,
   ⟨(some 15), none, .ldn 3 (.tmp 14)⟩,
   ⟨(some 4), none, .new [(.int .i64 0), (.int .i64 0), (.int .i64 0)] 28⟩,
   ⟨none, none, .stn 3 (.tmp 4) (.tmp 15)⟩])
 (.prune [0, 4, 2] (.seq (.row [⟨(some 16), none, .mv (.tmp 0)⟩,
   ⟨(some 17), none, .nck (.tmp 16)⟩,
   ⟨(some 18), none, .fad 0 (.tmp 17)⟩,
   ⟨(some 19), none, .mki 85 (.tmp 18)⟩,
   ⟨(some 20), none, .call 44 [(.tmp 19)]⟩])
 (.prune [4, 2] (.seq (.row [⟨(some 21), none, .ldn 3 (.tmp 4)⟩,
   ⟨none, none, .stn 3 (.tmp 2) (.tmp 21)⟩,
   ⟨(some 3), none, .mv (.const (.bool true))⟩])
 (.prune [2, 3] .ret))))))))))
theorem ok18 : fits Try.prog 18 ⟨s18, 22, [.cell 2 (some 3), .tmp 3]⟩ = some ⟨s18, 22, [.cell 2 (some 3), .tmp 3]⟩ := by kernel_rfl
theorem go18 {args : List Value} {w : World} {R : Value → World → Prop} (hle : Nat.ble args.length 22 = true) (h : vc Try.prog 22 s18 (argEnv args 0) w (fun L w => resL L w [.cell 2 (some 3), .tmp 3] fun vs => oneOr vs fun v => R v w) (fun _ _ _ => False) (fun L w => resL L w [.cell 2 (some 3), .tmp 3] fun vs => oneOr vs fun v => R v w)) : Cal Try.prog 18 ⟨args⟩ w R := cal_of mo ok18 hle h

-- footbridge/footbridgeref11.First
def s19 : S := (.seq (.row [⟨(some 2), none, .mv (.const (.int .i64 0))⟩])
 (.prune [0] (.seq (.row [⟨(some 3), none, .mv (.const (.int .i64 (-1)))⟩])
 (.prune [3, 0] (.seq (.seq (.row [⟨(some 5), none, .mv (.tmp 0)⟩,
   ⟨(some 6), none, .lenA (.tmp 5)⟩,
   ⟨(some 7), none, .mv (.const (.int .i64 0))⟩])
 (.prune [7, 3, 0, 6] (.block 0 (.loop [3, 7] [3, 4, 7, 8, 9, 10, 11, 12, 13, 14, 15, 16, 17, 18, 19, 20, 21, 22, 23, 24, 25, 26, 27, 28, 29, 30, 31, 32, 33, 34, 35, 36, 37, 38, 39, 40, 41, 42, 43, 44, 45, 46, 47, 48, 49, 50, 51, 52] (.seq (.row [⟨(some 8), none, .ibin .lss .i64 (.tmp 7) (.tmp 6)⟩])
  (.prune [8, 3, 7, 0, 6] (.seq (.cond (.tmp 8)
   .skip
   (.exit 0))
  (.prune [3, 7, 0, 6] (.seq (.block 1 (.seq (.row [⟨(some 9), none, .mv (.tmp 7)⟩,
    ⟨(some 4), none, .mv (.tmp 9)⟩])
  (.prune [3, 4, 7, 0, 6] (.seq (.draw (.take 0 ⟨(some 10), none, .mv (.tmp 3)⟩ (.take 1 ⟨(some 11), none, .ibin .lss .i64 (.tmp 10) (.const (.int .i64 0))⟩ (.take 2 ⟨(some 12), none, .mv (.tmp 11)⟩ (.take 3 ⟨(some 13), (some (12, false)), .mv (.tmp 0)⟩ (.take 4 ⟨(some 14), (some (12, false)), .mv (.tmp 4)⟩ (.take 5 ⟨(some 15), (some (12, false)), .ixA 3 (.tmp 13) (.tmp 14)⟩ (.take 6 ⟨(some 16), (some (12, false)), .fad 1 (.tmp 15)⟩ (.take 7 ⟨(some 17), (some (12, false)), .ld (.tmp 16)⟩ (.take 8 ⟨(some 18), (some (12, false)), .mv (.tmp 0)⟩ (.take 9 ⟨(some 19), (some (12, false)), .mv (.tmp 3)⟩ (.take 10 ⟨(some 20), (some (12, false)), .ixA 3 (.tmp 18) (.tmp 19)⟩ (.take 11 ⟨(some 21), (some (12, false)), .fad 1 (.tmp 20)⟩ (.take 12 ⟨(some 22), (some (12, false)), .ld (.tmp 21)⟩ (.take 13 ⟨(some 23), (some (12, false)), .ibin .lss .i64 (.tmp 17) (.tmp 22)⟩ (.take 14 ⟨(some 24), none, .pick (.tmp 12) (.const (.bool true)) (.tmp 23)⟩ (.take 15 ⟨(some 25), none, .mv (.tmp 24)⟩ (.take 16 ⟨(some 26), (some (25, false)), .mv (.tmp 0)⟩ (.take 17 ⟨(some 27), (some (25, false)), .mv (.tmp 4)⟩ (.take 18 ⟨(some 28), (some (25, false)), .ixA 3 (.tmp 26) (.tmp 27)⟩ (.take 19 ⟨(some 29), (some (25, false)), .fad 1 (.tmp 28)⟩ (.take 20 ⟨(some 30), (some (25, false)), .ld (.tmp 29)⟩ (.take 21 ⟨(some 31), (some (25, false)), .mv (.tmp 0)⟩ (.take 22 ⟨(some 32), (some (25, false)), .mv (.tmp 3)⟩ (.take 23 ⟨(some 33), (some (25, false)), .ixA 3 (.tmp 31) (.tmp 32)⟩ (.take 24 ⟨(some 34), (some (25, false)), .fad 1 (.tmp 33)⟩ (.take 25 ⟨(some 35), (some (25, false)), .ld (.tmp 34)⟩ (.take 26 ⟨(some 36), (some (25, false)), .ibin .eql .i64 (.tmp 30) (.tmp 35)⟩ (.take 27 ⟨(some 37), (some (25, false)), .mv (.tmp 36)⟩ (.take 28 ⟨(some 38), (some (37, true)), .mv (.tmp 0)⟩ (.take 29 ⟨(some 39), (some (37, true)), .mv (.tmp 4)⟩ (.take 30 ⟨(some 40), (some (37, true)), .ixA 3 (.tmp 38) (.tmp 39)⟩ (.take 31 ⟨(some 41), (some (37, true)), .fad 0 (.tmp 40)⟩ (.take 32 ⟨(some 42), (some (37, true)), .ld (.tmp 41)⟩ (.take 33 ⟨(some 43), (some (37, true)), .mv (.tmp 0)⟩ (.take 34 ⟨(some 44), (some (37, true)), .mv (.tmp 3)⟩ (.take 35 ⟨(some 45), (some (37, true)), .ixA 3 (.tmp 43) (.tmp 44)⟩ (.take 36 ⟨(some 46), (some (37, true)), .fad 0 (.tmp 45)⟩ (.take 37 ⟨(some 47), (some (37, true)), .ld (.tmp 46)⟩ (.take 38 ⟨(some 48), (some (37, true)), .ibin .lss .i64 (.tmp 42) (.tmp 47)⟩ (.take 39 ⟨(some 49), (some (25, false)), .pick (.tmp 37) (.tmp 48) (.const (.bool false))⟩ (.take 40 ⟨(some 50), none, .pick (.tmp 25) (.const (.bool true)) (.tmp 49)⟩ .done))))))))))))))))))))))))))))))))))))))))))
  (.prune [50, 3, 4, 7, 0, 6] (.cond (.tmp 50)
   (.row [⟨(some 51), none, .mv (.tmp 4)⟩,
     ⟨(some 3), none, .mv (.tmp 51)⟩])
   .skip))))))
  (.prune [7, 3, 0, 6] (.row [⟨(some 52), none, .ibin .add .i64 (.tmp 7) (.const (.int .i64 1))⟩,
    ⟨(some 7), none, .mv (.tmp 52)⟩])))))))))))
 (.prune [3] (.seq (.row [⟨(some 53), none, .mv (.tmp 3)⟩,
   ⟨(some 2), none, .mv (.tmp 53)⟩])
 (.prune [2] .ret))))))))
theorem ok19 : fits Try.prog 19 ⟨s19, 54, [.tmp 2]⟩ = some ⟨s19, 54, [.tmp 2]⟩ := by kernel_rfl
theorem go19 {args : List Value} {w : World} {R : Value → World → Prop} (hle : Nat.ble args.length 54 = true) (h : vc Try.prog 54 s19 (argEnv args 0) w (fun L w => resL L w [.tmp 2] fun vs => oneOr vs fun v => R v w) (fun _ _ _ => False) (fun L w => resL L w [.tmp 2] fun vs => oneOr vs fun v => R v w)) : Cal Try.prog 19 ⟨args⟩ w R := cal_of mo ok19 hle h

-- (*footbridge/queue.Agenda).Len
def s20 : S := (.seq (.row [⟨(some 2), none, .mv (.const (.int .i64 0))⟩])
 (.prune [0] (.seq (.seq (.row [⟨(some 3), none, .mv (.tmp 0)⟩,
   ⟨(some 4), none, .isnil 0 false (.tmp 3)⟩])
 (.prune [4, 0] (.cond (.tmp 4)
  (.seq (.row [⟨(some 2), none, .mv (.const (.int .i64 0))⟩])
  (.prune [2] .ret))
  .skip)))
 (.prune [0] (.seq (.row [⟨(some 5), none, .mv (.tmp 0)⟩,
   ⟨(some 6), none, .nck (.tmp 5)⟩,
   ⟨(some 7), none, .fad 0 (.tmp 6)⟩,
   ⟨(some 8), none, .call 45 [(.tmp 7)]⟩,
   ⟨(some 2), none, .mv (.tmp 8)⟩])
 (.prune [2] .ret))))))
theorem ok20 : fits Try.prog 20 ⟨s20, 9, [.tmp 2]⟩ = some ⟨s20, 9, [.tmp 2]⟩ := by kernel_rfl
theorem go20 {args : List Value} {w : World} {R : Value → World → Prop} (hle : Nat.ble args.length 9 = true) (h : vc Try.prog 9 s20 (argEnv args 0) w (fun L w => resL L w [.tmp 2] fun vs => oneOr vs fun v => R v w) (fun _ _ _ => False) (fun L w => resL L w [.tmp 2] fun vs => oneOr vs fun v => R v w)) : Cal Try.prog 20 ⟨args⟩ w R := cal_of mo ok20 hle h

-- container/heap.Push
def s41 : S := (.seq (.row [⟨(some 4), none, .mv (.tmp 0)⟩,
   ⟨(some 5), none, .mv (.tmp 1)⟩,
   ⟨(some 6), none, .calli (.tmp 4) "Push" [(.tmp 5)]⟩])
 (.prune [0] (.row [⟨(some 7), none, .mv (.tmp 0)⟩,
   ⟨(some 8), none, .mv (.tmp 0)⟩,
   ⟨(some 9), none, .calli (.tmp 8) "Len" []⟩,
   ⟨(some 10), none, .ibin .sub .i64 (.tmp 9) (.const (.int .i64 1))⟩,
   ⟨(some 11), none, .call 62 [(.tmp 7), (.tmp 10)]⟩])))
theorem ok41 : fits Try.prog 41 ⟨s41, 12, []⟩ = some ⟨s41, 12, []⟩ := by kernel_rfl
theorem go41 {args : List Value} {w : World} {R : Value → World → Prop} (hle : Nat.ble args.length 12 = true) (h : vc Try.prog 12 s41 (argEnv args 0) w (fun L w => resL L w [] fun vs => oneOr vs fun v => R v w) (fun _ _ _ => False) (fun L w => resL L w [] fun vs => oneOr vs fun v => R v w)) : Cal Try.prog 41 ⟨args⟩ w R := cal_of mo ok41 hle h

-- container/heap.Fix
def s42 : S := (.seq (.row [⟨(some 4), none, .mv (.tmp 0)⟩,
   ⟨(some 5), none, .mv (.tmp 1)⟩,
   ⟨(some 6), none, .mv (.tmp 0)⟩,
   ⟨(some 7), none, .calli (.tmp 6) "Len" []⟩,
   ⟨(some 8), none, .call 63 [(.tmp 4), (.tmp 5), (.tmp 7)]⟩,
   ⟨(some 9), none, .notB (.tmp 8)⟩])
 (.prune [9, 0, 1] (.cond (.tmp 9)
  (.row [⟨(some 10), none, .mv (.tmp 0)⟩,
    ⟨(some 11), none, .mv (.tmp 1)⟩,
    ⟨(some 12), none, .call 62 [(.tmp 10), (.tmp 11)]⟩])
  .skip)))
theorem ok42 : fits Try.prog 42 ⟨s42, 13, []⟩ = some ⟨s42, 13, []⟩ := by kernel_rfl
theorem go42 {args : List Value} {w : World} {R : Value → World → Prop} (hle : Nat.ble args.length 13 = true) (h : vc Try.prog 13 s42 (argEnv args 0) w (fun L w => resL L w [] fun vs => oneOr vs fun v => R v w) (fun _ _ _ => False) (fun L w => resL L w [] fun vs => oneOr vs fun v => R v w)) : Cal Try.prog 42 ⟨args⟩ w R := cal_of mo ok42 hle h

-- container/heap.Remove
def s43 : S := (.seq (.row [⟨(some 4), none, .mv (.const .nilIface)⟩])
 (.prune [1, 0] (.seq (.row [⟨(some 6), none, .mv (.tmp 0)⟩,
   ⟨(some 7), none, .calli (.tmp 6) "Len" []⟩,
   ⟨(some 8), none, .ibin .sub .i64 (.tmp 7) (.const (.int .i64 1))⟩,
   ⟨(some 5), none, .mv (.tmp 8)⟩])
 (.prune [5, 1, 0] (.seq (.seq (.row [⟨(some 9), none, .mv (.tmp 5)⟩,
   ⟨(some 10), none, .mv (.tmp 1)⟩,
   ⟨(some 11), none, .ibin .neq .i64 (.tmp 9) (.tmp 10)⟩])
 (.prune [11, 5, 1, 0] (.cond (.tmp 11)
  (.seq (.row [⟨(some 12), none, .mv (.tmp 0)⟩,
    ⟨(some 13), none, .mv (.tmp 1)⟩,
    ⟨(some 14), none, .mv (.tmp 5)⟩,
    ⟨(some 15), none, .calli (.tmp 12) "Swap" [(.tmp 13), (.tmp 14)]⟩])
  (.prune [5, 1, 0] (.seq (.row [⟨(some 16), none, .mv (.tmp 0)⟩,
    ⟨(some 17), none, .mv (.tmp 1)⟩,
    ⟨(some 18), none, .mv (.tmp 5)⟩,
    ⟨(some 19), none, .call 63 [(.tmp 16), (.tmp 17), (.tmp 18)]⟩,
    ⟨(some 20), none, .notB (.tmp 19)⟩])
  (.prune [20, 1, 0] (.cond (.tmp 20)
   (.row [⟨(some 21), none, .mv (.tmp 0)⟩,
     ⟨(some 22), none, .mv (.tmp 1)⟩,
     ⟨(some 23), none, .call 62 [(.tmp 21), (.tmp 22)]⟩])
   .skip)))))
  .skip)))
 (.prune [0] (.seq (.row [⟨(some 24), none, .mv (.tmp 0)⟩,
   ⟨(some 25), none, .calli (.tmp 24) "Pop" []⟩,
   ⟨(some 4), none, .mv (.tmp 25)⟩])
 (.prune [4] .ret))))))))
theorem ok43 : fits Try.prog 43 ⟨s43, 26, [.tmp 4]⟩ = some ⟨s43, 26, [.tmp 4]⟩ := by kernel_rfl
theorem go43 {args : List Value} {w : World} {R : Value → World → Prop} (hle : Nat.ble args.length 26 = true) (h : vc Try.prog 26 s43 (argEnv args 0) w (fun L w => resL L w [.tmp 4] fun vs => oneOr vs fun v => R v w) (fun _ _ _ => False) (fun L w => resL L w [.tmp 4] fun vs => oneOr vs fun v => R v w)) : Cal Try.prog 43 ⟨args⟩ w R := cal_of mo ok43 hle h

-- container/heap.Pop
def s44 : S := (.seq (.row [⟨(some 2), none, .mv (.const .nilIface)⟩])
 (.prune [0] (.seq (.row [⟨(some 4), none, .mv (.tmp 0)⟩,
   ⟨(some 5), none, .calli (.tmp 4) "Len" []⟩,
   ⟨(some 6), none, .ibin .sub .i64 (.tmp 5) (.const (.int .i64 1))⟩,
   ⟨(some 3), none, .mv (.tmp 6)⟩])
 (.prune [3, 0] (.seq (.row [⟨(some 7), none, .mv (.tmp 0)⟩,
   ⟨(some 8), none, .mv (.tmp 3)⟩,
   ⟨(some 9), none, .calli (.tmp 7) "Swap" [(.const (.int .i64 0)), (.tmp 8)]⟩])
 (.prune [3, 0] (.seq (.row [⟨(some 10), none, .mv (.tmp 0)⟩,
   ⟨(some 11), none, .mv (.tmp 3)⟩,
   ⟨(some 12), none, .call 63 [(.tmp 10), (.const (.int .i64 0)), (.tmp 11)]⟩])
 (.prune [0] (.seq (.row [⟨(some 13), none, .mv (.tmp 0)⟩,
   ⟨(some 14), none, .calli (.tmp 13) "Pop" []⟩,
   ⟨(some 2), none, .mv (.tmp 14)⟩])
 (.prune [2] .ret))))))))))
theorem ok44 : fits Try.prog 44 ⟨s44, 15, [.tmp 2]⟩ = some ⟨s44, 15, [.tmp 2]⟩ := by kernel_rfl
theorem go44 {args : List Value} {w : World} {R : Value → World → Prop} (hle : Nat.ble args.length 15 = true) (h : vc Try.prog 15 s44 (argEnv args 0) w (fun L w => resL L w [.tmp 2] fun vs => oneOr vs fun v => R v w) (fun _ _ _ => False) (fun L w => resL L w [.tmp 2] fun vs => oneOr vs fun v => R v w)) : Cal Try.prog 44 ⟨args⟩ w R := cal_of mo ok44 hle h

-- (*footbridge/queue.pile).Len
def s45 : S := (.seq (.row [⟨(some 2), none, .mv (.const (.int .i64 0))⟩])
 (.prune [0] (.seq (.row [⟨(some 3), none, .mv (.tmp 0)⟩,
   ⟨(some 4), none, .nck (.tmp 3)⟩,
   ⟨(some 5), none, .fad 0 (.tmp 4)⟩,
   ⟨(some 6), none, .ld (.tmp 5)⟩,
   ⟨(some 7), none, .lenA (.tmp 6)⟩,
   ⟨(some 2), none, .mv (.tmp 7)⟩])
 (.prune [2] .ret))))
theorem ok45 : fits Try.prog 45 ⟨s45, 8, [.tmp 2]⟩ = some ⟨s45, 8, [.tmp 2]⟩ := by kernel_rfl
theorem go45 {args : List Value} {w : World} {R : Value → World → Prop} (hle : Nat.ble args.length 8 = true) (h : vc Try.prog 8 s45 (argEnv args 0) w (fun L w => resL L w [.tmp 2] fun vs => oneOr vs fun v => R v w) (fun _ _ _ => False) (fun L w => resL L w [.tmp 2] fun vs => oneOr vs fun v => R v w)) : Cal Try.prog 45 ⟨args⟩ w R := cal_of mo ok45 hle h

-- container/heap.up
def s62 : S := (.block 0 (.loop [1] [1, 4, 5, 6, 7, 8, 9, 10, 11, 12, 13, 14, 15, 16, 17, 18, 19, 20, 21, 22] (.block 1 (.seq (.row [⟨(some 5), none, .mv (.tmp 1)⟩,
    ⟨(some 6), none, .ibin .sub .i64 (.tmp 5) (.const (.int .i64 1))⟩,
    ⟨(some 7), none, .ibin .quo .i64 (.tmp 6) (.const (.int .i64 2))⟩,
    ⟨(some 4), none, .mv (.tmp 7)⟩])
  (.prune [0, 4, 1] (.seq (.seq (.row [⟨(some 8), none, .mv (.tmp 4)⟩,
    ⟨(some 9), none, .mv (.tmp 1)⟩,
    ⟨(some 10), none, .ibin .eql .i64 (.tmp 8) (.tmp 9)⟩,
    ⟨(some 11), none, .mv (.tmp 10)⟩,
    ⟨(some 12), (some (11, false)), .mv (.tmp 0)⟩,
    ⟨(some 13), (some (11, false)), .mv (.tmp 1)⟩,
    ⟨(some 14), (some (11, false)), .mv (.tmp 4)⟩,
    ⟨(some 15), (some (11, false)), .calli (.tmp 12) "Less" [(.tmp 13), (.tmp 14)]⟩,
    ⟨(some 16), (some (11, false)), .notB (.tmp 15)⟩,
    ⟨(some 17), none, .pick (.tmp 11) (.const (.bool true)) (.tmp 16)⟩])
  (.prune [17, 0, 4, 1] (.cond (.tmp 17)
   (.exit 0)
   .skip)))
  (.prune [1, 4, 0] (.seq (.row [⟨(some 18), none, .mv (.tmp 0)⟩,
    ⟨(some 19), none, .mv (.tmp 4)⟩,
    ⟨(some 20), none, .mv (.tmp 1)⟩,
    ⟨(some 21), none, .calli (.tmp 18) "Swap" [(.tmp 19), (.tmp 20)]⟩])
  (.prune [4, 0] (.row [⟨(some 22), none, .mv (.tmp 4)⟩,
    ⟨(some 1), none, .mv (.tmp 22)⟩]))))))))))
theorem ok62 : fits Try.prog 62 ⟨s62, 23, []⟩ = some ⟨s62, 23, []⟩ := by kernel_rfl
theorem go62 {args : List Value} {w : World} {R : Value → World → Prop} (hle : Nat.ble args.length 23 = true) (h : vc Try.prog 23 s62 (argEnv args 0) w (fun L w => resL L w [] fun vs => oneOr vs fun v => R v w) (fun _ _ _ => False) (fun L w => resL L w [] fun vs => oneOr vs fun v => R v w)) : Cal Try.prog 62 ⟨args⟩ w R := cal_of mo ok62 hle h

-- container/heap.down
def s63 : S := (.seq (.row [⟨(some 6), none, .mv (.const (.bool false))⟩])
 (.prune [1, 2, 0] (.seq (.row [⟨(some 11), none, .mv (.tmp 1)⟩,
   ⟨(some 7), none, .mv (.tmp 11)⟩])
 (.prune [1, 7, 2, 0] (.seq (.block 0 (.loop [7] [7, 8, 9, 10, 12, 13, 14, 15, 16, 17, 18, 19, 20, 21, 22, 23, 24, 25, 26, 27, 28, 29, 30, 31, 32, 33, 34, 35, 36, 37, 38, 39, 40, 41, 42, 43, 44] (.block 1 (.seq (.row [⟨(some 12), none, .mv (.tmp 7)⟩,
    ⟨(some 13), none, .ibin .mul .i64 (.const (.int .i64 2)) (.tmp 12)⟩,
    ⟨(some 14), none, .ibin .add .i64 (.tmp 13) (.const (.int .i64 1))⟩,
    ⟨(some 8), none, .mv (.tmp 14)⟩])
  (.prune [2, 0, 8, 7, 1] (.seq (.seq (.row [⟨(some 15), none, .mv (.tmp 8)⟩,
    ⟨(some 16), none, .mv (.tmp 2)⟩,
    ⟨(some 17), none, .ibin .geq .i64 (.tmp 15) (.tmp 16)⟩,
    ⟨(some 18), none, .mv (.tmp 17)⟩,
    ⟨(some 19), (some (18, false)), .mv (.tmp 8)⟩,
    ⟨(some 20), (some (18, false)), .ibin .lss .i64 (.tmp 19) (.const (.int .i64 0))⟩,
    ⟨(some 21), none, .pick (.tmp 18) (.const (.bool true)) (.tmp 20)⟩])
  (.prune [21, 2, 0, 8, 7, 1] (.cond (.tmp 21)
   (.exit 0)
   .skip)))
  (.prune [8, 0, 2, 7, 1] (.seq (.row [⟨(some 22), none, .mv (.tmp 8)⟩,
    ⟨(some 9), none, .mv (.tmp 22)⟩])
  (.prune [8, 9, 0, 2, 7, 1] (.seq (.seq (.row [⟨(some 23), none, .mv (.tmp 8)⟩,
    ⟨(some 24), none, .ibin .add .i64 (.tmp 23) (.const (.int .i64 1))⟩,
    ⟨(some 10), none, .mv (.tmp 24)⟩])
  (.prune [8, 9, 10, 0, 2, 7, 1] (.seq (.row [⟨(some 25), none, .mv (.tmp 10)⟩,
    ⟨(some 26), none, .mv (.tmp 2)⟩,
    ⟨(some 27), none, .ibin .lss .i64 (.tmp 25) (.tmp 26)⟩,
    ⟨(some 28), none, .mv (.tmp 27)⟩,
    ⟨(some 29), (some (28, true)), .mv (.tmp 0)⟩,
    ⟨(some 30), (some (28, true)), .mv (.tmp 10)⟩,
    ⟨(some 31), (some (28, true)), .mv (.tmp 8)⟩,
    ⟨(some 32), (some (28, true)), .calli (.tmp 29) "Less" [(.tmp 30), (.tmp 31)]⟩,
    ⟨(some 33), none, .pick (.tmp 28) (.tmp 32) (.const (.bool false))⟩])
  (.prune [33, 9, 10, 0, 2, 7, 1] (.cond (.tmp 33)
   (.row [⟨(some 34), none, .mv (.tmp 10)⟩,
     ⟨(some 9), none, .mv (.tmp 34)⟩])
   .skip)))))
  (.prune [0, 2, 9, 7, 1] (.seq (.seq (.row [⟨(some 35), none, .mv (.tmp 0)⟩,
    ⟨(some 36), none, .mv (.tmp 9)⟩,
    ⟨(some 37), none, .mv (.tmp 7)⟩,
    ⟨(some 38), none, .calli (.tmp 35) "Less" [(.tmp 36), (.tmp 37)]⟩,
    ⟨(some 39), none, .notB (.tmp 38)⟩])
  (.prune [39, 0, 2, 9, 7, 1] (.cond (.tmp 39)
   (.exit 0)
   .skip)))
  (.prune [7, 9, 1, 2, 0] (.seq (.row [⟨(some 40), none, .mv (.tmp 0)⟩,
    ⟨(some 41), none, .mv (.tmp 7)⟩,
    ⟨(some 42), none, .mv (.tmp 9)⟩,
    ⟨(some 43), none, .calli (.tmp 40) "Swap" [(.tmp 41), (.tmp 42)]⟩])
  (.prune [9, 1, 2, 0] (.row [⟨(some 44), none, .mv (.tmp 9)⟩,
    ⟨(some 7), none, .mv (.tmp 44)⟩]))))))))))))))))
 (.prune [7, 1] (.seq (.row [⟨(some 45), none, .mv (.tmp 7)⟩,
   ⟨(some 46), none, .mv (.tmp 1)⟩,
   ⟨(some 47), none, .ibin .gtr .i64 (.tmp 45) (.tmp 46)⟩,
   ⟨(some 6), none, .mv (.tmp 47)⟩])
 (.prune [6] .ret))))))))
theorem ok63 : fits Try.prog 63 ⟨s63, 48, [.tmp 6]⟩ = some ⟨s63, 48, [.tmp 6]⟩ := by kernel_rfl
theorem go63 {args : List Value} {w : World} {R : Value → World → Prop} (hle : Nat.ble args.length 48 = true) (h : vc Try.prog 48 s63 (argEnv args 0) w (fun L w => resL L w [.tmp 6] fun vs => oneOr vs fun v => R v w) (fun _ _ _ => False) (fun L w => resL L w [.tmp 6] fun vs => oneOr vs fun v => R v w)) : Cal Try.prog 63 ⟨args⟩ w R := cal_of mo ok63 hle h

-- (*footbridge/queue.pile).Less
def s105 : S := (.seq (.row [⟨(some 6), none, .mv (.const (.bool false))⟩])
 (.prune [1, 0, 2] (.seq (.draw (.take 0 ⟨(some 9), none, .mv (.tmp 0)⟩ (.take 1 ⟨(some 10), none, .nck (.tmp 9)⟩ (.take 2 ⟨(some 11), none, .fad 0 (.tmp 10)⟩ (.take 3 ⟨(some 12), none, .ld (.tmp 11)⟩ (.take 4 ⟨(some 13), none, .mv (.tmp 1)⟩ (.take 5 ⟨(some 14), none, .ixA 3 (.tmp 12) (.tmp 13)⟩ (.take 6 ⟨(some 15), none, .ldn 3 (.tmp 14)⟩ (.take 7 ⟨(some 16), none, .mv (.tmp 0)⟩ (.take 8 ⟨(some 17), none, .nck (.tmp 16)⟩ (.take 9 ⟨(some 18), none, .fad 0 (.tmp 17)⟩ (.take 10 ⟨(some 19), none, .ld (.tmp 18)⟩ (.take 11 ⟨(some 20), none, .mv (.tmp 2)⟩ (.take 12 ⟨(some 21), none, .ixA 3 (.tmp 19) (.tmp 20)⟩ (.take 13 ⟨(some 22), none, .ldn 3 (.tmp 21)⟩ (.alt (.step 14 true ⟨(some 7), none, .new [(.int .i64 0), (.int .i64 0), (.int .i64 0)] 28⟩ (.step 15 true ⟨(some 8), none, .new [(.int .i64 0), (.int .i64 0), (.int .i64 0)] 28⟩ (.step 16 true ⟨none, none, .stn 3 (.tmp 7) (.tmp 15)⟩ (.step 17 false ⟨none, none, .stn 3 (.tmp 8) (.tmp 22)⟩ .done)))) (.step 15 true ⟨(some 8), none, .new [(.int .i64 0), (.int .i64 0), (.int .i64 0)] 28⟩ (.step 14 true ⟨(some 7), none, .new [(.int .i64 0), (.int .i64 0), (.int .i64 0)] 28⟩ (.step 16 true ⟨none, none, .stn 3 (.tmp 7) (.tmp 15)⟩ (.step 17 false ⟨none, none, .stn 3 (.tmp 8) (.tmp 22)⟩ .done))))))))))))))))))))
 (.prune [7, 8] (.seq (.row [⟨(some 23), none, .fad 1 (.tmp 7)⟩,
   ⟨(some 24), none, .ld (.tmp 23)⟩,
   ⟨(some 25), none, .fad 1 (.tmp 8)⟩,
   ⟨(some 26), none, .ld (.tmp 25)⟩,
   ⟨(some 27), none, .ibin .lss .i64 (.tmp 24) (.tmp 26)⟩,
   ⟨(some 28), none, .mv (.tmp 27)⟩,
   ⟨(some 29), (some (28, false)), .fad 1 (.tmp 7)⟩,
   ⟨(some 30), (some (28, false)), .ld (.tmp 29)⟩,
   ⟨(some 31), (some (28, false)), .fad 1 (.tmp 8)⟩,
   ⟨(some 32), (some (28, false)), .ld (.tmp 31)⟩,
   ⟨(some 33), (some (28, false)), .ibin .eql .i64 (.tmp 30) (.tmp 32)⟩,
   ⟨(some 34), (some (28, false)), .mv (.tmp 33)⟩,
   ⟨(some 35), (some (34, true)), .fad 0 (.tmp 7)⟩,
   ⟨(some 36), (some (34, true)), .ld (.tmp 35)⟩,
   ⟨(some 37), (some (34, true)), .fad 0 (.tmp 8)⟩,
   ⟨(some 38), (some (34, true)), .ld (.tmp 37)⟩,
   ⟨(some 39), (some (34, true)), .ibin .lss .i64 (.tmp 36) (.tmp 38)⟩,
   ⟨(some 40), (some (28, false)), .pick (.tmp 34) (.tmp 39) (.const (.bool false))⟩,
   ⟨(some 41), none, .pick (.tmp 28) (.const (.bool true)) (.tmp 40)⟩,
   ⟨(some 6), none, .mv (.tmp 41)⟩])
 (.prune [6] .ret))))))
theorem ok105 : fits Try.prog 105 ⟨s105, 42, [.tmp 6]⟩ = some ⟨s105, 42, [.tmp 6]⟩ := by kernel_rfl
theorem go105 {args : List Value} {w : World} {R : Value → World → Prop} (hle : Nat.ble args.length 42 = true) (h : vc Try.prog 42 s105 (argEnv args 0) w (fun L w => resL L w [.tmp 6] fun vs => oneOr vs fun v => R v w) (fun _ _ _ => False) (fun L w => resL L w [.tmp 6] fun vs => oneOr vs fun v => R v w)) : Cal Try.prog 105 ⟨args⟩ w R := cal_of mo ok105 hle h

-- (*footbridge/queue.pile).Pop
def s106 : S := (.seq (.row [⟨(some 2), none, .mv (.const .nilIface)⟩])
 (.prune [0] (.seq (.draw (.take 0 ⟨(some 4), none, .mv (.tmp 0)⟩ (.take 1 ⟨(some 5), none, .nck (.tmp 4)⟩ (.take 2 ⟨(some 6), none, .fad 0 (.tmp 5)⟩ (.take 3 ⟨(some 7), none, .ld (.tmp 6)⟩ (.take 4 ⟨(some 8), none, .mv (.tmp 0)⟩ (.take 5 ⟨(some 9), none, .nck (.tmp 8)⟩ (.take 6 ⟨(some 10), none, .fad 0 (.tmp 9)⟩ (.take 7 ⟨(some 11), none, .ld (.tmp 10)⟩ (.take 8 ⟨(some 12), none, .lenA (.tmp 11)⟩ (.take 9 ⟨(some 13), none, .ibin .sub .i64 (.tmp 12) (.const (.int .i64 1))⟩ (.take 10 ⟨(some 14), none, .ixA 3 (.tmp 7) (.tmp 13)⟩ (.take 11 ⟨(some 15), none, .ldn 3 (.tmp 14)⟩ (.step 12 true ⟨(some 3), none, .new [(.int .i64 0), (.int .i64 0), (.int .i64 0)] 28⟩ (.step 13 false ⟨none, none, .stn 3 (.tmp 3) (.tmp 15)⟩ .done)))))))))))))))
 (.prune [0, 3] (.seq (.draw (.take 0 ⟨(some 16), none, .mv (.tmp 0)⟩ (.take 1 ⟨(some 17), none, .mv (.tmp 0)⟩ (.take 2 ⟨(some 18), none, .nck (.tmp 17)⟩ (.take 3 ⟨(some 19), none, .fad 0 (.tmp 18)⟩ (.take 4 ⟨(some 20), none, .ld (.tmp 19)⟩ (.take 5 ⟨(some 21), none, .mv (.tmp 0)⟩ (.take 6 ⟨(some 22), none, .nck (.tmp 21)⟩ (.take 7 ⟨(some 23), none, .fad 0 (.tmp 22)⟩ (.take 8 ⟨(some 24), none, .ld (.tmp 23)⟩ (.take 9 ⟨(some 25), none, .lenA (.tmp 24)⟩ (.take 10 ⟨(some 26), none, .ibin .sub .i64 (.tmp 25) (.const (.int .i64 1))⟩ (.take 11 ⟨(some 27), none, .slc 3 (.tmp 20) none (some (.tmp 26))⟩ (.take 12 ⟨(some 28), none, .nck (.tmp 16)⟩ (.take 13 ⟨(some 29), none, .fad 0 (.tmp 28)⟩ (.step 14 false ⟨none, none, .st (.tmp 29) (.tmp 27)⟩ .done))))))))))))))))
 (.prune [0, 3] (.seq (.draw (.take 0 ⟨(some 30), none, .mv (.tmp 0)⟩ (.take 1 ⟨(some 31), none, .nck (.tmp 30)⟩ (.take 2 ⟨(some 32), none, .fad 1 (.tmp 31)⟩ (.take 3 ⟨(some 33), none, .ld (.tmp 32)⟩ (.take 4 ⟨(some 34), none, .fad 0 (.tmp 3)⟩ (.take 5 ⟨(some 35), none, .ld (.tmp 34)⟩ (.step 6 false ⟨none, none, .run (.bi .delete ⟨[78, 3]⟩ 0) [(.tmp 33), (.tmp 35)]⟩ .done))))))))
 (.prune [3] (.seq (.row [⟨(some 36), none, .ldn 3 (.tmp 3)⟩,
   ⟨(some 37), none, .mki 28 (.tmp 36)⟩,
   ⟨(some 2), none, .mv (.tmp 37)⟩])
 (.prune [2] .ret))))))))))
theorem ok106 : fits Try.prog 106 ⟨s106, 38, [.tmp 2]⟩ = some ⟨s106, 38, [.tmp 2]⟩ := by kernel_rfl
theorem go106 {args : List Value} {w : World} {R : Value → World → Prop} (hle : Nat.ble args.length 38 = true) (h : vc Try.prog 38 s106 (argEnv args 0) w (fun L w => resL L w [.tmp 2] fun vs => oneOr vs fun v => R v w) (fun _ _ _ => False) (fun L w => resL L w [.tmp 2] fun vs => oneOr vs fun v => R v w)) : Cal Try.prog 106 ⟨args⟩ w R := cal_of mo ok106 hle h

-- (*footbridge/queue.pile).Push
def s107 : S := (.seq (.row [⟨(some 7), none, .mv (.tmp 1)⟩,
   ⟨(some 8), none, .asrt 28 (.agg ⟨[(.int .i64 0), (.int .i64 0), (.int .i64 0)]⟩) (.tmp 7)⟩,
   ⟨(some 6), none, .mv (.tmp 8)⟩,
   ⟨(some 9), none, .ext (.tmp 6) 0⟩,
   ⟨(some 10), none, .ext (.tmp 6) 1⟩,
   ⟨(some 4), none, .new [(.int .i64 0), (.int .i64 0), (.int .i64 0)] 28⟩,
   ⟨none, none, .stn 3 (.tmp 4) (.tmp 9)⟩,
   ⟨(some 5), none, .mv (.tmp 10)⟩])
 (.prune [5, 0, 4] (.seq (.row [⟨(some 11), none, .mv (.tmp 5)⟩])
 (.prune [11, 0, 4] (.cond (.tmp 11)
  (.seq (.draw (.take 0 ⟨(some 12), none, .mv (.tmp 0)⟩ (.take 1 ⟨(some 13), none, .nck (.tmp 12)⟩ (.take 2 ⟨(some 14), none, .fad 1 (.tmp 13)⟩ (.take 3 ⟨(some 15), none, .ld (.tmp 14)⟩ (.take 4 ⟨(some 16), none, .fad 0 (.tmp 4)⟩ (.take 5 ⟨(some 17), none, .ld (.tmp 16)⟩ (.take 6 ⟨(some 18), none, .mv (.tmp 0)⟩ (.take 7 ⟨(some 19), none, .nck (.tmp 18)⟩ (.take 8 ⟨(some 20), none, .fad 0 (.tmp 19)⟩ (.take 9 ⟨(some 21), none, .ld (.tmp 20)⟩ (.take 10 ⟨(some 22), none, .lenA (.tmp 21)⟩ (.step 11 false ⟨none, none, .run (.mapUpdate 78) [(.tmp 15), (.tmp 17), (.tmp 22)]⟩ .done)))))))))))))
  (.prune [0, 4] (.draw (.take 0 ⟨(some 23), none, .mv (.tmp 0)⟩ (.take 1 ⟨(some 24), none, .mv (.tmp 0)⟩ (.take 2 ⟨(some 25), none, .nck (.tmp 24)⟩ (.take 3 ⟨(some 26), none, .fad 0 (.tmp 25)⟩ (.take 4 ⟨(some 27), none, .ld (.tmp 26)⟩ (.take 5 ⟨(some 28), none, .ldn 3 (.tmp 4)⟩ (.step 6 true ⟨(some 29), none, .bsl 28 1 [(.int .i64 0), (.int .i64 0), (.int .i64 0)] [(0, 3)] [(.tmp 28)]⟩ (.step 7 true ⟨(some 30), none, .run (.bi .append ⟨[26, 26]⟩ 26) [(.tmp 27), (.tmp 29)]⟩ (.take 8 ⟨(some 31), none, .nck (.tmp 23)⟩ (.take 9 ⟨(some 32), none, .fad 0 (.tmp 31)⟩ (.step 10 false ⟨none, none, .st (.tmp 32) (.tmp 30)⟩ .done))))))))))))))
  .skip)))))
theorem ok107 : fits Try.prog 107 ⟨s107, 33, []⟩ = some ⟨s107, 33, []⟩ := by kernel_rfl
theorem go107 {args : List Value} {w : World} {R : Value → World → Prop} (hle : Nat.ble args.length 33 = true) (h : vc Try.prog 33 s107 (argEnv args 0) w (fun L w => resL L w [] fun vs => oneOr vs fun v => R v w) (fun _ _ _ => False) (fun L w => resL L w [] fun vs => oneOr vs fun v => R v w)) : Cal Try.prog 107 ⟨args⟩ w R := cal_of mo ok107 hle h

-- (*footbridge/queue.pile).Swap
def s108 : S := (.seq (.draw (.take 0 ⟨(some 6), none, .mv (.tmp 0)⟩ (.take 1 ⟨(some 7), none, .nck (.tmp 6)⟩ (.take 2 ⟨(some 8), none, .fad 0 (.tmp 7)⟩ (.take 3 ⟨(some 9), none, .ld (.tmp 8)⟩ (.take 4 ⟨(some 10), none, .mv (.tmp 1)⟩ (.take 5 ⟨(some 11), none, .mv (.tmp 0)⟩ (.take 6 ⟨(some 12), none, .nck (.tmp 11)⟩ (.take 7 ⟨(some 13), none, .fad 0 (.tmp 12)⟩ (.take 8 ⟨(some 14), none, .ld (.tmp 13)⟩ (.take 9 ⟨(some 15), none, .mv (.tmp 2)⟩ (.take 10 ⟨(some 16), none, .mv (.tmp 0)⟩ (.take 11 ⟨(some 17), none, .nck (.tmp 16)⟩ (.take 12 ⟨(some 18), none, .fad 0 (.tmp 17)⟩ (.take 13 ⟨(some 19), none, .ld (.tmp 18)⟩ (.take 14 ⟨(some 20), none, .mv (.tmp 2)⟩ (.take 15 ⟨(some 21), none, .ixA 3 (.tmp 19) (.tmp 20)⟩ (.take 16 ⟨(some 22), none, .ldn 3 (.tmp 21)⟩ (.take 17 ⟨(some 23), none, .mv (.tmp 0)⟩ (.take 18 ⟨(some 24), none, .nck (.tmp 23)⟩ (.take 19 ⟨(some 25), none, .fad 0 (.tmp 24)⟩ (.take 20 ⟨(some 26), none, .ld (.tmp 25)⟩ (.take 21 ⟨(some 27), none, .mv (.tmp 1)⟩ (.take 22 ⟨(some 28), none, .ixA 3 (.tmp 26) (.tmp 27)⟩ (.take 23 ⟨(some 29), none, .ldn 3 (.tmp 28)⟩ (.take 24 ⟨(some 30), none, .ixA 3 (.tmp 9) (.tmp 10)⟩ (.step 25 false ⟨none, none, .stn 3 (.tmp 30) (.tmp 22)⟩ (.take 26 ⟨(some 31), none, .ixA 3 (.tmp 14) (.tmp 15)⟩ (.step 27 false ⟨none, none, .stn 3 (.tmp 31) (.tmp 29)⟩ .done)))))))))))))))))))))))))))))
 (.prune [0, 1, 2] (.draw (.take 0 ⟨(some 32), none, .mv (.tmp 0)⟩ (.take 1 ⟨(some 33), none, .nck (.tmp 32)⟩ (.take 2 ⟨(some 34), none, .fad 1 (.tmp 33)⟩ (.take 3 ⟨(some 35), none, .ld (.tmp 34)⟩ (.take 4 ⟨(some 36), none, .mv (.tmp 0)⟩ (.take 5 ⟨(some 37), none, .nck (.tmp 36)⟩ (.take 6 ⟨(some 38), none, .fad 0 (.tmp 37)⟩ (.take 7 ⟨(some 39), none, .ld (.tmp 38)⟩ (.take 8 ⟨(some 40), none, .mv (.tmp 1)⟩ (.take 9 ⟨(some 41), none, .ixA 3 (.tmp 39) (.tmp 40)⟩ (.take 10 ⟨(some 42), none, .fad 0 (.tmp 41)⟩ (.take 11 ⟨(some 43), none, .ld (.tmp 42)⟩ (.take 12 ⟨(some 44), none, .mv (.tmp 0)⟩ (.take 13 ⟨(some 45), none, .nck (.tmp 44)⟩ (.take 14 ⟨(some 46), none, .fad 1 (.tmp 45)⟩ (.take 15 ⟨(some 47), none, .ld (.tmp 46)⟩ (.take 16 ⟨(some 48), none, .mv (.tmp 0)⟩ (.take 17 ⟨(some 49), none, .nck (.tmp 48)⟩ (.take 18 ⟨(some 50), none, .fad 0 (.tmp 49)⟩ (.take 19 ⟨(some 51), none, .ld (.tmp 50)⟩ (.take 20 ⟨(some 52), none, .mv (.tmp 2)⟩ (.take 21 ⟨(some 53), none, .ixA 3 (.tmp 51) (.tmp 52)⟩ (.take 22 ⟨(some 54), none, .fad 0 (.tmp 53)⟩ (.take 23 ⟨(some 55), none, .ld (.tmp 54)⟩ (.take 24 ⟨(some 56), none, .mv (.tmp 1)⟩ (.take 25 ⟨(some 57), none, .mv (.tmp 2)⟩ (.step 26 true ⟨(some 58), none, .run (.mapEntry 78) [(.tmp 35), (.tmp 43)]⟩ (.take 27 ⟨(some 59), none, .ext (.tmp 58) 1⟩ (.step 28 false ⟨none, none, .run (.entryStore 78) [(.tmp 35), (.tmp 59), (.tmp 56)]⟩ (.step 29 false ⟨(some 60), none, .run (.mapEntry 78) [(.tmp 47), (.tmp 55)]⟩ (.take 30 ⟨(some 61), none, .ext (.tmp 60) 1⟩ (.step 31 false ⟨none, none, .run (.entryStore 78) [(.tmp 47), (.tmp 61), (.tmp 57)]⟩ .done)))))))))))))))))))))))))))))))))))
theorem ok108 : fits Try.prog 108 ⟨s108, 62, []⟩ = some ⟨s108, 62, []⟩ := by kernel_rfl
theorem go108 {args : List Value} {w : World} {R : Value → World → Prop} (hle : Nat.ble args.length 62 = true) (h : vc Try.prog 62 s108 (argEnv args 0) w (fun L w => resL L w [] fun vs => oneOr vs fun v => R v w) (fun _ _ _ => False) (fun L w => resL L w [] fun vs => oneOr vs fun v => R v w)) : Cal Try.prog 108 ⟨args⟩ w R := cal_of mo ok108 hle h

end Fb.Try
