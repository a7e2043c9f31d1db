/-
  Made by a program of ours (wip/tools/slim.lean): the slim code of this claim's functions, each held against the model's code by one closed fact.
-/
import Derived.Test.YtlcnldimfgbjeaaB1
import Derived.Test.YtlcnldimfgbjeaaChecked
namespace Fb.Try
open Go Go.Proofs Fb

theorem mo : Try.prog.follows .mixedOrders = true := by kernel_rfl

-- footbridge/footbridgelaw14.EncodeRows
def s5 : S := (.seq (.row [⟨(some 2), none, .box 46 (.tmp 0)⟩,
   ⟨(some 4), none, .mv (.const (.bool false))⟩])
 (.prune [2, 1] (.seq (.seq (.row [⟨(some 7), none, .ldn 3 (.tmp 2)⟩,
   ⟨(some 8), none, .mv (.tmp 1)⟩,
   ⟨(some 9), none, .call 30 [(.tmp 7), (.tmp 8)]⟩])
 (.prune [9, 2, 1] (.cond (.tmp 9)
  (.seq (.row [⟨(some 10), none, .call 31 []⟩,
    ⟨(some 4), none, .mv (.tmp 10)⟩])
  (.prune [4] .ret))
  .skip)))
 (.prune [1, 2] (.seq (.row [⟨(some 12), none, .ldn 3 (.tmp 2)⟩,
   ⟨(some 13), none, .call 32 [(.tmp 12)]⟩,
   ⟨(some 11), none, .mv (.tmp 13)⟩,
   ⟨(some 14), none, .ext (.tmp 11) 0⟩,
   ⟨(some 15), none, .ext (.tmp 11) 1⟩,
   ⟨(some 5), none, .mv (.tmp 14)⟩,
   ⟨(some 6), none, .mv (.tmp 15)⟩])
 (.prune [1, 2, 5, 6] (.seq (.seq (.row [⟨(some 16), none, .ldn 3 (.tmp 2)⟩,
   ⟨(some 17), none, .call 22 [(.tmp 16)]⟩,
   ⟨(some 18), none, .notB (.tmp 17)⟩])
 (.prune [18, 1, 2, 5, 6] (.cond (.tmp 18)
  (.seq (.row [⟨(some 19), none, .call 31 []⟩,
    ⟨(some 20), none, .mv (.tmp 19)⟩,
    ⟨(some 21), (some (20, true)), .mv (.tmp 5)⟩,
    ⟨(some 22), (some (20, true)), .isnil 0 false (.tmp 21)⟩,
    ⟨(some 23), none, .pick (.tmp 20) (.tmp 22) (.const (.bool false))⟩,
    ⟨(some 24), none, .mv (.tmp 23)⟩,
    ⟨(some 25), (some (24, true)), .mv (.tmp 6)⟩,
    ⟨(some 26), (some (24, true)), .ibin .eql .i64 (.tmp 25) (.const (.int .i64 2))⟩,
    ⟨(some 27), none, .pick (.tmp 24) (.tmp 26) (.const (.bool false))⟩,
    ⟨(some 4), none, .mv (.tmp 27)⟩])
  (.prune [4] .ret))
  .skip)))
 (.prune [6, 5, 2, 1] (.seq (.draw (.step 0 true ⟨(some 28), none, .call 31 []⟩ (.take 1 ⟨(some 29), none, .mv (.tmp 28)⟩ (.take 2 ⟨(some 30), (some (29, true)), .mv (.tmp 6)⟩ (.take 3 ⟨(some 31), (some (29, true)), .ibin .eql .i64 (.tmp 30) (.const (.int .i64 0))⟩ (.take 4 ⟨(some 32), none, .pick (.tmp 29) (.tmp 31) (.const (.bool false))⟩ (.take 5 ⟨(some 33), none, .mv (.tmp 32)⟩ (.take 6 ⟨(some 34), (some (33, true)), .mv (.tmp 5)⟩ (.take 7 ⟨(some 35), (some (33, true)), .isnil 0 true (.tmp 34)⟩ (.take 8 ⟨(some 36), none, .pick (.tmp 33) (.tmp 35) (.const (.bool false))⟩ (.take 9 ⟨(some 37), none, .mv (.tmp 36)⟩ (.take 10 ⟨(some 38), (some (37, true)), .mv (.tmp 5)⟩ (.take 11 ⟨(some 39), (some (37, true)), .mv (.tmp 1)⟩ (.take 13 ⟨(some 41), (some (37, true)), .ldn 3 (.tmp 2)⟩ (.take 14 ⟨(some 42), (some (37, true)), .mv (.tmp 1)⟩ (.take 15 ⟨(some 43), (some (37, true)), .get (.conv 64 9) [(.tmp 42)]⟩ (.step 12 true ⟨(some 40), (some (37, true)), .call 33 [(.tmp 38), (.tmp 39)]⟩ (.step 16 false ⟨(some 44), (some (37, true)), .call 34 [(.tmp 41), (.tmp 43)]⟩ (.step 17 true ⟨(some 45), (some (37, true)), .call 29 [(.tmp 40), (.tmp 44)]⟩ (.take 18 ⟨(some 46), none, .pick (.tmp 37) (.tmp 45) (.const (.bool false))⟩ (.take 19 ⟨(some 4), none, .mv (.tmp 46)⟩ .done)))))))))))))))))))))
 (.prune [4] .ret))))))))))
theorem ok5 : fits Try.prog 5 ⟨s5, 47, [.tmp 4]⟩ = some ⟨s5, 47, [.tmp 4]⟩ := by kernel_rfl
theorem go5 {args : List Value} {w : World} {R : Value → World → Prop} (hle : Nat.ble args.length 47 = true) (h : vc Try.prog 47 s5 (argEnv args 0) w (fun L w => resL L w [.tmp 4] fun vs => oneOr vs fun v => R v w) (fun _ _ _ => False) (fun L w => resL L w [.tmp 4] fun vs => oneOr vs fun v => R v w)) : Cal Try.prog 5 ⟨args⟩ w R := cal_of mo ok5 hle h

-- footbridge/footbridgelaw14.EncodeBytes
def s6 : S := (.seq (.row [⟨(some 2), none, .box 46 (.tmp 0)⟩,
   ⟨(some 4), none, .mv (.const (.bool false))⟩])
 (.prune [1, 2] (.seq (.seq (.row [⟨(some 10), none, .ldn 3 (.tmp 2)⟩,
   ⟨(some 11), none, .call 35 [(.tmp 10)]⟩,
   ⟨(some 12), none, .mv (.tmp 11)⟩,
   ⟨(some 13), (some (12, false)), .mv (.tmp 1)⟩,
   ⟨(some 14), (some (12, false)), .lenA (.tmp 13)⟩,
   ⟨(some 15), (some (12, false)), .ibin .gtr .i64 (.tmp 14) (.const (.int .i64 500))⟩,
   ⟨(some 16), none, .pick (.tmp 12) (.const (.bool true)) (.tmp 15)⟩,
   ⟨(some 17), none, .mv (.tmp 16)⟩,
   ⟨(some 18), (some (17, false)), .ldn 3 (.tmp 2)⟩,
   ⟨(some 19), (some (17, false)), .call 22 [(.tmp 18)]⟩,
   ⟨(some 20), (some (17, false)), .notB (.tmp 19)⟩,
   ⟨(some 21), none, .pick (.tmp 17) (.const (.bool true)) (.tmp 20)⟩])
 (.prune [21, 1, 2] (.cond (.tmp 21)
  (.seq (.row [⟨(some 22), none, .call 31 []⟩,
    ⟨(some 4), none, .mv (.tmp 22)⟩])
  (.prune [4] .ret))
  .skip)))
 (.prune [2, 1] (.seq (.row [⟨(some 24), none, .ldn 3 (.tmp 2)⟩,
   ⟨(some 25), none, .call 32 [(.tmp 24)]⟩,
   ⟨(some 23), none, .mv (.tmp 25)⟩,
   ⟨(some 26), none, .ext (.tmp 23) 0⟩,
   ⟨(some 27), none, .ext (.tmp 23) 1⟩,
   ⟨(some 5), none, .mv (.tmp 26)⟩,
   ⟨(some 6), none, .mv (.tmp 27)⟩])
 (.prune [5, 2, 1] (.seq (.row [⟨(some 28), none, .mv (.tmp 5)⟩,
   ⟨(some 29), none, .mv (.tmp 1)⟩,
   ⟨(some 30), none, .call 33 [(.tmp 28), (.tmp 29)]⟩,
   ⟨(some 7), none, .mv (.tmp 30)⟩])
 (.prune [2, 7, 1] (.seq (.row [⟨(some 32), none, .ldn 3 (.tmp 2)⟩,
   ⟨(some 33), none, .mv (.tmp 7)⟩,
   ⟨(some 34), none, .call 36 [(.tmp 32), (.tmp 33)]⟩,
   ⟨(some 31), none, .mv (.tmp 34)⟩,
   ⟨(some 35), none, .ext (.tmp 31) 0⟩,
   ⟨(some 36), none, .ext (.tmp 31) 1⟩,
   ⟨(some 8), none, .mv (.tmp 35)⟩,
   ⟨(some 9), none, .mv (.tmp 36)⟩])
 (.prune [9, 8, 7, 1] (.seq (.row [⟨(some 37), none, .call 31 []⟩,
   ⟨(some 38), none, .mv (.tmp 37)⟩,
   ⟨(some 39), (some (38, true)), .mv (.tmp 9)⟩,
   ⟨(some 40), none, .pick (.tmp 38) (.tmp 39) (.const (.bool false))⟩,
   ⟨(some 41), none, .mv (.tmp 40)⟩,
   ⟨(some 42), (some (41, true)), .mv (.tmp 8)⟩,
   ⟨(some 43), (some (41, true)), .mv (.tmp 1)⟩,
   ⟨(some 44), (some (41, true)), .get (.conv 64 9) [(.tmp 43)]⟩,
   ⟨(some 45), (some (41, true)), .sbin .eql (.tmp 42) (.tmp 44)⟩,
   ⟨(some 46), none, .pick (.tmp 41) (.tmp 45) (.const (.bool false))⟩,
   ⟨(some 47), none, .mv (.tmp 46)⟩,
   ⟨(some 48), (some (47, true)), .mv (.tmp 7)⟩,
   ⟨(some 49), (some (47, true)), .lenA (.tmp 48)⟩,
   ⟨(some 50), (some (47, true)), .mv (.tmp 1)⟩,
   ⟨(some 51), (some (47, true)), .lenA (.tmp 50)⟩,
   ⟨(some 52), (some (47, true)), .ibin .leq .i64 (.tmp 49) (.tmp 51)⟩,
   ⟨(some 53), none, .pick (.tmp 47) (.tmp 52) (.const (.bool false))⟩,
   ⟨(some 4), none, .mv (.tmp 53)⟩])
 (.prune [4] .ret))))))))))))
theorem ok6 : fits Try.prog 6 ⟨s6, 54, [.tmp 4]⟩ = some ⟨s6, 54, [.tmp 4]⟩ := by kernel_rfl
theorem go6 {args : List Value} {w : World} {R : Value → World → Prop} (hle : Nat.ble args.length 54 = true) (h : vc Try.prog 54 s6 (argEnv args 0) w (fun L w => resL L w [.tmp 4] fun vs => oneOr vs fun v => R v w) (fun _ _ _ => False) (fun L w => resL L w [.tmp 4] fun vs => oneOr vs fun v => R v w)) : Cal Try.prog 6 ⟨args⟩ w R := cal_of mo ok6 hle h

-- footbridge/footbridgelaw14.EncodeCuts
def s7 : S := (.seq (.row [⟨(some 3), none, .box 46 (.tmp 0)⟩,
   ⟨(some 6), none, .mv (.const (.bool false))⟩])
 (.prune [1, 3, 2] (.seq (.seq (.row [⟨(some 15), none, .ldn 3 (.tmp 3)⟩,
   ⟨(some 16), none, .call 35 [(.tmp 15)]⟩,
   ⟨(some 17), none, .mv (.tmp 16)⟩,
   ⟨(some 18), (some (17, false)), .mv (.tmp 1)⟩,
   ⟨(some 19), (some (17, false)), .lenA (.tmp 18)⟩,
   ⟨(some 20), (some (17, false)), .ibin .gtr .i64 (.tmp 19) (.const (.int .i64 200))⟩,
   ⟨(some 21), none, .pick (.tmp 17) (.const (.bool true)) (.tmp 20)⟩,
   ⟨(some 22), none, .mv (.tmp 21)⟩,
   ⟨(some 23), (some (22, false)), .ldn 3 (.tmp 3)⟩,
   ⟨(some 24), (some (22, false)), .call 22 [(.tmp 23)]⟩,
   ⟨(some 25), (some (22, false)), .notB (.tmp 24)⟩,
   ⟨(some 26), none, .pick (.tmp 22) (.const (.bool true)) (.tmp 25)⟩])
 (.prune [26, 1, 3, 2] (.cond (.tmp 26)
  (.seq (.row [⟨(some 27), none, .call 31 []⟩,
    ⟨(some 6), none, .mv (.tmp 27)⟩])
  (.prune [6] .ret))
  .skip)))
 (.prune [2, 3, 1] (.seq (.row [⟨(some 29), none, .ldn 3 (.tmp 3)⟩,
   ⟨(some 30), none, .call 32 [(.tmp 29)]⟩,
   ⟨(some 28), none, .mv (.tmp 30)⟩,
   ⟨(some 31), none, .ext (.tmp 28) 0⟩,
   ⟨(some 32), none, .ext (.tmp 28) 1⟩,
   ⟨(some 7), none, .mv (.tmp 31)⟩,
   ⟨(some 8), none, .mv (.tmp 32)⟩])
 (.prune [2, 3, 7, 1] (.seq (.row [⟨(some 33), none, .mv (.tmp 7)⟩,
   ⟨(some 34), none, .mv (.tmp 1)⟩,
   ⟨(some 35), none, .call 33 [(.tmp 33), (.tmp 34)]⟩,
   ⟨(some 9), none, .mv (.tmp 35)⟩])
 (.prune [2, 9, 3, 7, 1] (.seq (.row [⟨(some 36), none, .mv (.tmp 2)⟩,
   ⟨(some 37), none, .conv .i64 (.tmp 36)⟩,
   ⟨(some 38), none, .mv (.tmp 9)⟩,
   ⟨(some 39), none, .lenA (.tmp 38)⟩,
   ⟨(some 40), none, .ibin .add .i64 (.tmp 39) (.const (.int .i64 1))⟩,
   ⟨(some 41), none, .ibin .rem .i64 (.tmp 37) (.tmp 40)⟩,
   ⟨(some 10), none, .mv (.tmp 41)⟩])
 (.prune [9, 3, 7, 10, 1] (.seq (.draw (.take 0 ⟨(some 43), none, .ldn 3 (.tmp 3)⟩ (.take 1 ⟨(some 44), none, .mv (.tmp 9)⟩ (.take 2 ⟨(some 45), none, .mv (.tmp 10)⟩ (.take 3 ⟨(some 46), none, .slc 1 (.tmp 44) none (some (.tmp 45))⟩ (.step 4 false ⟨(some 47), none, .call 36 [(.tmp 43), (.tmp 46)]⟩ (.take 5 ⟨(some 42), none, .mv (.tmp 47)⟩ (.take 6 ⟨(some 48), none, .ext (.tmp 42) 0⟩ (.take 7 ⟨(some 49), none, .ext (.tmp 42) 1⟩ (.take 8 ⟨(some 11), none, .mv (.tmp 48)⟩ (.take 9 ⟨(some 12), none, .mv (.tmp 49)⟩ .done)))))))))))
 (.prune [12, 9, 3, 7, 10, 11, 1] (.seq (.seq (.row [⟨(some 50), none, .mv (.tmp 12)⟩,
   ⟨(some 51), none, .notB (.tmp 50)⟩,
   ⟨(some 52), none, .mv (.tmp 51)⟩,
   ⟨(some 53), (some (52, false)), .mv (.tmp 11)⟩,
   ⟨(some 54), (some (52, false)), .lenS (.tmp 53)⟩,
   ⟨(some 55), (some (52, false)), .mv (.tmp 1)⟩,
   ⟨(some 56), (some (52, false)), .lenA (.tmp 55)⟩,
   ⟨(some 57), (some (52, false)), .ibin .gtr .i64 (.tmp 54) (.tmp 56)⟩,
   ⟨(some 58), none, .pick (.tmp 52) (.const (.bool true)) (.tmp 57)⟩])
 (.prune [58, 9, 3, 7, 10, 11, 1] (.cond (.tmp 58)
  (.seq (.row [⟨(some 6), none, .mv (.const (.bool false))⟩])
  (.prune [6] .ret))
  .skip)))
 (.prune [1, 11, 10, 7, 3, 9] (.seq (.seq (.draw (.take 0 ⟨(some 59), none, .mv (.tmp 7)⟩ (.take 1 ⟨(some 60), none, .mv (.tmp 1)⟩ (.take 2 ⟨(some 61), none, .mv (.tmp 11)⟩ (.take 3 ⟨(some 62), none, .lenS (.tmp 61)⟩ (.take 4 ⟨(some 63), none, .slc 1 (.tmp 60) none (some (.tmp 62))⟩ (.take 6 ⟨(some 65), none, .mv (.tmp 9)⟩ (.take 7 ⟨(some 66), none, .mv (.tmp 10)⟩ (.take 8 ⟨(some 67), none, .slc 1 (.tmp 65) none (some (.tmp 66))⟩ (.step 5 false ⟨(some 64), none, .call 33 [(.tmp 59), (.tmp 63)]⟩ (.step 9 false ⟨(some 68), none, .call 29 [(.tmp 64), (.tmp 67)]⟩ (.take 10 ⟨(some 69), none, .notB (.tmp 68)⟩ (.take 11 ⟨(some 70), none, .mv (.tmp 69)⟩ (.take 12 ⟨(some 71), (some (70, false)), .mv (.tmp 7)⟩ (.take 13 ⟨(some 72), (some (70, false)), .mv (.tmp 1)⟩ (.take 14 ⟨(some 73), (some (70, false)), .mv (.tmp 11)⟩ (.take 15 ⟨(some 74), (some (70, false)), .lenS (.tmp 73)⟩ (.take 16 ⟨(some 75), (some (70, false)), .slc 1 (.tmp 72) (some (.tmp 74)) none⟩ (.take 18 ⟨(some 77), (some (70, false)), .mv (.tmp 9)⟩ (.take 19 ⟨(some 78), (some (70, false)), .mv (.tmp 10)⟩ (.take 20 ⟨(some 79), (some (70, false)), .slc 1 (.tmp 77) (some (.tmp 78)) none⟩ (.step 17 false ⟨(some 76), (some (70, false)), .call 33 [(.tmp 71), (.tmp 75)]⟩ (.step 21 false ⟨(some 80), (some (70, false)), .call 29 [(.tmp 76), (.tmp 79)]⟩ (.take 22 ⟨(some 81), (some (70, false)), .notB (.tmp 80)⟩ (.take 23 ⟨(some 82), none, .pick (.tmp 70) (.const (.bool true)) (.tmp 81)⟩ .done)))))))))))))))))))))))))
 (.prune [82, 7, 3, 9] (.cond (.tmp 82)
  (.seq (.row [⟨(some 6), none, .mv (.const (.bool false))⟩])
  (.prune [6] .ret))
  .skip)))
 (.prune [9, 3, 7] (.seq (.seq (.row [⟨(some 83), none, .mv (.tmp 9)⟩,
   ⟨(some 84), none, .lenA (.tmp 83)⟩,
   ⟨(some 85), none, .mv (.const (.int .i64 0))⟩])
 (.prune [85, 3, 7, 83, 84] (.block 0 (.loop [85] [6, 14, 85, 86, 87, 88, 89, 90, 91, 92, 93, 94, 95, 96, 97, 98, 99, 100, 101, 102, 103, 104, 105, 106, 107, 108, 109, 110, 111, 112] (.seq (.row [⟨(some 86), none, .ibin .lss .i64 (.tmp 85) (.tmp 84)⟩])
  (.prune [86, 84, 83, 7, 3, 85] (.seq (.cond (.tmp 86)
   .skip
   (.exit 0))
  (.prune [84, 83, 7, 3, 85] (.seq (.block 1 (.seq (.row [⟨(some 87), none, .ixA 1 (.tmp 83) (.tmp 85)⟩,
    ⟨(some 88), none, .ld (.tmp 87)⟩,
    ⟨(some 14), none, .mv (.tmp 88)⟩])
  (.prune [14, 84, 83, 7, 3, 85] (.seq (.row [⟨(some 89), none, .mv (.tmp 14)⟩,
    ⟨(some 90), none, .ibin .lss .i64 (.tmp 89) (.const (.int .i64 0))⟩,
    ⟨(some 91), none, .mv (.tmp 90)⟩,
    ⟨(some 92), (some (91, false)), .mv (.tmp 14)⟩,
    ⟨(some 93), (some (91, false)), .fad 0 (.tmp 3)⟩,
    ⟨(some 94), (some (91, false)), .ld (.tmp 93)⟩,
    ⟨(some 95), (some (91, false)), .lenA (.tmp 94)⟩,
    ⟨(some 96), (some (91, false)), .ibin .geq .i64 (.tmp 92) (.tmp 95)⟩,
    ⟨(some 97), none, .pick (.tmp 91) (.const (.bool true)) (.tmp 96)⟩,
    ⟨(some 98), none, .mv (.tmp 97)⟩,
    ⟨(some 99), (some (98, false)), .mv (.tmp 7)⟩,
    ⟨(some 100), (some (98, false)), .fad 0 (.tmp 3)⟩,
    ⟨(some 101), (some (98, false)), .ld (.tmp 100)⟩,
    ⟨(some 102), (some (98, false)), .mv (.tmp 14)⟩,
    ⟨(some 103), (some (98, false)), .ixA 1 (.tmp 101) (.tmp 102)⟩,
    ⟨(some 104), (some (98, false)), .ld (.tmp 103)⟩,
    ⟨(some 105), (some (98, false)), .run (.conv 9 64) [(.tmp 104)]⟩,
    ⟨(some 106), (some (98, false)), .call 33 [(.tmp 99), (.tmp 105)]⟩,
    ⟨(some 107), (some (98, false)), .mv (.tmp 14)⟩,
    ⟨(some 108), (some (98, false)), .bsl 3 1 [(.int .i64 0)] [(0, 1)] [(.tmp 107)]⟩,
    ⟨(some 109), (some (98, false)), .call 29 [(.tmp 106), (.tmp 108)]⟩,
    ⟨(some 110), (some (98, false)), .notB (.tmp 109)⟩,
    ⟨(some 111), none, .pick (.tmp 98) (.const (.bool true)) (.tmp 110)⟩])
  (.prune [111, 84, 83, 7, 3, 85] (.cond (.tmp 111)
   (.seq (.row [⟨(some 6), none, .mv (.const (.bool false))⟩])
   (.prune [6] .ret))
   .skip))))))
  (.prune [85, 3, 7, 83, 84] (.row [⟨(some 112), none, .ibin .add .i64 (.tmp 85) (.const (.int .i64 1))⟩,
    ⟨(some 85), none, .mv (.tmp 112)⟩])))))))))))
 (.prune [] (.seq (.row [⟨(some 113), none, .call 31 []⟩,
   ⟨(some 6), none, .mv (.tmp 113)⟩])
 (.prune [6] .ret))))))))))))))))))))
theorem ok7 : fits Try.prog 7 ⟨s7, 114, [.tmp 6]⟩ = some ⟨s7, 114, [.tmp 6]⟩ := by kernel_rfl
theorem go7 {args : List Value} {w : World} {R : Value → World → Prop} (hle : Nat.ble args.length 114 = true) (h : vc Try.prog 114 s7 (argEnv args 0) w (fun L w => resL L w [.tmp 6] fun vs => oneOr vs fun v => R v w) (fun _ _ _ => False) (fun L w => resL L w [.tmp 6] fun vs => oneOr vs fun v => R v w)) : Cal Try.prog 7 ⟨args⟩ w R := cal_of mo ok7 hle h

-- footbridge/footbridgelaw14.EncodeDead
def s8 : S := (.seq (.row [⟨(some 2), none, .box 46 (.tmp 0)⟩,
   ⟨(some 4), none, .mv (.const (.bool false))⟩])
 (.prune [2, 1] (.seq (.seq (.row [⟨(some 15), none, .ldn 3 (.tmp 2)⟩,
   ⟨(some 16), none, .call 35 [(.tmp 15)]⟩,
   ⟨(some 17), none, .mv (.tmp 16)⟩,
   ⟨(some 18), (some (17, false)), .mv (.tmp 1)⟩,
   ⟨(some 19), (some (17, false)), .lenA (.tmp 18)⟩,
   ⟨(some 20), (some (17, false)), .ibin .gtr .i64 (.tmp 19) (.const (.int .i64 40))⟩,
   ⟨(some 21), none, .pick (.tmp 17) (.const (.bool true)) (.tmp 20)⟩,
   ⟨(some 22), none, .mv (.tmp 21)⟩,
   ⟨(some 23), (some (22, false)), .ldn 3 (.tmp 2)⟩,
   ⟨(some 24), (some (22, false)), .call 22 [(.tmp 23)]⟩,
   ⟨(some 25), (some (22, false)), .notB (.tmp 24)⟩,
   ⟨(some 26), none, .pick (.tmp 22) (.const (.bool true)) (.tmp 25)⟩])
 (.prune [26, 2, 1] (.cond (.tmp 26)
  (.seq (.row [⟨(some 27), none, .call 31 []⟩,
    ⟨(some 4), none, .mv (.tmp 27)⟩])
  (.prune [4] .ret))
  .skip)))
 (.prune [1, 2] (.seq (.row [⟨(some 5), none, .mv (.const (.int .i64 0))⟩])
 (.prune [5, 1, 2] (.seq (.seq (.row [⟨(some 28), none, .fad 0 (.tmp 2)⟩,
   ⟨(some 29), none, .ld (.tmp 28)⟩,
   ⟨(some 30), none, .lenA (.tmp 29)⟩,
   ⟨(some 31), none, .mv (.const (.int .i64 0))⟩])
 (.prune [31, 5, 29, 1, 2, 30] (.block 0 (.loop [5, 31] [5, 7, 31, 32, 33, 34, 35, 36, 37, 38, 39, 40, 41, 42] (.seq (.row [⟨(some 32), none, .ibin .lss .i64 (.tmp 31) (.tmp 30)⟩])
  (.prune [32, 5, 31, 29, 1, 2, 30] (.seq (.cond (.tmp 32)
   .skip
   (.exit 0))
  (.prune [5, 31, 29, 1, 2, 30] (.seq (.block 1 (.seq (.row [⟨(some 33), none, .ixA 1 (.tmp 29) (.tmp 31)⟩,
    ⟨(some 34), none, .ld (.tmp 33)⟩,
    ⟨(some 7), none, .mv (.tmp 34)⟩])
  (.prune [5, 7, 31, 29, 1, 2, 30] (.seq (.row [⟨(some 35), none, .mv (.tmp 7)⟩,
    ⟨(some 36), none, .lenS (.tmp 35)⟩,
    ⟨(some 37), none, .ibin .gtr .i64 (.tmp 36) (.const (.int .i64 1))⟩])
  (.prune [37, 5, 7, 31, 29, 1, 2, 30] (.cond (.tmp 37)
   (.row [⟨(some 38), none, .mv (.tmp 5)⟩,
     ⟨(some 39), none, .mv (.tmp 7)⟩,
     ⟨(some 40), none, .lenS (.tmp 39)⟩,
     ⟨(some 41), none, .ibin .add .i64 (.tmp 38) (.tmp 40)⟩,
     ⟨(some 5), none, .mv (.tmp 41)⟩])
   .skip))))))
  (.prune [31, 5, 29, 1, 2, 30] (.row [⟨(some 42), none, .ibin .add .i64 (.tmp 31) (.const (.int .i64 1))⟩,
    ⟨(some 31), none, .mv (.tmp 42)⟩])))))))))))
 (.prune [5, 1, 2] (.seq (.seq (.row [⟨(some 43), none, .mv (.tmp 5)⟩,
   ⟨(some 44), none, .ibin .gtr .i64 (.tmp 43) (.const (.int .i64 400))⟩])
 (.prune [44, 1, 2] (.cond (.tmp 44)
  (.seq (.row [⟨(some 45), none, .call 31 []⟩,
    ⟨(some 4), none, .mv (.tmp 45)⟩])
  (.prune [4] .ret))
  .skip)))
 (.prune [2, 1] (.seq (.row [⟨(some 47), none, .ldn 3 (.tmp 2)⟩,
   ⟨(some 48), none, .call 32 [(.tmp 47)]⟩,
   ⟨(some 46), none, .mv (.tmp 48)⟩,
   ⟨(some 49), none, .ext (.tmp 46) 0⟩,
   ⟨(some 50), none, .ext (.tmp 46) 1⟩,
   ⟨(some 8), none, .mv (.tmp 49)⟩,
   ⟨(some 9), none, .mv (.tmp 50)⟩])
 (.prune [2, 1, 8] (.seq (.row [⟨(some 51), none, .mv (.tmp 8)⟩,
   ⟨(some 52), none, .call 37 [(.tmp 51)]⟩,
   ⟨(some 10), none, .mv (.tmp 52)⟩])
 (.prune [2, 10, 1, 8] (.seq (.seq (.row [⟨(some 53), none, .mv (.tmp 10)⟩,
   ⟨(some 54), none, .ldn 3 (.tmp 2)⟩,
   ⟨(some 55), none, .call 38 [(.tmp 54)]⟩,
   ⟨(some 56), none, .call 29 [(.tmp 53), (.tmp 55)]⟩,
   ⟨(some 57), none, .notB (.tmp 56)⟩])
 (.prune [57, 10, 1, 8] (.cond (.tmp 57)
  (.seq (.row [⟨(some 4), none, .mv (.const (.bool false))⟩])
  (.prune [4] .ret))
  .skip)))
 (.prune [8, 1, 10] (.seq (.seq (.row [⟨(some 58), none, .mv (.tmp 8)⟩,
   ⟨(some 59), none, .mv (.tmp 1)⟩,
   ⟨(some 60), none, .call 33 [(.tmp 58), (.tmp 59)]⟩,
   ⟨(some 61), none, .lenA (.tmp 60)⟩,
   ⟨(some 62), none, .mv (.const (.int .i64 0))⟩])
 (.prune [62, 10, 60, 61] (.block 2 (.loop [62] [4, 12, 14, 62, 63, 64, 65, 66, 67, 68, 69, 70, 71, 72, 73, 74, 75, 76] (.seq (.row [⟨(some 63), none, .ibin .lss .i64 (.tmp 62) (.tmp 61)⟩])
  (.prune [63, 62, 10, 60, 61] (.seq (.cond (.tmp 63)
   .skip
   (.exit 2))
  (.prune [62, 10, 60, 61] (.seq (.block 3 (.seq (.row [⟨(some 64), none, .ixA 1 (.tmp 60) (.tmp 62)⟩,
    ⟨(some 65), none, .ld (.tmp 64)⟩,
    ⟨(some 12), none, .mv (.tmp 65)⟩])
  (.prune [12, 62, 10, 60, 61] (.seq (.row [⟨(some 66), none, .mv (.tmp 10)⟩,
    ⟨(some 67), none, .lenA (.tmp 66)⟩,
    ⟨(some 68), none, .mv (.const (.int .i64 0))⟩])
  (.prune [68, 12, 66, 62, 10, 60, 61, 67] (.block 4 (.loop [68] [4, 14, 68, 69, 70, 71, 72, 73, 74, 75] (.seq (.row [⟨(some 69), none, .ibin .lss .i64 (.tmp 68) (.tmp 67)⟩])
   (.prune [69, 67, 61, 60, 10, 62, 66, 12, 68] (.seq (.cond (.tmp 69)
    .skip
    (.exit 4))
   (.prune [67, 61, 60, 10, 62, 66, 12, 68] (.seq (.block 5 (.seq (.row [⟨(some 70), none, .ixA 1 (.tmp 66) (.tmp 68)⟩,
     ⟨(some 71), none, .ld (.tmp 70)⟩,
     ⟨(some 14), none, .mv (.tmp 71)⟩])
   (.prune [14, 67, 61, 60, 10, 62, 66, 12, 68] (.seq (.row [⟨(some 72), none, .mv (.tmp 12)⟩,
     ⟨(some 73), none, .mv (.tmp 14)⟩,
     ⟨(some 74), none, .ibin .eql .i64 (.tmp 72) (.tmp 73)⟩])
   (.prune [74, 67, 61, 60, 10, 62, 66, 12, 68] (.cond (.tmp 74)
    (.seq (.row [⟨(some 4), none, .mv (.const (.bool false))⟩])
    (.prune [4] .ret))
    .skip))))))
   (.prune [68, 12, 66, 62, 10, 60, 61, 67] (.row [⟨(some 75), none, .ibin .add .i64 (.tmp 68) (.const (.int .i64 1))⟩,
     ⟨(some 68), none, .mv (.tmp 75)⟩]))))))))))))))
  (.prune [62, 10, 60, 61] (.row [⟨(some 76), none, .ibin .add .i64 (.tmp 62) (.const (.int .i64 1))⟩,
    ⟨(some 62), none, .mv (.tmp 76)⟩])))))))))))
 (.prune [] (.seq (.row [⟨(some 77), none, .call 31 []⟩,
   ⟨(some 4), none, .mv (.tmp 77)⟩])
 (.prune [4] .ret))))))))))))))))))))
theorem ok8 : fits Try.prog 8 ⟨s8, 78, [.tmp 4]⟩ = some ⟨s8, 78, [.tmp 4]⟩ := by kernel_rfl
theorem go8 {args : List Value} {w : World} {R : Value → World → Prop} (hle : Nat.ble args.length 78 = true) (h : vc Try.prog 78 s8 (argEnv args 0) w (fun L w => resL L w [.tmp 4] fun vs => oneOr vs fun v => R v w) (fun _ _ _ => False) (fun L w => resL L w [.tmp 4] fun vs => oneOr vs fun v => R v w)) : Cal Try.prog 8 ⟨args⟩ w R := cal_of mo ok8 hle h

-- footbridge/footbridgelaw14.EncodeSame
def s9 : S := (.seq (.row [⟨(some 3), none, .box 46 (.tmp 0)⟩,
   ⟨(some 6), none, .mv (.const (.bool false))⟩])
 (.prune [1, 3, 2] (.seq (.seq (.row [⟨(some 18), none, .ldn 3 (.tmp 3)⟩,
   ⟨(some 19), none, .call 35 [(.tmp 18)]⟩,
   ⟨(some 20), none, .mv (.tmp 19)⟩,
   ⟨(some 21), (some (20, false)), .mv (.tmp 1)⟩,
   ⟨(some 22), (some (20, false)), .lenA (.tmp 21)⟩,
   ⟨(some 23), (some (20, false)), .ibin .gtr .i64 (.tmp 22) (.const (.int .i64 100))⟩,
   ⟨(some 24), none, .pick (.tmp 20) (.const (.bool true)) (.tmp 23)⟩,
   ⟨(some 25), none, .mv (.tmp 24)⟩,
   ⟨(some 26), (some (25, false)), .ldn 3 (.tmp 3)⟩,
   ⟨(some 27), (some (25, false)), .call 22 [(.tmp 26)]⟩,
   ⟨(some 28), (some (25, false)), .notB (.tmp 27)⟩,
   ⟨(some 29), none, .pick (.tmp 25) (.const (.bool true)) (.tmp 28)⟩])
 (.prune [29, 1, 3, 2] (.cond (.tmp 29)
  (.seq (.row [⟨(some 30), none, .call 31 []⟩,
    ⟨(some 6), none, .mv (.tmp 30)⟩])
  (.prune [6] .ret))
  .skip)))
 (.prune [2, 3, 1] (.seq (.row [⟨(some 31), none, .mv (.tmp 2)⟩,
   ⟨(some 32), none, .conv .i64 (.tmp 31)⟩,
   ⟨(some 33), none, .ibin .rem .i64 (.tmp 32) (.const (.int .i64 100))⟩,
   ⟨(some 7), none, .mv (.tmp 33)⟩])
 (.prune [7, 3, 1] (.seq (.row [⟨(some 34), none, .mv (.tmp 7)⟩,
   ⟨(some 35), none, .run (.makeSlice 42) [(.tmp 34), (.tmp 34)]⟩,
   ⟨(some 36), none, .bld [(.slice none 0 0), (.slice none 0 0), (.slice none 0 0)] [(0, 1)] [(.tmp 35)]⟩,
   ⟨(some 8), none, .new [(.slice none 0 0), (.slice none 0 0), (.slice none 0 0)] 46⟩,
   ⟨none, none, .stn 3 (.tmp 8) (.tmp 36)⟩])
 (.prune [8, 7, 3, 1] (.seq (.row [⟨(some 37), none, .fad 0 (.tmp 8)⟩,
   ⟨(some 38), none, .ld (.tmp 37)⟩,
   ⟨(some 39), none, .fad 0 (.tmp 3)⟩,
   ⟨(some 40), none, .ld (.tmp 39)⟩,
   ⟨(some 41), none, .run (.bi .append ⟨[42, 42]⟩ 42) [(.tmp 38), (.tmp 40)]⟩,
   ⟨(some 42), none, .fad 0 (.tmp 8)⟩,
   ⟨none, none, .st (.tmp 42) (.tmp 41)⟩])
 (.prune [8, 7, 3, 1] (.seq (.seq (.row [⟨(some 43), none, .fad 1 (.tmp 3)⟩,
   ⟨(some 44), none, .ld (.tmp 43)⟩,
   ⟨(some 45), none, .lenA (.tmp 44)⟩,
   ⟨(some 46), none, .mv (.const (.int .i64 0))⟩])
 (.prune [46, 8, 7, 44, 3, 1, 45] (.block 0 (.loop [46] [10, 46, 47, 48, 49, 50, 51, 52, 53, 54, 55, 56, 57, 58, 59, 60, 61, 62, 63, 64, 65, 66, 67, 68, 69, 70] (.seq (.row [⟨(some 47), none, .ibin .lss .i64 (.tmp 46) (.tmp 45)⟩])
  (.prune [47, 46, 8, 7, 44, 3, 1, 45] (.seq (.cond (.tmp 47)
   .skip
   (.exit 0))
  (.prune [46, 8, 7, 44, 3, 1, 45] (.seq (.block 1 (.seq (.row [⟨(some 48), none, .ixA 4 (.tmp 44) (.tmp 46)⟩,
    ⟨(some 49), none, .ldn 4 (.tmp 48)⟩,
    ⟨(some 10), none, .new [(.int .i64 0), (.int .i64 0), (.int .i64 0), (.int .i64 0)] 55⟩,
    ⟨none, none, .stn 4 (.tmp 10) (.tmp 49)⟩])
  (.prune [10, 46, 8, 7, 44, 3, 1, 45] (.row [⟨(some 50), none, .fad 1 (.tmp 8)⟩,
    ⟨(some 51), none, .ld (.tmp 50)⟩,
    ⟨(some 52), none, .fad 0 (.tmp 10)⟩,
    ⟨(some 53), none, .ld (.tmp 52)⟩,
    ⟨(some 54), none, .mv (.tmp 7)⟩,
    ⟨(some 55), none, .ibin .add .i64 (.tmp 53) (.tmp 54)⟩,
    ⟨(some 56), none, .fad 1 (.tmp 10)⟩,
    ⟨(some 57), none, .ld (.tmp 56)⟩,
    ⟨(some 58), none, .mv (.tmp 7)⟩,
    ⟨(some 59), none, .ibin .add .i64 (.tmp 57) (.tmp 58)⟩,
    ⟨(some 60), none, .fad 2 (.tmp 10)⟩,
    ⟨(some 61), none, .ld (.tmp 60)⟩,
    ⟨(some 62), none, .mv (.tmp 7)⟩,
    ⟨(some 63), none, .ibin .add .i64 (.tmp 61) (.tmp 62)⟩,
    ⟨(some 64), none, .fad 3 (.tmp 10)⟩,
    ⟨(some 65), none, .ld (.tmp 64)⟩,
    ⟨(some 66), none, .bld [(.int .i64 0), (.int .i64 0), (.int .i64 0), (.int .i64 0)] [(0, 1), (1, 1), (2, 1), (3, 1)] [(.tmp 55), (.tmp 59), (.tmp 63), (.tmp 65)]⟩,
    ⟨(some 67), none, .bsl 55 1 [(.int .i64 0), (.int .i64 0), (.int .i64 0), (.int .i64 0)] [(0, 4)] [(.tmp 66)]⟩,
    ⟨(some 68), none, .run (.bi .append ⟨[43, 43]⟩ 43) [(.tmp 51), (.tmp 67)]⟩,
    ⟨(some 69), none, .fad 1 (.tmp 8)⟩,
    ⟨none, none, .st (.tmp 69) (.tmp 68)⟩]))))
  (.prune [46, 8, 7, 44, 3, 1, 45] (.row [⟨(some 70), none, .ibin .add .i64 (.tmp 46) (.const (.int .i64 1))⟩,
    ⟨(some 46), none, .mv (.tmp 70)⟩])))))))))))
 (.prune [3, 8, 7, 1] (.seq (.row [⟨(some 72), none, .ldn 3 (.tmp 3)⟩,
   ⟨(some 73), none, .call 32 [(.tmp 72)]⟩,
   ⟨(some 71), none, .mv (.tmp 73)⟩,
   ⟨(some 74), none, .ext (.tmp 71) 0⟩,
   ⟨(some 75), none, .ext (.tmp 71) 1⟩,
   ⟨(some 11), none, .mv (.tmp 74)⟩,
   ⟨(some 12), none, .mv (.tmp 75)⟩])
 (.prune [8, 12, 7, 1, 11] (.seq (.row [⟨(some 77), none, .ldn 3 (.tmp 8)⟩,
   ⟨(some 78), none, .call 32 [(.tmp 77)]⟩,
   ⟨(some 76), none, .mv (.tmp 78)⟩,
   ⟨(some 79), none, .ext (.tmp 76) 0⟩,
   ⟨(some 80), none, .ext (.tmp 76) 1⟩,
   ⟨(some 13), none, .mv (.tmp 79)⟩,
   ⟨(some 14), none, .mv (.tmp 80)⟩])
 (.prune [12, 14, 7, 1, 13, 11] (.seq (.seq (.row [⟨(some 81), none, .mv (.tmp 12)⟩,
   ⟨(some 82), none, .ibin .neq .i64 (.tmp 81) (.const (.int .i64 0))⟩,
   ⟨(some 83), none, .mv (.tmp 82)⟩,
   ⟨(some 84), (some (83, false)), .mv (.tmp 14)⟩,
   ⟨(some 85), (some (83, false)), .ibin .neq .i64 (.tmp 84) (.const (.int .i64 0))⟩,
   ⟨(some 86), none, .pick (.tmp 83) (.const (.bool true)) (.tmp 85)⟩])
 (.prune [86, 7, 1, 13, 11] (.cond (.tmp 86)
  (.seq (.row [⟨(some 6), none, .mv (.const (.bool false))⟩])
  (.prune [6] .ret))
  .skip)))
 (.prune [11, 13, 1, 7] (.seq (.row [⟨(some 87), none, .mv (.tmp 11)⟩,
   ⟨(some 88), none, .mv (.tmp 1)⟩,
   ⟨(some 89), none, .call 33 [(.tmp 87), (.tmp 88)]⟩,
   ⟨(some 90), none, .mv (.tmp 13)⟩,
   ⟨(some 91), none, .mv (.tmp 1)⟩,
   ⟨(some 92), none, .call 33 [(.tmp 90), (.tmp 91)]⟩,
   ⟨(some 15), none, .mv (.tmp 89)⟩,
   ⟨(some 16), none, .mv (.tmp 92)⟩])
 (.prune [15, 7, 16] (.seq (.seq (.row [⟨(some 93), none, .mv (.tmp 15)⟩,
   ⟨(some 94), none, .lenA (.tmp 93)⟩,
   ⟨(some 95), none, .mv (.tmp 16)⟩,
   ⟨(some 96), none, .lenA (.tmp 95)⟩,
   ⟨(some 97), none, .ibin .neq .i64 (.tmp 94) (.tmp 96)⟩])
 (.prune [97, 15, 7, 16] (.cond (.tmp 97)
  (.seq (.row [⟨(some 6), none, .mv (.const (.bool false))⟩])
  (.prune [6] .ret))
  .skip)))
 (.prune [16, 7, 15] (.seq (.seq (.row [⟨(some 98), none, .mv (.tmp 15)⟩,
   ⟨(some 99), none, .lenA (.tmp 98)⟩,
   ⟨(some 100), none, .mv (.const (.int .i64 0))⟩])
 (.prune [100, 16, 7, 15, 99] (.block 2 (.loop [100] [6, 17, 100, 101, 102, 103, 104, 105, 106, 107, 108, 109, 110, 111, 112, 113, 114] (.seq (.row [⟨(some 101), none, .ibin .lss .i64 (.tmp 100) (.tmp 99)⟩])
  (.prune [101, 99, 15, 7, 16, 100] (.seq (.cond (.tmp 101)
   .skip
   (.exit 2))
  (.prune [99, 15, 7, 16, 100] (.seq (.block 3 (.seq (.row [⟨(some 102), none, .mv (.tmp 100)⟩,
    ⟨(some 17), none, .mv (.tmp 102)⟩])
  (.prune [17, 99, 15, 7, 16, 100] (.seq (.draw (.take 0 ⟨(some 103), none, .mv (.tmp 15)⟩ (.take 1 ⟨(some 104), none, .mv (.tmp 17)⟩ (.take 2 ⟨(some 105), none, .ixA 1 (.tmp 103) (.tmp 104)⟩ (.take 3 ⟨(some 106), none, .ld (.tmp 105)⟩ (.take 4 ⟨(some 107), none, .mv (.tmp 7)⟩ (.take 5 ⟨(some 108), none, .ibin .add .i64 (.tmp 106) (.tmp 107)⟩ (.take 6 ⟨(some 109), none, .mv (.tmp 16)⟩ (.take 7 ⟨(some 110), none, .mv (.tmp 17)⟩ (.take 8 ⟨(some 111), none, .ixA 1 (.tmp 109) (.tmp 110)⟩ (.take 9 ⟨(some 112), none, .ld (.tmp 111)⟩ (.take 10 ⟨(some 113), none, .ibin .neq .i64 (.tmp 108) (.tmp 112)⟩ .done))))))))))))
  (.prune [113, 99, 15, 7, 16, 100] (.cond (.tmp 113)
   (.seq (.row [⟨(some 6), none, .mv (.const (.bool false))⟩])
   (.prune [6] .ret))
   .skip))))))
  (.prune [100, 16, 7, 15, 99] (.row [⟨(some 114), none, .ibin .add .i64 (.tmp 100) (.const (.int .i64 1))⟩,
    ⟨(some 100), none, .mv (.tmp 114)⟩])))))))))))
 (.prune [] (.seq (.row [⟨(some 115), none, .call 31 []⟩,
   ⟨(some 6), none, .mv (.tmp 115)⟩])
 (.prune [6] .ret))))))))))))))))))))))))))
theorem ok9 : fits Try.prog 9 ⟨s9, 116, [.tmp 6]⟩ = some ⟨s9, 116, [.tmp 6]⟩ := by kernel_rfl
theorem go9 {args : List Value} {w : World} {R : Value → World → Prop} (hle : Nat.ble args.length 116 = true) (h : vc Try.prog 116 s9 (argEnv args 0) w (fun L w => resL L w [.tmp 6] fun vs => oneOr vs fun v => R v w) (fun _ _ _ => False) (fun L w => resL L w [.tmp 6] fun vs => oneOr vs fun v => R v w)) : Cal Try.prog 9 ⟨args⟩ w R := cal_of mo ok9 hle h

-- footbridge/footbridgelaw14.EncodePairs
def s10 : S := (.seq (.row [⟨(some 2), none, .box 46 (.tmp 0)⟩,
   ⟨(some 4), none, .mv (.const (.bool false))⟩])
 (.prune [2, 1] (.seq (.seq (.row [⟨(some 11), none, .ldn 3 (.tmp 2)⟩,
   ⟨(some 12), none, .call 35 [(.tmp 11)]⟩,
   ⟨(some 13), none, .mv (.tmp 12)⟩,
   ⟨(some 14), (some (13, false)), .mv (.tmp 1)⟩,
   ⟨(some 15), (some (13, false)), .lenA (.tmp 14)⟩,
   ⟨(some 16), (some (13, false)), .ibin .gtr .i64 (.tmp 15) (.const (.int .i64 200))⟩,
   ⟨(some 17), none, .pick (.tmp 13) (.const (.bool true)) (.tmp 16)⟩,
   ⟨(some 18), none, .mv (.tmp 17)⟩,
   ⟨(some 19), (some (18, false)), .ldn 3 (.tmp 2)⟩,
   ⟨(some 20), (some (18, false)), .call 22 [(.tmp 19)]⟩,
   ⟨(some 21), (some (18, false)), .notB (.tmp 20)⟩,
   ⟨(some 22), none, .pick (.tmp 18) (.const (.bool true)) (.tmp 21)⟩])
 (.prune [22, 2, 1] (.cond (.tmp 22)
  (.seq (.row [⟨(some 23), none, .call 31 []⟩,
    ⟨(some 4), none, .mv (.tmp 23)⟩])
  (.prune [4] .ret))
  .skip)))
 (.prune [1, 2] (.seq (.row [⟨(some 25), none, .ldn 3 (.tmp 2)⟩,
   ⟨(some 26), none, .call 32 [(.tmp 25)]⟩,
   ⟨(some 24), none, .mv (.tmp 26)⟩,
   ⟨(some 27), none, .ext (.tmp 24) 0⟩,
   ⟨(some 28), none, .ext (.tmp 24) 1⟩,
   ⟨(some 5), none, .mv (.tmp 27)⟩,
   ⟨(some 6), none, .mv (.tmp 28)⟩])
 (.prune [1, 2, 5] (.seq (.row [⟨(some 30), none, .ldn 3 (.tmp 2)⟩,
   ⟨(some 31), none, .call 24 [(.tmp 30)]⟩,
   ⟨(some 29), none, .mv (.tmp 31)⟩,
   ⟨(some 32), none, .ext (.tmp 29) 0⟩,
   ⟨(some 33), none, .ext (.tmp 29) 1⟩,
   ⟨(some 7), none, .mv (.tmp 32)⟩,
   ⟨(some 8), none, .mv (.tmp 33)⟩])
 (.prune [1, 2, 5, 7] (.seq (.row [⟨(some 9), none, .mv (.const (.slice none 0 0))⟩])
 (.prune [1, 2, 9, 5, 7] (.seq (.seq (.row [⟨(some 34), none, .mv (.tmp 1)⟩,
   ⟨(some 35), none, .lenA (.tmp 34)⟩,
   ⟨(some 36), none, .mv (.const (.int .i64 0))⟩])
 (.prune [36, 1, 2, 9, 5, 7, 35] (.block 0 (.loop [9, 36] [9, 10, 36, 37, 38, 39, 40, 41, 42, 43, 44, 45, 46, 47, 48, 49, 50, 51] (.seq (.row [⟨(some 37), none, .ibin .lss .i64 (.tmp 36) (.tmp 35)⟩])
  (.prune [37, 9, 36, 1, 2, 5, 7, 35] (.seq (.cond (.tmp 37)
   .skip
   (.exit 0))
  (.prune [9, 36, 1, 2, 5, 7, 35] (.seq (.block 1 (.seq (.row [⟨(some 38), none, .mv (.tmp 36)⟩,
    ⟨(some 10), none, .mv (.tmp 38)⟩])
  (.prune [9, 10, 36, 1, 2, 5, 7, 35] (.draw (.take 0 ⟨(some 39), none, .mv (.tmp 9)⟩ (.take 1 ⟨(some 40), none, .fad 0 (.tmp 2)⟩ (.take 2 ⟨(some 41), none, .ld (.tmp 40)⟩ (.take 3 ⟨(some 42), none, .mv (.tmp 1)⟩ (.take 4 ⟨(some 43), none, .mv (.tmp 10)⟩ (.take 5 ⟨(some 44), none, .mv (.tmp 10)⟩ (.take 6 ⟨(some 45), none, .ibin .add .i64 (.tmp 44) (.const (.int .i64 1))⟩ (.take 7 ⟨(some 46), none, .slc 1 (.tmp 42) (some (.tmp 43)) (some (.tmp 45))⟩ (.take 8 ⟨(some 47), none, .get (.conv 64 9) [(.tmp 46)]⟩ (.step 9 false ⟨(some 48), none, .call 39 [(.tmp 41), (.tmp 47)]⟩ (.step 10 true ⟨(some 49), none, .bsl 3 1 [(.int .i64 0)] [(0, 1)] [(.tmp 48)]⟩ (.step 11 true ⟨(some 50), none, .run (.bi .append ⟨[47, 47]⟩ 47) [(.tmp 39), (.tmp 49)]⟩ (.take 12 ⟨(some 9), none, .mv (.tmp 50)⟩ .done)))))))))))))))))
  (.prune [36, 1, 2, 9, 5, 7, 35] (.row [⟨(some 51), none, .ibin .add .i64 (.tmp 36) (.const (.int .i64 1))⟩,
    ⟨(some 36), none, .mv (.tmp 51)⟩])))))))))))
 (.prune [5, 1, 7, 9] (.seq (.row [⟨(some 52), none, .call 31 []⟩,
   ⟨(some 53), none, .mv (.tmp 52)⟩,
   ⟨(some 54), (some (53, true)), .mv (.tmp 5)⟩,
   ⟨(some 55), (some (53, true)), .mv (.tmp 1)⟩,
   ⟨(some 56), (some (53, true)), .call 33 [(.tmp 54), (.tmp 55)]⟩,
   ⟨(some 57), (some (53, true)), .mv (.tmp 7)⟩,
   ⟨(some 58), (some (53, true)), .mv (.tmp 9)⟩,
   ⟨(some 59), (some (53, true)), .call 40 [(.tmp 57), (.tmp 58)]⟩,
   ⟨(some 60), (some (53, true)), .call 29 [(.tmp 56), (.tmp 59)]⟩,
   ⟨(some 61), none, .pick (.tmp 53) (.tmp 60) (.const (.bool false))⟩,
   ⟨(some 4), none, .mv (.tmp 61)⟩])
 (.prune [4] .ret))))))))))))))
theorem ok10 : fits Try.prog 10 ⟨s10, 62, [.tmp 4]⟩ = some ⟨s10, 62, [.tmp 4]⟩ := by kernel_rfl
theorem go10 {args : List Value} {w : World} {R : Value → World → Prop} (hle : Nat.ble args.length 62 = true) (h : vc Try.prog 62 s10 (argEnv args 0) w (fun L w => resL L w [.tmp 4] fun vs => oneOr vs fun v => R v w) (fun _ _ _ => False) (fun L w => resL L w [.tmp 4] fun vs => oneOr vs fun v => R v w)) : Cal Try.prog 10 ⟨args⟩ w R := cal_of mo ok10 hle h

-- footbridge/footbridgelaw14.great
def s30 : S := (.seq (.row [⟨(some 2), none, .box 46 (.tmp 0)⟩,
   ⟨(some 4), none, .mv (.const (.bool false))⟩])
 (.prune [2, 1] (.seq (.row [⟨(some 5), none, .ldn 3 (.tmp 2)⟩,
   ⟨(some 6), none, .call 35 [(.tmp 5)]⟩,
   ⟨(some 7), none, .mv (.tmp 6)⟩,
   ⟨(some 8), (some (7, false)), .mv (.tmp 1)⟩,
   ⟨(some 9), (some (7, false)), .lenA (.tmp 8)⟩,
   ⟨(some 10), (some (7, false)), .ibin .gtr .i64 (.tmp 9) (.const (.int .i64 60))⟩,
   ⟨(some 11), none, .pick (.tmp 7) (.const (.bool true)) (.tmp 10)⟩,
   ⟨(some 4), none, .mv (.tmp 11)⟩])
 (.prune [4] .ret))))
theorem ok30 : fits Try.prog 30 ⟨s30, 12, [.tmp 4]⟩ = some ⟨s30, 12, [.tmp 4]⟩ := by kernel_rfl
theorem go30 {args : List Value} {w : World} {R : Value → World → Prop} (hle : Nat.ble args.length 12 = true) (h : vc Try.prog 12 s30 (argEnv args 0) w (fun L w => resL L w [.tmp 4] fun vs => oneOr vs fun v => R v w) (fun _ _ _ => False) (fun L w => resL L w [.tmp 4] fun vs => oneOr vs fun v => R v w)) : Cal Try.prog 30 ⟨args⟩ w R := cal_of mo ok30 hle h

-- footbridge/footbridgelaw14.fixed
def s31 : S := (.seq (.row [⟨(some 0), none, .mv (.const (.bool false))⟩])
 (.prune [] (.seq (.row [⟨(some 10), none, .bsl 9 3 [(.string ⟨#[]⟩), (.string ⟨#[]⟩), (.string ⟨#[]⟩)] [(0, 1), (1, 1), (2, 1)] [(.const (.string ⟨#[97, 98]⟩)), (.const (.string ⟨#[98, 99]⟩)), (.const (.string ⟨#[97, 98, 99]⟩))]⟩,
   ⟨(some 11), none, .call 50 [(.tmp 10), (.const (.slice none 0 0))]⟩,
   ⟨(some 9), none, .mv (.tmp 11)⟩,
   ⟨(some 12), none, .ext (.tmp 9) 0⟩,
   ⟨(some 13), none, .ext (.tmp 9) 1⟩,
   ⟨(some 1), none, .new [(.slice none 0 0), (.slice none 0 0), (.slice none 0 0)] 46⟩,
   ⟨none, none, .stn 3 (.tmp 1) (.tmp 12)⟩,
   ⟨(some 2), none, .mv (.tmp 13)⟩])
 (.prune [1, 2] (.seq (.row [⟨(some 15), none, .ldn 3 (.tmp 1)⟩,
   ⟨(some 16), none, .call 32 [(.tmp 15)]⟩,
   ⟨(some 14), none, .mv (.tmp 16)⟩,
   ⟨(some 17), none, .ext (.tmp 14) 0⟩,
   ⟨(some 18), none, .ext (.tmp 14) 1⟩,
   ⟨(some 3), none, .mv (.tmp 17)⟩,
   ⟨(some 4), none, .mv (.tmp 18)⟩])
 (.prune [2, 4, 3] (.seq (.row [⟨(some 20), none, .bsl 9 4 [(.string ⟨#[]⟩), (.string ⟨#[]⟩), (.string ⟨#[]⟩), (.string ⟨#[]⟩)] [(0, 1), (1, 1), (2, 1), (3, 1)] [(.const (.string ⟨#[98, 99]⟩)), (.const (.string ⟨#[97, 98]⟩)), (.const (.string ⟨#[99, 100]⟩)), (.const (.string ⟨#[97, 98, 99, 100]⟩))]⟩,
   ⟨(some 21), none, .call 50 [(.tmp 20), (.const (.slice none 0 0))]⟩,
   ⟨(some 19), none, .mv (.tmp 21)⟩,
   ⟨(some 22), none, .ext (.tmp 19) 0⟩,
   ⟨(some 23), none, .ext (.tmp 19) 1⟩,
   ⟨(some 5), none, .new [(.slice none 0 0), (.slice none 0 0), (.slice none 0 0)] 46⟩,
   ⟨none, none, .stn 3 (.tmp 5) (.tmp 22)⟩,
   ⟨(some 6), none, .mv (.tmp 23)⟩])
 (.prune [5, 2, 6, 4, 3] (.seq (.row [⟨(some 25), none, .ldn 3 (.tmp 5)⟩,
   ⟨(some 26), none, .call 32 [(.tmp 25)]⟩,
   ⟨(some 24), none, .mv (.tmp 26)⟩,
   ⟨(some 27), none, .ext (.tmp 24) 0⟩,
   ⟨(some 28), none, .ext (.tmp 24) 1⟩,
   ⟨(some 7), none, .mv (.tmp 27)⟩,
   ⟨(some 8), none, .mv (.tmp 28)⟩])
 (.prune [2, 6, 4, 8, 3, 7] (.seq (.row [⟨(some 29), none, .mv (.tmp 2)⟩,
   ⟨(some 30), none, .mv (.tmp 29)⟩,
   ⟨(some 31), (some (30, true)), .mv (.tmp 6)⟩,
   ⟨(some 32), none, .pick (.tmp 30) (.tmp 31) (.const (.bool false))⟩,
   ⟨(some 33), none, .mv (.tmp 32)⟩,
   ⟨(some 34), (some (33, true)), .mv (.tmp 4)⟩,
   ⟨(some 35), (some (33, true)), .ibin .eql .i64 (.tmp 34) (.const (.int .i64 0))⟩,
   ⟨(some 36), none, .pick (.tmp 33) (.tmp 35) (.const (.bool false))⟩,
   ⟨(some 37), none, .mv (.tmp 36)⟩,
   ⟨(some 38), (some (37, true)), .mv (.tmp 8)⟩,
   ⟨(some 39), (some (37, true)), .ibin .eql .i64 (.tmp 38) (.const (.int .i64 0))⟩,
   ⟨(some 40), none, .pick (.tmp 37) (.tmp 39) (.const (.bool false))⟩,
   ⟨(some 41), none, .mv (.tmp 40)⟩,
   ⟨(some 42), (some (41, true)), .mv (.tmp 3)⟩,
   ⟨(some 43), (some (41, true)), .bsl 5 3 [(.int .u8 0), (.int .u8 0), (.int .u8 0)] [(0, 1), (1, 1), (2, 1)] [(.const (.int .u8 97)), (.const (.int .u8 98)), (.const (.int .u8 99))]⟩,
   ⟨(some 44), (some (41, true)), .run (.conv 64 64) [(.tmp 43)]⟩,
   ⟨(some 45), (some (41, true)), .call 33 [(.tmp 42), (.tmp 44)]⟩,
   ⟨(some 46), (some (41, true)), .bsl 3 1 [(.int .i64 0)] [(0, 1)] [(.const (.int .i64 258))]⟩,
   ⟨(some 47), (some (41, true)), .call 29 [(.tmp 45), (.tmp 46)]⟩,
   ⟨(some 48), none, .pick (.tmp 41) (.tmp 47) (.const (.bool false))⟩,
   ⟨(some 49), none, .mv (.tmp 48)⟩,
   ⟨(some 50), (some (49, true)), .mv (.tmp 7)⟩,
   ⟨(some 51), (some (49, true)), .bsl 5 4 [(.int .u8 0), (.int .u8 0), (.int .u8 0), (.int .u8 0)] [(0, 1), (1, 1), (2, 1), (3, 1)] [(.const (.int .u8 97)), (.const (.int .u8 98)), (.const (.int .u8 99)), (.const (.int .u8 100))]⟩,
   ⟨(some 52), (some (49, true)), .run (.conv 64 64) [(.tmp 51)]⟩,
   ⟨(some 53), (some (49, true)), .call 33 [(.tmp 50), (.tmp 52)]⟩,
   ⟨(some 54), (some (49, true)), .bsl 3 3 [(.int .i64 0), (.int .i64 0), (.int .i64 0)] [(0, 1), (1, 1), (2, 1)] [(.const (.int .i64 97)), (.const (.int .i64 256)), (.const (.int .i64 100))]⟩,
   ⟨(some 55), (some (49, true)), .call 29 [(.tmp 53), (.tmp 54)]⟩,
   ⟨(some 56), none, .pick (.tmp 49) (.tmp 55) (.const (.bool false))⟩,
   ⟨(some 57), none, .mv (.tmp 56)⟩,
   ⟨(some 58), (some (57, true)), .mv (.tmp 7)⟩,
   ⟨(some 59), (some (57, true)), .call 37 [(.tmp 58)]⟩,
   ⟨(some 60), (some (57, true)), .bsl 3 1 [(.int .i64 0)] [(0, 1)] [(.const (.int .i64 259))]⟩,
   ⟨(some 61), (some (57, true)), .call 29 [(.tmp 59), (.tmp 60)]⟩,
   ⟨(some 62), none, .pick (.tmp 57) (.tmp 61) (.const (.bool false))⟩,
   ⟨(some 0), none, .mv (.tmp 62)⟩])
 (.prune [0] .ret))))))))))))
theorem ok31 : fits Try.prog 31 ⟨s31, 63, [.tmp 0]⟩ = some ⟨s31, 63, [.tmp 0]⟩ := by kernel_rfl
theorem go31 {args : List Value} {w : World} {R : Value → World → Prop} (hle : Nat.ble args.length 63 = true) (h : vc Try.prog 63 s31 (argEnv args 0) w (fun L w => resL L w [.tmp 0] fun vs => oneOr vs fun v => R v w) (fun _ _ _ => False) (fun L w => resL L w [.tmp 0] fun vs => oneOr vs fun v => R v w)) : Cal Try.prog 31 ⟨args⟩ w R := cal_of mo ok31 hle h

-- footbridge/encode.New
def s32 : S := (.seq (.row [⟨(some 1), none, .box 46 (.tmp 0)⟩,
   ⟨(some 2), none, .mv (.const (.pointer none))⟩,
   ⟨(some 3), none, .mv (.const (.int .i64 0))⟩])
 (.prune [1] (.seq (.row [⟨(some 9), none, .ldn 3 (.tmp 1)⟩,
   ⟨(some 10), none, .call 24 [(.tmp 9)]⟩,
   ⟨(some 8), none, .mv (.tmp 10)⟩,
   ⟨(some 11), none, .ext (.tmp 8) 0⟩,
   ⟨(some 12), none, .ext (.tmp 8) 1⟩,
   ⟨(some 4), none, .mv (.tmp 11)⟩,
   ⟨(some 5), none, .mv (.tmp 12)⟩])
 (.prune [1, 4, 5] (.seq (.seq (.row [⟨(some 13), none, .mv (.tmp 5)⟩,
   ⟨(some 14), none, .ibin .neq .i64 (.tmp 13) (.const (.int .i64 0))⟩])
 (.prune [14, 1, 4, 5] (.cond (.tmp 14)
  (.seq (.row [⟨(some 15), none, .mv (.tmp 5)⟩,
    ⟨(some 2), none, .mv (.const (.pointer none))⟩,
    ⟨(some 3), none, .mv (.tmp 15)⟩])
  (.prune [2, 3] .ret))
  .skip)))
 (.prune [4, 1] (.seq (.row [⟨(some 16), none, .fad 0 (.tmp 1)⟩,
   ⟨(some 17), none, .ld (.tmp 16)⟩,
   ⟨(some 18), none, .call 55 [(.tmp 17)]⟩,
   ⟨(some 19), none, .mv (.tmp 4)⟩,
   ⟨(some 20), none, .bld [(.slice none 0 0), (.pointer none), (.int .i64 0), (.int .i64 0), (.int .i64 0), (.int .i64 0), (.int .i64 0), (.int .i64 0), (.int .i64 0), (.int .i64 0), (.int .i64 0), (.int .i64 0), (.int .i64 0), (.int .i64 0), (.int .i64 0), (.int .i64 0), (.int .i64 0), (.int .i64 0), (.int .i64 0), (.int .i64 0), (.int .i64 0), (.int .i64 0), (.int .i64 0), (.int .i64 0), (.int .i64 0), (.int .i64 0), (.int .i64 0), (.int .i64 0), (.int .i64 0), (.int .i64 0), (.int .i64 0), (.int .i64 0), (.int .i64 0), (.int .i64 0), (.int .i64 0), (.int .i64 0), (.int .i64 0), (.int .i64 0), (.int .i64 0), (.int .i64 0), (.int .i64 0), (.int .i64 0), (.int .i64 0), (.int .i64 0), (.int .i64 0), (.int .i64 0), (.int .i64 0), (.int .i64 0), (.int .i64 0), (.int .i64 0), (.int .i64 0), (.int .i64 0), (.int .i64 0), (.int .i64 0), (.int .i64 0), (.int .i64 0), (.int .i64 0), (.int .i64 0), (.int .i64 0), (.int .i64 0), (.int .i64 0), (.int .i64 0), (.int .i64 0), (.int .i64 0), (.int .i64 0), (.int .i64 0), (.int .i64 0), (.int .i64 0), (.int .i64 0), (.int .i64 0), (.int .i64 0), (.int .i64 0), (.int .i64 0), (.int .i64 0), (.int .i64 0), (.int .i64 0), (.int .i64 0), (.int .i64 0), (.int .i64 0), (.int .i64 0), (.int .i64 0), (.int .i64 0), (.int .i64 0), (.int .i64 0), (.int .i64 0), (.int .i64 0), (.int .i64 0), (.int .i64 0), (.int .i64 0), (.int .i64 0), (.int .i64 0), (.int .i64 0), (.int .i64 0), (.int .i64 0), (.int .i64 0), (.int .i64 0), (.int .i64 0), (.int .i64 0), (.int .i64 0), (.int .i64 0), (.int .i64 0), (.int .i64 0), (.int .i64 0), (.int .i64 0), (.int .i64 0), (.int .i64 0), (.int .i64 0), (.int .i64 0), (.int .i64 0), (.int .i64 0), (.int .i64 0), (.int .i64 0), (.int .i64 0), (.int .i64 0), (.int .i64 0), (.int .i64 0), (.int .i64 0), (.int .i64 0), (.int .i64 0), (.int .i64 0), (.int .i64 0), (.int .i64 0), (.int .i64 0), (.int .i64 0), (.int .i64 0), (.int .i64 0), (.int .i64 0), (.int .i64 0), (.int .i64 0), (.int .i64 0), (.int .i64 0), (.int .i64 0), (.int .i64 0), (.int .i64 0), (.int .i64 0), (.int .i64 0), (.int .i64 0), (.int .i64 0), (.int .i64 0), (.int .i64 0), (.int .i64 0), (.int .i64 0), (.int .i64 0), (.int .i64 0), (.int .i64 0), (.int .i64 0), (.int .i64 0), (.int .i64 0), (.int .i64 0), (.int .i64 0), (.int .i64 0), (.int .i64 0), (.int .i64 0), (.int .i64 0), (.int .i64 0), (.int .i64 0), (.int .i64 0), (.int .i64 0), (.int .i64 0), (.int .i64 0), (.int .i64 0), (.int .i64 0), (.int .i64 0), (.int .i64 0), (.int .i64 0), (.int .i64 0), (.int .i64 0), (.int .i64 0), (.int .i64 0), (.int .i64 0), (.int .i64 0), (.int .i64 0), (.int .i64 0), (.int .i64 0), (.int .i64 0), (.int .i64 0), (.int .i64 0), (.int .i64 0), (.int .i64 0), (.int .i64 0), (.int .i64 0), (.int .i64 0), (.int .i64 0), (.int .i64 0), (.int .i64 0), (.int .i64 0), (.int .i64 0), (.int .i64 0), (.int .i64 0), (.int .i64 0), (.int .i64 0), (.int .i64 0), (.int .i64 0), (.int .i64 0), (.int .i64 0), (.int .i64 0), (.int .i64 0), (.int .i64 0), (.int .i64 0), (.int .i64 0), (.int .i64 0), (.int .i64 0), (.int .i64 0), (.int .i64 0), (.int .i64 0), (.int .i64 0), (.int .i64 0), (.int .i64 0), (.int .i64 0), (.int .i64 0), (.int .i64 0), (.int .i64 0), (.int .i64 0), (.int .i64 0), (.int .i64 0), (.int .i64 0), (.int .i64 0), (.int .i64 0), (.int .i64 0), (.int .i64 0), (.int .i64 0), (.int .i64 0), (.int .i64 0), (.int .i64 0), (.int .i64 0), (.int .i64 0), (.int .i64 0), (.int .i64 0), (.int .i64 0), (.int .i64 0), (.int .i64 0), (.int .i64 0), (.int .i64 0), (.int .i64 0), (.int .i64 0), (.int .i64 0), (.int .i64 0), (.int .i64 0), (.int .i64 0), (.int .i64 0), (.int .i64 0), (.int .i64 0), (.int .i64 0), (.int .i64 0), (.int .i64 0), (.int .i64 0), (.int .i64 0), (.int .i64 0), (.int .i64 0), (.int .i64 0), (.int .i64 0), (.int .i64 0), (.int .i64 0), (.int .i64 0), (.int .i64 0), (.int .i64 0), (.int .i64 0), (.int .i64 0)] [(0, 1), (1, 1)] [(.tmp 18), (.tmp 19)]⟩,
   ⟨(some 21), none, .box 104 (.tmp 20)⟩,
   ⟨(some 6), none, .mv (.tmp 21)⟩])
 (.prune [1, 6] (.seq (.seq (.row [⟨(some 22), none, .mv (.const (.int .i64 0))⟩])
 (.prune [22, 1, 6] (.block 0 (.loop [22] [7, 22, 23, 24, 25, 26, 27, 28, 29, 30, 31, 32, 33, 34, 35, 36] (.seq (.row [⟨(some 23), none, .ibin .lss .i64 (.tmp 22) (.const (.int .i64 256))⟩])
  (.prune [23, 22, 1, 6] (.seq (.cond (.tmp 23)
   .skip
   (.exit 0))
  (.prune [22, 1, 6] (.seq (.block 1 (.seq (.row [⟨(some 24), none, .mv (.tmp 22)⟩,
    ⟨(some 7), none, .mv (.tmp 24)⟩])
  (.prune [7, 22, 1, 6] (.draw (.take 0 ⟨(some 25), none, .mv (.tmp 6)⟩ (.take 1 ⟨(some 26), none, .mv (.tmp 7)⟩ (.take 2 ⟨(some 27), none, .ldn 3 (.tmp 1)⟩ (.take 3 ⟨(some 28), none, .mv (.tmp 7)⟩ (.take 4 ⟨(some 29), none, .conv .u8 (.tmp 28)⟩ (.take 8 ⟨(some 33), none, .nck (.tmp 25)⟩ (.take 9 ⟨(some 34), none, .fad 2 (.tmp 33)⟩ (.step 5 true ⟨(some 30), none, .bsl 5 1 [(.int .u8 0)] [(0, 1)] [(.tmp 29)]⟩ (.step 6 true ⟨(some 31), none, .get (.conv 64 9) [(.tmp 30)]⟩ (.step 7 false ⟨(some 32), none, .call 56 [(.tmp 27), (.tmp 31)]⟩ (.take 10 ⟨(some 35), none, .ixP 256 1 (.tmp 34) (.tmp 26)⟩ (.step 11 false ⟨none, none, .st (.tmp 35) (.tmp 32)⟩ .done))))))))))))))))
  (.prune [22, 1, 6] (.row [⟨(some 36), none, .ibin .add .i64 (.tmp 22) (.const (.int .i64 1))⟩,
    ⟨(some 22), none, .mv (.tmp 36)⟩])))))))))))
 (.prune [6] (.seq (.row [⟨(some 37), none, .mv (.tmp 6)⟩,
   ⟨(some 2), none, .mv (.tmp 37)⟩,
   ⟨(some 3), none, .mv (.const (.int .i64 0))⟩])
 (.prune [2, 3] .ret))))))))))))
theorem ok32 : fits Try.prog 32 ⟨s32, 38, [.tmp 2, .tmp 3]⟩ = some ⟨s32, 38, [.tmp 2, .tmp 3]⟩ := by kernel_rfl
theorem go32 {args : List Value} {w : World} {R : Value → World → Prop} (hle : Nat.ble args.length 38 = true) (h : vc Try.prog 38 s32 (argEnv args 0) w (fun L w => resL L w [.tmp 2, .tmp 3] fun vs => oneOr vs fun v => R v w) (fun _ _ _ => False) (fun L w => resL L w [.tmp 2, .tmp 3] fun vs => oneOr vs fun v => R v w)) : Cal Try.prog 32 ⟨args⟩ w R := cal_of mo ok32 hle h

-- (*footbridge/encode.Coder).Encode
def s33 : S := (.seq (.row [⟨(some 4), none, .mv (.const (.slice none 0 0))⟩])
 (.prune [1, 0] (.seq (.seq (.row [⟨(some 13), none, .mv (.tmp 0)⟩,
   ⟨(some 14), none, .isnil 0 false (.tmp 13)⟩,
   ⟨(some 15), none, .mv (.tmp 14)⟩,
   ⟨(some 16), (some (15, false)), .mv (.tmp 1)⟩,
   ⟨(some 17), (some (15, false)), .lenA (.tmp 16)⟩,
   ⟨(some 18), (some (15, false)), .ibin .eql .i64 (.tmp 17) (.const (.int .i64 0))⟩,
   ⟨(some 19), none, .pick (.tmp 15) (.const (.bool true)) (.tmp 18)⟩])
 (.prune [19, 1, 0] (.cond (.tmp 19)
  (.seq (.row [⟨(some 4), none, .mv (.const (.slice none 0 0))⟩])
  (.prune [4] .ret))
  .skip)))
 (.prune [0, 1] (.seq (.draw (.take 0 ⟨(some 20), none, .mv (.tmp 0)⟩ (.take 1 ⟨(some 21), none, .nck (.tmp 20)⟩ (.take 2 ⟨(some 22), none, .fad 1 (.tmp 21)⟩ (.take 3 ⟨(some 23), none, .ld (.tmp 22)⟩ (.take 4 ⟨(some 24), none, .mkf (.func 53) [(.tmp 23)] []⟩ (.step 5 true ⟨(some 25), none, .call 12 []⟩ (.take 6 ⟨(some 26), none, .bld [(.slice none 0 0), (.slice none 0 0), (.slice none 0 0), .nilFunc, (.pointer none)] [(3, 1), (4, 1)] [(.tmp 24), (.tmp 25)]⟩ (.step 7 true ⟨(some 27), none, .box 108 (.tmp 26)⟩ (.take 8 ⟨(some 5), none, .mv (.tmp 27)⟩ .done))))))))))
 (.prune [5, 0, 1] (.seq (.seq (.row [⟨(some 28), none, .mv (.tmp 1)⟩,
   ⟨(some 29), none, .lenA (.tmp 28)⟩,
   ⟨(some 30), none, .mv (.const (.int .i64 0))⟩])
 (.prune [30, 5, 0, 28, 1, 29] (.block 0 (.loop [30] [6, 7, 30, 31, 32, 33, 34, 35, 36, 37, 38, 39, 40, 41, 42, 43, 44, 45, 46, 47, 48, 49, 50, 51, 52, 53, 54, 55, 56, 57, 58, 59, 60, 61, 62, 63, 64, 65, 66, 67, 68, 69, 70, 71, 72] (.seq (.row [⟨(some 31), none, .ibin .lss .i64 (.tmp 30) (.tmp 29)⟩])
  (.prune [31, 30, 5, 0, 28, 1, 29] (.seq (.cond (.tmp 31)
   .skip
   (.exit 0))
  (.prune [30, 5, 0, 28, 1, 29] (.seq (.block 1 (.seq (.row [⟨(some 32), none, .mv (.tmp 30)⟩,
    ⟨(some 33), none, .ixA 1 (.tmp 28) (.tmp 30)⟩,
    ⟨(some 34), none, .ld (.tmp 33)⟩,
    ⟨(some 6), none, .mv (.tmp 32)⟩,
    ⟨(some 7), none, .mv (.tmp 34)⟩])
  (.prune [7, 6, 30, 5, 0, 28, 1, 29] (.seq (.draw (.take 0 ⟨(some 35), none, .mv (.tmp 5)⟩ (.take 1 ⟨(some 36), none, .mv (.tmp 5)⟩ (.take 2 ⟨(some 37), none, .nck (.tmp 36)⟩ (.take 3 ⟨(some 38), none, .fad 0 (.tmp 37)⟩ (.take 4 ⟨(some 39), none, .ld (.tmp 38)⟩ (.take 5 ⟨(some 40), none, .mv (.tmp 0)⟩ (.take 6 ⟨(some 41), none, .mv (.tmp 7)⟩ (.take 7 ⟨(some 42), none, .nck (.tmp 40)⟩ (.take 8 ⟨(some 43), none, .fad 2 (.tmp 42)⟩ (.take 9 ⟨(some 44), none, .ixP 256 1 (.tmp 43) (.tmp 41)⟩ (.take 10 ⟨(some 45), none, .ld (.tmp 44)⟩ (.step 11 true ⟨(some 46), none, .bsl 3 1 [(.int .i64 0)] [(0, 1)] [(.tmp 45)]⟩ (.step 12 true ⟨(some 47), none, .run (.bi .append ⟨[47, 47]⟩ 47) [(.tmp 39), (.tmp 46)]⟩ (.take 13 ⟨(some 48), none, .nck (.tmp 35)⟩ (.take 14 ⟨(some 49), none, .fad 0 (.tmp 48)⟩ (.step 15 false ⟨none, none, .st (.tmp 49) (.tmp 47)⟩ .done)))))))))))))))))
  (.prune [6, 30, 5, 0, 28, 1, 29] (.seq (.row [⟨(some 50), none, .mv (.tmp 5)⟩,
    ⟨(some 51), none, .mv (.tmp 5)⟩,
    ⟨(some 52), none, .nck (.tmp 51)⟩,
    ⟨(some 53), none, .fad 1 (.tmp 52)⟩,
    ⟨(some 54), none, .ld (.tmp 53)⟩,
    ⟨(some 55), none, .mv (.tmp 6)⟩,
    ⟨(some 56), none, .ibin .sub .i64 (.tmp 55) (.const (.int .i64 1))⟩,
    ⟨(some 57), none, .bsl 3 1 [(.int .i64 0)] [(0, 1)] [(.tmp 56)]⟩,
    ⟨(some 58), none, .run (.bi .append ⟨[47, 47]⟩ 47) [(.tmp 54), (.tmp 57)]⟩,
    ⟨(some 59), none, .nck (.tmp 50)⟩,
    ⟨(some 60), none, .fad 1 (.tmp 59)⟩,
    ⟨none, none, .st (.tmp 60) (.tmp 58)⟩])
  (.prune [6, 30, 5, 0, 28, 1, 29] (.row [⟨(some 61), none, .mv (.tmp 5)⟩,
    ⟨(some 62), none, .mv (.tmp 5)⟩,
    ⟨(some 63), none, .nck (.tmp 62)⟩,
    ⟨(some 64), none, .fad 2 (.tmp 63)⟩,
    ⟨(some 65), none, .ld (.tmp 64)⟩,
    ⟨(some 66), none, .mv (.tmp 6)⟩,
    ⟨(some 67), none, .ibin .add .i64 (.tmp 66) (.const (.int .i64 1))⟩,
    ⟨(some 68), none, .bsl 3 1 [(.int .i64 0)] [(0, 1)] [(.tmp 67)]⟩,
    ⟨(some 69), none, .run (.bi .append ⟨[47, 47]⟩ 47) [(.tmp 65), (.tmp 68)]⟩,
    ⟨(some 70), none, .nck (.tmp 61)⟩,
    ⟨(some 71), none, .fad 2 (.tmp 70)⟩,
    ⟨none, none, .st (.tmp 71) (.tmp 69)⟩]))))))))
  (.prune [30, 5, 0, 28, 1, 29] (.row [⟨(some 72), none, .ibin .add .i64 (.tmp 30) (.const (.int .i64 1))⟩,
    ⟨(some 30), none, .mv (.tmp 72)⟩])))))))))))
 (.prune [1, 5] (.seq (.row [⟨(some 73), none, .mv (.tmp 5)⟩,
   ⟨(some 74), none, .nck (.tmp 73)⟩,
   ⟨(some 75), none, .fad 2 (.tmp 74)⟩,
   ⟨(some 76), none, .ld (.tmp 75)⟩,
   ⟨(some 77), none, .mv (.tmp 1)⟩,
   ⟨(some 78), none, .lenA (.tmp 77)⟩,
   ⟨(some 79), none, .ibin .sub .i64 (.tmp 78) (.const (.int .i64 1))⟩,
   ⟨(some 80), none, .ixA 1 (.tmp 76) (.tmp 79)⟩,
   ⟨none, none, .st (.tmp 80) (.const (.int .i64 (-1)))⟩])
 (.prune [1, 5] (.seq (.seq (.row [⟨(some 81), none, .mv (.tmp 1)⟩,
   ⟨(some 82), none, .lenA (.tmp 81)⟩,
   ⟨(some 83), none, .mv (.const (.int .i64 0))⟩])
 (.prune [83, 5, 82] (.block 2 (.loop [83] [8, 83, 84, 85, 86, 87, 88, 89] (.seq (.row [⟨(some 84), none, .ibin .lss .i64 (.tmp 83) (.tmp 82)⟩])
  (.prune [84, 83, 5, 82] (.seq (.cond (.tmp 84)
   .skip
   (.exit 2))
  (.prune [83, 5, 82] (.seq (.block 3 (.seq (.row [⟨(some 85), none, .mv (.tmp 83)⟩,
    ⟨(some 8), none, .mv (.tmp 85)⟩])
  (.prune [8, 83, 5, 82] (.row [⟨(some 86), none, .mv (.tmp 5)⟩,
    ⟨(some 87), none, .mv (.tmp 8)⟩,
    ⟨(some 88), none, .call 57 [(.tmp 86), (.tmp 87)]⟩]))))
  (.prune [83, 5, 82] (.row [⟨(some 89), none, .ibin .add .i64 (.tmp 83) (.const (.int .i64 1))⟩,
    ⟨(some 83), none, .mv (.tmp 89)⟩])))))))))))
 (.prune [5] (.seq (.seq (.row [⟨(some 91), none, .mv (.tmp 5)⟩,
   ⟨(some 92), none, .nck (.tmp 91)⟩,
   ⟨(some 93), none, .fad 4 (.tmp 92)⟩,
   ⟨(some 94), none, .ld (.tmp 93)⟩,
   ⟨(some 95), none, .call 18 [(.tmp 94)]⟩,
   ⟨(some 90), none, .mv (.tmp 95)⟩,
   ⟨(some 96), none, .ext (.tmp 90) 0⟩,
   ⟨(some 97), none, .ext (.tmp 90) 1⟩,
   ⟨(some 9), none, .new [(.int .i64 0), (.int .i64 0), (.int .i64 0)] 28⟩,
   ⟨none, none, .stn 3 (.tmp 9) (.tmp 96)⟩,
   ⟨(some 10), none, .mv (.tmp 97)⟩])
 (.prune [5, 9, 10] (.block 4 (.loop [9, 10] [9, 10, 98, 99, 100, 101, 102, 103, 104, 105, 106, 107, 108, 109, 110] (.seq (.seq (.row [⟨(some 98), none, .mv (.tmp 10)⟩])
  (.prune [98, 9, 5] (.cond (.tmp 98)
   .skip
   (.exit 4))))
  (.prune [9, 5] (.seq (.block 5 (.row [⟨(some 107), none, .mv (.tmp 5)⟩,
    ⟨(some 108), none, .ldn 3 (.tmp 9)⟩,
    ⟨(some 109), none, .call 58 [(.tmp 107), (.tmp 108)]⟩]))
  (.prune [9, 5] (.seq (.seq (.row [⟨(some 110), none, .ldn 3 (.tmp 9)⟩])
  (.prune [110, 5] (.row [⟨(some 9), none, .new [(.int .i64 0), (.int .i64 0), (.int .i64 0)] 28⟩,
    ⟨none, none, .stn 3 (.tmp 9) (.tmp 110)⟩])))
  (.prune [5, 9] (.row [⟨(some 100), none, .mv (.tmp 5)⟩,
    ⟨(some 101), none, .nck (.tmp 100)⟩,
    ⟨(some 102), none, .fad 4 (.tmp 101)⟩,
    ⟨(some 103), none, .ld (.tmp 102)⟩,
    ⟨(some 104), none, .call 18 [(.tmp 103)]⟩,
    ⟨(some 99), none, .mv (.tmp 104)⟩,
    ⟨(some 105), none, .ext (.tmp 99) 0⟩,
    ⟨(some 106), none, .ext (.tmp 99) 1⟩,
    ⟨none, none, .stn 3 (.tmp 9) (.tmp 105)⟩,
    ⟨(some 10), none, .mv (.tmp 106)⟩])))))))))))
 (.prune [5] (.seq (.row [⟨(some 11), none, .mv (.const (.slice none 0 0))⟩])
 (.prune [5, 11] (.seq (.seq (.row [⟨(some 12), none, .mv (.const (.int .i64 0))⟩])
 (.prune [12, 5, 11] (.block 6 (.loop [11, 12] [11, 12, 111, 112, 113, 114, 115, 116, 117, 118, 119, 120, 121, 122, 123, 124, 125, 126, 127, 128, 129] (.seq (.seq (.row [⟨(some 111), none, .mv (.tmp 12)⟩,
    ⟨(some 112), none, .ibin .neq .i64 (.tmp 111) (.const (.int .i64 (-1)))⟩])
  (.prune [112, 11, 12, 5] (.cond (.tmp 112)
   .skip
   (.exit 6))))
  (.prune [11, 12, 5] (.seq (.block 7 (.row [⟨(some 120), none, .mv (.tmp 11)⟩,
    ⟨(some 121), none, .mv (.tmp 5)⟩,
    ⟨(some 122), none, .nck (.tmp 121)⟩,
    ⟨(some 123), none, .fad 0 (.tmp 122)⟩,
    ⟨(some 124), none, .ld (.tmp 123)⟩,
    ⟨(some 125), none, .mv (.tmp 12)⟩,
    ⟨(some 126), none, .ixA 1 (.tmp 124) (.tmp 125)⟩,
    ⟨(some 127), none, .ld (.tmp 126)⟩,
    ⟨(some 128), none, .bsl 3 1 [(.int .i64 0)] [(0, 1)] [(.tmp 127)]⟩,
    ⟨(some 129), none, .run (.bi .append ⟨[47, 47]⟩ 47) [(.tmp 120), (.tmp 128)]⟩,
    ⟨(some 11), none, .mv (.tmp 129)⟩]))
  (.prune [12, 5, 11] (.row [⟨(some 113), none, .mv (.tmp 5)⟩,
    ⟨(some 114), none, .nck (.tmp 113)⟩,
    ⟨(some 115), none, .fad 2 (.tmp 114)⟩,
    ⟨(some 116), none, .ld (.tmp 115)⟩,
    ⟨(some 117), none, .mv (.tmp 12)⟩,
    ⟨(some 118), none, .ixA 1 (.tmp 116) (.tmp 117)⟩,
    ⟨(some 119), none, .ld (.tmp 118)⟩,
    ⟨(some 12), none, .mv (.tmp 119)⟩])))))))))
 (.prune [11] (.seq (.row [⟨(some 130), none, .mv (.tmp 11)⟩,
   ⟨(some 4), none, .mv (.tmp 130)⟩])
 (.prune [4] .ret))))))))))))))))))))
theorem ok33 : fits Try.prog 33 ⟨s33, 131, [.tmp 4]⟩ = some ⟨s33, 131, [.tmp 4]⟩ := by kernel_rfl
theorem go33 {args : List Value} {w : World} {R : Value → World → Prop} (hle : Nat.ble args.length 131 = true) (h : vc Try.prog 131 s33 (argEnv args 0) w (fun L w => resL L w [.tmp 4] fun vs => oneOr vs fun v => R v w) (fun _ _ _ => False) (fun L w => resL L w [.tmp 4] fun vs => oneOr vs fun v => R v w)) : Cal Try.prog 33 ⟨args⟩ w R := cal_of mo ok33 hle h

-- footbridge/footbridgeref14.Encode
def s34 : S := (.seq (.row [⟨(some 2), none, .box 46 (.tmp 0)⟩,
   ⟨(some 4), none, .mv (.const (.slice none 0 0))⟩])
 (.prune [1, 2] (.seq (.row [⟨(some 7), none, .bsl 3 0 [] [] []⟩,
   ⟨(some 5), none, .mv (.tmp 7)⟩])
 (.prune [1, 2, 5] (.seq (.seq (.row [⟨(some 6), none, .mv (.const (.int .i64 0))⟩])
 (.prune [6, 1, 2, 5] (.block 0 (.loop [5, 6] [5, 6, 8, 9, 10, 11, 12, 13, 14, 15, 16, 17, 18, 19, 20, 21, 22, 23, 24] (.seq (.seq (.row [⟨(some 8), none, .mv (.tmp 6)⟩,
    ⟨(some 9), none, .mv (.tmp 1)⟩,
    ⟨(some 10), none, .lenS (.tmp 9)⟩,
    ⟨(some 11), none, .ibin .lss .i64 (.tmp 8) (.tmp 10)⟩])
  (.prune [11, 5, 6, 1, 2] (.cond (.tmp 11)
   .skip
   (.exit 0))))
  (.prune [5, 6, 1, 2] (.seq (.block 1 (.draw (.take 0 ⟨(some 14), none, .mv (.tmp 5)⟩ (.take 1 ⟨(some 15), none, .fad 0 (.tmp 2)⟩ (.take 2 ⟨(some 16), none, .ld (.tmp 15)⟩ (.take 3 ⟨(some 17), none, .mv (.tmp 1)⟩ (.take 4 ⟨(some 18), none, .mv (.tmp 6)⟩ (.take 5 ⟨(some 19), none, .mv (.tmp 6)⟩ (.take 6 ⟨(some 20), none, .ibin .add .i64 (.tmp 19) (.const (.int .i64 1))⟩ (.take 7 ⟨(some 21), none, .sls (.tmp 17) (some (.tmp 18)) (some (.tmp 20))⟩ (.step 8 false ⟨(some 22), none, .call 39 [(.tmp 16), (.tmp 21)]⟩ (.step 9 true ⟨(some 23), none, .bsl 3 1 [(.int .i64 0)] [(0, 1)] [(.tmp 22)]⟩ (.step 10 true ⟨(some 24), none, .run (.bi .append ⟨[47, 47]⟩ 47) [(.tmp 14), (.tmp 23)]⟩ (.take 11 ⟨(some 5), none, .mv (.tmp 24)⟩ .done))))))))))))))
  (.prune [6, 1, 2, 5] (.row [⟨(some 12), none, .mv (.tmp 6)⟩,
    ⟨(some 13), none, .ibin .add .i64 (.tmp 12) (.const (.int .i64 1))⟩,
    ⟨(some 6), none, .mv (.tmp 13)⟩])))))))))
 (.prune [2, 5] (.seq (.row [⟨(some 25), none, .ldn 3 (.tmp 2)⟩,
   ⟨(some 26), none, .mv (.tmp 5)⟩,
   ⟨(some 27), none, .call 59 [(.tmp 25), (.tmp 26)]⟩,
   ⟨(some 4), none, .mv (.tmp 27)⟩])
 (.prune [4] .ret))))))))
theorem ok34 : fits Try.prog 34 ⟨s34, 28, [.tmp 4]⟩ = some ⟨s34, 28, [.tmp 4]⟩ := by kernel_rfl
theorem go34 {args : List Value} {w : World} {R : Value → World → Prop} (hle : Nat.ble args.length 28 = true) (h : vc Try.prog 28 s34 (argEnv args 0) w (fun L w => resL L w [.tmp 4] fun vs => oneOr vs fun v => R v w) (fun _ _ _ => False) (fun L w => resL L w [.tmp 4] fun vs => oneOr vs fun v => R v w)) : Cal Try.prog 34 ⟨args⟩ w R := cal_of mo ok34 hle h

-- (*footbridge/encode.Coder).Dead
def s37 : S := (.seq (.row [⟨(some 2), none, .mv (.const (.slice none 0 0))⟩])
 (.prune [0] (.seq (.seq (.row [⟨(some 6), none, .mv (.tmp 0)⟩,
   ⟨(some 7), none, .isnil 0 false (.tmp 6)⟩])
 (.prune [7, 0] (.cond (.tmp 7)
  (.seq (.row [⟨(some 2), none, .mv (.const (.slice none 0 0))⟩])
  (.prune [2] .ret))
  .skip)))
 (.prune [0] (.seq (.row [⟨(some 3), none, .mv (.const (.slice none 0 0))⟩])
 (.prune [3, 0] (.seq (.seq (.row [⟨(some 8), none, .mv (.tmp 0)⟩,
   ⟨(some 9), none, .nck (.tmp 8)⟩,
   ⟨(some 10), none, .fad 0 (.tmp 9)⟩,
   ⟨(some 11), none, .ld (.tmp 10)⟩,
   ⟨(some 12), none, .lenA (.tmp 11)⟩,
   ⟨(some 13), none, .mv (.const (.int .i64 0))⟩])
 (.prune [13, 3, 0, 11, 12] (.block 0 (.loop [3, 13] [3, 4, 5, 13, 14, 15, 16, 17, 18, 19, 20, 21, 22, 23, 24, 25, 26, 27, 28, 29, 30, 31, 32, 33, 34] (.seq (.row [⟨(some 14), none, .ibin .lss .i64 (.tmp 13) (.tmp 12)⟩])
  (.prune [14, 3, 13, 0, 11, 12] (.seq (.cond (.tmp 14)
   .skip
   (.exit 0))
  (.prune [3, 13, 0, 11, 12] (.seq (.block 1 (.seq (.row [⟨(some 15), none, .mv (.tmp 13)⟩,
    ⟨(some 16), none, .ixA 1 (.tmp 11) (.tmp 13)⟩,
    ⟨(some 17), none, .ld (.tmp 16)⟩,
    ⟨(some 4), none, .mv (.tmp 15)⟩,
    ⟨(some 5), none, .mv (.tmp 17)⟩])
  (.prune [5, 3, 4, 13, 0, 11, 12] (.seq (.row [⟨(some 18), none, .mv (.tmp 5)⟩,
    ⟨(some 19), none, .sbin .neq (.tmp 18) (.const (.string ⟨#[]⟩))⟩,
    ⟨(some 20), none, .mv (.tmp 19)⟩,
    ⟨(some 21), (some (20, true)), .mv (.tmp 0)⟩,
    ⟨(some 22), (some (20, true)), .mv (.tmp 5)⟩,
    ⟨(some 23), (some (20, true)), .run (.conv 9 64) [(.tmp 22)]⟩,
    ⟨(some 24), (some (20, true)), .call 33 [(.tmp 21), (.tmp 23)]⟩,
    ⟨(some 25), (some (20, true)), .mv (.tmp 4)⟩,
    ⟨(some 26), (some (20, true)), .bsl 3 1 [(.int .i64 0)] [(0, 1)] [(.tmp 25)]⟩,
    ⟨(some 27), (some (20, true)), .call 60 [(.tmp 24), (.tmp 26)]⟩,
    ⟨(some 28), (some (20, true)), .notB (.tmp 27)⟩,
    ⟨(some 29), none, .pick (.tmp 20) (.tmp 28) (.const (.bool false))⟩])
  (.prune [29, 3, 4, 13, 0, 11, 12] (.cond (.tmp 29)
   (.row [⟨(some 30), none, .mv (.tmp 3)⟩,
     ⟨(some 31), none, .mv (.tmp 4)⟩,
     ⟨(some 32), none, .bsl 3 1 [(.int .i64 0)] [(0, 1)] [(.tmp 31)]⟩,
     ⟨(some 33), none, .run (.bi .append ⟨[47, 47]⟩ 47) [(.tmp 30), (.tmp 32)]⟩,
     ⟨(some 3), none, .mv (.tmp 33)⟩])
   .skip))))))
  (.prune [13, 3, 0, 11, 12] (.row [⟨(some 34), none, .ibin .add .i64 (.tmp 13) (.const (.int .i64 1))⟩,
    ⟨(some 13), none, .mv (.tmp 34)⟩])))))))))))
 (.prune [3] (.seq (.row [⟨(some 35), none, .mv (.tmp 3)⟩,
   ⟨(some 2), none, .mv (.tmp 35)⟩])
 (.prune [2] .ret))))))))))
theorem ok37 : fits Try.prog 37 ⟨s37, 36, [.tmp 2]⟩ = some ⟨s37, 36, [.tmp 2]⟩ := by kernel_rfl
theorem go37 {args : List Value} {w : World} {R : Value → World → Prop} (hle : Nat.ble args.length 36 = true) (h : vc Try.prog 36 s37 (argEnv args 0) w (fun L w => resL L w [.tmp 2] fun vs => oneOr vs fun v => R v w) (fun _ _ _ => False) (fun L w => resL L w [.tmp 2] fun vs => oneOr vs fun v => R v w)) : Cal Try.prog 37 ⟨args⟩ w R := cal_of mo ok37 hle h

-- footbridge/footbridgeref14.Dead
def s38 : S := (.seq (.row [⟨(some 1), none, .box 46 (.tmp 0)⟩,
   ⟨(some 2), none, .mv (.const (.slice none 0 0))⟩])
 (.prune [1] (.seq (.row [⟨(some 6), none, .bsl 3 0 [] [] []⟩,
   ⟨(some 3), none, .mv (.tmp 6)⟩])
 (.prune [1, 3] (.seq (.seq (.row [⟨(some 7), none, .fad 0 (.tmp 1)⟩,
   ⟨(some 8), none, .ld (.tmp 7)⟩,
   ⟨(some 9), none, .lenA (.tmp 8)⟩,
   ⟨(some 10), none, .mv (.const (.int .i64 0))⟩])
 (.prune [10, 1, 3, 9] (.block 0 (.loop [3, 10] [3, 4, 5, 10, 11, 12, 13, 14, 15, 16, 17, 18, 19, 20, 21, 22, 23, 24, 25, 26, 27, 28, 29, 30, 31, 32, 33, 34, 35, 36, 37, 38, 39, 40] (.seq (.row [⟨(some 11), none, .ibin .lss .i64 (.tmp 10) (.tmp 9)⟩])
  (.prune [11, 10, 1, 3, 9] (.seq (.cond (.tmp 11)
   .skip
   (.exit 0))
  (.prune [10, 1, 3, 9] (.seq (.block 1 (.seq (.row [⟨(some 12), none, .mv (.tmp 10)⟩,
    ⟨(some 4), none, .mv (.tmp 12)⟩])
  (.prune [4, 10, 1, 3, 9] (.seq (.seq (.row [⟨(some 13), none, .fad 0 (.tmp 1)⟩,
    ⟨(some 14), none, .ld (.tmp 13)⟩,
    ⟨(some 15), none, .mv (.tmp 4)⟩,
    ⟨(some 16), none, .ixA 1 (.tmp 14) (.tmp 15)⟩,
    ⟨(some 17), none, .ld (.tmp 16)⟩,
    ⟨(some 18), none, .sbin .eql (.tmp 17) (.const (.string ⟨#[]⟩))⟩])
  (.prune [18, 4, 10, 1, 3, 9] (.cond (.tmp 18)
   (.exit 1)
   .skip)))
  (.prune [3, 4, 10, 1, 9] (.seq (.draw (.take 0 ⟨(some 19), none, .ldn 3 (.tmp 1)⟩ (.take 1 ⟨(some 20), none, .fad 0 (.tmp 1)⟩ (.take 2 ⟨(some 21), none, .ld (.tmp 20)⟩ (.take 3 ⟨(some 22), none, .mv (.tmp 4)⟩ (.take 4 ⟨(some 23), none, .ixA 1 (.tmp 21) (.tmp 22)⟩ (.take 5 ⟨(some 24), none, .ld (.tmp 23)⟩ (.step 6 true ⟨(some 25), none, .call 34 [(.tmp 19), (.tmp 24)]⟩ (.take 7 ⟨(some 5), none, .mv (.tmp 25)⟩ .done)))))))))
  (.prune [5, 3, 4, 10, 1, 9] (.seq (.row [⟨(some 26), none, .mv (.tmp 5)⟩,
    ⟨(some 27), none, .lenA (.tmp 26)⟩,
    ⟨(some 28), none, .ibin .neq .i64 (.tmp 27) (.const (.int .i64 1))⟩,
    ⟨(some 29), none, .mv (.tmp 28)⟩,
    ⟨(some 30), (some (29, false)), .mv (.tmp 5)⟩,
    ⟨(some 31), (some (29, false)), .ixA 1 (.tmp 30) (.const (.int .i64 0))⟩,
    ⟨(some 32), (some (29, false)), .ld (.tmp 31)⟩,
    ⟨(some 33), (some (29, false)), .mv (.tmp 4)⟩,
    ⟨(some 34), (some (29, false)), .ibin .neq .i64 (.tmp 32) (.tmp 33)⟩,
    ⟨(some 35), none, .pick (.tmp 29) (.const (.bool true)) (.tmp 34)⟩])
  (.prune [35, 3, 4, 10, 1, 9] (.cond (.tmp 35)
   (.row [⟨(some 36), none, .mv (.tmp 3)⟩,
     ⟨(some 37), none, .mv (.tmp 4)⟩,
     ⟨(some 38), none, .bsl 3 1 [(.int .i64 0)] [(0, 1)] [(.tmp 37)]⟩,
     ⟨(some 39), none, .run (.bi .append ⟨[47, 47]⟩ 47) [(.tmp 36), (.tmp 38)]⟩,
     ⟨(some 3), none, .mv (.tmp 39)⟩])
   .skip))))))))))
  (.prune [10, 1, 3, 9] (.row [⟨(some 40), none, .ibin .add .i64 (.tmp 10) (.const (.int .i64 1))⟩,
    ⟨(some 10), none, .mv (.tmp 40)⟩])))))))))))
 (.prune [3] (.seq (.row [⟨(some 41), none, .mv (.tmp 3)⟩,
   ⟨(some 2), none, .mv (.tmp 41)⟩])
 (.prune [2] .ret))))))))
theorem ok38 : fits Try.prog 38 ⟨s38, 42, [.tmp 2]⟩ = some ⟨s38, 42, [.tmp 2]⟩ := by kernel_rfl
theorem go38 {args : List Value} {w : World} {R : Value → World → Prop} (hle : Nat.ble args.length 42 = true) (h : vc Try.prog 42 s38 (argEnv args 0) w (fun L w => resL L w [.tmp 2] fun vs => oneOr vs fun v => R v w) (fun _ _ _ => False) (fun L w => resL L w [.tmp 2] fun vs => oneOr vs fun v => R v w)) : Cal Try.prog 38 ⟨args⟩ w R := cal_of mo ok38 hle h

-- (*footbridge/encode.chain).look
def s57 : S := (.seq (.seq (.row [⟨(some 6), none, .mv (.tmp 1)⟩,
   ⟨(some 7), none, .ibin .eql .i64 (.tmp 6) (.const (.int .i64 (-1)))⟩])
 (.prune [7, 1, 0] (.cond (.tmp 7)
  .ret
  .skip)))
 (.prune [0, 1] (.seq (.seq (.row [⟨(some 8), none, .mv (.tmp 0)⟩,
   ⟨(some 9), none, .nck (.tmp 8)⟩,
   ⟨(some 10), none, .fad 2 (.tmp 9)⟩,
   ⟨(some 11), none, .ld (.tmp 10)⟩,
   ⟨(some 12), none, .mv (.tmp 1)⟩,
   ⟨(some 13), none, .ixA 1 (.tmp 11) (.tmp 12)⟩,
   ⟨(some 14), none, .ld (.tmp 13)⟩,
   ⟨(some 15), none, .ibin .neq .i64 (.tmp 14) (.const (.int .i64 (-1)))⟩])
 (.prune [15, 0, 1] (.cond (.tmp 15)
  (.seq (.draw (.take 0 ⟨(some 17), none, .mv (.tmp 0)⟩ (.take 1 ⟨(some 18), none, .nck (.tmp 17)⟩ (.take 2 ⟨(some 19), none, .fad 3 (.tmp 18)⟩ (.take 3 ⟨(some 20), none, .ld (.tmp 19)⟩ (.take 4 ⟨(some 21), none, .mv (.tmp 0)⟩ (.take 5 ⟨(some 22), none, .nck (.tmp 21)⟩ (.take 6 ⟨(some 23), none, .fad 0 (.tmp 22)⟩ (.take 7 ⟨(some 24), none, .ld (.tmp 23)⟩ (.take 8 ⟨(some 25), none, .mv (.tmp 1)⟩ (.take 9 ⟨(some 26), none, .ixA 1 (.tmp 24) (.tmp 25)⟩ (.take 10 ⟨(some 27), none, .ld (.tmp 26)⟩ (.take 11 ⟨(some 28), none, .mv (.tmp 0)⟩ (.take 12 ⟨(some 29), none, .nck (.tmp 28)⟩ (.take 13 ⟨(some 30), none, .fad 0 (.tmp 29)⟩ (.take 14 ⟨(some 31), none, .ld (.tmp 30)⟩ (.take 15 ⟨(some 32), none, .mv (.tmp 0)⟩ (.take 16 ⟨(some 33), none, .nck (.tmp 32)⟩ (.take 17 ⟨(some 34), none, .fad 2 (.tmp 33)⟩ (.take 18 ⟨(some 35), none, .ld (.tmp 34)⟩ (.take 19 ⟨(some 36), none, .mv (.tmp 1)⟩ (.take 20 ⟨(some 37), none, .ixA 1 (.tmp 35) (.tmp 36)⟩ (.take 21 ⟨(some 38), none, .ld (.tmp 37)⟩ (.take 22 ⟨(some 39), none, .ixA 1 (.tmp 31) (.tmp 38)⟩ (.take 23 ⟨(some 40), none, .ld (.tmp 39)⟩ (.alt (.step 24 true ⟨(some 41), none, .callv (.tmp 20) [(.tmp 27), (.tmp 40)]⟩ (.take 25 ⟨(some 16), none, .mv (.tmp 41)⟩ (.take 26 ⟨(some 42), none, .ext (.tmp 16) 0⟩ (.take 27 ⟨(some 43), none, .ext (.tmp 16) 1⟩ (.step 28 true ⟨(some 4), none, .new [(.int .i64 0), (.int .i64 0), (.int .i64 0), (.int .i64 0)] 55⟩ (.step 29 false ⟨none, none, .stn 4 (.tmp 4) (.tmp 42)⟩ (.take 30 ⟨(some 5), none, .mv (.tmp 43)⟩ .done))))))) (.step 28 true ⟨(some 4), none, .new [(.int .i64 0), (.int .i64 0), (.int .i64 0), (.int .i64 0)] 55⟩ (.step 24 true ⟨(some 41), none, .callv (.tmp 20) [(.tmp 27), (.tmp 40)]⟩ (.take 25 ⟨(some 16), none, .mv (.tmp 41)⟩ (.take 26 ⟨(some 42), none, .ext (.tmp 16) 0⟩ (.take 27 ⟨(some 43), none, .ext (.tmp 16) 1⟩ (.step 29 false ⟨none, none, .stn 4 (.tmp 4) (.tmp 42)⟩ (.take 30 ⟨(some 5), none, .mv (.tmp 43)⟩ .done)))))))))))))))))))))))))))))))))
  (.prune [5, 0, 1, 4] (.seq (.row [⟨(some 44), none, .mv (.tmp 5)⟩])
  (.prune [44, 0, 1, 4] (.cond (.tmp 44)
   (.seq (.draw (.take 0 ⟨(some 45), none, .mv (.tmp 0)⟩ (.take 1 ⟨(some 46), none, .nck (.tmp 45)⟩ (.take 2 ⟨(some 47), none, .fad 4 (.tmp 46)⟩ (.take 3 ⟨(some 48), none, .ld (.tmp 47)⟩ (.take 4 ⟨(some 49), none, .mv (.tmp 1)⟩ (.take 5 ⟨(some 50), none, .fad 3 (.tmp 4)⟩ (.take 6 ⟨(some 51), none, .ld (.tmp 50)⟩ (.take 7 ⟨(some 52), none, .fad 2 (.tmp 4)⟩ (.take 8 ⟨(some 53), none, .ld (.tmp 52)⟩ (.take 9 ⟨(some 54), none, .bld [(.int .i64 0), (.int .i64 0), (.int .i64 0)] [(0, 1), (1, 1), (2, 1)] [(.tmp 49), (.tmp 51), (.tmp 53)]⟩ (.step 10 true ⟨(some 55), none, .call 13 [(.tmp 48), (.tmp 54)]⟩ .done))))))))))))
   (.prune [] .ret))
   .skip)))))
  .skip)))
 (.prune [0, 1] (.row [⟨(some 56), none, .mv (.tmp 0)⟩,
   ⟨(some 57), none, .nck (.tmp 56)⟩,
   ⟨(some 58), none, .fad 4 (.tmp 57)⟩,
   ⟨(some 59), none, .ld (.tmp 58)⟩,
   ⟨(some 60), none, .mv (.tmp 1)⟩,
   ⟨(some 61), none, .call 15 [(.tmp 59), (.tmp 60)]⟩])))))
theorem ok57 : fits Try.prog 57 ⟨s57, 62, []⟩ = some ⟨s57, 62, []⟩ := by kernel_rfl
theorem go57 {args : List Value} {w : World} {R : Value → World → Prop} (hle : Nat.ble args.length 62 = true) (h : vc Try.prog 62 s57 (argEnv args 0) w (fun L w => resL L w [] fun vs => oneOr vs fun v => R v w) (fun _ _ _ => False) (fun L w => resL L w [] fun vs => oneOr vs fun v => R v w)) : Cal Try.prog 57 ⟨args⟩ w R := cal_of mo ok57 hle h

-- (*footbridge/encode.chain).merge
def s58 : S := (.seq (.row [⟨(some 3), none, .box 28 (.tmp 1)⟩])
 (.prune [0, 3] (.seq (.draw (.take 0 ⟨(some 6), none, .mv (.tmp 0)⟩ (.take 1 ⟨(some 7), none, .nck (.tmp 6)⟩ (.take 2 ⟨(some 8), none, .fad 2 (.tmp 7)⟩ (.take 3 ⟨(some 9), none, .ld (.tmp 8)⟩ (.take 4 ⟨(some 10), none, .fad 0 (.tmp 3)⟩ (.take 5 ⟨(some 11), none, .ld (.tmp 10)⟩ (.take 6 ⟨(some 12), none, .ixA 1 (.tmp 9) (.tmp 11)⟩ (.take 7 ⟨(some 13), none, .ld (.tmp 12)⟩ (.take 8 ⟨(some 4), none, .mv (.tmp 13)⟩ .done))))))))))
 (.prune [4, 0, 3] (.seq (.row [⟨(some 14), none, .mv (.tmp 0)⟩,
   ⟨(some 15), none, .nck (.tmp 14)⟩,
   ⟨(some 16), none, .fad 2 (.tmp 15)⟩,
   ⟨(some 17), none, .ld (.tmp 16)⟩,
   ⟨(some 18), none, .mv (.tmp 4)⟩,
   ⟨(some 19), none, .ixA 1 (.tmp 17) (.tmp 18)⟩,
   ⟨(some 20), none, .ld (.tmp 19)⟩,
   ⟨(some 5), none, .mv (.tmp 20)⟩])
 (.prune [5, 4, 0, 3] (.seq (.draw (.take 0 ⟨(some 21), none, .mv (.tmp 0)⟩ (.take 1 ⟨(some 22), none, .nck (.tmp 21)⟩ (.take 2 ⟨(some 23), none, .fad 0 (.tmp 22)⟩ (.take 3 ⟨(some 24), none, .ld (.tmp 23)⟩ (.take 4 ⟨(some 25), none, .fad 0 (.tmp 3)⟩ (.take 5 ⟨(some 26), none, .ld (.tmp 25)⟩ (.take 6 ⟨(some 27), none, .fad 2 (.tmp 3)⟩ (.take 7 ⟨(some 28), none, .ld (.tmp 27)⟩ (.take 8 ⟨(some 29), none, .ixA 1 (.tmp 24) (.tmp 26)⟩ (.step 9 false ⟨none, none, .st (.tmp 29) (.tmp 28)⟩ .done)))))))))))
 (.prune [5, 4, 0, 3] (.seq (.draw (.take 0 ⟨(some 30), none, .mv (.tmp 0)⟩ (.take 1 ⟨(some 31), none, .nck (.tmp 30)⟩ (.take 2 ⟨(some 32), none, .fad 2 (.tmp 31)⟩ (.take 3 ⟨(some 33), none, .ld (.tmp 32)⟩ (.take 4 ⟨(some 34), none, .fad 0 (.tmp 3)⟩ (.take 5 ⟨(some 35), none, .ld (.tmp 34)⟩ (.take 6 ⟨(some 36), none, .mv (.tmp 5)⟩ (.take 7 ⟨(some 37), none, .ixA 1 (.tmp 33) (.tmp 35)⟩ (.step 8 false ⟨none, none, .st (.tmp 37) (.tmp 36)⟩ .done))))))))))
 (.prune [5, 4, 0, 3] (.seq (.seq (.row [⟨(some 38), none, .mv (.tmp 5)⟩,
   ⟨(some 39), none, .ibin .neq .i64 (.tmp 38) (.const (.int .i64 (-1)))⟩])
 (.prune [39, 5, 4, 0, 3] (.cond (.tmp 39)
  (.draw (.take 0 ⟨(some 40), none, .mv (.tmp 0)⟩ (.take 1 ⟨(some 41), none, .nck (.tmp 40)⟩ (.take 2 ⟨(some 42), none, .fad 1 (.tmp 41)⟩ (.take 3 ⟨(some 43), none, .ld (.tmp 42)⟩ (.take 4 ⟨(some 44), none, .mv (.tmp 5)⟩ (.take 5 ⟨(some 45), none, .fad 0 (.tmp 3)⟩ (.take 6 ⟨(some 46), none, .ld (.tmp 45)⟩ (.take 7 ⟨(some 47), none, .ixA 1 (.tmp 43) (.tmp 44)⟩ (.step 8 false ⟨none, none, .st (.tmp 47) (.tmp 46)⟩ .done))))))))))
  .skip)))
 (.prune [4, 0, 3] (.seq (.row [⟨(some 48), none, .mv (.tmp 0)⟩,
   ⟨(some 49), none, .nck (.tmp 48)⟩,
   ⟨(some 50), none, .fad 4 (.tmp 49)⟩,
   ⟨(some 51), none, .ld (.tmp 50)⟩,
   ⟨(some 52), none, .mv (.tmp 4)⟩,
   ⟨(some 53), none, .call 15 [(.tmp 51), (.tmp 52)]⟩])
 (.prune [0, 3] (.seq (.row [⟨(some 54), none, .mv (.tmp 0)⟩,
   ⟨(some 55), none, .fad 0 (.tmp 3)⟩,
   ⟨(some 56), none, .ld (.tmp 55)⟩,
   ⟨(some 57), none, .call 57 [(.tmp 54), (.tmp 56)]⟩])
 (.prune [0, 3] (.draw (.take 0 ⟨(some 58), none, .mv (.tmp 0)⟩ (.take 1 ⟨(some 59), none, .mv (.tmp 0)⟩ (.take 2 ⟨(some 60), none, .nck (.tmp 59)⟩ (.take 3 ⟨(some 61), none, .fad 1 (.tmp 60)⟩ (.take 4 ⟨(some 62), none, .ld (.tmp 61)⟩ (.take 5 ⟨(some 63), none, .fad 0 (.tmp 3)⟩ (.take 6 ⟨(some 64), none, .ld (.tmp 63)⟩ (.take 7 ⟨(some 65), none, .ixA 1 (.tmp 62) (.tmp 64)⟩ (.take 8 ⟨(some 66), none, .ld (.tmp 65)⟩ (.step 9 true ⟨(some 67), none, .call 57 [(.tmp 58), (.tmp 66)]⟩ .done)))))))))))))))))))))))))))
theorem ok58 : fits Try.prog 58 ⟨s58, 68, []⟩ = some ⟨s58, 68, []⟩ := by kernel_rfl
theorem go58 {args : List Value} {w : World} {R : Value → World → Prop} (hle : Nat.ble args.length 68 = true) (h : vc Try.prog 68 s58 (argEnv args 0) w (fun L w => resL L w [] fun vs => oneOr vs fun v => R v w) (fun _ _ _ => False) (fun L w => resL L w [] fun vs => oneOr vs fun v => R v w)) : Cal Try.prog 58 ⟨args⟩ w R := cal_of mo ok58 hle h

end Fb.Try
