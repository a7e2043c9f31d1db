/-
  Made by a program of ours (wip/tools/slim.lean): the slim code of this claim's functions, each held against the model's code by one closed fact.
-/
import Derived.Test.YtlcnldimfgbjeaaB1
import Derived.Test.YtlcnldimfgbjeaaChecked
namespace Fb.Try
open Go Go.Proofs Fb

theorem mo : Try.prog.follows .mixedOrders = true := by kernel_rfl

-- footbridge/footbridgelaw10.PairSteps
def s4 : S := (.seq (.row [⟨(some 2), none, .box 46 (.tmp 0)⟩,
   ⟨(some 4), none, .mv (.const (.bool false))⟩])
 (.prune [2, 1] (.seq (.seq (.row [⟨(some 16), none, .ldn 3 (.tmp 2)⟩,
   ⟨(some 17), none, .mv (.tmp 1)⟩,
   ⟨(some 18), none, .call 21 [(.tmp 16), (.tmp 17)]⟩,
   ⟨(some 19), none, .mv (.tmp 18)⟩,
   ⟨(some 20), (some (19, false)), .ldn 3 (.tmp 2)⟩,
   ⟨(some 21), (some (19, false)), .call 22 [(.tmp 20)]⟩,
   ⟨(some 22), (some (19, false)), .notB (.tmp 21)⟩,
   ⟨(some 23), none, .pick (.tmp 19) (.const (.bool true)) (.tmp 22)⟩])
 (.prune [23, 2, 1] (.cond (.tmp 23)
  (.seq (.row [⟨(some 24), none, .call 23 []⟩,
    ⟨(some 4), none, .mv (.tmp 24)⟩])
  (.prune [4] .ret))
  .skip)))
 (.prune [1, 2] (.seq (.row [⟨(some 26), none, .ldn 3 (.tmp 2)⟩,
   ⟨(some 27), none, .call 24 [(.tmp 26)]⟩,
   ⟨(some 25), none, .mv (.tmp 27)⟩,
   ⟨(some 28), none, .ext (.tmp 25) 0⟩,
   ⟨(some 29), none, .ext (.tmp 25) 1⟩,
   ⟨(some 5), none, .mv (.tmp 28)⟩,
   ⟨(some 6), none, .mv (.tmp 29)⟩])
 (.prune [5, 1, 2] (.seq (.row [⟨(some 31), none, .mv (.tmp 5)⟩,
   ⟨(some 32), none, .mv (.tmp 1)⟩,
   ⟨(some 33), none, .call 25 [(.tmp 31), (.tmp 32)]⟩,
   ⟨(some 30), none, .mv (.tmp 33)⟩,
   ⟨(some 34), none, .ext (.tmp 30) 0⟩,
   ⟨(some 35), none, .ext (.tmp 30) 1⟩,
   ⟨(some 36), none, .ext (.tmp 30) 2⟩,
   ⟨(some 8), none, .new [(.int .i64 0), (.int .i64 0), (.int .i64 0), (.int .i64 0)] 55⟩,
   ⟨(some 7), none, .mv (.tmp 34)⟩,
   ⟨none, none, .stn 4 (.tmp 8) (.tmp 35)⟩,
   ⟨(some 9), none, .mv (.tmp 36)⟩])
 (.prune [5, 1, 9, 8, 7, 2] (.seq (.row [⟨(some 38), none, .ldn 3 (.tmp 2)⟩,
   ⟨(some 39), none, .mv (.tmp 1)⟩,
   ⟨(some 40), none, .call 26 [(.tmp 38), (.tmp 39)]⟩,
   ⟨(some 37), none, .mv (.tmp 40)⟩,
   ⟨(some 41), none, .ext (.tmp 37) 0⟩,
   ⟨(some 42), none, .ext (.tmp 37) 1⟩,
   ⟨(some 10), none, .mv (.tmp 41)⟩,
   ⟨(some 11), none, .mv (.tmp 42)⟩])
 (.prune [5, 1, 9, 8, 7, 10, 2, 11] (.seq (.row [⟨(some 44), none, .mv (.tmp 5)⟩,
   ⟨(some 45), none, .mv (.tmp 1)⟩,
   ⟨(some 46), none, .call 27 [(.tmp 44), (.tmp 45)]⟩,
   ⟨(some 43), none, .mv (.tmp 46)⟩,
   ⟨(some 47), none, .ext (.tmp 43) 0⟩,
   ⟨(some 48), none, .ext (.tmp 43) 1⟩,
   ⟨(some 12), none, .mv (.tmp 47)⟩,
   ⟨(some 13), none, .mv (.tmp 48)⟩])
 (.prune [1, 9, 13, 12, 8, 7, 10, 2, 11] (.seq (.row [⟨(some 50), none, .ldn 3 (.tmp 2)⟩,
   ⟨(some 51), none, .mv (.tmp 1)⟩,
   ⟨(some 52), none, .call 28 [(.tmp 50), (.tmp 51)]⟩,
   ⟨(some 49), none, .mv (.tmp 52)⟩,
   ⟨(some 53), none, .ext (.tmp 49) 0⟩,
   ⟨(some 54), none, .ext (.tmp 49) 1⟩,
   ⟨(some 14), none, .mv (.tmp 53)⟩,
   ⟨(some 15), none, .mv (.tmp 54)⟩])
 (.prune [9, 13, 12, 14, 8, 7, 10, 2, 11, 15] (.seq (.seq (.row [⟨(some 55), none, .mv (.tmp 9)⟩,
   ⟨(some 56), none, .mv (.tmp 15)⟩,
   ⟨(some 57), none, .bbin true (.tmp 55) (.tmp 56)⟩,
   ⟨(some 58), none, .mv (.tmp 57)⟩,
   ⟨(some 59), (some (58, false)), .mv (.tmp 13)⟩,
   ⟨(some 60), (some (58, false)), .mv (.tmp 15)⟩,
   ⟨(some 61), (some (58, false)), .bbin true (.tmp 59) (.tmp 60)⟩,
   ⟨(some 62), none, .pick (.tmp 58) (.const (.bool true)) (.tmp 61)⟩,
   ⟨(some 63), none, .mv (.tmp 62)⟩,
   ⟨(some 64), (some (63, false)), .mv (.tmp 12)⟩,
   ⟨(some 65), (some (63, false)), .mv (.tmp 14)⟩,
   ⟨(some 66), (some (63, false)), .call 29 [(.tmp 64), (.tmp 65)]⟩,
   ⟨(some 67), (some (63, false)), .notB (.tmp 66)⟩,
   ⟨(some 68), none, .pick (.tmp 63) (.const (.bool true)) (.tmp 67)⟩])
 (.prune [68, 8, 7, 10, 2, 11, 15] (.cond (.tmp 68)
  (.seq (.row [⟨(some 4), none, .mv (.const (.bool false))⟩])
  (.prune [4] .ret))
  .skip)))
 (.prune [15, 11, 2, 10, 7, 8] (.seq (.seq (.row [⟨(some 69), none, .mv (.tmp 15)⟩,
   ⟨(some 70), none, .notB (.tmp 69)⟩])
 (.prune [70, 11, 2, 10, 7, 8] (.cond (.tmp 70)
  (.seq (.row [⟨(some 71), none, .call 23 []⟩,
    ⟨(some 72), none, .mv (.tmp 71)⟩,
    ⟨(some 73), (some (72, true)), .mv (.tmp 7)⟩,
    ⟨(some 74), (some (72, true)), .ibin .eql .i64 (.tmp 73) (.const (.int .i64 0))⟩,
    ⟨(some 75), none, .pick (.tmp 72) (.tmp 74) (.const (.bool false))⟩,
    ⟨(some 76), none, .mv (.tmp 75)⟩,
    ⟨(some 77), (some (76, true)), .ldn 4 (.tmp 8)⟩,
    ⟨(some 78), (some (76, true)), .bld [(.int .i64 0), (.int .i64 0), (.int .i64 0), (.int .i64 0)] [] []⟩,
    ⟨(some 79), (some (76, true)), .get (.eq .eql 55 (.tmp 77) (.tmp 78)) [(.tmp 77), (.tmp 78)]⟩,
    ⟨(some 80), none, .pick (.tmp 76) (.tmp 79) (.const (.bool false))⟩,
    ⟨(some 4), none, .mv (.tmp 80)⟩])
  (.prune [4] .ret))
  .skip)))
 (.prune [7, 10, 8, 2, 11] (.seq (.draw (.step 0 true ⟨(some 81), none, .call 23 []⟩ (.take 1 ⟨(some 82), none, .mv (.tmp 81)⟩ (.take 2 ⟨(some 83), (some (82, true)), .mv (.tmp 7)⟩ (.take 3 ⟨(some 84), (some (82, true)), .mv (.tmp 10)⟩ (.take 4 ⟨(some 85), (some (82, true)), .ibin .eql .i64 (.tmp 83) (.tmp 84)⟩ (.take 5 ⟨(some 86), none, .pick (.tmp 82) (.tmp 85) (.const (.bool false))⟩ (.take 6 ⟨(some 87), none, .mv (.tmp 86)⟩ (.take 7 ⟨(some 88), (some (87, true)), .ldn 4 (.tmp 8)⟩ (.take 8 ⟨(some 89), (some (87, true)), .fad 1 (.tmp 2)⟩ (.take 9 ⟨(some 90), (some (87, true)), .ld (.tmp 89)⟩ (.take 10 ⟨(some 91), (some (87, true)), .mv (.tmp 11)⟩ (.take 11 ⟨(some 92), (some (87, true)), .ixA 4 (.tmp 90) (.tmp 91)⟩ (.take 12 ⟨(some 93), (some (87, true)), .ldn 4 (.tmp 92)⟩ (.take 13 ⟨(some 94), (some (87, true)), .get (.eq .eql 55 (.tmp 88) (.tmp 93)) [(.tmp 88), (.tmp 93)]⟩ (.take 14 ⟨(some 95), none, .pick (.tmp 87) (.tmp 94) (.const (.bool false))⟩ (.take 15 ⟨(some 4), none, .mv (.tmp 95)⟩ .done)))))))))))))))))
 (.prune [4] .ret))))))))))))))))))))
theorem ok4 : fits Try.prog 4 ⟨s4, 96, [.tmp 4]⟩ = some ⟨s4, 96, [.tmp 4]⟩ := by kernel_rfl
theorem go4 {args : List Value} {w : World} {R : Value → World → Prop} (hle : Nat.ble args.length 96 = true) (h : vc Try.prog 96 s4 (argEnv args 0) w (fun L w => resL L w [.tmp 4] fun vs => oneOr vs fun v => R v w) (fun _ _ _ => False) (fun L w => resL L w [.tmp 4] fun vs => oneOr vs fun v => R v w)) : Cal Try.prog 4 ⟨args⟩ w R := cal_of mo ok4 hle h

-- footbridge/footbridgelaw10.great
def s21 : S := (.seq (.row [⟨(some 2), none, .box 46 (.tmp 0)⟩,
   ⟨(some 4), none, .mv (.const (.bool false))⟩])
 (.prune [2, 1] (.seq (.row [⟨(some 5), none, .ldn 3 (.tmp 2)⟩,
   ⟨(some 6), none, .call 35 [(.tmp 5)]⟩,
   ⟨(some 7), none, .mv (.tmp 6)⟩,
   ⟨(some 8), (some (7, false)), .mv (.tmp 1)⟩,
   ⟨(some 9), (some (7, false)), .lenA (.tmp 8)⟩,
   ⟨(some 10), (some (7, false)), .ibin .gtr .i64 (.tmp 9) (.const (.int .i64 60))⟩,
   ⟨(some 11), none, .pick (.tmp 7) (.const (.bool true)) (.tmp 10)⟩,
   ⟨(some 4), none, .mv (.tmp 11)⟩])
 (.prune [4] .ret))))
theorem ok21 : fits Try.prog 21 ⟨s21, 12, [.tmp 4]⟩ = some ⟨s21, 12, [.tmp 4]⟩ := by kernel_rfl
theorem go21 {args : List Value} {w : World} {R : Value → World → Prop} (hle : Nat.ble args.length 12 = true) (h : vc Try.prog 12 s21 (argEnv args 0) w (fun L w => resL L w [.tmp 4] fun vs => oneOr vs fun v => R v w) (fun _ _ _ => False) (fun L w => resL L w [.tmp 4] fun vs => oneOr vs fun v => R v w)) : Cal Try.prog 21 ⟨args⟩ w R := cal_of mo ok21 hle h

-- footbridge/footbridgeref09.May
def s22 : S := (.seq (.row [⟨(some 1), none, .box 46 (.tmp 0)⟩,
   ⟨(some 2), none, .mv (.const (.bool false))⟩])
 (.prune [1] (.seq (.row [⟨(some 3), none, .fad 0 (.tmp 1)⟩,
   ⟨(some 4), none, .ld (.tmp 3)⟩,
   ⟨(some 5), none, .call 46 [(.tmp 4)]⟩,
   ⟨(some 6), none, .mv (.tmp 5)⟩,
   ⟨(some 7), (some (6, true)), .ldn 3 (.tmp 1)⟩,
   ⟨(some 8), (some (6, true)), .call 47 [(.tmp 7)]⟩,
   ⟨(some 9), none, .pick (.tmp 6) (.tmp 8) (.const (.bool false))⟩,
   ⟨(some 10), none, .mv (.tmp 9)⟩,
   ⟨(some 11), (some (10, true)), .ldn 3 (.tmp 1)⟩,
   ⟨(some 12), (some (10, true)), .call 48 [(.tmp 11)]⟩,
   ⟨(some 13), none, .pick (.tmp 10) (.tmp 12) (.const (.bool false))⟩,
   ⟨(some 14), none, .mv (.tmp 13)⟩,
   ⟨(some 15), (some (14, true)), .ldn 3 (.tmp 1)⟩,
   ⟨(some 16), (some (14, true)), .call 49 [(.tmp 15)]⟩,
   ⟨(some 17), none, .pick (.tmp 14) (.tmp 16) (.const (.bool false))⟩,
   ⟨(some 2), none, .mv (.tmp 17)⟩])
 (.prune [2] .ret))))
theorem ok22 : fits Try.prog 22 ⟨s22, 18, [.tmp 2]⟩ = some ⟨s22, 18, [.tmp 2]⟩ := by kernel_rfl
theorem go22 {args : List Value} {w : World} {R : Value → World → Prop} (hle : Nat.ble args.length 18 = true) (h : vc Try.prog 18 s22 (argEnv args 0) w (fun L w => resL L w [.tmp 2] fun vs => oneOr vs fun v => R v w) (fun _ _ _ => False) (fun L w => resL L w [.tmp 2] fun vs => oneOr vs fun v => R v w)) : Cal Try.prog 22 ⟨args⟩ w R := cal_of mo ok22 hle h

-- footbridge/footbridgelaw10.fixed
def s23 : S := (.seq (.row [⟨(some 0), none, .mv (.const (.bool false))⟩])
 (.prune [] (.seq (.row [⟨(some 6), none, .bsl 9 2 [(.string ⟨#[]⟩), (.string ⟨#[]⟩)] [(0, 1), (1, 1)] [(.const (.string ⟨#[97, 98]⟩)), (.const (.string ⟨#[98, 99]⟩))]⟩,
   ⟨(some 7), none, .call 50 [(.tmp 6), (.const (.slice none 0 0))]⟩,
   ⟨(some 5), none, .mv (.tmp 7)⟩,
   ⟨(some 8), none, .ext (.tmp 5) 0⟩,
   ⟨(some 9), none, .ext (.tmp 5) 1⟩,
   ⟨(some 1), none, .new [(.slice none 0 0), (.slice none 0 0), (.slice none 0 0)] 46⟩,
   ⟨none, none, .stn 3 (.tmp 1) (.tmp 8)⟩,
   ⟨(some 2), none, .mv (.tmp 9)⟩])
 (.prune [1, 2] (.seq (.row [⟨(some 11), none, .ldn 3 (.tmp 1)⟩,
   ⟨(some 12), none, .call 24 [(.tmp 11)]⟩,
   ⟨(some 10), none, .mv (.tmp 12)⟩,
   ⟨(some 13), none, .ext (.tmp 10) 0⟩,
   ⟨(some 14), none, .ext (.tmp 10) 1⟩,
   ⟨(some 3), none, .mv (.tmp 13)⟩,
   ⟨(some 4), none, .mv (.tmp 14)⟩])
 (.prune [2, 4, 3] (.seq (.row [⟨(some 15), none, .mv (.tmp 2)⟩,
   ⟨(some 16), none, .mv (.tmp 15)⟩,
   ⟨(some 17), (some (16, true)), .mv (.tmp 4)⟩,
   ⟨(some 18), (some (16, true)), .ibin .eql .i64 (.tmp 17) (.const (.int .i64 0))⟩,
   ⟨(some 19), none, .pick (.tmp 16) (.tmp 18) (.const (.bool false))⟩,
   ⟨(some 20), none, .mv (.tmp 19)⟩,
   ⟨(some 21), (some (20, true)), .mv (.tmp 3)⟩,
   ⟨(some 22), (some (20, true)), .bsl 3 3 [(.int .i64 0), (.int .i64 0), (.int .i64 0)] [(0, 1), (1, 1), (2, 1)] [(.const (.int .i64 97)), (.const (.int .i64 98)), (.const (.int .i64 99))]⟩,
   ⟨(some 23), (some (20, true)), .call 40 [(.tmp 21), (.tmp 22)]⟩,
   ⟨(some 24), (some (20, true)), .bsl 3 2 [(.int .i64 0), (.int .i64 0)] [(0, 1), (1, 1)] [(.const (.int .i64 256)), (.const (.int .i64 99))]⟩,
   ⟨(some 25), (some (20, true)), .call 29 [(.tmp 23), (.tmp 24)]⟩,
   ⟨(some 26), none, .pick (.tmp 20) (.tmp 25) (.const (.bool false))⟩,
   ⟨(some 27), none, .mv (.tmp 26)⟩,
   ⟨(some 28), (some (27, true)), .mv (.tmp 3)⟩,
   ⟨(some 29), (some (27, true)), .bsl 3 3 [(.int .i64 0), (.int .i64 0), (.int .i64 0)] [(0, 1), (1, 1), (2, 1)] [(.const (.int .i64 98)), (.const (.int .i64 99)), (.const (.int .i64 98))]⟩,
   ⟨(some 30), (some (27, true)), .call 40 [(.tmp 28), (.tmp 29)]⟩,
   ⟨(some 31), (some (27, true)), .bsl 3 2 [(.int .i64 0), (.int .i64 0)] [(0, 1), (1, 1)] [(.const (.int .i64 257)), (.const (.int .i64 98))]⟩,
   ⟨(some 32), (some (27, true)), .call 29 [(.tmp 30), (.tmp 31)]⟩,
   ⟨(some 33), none, .pick (.tmp 27) (.tmp 32) (.const (.bool false))⟩,
   ⟨(some 0), none, .mv (.tmp 33)⟩])
 (.prune [0] .ret))))))))
theorem ok23 : fits Try.prog 23 ⟨s23, 34, [.tmp 0]⟩ = some ⟨s23, 34, [.tmp 0]⟩ := by kernel_rfl
theorem go23 {args : List Value} {w : World} {R : Value → World → Prop} (hle : Nat.ble args.length 34 = true) (h : vc Try.prog 34 s23 (argEnv args 0) w (fun L w => resL L w [.tmp 0] fun vs => oneOr vs fun v => R v w) (fun _ _ _ => False) (fun L w => resL L w [.tmp 0] fun vs => oneOr vs fun v => R v w)) : Cal Try.prog 23 ⟨args⟩ w R := cal_of mo ok23 hle h

-- footbridge/pair.New
def s24 : S := (.seq (.row [⟨(some 1), none, .box 46 (.tmp 0)⟩,
   ⟨(some 2), none, .mv (.const (.pointer none))⟩,
   ⟨(some 3), none, .mv (.const (.int .i64 0))⟩])
 (.prune [1] (.seq (.seq (.row [⟨(some 7), none, .ldn 3 (.tmp 1)⟩,
   ⟨(some 8), none, .call 51 [(.tmp 7)]⟩,
   ⟨(some 9), none, .notB (.tmp 8)⟩])
 (.prune [9, 1] (.cond (.tmp 9)
  (.seq (.row [⟨(some 2), none, .mv (.const (.pointer none))⟩,
    ⟨(some 3), none, .mv (.const (.int .i64 2))⟩])
  (.prune [2, 3] .ret))
  .skip)))
 (.prune [1] (.seq (.row [⟨(some 10), none, .fad 1 (.tmp 1)⟩,
   ⟨(some 11), none, .ld (.tmp 10)⟩,
   ⟨(some 12), none, .call 52 [(.tmp 11)]⟩,
   ⟨(some 13), none, .run (.makeMap 93) []⟩,
   ⟨(some 14), none, .bld [(.slice none 0 0), (.map none)] [(0, 1), (1, 1)] [(.tmp 12), (.tmp 13)]⟩,
   ⟨(some 15), none, .box 95 (.tmp 14)⟩,
   ⟨(some 4), none, .mv (.tmp 15)⟩])
 (.prune [1, 4] (.seq (.seq (.row [⟨(some 16), none, .fad 1 (.tmp 1)⟩,
   ⟨(some 17), none, .ld (.tmp 16)⟩,
   ⟨(some 18), none, .lenA (.tmp 17)⟩,
   ⟨(some 19), none, .mv (.const (.int .i64 0))⟩])
 (.prune [19, 4, 17, 18] (.block 0 (.loop [19] [5, 6, 19, 20, 21, 22, 23, 24, 25, 26, 27, 28, 29, 30, 31, 32, 33, 34] (.seq (.row [⟨(some 20), none, .ibin .lss .i64 (.tmp 19) (.tmp 18)⟩])
  (.prune [20, 19, 4, 17, 18] (.seq (.cond (.tmp 20)
   .skip
   (.exit 0))
  (.prune [19, 4, 17, 18] (.seq (.block 1 (.seq (.row [⟨(some 21), none, .mv (.tmp 19)⟩,
    ⟨(some 22), none, .ixA 4 (.tmp 17) (.tmp 19)⟩,
    ⟨(some 23), none, .ldn 4 (.tmp 22)⟩,
    ⟨(some 6), none, .new [(.int .i64 0), (.int .i64 0), (.int .i64 0), (.int .i64 0)] 55⟩,
    ⟨(some 5), none, .mv (.tmp 21)⟩,
    ⟨none, none, .stn 4 (.tmp 6) (.tmp 23)⟩])
  (.prune [6, 5, 19, 4, 17, 18] (.draw (.take 0 ⟨(some 24), none, .mv (.tmp 4)⟩ (.take 1 ⟨(some 25), none, .nck (.tmp 24)⟩ (.take 2 ⟨(some 26), none, .fad 1 (.tmp 25)⟩ (.take 3 ⟨(some 27), none, .ld (.tmp 26)⟩ (.take 4 ⟨(some 28), none, .fad 0 (.tmp 6)⟩ (.take 5 ⟨(some 29), none, .ld (.tmp 28)⟩ (.take 6 ⟨(some 30), none, .fad 1 (.tmp 6)⟩ (.take 7 ⟨(some 31), none, .ld (.tmp 30)⟩ (.take 8 ⟨(some 32), none, .bld [(.int .i64 0), (.int .i64 0)] [(0, 1), (1, 1)] [(.tmp 29), (.tmp 31)]⟩ (.take 9 ⟨(some 33), none, .mv (.tmp 5)⟩ (.step 10 false ⟨none, none, .run (.mapUpdate 93) [(.tmp 27), (.tmp 32), (.tmp 33)]⟩ .done)))))))))))))))
  (.prune [19, 4, 17, 18] (.row [⟨(some 34), none, .ibin .add .i64 (.tmp 19) (.const (.int .i64 1))⟩,
    ⟨(some 19), none, .mv (.tmp 34)⟩])))))))))))
 (.prune [4] (.seq (.row [⟨(some 35), none, .mv (.tmp 4)⟩,
   ⟨(some 2), none, .mv (.tmp 35)⟩,
   ⟨(some 3), none, .mv (.const (.int .i64 0))⟩])
 (.prune [2, 3] .ret))))))))))
theorem ok24 : fits Try.prog 24 ⟨s24, 36, [.tmp 2, .tmp 3]⟩ = some ⟨s24, 36, [.tmp 2, .tmp 3]⟩ := by kernel_rfl
theorem go24 {args : List Value} {w : World} {R : Value → World → Prop} (hle : Nat.ble args.length 36 = true) (h : vc Try.prog 36 s24 (argEnv args 0) w (fun L w => resL L w [.tmp 2, .tmp 3] fun vs => oneOr vs fun v => R v w) (fun _ _ _ => False) (fun L w => resL L w [.tmp 2, .tmp 3] fun vs => oneOr vs fun v => R v w)) : Cal Try.prog 24 ⟨args⟩ w R := cal_of mo ok24 hle h

-- (*footbridge/pair.Table).Best
def s25 : S := (.seq (.row [⟨(some 4), none, .mv (.const (.int .i64 0))⟩,
   ⟨(some 5), none, .new [(.int .i64 0), (.int .i64 0), (.int .i64 0), (.int .i64 0)] 55⟩,
   ⟨(some 6), none, .mv (.const (.bool false))⟩])
 (.prune [1, 0, 5] (.seq (.row [⟨(some 13), none, .bld [(.int .i64 0), (.int .i64 0), (.int .i64 0), (.int .i64 0)] [] []⟩,
   ⟨(some 8), none, .new [(.int .i64 0), (.int .i64 0), (.int .i64 0), (.int .i64 0)] 55⟩,
   ⟨(some 7), none, .mv (.const (.int .i64 0))⟩,
   ⟨none, none, .stn 4 (.tmp 8) (.tmp 13)⟩,
   ⟨(some 9), none, .mv (.const (.bool false))⟩])
 (.prune [8, 9, 1, 0, 7, 5] (.seq (.seq (.row [⟨(some 10), none, .mv (.const (.int .i64 1))⟩])
 (.prune [10, 8, 9, 1, 0, 7, 5] (.block 0 (.loop [7, 9, 10] [7, 9, 10, 11, 12, 14, 15, 16, 17, 18, 19, 20, 21, 22, 23, 24, 25, 26, 27, 28, 29, 30, 31, 32, 33, 34, 35, 36, 37, 38, 39, 40, 41, 42, 43, 44, 45, 46, 47, 48] (.seq (.seq (.row [⟨(some 14), none, .mv (.tmp 10)⟩,
    ⟨(some 15), none, .mv (.tmp 1)⟩,
    ⟨(some 16), none, .lenA (.tmp 15)⟩,
    ⟨(some 17), none, .ibin .lss .i64 (.tmp 14) (.tmp 16)⟩])
  (.prune [17, 7, 9, 10, 8, 1, 0, 5] (.cond (.tmp 17)
   .skip
   (.exit 0))))
  (.prune [7, 9, 10, 8, 1, 0, 5] (.seq (.block 1 (.seq (.draw (.take 0 ⟨(some 21), none, .mv (.tmp 0)⟩ (.take 1 ⟨(some 22), none, .mv (.tmp 1)⟩ (.take 2 ⟨(some 23), none, .mv (.tmp 10)⟩ (.take 3 ⟨(some 24), none, .ibin .sub .i64 (.tmp 23) (.const (.int .i64 1))⟩ (.take 4 ⟨(some 25), none, .ixA 1 (.tmp 22) (.tmp 24)⟩ (.take 5 ⟨(some 26), none, .ld (.tmp 25)⟩ (.take 6 ⟨(some 27), none, .mv (.tmp 1)⟩ (.take 7 ⟨(some 28), none, .mv (.tmp 10)⟩ (.take 8 ⟨(some 29), none, .ixA 1 (.tmp 27) (.tmp 28)⟩ (.take 9 ⟨(some 30), none, .ld (.tmp 29)⟩ (.alt (.step 10 false ⟨(some 31), none, .call 53 [(.tmp 21), (.tmp 26), (.tmp 30)]⟩ (.take 11 ⟨(some 20), none, .mv (.tmp 31)⟩ (.take 12 ⟨(some 32), none, .ext (.tmp 20) 0⟩ (.take 13 ⟨(some 33), none, .ext (.tmp 20) 1⟩ (.step 14 true ⟨(some 11), none, .new [(.int .i64 0), (.int .i64 0), (.int .i64 0), (.int .i64 0)] 55⟩ (.step 15 false ⟨none, none, .stn 4 (.tmp 11) (.tmp 32)⟩ (.take 16 ⟨(some 12), none, .mv (.tmp 33)⟩ .done))))))) (.step 14 true ⟨(some 11), none, .new [(.int .i64 0), (.int .i64 0), (.int .i64 0), (.int .i64 0)] 55⟩ (.step 10 false ⟨(some 31), none, .call 53 [(.tmp 21), (.tmp 26), (.tmp 30)]⟩ (.take 11 ⟨(some 20), none, .mv (.tmp 31)⟩ (.take 12 ⟨(some 32), none, .ext (.tmp 20) 0⟩ (.take 13 ⟨(some 33), none, .ext (.tmp 20) 1⟩ (.step 15 false ⟨none, none, .stn 4 (.tmp 11) (.tmp 32)⟩ (.take 16 ⟨(some 12), none, .mv (.tmp 33)⟩ .done)))))))))))))))))))
  (.prune [12, 7, 9, 11, 10, 8, 1, 0, 5] (.seq (.row [⟨(some 34), none, .mv (.tmp 12)⟩,
    ⟨(some 35), none, .mv (.tmp 34)⟩,
    ⟨(some 36), (some (35, true)), .mv (.tmp 9)⟩,
    ⟨(some 37), (some (35, true)), .notB (.tmp 36)⟩,
    ⟨(some 38), (some (35, true)), .mv (.tmp 37)⟩,
    ⟨(some 39), (some (38, false)), .fad 3 (.tmp 11)⟩,
    ⟨(some 40), (some (38, false)), .ld (.tmp 39)⟩,
    ⟨(some 41), (some (38, false)), .fad 3 (.tmp 8)⟩,
    ⟨(some 42), (some (38, false)), .ld (.tmp 41)⟩,
    ⟨(some 43), (some (38, false)), .ibin .lss .i64 (.tmp 40) (.tmp 42)⟩,
    ⟨(some 44), (some (35, true)), .pick (.tmp 38) (.const (.bool true)) (.tmp 43)⟩,
    ⟨(some 45), none, .pick (.tmp 35) (.tmp 44) (.const (.bool false))⟩])
  (.prune [45, 7, 9, 11, 10, 8, 1, 0, 5] (.cond (.tmp 45)
   (.draw (.take 0 ⟨(some 46), none, .mv (.tmp 10)⟩ (.take 1 ⟨(some 47), none, .ibin .sub .i64 (.tmp 46) (.const (.int .i64 1))⟩ (.take 2 ⟨(some 48), none, .ldn 4 (.tmp 11)⟩ (.take 3 ⟨(some 7), none, .mv (.tmp 47)⟩ (.step 4 false ⟨none, none, .stn 4 (.tmp 8) (.tmp 48)⟩ (.take 5 ⟨(some 9), none, .mv (.const (.bool true))⟩ .done)))))))
   .skip))))))
  (.prune [10, 8, 9, 1, 0, 7, 5] (.row [⟨(some 18), none, .mv (.tmp 10)⟩,
    ⟨(some 19), none, .ibin .add .i64 (.tmp 18) (.const (.int .i64 1))⟩,
    ⟨(some 10), none, .mv (.tmp 19)⟩])))))))))
 (.prune [7, 8, 9, 5] (.seq (.draw (.take 0 ⟨(some 49), none, .mv (.tmp 7)⟩ (.take 1 ⟨(some 50), none, .ldn 4 (.tmp 8)⟩ (.take 2 ⟨(some 51), none, .mv (.tmp 9)⟩ (.take 3 ⟨(some 4), none, .mv (.tmp 49)⟩ (.step 4 false ⟨none, none, .stn 4 (.tmp 5) (.tmp 50)⟩ (.take 5 ⟨(some 6), none, .mv (.tmp 51)⟩ .done)))))))
 (.prune [4, 5, 6] .ret))))))))
theorem ok25 : fits Try.prog 25 ⟨s25, 52, [.tmp 4, .cell 5 (some 4), .tmp 6]⟩ = some ⟨s25, 52, [.tmp 4, .cell 5 (some 4), .tmp 6]⟩ := by kernel_rfl
theorem go25 {args : List Value} {w : World} {R : Value → World → Prop} (hle : Nat.ble args.length 52 = true) (h : vc Try.prog 52 s25 (argEnv args 0) w (fun L w => resL L w [.tmp 4, .cell 5 (some 4), .tmp 6] fun vs => oneOr vs fun v => R v w) (fun _ _ _ => False) (fun L w => resL L w [.tmp 4, .cell 5 (some 4), .tmp 6] fun vs => oneOr vs fun v => R v w)) : Cal Try.prog 25 ⟨args⟩ w R := cal_of mo ok25 hle h

-- footbridge/footbridgeref10.Best
def s26 : S := (.seq (.row [⟨(some 2), none, .box 46 (.tmp 0)⟩,
   ⟨(some 4), none, .mv (.const (.int .i64 0))⟩,
   ⟨(some 5), none, .mv (.const (.int .i64 0))⟩])
 (.prune [2, 1] (.seq (.row [⟨(some 6), none, .mv (.const (.int .i64 (-1)))⟩])
 (.prune [2, 1, 6] (.seq (.row [⟨(some 7), none, .mv (.const (.int .i64 (-1)))⟩])
 (.prune [7, 2, 1, 6] (.seq (.seq (.row [⟨(some 8), none, .mv (.const (.int .i64 0))⟩])
 (.prune [8, 7, 2, 1, 6] (.block 0 (.loop [6, 7, 8] [6, 7, 8, 9, 10, 11, 12, 13, 14, 15, 16, 17, 18, 19, 20, 21, 22, 23, 24, 25, 26, 27, 28, 29, 30, 31, 32, 33, 34, 35, 36, 37, 38, 39, 40, 41, 42, 43, 44, 45, 46, 47, 48, 49, 50] (.seq (.seq (.row [⟨(some 10), none, .mv (.tmp 8)⟩,
    ⟨(some 11), none, .ibin .add .i64 (.tmp 10) (.const (.int .i64 1))⟩,
    ⟨(some 12), none, .mv (.tmp 1)⟩,
    ⟨(some 13), none, .lenA (.tmp 12)⟩,
    ⟨(some 14), none, .ibin .lss .i64 (.tmp 11) (.tmp 13)⟩])
  (.prune [14, 6, 7, 8, 2, 1] (.cond (.tmp 14)
   .skip
   (.exit 0))))
  (.prune [6, 7, 8, 2, 1] (.seq (.block 1 (.seq (.draw (.take 0 ⟨(some 17), none, .ldn 3 (.tmp 2)⟩ (.take 1 ⟨(some 18), none, .mv (.tmp 1)⟩ (.take 2 ⟨(some 19), none, .mv (.tmp 8)⟩ (.take 3 ⟨(some 20), none, .ixA 1 (.tmp 18) (.tmp 19)⟩ (.take 4 ⟨(some 21), none, .ld (.tmp 20)⟩ (.take 5 ⟨(some 22), none, .mv (.tmp 1)⟩ (.take 6 ⟨(some 23), none, .mv (.tmp 8)⟩ (.take 7 ⟨(some 24), none, .ibin .add .i64 (.tmp 23) (.const (.int .i64 1))⟩ (.take 8 ⟨(some 25), none, .ixA 1 (.tmp 22) (.tmp 24)⟩ (.take 9 ⟨(some 26), none, .ld (.tmp 25)⟩ (.step 10 false ⟨(some 27), none, .call 54 [(.tmp 17), (.tmp 21), (.tmp 26)]⟩ (.take 11 ⟨(some 9), none, .mv (.tmp 27)⟩ .done)))))))))))))
  (.prune [6, 7, 9, 8, 2, 1] (.seq (.draw (.take 0 ⟨(some 28), none, .mv (.tmp 9)⟩ (.take 1 ⟨(some 29), none, .ibin .geq .i64 (.tmp 28) (.const (.int .i64 0))⟩ (.take 2 ⟨(some 30), none, .mv (.tmp 29)⟩ (.take 3 ⟨(some 31), (some (30, true)), .mv (.tmp 7)⟩ (.take 4 ⟨(some 32), (some (30, true)), .ibin .lss .i64 (.tmp 31) (.const (.int .i64 0))⟩ (.take 5 ⟨(some 33), (some (30, true)), .mv (.tmp 32)⟩ (.take 6 ⟨(some 34), (some (33, false)), .fad 1 (.tmp 2)⟩ (.take 7 ⟨(some 35), (some (33, false)), .ld (.tmp 34)⟩ (.take 8 ⟨(some 36), (some (33, false)), .mv (.tmp 9)⟩ (.take 9 ⟨(some 37), (some (33, false)), .ixA 4 (.tmp 35) (.tmp 36)⟩ (.take 10 ⟨(some 38), (some (33, false)), .fad 3 (.tmp 37)⟩ (.take 11 ⟨(some 39), (some (33, false)), .ld (.tmp 38)⟩ (.take 12 ⟨(some 40), (some (33, false)), .fad 1 (.tmp 2)⟩ (.take 13 ⟨(some 41), (some (33, false)), .ld (.tmp 40)⟩ (.take 14 ⟨(some 42), (some (33, false)), .mv (.tmp 7)⟩ (.take 15 ⟨(some 43), (some (33, false)), .ixA 4 (.tmp 41) (.tmp 42)⟩ (.take 16 ⟨(some 44), (some (33, false)), .fad 3 (.tmp 43)⟩ (.take 17 ⟨(some 45), (some (33, false)), .ld (.tmp 44)⟩ (.take 18 ⟨(some 46), (some (33, false)), .ibin .lss .i64 (.tmp 39) (.tmp 45)⟩ (.take 19 ⟨(some 47), (some (30, true)), .pick (.tmp 33) (.const (.bool true)) (.tmp 46)⟩ (.take 20 ⟨(some 48), none, .pick (.tmp 30) (.tmp 47) (.const (.bool false))⟩ .done))))))))))))))))))))))
  (.prune [48, 6, 7, 9, 8, 2, 1] (.cond (.tmp 48)
   (.seq (.row [⟨(some 49), none, .mv (.tmp 8)⟩,
     ⟨(some 6), none, .mv (.tmp 49)⟩])
   (.prune [9, 8, 2, 1, 6] (.row [⟨(some 50), none, .mv (.tmp 9)⟩,
     ⟨(some 7), none, .mv (.tmp 50)⟩])))
   .skip))))))
  (.prune [8, 7, 2, 1, 6] (.row [⟨(some 15), none, .mv (.tmp 8)⟩,
    ⟨(some 16), none, .ibin .add .i64 (.tmp 15) (.const (.int .i64 1))⟩,
    ⟨(some 8), none, .mv (.tmp 16)⟩])))))))))
 (.prune [6, 7] (.seq (.row [⟨(some 51), none, .mv (.tmp 6)⟩,
   ⟨(some 52), none, .mv (.tmp 7)⟩,
   ⟨(some 4), none, .mv (.tmp 51)⟩,
   ⟨(some 5), none, .mv (.tmp 52)⟩])
 (.prune [4, 5] .ret))))))))))
theorem ok26 : fits Try.prog 26 ⟨s26, 53, [.tmp 4, .tmp 5]⟩ = some ⟨s26, 53, [.tmp 4, .tmp 5]⟩ := by kernel_rfl
theorem go26 {args : List Value} {w : World} {R : Value → World → Prop} (hle : Nat.ble args.length 53 = true) (h : vc Try.prog 53 s26 (argEnv args 0) w (fun L w => resL L w [.tmp 4, .tmp 5] fun vs => oneOr vs fun v => R v w) (fun _ _ _ => False) (fun L w => resL L w [.tmp 4, .tmp 5] fun vs => oneOr vs fun v => R v w)) : Cal Try.prog 26 ⟨args⟩ w R := cal_of mo ok26 hle h

-- (*footbridge/pair.Table).Step
def s27 : S := (.seq (.row [⟨(some 4), none, .mv (.const (.slice none 0 0))⟩,
   ⟨(some 5), none, .mv (.const (.bool false))⟩])
 (.prune [0, 1] (.seq (.row [⟨(some 11), none, .mv (.tmp 0)⟩,
   ⟨(some 12), none, .mv (.tmp 1)⟩,
   ⟨(some 13), none, .call 25 [(.tmp 11), (.tmp 12)]⟩,
   ⟨(some 10), none, .mv (.tmp 13)⟩,
   ⟨(some 14), none, .ext (.tmp 10) 0⟩,
   ⟨(some 15), none, .ext (.tmp 10) 1⟩,
   ⟨(some 16), none, .ext (.tmp 10) 2⟩,
   ⟨(some 7), none, .new [(.int .i64 0), (.int .i64 0), (.int .i64 0), (.int .i64 0)] 55⟩,
   ⟨(some 6), none, .mv (.tmp 14)⟩,
   ⟨none, none, .stn 4 (.tmp 7) (.tmp 15)⟩,
   ⟨(some 8), none, .mv (.tmp 16)⟩])
 (.prune [8, 6, 1, 7] (.seq (.seq (.row [⟨(some 17), none, .mv (.tmp 8)⟩,
   ⟨(some 18), none, .notB (.tmp 17)⟩])
 (.prune [18, 6, 1, 7] (.cond (.tmp 18)
  (.seq (.row [⟨(some 4), none, .mv (.const (.slice none 0 0))⟩,
    ⟨(some 5), none, .mv (.const (.bool false))⟩])
  (.prune [4, 5] .ret))
  .skip)))
 (.prune [7, 1, 6] (.seq (.row [⟨(some 19), none, .mv (.tmp 1)⟩,
   ⟨(some 20), none, .lenA (.tmp 19)⟩,
   ⟨(some 21), none, .ibin .sub .i64 (.tmp 20) (.const (.int .i64 1))⟩,
   ⟨(some 22), none, .run (.makeSlice 47) [(.tmp 21), (.tmp 21)]⟩,
   ⟨(some 9), none, .mv (.tmp 22)⟩])
 (.prune [7, 1, 6, 9] (.seq (.row [⟨(some 23), none, .mv (.tmp 9)⟩,
   ⟨(some 24), none, .mv (.tmp 1)⟩,
   ⟨(some 25), none, .mv (.tmp 6)⟩,
   ⟨(some 26), none, .slc 1 (.tmp 24) none (some (.tmp 25))⟩,
   ⟨(some 27), none, .run (.bi .copy ⟨[47, 47]⟩ 3) [(.tmp 23), (.tmp 26)]⟩])
 (.prune [7, 1, 6, 9] (.seq (.row [⟨(some 28), none, .mv (.tmp 9)⟩,
   ⟨(some 29), none, .mv (.tmp 6)⟩,
   ⟨(some 30), none, .fad 2 (.tmp 7)⟩,
   ⟨(some 31), none, .ld (.tmp 30)⟩,
   ⟨(some 32), none, .ixA 1 (.tmp 28) (.tmp 29)⟩,
   ⟨none, none, .st (.tmp 32) (.tmp 31)⟩])
 (.prune [1, 6, 9] (.seq (.draw (.take 0 ⟨(some 33), none, .mv (.tmp 9)⟩ (.take 1 ⟨(some 34), none, .mv (.tmp 6)⟩ (.take 2 ⟨(some 35), none, .ibin .add .i64 (.tmp 34) (.const (.int .i64 1))⟩ (.take 3 ⟨(some 36), none, .slc 1 (.tmp 33) (some (.tmp 35)) none⟩ (.take 4 ⟨(some 37), none, .mv (.tmp 1)⟩ (.take 5 ⟨(some 38), none, .mv (.tmp 6)⟩ (.take 6 ⟨(some 39), none, .ibin .add .i64 (.tmp 38) (.const (.int .i64 2))⟩ (.take 7 ⟨(some 40), none, .slc 1 (.tmp 37) (some (.tmp 39)) none⟩ (.step 8 false ⟨(some 41), none, .run (.bi .copy ⟨[47, 47]⟩ 3) [(.tmp 36), (.tmp 40)]⟩ .done))))))))))
 (.prune [9] (.seq (.row [⟨(some 42), none, .mv (.tmp 9)⟩,
   ⟨(some 4), none, .mv (.tmp 42)⟩,
   ⟨(some 5), none, .mv (.const (.bool true))⟩])
 (.prune [4, 5] .ret))))))))))))))))
theorem ok27 : fits Try.prog 27 ⟨s27, 43, [.tmp 4, .tmp 5]⟩ = some ⟨s27, 43, [.tmp 4, .tmp 5]⟩ := by kernel_rfl
theorem go27 {args : List Value} {w : World} {R : Value → World → Prop} (hle : Nat.ble args.length 43 = true) (h : vc Try.prog 43 s27 (argEnv args 0) w (fun L w => resL L w [.tmp 4, .tmp 5] fun vs => oneOr vs fun v => R v w) (fun _ _ _ => False) (fun L w => resL L w [.tmp 4, .tmp 5] fun vs => oneOr vs fun v => R v w)) : Cal Try.prog 27 ⟨args⟩ w R := cal_of mo ok27 hle h

-- footbridge/footbridgeref10.Step
def s28 : S := (.seq (.row [⟨(some 2), none, .box 46 (.tmp 0)⟩,
   ⟨(some 4), none, .mv (.const (.slice none 0 0))⟩,
   ⟨(some 5), none, .mv (.const (.bool false))⟩])
 (.prune [1, 2] (.seq (.row [⟨(some 10), none, .ldn 3 (.tmp 2)⟩,
   ⟨(some 11), none, .mv (.tmp 1)⟩,
   ⟨(some 12), none, .call 26 [(.tmp 10), (.tmp 11)]⟩,
   ⟨(some 9), none, .mv (.tmp 12)⟩,
   ⟨(some 13), none, .ext (.tmp 9) 0⟩,
   ⟨(some 14), none, .ext (.tmp 9) 1⟩,
   ⟨(some 6), none, .mv (.tmp 13)⟩,
   ⟨(some 7), none, .mv (.tmp 14)⟩])
 (.prune [6, 1, 7, 2] (.seq (.seq (.row [⟨(some 15), none, .mv (.tmp 7)⟩,
   ⟨(some 16), none, .ibin .lss .i64 (.tmp 15) (.const (.int .i64 0))⟩])
 (.prune [16, 6, 1, 7, 2] (.cond (.tmp 16)
  (.seq (.row [⟨(some 17), none, .bsl 3 0 [] [] []⟩,
    ⟨(some 4), none, .mv (.tmp 17)⟩,
    ⟨(some 5), none, .mv (.const (.bool false))⟩])
  (.prune [4, 5] .ret))
  .skip)))
 (.prune [2, 7, 1, 6] (.seq (.row [⟨(some 18), none, .bsl 3 0 [] [] []⟩,
   ⟨(some 8), none, .mv (.tmp 18)⟩])
 (.prune [8, 2, 7, 1, 6] (.seq (.row [⟨(some 19), none, .mv (.tmp 8)⟩,
   ⟨(some 20), none, .mv (.tmp 1)⟩,
   ⟨(some 21), none, .mv (.tmp 6)⟩,
   ⟨(some 22), none, .slc 1 (.tmp 20) none (some (.tmp 21))⟩,
   ⟨(some 23), none, .run (.bi .append ⟨[47, 47]⟩ 47) [(.tmp 19), (.tmp 22)]⟩,
   ⟨(some 8), none, .mv (.tmp 23)⟩])
 (.prune [8, 2, 7, 1, 6] (.seq (.row [⟨(some 24), none, .mv (.tmp 8)⟩,
   ⟨(some 25), none, .fad 1 (.tmp 2)⟩,
   ⟨(some 26), none, .ld (.tmp 25)⟩,
   ⟨(some 27), none, .mv (.tmp 7)⟩,
   ⟨(some 28), none, .ixA 4 (.tmp 26) (.tmp 27)⟩,
   ⟨(some 29), none, .fad 2 (.tmp 28)⟩,
   ⟨(some 30), none, .ld (.tmp 29)⟩,
   ⟨(some 31), none, .bsl 3 1 [(.int .i64 0)] [(0, 1)] [(.tmp 30)]⟩,
   ⟨(some 32), none, .run (.bi .append ⟨[47, 47]⟩ 47) [(.tmp 24), (.tmp 31)]⟩,
   ⟨(some 8), none, .mv (.tmp 32)⟩])
 (.prune [8, 1, 6] (.seq (.row [⟨(some 33), none, .mv (.tmp 8)⟩,
   ⟨(some 34), none, .mv (.tmp 1)⟩,
   ⟨(some 35), none, .mv (.tmp 6)⟩,
   ⟨(some 36), none, .ibin .add .i64 (.tmp 35) (.const (.int .i64 2))⟩,
   ⟨(some 37), none, .slc 1 (.tmp 34) (some (.tmp 36)) none⟩,
   ⟨(some 38), none, .run (.bi .append ⟨[47, 47]⟩ 47) [(.tmp 33), (.tmp 37)]⟩,
   ⟨(some 4), none, .mv (.tmp 38)⟩,
   ⟨(some 5), none, .mv (.const (.bool true))⟩])
 (.prune [4, 5] .ret))))))))))))))
theorem ok28 : fits Try.prog 28 ⟨s28, 39, [.tmp 4, .tmp 5]⟩ = some ⟨s28, 39, [.tmp 4, .tmp 5]⟩ := by kernel_rfl
theorem go28 {args : List Value} {w : World} {R : Value → World → Prop} (hle : Nat.ble args.length 39 = true) (h : vc Try.prog 39 s28 (argEnv args 0) w (fun L w => resL L w [.tmp 4, .tmp 5] fun vs => oneOr vs fun v => R v w) (fun _ _ _ => False) (fun L w => resL L w [.tmp 4, .tmp 5] fun vs => oneOr vs fun v => R v w)) : Cal Try.prog 28 ⟨args⟩ w R := cal_of mo ok28 hle h

-- footbridge/footbridgeref10.Same
def s29 : S := (.seq (.row [⟨(some 4), none, .mv (.const (.bool false))⟩])
 (.prune [0, 1] (.seq (.seq (.row [⟨(some 6), none, .mv (.tmp 0)⟩,
   ⟨(some 7), none, .lenA (.tmp 6)⟩,
   ⟨(some 8), none, .mv (.tmp 1)⟩,
   ⟨(some 9), none, .lenA (.tmp 8)⟩,
   ⟨(some 10), none, .ibin .neq .i64 (.tmp 7) (.tmp 9)⟩])
 (.prune [10, 0, 1] (.cond (.tmp 10)
  (.seq (.row [⟨(some 4), none, .mv (.const (.bool false))⟩])
  (.prune [4] .ret))
  .skip)))
 (.prune [1, 0] (.seq (.seq (.row [⟨(some 11), none, .mv (.tmp 0)⟩,
   ⟨(some 12), none, .lenA (.tmp 11)⟩,
   ⟨(some 13), none, .mv (.const (.int .i64 0))⟩])
 (.prune [13, 1, 0, 12] (.block 0 (.loop [13] [4, 5, 13, 14, 15, 16, 17, 18, 19, 20, 21, 22, 23, 24, 25] (.seq (.row [⟨(some 14), none, .ibin .lss .i64 (.tmp 13) (.tmp 12)⟩])
  (.prune [14, 12, 0, 1, 13] (.seq (.cond (.tmp 14)
   .skip
   (.exit 0))
  (.prune [12, 0, 1, 13] (.seq (.block 1 (.seq (.row [⟨(some 15), none, .mv (.tmp 13)⟩,
    ⟨(some 5), none, .mv (.tmp 15)⟩])
  (.prune [5, 12, 0, 1, 13] (.seq (.draw (.take 0 ⟨(some 16), none, .mv (.tmp 0)⟩ (.take 1 ⟨(some 17), none, .mv (.tmp 5)⟩ (.take 2 ⟨(some 18), none, .ixA 1 (.tmp 16) (.tmp 17)⟩ (.take 3 ⟨(some 19), none, .ld (.tmp 18)⟩ (.take 4 ⟨(some 20), none, .mv (.tmp 1)⟩ (.take 5 ⟨(some 21), none, .mv (.tmp 5)⟩ (.take 6 ⟨(some 22), none, .ixA 1 (.tmp 20) (.tmp 21)⟩ (.take 7 ⟨(some 23), none, .ld (.tmp 22)⟩ (.take 8 ⟨(some 24), none, .ibin .neq .i64 (.tmp 19) (.tmp 23)⟩ .done))))))))))
  (.prune [24, 12, 0, 1, 13] (.cond (.tmp 24)
   (.seq (.row [⟨(some 4), none, .mv (.const (.bool false))⟩])
   (.prune [4] .ret))
   .skip))))))
  (.prune [13, 1, 0, 12] (.row [⟨(some 25), none, .ibin .add .i64 (.tmp 13) (.const (.int .i64 1))⟩,
    ⟨(some 13), none, .mv (.tmp 25)⟩])))))))))))
 (.prune [] (.seq (.row [⟨(some 4), none, .mv (.const (.bool true))⟩])
 (.prune [4] .ret))))))))
theorem ok29 : fits Try.prog 29 ⟨s29, 26, [.tmp 4]⟩ = some ⟨s29, 26, [.tmp 4]⟩ := by kernel_rfl
theorem go29 {args : List Value} {w : World} {R : Value → World → Prop} (hle : Nat.ble args.length 26 = true) (h : vc Try.prog 26 s29 (argEnv args 0) w (fun L w => resL L w [.tmp 4] fun vs => oneOr vs fun v => R v w) (fun _ _ _ => False) (fun L w => resL L w [.tmp 4] fun vs => oneOr vs fun v => R v w)) : Cal Try.prog 29 ⟨args⟩ w R := cal_of mo ok29 hle h

-- footbridge/footbridgeref09.Great
def s35 : S := (.seq (.row [⟨(some 1), none, .box 46 (.tmp 0)⟩,
   ⟨(some 2), none, .mv (.const (.bool false))⟩])
 (.prune [1] (.seq (.seq (.row [⟨(some 5), none, .fad 0 (.tmp 1)⟩,
   ⟨(some 6), none, .ld (.tmp 5)⟩,
   ⟨(some 7), none, .lenA (.tmp 6)⟩,
   ⟨(some 8), none, .ibin .gtr .i64 (.tmp 7) (.const (.int .i64 400))⟩,
   ⟨(some 9), none, .mv (.tmp 8)⟩,
   ⟨(some 10), (some (9, false)), .fad 1 (.tmp 1)⟩,
   ⟨(some 11), (some (9, false)), .ld (.tmp 10)⟩,
   ⟨(some 12), (some (9, false)), .lenA (.tmp 11)⟩,
   ⟨(some 13), (some (9, false)), .ibin .gtr .i64 (.tmp 12) (.const (.int .i64 300))⟩,
   ⟨(some 14), none, .pick (.tmp 9) (.const (.bool true)) (.tmp 13)⟩,
   ⟨(some 15), none, .mv (.tmp 14)⟩,
   ⟨(some 16), (some (15, false)), .fad 2 (.tmp 1)⟩,
   ⟨(some 17), (some (15, false)), .ld (.tmp 16)⟩,
   ⟨(some 18), (some (15, false)), .lenA (.tmp 17)⟩,
   ⟨(some 19), (some (15, false)), .ibin .gtr .i64 (.tmp 18) (.const (.int .i64 20))⟩,
   ⟨(some 20), none, .pick (.tmp 15) (.const (.bool true)) (.tmp 19)⟩])
 (.prune [20, 1] (.cond (.tmp 20)
  (.seq (.row [⟨(some 2), none, .mv (.const (.bool true))⟩])
  (.prune [2] .ret))
  .skip)))
 (.prune [1] (.seq (.seq (.row [⟨(some 21), none, .fad 0 (.tmp 1)⟩,
   ⟨(some 22), none, .ld (.tmp 21)⟩,
   ⟨(some 23), none, .lenA (.tmp 22)⟩,
   ⟨(some 24), none, .mv (.const (.int .i64 0))⟩])
 (.prune [24, 1, 23] (.block 0 (.loop [24] [2, 3, 24, 25, 26, 27, 28, 29, 30, 31, 32, 33, 34] (.seq (.row [⟨(some 25), none, .ibin .lss .i64 (.tmp 24) (.tmp 23)⟩])
  (.prune [25, 23, 1, 24] (.seq (.cond (.tmp 25)
   .skip
   (.exit 0))
  (.prune [23, 1, 24] (.seq (.block 1 (.seq (.row [⟨(some 26), none, .mv (.tmp 24)⟩,
    ⟨(some 3), none, .mv (.tmp 26)⟩])
  (.prune [3, 23, 1, 24] (.seq (.row [⟨(some 27), none, .fad 0 (.tmp 1)⟩,
    ⟨(some 28), none, .ld (.tmp 27)⟩,
    ⟨(some 29), none, .mv (.tmp 3)⟩,
    ⟨(some 30), none, .ixA 1 (.tmp 28) (.tmp 29)⟩,
    ⟨(some 31), none, .ld (.tmp 30)⟩,
    ⟨(some 32), none, .lenS (.tmp 31)⟩,
    ⟨(some 33), none, .ibin .gtr .i64 (.tmp 32) (.const (.int .i64 80))⟩])
  (.prune [33, 23, 1, 24] (.cond (.tmp 33)
   (.seq (.row [⟨(some 2), none, .mv (.const (.bool true))⟩])
   (.prune [2] .ret))
   .skip))))))
  (.prune [24, 1, 23] (.row [⟨(some 34), none, .ibin .add .i64 (.tmp 24) (.const (.int .i64 1))⟩,
    ⟨(some 24), none, .mv (.tmp 34)⟩])))))))))))
 (.prune [1] (.seq (.seq (.row [⟨(some 35), none, .fad 2 (.tmp 1)⟩,
   ⟨(some 36), none, .ld (.tmp 35)⟩,
   ⟨(some 37), none, .lenA (.tmp 36)⟩,
   ⟨(some 38), none, .mv (.const (.int .i64 0))⟩])
 (.prune [38, 1, 37] (.block 2 (.loop [38] [2, 4, 38, 39, 40, 41, 42, 43, 44, 45, 46, 47, 48, 49] (.seq (.row [⟨(some 39), none, .ibin .lss .i64 (.tmp 38) (.tmp 37)⟩])
  (.prune [39, 37, 1, 38] (.seq (.cond (.tmp 39)
   .skip
   (.exit 2))
  (.prune [37, 1, 38] (.seq (.block 3 (.seq (.row [⟨(some 40), none, .mv (.tmp 38)⟩,
    ⟨(some 4), none, .mv (.tmp 40)⟩])
  (.prune [4, 37, 1, 38] (.seq (.row [⟨(some 41), none, .fad 2 (.tmp 1)⟩,
    ⟨(some 42), none, .ld (.tmp 41)⟩,
    ⟨(some 43), none, .mv (.tmp 4)⟩,
    ⟨(some 44), none, .ixA 2 (.tmp 42) (.tmp 43)⟩,
    ⟨(some 45), none, .fad 0 (.tmp 44)⟩,
    ⟨(some 46), none, .ld (.tmp 45)⟩,
    ⟨(some 47), none, .lenS (.tmp 46)⟩,
    ⟨(some 48), none, .ibin .gtr .i64 (.tmp 47) (.const (.int .i64 40))⟩])
  (.prune [48, 37, 1, 38] (.cond (.tmp 48)
   (.seq (.row [⟨(some 2), none, .mv (.const (.bool true))⟩])
   (.prune [2] .ret))
   .skip))))))
  (.prune [38, 1, 37] (.row [⟨(some 49), none, .ibin .add .i64 (.tmp 38) (.const (.int .i64 1))⟩,
    ⟨(some 38), none, .mv (.tmp 49)⟩])))))))))))
 (.prune [] (.seq (.row [⟨(some 2), none, .mv (.const (.bool false))⟩])
 (.prune [2] .ret))))))))))
theorem ok35 : fits Try.prog 35 ⟨s35, 50, [.tmp 2]⟩ = some ⟨s35, 50, [.tmp 2]⟩ := by kernel_rfl
theorem go35 {args : List Value} {w : World} {R : Value → World → Prop} (hle : Nat.ble args.length 50 = true) (h : vc Try.prog 50 s35 (argEnv args 0) w (fun L w => resL L w [.tmp 2] fun vs => oneOr vs fun v => R v w) (fun _ _ _ => False) (fun L w => resL L w [.tmp 2] fun vs => oneOr vs fun v => R v w)) : Cal Try.prog 35 ⟨args⟩ w R := cal_of mo ok35 hle h

-- footbridge/footbridgeref10.Text
def s36 : S := (.seq (.row [⟨(some 2), none, .box 46 (.tmp 0)⟩,
   ⟨(some 4), none, .mv (.const (.string ⟨#[]⟩))⟩,
   ⟨(some 5), none, .mv (.const (.bool false))⟩])
 (.prune [2, 1] (.seq (.row [⟨(some 6), none, .mv (.const (.string ⟨#[]⟩))⟩])
 (.prune [6, 2, 1] (.seq (.seq (.row [⟨(some 8), none, .mv (.tmp 1)⟩,
   ⟨(some 9), none, .lenA (.tmp 8)⟩,
   ⟨(some 10), none, .mv (.const (.int .i64 0))⟩])
 (.prune [6, 2, 1, 10, 9] (.block 0 (.loop [6, 10] [4, 5, 6, 7, 10, 11, 12, 13, 14, 15, 16, 17, 18, 19, 20, 21, 22, 23, 24, 25, 26, 27, 28, 29, 30, 31, 32, 33, 34, 35, 36, 37, 38, 39, 40, 41, 42, 43, 44, 45, 46, 47, 48, 49] (.seq (.row [⟨(some 11), none, .ibin .lss .i64 (.tmp 10) (.tmp 9)⟩])
  (.prune [11, 9, 1, 2, 10, 6] (.seq (.cond (.tmp 11)
   .skip
   (.exit 0))
  (.prune [9, 1, 2, 10, 6] (.seq (.block 1 (.seq (.row [⟨(some 12), none, .mv (.tmp 10)⟩,
    ⟨(some 7), none, .mv (.tmp 12)⟩])
  (.prune [9, 1, 2, 10, 7, 6] (.seq (.seq (.draw (.take 0 ⟨(some 13), none, .mv (.tmp 1)⟩ (.take 1 ⟨(some 14), none, .mv (.tmp 7)⟩ (.take 2 ⟨(some 15), none, .ixA 1 (.tmp 13) (.tmp 14)⟩ (.take 3 ⟨(some 16), none, .ld (.tmp 15)⟩ (.take 4 ⟨(some 17), none, .ibin .lss .i64 (.tmp 16) (.const (.int .i64 0))⟩ (.take 5 ⟨(some 18), none, .mv (.tmp 17)⟩ (.take 6 ⟨(some 19), (some (18, false)), .mv (.tmp 1)⟩ (.take 7 ⟨(some 20), (some (18, false)), .mv (.tmp 7)⟩ (.take 8 ⟨(some 21), (some (18, false)), .ixA 1 (.tmp 19) (.tmp 20)⟩ (.take 9 ⟨(some 22), (some (18, false)), .ld (.tmp 21)⟩ (.take 10 ⟨(some 23), (some (18, false)), .fad 0 (.tmp 2)⟩ (.take 11 ⟨(some 24), (some (18, false)), .ld (.tmp 23)⟩ (.take 12 ⟨(some 25), (some (18, false)), .lenA (.tmp 24)⟩ (.take 13 ⟨(some 26), (some (18, false)), .ibin .geq .i64 (.tmp 22) (.tmp 25)⟩ (.take 14 ⟨(some 27), none, .pick (.tmp 18) (.const (.bool true)) (.tmp 26)⟩ (.take 15 ⟨(some 28), none, .mv (.tmp 27)⟩ (.take 16 ⟨(some 29), (some (28, false)), .fad 0 (.tmp 2)⟩ (.take 17 ⟨(some 30), (some (28, false)), .ld (.tmp 29)⟩ (.take 18 ⟨(some 31), (some (28, false)), .mv (.tmp 1)⟩ (.take 19 ⟨(some 32), (some (28, false)), .mv (.tmp 7)⟩ (.take 20 ⟨(some 33), (some (28, false)), .ixA 1 (.tmp 31) (.tmp 32)⟩ (.take 21 ⟨(some 34), (some (28, false)), .ld (.tmp 33)⟩ (.take 22 ⟨(some 35), (some (28, false)), .ixA 1 (.tmp 30) (.tmp 34)⟩ (.take 23 ⟨(some 36), (some (28, false)), .ld (.tmp 35)⟩ (.take 24 ⟨(some 37), (some (28, false)), .sbin .eql (.tmp 36) (.const (.string ⟨#[]⟩))⟩ (.take 25 ⟨(some 38), none, .pick (.tmp 28) (.const (.bool true)) (.tmp 37)⟩ .done)))))))))))))))))))))))))))
  (.prune [38, 9, 1, 2, 10, 7, 6] (.cond (.tmp 38)
   (.seq (.row [⟨(some 4), none, .mv (.const (.string ⟨#[]⟩))⟩,
     ⟨(some 5), none, .mv (.const (.bool false))⟩])
   (.prune [4, 5] .ret))
   .skip)))
  (.prune [6, 7, 10, 2, 1, 9] (.draw (.take 0 ⟨(some 39), none, .mv (.tmp 6)⟩ (.take 1 ⟨(some 40), none, .fad 0 (.tmp 2)⟩ (.take 2 ⟨(some 41), none, .ld (.tmp 40)⟩ (.take 3 ⟨(some 42), none, .mv (.tmp 1)⟩ (.take 4 ⟨(some 43), none, .mv (.tmp 7)⟩ (.take 5 ⟨(some 44), none, .ixA 1 (.tmp 42) (.tmp 43)⟩ (.take 6 ⟨(some 45), none, .ld (.tmp 44)⟩ (.take 7 ⟨(some 46), none, .ixA 1 (.tmp 41) (.tmp 45)⟩ (.take 8 ⟨(some 47), none, .ld (.tmp 46)⟩ (.take 9 ⟨(some 48), none, .sbin .add (.tmp 39) (.tmp 47)⟩ (.take 10 ⟨(some 6), none, .mv (.tmp 48)⟩ .done)))))))))))))))))
  (.prune [10, 6, 2, 1, 9] (.row [⟨(some 49), none, .ibin .add .i64 (.tmp 10) (.const (.int .i64 1))⟩,
    ⟨(some 10), none, .mv (.tmp 49)⟩])))))))))))
 (.prune [6] (.seq (.row [⟨(some 50), none, .mv (.tmp 6)⟩,
   ⟨(some 4), none, .mv (.tmp 50)⟩,
   ⟨(some 5), none, .mv (.const (.bool true))⟩])
 (.prune [4, 5] .ret))))))))
theorem ok36 : fits Try.prog 36 ⟨s36, 51, [.tmp 4, .tmp 5]⟩ = some ⟨s36, 51, [.tmp 4, .tmp 5]⟩ := by kernel_rfl
theorem go36 {args : List Value} {w : World} {R : Value → World → Prop} (hle : Nat.ble args.length 51 = true) (h : vc Try.prog 51 s36 (argEnv args 0) w (fun L w => resL L w [.tmp 4, .tmp 5] fun vs => oneOr vs fun v => R v w) (fun _ _ _ => False) (fun L w => resL L w [.tmp 4, .tmp 5] fun vs => oneOr vs fun v => R v w)) : Cal Try.prog 36 ⟨args⟩ w R := cal_of mo ok36 hle h

-- footbridge/footbridgeref09.Of
def s39 : S := (.seq (.row [⟨(some 4), none, .mv (.const (.int .i64 0))⟩])
 (.prune [0, 1] (.seq (.seq (.row [⟨(some 6), none, .mv (.tmp 1)⟩,
   ⟨(some 7), none, .sbin .eql (.tmp 6) (.const (.string ⟨#[]⟩))⟩])
 (.prune [7, 0, 1] (.cond (.tmp 7)
  (.seq (.row [⟨(some 4), none, .mv (.const (.int .i64 (-1)))⟩])
  (.prune [4] .ret))
  .skip)))
 (.prune [1, 0] (.seq (.seq (.row [⟨(some 8), none, .mv (.tmp 0)⟩,
   ⟨(some 9), none, .lenA (.tmp 8)⟩,
   ⟨(some 10), none, .mv (.const (.int .i64 0))⟩])
 (.prune [10, 1, 0, 9] (.block 0 (.loop [10] [4, 5, 10, 11, 12, 13, 14, 15, 16, 17, 18, 19, 20] (.seq (.row [⟨(some 11), none, .ibin .lss .i64 (.tmp 10) (.tmp 9)⟩])
  (.prune [11, 9, 0, 1, 10] (.seq (.cond (.tmp 11)
   .skip
   (.exit 0))
  (.prune [9, 0, 1, 10] (.seq (.block 1 (.seq (.row [⟨(some 12), none, .mv (.tmp 10)⟩,
    ⟨(some 5), none, .mv (.tmp 12)⟩])
  (.prune [9, 0, 1, 10, 5] (.seq (.row [⟨(some 13), none, .mv (.tmp 0)⟩,
    ⟨(some 14), none, .mv (.tmp 5)⟩,
    ⟨(some 15), none, .ixA 1 (.tmp 13) (.tmp 14)⟩,
    ⟨(some 16), none, .ld (.tmp 15)⟩,
    ⟨(some 17), none, .mv (.tmp 1)⟩,
    ⟨(some 18), none, .sbin .eql (.tmp 16) (.tmp 17)⟩])
  (.prune [18, 9, 0, 1, 10, 5] (.cond (.tmp 18)
   (.seq (.row [⟨(some 19), none, .mv (.tmp 5)⟩,
     ⟨(some 4), none, .mv (.tmp 19)⟩])
   (.prune [4] .ret))
   .skip))))))
  (.prune [10, 1, 0, 9] (.row [⟨(some 20), none, .ibin .add .i64 (.tmp 10) (.const (.int .i64 1))⟩,
    ⟨(some 10), none, .mv (.tmp 20)⟩])))))))))))
 (.prune [] (.seq (.row [⟨(some 4), none, .mv (.const (.int .i64 (-1)))⟩])
 (.prune [4] .ret))))))))
theorem ok39 : fits Try.prog 39 ⟨s39, 21, [.tmp 4]⟩ = some ⟨s39, 21, [.tmp 4]⟩ := by kernel_rfl
theorem go39 {args : List Value} {w : World} {R : Value → World → Prop} (hle : Nat.ble args.length 21 = true) (h : vc Try.prog 21 s39 (argEnv args 0) w (fun L w => resL L w [.tmp 4] fun vs => oneOr vs fun v => R v w) (fun _ _ _ => False) (fun L w => resL L w [.tmp 4] fun vs => oneOr vs fun v => R v w)) : Cal Try.prog 39 ⟨args⟩ w R := cal_of mo ok39 hle h

-- (*footbridge/pair.Table).Run
def s40 : S := (.seq (.row [⟨(some 4), none, .mv (.const (.slice none 0 0))⟩])
 (.prune [1, 0] (.seq (.row [⟨(some 8), none, .mv (.tmp 1)⟩,
   ⟨(some 9), none, .call 61 [(.tmp 8)]⟩,
   ⟨(some 5), none, .mv (.tmp 9)⟩])
 (.prune [5, 0] (.block 0 (.loop [5] [4, 5, 6, 7, 10, 11, 12, 13, 14, 15, 16, 17, 18, 19] (.block 1 (.seq (.row [⟨(some 11), none, .mv (.tmp 0)⟩,
    ⟨(some 12), none, .mv (.tmp 5)⟩,
    ⟨(some 13), none, .call 27 [(.tmp 11), (.tmp 12)]⟩,
    ⟨(some 10), none, .mv (.tmp 13)⟩,
    ⟨(some 14), none, .ext (.tmp 10) 0⟩,
    ⟨(some 15), none, .ext (.tmp 10) 1⟩,
    ⟨(some 6), none, .mv (.tmp 14)⟩,
    ⟨(some 7), none, .mv (.tmp 15)⟩])
  (.prune [7, 0, 6, 5] (.seq (.seq (.row [⟨(some 16), none, .mv (.tmp 7)⟩,
    ⟨(some 17), none, .notB (.tmp 16)⟩])
  (.prune [17, 0, 6, 5] (.cond (.tmp 17)
   (.seq (.row [⟨(some 18), none, .mv (.tmp 5)⟩,
     ⟨(some 4), none, .mv (.tmp 18)⟩])
   (.prune [4] .ret))
   .skip)))
  (.prune [6, 0] (.row [⟨(some 19), none, .mv (.tmp 6)⟩,
    ⟨(some 5), none, .mv (.tmp 19)⟩]))))))))))))
theorem ok40 : fits Try.prog 40 ⟨s40, 20, [.tmp 4]⟩ = some ⟨s40, 20, [.tmp 4]⟩ := by kernel_rfl
theorem go40 {args : List Value} {w : World} {R : Value → World → Prop} (hle : Nat.ble args.length 20 = true) (h : vc Try.prog 20 s40 (argEnv args 0) w (fun L w => resL L w [.tmp 4] fun vs => oneOr vs fun v => R v w) (fun _ _ _ => False) (fun L w => resL L w [.tmp 4] fun vs => oneOr vs fun v => R v w)) : Cal Try.prog 40 ⟨args⟩ w R := cal_of mo ok40 hle h

-- footbridge/footbridgeref09.mayTokens
def s46 : S := (.seq (.row [⟨(some 2), none, .mv (.const (.bool false))⟩])
 (.prune [0] (.seq (.seq (.row [⟨(some 5), none, .mv (.tmp 0)⟩,
   ⟨(some 6), none, .lenA (.tmp 5)⟩,
   ⟨(some 7), none, .ibin .gtr .i64 (.tmp 6) (.const (.int .i64 4096))⟩])
 (.prune [7, 0] (.cond (.tmp 7)
  (.seq (.row [⟨(some 2), none, .mv (.const (.bool false))⟩])
  (.prune [2] .ret))
  .skip)))
 (.prune [0] (.seq (.seq (.row [⟨(some 8), none, .mv (.tmp 0)⟩,
   ⟨(some 9), none, .lenA (.tmp 8)⟩,
   ⟨(some 10), none, .mv (.const (.int .i64 0))⟩])
 (.prune [10, 0, 9] (.block 0 (.loop [10] [2, 3, 10, 11, 12, 13, 14, 15, 16, 17, 18, 19, 20, 21, 22, 23, 24, 25, 26, 27, 28, 29, 30, 31, 32, 33, 34, 35, 36] (.seq (.row [⟨(some 11), none, .ibin .lss .i64 (.tmp 10) (.tmp 9)⟩])
  (.prune [11, 9, 0, 10] (.seq (.cond (.tmp 11)
   .skip
   (.exit 0))
  (.prune [9, 0, 10] (.seq (.block 1 (.seq (.row [⟨(some 12), none, .mv (.tmp 10)⟩,
    ⟨(some 3), none, .mv (.tmp 12)⟩])
  (.prune [3, 9, 0, 10] (.seq (.row [⟨(some 13), none, .mv (.tmp 0)⟩,
    ⟨(some 14), none, .mv (.tmp 3)⟩,
    ⟨(some 15), none, .ixA 1 (.tmp 13) (.tmp 14)⟩,
    ⟨(some 16), none, .ld (.tmp 15)⟩,
    ⟨(some 17), none, .lenS (.tmp 16)⟩,
    ⟨(some 18), none, .ibin .gtr .i64 (.tmp 17) (.const (.int .i64 64))⟩,
    ⟨(some 19), none, .mv (.tmp 18)⟩,
    ⟨(some 20), (some (19, false)), .mv (.tmp 0)⟩,
    ⟨(some 21), (some (19, false)), .mv (.tmp 3)⟩,
    ⟨(some 22), (some (19, false)), .ixA 1 (.tmp 20) (.tmp 21)⟩,
    ⟨(some 23), (some (19, false)), .ld (.tmp 22)⟩,
    ⟨(some 24), (some (19, false)), .sbin .neq (.tmp 23) (.const (.string ⟨#[]⟩))⟩,
    ⟨(some 25), (some (19, false)), .mv (.tmp 24)⟩,
    ⟨(some 26), (some (25, true)), .mv (.tmp 0)⟩,
    ⟨(some 27), (some (25, true)), .mv (.tmp 0)⟩,
    ⟨(some 28), (some (25, true)), .mv (.tmp 3)⟩,
    ⟨(some 29), (some (25, true)), .ixA 1 (.tmp 27) (.tmp 28)⟩,
    ⟨(some 30), (some (25, true)), .ld (.tmp 29)⟩,
    ⟨(some 31), (some (25, true)), .call 39 [(.tmp 26), (.tmp 30)]⟩,
    ⟨(some 32), (some (25, true)), .mv (.tmp 3)⟩,
    ⟨(some 33), (some (25, true)), .ibin .neq .i64 (.tmp 31) (.tmp 32)⟩,
    ⟨(some 34), (some (19, false)), .pick (.tmp 25) (.tmp 33) (.const (.bool false))⟩,
    ⟨(some 35), none, .pick (.tmp 19) (.const (.bool true)) (.tmp 34)⟩])
  (.prune [35, 9, 0, 10] (.cond (.tmp 35)
   (.seq (.row [⟨(some 2), none, .mv (.const (.bool false))⟩])
   (.prune [2] .ret))
   .skip))))))
  (.prune [10, 0, 9] (.row [⟨(some 36), none, .ibin .add .i64 (.tmp 10) (.const (.int .i64 1))⟩,
    ⟨(some 10), none, .mv (.tmp 36)⟩])))))))))))
 (.prune [0] (.seq (.seq (.row [⟨(some 4), none, .mv (.const (.int .i64 0))⟩])
 (.prune [4, 0] (.block 2 (.loop [4] [2, 4, 37, 38, 39, 40, 41, 42, 43, 44, 45, 46, 47] (.seq (.seq (.row [⟨(some 37), none, .mv (.tmp 4)⟩,
    ⟨(some 38), none, .ibin .lss .i64 (.tmp 37) (.const (.int .i64 256))⟩])
  (.prune [38, 0, 4] (.cond (.tmp 38)
   .skip
   (.exit 2))))
  (.prune [0, 4] (.seq (.block 3 (.seq (.row [⟨(some 41), none, .mv (.tmp 0)⟩,
    ⟨(some 42), none, .mv (.tmp 4)⟩,
    ⟨(some 43), none, .conv .u8 (.tmp 42)⟩,
    ⟨(some 44), none, .bsl 5 1 [(.int .u8 0)] [(0, 1)] [(.tmp 43)]⟩,
    ⟨(some 45), none, .get (.conv 64 9) [(.tmp 44)]⟩,
    ⟨(some 46), none, .call 39 [(.tmp 41), (.tmp 45)]⟩,
    ⟨(some 47), none, .ibin .lss .i64 (.tmp 46) (.const (.int .i64 0))⟩])
  (.prune [47, 0, 4] (.cond (.tmp 47)
   (.seq (.row [⟨(some 2), none, .mv (.const (.bool false))⟩])
   (.prune [2] .ret))
   .skip))))
  (.prune [4, 0] (.row [⟨(some 39), none, .mv (.tmp 4)⟩,
    ⟨(some 40), none, .ibin .add .i64 (.tmp 39) (.const (.int .i64 1))⟩,
    ⟨(some 4), none, .mv (.tmp 40)⟩])))))))))
 (.prune [] (.seq (.row [⟨(some 2), none, .mv (.const (.bool true))⟩])
 (.prune [2] .ret))))))))))
theorem ok46 : fits Try.prog 46 ⟨s46, 48, [.tmp 2]⟩ = some ⟨s46, 48, [.tmp 2]⟩ := by kernel_rfl
theorem go46 {args : List Value} {w : World} {R : Value → World → Prop} (hle : Nat.ble args.length 48 = true) (h : vc Try.prog 48 s46 (argEnv args 0) w (fun L w => resL L w [.tmp 2] fun vs => oneOr vs fun v => R v w) (fun _ _ _ => False) (fun L w => resL L w [.tmp 2] fun vs => oneOr vs fun v => R v w)) : Cal Try.prog 46 ⟨args⟩ w R := cal_of mo ok46 hle h

-- footbridge/footbridgeref09.mayMerges
def s47 : S := (.seq (.row [⟨(some 1), none, .box 46 (.tmp 0)⟩,
   ⟨(some 2), none, .mv (.const (.bool false))⟩])
 (.prune [1] (.seq (.seq (.row [⟨(some 7), none, .fad 1 (.tmp 1)⟩,
   ⟨(some 8), none, .ld (.tmp 7)⟩,
   ⟨(some 9), none, .lenA (.tmp 8)⟩,
   ⟨(some 10), none, .ibin .gtr .i64 (.tmp 9) (.const (.int .i64 16384))⟩])
 (.prune [10, 1] (.cond (.tmp 10)
  (.seq (.row [⟨(some 2), none, .mv (.const (.bool false))⟩])
  (.prune [2] .ret))
  .skip)))
 (.prune [1] (.seq (.seq (.row [⟨(some 11), none, .fad 1 (.tmp 1)⟩,
   ⟨(some 12), none, .ld (.tmp 11)⟩,
   ⟨(some 13), none, .lenA (.tmp 12)⟩,
   ⟨(some 14), none, .mv (.const (.int .i64 0))⟩])
 (.prune [14, 1, 13] (.block 0 (.loop [14] [2, 3, 4, 5, 6, 14, 15, 16, 17, 18, 19, 20, 21, 22, 23, 24, 25, 26, 27, 28, 29, 30, 31, 32, 33, 34, 35, 36, 37, 38, 39, 40, 41, 42, 43, 44, 45, 46, 47, 48, 49, 50, 51, 52, 53, 54, 55, 56, 57, 58, 59, 60, 61, 62, 63, 64, 65, 66, 67, 68, 69, 70, 71, 72, 73, 74, 75, 76, 77, 78, 79, 80, 81, 82, 83, 84, 85, 86, 87, 88, 89, 90, 91, 92, 93, 94, 95, 96, 97, 98, 99, 100, 101, 102, 103, 104, 105, 106, 107, 108, 109, 110, 111, 112, 113, 114, 115, 116] (.seq (.row [⟨(some 15), none, .ibin .lss .i64 (.tmp 14) (.tmp 13)⟩])
  (.prune [15, 1, 14, 13] (.seq (.cond (.tmp 15)
   .skip
   (.exit 0))
  (.prune [1, 14, 13] (.seq (.block 1 (.seq (.row [⟨(some 16), none, .mv (.tmp 14)⟩,
    ⟨(some 3), none, .mv (.tmp 16)⟩])
  (.prune [1, 14, 13, 3] (.seq (.row [⟨(some 17), none, .fad 1 (.tmp 1)⟩,
    ⟨(some 18), none, .ld (.tmp 17)⟩,
    ⟨(some 19), none, .mv (.tmp 3)⟩,
    ⟨(some 20), none, .ixA 4 (.tmp 18) (.tmp 19)⟩,
    ⟨(some 21), none, .ldn 4 (.tmp 20)⟩,
    ⟨(some 4), none, .new [(.int .i64 0), (.int .i64 0), (.int .i64 0), (.int .i64 0)] 55⟩,
    ⟨none, none, .stn 4 (.tmp 4) (.tmp 21)⟩])
  (.prune [4, 1, 14, 13, 3] (.seq (.seq (.row [⟨(some 22), none, .fad 0 (.tmp 1)⟩,
    ⟨(some 23), none, .ld (.tmp 22)⟩,
    ⟨(some 24), none, .fad 0 (.tmp 4)⟩,
    ⟨(some 25), none, .ld (.tmp 24)⟩,
    ⟨(some 26), none, .call 64 [(.tmp 23), (.tmp 25)]⟩,
    ⟨(some 27), none, .notB (.tmp 26)⟩,
    ⟨(some 28), none, .mv (.tmp 27)⟩,
    ⟨(some 29), (some (28, false)), .fad 0 (.tmp 1)⟩,
    ⟨(some 30), (some (28, false)), .ld (.tmp 29)⟩,
    ⟨(some 31), (some (28, false)), .fad 1 (.tmp 4)⟩,
    ⟨(some 32), (some (28, false)), .ld (.tmp 31)⟩,
    ⟨(some 33), (some (28, false)), .call 64 [(.tmp 30), (.tmp 32)]⟩,
    ⟨(some 34), (some (28, false)), .notB (.tmp 33)⟩,
    ⟨(some 35), none, .pick (.tmp 28) (.const (.bool true)) (.tmp 34)⟩,
    ⟨(some 36), none, .mv (.tmp 35)⟩,
    ⟨(some 37), (some (36, false)), .fad 0 (.tmp 1)⟩,
    ⟨(some 38), (some (36, false)), .ld (.tmp 37)⟩,
    ⟨(some 39), (some (36, false)), .fad 2 (.tmp 4)⟩,
    ⟨(some 40), (some (36, false)), .ld (.tmp 39)⟩,
    ⟨(some 41), (some (36, false)), .call 64 [(.tmp 38), (.tmp 40)]⟩,
    ⟨(some 42), (some (36, false)), .notB (.tmp 41)⟩,
    ⟨(some 43), none, .pick (.tmp 36) (.const (.bool true)) (.tmp 42)⟩,
    ⟨(some 44), none, .mv (.tmp 43)⟩,
    ⟨(some 45), (some (44, false)), .fad 3 (.tmp 4)⟩,
    ⟨(some 46), (some (44, false)), .ld (.tmp 45)⟩,
    ⟨(some 47), (some (44, false)), .ibin .lss .i64 (.tmp 46) (.const (.int .i64 0))⟩,
    ⟨(some 48), none, .pick (.tmp 44) (.const (.bool true)) (.tmp 47)⟩,
    ⟨(some 49), none, .mv (.tmp 48)⟩,
    ⟨(some 50), (some (49, false)), .fad 3 (.tmp 4)⟩,
    ⟨(some 51), (some (49, false)), .ld (.tmp 50)⟩,
    ⟨(some 52), (some (49, false)), .ibin .gtr .i64 (.tmp 51) (.const (.int .i64 1048576))⟩,
    ⟨(some 53), none, .pick (.tmp 49) (.const (.bool true)) (.tmp 52)⟩])
  (.prune [53, 4, 1, 14, 13, 3] (.cond (.tmp 53)
   (.seq (.row [⟨(some 2), none, .mv (.const (.bool false))⟩])
   (.prune [2] .ret))
   .skip)))
  (.prune [3, 13, 14, 1, 4] (.seq (.seq (.draw (.take 0 ⟨(some 54), none, .fad 0 (.tmp 1)⟩ (.take 1 ⟨(some 55), none, .ld (.tmp 54)⟩ (.take 2 ⟨(some 56), none, .fad 2 (.tmp 4)⟩ (.take 3 ⟨(some 57), none, .ld (.tmp 56)⟩ (.take 4 ⟨(some 58), none, .ixA 1 (.tmp 55) (.tmp 57)⟩ (.take 5 ⟨(some 59), none, .ld (.tmp 58)⟩ (.take 6 ⟨(some 60), none, .fad 0 (.tmp 1)⟩ (.take 7 ⟨(some 61), none, .ld (.tmp 60)⟩ (.take 8 ⟨(some 62), none, .fad 0 (.tmp 4)⟩ (.take 9 ⟨(some 63), none, .ld (.tmp 62)⟩ (.take 10 ⟨(some 64), none, .ixA 1 (.tmp 61) (.tmp 63)⟩ (.take 11 ⟨(some 65), none, .ld (.tmp 64)⟩ (.take 12 ⟨(some 66), none, .fad 0 (.tmp 1)⟩ (.take 13 ⟨(some 67), none, .ld (.tmp 66)⟩ (.take 14 ⟨(some 68), none, .fad 1 (.tmp 4)⟩ (.take 15 ⟨(some 69), none, .ld (.tmp 68)⟩ (.take 16 ⟨(some 70), none, .ixA 1 (.tmp 67) (.tmp 69)⟩ (.take 17 ⟨(some 71), none, .ld (.tmp 70)⟩ (.take 18 ⟨(some 72), none, .sbin .add (.tmp 65) (.tmp 71)⟩ (.take 19 ⟨(some 73), none, .sbin .neq (.tmp 59) (.tmp 72)⟩ .done)))))))))))))))))))))
  (.prune [73, 3, 13, 14, 1, 4] (.cond (.tmp 73)
   (.seq (.row [⟨(some 2), none, .mv (.const (.bool false))⟩])
   (.prune [2] .ret))
   .skip)))
  (.prune [4, 1, 14, 13, 3] (.seq (.row [⟨(some 5), none, .mv (.const (.int .i64 0))⟩])
  (.prune [5, 4, 1, 14, 13, 3] (.block 2 (.loop [5] [2, 5, 6, 74, 75, 76, 77, 78, 79, 80, 81, 82, 83, 84, 85, 86, 87, 88, 89, 90, 91, 92, 93, 94, 95, 96, 97, 98, 99, 100, 101, 102, 103, 104, 105, 106, 107, 108, 109, 110, 111, 112, 113, 114, 115] (.seq (.seq (.row [⟨(some 74), none, .mv (.tmp 5)⟩,
     ⟨(some 75), none, .mv (.tmp 3)⟩,
     ⟨(some 76), none, .ibin .lss .i64 (.tmp 74) (.tmp 75)⟩])
   (.prune [76, 3, 13, 14, 1, 4, 5] (.cond (.tmp 76)
    .skip
    (.exit 2))))
   (.prune [3, 13, 14, 1, 4, 5] (.seq (.block 3 (.seq (.row [⟨(some 79), none, .fad 1 (.tmp 1)⟩,
     ⟨(some 80), none, .ld (.tmp 79)⟩,
     ⟨(some 81), none, .mv (.tmp 5)⟩,
     ⟨(some 82), none, .ixA 4 (.tmp 80) (.tmp 81)⟩,
     ⟨(some 83), none, .ldn 4 (.tmp 82)⟩,
     ⟨(some 6), none, .new [(.int .i64 0), (.int .i64 0), (.int .i64 0), (.int .i64 0)] 55⟩,
     ⟨none, none, .stn 4 (.tmp 6) (.tmp 83)⟩])
   (.prune [6, 3, 13, 14, 1, 4, 5] (.seq (.row [⟨(some 84), none, .ldn 4 (.tmp 6)⟩,
     ⟨(some 85), none, .ldn 4 (.tmp 4)⟩,
     ⟨(some 86), none, .call 65 [(.tmp 84), (.tmp 85)]⟩,
     ⟨(some 87), none, .notB (.tmp 86)⟩,
     ⟨(some 88), none, .mv (.tmp 87)⟩,
     ⟨(some 89), (some (88, false)), .fad 0 (.tmp 6)⟩,
     ⟨(some 90), (some (88, false)), .ld (.tmp 89)⟩,
     ⟨(some 91), (some (88, false)), .fad 0 (.tmp 4)⟩,
     ⟨(some 92), (some (88, false)), .ld (.tmp 91)⟩,
     ⟨(some 93), (some (88, false)), .ibin .eql .i64 (.tmp 90) (.tmp 92)⟩,
     ⟨(some 94), (some (88, false)), .mv (.tmp 93)⟩,
     ⟨(some 95), (some (94, true)), .fad 1 (.tmp 6)⟩,
     ⟨(some 96), (some (94, true)), .ld (.tmp 95)⟩,
     ⟨(some 97), (some (94, true)), .fad 1 (.tmp 4)⟩,
     ⟨(some 98), (some (94, true)), .ld (.tmp 97)⟩,
     ⟨(some 99), (some (94, true)), .ibin .eql .i64 (.tmp 96) (.tmp 98)⟩,
     ⟨(some 100), (some (88, false)), .pick (.tmp 94) (.tmp 99) (.const (.bool false))⟩,
     ⟨(some 101), none, .pick (.tmp 88) (.const (.bool true)) (.tmp 100)⟩,
     ⟨(some 102), none, .mv (.tmp 101)⟩,
     ⟨(some 103), (some (102, false)), .fad 3 (.tmp 6)⟩,
     ⟨(some 104), (some (102, false)), .ld (.tmp 103)⟩,
     ⟨(some 105), (some (102, false)), .fad 3 (.tmp 4)⟩,
     ⟨(some 106), (some (102, false)), .ld (.tmp 105)⟩,
     ⟨(some 107), (some (102, false)), .ibin .eql .i64 (.tmp 104) (.tmp 106)⟩,
     ⟨(some 108), (some (102, false)), .mv (.tmp 107)⟩,
     ⟨(some 109), (some (108, true)), .fad 2 (.tmp 6)⟩,
     ⟨(some 110), (some (108, true)), .ld (.tmp 109)⟩,
     ⟨(some 111), (some (108, true)), .fad 2 (.tmp 4)⟩,
     ⟨(some 112), (some (108, true)), .ld (.tmp 111)⟩,
     ⟨(some 113), (some (108, true)), .ibin .neq .i64 (.tmp 110) (.tmp 112)⟩,
     ⟨(some 114), (some (102, false)), .pick (.tmp 108) (.tmp 113) (.const (.bool false))⟩,
     ⟨(some 115), none, .pick (.tmp 102) (.const (.bool true)) (.tmp 114)⟩])
   (.prune [115, 3, 13, 14, 1, 4, 5] (.cond (.tmp 115)
    (.seq (.row [⟨(some 2), none, .mv (.const (.bool false))⟩])
    (.prune [2] .ret))
    .skip))))))
   (.prune [5, 4, 1, 14, 13, 3] (.row [⟨(some 77), none, .mv (.tmp 5)⟩,
     ⟨(some 78), none, .ibin .add .i64 (.tmp 77) (.const (.int .i64 1))⟩,
     ⟨(some 5), none, .mv (.tmp 78)⟩]))))))))))))))))))
  (.prune [14, 1, 13] (.row [⟨(some 116), none, .ibin .add .i64 (.tmp 14) (.const (.int .i64 1))⟩,
    ⟨(some 14), none, .mv (.tmp 116)⟩])))))))))))
 (.prune [] (.seq (.row [⟨(some 2), none, .mv (.const (.bool true))⟩])
 (.prune [2] .ret))))))))
theorem ok47 : fits Try.prog 47 ⟨s47, 117, [.tmp 2]⟩ = some ⟨s47, 117, [.tmp 2]⟩ := by kernel_rfl
theorem go47 {args : List Value} {w : World} {R : Value → World → Prop} (hle : Nat.ble args.length 117 = true) (h : vc Try.prog 117 s47 (argEnv args 0) w (fun L w => resL L w [.tmp 2] fun vs => oneOr vs fun v => R v w) (fun _ _ _ => False) (fun L w => resL L w [.tmp 2] fun vs => oneOr vs fun v => R v w)) : Cal Try.prog 47 ⟨args⟩ w R := cal_of mo ok47 hle h

-- footbridge/footbridgeref09.mayMade
def s48 : S := (.seq (.row [⟨(some 1), none, .box 46 (.tmp 0)⟩,
   ⟨(some 2), none, .mv (.const (.bool false))⟩])
 (.prune [1] (.seq (.seq (.row [⟨(some 6), none, .fad 0 (.tmp 1)⟩,
   ⟨(some 7), none, .ld (.tmp 6)⟩,
   ⟨(some 8), none, .lenA (.tmp 7)⟩,
   ⟨(some 9), none, .mv (.const (.int .i64 0))⟩])
 (.prune [9, 1, 8] (.block 0 (.loop [9] [2, 3, 4, 5, 9, 10, 11, 12, 13, 14, 15, 16, 17, 18, 19, 20, 21, 22, 23, 24, 25, 26, 27, 28, 29, 30, 31, 32, 33, 34, 35, 36, 37, 38, 39] (.seq (.row [⟨(some 10), none, .ibin .lss .i64 (.tmp 9) (.tmp 8)⟩])
  (.prune [10, 1, 8, 9] (.seq (.cond (.tmp 10)
   .skip
   (.exit 0))
  (.prune [1, 8, 9] (.seq (.block 1 (.seq (.row [⟨(some 11), none, .mv (.tmp 9)⟩,
    ⟨(some 3), none, .mv (.tmp 11)⟩])
  (.prune [3, 1, 8, 9] (.seq (.row [⟨(some 12), none, .fad 0 (.tmp 1)⟩,
    ⟨(some 13), none, .ld (.tmp 12)⟩,
    ⟨(some 14), none, .mv (.tmp 3)⟩,
    ⟨(some 15), none, .ixA 1 (.tmp 13) (.tmp 14)⟩,
    ⟨(some 16), none, .ld (.tmp 15)⟩,
    ⟨(some 17), none, .lenS (.tmp 16)⟩,
    ⟨(some 18), none, .ibin .lss .i64 (.tmp 17) (.const (.int .i64 2))⟩,
    ⟨(some 4), none, .mv (.tmp 18)⟩])
  (.prune [3, 1, 4, 8, 9] (.seq (.seq (.row [⟨(some 19), none, .fad 1 (.tmp 1)⟩,
    ⟨(some 20), none, .ld (.tmp 19)⟩,
    ⟨(some 21), none, .lenA (.tmp 20)⟩,
    ⟨(some 22), none, .mv (.const (.int .i64 0))⟩])
  (.prune [22, 3, 1, 4, 8, 9, 21] (.block 2 (.loop [4, 22] [4, 5, 22, 23, 24, 25, 26, 27, 28, 29, 30, 31, 32, 33, 34, 35, 36] (.seq (.row [⟨(some 23), none, .ibin .lss .i64 (.tmp 22) (.tmp 21)⟩])
   (.prune [23, 4, 22, 3, 1, 8, 9, 21] (.seq (.cond (.tmp 23)
    .skip
    (.exit 2))
   (.prune [4, 22, 3, 1, 8, 9, 21] (.seq (.block 3 (.seq (.row [⟨(some 24), none, .mv (.tmp 22)⟩,
     ⟨(some 5), none, .mv (.tmp 24)⟩])
   (.prune [4, 5, 22, 3, 1, 8, 9, 21] (.row [⟨(some 25), none, .mv (.tmp 4)⟩,
     ⟨(some 26), none, .mv (.tmp 25)⟩,
     ⟨(some 27), (some (26, false)), .fad 1 (.tmp 1)⟩,
     ⟨(some 28), (some (26, false)), .ld (.tmp 27)⟩,
     ⟨(some 29), (some (26, false)), .mv (.tmp 5)⟩,
     ⟨(some 30), (some (26, false)), .ixA 4 (.tmp 28) (.tmp 29)⟩,
     ⟨(some 31), (some (26, false)), .fad 2 (.tmp 30)⟩,
     ⟨(some 32), (some (26, false)), .ld (.tmp 31)⟩,
     ⟨(some 33), (some (26, false)), .mv (.tmp 3)⟩,
     ⟨(some 34), (some (26, false)), .ibin .eql .i64 (.tmp 32) (.tmp 33)⟩,
     ⟨(some 35), none, .pick (.tmp 26) (.const (.bool true)) (.tmp 34)⟩,
     ⟨(some 4), none, .mv (.tmp 35)⟩]))))
   (.prune [22, 3, 1, 4, 8, 9, 21] (.row [⟨(some 36), none, .ibin .add .i64 (.tmp 22) (.const (.int .i64 1))⟩,
     ⟨(some 22), none, .mv (.tmp 36)⟩])))))))))))
  (.prune [4, 8, 1, 9] (.seq (.row [⟨(some 37), none, .mv (.tmp 4)⟩,
    ⟨(some 38), none, .notB (.tmp 37)⟩])
  (.prune [38, 8, 1, 9] (.cond (.tmp 38)
   (.seq (.row [⟨(some 2), none, .mv (.const (.bool false))⟩])
   (.prune [2] .ret))
   .skip))))))))))
  (.prune [9, 1, 8] (.row [⟨(some 39), none, .ibin .add .i64 (.tmp 9) (.const (.int .i64 1))⟩,
    ⟨(some 9), none, .mv (.tmp 39)⟩])))))))))))
 (.prune [] (.seq (.row [⟨(some 2), none, .mv (.const (.bool true))⟩])
 (.prune [2] .ret))))))
theorem ok48 : fits Try.prog 48 ⟨s48, 40, [.tmp 2]⟩ = some ⟨s48, 40, [.tmp 2]⟩ := by kernel_rfl
theorem go48 {args : List Value} {w : World} {R : Value → World → Prop} (hle : Nat.ble args.length 40 = true) (h : vc Try.prog 40 s48 (argEnv args 0) w (fun L w => resL L w [.tmp 2] fun vs => oneOr vs fun v => R v w) (fun _ _ _ => False) (fun L w => resL L w [.tmp 2] fun vs => oneOr vs fun v => R v w)) : Cal Try.prog 48 ⟨args⟩ w R := cal_of mo ok48 hle h

-- footbridge/footbridgeref09.maySpecials
def s49 : S := (.seq (.row [⟨(some 1), none, .box 46 (.tmp 0)⟩,
   ⟨(some 2), none, .mv (.const (.bool false))⟩])
 (.prune [1] (.seq (.seq (.row [⟨(some 6), none, .fad 2 (.tmp 1)⟩,
   ⟨(some 7), none, .ld (.tmp 6)⟩,
   ⟨(some 8), none, .lenA (.tmp 7)⟩,
   ⟨(some 9), none, .ibin .gtr .i64 (.tmp 8) (.const (.int .i64 16))⟩])
 (.prune [9, 1] (.cond (.tmp 9)
  (.seq (.row [⟨(some 2), none, .mv (.const (.bool false))⟩])
  (.prune [2] .ret))
  .skip)))
 (.prune [1] (.seq (.seq (.row [⟨(some 10), none, .fad 2 (.tmp 1)⟩,
   ⟨(some 11), none, .ld (.tmp 10)⟩,
   ⟨(some 12), none, .lenA (.tmp 11)⟩,
   ⟨(some 13), none, .mv (.const (.int .i64 0))⟩])
 (.prune [1, 13, 12] (.block 0 (.loop [13] [2, 3, 4, 5, 13, 14, 15, 16, 17, 18, 19, 20, 21, 22, 23, 24, 25, 26, 27, 28, 29, 30, 31, 32, 33, 34, 35, 36, 37, 38, 39, 40, 41, 42, 43, 44, 45, 46, 47, 48, 49, 50, 51, 52, 53, 54, 55, 56, 57, 58, 59, 60, 61, 62, 63, 64, 65, 66, 67, 68, 69, 70, 71, 72] (.seq (.row [⟨(some 14), none, .ibin .lss .i64 (.tmp 13) (.tmp 12)⟩])
  (.prune [14, 12, 13, 1] (.seq (.cond (.tmp 14)
   .skip
   (.exit 0))
  (.prune [12, 13, 1] (.seq (.block 1 (.seq (.row [⟨(some 15), none, .mv (.tmp 13)⟩,
    ⟨(some 3), none, .mv (.tmp 15)⟩])
  (.prune [3, 12, 13, 1] (.seq (.row [⟨(some 16), none, .fad 2 (.tmp 1)⟩,
    ⟨(some 17), none, .ld (.tmp 16)⟩,
    ⟨(some 18), none, .mv (.tmp 3)⟩,
    ⟨(some 19), none, .ixA 2 (.tmp 17) (.tmp 18)⟩,
    ⟨(some 20), none, .ldn 2 (.tmp 19)⟩,
    ⟨(some 4), none, .new [(.string ⟨#[]⟩), (.int .i64 0)] 112⟩,
    ⟨none, none, .stn 2 (.tmp 4) (.tmp 20)⟩])
  (.prune [3, 12, 13, 1, 4] (.seq (.seq (.row [⟨(some 21), none, .fad 0 (.tmp 4)⟩,
    ⟨(some 22), none, .ld (.tmp 21)⟩,
    ⟨(some 23), none, .call 66 [(.tmp 22)]⟩,
    ⟨(some 24), none, .notB (.tmp 23)⟩,
    ⟨(some 25), none, .mv (.tmp 24)⟩,
    ⟨(some 26), (some (25, false)), .fad 1 (.tmp 4)⟩,
    ⟨(some 27), (some (25, false)), .ld (.tmp 26)⟩,
    ⟨(some 28), (some (25, false)), .ibin .lss .i64 (.tmp 27) (.const (.int .i64 0))⟩,
    ⟨(some 29), none, .pick (.tmp 25) (.const (.bool true)) (.tmp 28)⟩,
    ⟨(some 30), none, .mv (.tmp 29)⟩,
    ⟨(some 31), (some (30, false)), .fad 1 (.tmp 4)⟩,
    ⟨(some 32), (some (30, false)), .ld (.tmp 31)⟩,
    ⟨(some 33), (some (30, false)), .fad 0 (.tmp 1)⟩,
    ⟨(some 34), (some (30, false)), .ld (.tmp 33)⟩,
    ⟨(some 35), (some (30, false)), .lenA (.tmp 34)⟩,
    ⟨(some 36), (some (30, false)), .ibin .geq .i64 (.tmp 32) (.tmp 35)⟩,
    ⟨(some 37), none, .pick (.tmp 30) (.const (.bool true)) (.tmp 36)⟩,
    ⟨(some 38), none, .mv (.tmp 37)⟩,
    ⟨(some 39), (some (38, false)), .fad 0 (.tmp 1)⟩,
    ⟨(some 40), (some (38, false)), .ld (.tmp 39)⟩,
    ⟨(some 41), (some (38, false)), .fad 1 (.tmp 4)⟩,
    ⟨(some 42), (some (38, false)), .ld (.tmp 41)⟩,
    ⟨(some 43), (some (38, false)), .ixA 1 (.tmp 40) (.tmp 42)⟩,
    ⟨(some 44), (some (38, false)), .ld (.tmp 43)⟩,
    ⟨(some 45), (some (38, false)), .sbin .neq (.tmp 44) (.const (.string ⟨#[]⟩))⟩,
    ⟨(some 46), none, .pick (.tmp 38) (.const (.bool true)) (.tmp 45)⟩])
  (.prune [46, 3, 12, 13, 1, 4] (.cond (.tmp 46)
   (.seq (.row [⟨(some 2), none, .mv (.const (.bool false))⟩])
   (.prune [2] .ret))
   .skip)))
  (.prune [4, 1, 13, 12, 3] (.seq (.row [⟨(some 5), none, .mv (.const (.int .i64 0))⟩])
  (.prune [5, 4, 1, 13, 12, 3] (.block 2 (.loop [5] [2, 5, 47, 48, 49, 50, 51, 52, 53, 54, 55, 56, 57, 58, 59, 60, 61, 62, 63, 64, 65, 66, 67, 68, 69, 70, 71] (.seq (.seq (.row [⟨(some 47), none, .mv (.tmp 5)⟩,
     ⟨(some 48), none, .mv (.tmp 3)⟩,
     ⟨(some 49), none, .ibin .lss .i64 (.tmp 47) (.tmp 48)⟩])
   (.prune [49, 3, 12, 13, 1, 4, 5] (.cond (.tmp 49)
    .skip
    (.exit 2))))
   (.prune [3, 12, 13, 1, 4, 5] (.seq (.block 3 (.seq (.draw (.take 0 ⟨(some 52), none, .fad 2 (.tmp 1)⟩ (.take 1 ⟨(some 53), none, .ld (.tmp 52)⟩ (.take 2 ⟨(some 54), none, .mv (.tmp 5)⟩ (.take 3 ⟨(some 55), none, .ixA 2 (.tmp 53) (.tmp 54)⟩ (.take 4 ⟨(some 56), none, .fad 0 (.tmp 55)⟩ (.take 5 ⟨(some 57), none, .ld (.tmp 56)⟩ (.take 6 ⟨(some 58), none, .fad 0 (.tmp 4)⟩ (.take 7 ⟨(some 59), none, .ld (.tmp 58)⟩ (.take 8 ⟨(some 60), none, .sbin .geq (.tmp 57) (.tmp 59)⟩ (.take 9 ⟨(some 61), none, .mv (.tmp 60)⟩ (.take 10 ⟨(some 62), (some (61, false)), .fad 2 (.tmp 1)⟩ (.take 11 ⟨(some 63), (some (61, false)), .ld (.tmp 62)⟩ (.take 12 ⟨(some 64), (some (61, false)), .mv (.tmp 5)⟩ (.take 13 ⟨(some 65), (some (61, false)), .ixA 2 (.tmp 63) (.tmp 64)⟩ (.take 14 ⟨(some 66), (some (61, false)), .fad 1 (.tmp 65)⟩ (.take 15 ⟨(some 67), (some (61, false)), .ld (.tmp 66)⟩ (.take 16 ⟨(some 68), (some (61, false)), .fad 1 (.tmp 4)⟩ (.take 17 ⟨(some 69), (some (61, false)), .ld (.tmp 68)⟩ (.take 18 ⟨(some 70), (some (61, false)), .ibin .eql .i64 (.tmp 67) (.tmp 69)⟩ (.take 19 ⟨(some 71), none, .pick (.tmp 61) (.const (.bool true)) (.tmp 70)⟩ .done)))))))))))))))))))))
   (.prune [71, 3, 12, 13, 1, 4, 5] (.cond (.tmp 71)
    (.seq (.row [⟨(some 2), none, .mv (.const (.bool false))⟩])
    (.prune [2] .ret))
    .skip))))
   (.prune [5, 4, 1, 13, 12, 3] (.row [⟨(some 50), none, .mv (.tmp 5)⟩,
     ⟨(some 51), none, .ibin .add .i64 (.tmp 50) (.const (.int .i64 1))⟩,
     ⟨(some 5), none, .mv (.tmp 51)⟩]))))))))))))))))
  (.prune [13, 1, 12] (.row [⟨(some 72), none, .ibin .add .i64 (.tmp 13) (.const (.int .i64 1))⟩,
    ⟨(some 13), none, .mv (.tmp 72)⟩])))))))))))
 (.prune [] (.seq (.row [⟨(some 2), none, .mv (.const (.bool true))⟩])
 (.prune [2] .ret))))))))
theorem ok49 : fits Try.prog 49 ⟨s49, 73, [.tmp 2]⟩ = some ⟨s49, 73, [.tmp 2]⟩ := by kernel_rfl
theorem go49 {args : List Value} {w : World} {R : Value → World → Prop} (hle : Nat.ble args.length 73 = true) (h : vc Try.prog 73 s49 (argEnv args 0) w (fun L w => resL L w [.tmp 2] fun vs => oneOr vs fun v => R v w) (fun _ _ _ => False) (fun L w => resL L w [.tmp 2] fun vs => oneOr vs fun v => R v w)) : Cal Try.prog 49 ⟨args⟩ w R := cal_of mo ok49 hle h

-- footbridge/footbridgeref09.Letters
def s50 : S := (.seq (.row [⟨(some 4), none, .new [(.slice none 0 0), (.slice none 0 0), (.slice none 0 0)] 46⟩,
   ⟨(some 5), none, .mv (.const (.bool false))⟩])
 (.prune [0, 1, 4] (.seq (.row [⟨(some 11), none, .bsl 124 0 [] [] []⟩,
   ⟨(some 6), none, .mv (.tmp 11)⟩])
 (.prune [6, 0, 1, 4] (.seq (.seq (.row [⟨(some 7), none, .mv (.const (.int .i64 0))⟩])
 (.prune [7, 6, 0, 1, 4] (.block 0 (.loop [6, 7] [6, 7, 12, 13, 14, 15, 16, 17, 18, 19, 20, 21, 22, 23, 24] (.seq (.seq (.row [⟨(some 12), none, .mv (.tmp 7)⟩,
    ⟨(some 13), none, .ibin .lss .i64 (.tmp 12) (.const (.int .i64 256))⟩])
  (.prune [13, 6, 7, 0, 1, 4] (.cond (.tmp 13)
   .skip
   (.exit 0))))
  (.prune [6, 7, 0, 1, 4] (.seq (.block 1 (.row [⟨(some 16), none, .mv (.tmp 6)⟩,
    ⟨(some 17), none, .mv (.tmp 7)⟩,
    ⟨(some 18), none, .conv .u8 (.tmp 17)⟩,
    ⟨(some 19), none, .bsl 5 1 [(.int .u8 0)] [(0, 1)] [(.tmp 18)]⟩,
    ⟨(some 20), none, .get (.conv 64 9) [(.tmp 19)]⟩,
    ⟨(some 21), none, .mv (.tmp 7)⟩,
    ⟨(some 22), none, .bld [(.string ⟨#[]⟩), (.int .i64 0)] [(0, 1), (1, 1)] [(.tmp 20), (.tmp 21)]⟩,
    ⟨(some 23), none, .bsl 124 1 [(.string ⟨#[]⟩), (.int .i64 0)] [(0, 2)] [(.tmp 22)]⟩,
    ⟨(some 24), none, .run (.bi .append ⟨[122, 122]⟩ 122) [(.tmp 16), (.tmp 23)]⟩,
    ⟨(some 6), none, .mv (.tmp 24)⟩]))
  (.prune [7, 6, 0, 1, 4] (.row [⟨(some 14), none, .mv (.tmp 7)⟩,
    ⟨(some 15), none, .ibin .add .i64 (.tmp 14) (.const (.int .i64 1))⟩,
    ⟨(some 7), none, .mv (.tmp 15)⟩])))))))))
 (.prune [0, 6, 1, 4] (.seq (.seq (.row [⟨(some 25), none, .mv (.tmp 0)⟩,
   ⟨(some 26), none, .lenA (.tmp 25)⟩,
   ⟨(some 27), none, .mv (.const (.int .i64 0))⟩])
 (.prune [27, 0, 6, 1, 4, 26] (.block 2 (.loop [6, 27] [6, 8, 27, 28, 29, 30, 31, 32, 33, 34, 35, 36, 37, 38, 39, 40] (.seq (.row [⟨(some 28), none, .ibin .lss .i64 (.tmp 27) (.tmp 26)⟩])
  (.prune [28, 6, 27, 0, 1, 4, 26] (.seq (.cond (.tmp 28)
   .skip
   (.exit 2))
  (.prune [6, 27, 0, 1, 4, 26] (.seq (.block 3 (.seq (.row [⟨(some 29), none, .mv (.tmp 27)⟩,
    ⟨(some 8), none, .mv (.tmp 29)⟩])
  (.prune [6, 8, 27, 0, 1, 4, 26] (.row [⟨(some 30), none, .mv (.tmp 6)⟩,
    ⟨(some 31), none, .mv (.tmp 0)⟩,
    ⟨(some 32), none, .mv (.tmp 8)⟩,
    ⟨(some 33), none, .ixA 1 (.tmp 31) (.tmp 32)⟩,
    ⟨(some 34), none, .ld (.tmp 33)⟩,
    ⟨(some 35), none, .mv (.tmp 8)⟩,
    ⟨(some 36), none, .ibin .add .i64 (.const (.int .i64 256)) (.tmp 35)⟩,
    ⟨(some 37), none, .bld [(.string ⟨#[]⟩), (.int .i64 0)] [(0, 1), (1, 1)] [(.tmp 34), (.tmp 36)]⟩,
    ⟨(some 38), none, .bsl 124 1 [(.string ⟨#[]⟩), (.int .i64 0)] [(0, 2)] [(.tmp 37)]⟩,
    ⟨(some 39), none, .run (.bi .append ⟨[122, 122]⟩ 122) [(.tmp 30), (.tmp 38)]⟩,
    ⟨(some 6), none, .mv (.tmp 39)⟩]))))
  (.prune [27, 0, 6, 1, 4, 26] (.row [⟨(some 40), none, .ibin .add .i64 (.tmp 27) (.const (.int .i64 1))⟩,
    ⟨(some 27), none, .mv (.tmp 40)⟩])))))))))))
 (.prune [0, 1, 6, 4] (.seq (.row [⟨(some 41), none, .bsl 112 0 [] [] []⟩,
   ⟨(some 9), none, .mv (.tmp 41)⟩])
 (.prune [0, 1, 9, 6, 4] (.seq (.seq (.row [⟨(some 42), none, .mv (.tmp 1)⟩,
   ⟨(some 43), none, .lenA (.tmp 42)⟩,
   ⟨(some 44), none, .mv (.const (.int .i64 0))⟩])
 (.prune [44, 0, 1, 9, 6, 4, 43] (.block 4 (.loop [9, 44] [9, 10, 44, 45, 46, 47, 48, 49, 50, 51, 52, 53, 54, 55, 56, 57, 58, 59, 60] (.seq (.row [⟨(some 45), none, .ibin .lss .i64 (.tmp 44) (.tmp 43)⟩])
  (.prune [45, 9, 44, 0, 1, 6, 4, 43] (.seq (.cond (.tmp 45)
   .skip
   (.exit 4))
  (.prune [9, 44, 0, 1, 6, 4, 43] (.seq (.block 5 (.seq (.row [⟨(some 46), none, .mv (.tmp 44)⟩,
    ⟨(some 10), none, .mv (.tmp 46)⟩])
  (.prune [9, 10, 44, 0, 1, 6, 4, 43] (.row [⟨(some 47), none, .mv (.tmp 9)⟩,
    ⟨(some 48), none, .mv (.tmp 1)⟩,
    ⟨(some 49), none, .mv (.tmp 10)⟩,
    ⟨(some 50), none, .ixA 1 (.tmp 48) (.tmp 49)⟩,
    ⟨(some 51), none, .ld (.tmp 50)⟩,
    ⟨(some 52), none, .mv (.tmp 0)⟩,
    ⟨(some 53), none, .lenA (.tmp 52)⟩,
    ⟨(some 54), none, .ibin .add .i64 (.const (.int .i64 256)) (.tmp 53)⟩,
    ⟨(some 55), none, .mv (.tmp 10)⟩,
    ⟨(some 56), none, .ibin .add .i64 (.tmp 54) (.tmp 55)⟩,
    ⟨(some 57), none, .bld [(.string ⟨#[]⟩), (.int .i64 0)] [(0, 1), (1, 1)] [(.tmp 51), (.tmp 56)]⟩,
    ⟨(some 58), none, .bsl 112 1 [(.string ⟨#[]⟩), (.int .i64 0)] [(0, 2)] [(.tmp 57)]⟩,
    ⟨(some 59), none, .run (.bi .append ⟨[44, 44]⟩ 44) [(.tmp 47), (.tmp 58)]⟩,
    ⟨(some 9), none, .mv (.tmp 59)⟩]))))
  (.prune [44, 0, 1, 9, 6, 4, 43] (.row [⟨(some 60), none, .ibin .add .i64 (.tmp 44) (.const (.int .i64 1))⟩,
    ⟨(some 44), none, .mv (.tmp 60)⟩])))))))))))
 (.prune [6, 9, 4] (.seq (.row [⟨(some 61), none, .mv (.tmp 6)⟩,
   ⟨(some 62), none, .mv (.tmp 9)⟩,
   ⟨(some 63), none, .call 67 [(.tmp 61), (.tmp 62)]⟩,
   ⟨(some 64), none, .ext (.tmp 63) 0⟩,
   ⟨(some 65), none, .ext (.tmp 63) 1⟩,
   ⟨none, none, .stn 3 (.tmp 4) (.tmp 64)⟩,
   ⟨(some 5), none, .mv (.tmp 65)⟩])
 (.prune [4, 5] .ret))))))))))))))
theorem ok50 : fits Try.prog 50 ⟨s50, 66, [.cell 4 (some 3), .tmp 5]⟩ = some ⟨s50, 66, [.cell 4 (some 3), .tmp 5]⟩ := by kernel_rfl
theorem go50 {args : List Value} {w : World} {R : Value → World → Prop} (hle : Nat.ble args.length 66 = true) (h : vc Try.prog 66 s50 (argEnv args 0) w (fun L w => resL L w [.cell 4 (some 3), .tmp 5] fun vs => oneOr vs fun v => R v w) (fun _ _ _ => False) (fun L w => resL L w [.cell 4 (some 3), .tmp 5] fun vs => oneOr vs fun v => R v w)) : Cal Try.prog 50 ⟨args⟩ w R := cal_of mo ok50 hle h

-- (*footbridge/pair.Table).Find
def s53 : S := (.seq (.row [⟨(some 6), none, .new [(.int .i64 0), (.int .i64 0), (.int .i64 0), (.int .i64 0)] 55⟩,
   ⟨(some 7), none, .mv (.const (.bool false))⟩])
 (.prune [0, 2, 1, 6] (.seq (.seq (.row [⟨(some 10), none, .mv (.tmp 0)⟩,
   ⟨(some 11), none, .isnil 0 false (.tmp 10)⟩])
 (.prune [11, 0, 2, 1, 6] (.cond (.tmp 11)
  (.seq (.row [⟨(some 12), none, .bld [(.int .i64 0), (.int .i64 0), (.int .i64 0), (.int .i64 0)] [] []⟩,
    ⟨none, none, .stn 4 (.tmp 6) (.tmp 12)⟩,
    ⟨(some 7), none, .mv (.const (.bool false))⟩])
  (.prune [6, 7] .ret))
  .skip)))
 (.prune [1, 2, 0, 6] (.seq (.row [⟨(some 14), none, .mv (.tmp 0)⟩,
   ⟨(some 15), none, .nck (.tmp 14)⟩,
   ⟨(some 16), none, .fad 1 (.tmp 15)⟩,
   ⟨(some 17), none, .ld (.tmp 16)⟩,
   ⟨(some 18), none, .mv (.tmp 1)⟩,
   ⟨(some 19), none, .mv (.tmp 2)⟩,
   ⟨(some 20), none, .bld [(.int .i64 0), (.int .i64 0)] [(0, 1), (1, 1)] [(.tmp 18), (.tmp 19)]⟩,
   ⟨(some 21), none, .get (.lookup 93 true) [(.tmp 17), (.tmp 20)]⟩,
   ⟨(some 13), none, .mv (.tmp 21)⟩,
   ⟨(some 22), none, .ext (.tmp 13) 0⟩,
   ⟨(some 23), none, .ext (.tmp 13) 1⟩,
   ⟨(some 8), none, .mv (.tmp 22)⟩,
   ⟨(some 9), none, .mv (.tmp 23)⟩])
 (.prune [9, 8, 0, 6] (.seq (.seq (.row [⟨(some 24), none, .mv (.tmp 9)⟩,
   ⟨(some 25), none, .notB (.tmp 24)⟩])
 (.prune [25, 8, 0, 6] (.cond (.tmp 25)
  (.seq (.row [⟨(some 26), none, .bld [(.int .i64 0), (.int .i64 0), (.int .i64 0), (.int .i64 0)] [] []⟩,
    ⟨none, none, .stn 4 (.tmp 6) (.tmp 26)⟩,
    ⟨(some 7), none, .mv (.const (.bool false))⟩])
  (.prune [6, 7] .ret))
  .skip)))
 (.prune [0, 8, 6] (.seq (.row [⟨(some 27), none, .mv (.tmp 0)⟩,
   ⟨(some 28), none, .nck (.tmp 27)⟩,
   ⟨(some 29), none, .fad 0 (.tmp 28)⟩,
   ⟨(some 30), none, .ld (.tmp 29)⟩,
   ⟨(some 31), none, .mv (.tmp 8)⟩,
   ⟨(some 32), none, .ixA 4 (.tmp 30) (.tmp 31)⟩,
   ⟨(some 33), none, .ldn 4 (.tmp 32)⟩,
   ⟨none, none, .stn 4 (.tmp 6) (.tmp 33)⟩,
   ⟨(some 7), none, .mv (.const (.bool true))⟩])
 (.prune [6, 7] .ret))))))))))
theorem ok53 : fits Try.prog 53 ⟨s53, 34, [.cell 6 (some 4), .tmp 7]⟩ = some ⟨s53, 34, [.cell 6 (some 4), .tmp 7]⟩ := by kernel_rfl
theorem go53 {args : List Value} {w : World} {R : Value → World → Prop} (hle : Nat.ble args.length 34 = true) (h : vc Try.prog 34 s53 (argEnv args 0) w (fun L w => resL L w [.cell 6 (some 4), .tmp 7] fun vs => oneOr vs fun v => R v w) (fun _ _ _ => False) (fun L w => resL L w [.cell 6 (some 4), .tmp 7] fun vs => oneOr vs fun v => R v w)) : Cal Try.prog 53 ⟨args⟩ w R := cal_of mo ok53 hle h

-- footbridge/footbridgeref10.Find
def s54 : S := (.seq (.row [⟨(some 3), none, .box 46 (.tmp 0)⟩,
   ⟨(some 6), none, .mv (.const (.int .i64 0))⟩])
 (.prune [2, 3, 1] (.seq (.seq (.row [⟨(some 8), none, .fad 1 (.tmp 3)⟩,
   ⟨(some 9), none, .ld (.tmp 8)⟩,
   ⟨(some 10), none, .lenA (.tmp 9)⟩,
   ⟨(some 11), none, .mv (.const (.int .i64 0))⟩])
 (.prune [11, 2, 3, 1, 10] (.block 0 (.loop [11] [6, 7, 11, 12, 13, 14, 15, 16, 17, 18, 19, 20, 21, 22, 23, 24, 25, 26, 27, 28, 29, 30, 31, 32, 33] (.seq (.row [⟨(some 12), none, .ibin .lss .i64 (.tmp 11) (.tmp 10)⟩])
  (.prune [12, 10, 1, 3, 2, 11] (.seq (.cond (.tmp 12)
   .skip
   (.exit 0))
  (.prune [10, 1, 3, 2, 11] (.seq (.block 1 (.seq (.row [⟨(some 13), none, .mv (.tmp 11)⟩,
    ⟨(some 7), none, .mv (.tmp 13)⟩])
  (.prune [10, 1, 3, 2, 11, 7] (.seq (.row [⟨(some 14), none, .fad 1 (.tmp 3)⟩,
    ⟨(some 15), none, .ld (.tmp 14)⟩,
    ⟨(some 16), none, .mv (.tmp 7)⟩,
    ⟨(some 17), none, .ixA 4 (.tmp 15) (.tmp 16)⟩,
    ⟨(some 18), none, .fad 0 (.tmp 17)⟩,
    ⟨(some 19), none, .ld (.tmp 18)⟩,
    ⟨(some 20), none, .mv (.tmp 1)⟩,
    ⟨(some 21), none, .ibin .eql .i64 (.tmp 19) (.tmp 20)⟩,
    ⟨(some 22), none, .mv (.tmp 21)⟩,
    ⟨(some 23), (some (22, true)), .fad 1 (.tmp 3)⟩,
    ⟨(some 24), (some (22, true)), .ld (.tmp 23)⟩,
    ⟨(some 25), (some (22, true)), .mv (.tmp 7)⟩,
    ⟨(some 26), (some (22, true)), .ixA 4 (.tmp 24) (.tmp 25)⟩,
    ⟨(some 27), (some (22, true)), .fad 1 (.tmp 26)⟩,
    ⟨(some 28), (some (22, true)), .ld (.tmp 27)⟩,
    ⟨(some 29), (some (22, true)), .mv (.tmp 2)⟩,
    ⟨(some 30), (some (22, true)), .ibin .eql .i64 (.tmp 28) (.tmp 29)⟩,
    ⟨(some 31), none, .pick (.tmp 22) (.tmp 30) (.const (.bool false))⟩])
  (.prune [31, 10, 1, 3, 2, 11, 7] (.cond (.tmp 31)
   (.seq (.row [⟨(some 32), none, .mv (.tmp 7)⟩,
     ⟨(some 6), none, .mv (.tmp 32)⟩])
   (.prune [6] .ret))
   .skip))))))
  (.prune [11, 2, 3, 1, 10] (.row [⟨(some 33), none, .ibin .add .i64 (.tmp 11) (.const (.int .i64 1))⟩,
    ⟨(some 11), none, .mv (.tmp 33)⟩])))))))))))
 (.prune [] (.seq (.row [⟨(some 6), none, .mv (.const (.int .i64 (-1)))⟩])
 (.prune [6] .ret))))))
theorem ok54 : fits Try.prog 54 ⟨s54, 34, [.tmp 6]⟩ = some ⟨s54, 34, [.tmp 6]⟩ := by kernel_rfl
theorem go54 {args : List Value} {w : World} {R : Value → World → Prop} (hle : Nat.ble args.length 34 = true) (h : vc Try.prog 34 s54 (argEnv args 0) w (fun L w => resL L w [.tmp 6] fun vs => oneOr vs fun v => R v w) (fun _ _ _ => False) (fun L w => resL L w [.tmp 6] fun vs => oneOr vs fun v => R v w)) : Cal Try.prog 54 ⟨args⟩ w R := cal_of mo ok54 hle h

-- footbridge/footbridgeref10.Run
def s59 : S := (.seq (.row [⟨(some 2), none, .box 46 (.tmp 0)⟩,
   ⟨(some 4), none, .mv (.const (.slice none 0 0))⟩])
 (.prune [1, 2] (.seq (.row [⟨(some 8), none, .mv (.tmp 1)⟩,
   ⟨(some 5), none, .mv (.tmp 8)⟩])
 (.prune [1, 5, 2] (.seq (.seq (.row [⟨(some 9), none, .mv (.tmp 1)⟩,
   ⟨(some 10), none, .lenA (.tmp 9)⟩,
   ⟨(some 11), none, .mv (.const (.int .i64 0))⟩])
 (.prune [5, 11, 2, 10] (.block 0 (.loop [5, 11] [4, 5, 6, 7, 11, 12, 13, 14, 15, 16, 17, 18, 19, 20, 21, 22, 23] (.seq (.row [⟨(some 12), none, .ibin .lss .i64 (.tmp 11) (.tmp 10)⟩])
  (.prune [12, 10, 2, 11, 5] (.seq (.cond (.tmp 12)
   .skip
   (.exit 0))
  (.prune [10, 2, 11, 5] (.seq (.block 1 (.seq (.row [⟨(some 14), none, .ldn 3 (.tmp 2)⟩,
    ⟨(some 15), none, .mv (.tmp 5)⟩,
    ⟨(some 16), none, .call 28 [(.tmp 14), (.tmp 15)]⟩,
    ⟨(some 13), none, .mv (.tmp 16)⟩,
    ⟨(some 17), none, .ext (.tmp 13) 0⟩,
    ⟨(some 18), none, .ext (.tmp 13) 1⟩,
    ⟨(some 6), none, .mv (.tmp 17)⟩,
    ⟨(some 7), none, .mv (.tmp 18)⟩])
  (.prune [7, 10, 2, 11, 6, 5] (.seq (.seq (.row [⟨(some 19), none, .mv (.tmp 7)⟩,
    ⟨(some 20), none, .notB (.tmp 19)⟩])
  (.prune [20, 10, 2, 11, 6, 5] (.cond (.tmp 20)
   (.seq (.row [⟨(some 21), none, .mv (.tmp 5)⟩,
     ⟨(some 4), none, .mv (.tmp 21)⟩])
   (.prune [4] .ret))
   .skip)))
  (.prune [6, 11, 2, 10] (.row [⟨(some 22), none, .mv (.tmp 6)⟩,
    ⟨(some 5), none, .mv (.tmp 22)⟩]))))))
  (.prune [11, 5, 2, 10] (.row [⟨(some 23), none, .ibin .add .i64 (.tmp 11) (.const (.int .i64 1))⟩,
    ⟨(some 11), none, .mv (.tmp 23)⟩])))))))))))
 (.prune [5] (.seq (.row [⟨(some 24), none, .mv (.tmp 5)⟩,
   ⟨(some 4), none, .mv (.tmp 24)⟩])
 (.prune [4] .ret))))))))
theorem ok59 : fits Try.prog 59 ⟨s59, 25, [.tmp 4]⟩ = some ⟨s59, 25, [.tmp 4]⟩ := by kernel_rfl
theorem go59 {args : List Value} {w : World} {R : Value → World → Prop} (hle : Nat.ble args.length 25 = true) (h : vc Try.prog 25 s59 (argEnv args 0) w (fun L w => resL L w [.tmp 4] fun vs => oneOr vs fun v => R v w) (fun _ _ _ => False) (fun L w => resL L w [.tmp 4] fun vs => oneOr vs fun v => R v w)) : Cal Try.prog 59 ⟨args⟩ w R := cal_of mo ok59 hle h

-- footbridge/footbridgeref09.is
def s64 : S := (.seq (.row [⟨(some 4), none, .mv (.const (.bool false))⟩])
 (.prune [0, 1] (.seq (.row [⟨(some 5), none, .mv (.tmp 1)⟩,
   ⟨(some 6), none, .ibin .geq .i64 (.tmp 5) (.const (.int .i64 0))⟩,
   ⟨(some 7), none, .mv (.tmp 6)⟩,
   ⟨(some 8), (some (7, true)), .mv (.tmp 1)⟩,
   ⟨(some 9), (some (7, true)), .mv (.tmp 0)⟩,
   ⟨(some 10), (some (7, true)), .lenA (.tmp 9)⟩,
   ⟨(some 11), (some (7, true)), .ibin .lss .i64 (.tmp 8) (.tmp 10)⟩,
   ⟨(some 12), none, .pick (.tmp 7) (.tmp 11) (.const (.bool false))⟩,
   ⟨(some 13), none, .mv (.tmp 12)⟩,
   ⟨(some 14), (some (13, true)), .mv (.tmp 0)⟩,
   ⟨(some 15), (some (13, true)), .mv (.tmp 1)⟩,
   ⟨(some 16), (some (13, true)), .ixA 1 (.tmp 14) (.tmp 15)⟩,
   ⟨(some 17), (some (13, true)), .ld (.tmp 16)⟩,
   ⟨(some 18), (some (13, true)), .sbin .neq (.tmp 17) (.const (.string ⟨#[]⟩))⟩,
   ⟨(some 19), none, .pick (.tmp 13) (.tmp 18) (.const (.bool false))⟩,
   ⟨(some 4), none, .mv (.tmp 19)⟩])
 (.prune [4] .ret))))
theorem ok64 : fits Try.prog 64 ⟨s64, 20, [.tmp 4]⟩ = some ⟨s64, 20, [.tmp 4]⟩ := by kernel_rfl
theorem go64 {args : List Value} {w : World} {R : Value → World → Prop} (hle : Nat.ble args.length 20 = true) (h : vc Try.prog 20 s64 (argEnv args 0) w (fun L w => resL L w [.tmp 4] fun vs => oneOr vs fun v => R v w) (fun _ _ _ => False) (fun L w => resL L w [.tmp 4] fun vs => oneOr vs fun v => R v w)) : Cal Try.prog 64 ⟨args⟩ w R := cal_of mo ok64 hle h

-- footbridge/footbridgeref09.ahead
def s65 : S := (.seq (.row [⟨(some 2), none, .box 55 (.tmp 0)⟩,
   ⟨(some 3), none, .box 55 (.tmp 1)⟩,
   ⟨(some 4), none, .mv (.const (.bool false))⟩])
 (.prune [2, 3] (.seq (.seq (.row [⟨(some 5), none, .fad 3 (.tmp 2)⟩,
   ⟨(some 6), none, .ld (.tmp 5)⟩,
   ⟨(some 7), none, .fad 3 (.tmp 3)⟩,
   ⟨(some 8), none, .ld (.tmp 7)⟩,
   ⟨(some 9), none, .ibin .neq .i64 (.tmp 6) (.tmp 8)⟩])
 (.prune [9, 2, 3] (.cond (.tmp 9)
  (.seq (.row [⟨(some 10), none, .fad 3 (.tmp 2)⟩,
    ⟨(some 11), none, .ld (.tmp 10)⟩,
    ⟨(some 12), none, .fad 3 (.tmp 3)⟩,
    ⟨(some 13), none, .ld (.tmp 12)⟩,
    ⟨(some 14), none, .ibin .lss .i64 (.tmp 11) (.tmp 13)⟩,
    ⟨(some 4), none, .mv (.tmp 14)⟩])
  (.prune [4] .ret))
  .skip)))
 (.prune [2, 3] (.seq (.seq (.row [⟨(some 15), none, .fad 0 (.tmp 2)⟩,
   ⟨(some 16), none, .ld (.tmp 15)⟩,
   ⟨(some 17), none, .fad 0 (.tmp 3)⟩,
   ⟨(some 18), none, .ld (.tmp 17)⟩,
   ⟨(some 19), none, .ibin .neq .i64 (.tmp 16) (.tmp 18)⟩])
 (.prune [19, 2, 3] (.cond (.tmp 19)
  (.seq (.row [⟨(some 20), none, .fad 0 (.tmp 2)⟩,
    ⟨(some 21), none, .ld (.tmp 20)⟩,
    ⟨(some 22), none, .fad 0 (.tmp 3)⟩,
    ⟨(some 23), none, .ld (.tmp 22)⟩,
    ⟨(some 24), none, .ibin .lss .i64 (.tmp 21) (.tmp 23)⟩,
    ⟨(some 4), none, .mv (.tmp 24)⟩])
  (.prune [4] .ret))
  .skip)))
 (.prune [2, 3] (.seq (.row [⟨(some 25), none, .fad 1 (.tmp 2)⟩,
   ⟨(some 26), none, .ld (.tmp 25)⟩,
   ⟨(some 27), none, .fad 1 (.tmp 3)⟩,
   ⟨(some 28), none, .ld (.tmp 27)⟩,
   ⟨(some 29), none, .ibin .lss .i64 (.tmp 26) (.tmp 28)⟩,
   ⟨(some 4), none, .mv (.tmp 29)⟩])
 (.prune [4] .ret))))))))
theorem ok65 : fits Try.prog 65 ⟨s65, 30, [.tmp 4]⟩ = some ⟨s65, 30, [.tmp 4]⟩ := by kernel_rfl
theorem go65 {args : List Value} {w : World} {R : Value → World → Prop} (hle : Nat.ble args.length 30 = true) (h : vc Try.prog 30 s65 (argEnv args 0) w (fun L w => resL L w [.tmp 4] fun vs => oneOr vs fun v => R v w) (fun _ _ _ => False) (fun L w => resL L w [.tmp 4] fun vs => oneOr vs fun v => R v w)) : Cal Try.prog 65 ⟨args⟩ w R := cal_of mo ok65 hle h

-- footbridge/footbridgeref09.MayName
def s66 : S := (.seq (.row [⟨(some 2), none, .mv (.const (.bool false))⟩])
 (.prune [0] (.seq (.seq (.row [⟨(some 3), none, .mv (.const (.int .i64 0))⟩])
 (.prune [3, 0] (.block 0 (.loop [3] [2, 3, 4, 5, 6, 7, 8, 9, 10, 11, 12, 13, 14, 15, 16, 17, 18, 19, 20, 21, 22, 23, 24, 25, 26, 27, 28, 29, 30, 31, 32] (.seq (.seq (.row [⟨(some 5), none, .mv (.tmp 3)⟩,
    ⟨(some 6), none, .mv (.tmp 0)⟩,
    ⟨(some 7), none, .lenS (.tmp 6)⟩,
    ⟨(some 8), none, .ibin .lss .i64 (.tmp 5) (.tmp 7)⟩])
  (.prune [8, 0, 3] (.cond (.tmp 8)
   .skip
   (.exit 0))))
  (.prune [0, 3] (.seq (.block 1 (.seq (.row [⟨(some 11), none, .mv (.tmp 0)⟩,
    ⟨(some 12), none, .mv (.tmp 3)⟩,
    ⟨(some 13), none, .ixS (.tmp 11) (.tmp 12)⟩,
    ⟨(some 4), none, .mv (.tmp 13)⟩])
  (.prune [4, 0, 3] (.seq (.row [⟨(some 14), none, .mv (.tmp 4)⟩,
    ⟨(some 15), none, .ibin .geq .u8 (.tmp 14) (.const (.int .u8 97))⟩,
    ⟨(some 16), none, .mv (.tmp 15)⟩,
    ⟨(some 17), (some (16, true)), .mv (.tmp 4)⟩,
    ⟨(some 18), (some (16, true)), .ibin .leq .u8 (.tmp 17) (.const (.int .u8 122))⟩,
    ⟨(some 19), none, .pick (.tmp 16) (.tmp 18) (.const (.bool false))⟩,
    ⟨(some 20), none, .mv (.tmp 19)⟩,
    ⟨(some 21), (some (20, false)), .mv (.tmp 4)⟩,
    ⟨(some 22), (some (20, false)), .ibin .geq .u8 (.tmp 21) (.const (.int .u8 48))⟩,
    ⟨(some 23), (some (20, false)), .mv (.tmp 22)⟩,
    ⟨(some 24), (some (23, true)), .mv (.tmp 4)⟩,
    ⟨(some 25), (some (23, true)), .ibin .leq .u8 (.tmp 24) (.const (.int .u8 57))⟩,
    ⟨(some 26), (some (20, false)), .pick (.tmp 23) (.tmp 25) (.const (.bool false))⟩,
    ⟨(some 27), none, .pick (.tmp 20) (.const (.bool true)) (.tmp 26)⟩,
    ⟨(some 28), none, .mv (.tmp 27)⟩,
    ⟨(some 29), (some (28, false)), .mv (.tmp 4)⟩,
    ⟨(some 30), (some (28, false)), .ibin .eql .u8 (.tmp 29) (.const (.int .u8 95))⟩,
    ⟨(some 31), none, .pick (.tmp 28) (.const (.bool true)) (.tmp 30)⟩,
    ⟨(some 32), none, .notB (.tmp 31)⟩])
  (.prune [32, 0, 3] (.cond (.tmp 32)
   (.seq (.row [⟨(some 2), none, .mv (.const (.bool false))⟩])
   (.prune [2] .ret))
   .skip))))))
  (.prune [3, 0] (.row [⟨(some 9), none, .mv (.tmp 3)⟩,
    ⟨(some 10), none, .ibin .add .i64 (.tmp 9) (.const (.int .i64 1))⟩,
    ⟨(some 3), none, .mv (.tmp 10)⟩])))))))))
 (.prune [0] (.seq (.row [⟨(some 33), none, .mv (.tmp 0)⟩,
   ⟨(some 34), none, .lenS (.tmp 33)⟩,
   ⟨(some 35), none, .ibin .geq .i64 (.tmp 34) (.const (.int .i64 1))⟩,
   ⟨(some 36), none, .mv (.tmp 35)⟩,
   ⟨(some 37), (some (36, true)), .mv (.tmp 0)⟩,
   ⟨(some 38), (some (36, true)), .lenS (.tmp 37)⟩,
   ⟨(some 39), (some (36, true)), .ibin .leq .i64 (.tmp 38) (.const (.int .i64 24))⟩,
   ⟨(some 40), none, .pick (.tmp 36) (.tmp 39) (.const (.bool false))⟩,
   ⟨(some 2), none, .mv (.tmp 40)⟩])
 (.prune [2] .ret))))))
theorem ok66 : fits Try.prog 66 ⟨s66, 41, [.tmp 2]⟩ = some ⟨s66, 41, [.tmp 2]⟩ := by kernel_rfl
theorem go66 {args : List Value} {w : World} {R : Value → World → Prop} (hle : Nat.ble args.length 41 = true) (h : vc Try.prog 41 s66 (argEnv args 0) w (fun L w => resL L w [.tmp 2] fun vs => oneOr vs fun v => R v w) (fun _ _ _ => False) (fun L w => resL L w [.tmp 2] fun vs => oneOr vs fun v => R v w)) : Cal Try.prog 66 ⟨args⟩ w R := cal_of mo ok66 hle h

-- footbridge/footbridgeref09.FromRows
def s67 : S := (.seq (.row [⟨(some 4), none, .new [(.slice none 0 0), (.slice none 0 0), (.slice none 0 0)] 46⟩,
   ⟨(some 5), none, .mv (.const (.bool false))⟩])
 (.prune [0, 1, 4] (.seq (.row [⟨(some 14), none, .mv (.tmp 0)⟩,
   ⟨(some 15), none, .mv (.tmp 1)⟩,
   ⟨(some 16), none, .call 73 [(.tmp 14), (.tmp 15)]⟩,
   ⟨(some 13), none, .mv (.tmp 16)⟩,
   ⟨(some 17), none, .ext (.tmp 13) 0⟩,
   ⟨(some 18), none, .ext (.tmp 13) 1⟩,
   ⟨(some 6), none, .new [(.slice none 0 0), (.slice none 0 0), (.slice none 0 0)] 46⟩,
   ⟨none, none, .stn 3 (.tmp 6) (.tmp 17)⟩,
   ⟨(some 7), none, .mv (.tmp 18)⟩])
 (.prune [7, 6, 4] (.seq (.seq (.row [⟨(some 19), none, .mv (.tmp 7)⟩,
   ⟨(some 20), none, .notB (.tmp 19)⟩])
 (.prune [20, 6, 4] (.cond (.tmp 20)
  (.seq (.row [⟨(some 21), none, .bld [(.slice none 0 0), (.slice none 0 0), (.slice none 0 0)] [] []⟩,
    ⟨none, none, .stn 3 (.tmp 4) (.tmp 21)⟩,
    ⟨(some 5), none, .mv (.const (.bool false))⟩])
  (.prune [4, 5] .ret))
  .skip)))
 (.prune [6, 4] (.seq (.seq (.row [⟨(some 22), none, .fad 0 (.tmp 6)⟩,
   ⟨(some 23), none, .ld (.tmp 22)⟩,
   ⟨(some 24), none, .lenA (.tmp 23)⟩,
   ⟨(some 25), none, .mv (.const (.int .i64 0))⟩])
 (.prune [25, 6, 4, 24] (.block 0 (.loop [25] [8, 9, 10, 11, 12, 25, 26, 27, 28, 29, 30, 31, 32, 33, 34, 35, 36, 37, 38, 39, 40, 41, 42, 43, 44, 45, 46, 47, 48, 49, 50, 51, 52, 53, 54, 55, 56, 57, 58, 59, 60, 61, 62, 63, 64, 65, 66] (.seq (.row [⟨(some 26), none, .ibin .lss .i64 (.tmp 25) (.tmp 24)⟩])
  (.prune [26, 6, 25, 4, 24] (.seq (.cond (.tmp 26)
   .skip
   (.exit 0))
  (.prune [6, 25, 4, 24] (.seq (.block 1 (.seq (.row [⟨(some 27), none, .mv (.tmp 25)⟩,
    ⟨(some 8), none, .mv (.tmp 27)⟩])
  (.prune [6, 8, 25, 4, 24] (.seq (.row [⟨(some 28), none, .fad 0 (.tmp 6)⟩,
    ⟨(some 29), none, .ld (.tmp 28)⟩,
    ⟨(some 30), none, .mv (.tmp 8)⟩,
    ⟨(some 31), none, .ixA 1 (.tmp 29) (.tmp 30)⟩,
    ⟨(some 32), none, .ld (.tmp 31)⟩,
    ⟨(some 9), none, .mv (.tmp 32)⟩])
  (.prune [6, 8, 9, 25, 4, 24] (.seq (.row [⟨(some 10), none, .mv (.const (.int .i64 1))⟩])
  (.prune [10, 6, 8, 9, 25, 4, 24] (.block 2 (.loop [10] [10, 11, 12, 33, 34, 35, 36, 37, 38, 39, 40, 41, 42, 43, 44, 45, 46, 47, 48, 49, 50, 51, 52, 53, 54, 55, 56, 57, 58, 59, 60, 61, 62, 63, 64, 65] (.seq (.seq (.row [⟨(some 33), none, .mv (.tmp 10)⟩,
     ⟨(some 34), none, .mv (.tmp 9)⟩,
     ⟨(some 35), none, .lenS (.tmp 34)⟩,
     ⟨(some 36), none, .ibin .lss .i64 (.tmp 33) (.tmp 35)⟩])
   (.prune [36, 10, 6, 8, 9, 25, 4, 24] (.cond (.tmp 36)
    .skip
    (.exit 2))))
   (.prune [10, 6, 8, 9, 25, 4, 24] (.seq (.block 3 (.seq (.draw (.take 0 ⟨(some 39), none, .fad 0 (.tmp 6)⟩ (.take 1 ⟨(some 40), none, .ld (.tmp 39)⟩ (.take 2 ⟨(some 41), none, .mv (.tmp 9)⟩ (.take 3 ⟨(some 42), none, .mv (.tmp 10)⟩ (.take 4 ⟨(some 43), none, .sls (.tmp 41) none (some (.tmp 42))⟩ (.step 5 false ⟨(some 44), none, .call 39 [(.tmp 40), (.tmp 43)]⟩ (.take 6 ⟨(some 11), none, .mv (.tmp 44)⟩ .done))))))))
   (.prune [11, 10, 6, 8, 9, 25, 4, 24] (.seq (.draw (.take 0 ⟨(some 45), none, .fad 0 (.tmp 6)⟩ (.take 1 ⟨(some 46), none, .ld (.tmp 45)⟩ (.take 2 ⟨(some 47), none, .mv (.tmp 9)⟩ (.take 3 ⟨(some 48), none, .mv (.tmp 10)⟩ (.take 4 ⟨(some 49), none, .sls (.tmp 47) (some (.tmp 48)) none⟩ (.step 5 false ⟨(some 50), none, .call 39 [(.tmp 46), (.tmp 49)]⟩ (.take 6 ⟨(some 12), none, .mv (.tmp 50)⟩ .done))))))))
   (.prune [11, 12, 10, 6, 8, 9, 25, 4, 24] (.seq (.row [⟨(some 51), none, .mv (.tmp 11)⟩,
     ⟨(some 52), none, .ibin .geq .i64 (.tmp 51) (.const (.int .i64 0))⟩,
     ⟨(some 53), none, .mv (.tmp 52)⟩,
     ⟨(some 54), (some (53, true)), .mv (.tmp 12)⟩,
     ⟨(some 55), (some (53, true)), .ibin .geq .i64 (.tmp 54) (.const (.int .i64 0))⟩,
     ⟨(some 56), none, .pick (.tmp 53) (.tmp 55) (.const (.bool false))⟩])
   (.prune [56, 11, 12, 10, 6, 8, 9, 25, 4, 24] (.cond (.tmp 56)
    (.row [⟨(some 57), none, .fad 1 (.tmp 6)⟩,
      ⟨(some 58), none, .ld (.tmp 57)⟩,
      ⟨(some 59), none, .mv (.tmp 11)⟩,
      ⟨(some 60), none, .mv (.tmp 12)⟩,
      ⟨(some 61), none, .mv (.tmp 8)⟩,
      ⟨(some 62), none, .mv (.tmp 8)⟩,
      ⟨(some 63), none, .bld [(.int .i64 0), (.int .i64 0), (.int .i64 0), (.int .i64 0)] [(0, 1), (1, 1), (2, 1), (3, 1)] [(.tmp 59), (.tmp 60), (.tmp 61), (.tmp 62)]⟩,
      ⟨(some 64), none, .call 74 [(.tmp 58), (.tmp 63)]⟩,
      ⟨(some 65), none, .fad 1 (.tmp 6)⟩,
      ⟨none, none, .st (.tmp 65) (.tmp 64)⟩])
    .skip))))))))
   (.prune [10, 6, 8, 9, 25, 4, 24] (.row [⟨(some 37), none, .mv (.tmp 10)⟩,
     ⟨(some 38), none, .ibin .add .i64 (.tmp 37) (.const (.int .i64 1))⟩,
     ⟨(some 10), none, .mv (.tmp 38)⟩]))))))))))))))
  (.prune [25, 6, 4, 24] (.row [⟨(some 66), none, .ibin .add .i64 (.tmp 25) (.const (.int .i64 1))⟩,
    ⟨(some 25), none, .mv (.tmp 66)⟩])))))))))))
 (.prune [6, 4] (.seq (.seq (.row [⟨(some 67), none, .ldn 3 (.tmp 6)⟩,
   ⟨(some 68), none, .call 22 [(.tmp 67)]⟩,
   ⟨(some 69), none, .notB (.tmp 68)⟩])
 (.prune [69, 6, 4] (.cond (.tmp 69)
  (.seq (.row [⟨(some 70), none, .bld [(.slice none 0 0), (.slice none 0 0), (.slice none 0 0)] [] []⟩,
    ⟨none, none, .stn 3 (.tmp 4) (.tmp 70)⟩,
    ⟨(some 5), none, .mv (.const (.bool false))⟩])
  (.prune [4, 5] .ret))
  .skip)))
 (.prune [6, 4] (.seq (.row [⟨(some 71), none, .ldn 3 (.tmp 6)⟩,
   ⟨none, none, .stn 3 (.tmp 4) (.tmp 71)⟩,
   ⟨(some 5), none, .mv (.const (.bool true))⟩])
 (.prune [4, 5] .ret))))))))))))
theorem ok67 : fits Try.prog 67 ⟨s67, 72, [.cell 4 (some 3), .tmp 5]⟩ = some ⟨s67, 72, [.cell 4 (some 3), .tmp 5]⟩ := by kernel_rfl
theorem go67 {args : List Value} {w : World} {R : Value → World → Prop} (hle : Nat.ble args.length 72 = true) (h : vc Try.prog 72 s67 (argEnv args 0) w (fun L w => resL L w [.cell 4 (some 3), .tmp 5] fun vs => oneOr vs fun v => R v w) (fun _ _ _ => False) (fun L w => resL L w [.cell 4 (some 3), .tmp 5] fun vs => oneOr vs fun v => R v w)) : Cal Try.prog 67 ⟨args⟩ w R := cal_of mo ok67 hle h

-- footbridge/footbridgeref09.base
def s73 : S := (.seq (.row [⟨(some 4), none, .new [(.slice none 0 0), (.slice none 0 0), (.slice none 0 0)] 46⟩,
   ⟨(some 5), none, .mv (.const (.bool false))⟩])
 (.prune [4, 1, 0] (.seq (.row [⟨(some 6), none, .mv (.const (.int .i64 0))⟩])
 (.prune [4, 6, 1, 0] (.seq (.seq (.row [⟨(some 16), none, .mv (.tmp 1)⟩,
   ⟨(some 17), none, .lenA (.tmp 16)⟩,
   ⟨(some 18), none, .mv (.const (.int .i64 0))⟩])
 (.prune [4, 6, 1, 18, 0, 17] (.block 0 (.loop [6, 18] [5, 6, 7, 18, 19, 20, 21, 22, 23, 24, 25, 26, 27, 28, 29, 30, 31, 32, 33, 34, 35, 36, 37, 38, 39, 40, 41, 42, 43, 44] (.seq (.row [⟨(some 19), none, .ibin .lss .i64 (.tmp 18) (.tmp 17)⟩])
  (.prune [19, 17, 0, 1, 18, 6, 4] (.seq (.cond (.tmp 19)
   .skip
   (.exit 0))
  (.prune [17, 0, 1, 18, 6, 4] (.seq (.block 1 (.seq (.row [⟨(some 20), none, .mv (.tmp 18)⟩,
    ⟨(some 7), none, .mv (.tmp 20)⟩])
  (.prune [17, 0, 1, 18, 7, 6, 4] (.seq (.seq (.row [⟨(some 21), none, .mv (.tmp 1)⟩,
    ⟨(some 22), none, .mv (.tmp 7)⟩,
    ⟨(some 23), none, .ixA 2 (.tmp 21) (.tmp 22)⟩,
    ⟨(some 24), none, .fad 1 (.tmp 23)⟩,
    ⟨(some 25), none, .ld (.tmp 24)⟩,
    ⟨(some 26), none, .ibin .lss .i64 (.tmp 25) (.const (.int .i64 0))⟩,
    ⟨(some 27), none, .mv (.tmp 26)⟩,
    ⟨(some 28), (some (27, false)), .mv (.tmp 1)⟩,
    ⟨(some 29), (some (27, false)), .mv (.tmp 7)⟩,
    ⟨(some 30), (some (27, false)), .ixA 2 (.tmp 28) (.tmp 29)⟩,
    ⟨(some 31), (some (27, false)), .fad 1 (.tmp 30)⟩,
    ⟨(some 32), (some (27, false)), .ld (.tmp 31)⟩,
    ⟨(some 33), (some (27, false)), .ibin .geq .i64 (.tmp 32) (.const (.int .i64 4096))⟩,
    ⟨(some 34), none, .pick (.tmp 27) (.const (.bool true)) (.tmp 33)⟩])
  (.prune [34, 17, 0, 1, 18, 7, 6, 4] (.cond (.tmp 34)
   (.seq (.row [⟨(some 35), none, .bld [(.slice none 0 0), (.slice none 0 0), (.slice none 0 0)] [] []⟩,
     ⟨none, none, .stn 3 (.tmp 4) (.tmp 35)⟩,
     ⟨(some 5), none, .mv (.const (.bool false))⟩])
   (.prune [4, 5] .ret))
   .skip)))
  (.prune [6, 7, 18, 4, 1, 0, 17] (.row [⟨(some 36), none, .mv (.tmp 6)⟩,
    ⟨(some 37), none, .mv (.tmp 1)⟩,
    ⟨(some 38), none, .mv (.tmp 7)⟩,
    ⟨(some 39), none, .ixA 2 (.tmp 37) (.tmp 38)⟩,
    ⟨(some 40), none, .fad 1 (.tmp 39)⟩,
    ⟨(some 41), none, .ld (.tmp 40)⟩,
    ⟨(some 42), none, .ibin .add .i64 (.tmp 41) (.const (.int .i64 1))⟩,
    ⟨(some 43), none, .mm true .i64 (.tmp 36) (.tmp 42)⟩,
    ⟨(some 6), none, .mv (.tmp 43)⟩]))))))
  (.prune [18, 4, 6, 1, 0, 17] (.row [⟨(some 44), none, .ibin .add .i64 (.tmp 18) (.const (.int .i64 1))⟩,
    ⟨(some 18), none, .mv (.tmp 44)⟩])))))))))))
 (.prune [4, 6, 0, 1] (.seq (.seq (.row [⟨(some 45), none, .mv (.tmp 0)⟩,
   ⟨(some 46), none, .lenA (.tmp 45)⟩,
   ⟨(some 47), none, .mv (.const (.int .i64 0))⟩])
 (.prune [4, 6, 0, 47, 1, 46] (.block 2 (.loop [6, 47] [5, 6, 8, 47, 48, 49, 50, 51, 52, 53, 54, 55, 56, 57, 58, 59, 60, 61, 62, 63, 64, 65, 66, 67, 68, 69, 70, 71, 72, 73] (.seq (.row [⟨(some 48), none, .ibin .lss .i64 (.tmp 47) (.tmp 46)⟩])
  (.prune [48, 46, 1, 0, 47, 6, 4] (.seq (.cond (.tmp 48)
   .skip
   (.exit 2))
  (.prune [46, 1, 0, 47, 6, 4] (.seq (.block 3 (.seq (.row [⟨(some 49), none, .mv (.tmp 47)⟩,
    ⟨(some 8), none, .mv (.tmp 49)⟩])
  (.prune [46, 1, 0, 47, 8, 6, 4] (.seq (.seq (.row [⟨(some 50), none, .mv (.tmp 0)⟩,
    ⟨(some 51), none, .mv (.tmp 8)⟩,
    ⟨(some 52), none, .ixA 2 (.tmp 50) (.tmp 51)⟩,
    ⟨(some 53), none, .fad 1 (.tmp 52)⟩,
    ⟨(some 54), none, .ld (.tmp 53)⟩,
    ⟨(some 55), none, .ibin .lss .i64 (.tmp 54) (.const (.int .i64 0))⟩,
    ⟨(some 56), none, .mv (.tmp 55)⟩,
    ⟨(some 57), (some (56, false)), .mv (.tmp 0)⟩,
    ⟨(some 58), (some (56, false)), .mv (.tmp 8)⟩,
    ⟨(some 59), (some (56, false)), .ixA 2 (.tmp 57) (.tmp 58)⟩,
    ⟨(some 60), (some (56, false)), .fad 1 (.tmp 59)⟩,
    ⟨(some 61), (some (56, false)), .ld (.tmp 60)⟩,
    ⟨(some 62), (some (56, false)), .ibin .geq .i64 (.tmp 61) (.const (.int .i64 4096))⟩,
    ⟨(some 63), none, .pick (.tmp 56) (.const (.bool true)) (.tmp 62)⟩])
  (.prune [63, 46, 1, 0, 47, 8, 6, 4] (.cond (.tmp 63)
   (.seq (.row [⟨(some 64), none, .bld [(.slice none 0 0), (.slice none 0 0), (.slice none 0 0)] [] []⟩,
     ⟨none, none, .stn 3 (.tmp 4) (.tmp 64)⟩,
     ⟨(some 5), none, .mv (.const (.bool false))⟩])
   (.prune [4, 5] .ret))
   .skip)))
  (.prune [6, 8, 47, 4, 0, 1, 46] (.row [⟨(some 65), none, .mv (.tmp 6)⟩,
    ⟨(some 66), none, .mv (.tmp 0)⟩,
    ⟨(some 67), none, .mv (.tmp 8)⟩,
    ⟨(some 68), none, .ixA 2 (.tmp 66) (.tmp 67)⟩,
    ⟨(some 69), none, .fad 1 (.tmp 68)⟩,
    ⟨(some 70), none, .ld (.tmp 69)⟩,
    ⟨(some 71), none, .ibin .add .i64 (.tmp 70) (.const (.int .i64 1))⟩,
    ⟨(some 72), none, .mm true .i64 (.tmp 65) (.tmp 71)⟩,
    ⟨(some 6), none, .mv (.tmp 72)⟩]))))))
  (.prune [47, 4, 6, 0, 1, 46] (.row [⟨(some 73), none, .ibin .add .i64 (.tmp 47) (.const (.int .i64 1))⟩,
    ⟨(some 47), none, .mv (.tmp 73)⟩])))))))))))
 (.prune [6, 0, 4, 1] (.seq (.row [⟨(some 74), none, .mv (.tmp 6)⟩,
   ⟨(some 75), none, .run (.makeSlice 42) [(.tmp 74), (.tmp 74)]⟩,
   ⟨(some 9), none, .mv (.tmp 75)⟩])
 (.prune [9, 0, 4, 1] (.seq (.seq (.row [⟨(some 76), none, .mv (.tmp 0)⟩,
   ⟨(some 77), none, .lenA (.tmp 76)⟩,
   ⟨(some 78), none, .mv (.const (.int .i64 0))⟩])
 (.prune [78, 9, 0, 4, 1, 77] (.block 4 (.loop [78] [5, 10, 11, 78, 79, 80, 81, 82, 83, 84, 85, 86, 87, 88, 89, 90, 91, 92, 93, 94, 95, 96, 97, 98, 99, 100, 101, 102, 103, 104, 105, 106, 107, 108, 109, 110] (.seq (.row [⟨(some 79), none, .ibin .lss .i64 (.tmp 78) (.tmp 77)⟩])
  (.prune [79, 4, 0, 78, 9, 1, 77] (.seq (.cond (.tmp 79)
   .skip
   (.exit 4))
  (.prune [4, 0, 78, 9, 1, 77] (.seq (.block 5 (.seq (.row [⟨(some 80), none, .mv (.tmp 78)⟩,
    ⟨(some 10), none, .mv (.tmp 80)⟩])
  (.prune [4, 10, 0, 78, 9, 1, 77] (.seq (.seq (.row [⟨(some 11), none, .mv (.const (.int .i64 0))⟩])
  (.prune [4, 11, 10, 0, 78, 9, 1, 77] (.block 6 (.loop [11] [5, 11, 81, 82, 83, 84, 85, 86, 87, 88, 89, 90, 91, 92, 93, 94, 95, 96, 97] (.seq (.seq (.row [⟨(some 81), none, .mv (.tmp 11)⟩,
     ⟨(some 82), none, .mv (.tmp 10)⟩,
     ⟨(some 83), none, .ibin .lss .i64 (.tmp 81) (.tmp 82)⟩])
   (.prune [83, 77, 1, 9, 78, 0, 10, 11, 4] (.cond (.tmp 83)
    .skip
    (.exit 6))))
   (.prune [77, 1, 9, 78, 0, 10, 11, 4] (.seq (.block 7 (.seq (.draw (.take 0 ⟨(some 86), none, .mv (.tmp 0)⟩ (.take 1 ⟨(some 87), none, .mv (.tmp 11)⟩ (.take 2 ⟨(some 88), none, .ixA 2 (.tmp 86) (.tmp 87)⟩ (.take 3 ⟨(some 89), none, .fad 1 (.tmp 88)⟩ (.take 4 ⟨(some 90), none, .ld (.tmp 89)⟩ (.take 5 ⟨(some 91), none, .mv (.tmp 0)⟩ (.take 6 ⟨(some 92), none, .mv (.tmp 10)⟩ (.take 7 ⟨(some 93), none, .ixA 2 (.tmp 91) (.tmp 92)⟩ (.take 8 ⟨(some 94), none, .fad 1 (.tmp 93)⟩ (.take 9 ⟨(some 95), none, .ld (.tmp 94)⟩ (.take 10 ⟨(some 96), none, .ibin .eql .i64 (.tmp 90) (.tmp 95)⟩ .done))))))))))))
   (.prune [96, 77, 1, 9, 78, 0, 10, 11, 4] (.cond (.tmp 96)
    (.seq (.row [⟨(some 97), none, .bld [(.slice none 0 0), (.slice none 0 0), (.slice none 0 0)] [] []⟩,
      ⟨none, none, .stn 3 (.tmp 4) (.tmp 97)⟩,
      ⟨(some 5), none, .mv (.const (.bool false))⟩])
    (.prune [4, 5] .ret))
    .skip))))
   (.prune [11, 4, 10, 0, 78, 9, 1, 77] (.row [⟨(some 84), none, .mv (.tmp 11)⟩,
     ⟨(some 85), none, .ibin .add .i64 (.tmp 84) (.const (.int .i64 1))⟩,
     ⟨(some 11), none, .mv (.tmp 85)⟩])))))))))
  (.prune [10, 78, 9, 0, 4, 1, 77] (.draw (.take 0 ⟨(some 98), none, .mv (.tmp 9)⟩ (.take 1 ⟨(some 99), none, .mv (.tmp 0)⟩ (.take 2 ⟨(some 100), none, .mv (.tmp 10)⟩ (.take 3 ⟨(some 101), none, .ixA 2 (.tmp 99) (.tmp 100)⟩ (.take 4 ⟨(some 102), none, .fad 1 (.tmp 101)⟩ (.take 5 ⟨(some 103), none, .ld (.tmp 102)⟩ (.take 6 ⟨(some 104), none, .mv (.tmp 0)⟩ (.take 7 ⟨(some 105), none, .mv (.tmp 10)⟩ (.take 8 ⟨(some 106), none, .ixA 2 (.tmp 104) (.tmp 105)⟩ (.take 9 ⟨(some 107), none, .fad 0 (.tmp 106)⟩ (.take 10 ⟨(some 108), none, .ld (.tmp 107)⟩ (.take 11 ⟨(some 109), none, .ixA 1 (.tmp 98) (.tmp 103)⟩ (.step 12 false ⟨none, none, .st (.tmp 109) (.tmp 108)⟩ .done)))))))))))))))))))
  (.prune [78, 9, 0, 4, 1, 77] (.row [⟨(some 110), none, .ibin .add .i64 (.tmp 78) (.const (.int .i64 1))⟩,
    ⟨(some 78), none, .mv (.tmp 110)⟩])))))))))))
 (.prune [1, 9, 4] (.seq (.row [⟨(some 111), none, .bsl 112 0 [] [] []⟩,
   ⟨(some 12), none, .mv (.tmp 111)⟩])
 (.prune [12, 1, 9, 4] (.seq (.seq (.row [⟨(some 112), none, .mv (.tmp 1)⟩,
   ⟨(some 113), none, .lenA (.tmp 112)⟩,
   ⟨(some 114), none, .mv (.const (.int .i64 0))⟩])
 (.prune [114, 12, 1, 9, 4, 113] (.block 8 (.loop [12, 114] [12, 13, 14, 15, 114, 115, 116, 117, 118, 119, 120, 121, 122, 123, 124, 125, 126, 127, 128, 129, 130, 131, 132, 133, 134, 135, 136, 137, 138, 139, 140, 141, 142, 143, 144, 145, 146, 147, 148, 149, 150, 151, 152, 153, 154] (.seq (.row [⟨(some 115), none, .ibin .lss .i64 (.tmp 114) (.tmp 113)⟩])
  (.prune [115, 12, 114, 1, 9, 4, 113] (.seq (.cond (.tmp 115)
   .skip
   (.exit 8))
  (.prune [12, 114, 1, 9, 4, 113] (.seq (.block 9 (.seq (.row [⟨(some 116), none, .mv (.tmp 114)⟩,
    ⟨(some 13), none, .mv (.tmp 116)⟩])
  (.prune [13, 12, 114, 1, 9, 4, 113] (.seq (.row [⟨(some 14), none, .mv (.const (.int .i64 0))⟩])
  (.prune [14, 13, 12, 114, 1, 9, 4, 113] (.seq (.block 10 (.loop [14] [14, 117, 118, 119, 120, 121, 122, 123, 124, 125, 126, 127, 128, 129, 130, 131, 132, 133, 134, 135] (.seq (.seq (.draw (.take 0 ⟨(some 117), none, .mv (.tmp 14)⟩ (.take 1 ⟨(some 118), none, .mv (.tmp 12)⟩ (.take 2 ⟨(some 119), none, .lenA (.tmp 118)⟩ (.take 3 ⟨(some 120), none, .ibin .lss .i64 (.tmp 117) (.tmp 119)⟩ (.take 4 ⟨(some 121), none, .mv (.tmp 120)⟩ (.take 5 ⟨(some 122), (some (121, true)), .mv (.tmp 12)⟩ (.take 6 ⟨(some 123), (some (121, true)), .mv (.tmp 14)⟩ (.take 7 ⟨(some 124), (some (121, true)), .ixA 2 (.tmp 122) (.tmp 123)⟩ (.take 8 ⟨(some 125), (some (121, true)), .fad 0 (.tmp 124)⟩ (.take 9 ⟨(some 126), (some (121, true)), .ld (.tmp 125)⟩ (.take 10 ⟨(some 127), (some (121, true)), .mv (.tmp 1)⟩ (.take 11 ⟨(some 128), (some (121, true)), .mv (.tmp 13)⟩ (.take 12 ⟨(some 129), (some (121, true)), .ixA 2 (.tmp 127) (.tmp 128)⟩ (.take 13 ⟨(some 130), (some (121, true)), .fad 0 (.tmp 129)⟩ (.take 14 ⟨(some 131), (some (121, true)), .ld (.tmp 130)⟩ (.take 15 ⟨(some 132), (some (121, true)), .sbin .leq (.tmp 126) (.tmp 131)⟩ (.take 16 ⟨(some 133), none, .pick (.tmp 121) (.tmp 132) (.const (.bool false))⟩ .done))))))))))))))))))
   (.prune [133, 14, 13, 12, 114, 1, 9, 4, 113] (.cond (.tmp 133)
    .skip
    (.exit 10))))
   (.prune [14, 13, 12, 114, 1, 9, 4, 113] (.block 11 (.row [⟨(some 134), none, .mv (.tmp 14)⟩,
     ⟨(some 135), none, .ibin .add .i64 (.tmp 134) (.const (.int .i64 1))⟩,
     ⟨(some 14), none, .mv (.tmp 135)⟩]))))))
  (.prune [13, 12, 14, 114, 1, 9, 4, 113] (.seq (.row [⟨(some 136), none, .bsl 112 0 [] [] []⟩,
    ⟨(some 15), none, .mv (.tmp 136)⟩])
  (.prune [15, 13, 12, 14, 114, 1, 9, 4, 113] (.seq (.row [⟨(some 137), none, .mv (.tmp 15)⟩,
    ⟨(some 138), none, .mv (.tmp 12)⟩,
    ⟨(some 139), none, .mv (.tmp 14)⟩,
    ⟨(some 140), none, .slc 2 (.tmp 138) none (some (.tmp 139))⟩,
    ⟨(some 141), none, .run (.bi .append ⟨[44, 44]⟩ 44) [(.tmp 137), (.tmp 140)]⟩,
    ⟨(some 15), none, .mv (.tmp 141)⟩])
  (.prune [15, 13, 12, 14, 114, 1, 9, 4, 113] (.seq (.row [⟨(some 142), none, .mv (.tmp 15)⟩,
    ⟨(some 143), none, .mv (.tmp 1)⟩,
    ⟨(some 144), none, .mv (.tmp 13)⟩,
    ⟨(some 145), none, .ixA 2 (.tmp 143) (.tmp 144)⟩,
    ⟨(some 146), none, .ldn 2 (.tmp 145)⟩,
    ⟨(some 147), none, .bsl 112 1 [(.string ⟨#[]⟩), (.int .i64 0)] [(0, 2)] [(.tmp 146)]⟩,
    ⟨(some 148), none, .run (.bi .append ⟨[44, 44]⟩ 44) [(.tmp 142), (.tmp 147)]⟩,
    ⟨(some 15), none, .mv (.tmp 148)⟩])
  (.prune [15, 12, 14, 114, 1, 9, 4, 113] (.row [⟨(some 149), none, .mv (.tmp 15)⟩,
    ⟨(some 150), none, .mv (.tmp 12)⟩,
    ⟨(some 151), none, .mv (.tmp 14)⟩,
    ⟨(some 152), none, .slc 2 (.tmp 150) (some (.tmp 151)) none⟩,
    ⟨(some 153), none, .run (.bi .append ⟨[44, 44]⟩ 44) [(.tmp 149), (.tmp 152)]⟩,
    ⟨(some 12), none, .mv (.tmp 153)⟩]))))))))))))))
  (.prune [114, 12, 1, 9, 4, 113] (.row [⟨(some 154), none, .ibin .add .i64 (.tmp 114) (.const (.int .i64 1))⟩,
    ⟨(some 114), none, .mv (.tmp 154)⟩])))))))))))
 (.prune [12, 9, 4] (.seq (.row [⟨(some 155), none, .mv (.tmp 9)⟩,
   ⟨(some 156), none, .mv (.tmp 12)⟩,
   ⟨(some 157), none, .bld [(.slice none 0 0), (.slice none 0 0), (.slice none 0 0)] [(0, 1), (2, 1)] [(.tmp 155), (.tmp 156)]⟩,
   ⟨(some 158), none, .mv (.tmp 9)⟩,
   ⟨(some 159), none, .call 46 [(.tmp 158)]⟩,
   ⟨none, none, .stn 3 (.tmp 4) (.tmp 157)⟩,
   ⟨(some 5), none, .mv (.tmp 159)⟩])
 (.prune [4, 5] .ret))))))))))))))))))
theorem ok73 : fits Try.prog 73 ⟨s73, 160, [.cell 4 (some 3), .tmp 5]⟩ = some ⟨s73, 160, [.cell 4 (some 3), .tmp 5]⟩ := by kernel_rfl
theorem go73 {args : List Value} {w : World} {R : Value → World → Prop} (hle : Nat.ble args.length 160 = true) (h : vc Try.prog 160 s73 (argEnv args 0) w (fun L w => resL L w [.cell 4 (some 3), .tmp 5] fun vs => oneOr vs fun v => R v w) (fun _ _ _ => False) (fun L w => resL L w [.cell 4 (some 3), .tmp 5] fun vs => oneOr vs fun v => R v w)) : Cal Try.prog 73 ⟨args⟩ w R := cal_of mo ok73 hle h

-- footbridge/footbridgeref09.put
def s74 : S := (.seq (.row [⟨(some 3), none, .box 55 (.tmp 1)⟩,
   ⟨(some 4), none, .mv (.const (.slice none 0 0))⟩])
 (.prune [3, 0] (.seq (.row [⟨(some 5), none, .mv (.const (.int .i64 0))⟩])
 (.prune [5, 3, 0] (.seq (.block 0 (.loop [5] [5, 7, 8, 9, 10, 11, 12, 13, 14, 15, 16, 17, 18, 19, 20] (.seq (.seq (.draw (.take 0 ⟨(some 7), none, .mv (.tmp 5)⟩ (.take 1 ⟨(some 8), none, .mv (.tmp 0)⟩ (.take 2 ⟨(some 9), none, .lenA (.tmp 8)⟩ (.take 3 ⟨(some 10), none, .ibin .lss .i64 (.tmp 7) (.tmp 9)⟩ (.take 4 ⟨(some 11), none, .mv (.tmp 10)⟩ (.take 5 ⟨(some 12), (some (11, true)), .mv (.tmp 0)⟩ (.take 6 ⟨(some 13), (some (11, true)), .mv (.tmp 5)⟩ (.take 7 ⟨(some 14), (some (11, true)), .ixA 4 (.tmp 12) (.tmp 13)⟩ (.take 8 ⟨(some 15), (some (11, true)), .ldn 4 (.tmp 14)⟩ (.take 9 ⟨(some 16), (some (11, true)), .ldn 4 (.tmp 3)⟩ (.step 10 false ⟨(some 17), (some (11, true)), .call 65 [(.tmp 15), (.tmp 16)]⟩ (.take 11 ⟨(some 18), none, .pick (.tmp 11) (.tmp 17) (.const (.bool false))⟩ .done)))))))))))))
  (.prune [18, 5, 3, 0] (.cond (.tmp 18)
   .skip
   (.exit 0))))
  (.prune [5, 3, 0] (.block 1 (.row [⟨(some 19), none, .mv (.tmp 5)⟩,
    ⟨(some 20), none, .ibin .add .i64 (.tmp 19) (.const (.int .i64 1))⟩,
    ⟨(some 5), none, .mv (.tmp 20)⟩]))))))
 (.prune [3, 0, 5] (.seq (.row [⟨(some 21), none, .bsl 55 0 [] [] []⟩,
   ⟨(some 6), none, .mv (.tmp 21)⟩])
 (.prune [6, 3, 0, 5] (.seq (.row [⟨(some 22), none, .mv (.tmp 6)⟩,
   ⟨(some 23), none, .mv (.tmp 0)⟩,
   ⟨(some 24), none, .mv (.tmp 5)⟩,
   ⟨(some 25), none, .slc 4 (.tmp 23) none (some (.tmp 24))⟩,
   ⟨(some 26), none, .run (.bi .append ⟨[43, 43]⟩ 43) [(.tmp 22), (.tmp 25)]⟩,
   ⟨(some 6), none, .mv (.tmp 26)⟩])
 (.prune [6, 3, 0, 5] (.seq (.row [⟨(some 27), none, .mv (.tmp 6)⟩,
   ⟨(some 28), none, .ldn 4 (.tmp 3)⟩,
   ⟨(some 29), none, .bsl 55 1 [(.int .i64 0), (.int .i64 0), (.int .i64 0), (.int .i64 0)] [(0, 4)] [(.tmp 28)]⟩,
   ⟨(some 30), none, .run (.bi .append ⟨[43, 43]⟩ 43) [(.tmp 27), (.tmp 29)]⟩,
   ⟨(some 6), none, .mv (.tmp 30)⟩])
 (.prune [6, 0, 5] (.seq (.row [⟨(some 31), none, .mv (.tmp 6)⟩,
   ⟨(some 32), none, .mv (.tmp 0)⟩,
   ⟨(some 33), none, .mv (.tmp 5)⟩,
   ⟨(some 34), none, .slc 4 (.tmp 32) (some (.tmp 33)) none⟩,
   ⟨(some 35), none, .run (.bi .append ⟨[43, 43]⟩ 43) [(.tmp 31), (.tmp 34)]⟩,
   ⟨(some 4), none, .mv (.tmp 35)⟩])
 (.prune [4] .ret))))))))))))))
theorem ok74 : fits Try.prog 74 ⟨s74, 36, [.tmp 4]⟩ = some ⟨s74, 36, [.tmp 4]⟩ := by kernel_rfl
theorem go74 {args : List Value} {w : World} {R : Value → World → Prop} (hle : Nat.ble args.length 36 = true) (h : vc Try.prog 36 s74 (argEnv args 0) w (fun L w => resL L w [.tmp 4] fun vs => oneOr vs fun v => R v w) (fun _ _ _ => False) (fun L w => resL L w [.tmp 4] fun vs => oneOr vs fun v => R v w)) : Cal Try.prog 74 ⟨args⟩ w R := cal_of mo ok74 hle h

end Fb.Try
