/-
  Made by a program of ours (wip/tools/slim.lean): the slim code of this claim's functions, each held against the model's code by one closed fact.
-/
import Derived.Test.YtlcnldimfgbjeaaB1
import Derived.Test.YtlcnldimfgbjeaaChecked
namespace Fb.Try
open Go Go.Proofs Fb

theorem mo : Try.prog.follows .mixedOrders = true := by kernel_rfl

-- footbridge/vocab.May
def s51 : S := (.seq (.row [⟨(some 1), none, .box 46 (.tmp 0)⟩,
   ⟨(some 2), none, .mv (.const (.bool false))⟩])
 (.prune [1] (.seq (.row [⟨(some 3), none, .fad 0 (.tmp 1)⟩,
   ⟨(some 4), none, .ld (.tmp 3)⟩,
   ⟨(some 5), none, .call 68 [(.tmp 4)]⟩,
   ⟨(some 6), none, .mv (.tmp 5)⟩,
   ⟨(some 7), (some (6, true)), .fad 0 (.tmp 1)⟩,
   ⟨(some 8), (some (6, true)), .ld (.tmp 7)⟩,
   ⟨(some 9), (some (6, true)), .fad 1 (.tmp 1)⟩,
   ⟨(some 10), (some (6, true)), .ld (.tmp 9)⟩,
   ⟨(some 11), (some (6, true)), .call 69 [(.tmp 8), (.tmp 10)]⟩,
   ⟨(some 12), none, .pick (.tmp 6) (.tmp 11) (.const (.bool false))⟩,
   ⟨(some 13), none, .mv (.tmp 12)⟩,
   ⟨(some 14), (some (13, true)), .ldn 3 (.tmp 1)⟩,
   ⟨(some 15), (some (13, true)), .call 70 [(.tmp 14)]⟩,
   ⟨(some 16), none, .pick (.tmp 13) (.tmp 15) (.const (.bool false))⟩,
   ⟨(some 17), none, .mv (.tmp 16)⟩,
   ⟨(some 18), (some (17, true)), .fad 0 (.tmp 1)⟩,
   ⟨(some 19), (some (17, true)), .ld (.tmp 18)⟩,
   ⟨(some 20), (some (17, true)), .fad 2 (.tmp 1)⟩,
   ⟨(some 21), (some (17, true)), .ld (.tmp 20)⟩,
   ⟨(some 22), (some (17, true)), .call 71 [(.tmp 19), (.tmp 21)]⟩,
   ⟨(some 23), none, .pick (.tmp 17) (.tmp 22) (.const (.bool false))⟩,
   ⟨(some 2), none, .mv (.tmp 23)⟩])
 (.prune [2] .ret))))
theorem ok51 : fits Try.prog 51 ⟨s51, 24, [.tmp 2]⟩ = some ⟨s51, 24, [.tmp 2]⟩ := by kernel_rfl
theorem go51 {args : List Value} {w : World} {R : Value → World → Prop} (hle : Nat.ble args.length 24 = true) (h : vc Try.prog 24 s51 (argEnv args 0) w (fun L w => resL L w [.tmp 2] fun vs => oneOr vs fun v => R v w) (fun _ _ _ => False) (fun L w => resL L w [.tmp 2] fun vs => oneOr vs fun v => R v w)) : Cal Try.prog 51 ⟨args⟩ w R := cal_of mo ok51 hle h

-- slices.Clone[[]footbridge/api.Merge,footbridge/api.Merge]
def s52 : S := (.seq (.row [⟨(some 2), none, .mv (.const (.slice none 0 0))⟩])
 (.prune [0] (.seq (.seq (.row [⟨(some 3), none, .mv (.tmp 0)⟩,
   ⟨(some 4), none, .isnil 1 false (.tmp 3)⟩])
 (.prune [4, 0] (.cond (.tmp 4)
  (.seq (.row [⟨(some 2), none, .mv (.const (.slice none 0 0))⟩])
  (.prune [2] .ret))
  .skip)))
 (.prune [0] (.seq (.row [⟨(some 5), none, .bsl 55 0 [] [] []⟩,
   ⟨(some 6), none, .mv (.tmp 0)⟩,
   ⟨(some 7), none, .run (.bi .append ⟨[43, 43]⟩ 43) [(.tmp 5), (.tmp 6)]⟩,
   ⟨(some 2), none, .mv (.tmp 7)⟩])
 (.prune [2] .ret))))))
theorem ok52 : fits Try.prog 52 ⟨s52, 8, [.tmp 2]⟩ = some ⟨s52, 8, [.tmp 2]⟩ := by kernel_rfl
theorem go52 {args : List Value} {w : World} {R : Value → World → Prop} (hle : Nat.ble args.length 8 = true) (h : vc Try.prog 8 s52 (argEnv args 0) w (fun L w => resL L w [.tmp 2] fun vs => oneOr vs fun v => R v w) (fun _ _ _ => False) (fun L w => resL L w [.tmp 2] fun vs => oneOr vs fun v => R v w)) : Cal Try.prog 52 ⟨args⟩ w R := cal_of mo ok52 hle h

-- slices.Clone[[]string,string]
def s55 : S := (.seq (.row [⟨(some 2), none, .mv (.const (.slice none 0 0))⟩])
 (.prune [0] (.seq (.seq (.row [⟨(some 3), none, .mv (.tmp 0)⟩,
   ⟨(some 4), none, .isnil 1 false (.tmp 3)⟩])
 (.prune [4, 0] (.cond (.tmp 4)
  (.seq (.row [⟨(some 2), none, .mv (.const (.slice none 0 0))⟩])
  (.prune [2] .ret))
  .skip)))
 (.prune [0] (.seq (.row [⟨(some 5), none, .bsl 9 0 [] [] []⟩,
   ⟨(some 6), none, .mv (.tmp 0)⟩,
   ⟨(some 7), none, .run (.bi .append ⟨[42, 42]⟩ 42) [(.tmp 5), (.tmp 6)]⟩,
   ⟨(some 2), none, .mv (.tmp 7)⟩])
 (.prune [2] .ret))))))
theorem ok55 : fits Try.prog 55 ⟨s55, 8, [.tmp 2]⟩ = some ⟨s55, 8, [.tmp 2]⟩ := by kernel_rfl
theorem go55 {args : List Value} {w : World} {R : Value → World → Prop} (hle : Nat.ble args.length 8 = true) (h : vc Try.prog 8 s55 (argEnv args 0) w (fun L w => resL L w [.tmp 2] fun vs => oneOr vs fun v => R v w) (fun _ _ _ => False) (fun L w => resL L w [.tmp 2] fun vs => oneOr vs fun v => R v w)) : Cal Try.prog 55 ⟨args⟩ w R := cal_of mo ok55 hle h

-- footbridge/vocab.Of
def s56 : S := (.seq (.row [⟨(some 2), none, .box 46 (.tmp 0)⟩,
   ⟨(some 4), none, .mv (.const (.int .i64 0))⟩])
 (.prune [1, 2] (.seq (.seq (.row [⟨(some 5), none, .mv (.tmp 1)⟩,
   ⟨(some 6), none, .sbin .eql (.tmp 5) (.const (.string ⟨#[]⟩))⟩])
 (.prune [6, 1, 2] (.cond (.tmp 6)
  (.seq (.row [⟨(some 4), none, .mv (.const (.int .i64 (-1)))⟩])
  (.prune [4] .ret))
  .skip)))
 (.prune [2, 1] (.seq (.row [⟨(some 7), none, .fad 0 (.tmp 2)⟩,
   ⟨(some 8), none, .ld (.tmp 7)⟩,
   ⟨(some 9), none, .mv (.tmp 1)⟩,
   ⟨(some 10), none, .call 72 [(.tmp 8), (.tmp 9)]⟩,
   ⟨(some 4), none, .mv (.tmp 10)⟩])
 (.prune [4] .ret))))))
theorem ok56 : fits Try.prog 56 ⟨s56, 11, [.tmp 4]⟩ = some ⟨s56, 11, [.tmp 4]⟩ := by kernel_rfl
theorem go56 {args : List Value} {w : World} {R : Value → World → Prop} (hle : Nat.ble args.length 11 = true) (h : vc Try.prog 11 s56 (argEnv args 0) w (fun L w => resL L w [.tmp 4] fun vs => oneOr vs fun v => R v w) (fun _ _ _ => False) (fun L w => resL L w [.tmp 4] fun vs => oneOr vs fun v => R v w)) : Cal Try.prog 56 ⟨args⟩ w R := cal_of mo ok56 hle h

-- slices.Equal[[]int,int]
def s60 : S := (.seq (.row [⟨(some 4), none, .mv (.const (.bool false))⟩])
 (.prune [0, 1] (.seq (.seq (.row [⟨(some 6), none, .mv (.tmp 0)⟩,
   ⟨(some 7), none, .lenA (.tmp 6)⟩,
   ⟨(some 8), none, .mv (.tmp 1)⟩,
   ⟨(some 9), none, .lenA (.tmp 8)⟩,
   ⟨(some 10), none, .ibin .neq .i64 (.tmp 7) (.tmp 9)⟩])
 (.prune [10, 0, 1] (.cond (.tmp 10)
  (.seq (.row [⟨(some 4), none, .mv (.const (.bool false))⟩])
  (.prune [4] .ret))
  .skip)))
 (.prune [1, 0] (.seq (.seq (.row [⟨(some 11), none, .mv (.tmp 0)⟩,
   ⟨(some 12), none, .lenA (.tmp 11)⟩,
   ⟨(some 13), none, .mv (.const (.int .i64 0))⟩])
 (.prune [13, 1, 0, 12] (.block 0 (.loop [13] [4, 5, 13, 14, 15, 16, 17, 18, 19, 20, 21, 22, 23, 24, 25] (.seq (.row [⟨(some 14), none, .ibin .lss .i64 (.tmp 13) (.tmp 12)⟩])
  (.prune [14, 12, 0, 1, 13] (.seq (.cond (.tmp 14)
   .skip
   (.exit 0))
  (.prune [12, 0, 1, 13] (.seq (.block 1 (.seq (.row [⟨(some 15), none, .mv (.tmp 13)⟩,
    ⟨(some 5), none, .mv (.tmp 15)⟩])
  (.prune [5, 12, 0, 1, 13] (.seq (.draw (.take 0 ⟨(some 16), none, .mv (.tmp 0)⟩ (.take 1 ⟨(some 17), none, .mv (.tmp 5)⟩ (.take 2 ⟨(some 18), none, .ixA 1 (.tmp 16) (.tmp 17)⟩ (.take 3 ⟨(some 19), none, .ld (.tmp 18)⟩ (.take 4 ⟨(some 20), none, .mv (.tmp 1)⟩ (.take 5 ⟨(some 21), none, .mv (.tmp 5)⟩ (.take 6 ⟨(some 22), none, .ixA 1 (.tmp 20) (.tmp 21)⟩ (.take 7 ⟨(some 23), none, .ld (.tmp 22)⟩ (.take 8 ⟨(some 24), none, .ibin .neq .i64 (.tmp 19) (.tmp 23)⟩ .done))))))))))
  (.prune [24, 12, 0, 1, 13] (.cond (.tmp 24)
   (.seq (.row [⟨(some 4), none, .mv (.const (.bool false))⟩])
   (.prune [4] .ret))
   .skip))))))
  (.prune [13, 1, 0, 12] (.row [⟨(some 25), none, .ibin .add .i64 (.tmp 13) (.const (.int .i64 1))⟩,
    ⟨(some 13), none, .mv (.tmp 25)⟩])))))))))))
 (.prune [] (.seq (.row [⟨(some 4), none, .mv (.const (.bool true))⟩])
 (.prune [4] .ret))))))))
theorem ok60 : fits Try.prog 60 ⟨s60, 26, [.tmp 4]⟩ = some ⟨s60, 26, [.tmp 4]⟩ := by kernel_rfl
theorem go60 {args : List Value} {w : World} {R : Value → World → Prop} (hle : Nat.ble args.length 26 = true) (h : vc Try.prog 26 s60 (argEnv args 0) w (fun L w => resL L w [.tmp 4] fun vs => oneOr vs fun v => R v w) (fun _ _ _ => False) (fun L w => resL L w [.tmp 4] fun vs => oneOr vs fun v => R v w)) : Cal Try.prog 60 ⟨args⟩ w R := cal_of mo ok60 hle h

-- slices.Clone[[]int,int]
def s61 : S := (.seq (.row [⟨(some 2), none, .mv (.const (.slice none 0 0))⟩])
 (.prune [0] (.seq (.seq (.row [⟨(some 3), none, .mv (.tmp 0)⟩,
   ⟨(some 4), none, .isnil 1 false (.tmp 3)⟩])
 (.prune [4, 0] (.cond (.tmp 4)
  (.seq (.row [⟨(some 2), none, .mv (.const (.slice none 0 0))⟩])
  (.prune [2] .ret))
  .skip)))
 (.prune [0] (.seq (.row [⟨(some 5), none, .bsl 3 0 [] [] []⟩,
   ⟨(some 6), none, .mv (.tmp 0)⟩,
   ⟨(some 7), none, .run (.bi .append ⟨[47, 47]⟩ 47) [(.tmp 5), (.tmp 6)]⟩,
   ⟨(some 2), none, .mv (.tmp 7)⟩])
 (.prune [2] .ret))))))
theorem ok61 : fits Try.prog 61 ⟨s61, 8, [.tmp 2]⟩ = some ⟨s61, 8, [.tmp 2]⟩ := by kernel_rfl
theorem go61 {args : List Value} {w : World} {R : Value → World → Prop} (hle : Nat.ble args.length 8 = true) (h : vc Try.prog 8 s61 (argEnv args 0) w (fun L w => resL L w [.tmp 2] fun vs => oneOr vs fun v => R v w) (fun _ _ _ => False) (fun L w => resL L w [.tmp 2] fun vs => oneOr vs fun v => R v w)) : Cal Try.prog 61 ⟨args⟩ w R := cal_of mo ok61 hle h

-- footbridge/vocab.mayTokens
def s68 : S := (.seq (.row [⟨(some 2), none, .mv (.const (.bool false))⟩])
 (.prune [0] (.seq (.seq (.row [⟨(some 8), none, .mv (.tmp 0)⟩,
   ⟨(some 9), none, .lenA (.tmp 8)⟩,
   ⟨(some 10), none, .ibin .gtr .i64 (.tmp 9) (.const (.int .i64 4096))⟩,
   ⟨(some 11), none, .mv (.tmp 10)⟩,
   ⟨(some 12), (some (11, false)), .mv (.tmp 0)⟩,
   ⟨(some 13), (some (11, false)), .call 75 [(.tmp 12), (.func 76)]⟩,
   ⟨(some 14), none, .pick (.tmp 11) (.const (.bool true)) (.tmp 13)⟩])
 (.prune [14, 0] (.cond (.tmp 14)
  (.seq (.row [⟨(some 2), none, .mv (.const (.bool false))⟩])
  (.prune [2] .ret))
  .skip)))
 (.prune [0] (.seq (.row [⟨(some 16), none, .mv (.tmp 0)⟩,
   ⟨(some 17), none, .call 77 [(.tmp 16)]⟩,
   ⟨(some 15), none, .mv (.tmp 17)⟩,
   ⟨(some 18), none, .ext (.tmp 15) 0⟩,
   ⟨(some 19), none, .ext (.tmp 15) 1⟩,
   ⟨(some 3), none, .mv (.tmp 18)⟩,
   ⟨(some 4), none, .mv (.tmp 19)⟩])
 (.prune [3, 4] (.seq (.seq (.row [⟨(some 20), none, .mv (.const (.int .i64 0))⟩])
 (.prune [20, 3, 4] (.block 0 (.loop [20] [2, 5, 6, 7, 20, 21, 22, 23, 24, 25, 26, 27, 28, 29, 30, 31, 32, 33, 34] (.seq (.row [⟨(some 21), none, .ibin .lss .i64 (.tmp 20) (.const (.int .i64 256))⟩])
  (.prune [21, 4, 3, 20] (.seq (.cond (.tmp 21)
   .skip
   (.exit 0))
  (.prune [4, 3, 20] (.seq (.block 1 (.seq (.row [⟨(some 22), none, .mv (.tmp 20)⟩,
    ⟨(some 5), none, .mv (.tmp 22)⟩])
  (.prune [5, 4, 3, 20] (.seq (.row [⟨(some 24), none, .mv (.tmp 3)⟩,
    ⟨(some 25), none, .mv (.tmp 5)⟩,
    ⟨(some 26), none, .conv .u8 (.tmp 25)⟩,
    ⟨(some 27), none, .bsl 5 1 [(.int .u8 0)] [(0, 1)] [(.tmp 26)]⟩,
    ⟨(some 28), none, .get (.conv 64 9) [(.tmp 27)]⟩,
    ⟨(some 29), none, .get (.lookup 131 true) [(.tmp 24), (.tmp 28)]⟩,
    ⟨(some 23), none, .mv (.tmp 29)⟩,
    ⟨(some 30), none, .ext (.tmp 23) 0⟩,
    ⟨(some 31), none, .ext (.tmp 23) 1⟩,
    ⟨(some 6), none, .mv (.tmp 30)⟩,
    ⟨(some 7), none, .mv (.tmp 31)⟩])
  (.prune [7, 4, 3, 20] (.seq (.row [⟨(some 32), none, .mv (.tmp 7)⟩,
    ⟨(some 33), none, .notB (.tmp 32)⟩])
  (.prune [33, 4, 3, 20] (.cond (.tmp 33)
   (.seq (.row [⟨(some 2), none, .mv (.const (.bool false))⟩])
   (.prune [2] .ret))
   .skip))))))))
  (.prune [20, 3, 4] (.row [⟨(some 34), none, .ibin .add .i64 (.tmp 20) (.const (.int .i64 1))⟩,
    ⟨(some 20), none, .mv (.tmp 34)⟩])))))))))))
 (.prune [4] (.seq (.row [⟨(some 35), none, .mv (.tmp 4)⟩,
   ⟨(some 2), none, .mv (.tmp 35)⟩])
 (.prune [2] .ret))))))))))
theorem ok68 : fits Try.prog 68 ⟨s68, 36, [.tmp 2]⟩ = some ⟨s68, 36, [.tmp 2]⟩ := by kernel_rfl
theorem go68 {args : List Value} {w : World} {R : Value → World → Prop} (hle : Nat.ble args.length 36 = true) (h : vc Try.prog 36 s68 (argEnv args 0) w (fun L w => resL L w [.tmp 2] fun vs => oneOr vs fun v => R v w) (fun _ _ _ => False) (fun L w => resL L w [.tmp 2] fun vs => oneOr vs fun v => R v w)) : Cal Try.prog 68 ⟨args⟩ w R := cal_of mo ok68 hle h

-- footbridge/vocab.mayMerges
def s69 : S := (.seq (.row [⟨(some 4), none, .mv (.const (.bool false))⟩])
 (.prune [0, 1] (.seq (.seq (.row [⟨(some 9), none, .mv (.tmp 1)⟩,
   ⟨(some 10), none, .lenA (.tmp 9)⟩,
   ⟨(some 11), none, .ibin .gtr .i64 (.tmp 10) (.const (.int .i64 16384))⟩])
 (.prune [11, 0, 1] (.cond (.tmp 11)
  (.seq (.row [⟨(some 4), none, .mv (.const (.bool false))⟩])
  (.prune [4] .ret))
  .skip)))
 (.prune [1, 0] (.seq (.row [⟨(some 12), none, .run (.makeMap 134) []⟩,
   ⟨(some 5), none, .mv (.tmp 12)⟩])
 (.prune [1, 5, 0] (.seq (.seq (.row [⟨(some 13), none, .mv (.tmp 1)⟩,
   ⟨(some 14), none, .lenA (.tmp 13)⟩,
   ⟨(some 15), none, .mv (.const (.int .i64 0))⟩])
 (.prune [1, 5, 15, 0, 13, 14] (.block 0 (.loop [15] [4, 6, 7, 8, 15, 16, 17, 18, 19, 20, 21, 22, 23, 24, 25, 26, 27, 28, 29, 30, 31, 32, 33, 34, 35, 36, 37, 38, 39, 40, 41, 42, 43, 44, 45, 46, 47, 48, 49, 50, 51, 52, 53, 54, 55, 56, 57, 58, 59, 60, 61, 62, 63, 64, 65, 66, 67, 68, 69, 70, 71, 72, 73, 74, 75, 76, 77, 78, 79, 80, 81, 82, 83, 84, 85, 86, 87, 88, 89, 90, 91, 92, 93, 94, 95, 96, 97, 98, 99, 100, 101, 102, 103, 104, 105, 106, 107, 108, 109, 110, 111, 112, 113, 114, 115, 116, 117] (.seq (.row [⟨(some 16), none, .ibin .lss .i64 (.tmp 15) (.tmp 14)⟩])
  (.prune [16, 14, 13, 0, 5, 1, 15] (.seq (.cond (.tmp 16)
   .skip
   (.exit 0))
  (.prune [14, 13, 0, 5, 1, 15] (.seq (.block 1 (.seq (.row [⟨(some 17), none, .mv (.tmp 15)⟩,
    ⟨(some 18), none, .ixA 4 (.tmp 13) (.tmp 15)⟩,
    ⟨(some 19), none, .ldn 4 (.tmp 18)⟩,
    ⟨(some 7), none, .new [(.int .i64 0), (.int .i64 0), (.int .i64 0), (.int .i64 0)] 55⟩,
    ⟨(some 6), none, .mv (.tmp 17)⟩,
    ⟨none, none, .stn 4 (.tmp 7) (.tmp 19)⟩])
  (.prune [7, 14, 13, 0, 5, 1, 15, 6] (.seq (.seq (.draw (.take 0 ⟨(some 20), none, .mv (.tmp 0)⟩ (.take 1 ⟨(some 21), none, .fad 0 (.tmp 7)⟩ (.take 2 ⟨(some 22), none, .ld (.tmp 21)⟩ (.step 3 true ⟨(some 23), none, .call 78 [(.tmp 20), (.tmp 22)]⟩ (.take 4 ⟨(some 24), none, .notB (.tmp 23)⟩ (.take 5 ⟨(some 25), none, .mv (.tmp 24)⟩ (.take 6 ⟨(some 26), (some (25, false)), .mv (.tmp 0)⟩ (.take 7 ⟨(some 27), (some (25, false)), .fad 1 (.tmp 7)⟩ (.take 8 ⟨(some 28), (some (25, false)), .ld (.tmp 27)⟩ (.step 9 true ⟨(some 29), (some (25, false)), .call 78 [(.tmp 26), (.tmp 28)]⟩ (.take 10 ⟨(some 30), (some (25, false)), .notB (.tmp 29)⟩ (.take 11 ⟨(some 31), none, .pick (.tmp 25) (.const (.bool true)) (.tmp 30)⟩ (.take 12 ⟨(some 32), none, .mv (.tmp 31)⟩ (.take 13 ⟨(some 33), (some (32, false)), .mv (.tmp 0)⟩ (.take 14 ⟨(some 34), (some (32, false)), .fad 2 (.tmp 7)⟩ (.take 15 ⟨(some 35), (some (32, false)), .ld (.tmp 34)⟩ (.step 16 true ⟨(some 36), (some (32, false)), .call 78 [(.tmp 33), (.tmp 35)]⟩ (.take 17 ⟨(some 37), (some (32, false)), .notB (.tmp 36)⟩ (.take 18 ⟨(some 38), none, .pick (.tmp 32) (.const (.bool true)) (.tmp 37)⟩ (.take 19 ⟨(some 39), none, .mv (.tmp 38)⟩ (.take 20 ⟨(some 40), (some (39, false)), .mv (.tmp 0)⟩ (.take 21 ⟨(some 41), (some (39, false)), .fad 2 (.tmp 7)⟩ (.take 22 ⟨(some 42), (some (39, false)), .ld (.tmp 41)⟩ (.take 23 ⟨(some 43), (some (39, false)), .ixA 1 (.tmp 40) (.tmp 42)⟩ (.take 24 ⟨(some 44), (some (39, false)), .ld (.tmp 43)⟩ (.take 25 ⟨(some 45), (some (39, false)), .mv (.tmp 0)⟩ (.take 26 ⟨(some 46), (some (39, false)), .fad 0 (.tmp 7)⟩ (.take 27 ⟨(some 47), (some (39, false)), .ld (.tmp 46)⟩ (.take 28 ⟨(some 48), (some (39, false)), .ixA 1 (.tmp 45) (.tmp 47)⟩ (.take 29 ⟨(some 49), (some (39, false)), .ld (.tmp 48)⟩ (.take 30 ⟨(some 50), (some (39, false)), .mv (.tmp 0)⟩ (.take 31 ⟨(some 51), (some (39, false)), .fad 1 (.tmp 7)⟩ (.take 32 ⟨(some 52), (some (39, false)), .ld (.tmp 51)⟩ (.take 33 ⟨(some 53), (some (39, false)), .ixA 1 (.tmp 50) (.tmp 52)⟩ (.take 34 ⟨(some 54), (some (39, false)), .ld (.tmp 53)⟩ (.take 35 ⟨(some 55), (some (39, false)), .sbin .add (.tmp 49) (.tmp 54)⟩ (.take 36 ⟨(some 56), (some (39, false)), .sbin .neq (.tmp 44) (.tmp 55)⟩ (.take 37 ⟨(some 57), none, .pick (.tmp 39) (.const (.bool true)) (.tmp 56)⟩ (.take 38 ⟨(some 58), none, .mv (.tmp 57)⟩ (.take 39 ⟨(some 59), (some (58, false)), .fad 3 (.tmp 7)⟩ (.take 40 ⟨(some 60), (some (58, false)), .ld (.tmp 59)⟩ (.take 41 ⟨(some 61), (some (58, false)), .ibin .lss .i64 (.tmp 60) (.const (.int .i64 0))⟩ (.take 42 ⟨(some 62), none, .pick (.tmp 58) (.const (.bool true)) (.tmp 61)⟩ (.take 43 ⟨(some 63), none, .mv (.tmp 62)⟩ (.take 44 ⟨(some 64), (some (63, false)), .fad 3 (.tmp 7)⟩ (.take 45 ⟨(some 65), (some (63, false)), .ld (.tmp 64)⟩ (.take 46 ⟨(some 66), (some (63, false)), .ibin .gtr .i64 (.tmp 65) (.const (.int .i64 1048576))⟩ (.take 47 ⟨(some 67), none, .pick (.tmp 63) (.const (.bool true)) (.tmp 66)⟩ .done)))))))))))))))))))))))))))))))))))))))))))))))))
  (.prune [67, 7, 14, 13, 0, 5, 1, 15, 6] (.cond (.tmp 67)
   (.seq (.row [⟨(some 4), none, .mv (.const (.bool false))⟩])
   (.prune [4] .ret))
   .skip)))
  (.prune [6, 15, 1, 5, 0, 13, 14, 7] (.seq (.seq (.draw (.take 0 ⟨(some 68), none, .mv (.tmp 6)⟩ (.take 1 ⟨(some 69), none, .ibin .gtr .i64 (.tmp 68) (.const (.int .i64 0))⟩ (.take 2 ⟨(some 70), none, .mv (.tmp 69)⟩ (.take 3 ⟨(some 71), (some (70, true)), .mv (.tmp 1)⟩ (.take 4 ⟨(some 72), (some (70, true)), .mv (.tmp 6)⟩ (.take 5 ⟨(some 73), (some (70, true)), .ibin .sub .i64 (.tmp 72) (.const (.int .i64 1))⟩ (.take 6 ⟨(some 74), (some (70, true)), .ixA 4 (.tmp 71) (.tmp 73)⟩ (.take 7 ⟨(some 75), (some (70, true)), .ldn 4 (.tmp 74)⟩ (.take 8 ⟨(some 76), (some (70, true)), .ldn 4 (.tmp 7)⟩ (.step 9 true ⟨(some 77), (some (70, true)), .call 79 [(.tmp 75), (.tmp 76)]⟩ (.take 10 ⟨(some 78), (some (70, true)), .ibin .geq .i64 (.tmp 77) (.const (.int .i64 0))⟩ (.take 11 ⟨(some 79), (some (70, true)), .mv (.tmp 78)⟩ (.take 12 ⟨(some 80), (some (79, false)), .mv (.tmp 1)⟩ (.take 13 ⟨(some 81), (some (79, false)), .mv (.tmp 6)⟩ (.take 14 ⟨(some 82), (some (79, false)), .ibin .sub .i64 (.tmp 81) (.const (.int .i64 1))⟩ (.take 15 ⟨(some 83), (some (79, false)), .ixA 4 (.tmp 80) (.tmp 82)⟩ (.take 16 ⟨(some 84), (some (79, false)), .fad 3 (.tmp 83)⟩ (.take 17 ⟨(some 85), (some (79, false)), .ld (.tmp 84)⟩ (.take 18 ⟨(some 86), (some (79, false)), .fad 3 (.tmp 7)⟩ (.take 19 ⟨(some 87), (some (79, false)), .ld (.tmp 86)⟩ (.take 20 ⟨(some 88), (some (79, false)), .ibin .eql .i64 (.tmp 85) (.tmp 87)⟩ (.take 21 ⟨(some 89), (some (79, false)), .mv (.tmp 88)⟩ (.take 22 ⟨(some 90), (some (89, true)), .mv (.tmp 1)⟩ (.take 23 ⟨(some 91), (some (89, true)), .mv (.tmp 6)⟩ (.take 24 ⟨(some 92), (some (89, true)), .ibin .sub .i64 (.tmp 91) (.const (.int .i64 1))⟩ (.take 25 ⟨(some 93), (some (89, true)), .ixA 4 (.tmp 90) (.tmp 92)⟩ (.take 26 ⟨(some 94), (some (89, true)), .fad 2 (.tmp 93)⟩ (.take 27 ⟨(some 95), (some (89, true)), .ld (.tmp 94)⟩ (.take 28 ⟨(some 96), (some (89, true)), .fad 2 (.tmp 7)⟩ (.take 29 ⟨(some 97), (some (89, true)), .ld (.tmp 96)⟩ (.take 30 ⟨(some 98), (some (89, true)), .ibin .neq .i64 (.tmp 95) (.tmp 97)⟩ (.take 31 ⟨(some 99), (some (79, false)), .pick (.tmp 89) (.tmp 98) (.const (.bool false))⟩ (.take 32 ⟨(some 100), (some (70, true)), .pick (.tmp 79) (.const (.bool true)) (.tmp 99)⟩ (.take 33 ⟨(some 101), none, .pick (.tmp 70) (.tmp 100) (.const (.bool false))⟩ .done)))))))))))))))))))))))))))))))))))
  (.prune [101, 15, 1, 5, 0, 13, 14, 7] (.cond (.tmp 101)
   (.seq (.row [⟨(some 4), none, .mv (.const (.bool false))⟩])
   (.prune [4] .ret))
   .skip)))
  (.prune [7, 14, 13, 0, 5, 1, 15] (.seq (.row [⟨(some 102), none, .fad 0 (.tmp 7)⟩,
    ⟨(some 103), none, .ld (.tmp 102)⟩,
    ⟨(some 104), none, .fad 1 (.tmp 7)⟩,
    ⟨(some 105), none, .ld (.tmp 104)⟩,
    ⟨(some 106), none, .bld [(.int .i64 0), (.int .i64 0)] [(0, 1), (1, 1)] [(.tmp 103), (.tmp 105)]⟩,
    ⟨(some 8), none, .new [(.int .i64 0), (.int .i64 0)] 137⟩,
    ⟨none, none, .stn 2 (.tmp 8) (.tmp 106)⟩])
  (.prune [14, 13, 0, 5, 1, 15, 8] (.seq (.seq (.row [⟨(some 107), none, .mv (.tmp 5)⟩,
    ⟨(some 108), none, .ldn 2 (.tmp 8)⟩,
    ⟨(some 109), none, .get (.lookup 134 false) [(.tmp 107), (.tmp 108)]⟩,
    ⟨(some 110), none, .ibin .gtr .i64 (.tmp 109) (.const (.int .i64 0))⟩])
  (.prune [110, 14, 13, 0, 5, 1, 15, 8] (.cond (.tmp 110)
   (.seq (.row [⟨(some 4), none, .mv (.const (.bool false))⟩])
   (.prune [4] .ret))
   .skip)))
  (.prune [8, 15, 1, 5, 0, 13, 14] (.draw (.take 0 ⟨(some 111), none, .mv (.tmp 5)⟩ (.take 1 ⟨(some 112), none, .ldn 2 (.tmp 8)⟩ (.take 2 ⟨(some 113), none, .get (.lookup 134 false) [(.tmp 111), (.tmp 112)]⟩ (.take 3 ⟨(some 114), none, .ibin .add .i64 (.tmp 113) (.const (.int .i64 1))⟩ (.step 4 true ⟨(some 115), none, .run (.mapEntry 134) [(.tmp 111), (.tmp 112)]⟩ (.take 5 ⟨(some 116), none, .ext (.tmp 115) 1⟩ (.step 6 false ⟨none, none, .run (.entryStore 134) [(.tmp 111), (.tmp 116), (.tmp 114)]⟩ .done)))))))))))))))))))
  (.prune [15, 1, 5, 0, 13, 14] (.row [⟨(some 117), none, .ibin .add .i64 (.tmp 15) (.const (.int .i64 1))⟩,
    ⟨(some 15), none, .mv (.tmp 117)⟩])))))))))))
 (.prune [] (.seq (.row [⟨(some 4), none, .mv (.const (.bool true))⟩])
 (.prune [4] .ret))))))))))
theorem ok69 : fits Try.prog 69 ⟨s69, 118, [.tmp 4]⟩ = some ⟨s69, 118, [.tmp 4]⟩ := by kernel_rfl
theorem go69 {args : List Value} {w : World} {R : Value → World → Prop} (hle : Nat.ble args.length 118 = true) (h : vc Try.prog 118 s69 (argEnv args 0) w (fun L w => resL L w [.tmp 4] fun vs => oneOr vs fun v => R v w) (fun _ _ _ => False) (fun L w => resL L w [.tmp 4] fun vs => oneOr vs fun v => R v w)) : Cal Try.prog 69 ⟨args⟩ w R := cal_of mo ok69 hle h

-- footbridge/vocab.mayMade
def s70 : S := (.seq (.row [⟨(some 1), none, .box 46 (.tmp 0)⟩,
   ⟨(some 2), none, .mv (.const (.bool false))⟩])
 (.prune [1] (.seq (.row [⟨(some 8), none, .run (.makeMap 78) []⟩,
   ⟨(some 3), none, .mv (.tmp 8)⟩])
 (.prune [3, 1] (.seq (.seq (.row [⟨(some 9), none, .fad 1 (.tmp 1)⟩,
   ⟨(some 10), none, .ld (.tmp 9)⟩,
   ⟨(some 11), none, .lenA (.tmp 10)⟩,
   ⟨(some 12), none, .mv (.const (.int .i64 0))⟩])
 (.prune [12, 3, 10, 1, 11] (.block 0 (.loop [12] [5, 12, 13, 14, 15, 16, 17, 18, 19, 20, 21] (.seq (.row [⟨(some 13), none, .ibin .lss .i64 (.tmp 12) (.tmp 11)⟩])
  (.prune [13, 12, 3, 10, 1, 11] (.seq (.cond (.tmp 13)
   .skip
   (.exit 0))
  (.prune [12, 3, 10, 1, 11] (.seq (.block 1 (.seq (.row [⟨(some 14), none, .ixA 4 (.tmp 10) (.tmp 12)⟩,
    ⟨(some 15), none, .ldn 4 (.tmp 14)⟩,
    ⟨(some 5), none, .new [(.int .i64 0), (.int .i64 0), (.int .i64 0), (.int .i64 0)] 55⟩,
    ⟨none, none, .stn 4 (.tmp 5) (.tmp 15)⟩])
  (.prune [5, 12, 3, 10, 1, 11] (.row [⟨(some 16), none, .mv (.tmp 3)⟩,
    ⟨(some 17), none, .fad 2 (.tmp 5)⟩,
    ⟨(some 18), none, .ld (.tmp 17)⟩,
    ⟨(some 19), none, .get (.lookup 78 false) [(.tmp 16), (.tmp 18)]⟩,
    ⟨(some 20), none, .ibin .add .i64 (.tmp 19) (.const (.int .i64 1))⟩,
    ⟨none, none, .run (.mapUpdate 78) [(.tmp 16), (.tmp 18), (.tmp 20)]⟩]))))
  (.prune [12, 3, 10, 1, 11] (.row [⟨(some 21), none, .ibin .add .i64 (.tmp 12) (.const (.int .i64 1))⟩,
    ⟨(some 12), none, .mv (.tmp 21)⟩])))))))))))
 (.prune [1, 3] (.seq (.seq (.row [⟨(some 22), none, .fad 0 (.tmp 1)⟩,
   ⟨(some 23), none, .ld (.tmp 22)⟩,
   ⟨(some 24), none, .lenA (.tmp 23)⟩,
   ⟨(some 25), none, .mv (.const (.int .i64 0))⟩])
 (.prune [25, 3, 23, 24] (.block 2 (.loop [25] [2, 6, 7, 25, 26, 27, 28, 29, 30, 31, 32, 33, 34, 35, 36, 37, 38, 39] (.seq (.row [⟨(some 26), none, .ibin .lss .i64 (.tmp 25) (.tmp 24)⟩])
  (.prune [26, 24, 23, 3, 25] (.seq (.cond (.tmp 26)
   .skip
   (.exit 2))
  (.prune [24, 23, 3, 25] (.seq (.block 3 (.seq (.row [⟨(some 27), none, .mv (.tmp 25)⟩,
    ⟨(some 28), none, .ixA 1 (.tmp 23) (.tmp 25)⟩,
    ⟨(some 29), none, .ld (.tmp 28)⟩,
    ⟨(some 6), none, .mv (.tmp 27)⟩,
    ⟨(some 7), none, .mv (.tmp 29)⟩])
  (.prune [7, 6, 24, 23, 3, 25] (.seq (.row [⟨(some 30), none, .mv (.tmp 7)⟩,
    ⟨(some 31), none, .lenS (.tmp 30)⟩,
    ⟨(some 32), none, .ibin .gtr .i64 (.tmp 31) (.const (.int .i64 1))⟩,
    ⟨(some 33), none, .mv (.tmp 32)⟩,
    ⟨(some 34), (some (33, true)), .mv (.tmp 3)⟩,
    ⟨(some 35), (some (33, true)), .mv (.tmp 6)⟩,
    ⟨(some 36), (some (33, true)), .get (.lookup 78 false) [(.tmp 34), (.tmp 35)]⟩,
    ⟨(some 37), (some (33, true)), .ibin .eql .i64 (.tmp 36) (.const (.int .i64 0))⟩,
    ⟨(some 38), none, .pick (.tmp 33) (.tmp 37) (.const (.bool false))⟩])
  (.prune [38, 24, 23, 3, 25] (.cond (.tmp 38)
   (.seq (.row [⟨(some 2), none, .mv (.const (.bool false))⟩])
   (.prune [2] .ret))
   .skip))))))
  (.prune [25, 3, 23, 24] (.row [⟨(some 39), none, .ibin .add .i64 (.tmp 25) (.const (.int .i64 1))⟩,
    ⟨(some 25), none, .mv (.tmp 39)⟩])))))))))))
 (.prune [] (.seq (.row [⟨(some 2), none, .mv (.const (.bool true))⟩])
 (.prune [2] .ret))))))))))
theorem ok70 : fits Try.prog 70 ⟨s70, 40, [.tmp 2]⟩ = some ⟨s70, 40, [.tmp 2]⟩ := by kernel_rfl
theorem go70 {args : List Value} {w : World} {R : Value → World → Prop} (hle : Nat.ble args.length 40 = true) (h : vc Try.prog 40 s70 (argEnv args 0) w (fun L w => resL L w [.tmp 2] fun vs => oneOr vs fun v => R v w) (fun _ _ _ => False) (fun L w => resL L w [.tmp 2] fun vs => oneOr vs fun v => R v w)) : Cal Try.prog 70 ⟨args⟩ w R := cal_of mo ok70 hle h

-- footbridge/vocab.maySpecials
def s71 : S := (.seq (.row [⟨(some 4), none, .mv (.const (.bool false))⟩])
 (.prune [0, 1] (.seq (.row [⟨(some 8), none, .run (.makeMap 78) []⟩,
   ⟨(some 5), none, .mv (.tmp 8)⟩])
 (.prune [5, 0, 1] (.seq (.seq (.row [⟨(some 9), none, .mv (.tmp 1)⟩,
   ⟨(some 10), none, .lenA (.tmp 9)⟩,
   ⟨(some 11), none, .mv (.const (.int .i64 0))⟩])
 (.prune [5, 11, 0, 1, 9, 10] (.block 0 (.loop [11] [4, 6, 7, 11, 12, 13, 14, 15, 16, 17, 18, 19, 20, 21, 22, 23, 24, 25, 26, 27, 28, 29, 30, 31, 32, 33, 34, 35, 36, 37, 38, 39, 40, 41, 42, 43, 44, 45, 46, 47, 48, 49, 50, 51, 52, 53, 54, 55, 56, 57, 58, 59, 60, 61, 62, 63, 64, 65, 66, 67] (.seq (.row [⟨(some 12), none, .ibin .lss .i64 (.tmp 11) (.tmp 10)⟩])
  (.prune [12, 10, 9, 1, 0, 5, 11] (.seq (.cond (.tmp 12)
   .skip
   (.exit 0))
  (.prune [10, 9, 1, 0, 5, 11] (.seq (.block 1 (.seq (.row [⟨(some 13), none, .mv (.tmp 11)⟩,
    ⟨(some 14), none, .ixA 2 (.tmp 9) (.tmp 11)⟩,
    ⟨(some 15), none, .ldn 2 (.tmp 14)⟩,
    ⟨(some 7), none, .new [(.string ⟨#[]⟩), (.int .i64 0)] 112⟩,
    ⟨(some 6), none, .mv (.tmp 13)⟩,
    ⟨none, none, .stn 2 (.tmp 7) (.tmp 15)⟩])
  (.prune [6, 10, 9, 1, 0, 5, 11, 7] (.seq (.seq (.draw (.take 0 ⟨(some 16), none, .fad 0 (.tmp 7)⟩ (.take 1 ⟨(some 17), none, .ld (.tmp 16)⟩ (.step 2 true ⟨(some 18), none, .call 80 [(.tmp 17)]⟩ (.take 3 ⟨(some 19), none, .notB (.tmp 18)⟩ (.take 4 ⟨(some 20), none, .mv (.tmp 19)⟩ (.take 5 ⟨(some 21), (some (20, false)), .mv (.tmp 6)⟩ (.take 6 ⟨(some 22), (some (20, false)), .ibin .gtr .i64 (.tmp 21) (.const (.int .i64 0))⟩ (.take 7 ⟨(some 23), (some (20, false)), .mv (.tmp 22)⟩ (.take 8 ⟨(some 24), (some (23, true)), .mv (.tmp 1)⟩ (.take 9 ⟨(some 25), (some (23, true)), .mv (.tmp 6)⟩ (.take 10 ⟨(some 26), (some (23, true)), .ibin .sub .i64 (.tmp 25) (.const (.int .i64 1))⟩ (.take 11 ⟨(some 27), (some (23, true)), .ixA 2 (.tmp 24) (.tmp 26)⟩ (.take 12 ⟨(some 28), (some (23, true)), .fad 0 (.tmp 27)⟩ (.take 13 ⟨(some 29), (some (23, true)), .ld (.tmp 28)⟩ (.take 14 ⟨(some 30), (some (23, true)), .fad 0 (.tmp 7)⟩ (.take 15 ⟨(some 31), (some (23, true)), .ld (.tmp 30)⟩ (.take 16 ⟨(some 32), (some (23, true)), .sbin .geq (.tmp 29) (.tmp 31)⟩ (.take 17 ⟨(some 33), (some (20, false)), .pick (.tmp 23) (.tmp 32) (.const (.bool false))⟩ (.take 18 ⟨(some 34), none, .pick (.tmp 20) (.const (.bool true)) (.tmp 33)⟩ (.take 19 ⟨(some 35), none, .mv (.tmp 34)⟩ (.take 20 ⟨(some 36), (some (35, false)), .fad 1 (.tmp 7)⟩ (.take 21 ⟨(some 37), (some (35, false)), .ld (.tmp 36)⟩ (.take 22 ⟨(some 38), (some (35, false)), .ibin .lss .i64 (.tmp 37) (.const (.int .i64 0))⟩ (.take 23 ⟨(some 39), none, .pick (.tmp 35) (.const (.bool true)) (.tmp 38)⟩ (.take 24 ⟨(some 40), none, .mv (.tmp 39)⟩ (.take 25 ⟨(some 41), (some (40, false)), .fad 1 (.tmp 7)⟩ (.take 26 ⟨(some 42), (some (40, false)), .ld (.tmp 41)⟩ (.take 27 ⟨(some 43), (some (40, false)), .mv (.tmp 0)⟩ (.take 28 ⟨(some 44), (some (40, false)), .lenA (.tmp 43)⟩ (.take 29 ⟨(some 45), (some (40, false)), .ibin .geq .i64 (.tmp 42) (.tmp 44)⟩ (.take 30 ⟨(some 46), none, .pick (.tmp 40) (.const (.bool true)) (.tmp 45)⟩ (.take 31 ⟨(some 47), none, .mv (.tmp 46)⟩ (.take 32 ⟨(some 48), (some (47, false)), .mv (.tmp 0)⟩ (.take 33 ⟨(some 49), (some (47, false)), .fad 1 (.tmp 7)⟩ (.take 34 ⟨(some 50), (some (47, false)), .ld (.tmp 49)⟩ (.take 35 ⟨(some 51), (some (47, false)), .ixA 1 (.tmp 48) (.tmp 50)⟩ (.take 36 ⟨(some 52), (some (47, false)), .ld (.tmp 51)⟩ (.take 37 ⟨(some 53), (some (47, false)), .sbin .neq (.tmp 52) (.const (.string ⟨#[]⟩))⟩ (.take 38 ⟨(some 54), none, .pick (.tmp 47) (.const (.bool true)) (.tmp 53)⟩ (.take 39 ⟨(some 55), none, .mv (.tmp 54)⟩ (.take 40 ⟨(some 56), (some (55, false)), .mv (.tmp 5)⟩ (.take 41 ⟨(some 57), (some (55, false)), .fad 1 (.tmp 7)⟩ (.take 42 ⟨(some 58), (some (55, false)), .ld (.tmp 57)⟩ (.take 43 ⟨(some 59), (some (55, false)), .get (.lookup 78 false) [(.tmp 56), (.tmp 58)]⟩ (.take 44 ⟨(some 60), (some (55, false)), .ibin .gtr .i64 (.tmp 59) (.const (.int .i64 0))⟩ (.take 45 ⟨(some 61), none, .pick (.tmp 55) (.const (.bool true)) (.tmp 60)⟩ .done)))))))))))))))))))))))))))))))))))))))))))))))
  (.prune [61, 10, 9, 1, 0, 5, 11, 7] (.cond (.tmp 61)
   (.seq (.row [⟨(some 4), none, .mv (.const (.bool false))⟩])
   (.prune [4] .ret))
   .skip)))
  (.prune [7, 11, 5, 0, 1, 9, 10] (.row [⟨(some 62), none, .mv (.tmp 5)⟩,
    ⟨(some 63), none, .fad 1 (.tmp 7)⟩,
    ⟨(some 64), none, .ld (.tmp 63)⟩,
    ⟨(some 65), none, .get (.lookup 78 false) [(.tmp 62), (.tmp 64)]⟩,
    ⟨(some 66), none, .ibin .add .i64 (.tmp 65) (.const (.int .i64 1))⟩,
    ⟨none, none, .run (.mapUpdate 78) [(.tmp 62), (.tmp 64), (.tmp 66)]⟩]))))))
  (.prune [11, 5, 0, 1, 9, 10] (.row [⟨(some 67), none, .ibin .add .i64 (.tmp 11) (.const (.int .i64 1))⟩,
    ⟨(some 11), none, .mv (.tmp 67)⟩])))))))))))
 (.prune [1] (.seq (.row [⟨(some 68), none, .mv (.tmp 1)⟩,
   ⟨(some 69), none, .lenA (.tmp 68)⟩,
   ⟨(some 70), none, .ibin .leq .i64 (.tmp 69) (.const (.int .i64 16))⟩,
   ⟨(some 4), none, .mv (.tmp 70)⟩])
 (.prune [4] .ret))))))))
theorem ok71 : fits Try.prog 71 ⟨s71, 71, [.tmp 4]⟩ = some ⟨s71, 71, [.tmp 4]⟩ := by kernel_rfl
theorem go71 {args : List Value} {w : World} {R : Value → World → Prop} (hle : Nat.ble args.length 71 = true) (h : vc Try.prog 71 s71 (argEnv args 0) w (fun L w => resL L w [.tmp 4] fun vs => oneOr vs fun v => R v w) (fun _ _ _ => False) (fun L w => resL L w [.tmp 4] fun vs => oneOr vs fun v => R v w)) : Cal Try.prog 71 ⟨args⟩ w R := cal_of mo ok71 hle h

-- slices.Index[[]string,string]
def s72 : S := (.seq (.row [⟨(some 4), none, .mv (.const (.int .i64 0))⟩])
 (.prune [0, 1] (.seq (.seq (.row [⟨(some 6), none, .mv (.tmp 0)⟩,
   ⟨(some 7), none, .lenA (.tmp 6)⟩,
   ⟨(some 8), none, .mv (.const (.int .i64 0))⟩])
 (.prune [8, 0, 1, 7] (.block 0 (.loop [8] [4, 5, 8, 9, 10, 11, 12, 13, 14, 15, 16, 17, 18] (.seq (.row [⟨(some 9), none, .ibin .lss .i64 (.tmp 8) (.tmp 7)⟩])
  (.prune [9, 7, 1, 0, 8] (.seq (.cond (.tmp 9)
   .skip
   (.exit 0))
  (.prune [7, 1, 0, 8] (.seq (.block 1 (.seq (.row [⟨(some 10), none, .mv (.tmp 8)⟩,
    ⟨(some 5), none, .mv (.tmp 10)⟩])
  (.prune [7, 1, 0, 8, 5] (.seq (.row [⟨(some 11), none, .mv (.tmp 1)⟩,
    ⟨(some 12), none, .mv (.tmp 0)⟩,
    ⟨(some 13), none, .mv (.tmp 5)⟩,
    ⟨(some 14), none, .ixA 1 (.tmp 12) (.tmp 13)⟩,
    ⟨(some 15), none, .ld (.tmp 14)⟩,
    ⟨(some 16), none, .sbin .eql (.tmp 11) (.tmp 15)⟩])
  (.prune [16, 7, 1, 0, 8, 5] (.cond (.tmp 16)
   (.seq (.row [⟨(some 17), none, .mv (.tmp 5)⟩,
     ⟨(some 4), none, .mv (.tmp 17)⟩])
   (.prune [4] .ret))
   .skip))))))
  (.prune [8, 0, 1, 7] (.row [⟨(some 18), none, .ibin .add .i64 (.tmp 8) (.const (.int .i64 1))⟩,
    ⟨(some 8), none, .mv (.tmp 18)⟩])))))))))))
 (.prune [] (.seq (.row [⟨(some 4), none, .mv (.const (.int .i64 (-1)))⟩])
 (.prune [4] .ret))))))
theorem ok72 : fits Try.prog 72 ⟨s72, 19, [.tmp 4]⟩ = some ⟨s72, 19, [.tmp 4]⟩ := by kernel_rfl
theorem go72 {args : List Value} {w : World} {R : Value → World → Prop} (hle : Nat.ble args.length 19 = true) (h : vc Try.prog 19 s72 (argEnv args 0) w (fun L w => resL L w [.tmp 4] fun vs => oneOr vs fun v => R v w) (fun _ _ _ => False) (fun L w => resL L w [.tmp 4] fun vs => oneOr vs fun v => R v w)) : Cal Try.prog 72 ⟨args⟩ w R := cal_of mo ok72 hle h

-- slices.ContainsFunc[[]string,string]
def s75 : S := (.seq (.row [⟨(some 4), none, .mv (.const (.bool false))⟩])
 (.prune [0, 1] (.seq (.row [⟨(some 5), none, .mv (.tmp 0)⟩,
   ⟨(some 6), none, .mv (.tmp 1)⟩,
   ⟨(some 7), none, .call 81 [(.tmp 5), (.tmp 6)]⟩,
   ⟨(some 8), none, .ibin .geq .i64 (.tmp 7) (.const (.int .i64 0))⟩,
   ⟨(some 4), none, .mv (.tmp 8)⟩])
 (.prune [4] .ret))))
theorem ok75 : fits Try.prog 75 ⟨s75, 9, [.tmp 4]⟩ = some ⟨s75, 9, [.tmp 4]⟩ := by kernel_rfl
theorem go75 {args : List Value} {w : World} {R : Value → World → Prop} (hle : Nat.ble args.length 9 = true) (h : vc Try.prog 9 s75 (argEnv args 0) w (fun L w => resL L w [.tmp 4] fun vs => oneOr vs fun v => R v w) (fun _ _ _ => False) (fun L w => resL L w [.tmp 4] fun vs => oneOr vs fun v => R v w)) : Cal Try.prog 75 ⟨args⟩ w R := cal_of mo ok75 hle h

-- footbridge/vocab.mayTokens$1
def s76 : S := (.seq (.row [⟨(some 2), none, .mv (.const (.bool false))⟩])
 (.prune [0] (.seq (.row [⟨(some 3), none, .mv (.tmp 0)⟩,
   ⟨(some 4), none, .lenS (.tmp 3)⟩,
   ⟨(some 5), none, .ibin .gtr .i64 (.tmp 4) (.const (.int .i64 64))⟩,
   ⟨(some 2), none, .mv (.tmp 5)⟩])
 (.prune [2] .ret))))
theorem ok76 : fits Try.prog 76 ⟨s76, 6, [.tmp 2]⟩ = some ⟨s76, 6, [.tmp 2]⟩ := by kernel_rfl
theorem go76 {args : List Value} {w : World} {R : Value → World → Prop} (hle : Nat.ble args.length 6 = true) (h : vc Try.prog 6 s76 (argEnv args 0) w (fun L w => resL L w [.tmp 2] fun vs => oneOr vs fun v => R v w) (fun _ _ _ => False) (fun L w => resL L w [.tmp 2] fun vs => oneOr vs fun v => R v w)) : Cal Try.prog 76 ⟨args⟩ w R := cal_of mo ok76 hle h

-- footbridge/vocab.places
def s77 : S := (.seq (.row [⟨(some 2), none, .mv (.const (.map none))⟩,
   ⟨(some 3), none, .mv (.const (.bool false))⟩])
 (.prune [0] (.seq (.row [⟨(some 9), none, .run (.makeMap 131) []⟩,
   ⟨(some 4), none, .mv (.tmp 9)⟩])
 (.prune [0, 4] (.seq (.seq (.row [⟨(some 10), none, .mv (.tmp 0)⟩,
   ⟨(some 11), none, .lenA (.tmp 10)⟩,
   ⟨(some 12), none, .mv (.const (.int .i64 0))⟩])
 (.prune [12, 4, 10, 11] (.block 0 (.loop [12] [2, 3, 5, 6, 7, 8, 12, 13, 14, 15, 16, 17, 18, 19, 20, 21, 22, 23, 24, 25, 26, 27, 28, 29] (.seq (.row [⟨(some 13), none, .ibin .lss .i64 (.tmp 12) (.tmp 11)⟩])
  (.prune [13, 12, 4, 10, 11] (.seq (.cond (.tmp 13)
   .skip
   (.exit 0))
  (.prune [12, 4, 10, 11] (.seq (.block 1 (.seq (.row [⟨(some 14), none, .mv (.tmp 12)⟩,
    ⟨(some 15), none, .ixA 1 (.tmp 10) (.tmp 12)⟩,
    ⟨(some 16), none, .ld (.tmp 15)⟩,
    ⟨(some 5), none, .mv (.tmp 14)⟩,
    ⟨(some 6), none, .mv (.tmp 16)⟩])
  (.prune [6, 5, 12, 4, 10, 11] (.seq (.seq (.row [⟨(some 17), none, .mv (.tmp 6)⟩,
    ⟨(some 18), none, .sbin .eql (.tmp 17) (.const (.string ⟨#[]⟩))⟩])
  (.prune [18, 6, 5, 12, 4, 10, 11] (.cond (.tmp 18)
   (.exit 1)
   .skip)))
  (.prune [11, 10, 4, 12, 5, 6] (.seq (.seq (.row [⟨(some 20), none, .mv (.tmp 4)⟩,
    ⟨(some 21), none, .mv (.tmp 6)⟩,
    ⟨(some 22), none, .get (.lookup 131 true) [(.tmp 20), (.tmp 21)]⟩,
    ⟨(some 19), none, .mv (.tmp 22)⟩,
    ⟨(some 23), none, .ext (.tmp 19) 0⟩,
    ⟨(some 24), none, .ext (.tmp 19) 1⟩,
    ⟨(some 7), none, .mv (.tmp 23)⟩,
    ⟨(some 8), none, .mv (.tmp 24)⟩])
  (.prune [8, 11, 10, 4, 12, 5, 6] (.seq (.row [⟨(some 25), none, .mv (.tmp 8)⟩])
  (.prune [25, 11, 10, 4, 12, 5, 6] (.cond (.tmp 25)
   (.seq (.row [⟨(some 2), none, .mv (.const (.map none))⟩,
     ⟨(some 3), none, .mv (.const (.bool false))⟩])
   (.prune [2, 3] .ret))
   .skip)))))
  (.prune [6, 5, 12, 4, 10, 11] (.row [⟨(some 26), none, .mv (.tmp 4)⟩,
    ⟨(some 27), none, .mv (.tmp 6)⟩,
    ⟨(some 28), none, .mv (.tmp 5)⟩,
    ⟨none, none, .run (.mapUpdate 131) [(.tmp 26), (.tmp 27), (.tmp 28)]⟩]))))))))
  (.prune [12, 4, 10, 11] (.row [⟨(some 29), none, .ibin .add .i64 (.tmp 12) (.const (.int .i64 1))⟩,
    ⟨(some 12), none, .mv (.tmp 29)⟩])))))))))))
 (.prune [4] (.seq (.row [⟨(some 30), none, .mv (.tmp 4)⟩,
   ⟨(some 2), none, .mv (.tmp 30)⟩,
   ⟨(some 3), none, .mv (.const (.bool true))⟩])
 (.prune [2, 3] .ret))))))))
theorem ok77 : fits Try.prog 77 ⟨s77, 31, [.tmp 2, .tmp 3]⟩ = some ⟨s77, 31, [.tmp 2, .tmp 3]⟩ := by kernel_rfl
theorem go77 {args : List Value} {w : World} {R : Value → World → Prop} (hle : Nat.ble args.length 31 = true) (h : vc Try.prog 31 s77 (argEnv args 0) w (fun L w => resL L w [.tmp 2, .tmp 3] fun vs => oneOr vs fun v => R v w) (fun _ _ _ => False) (fun L w => resL L w [.tmp 2, .tmp 3] fun vs => oneOr vs fun v => R v w)) : Cal Try.prog 77 ⟨args⟩ w R := cal_of mo ok77 hle h

-- footbridge/vocab.is
def s78 : S := (.seq (.row [⟨(some 4), none, .mv (.const (.bool false))⟩])
 (.prune [0, 1] (.seq (.row [⟨(some 5), none, .mv (.tmp 1)⟩,
   ⟨(some 6), none, .ibin .geq .i64 (.tmp 5) (.const (.int .i64 0))⟩,
   ⟨(some 7), none, .mv (.tmp 6)⟩,
   ⟨(some 8), (some (7, true)), .mv (.tmp 1)⟩,
   ⟨(some 9), (some (7, true)), .mv (.tmp 0)⟩,
   ⟨(some 10), (some (7, true)), .lenA (.tmp 9)⟩,
   ⟨(some 11), (some (7, true)), .ibin .lss .i64 (.tmp 8) (.tmp 10)⟩,
   ⟨(some 12), none, .pick (.tmp 7) (.tmp 11) (.const (.bool false))⟩,
   ⟨(some 13), none, .mv (.tmp 12)⟩,
   ⟨(some 14), (some (13, true)), .mv (.tmp 0)⟩,
   ⟨(some 15), (some (13, true)), .mv (.tmp 1)⟩,
   ⟨(some 16), (some (13, true)), .ixA 1 (.tmp 14) (.tmp 15)⟩,
   ⟨(some 17), (some (13, true)), .ld (.tmp 16)⟩,
   ⟨(some 18), (some (13, true)), .sbin .neq (.tmp 17) (.const (.string ⟨#[]⟩))⟩,
   ⟨(some 19), none, .pick (.tmp 13) (.tmp 18) (.const (.bool false))⟩,
   ⟨(some 4), none, .mv (.tmp 19)⟩])
 (.prune [4] .ret))))
theorem ok78 : fits Try.prog 78 ⟨s78, 20, [.tmp 4]⟩ = some ⟨s78, 20, [.tmp 4]⟩ := by kernel_rfl
theorem go78 {args : List Value} {w : World} {R : Value → World → Prop} (hle : Nat.ble args.length 20 = true) (h : vc Try.prog 20 s78 (argEnv args 0) w (fun L w => resL L w [.tmp 4] fun vs => oneOr vs fun v => R v w) (fun _ _ _ => False) (fun L w => resL L w [.tmp 4] fun vs => oneOr vs fun v => R v w)) : Cal Try.prog 78 ⟨args⟩ w R := cal_of mo ok78 hle h

-- footbridge/vocab.order
def s79 : S := (.seq (.row [⟨(some 2), none, .box 55 (.tmp 0)⟩,
   ⟨(some 3), none, .box 55 (.tmp 1)⟩,
   ⟨(some 4), none, .mv (.const (.int .i64 0))⟩])
 (.prune [2, 3] (.seq (.draw (.take 0 ⟨(some 5), none, .fad 3 (.tmp 2)⟩ (.take 1 ⟨(some 6), none, .ld (.tmp 5)⟩ (.take 2 ⟨(some 7), none, .fad 3 (.tmp 3)⟩ (.take 3 ⟨(some 8), none, .ld (.tmp 7)⟩ (.take 5 ⟨(some 10), none, .fad 0 (.tmp 2)⟩ (.take 6 ⟨(some 11), none, .ld (.tmp 10)⟩ (.take 7 ⟨(some 12), none, .fad 0 (.tmp 3)⟩ (.take 8 ⟨(some 13), none, .ld (.tmp 12)⟩ (.take 10 ⟨(some 15), none, .fad 1 (.tmp 2)⟩ (.take 11 ⟨(some 16), none, .ld (.tmp 15)⟩ (.take 12 ⟨(some 17), none, .fad 1 (.tmp 3)⟩ (.take 13 ⟨(some 18), none, .ld (.tmp 17)⟩ (.step 4 true ⟨(some 9), none, .call 83 [(.tmp 6), (.tmp 8)]⟩ (.step 9 true ⟨(some 14), none, .call 83 [(.tmp 11), (.tmp 13)]⟩ (.step 14 true ⟨(some 19), none, .call 83 [(.tmp 16), (.tmp 18)]⟩ (.step 15 true ⟨(some 20), none, .bsl 3 3 [(.int .i64 0), (.int .i64 0), (.int .i64 0)] [(0, 1), (1, 1), (2, 1)] [(.tmp 9), (.tmp 14), (.tmp 19)]⟩ (.step 16 true ⟨(some 21), none, .call 82 [(.tmp 20)]⟩ (.take 17 ⟨(some 4), none, .mv (.tmp 21)⟩ .done)))))))))))))))))))
 (.prune [4] .ret))))
theorem ok79 : fits Try.prog 79 ⟨s79, 22, [.tmp 4]⟩ = some ⟨s79, 22, [.tmp 4]⟩ := by kernel_rfl
theorem go79 {args : List Value} {w : World} {R : Value → World → Prop} (hle : Nat.ble args.length 22 = true) (h : vc Try.prog 22 s79 (argEnv args 0) w (fun L w => resL L w [.tmp 4] fun vs => oneOr vs fun v => R v w) (fun _ _ _ => False) (fun L w => resL L w [.tmp 4] fun vs => oneOr vs fun v => R v w)) : Cal Try.prog 79 ⟨args⟩ w R := cal_of mo ok79 hle h

-- footbridge/vocab.mayName
def s80 : S := (.seq (.row [⟨(some 2), none, .mv (.const (.bool false))⟩])
 (.prune [0] (.seq (.seq (.row [⟨(some 4), none, .mv (.tmp 0)⟩,
   ⟨(some 5), none, .lenS (.tmp 4)⟩,
   ⟨(some 6), none, .mv (.const (.int .i64 0))⟩])
 (.prune [6, 0, 5] (.block 0 (.loop [6] [2, 3, 6, 7, 8, 9, 10, 11, 12, 13, 14] (.seq (.row [⟨(some 7), none, .ibin .lss .i64 (.tmp 6) (.tmp 5)⟩])
  (.prune [7, 5, 0, 6] (.seq (.cond (.tmp 7)
   .skip
   (.exit 0))
  (.prune [5, 0, 6] (.seq (.block 1 (.seq (.row [⟨(some 8), none, .mv (.tmp 6)⟩,
    ⟨(some 3), none, .mv (.tmp 8)⟩])
  (.prune [3, 5, 0, 6] (.seq (.row [⟨(some 9), none, .mv (.tmp 0)⟩,
    ⟨(some 10), none, .mv (.tmp 3)⟩,
    ⟨(some 11), none, .ixS (.tmp 9) (.tmp 10)⟩,
    ⟨(some 12), none, .call 84 [(.const (.string ⟨#[97, 98, 99, 100, 101, 102, 103, 104, 105, 106, 107, 108, 109, 110, 111, 112, 113, 114, 115, 116, 117, 118, 119, 120, 121, 122, 48, 49, 50, 51, 52, 53, 54, 55, 56, 57, 95]⟩)), (.tmp 11)]⟩,
    ⟨(some 13), none, .ibin .lss .i64 (.tmp 12) (.const (.int .i64 0))⟩])
  (.prune [13, 5, 0, 6] (.cond (.tmp 13)
   (.seq (.row [⟨(some 2), none, .mv (.const (.bool false))⟩])
   (.prune [2] .ret))
   .skip))))))
  (.prune [6, 0, 5] (.row [⟨(some 14), none, .ibin .add .i64 (.tmp 6) (.const (.int .i64 1))⟩,
    ⟨(some 6), none, .mv (.tmp 14)⟩])))))))))))
 (.prune [0] (.seq (.row [⟨(some 15), none, .mv (.tmp 0)⟩,
   ⟨(some 16), none, .sbin .neq (.tmp 15) (.const (.string ⟨#[]⟩))⟩,
   ⟨(some 17), none, .mv (.tmp 16)⟩,
   ⟨(some 18), (some (17, true)), .mv (.tmp 0)⟩,
   ⟨(some 19), (some (17, true)), .lenS (.tmp 18)⟩,
   ⟨(some 20), (some (17, true)), .ibin .leq .i64 (.tmp 19) (.const (.int .i64 24))⟩,
   ⟨(some 21), none, .pick (.tmp 17) (.tmp 20) (.const (.bool false))⟩,
   ⟨(some 2), none, .mv (.tmp 21)⟩])
 (.prune [2] .ret))))))
theorem ok80 : fits Try.prog 80 ⟨s80, 22, [.tmp 2]⟩ = some ⟨s80, 22, [.tmp 2]⟩ := by kernel_rfl
theorem go80 {args : List Value} {w : World} {R : Value → World → Prop} (hle : Nat.ble args.length 22 = true) (h : vc Try.prog 22 s80 (argEnv args 0) w (fun L w => resL L w [.tmp 2] fun vs => oneOr vs fun v => R v w) (fun _ _ _ => False) (fun L w => resL L w [.tmp 2] fun vs => oneOr vs fun v => R v w)) : Cal Try.prog 80 ⟨args⟩ w R := cal_of mo ok80 hle h

-- slices.IndexFunc[[]string,string]
def s81 : S := (.seq (.row [⟨(some 4), none, .mv (.const (.int .i64 0))⟩])
 (.prune [0, 1] (.seq (.seq (.row [⟨(some 6), none, .mv (.tmp 0)⟩,
   ⟨(some 7), none, .lenA (.tmp 6)⟩,
   ⟨(some 8), none, .mv (.const (.int .i64 0))⟩])
 (.prune [8, 0, 1, 7] (.block 0 (.loop [8] [4, 5, 8, 9, 10, 11, 12, 13, 14, 15, 16, 17, 18] (.seq (.row [⟨(some 9), none, .ibin .lss .i64 (.tmp 8) (.tmp 7)⟩])
  (.prune [9, 7, 1, 0, 8] (.seq (.cond (.tmp 9)
   .skip
   (.exit 0))
  (.prune [7, 1, 0, 8] (.seq (.block 1 (.seq (.row [⟨(some 10), none, .mv (.tmp 8)⟩,
    ⟨(some 5), none, .mv (.tmp 10)⟩])
  (.prune [7, 1, 0, 8, 5] (.seq (.row [⟨(some 11), none, .mv (.tmp 1)⟩,
    ⟨(some 12), none, .mv (.tmp 0)⟩,
    ⟨(some 13), none, .mv (.tmp 5)⟩,
    ⟨(some 14), none, .ixA 1 (.tmp 12) (.tmp 13)⟩,
    ⟨(some 15), none, .ld (.tmp 14)⟩,
    ⟨(some 16), none, .callv (.tmp 11) [(.tmp 15)]⟩])
  (.prune [16, 7, 1, 0, 8, 5] (.cond (.tmp 16)
   (.seq (.row [⟨(some 17), none, .mv (.tmp 5)⟩,
     ⟨(some 4), none, .mv (.tmp 17)⟩])
   (.prune [4] .ret))
   .skip))))))
  (.prune [8, 0, 1, 7] (.row [⟨(some 18), none, .ibin .add .i64 (.tmp 8) (.const (.int .i64 1))⟩,
    ⟨(some 8), none, .mv (.tmp 18)⟩])))))))))))
 (.prune [] (.seq (.row [⟨(some 4), none, .mv (.const (.int .i64 (-1)))⟩])
 (.prune [4] .ret))))))
theorem ok81 : fits Try.prog 81 ⟨s81, 19, [.tmp 4]⟩ = some ⟨s81, 19, [.tmp 4]⟩ := by kernel_rfl
theorem go81 {args : List Value} {w : World} {R : Value → World → Prop} (hle : Nat.ble args.length 19 = true) (h : vc Try.prog 19 s81 (argEnv args 0) w (fun L w => resL L w [.tmp 4] fun vs => oneOr vs fun v => R v w) (fun _ _ _ => False) (fun L w => resL L w [.tmp 4] fun vs => oneOr vs fun v => R v w)) : Cal Try.prog 81 ⟨args⟩ w R := cal_of mo ok81 hle h

-- cmp.Or[int]
def s82 : S := (.seq (.row [⟨(some 2), none, .mv (.const (.int .i64 0))⟩])
 (.prune [0] (.seq (.row [⟨(some 3), none, .mv (.const (.int .i64 0))⟩])
 (.prune [0, 3] (.seq (.seq (.row [⟨(some 6), none, .mv (.tmp 0)⟩,
   ⟨(some 7), none, .lenA (.tmp 6)⟩,
   ⟨(some 8), none, .mv (.const (.int .i64 0))⟩])
 (.prune [8, 3, 6, 7] (.block 0 (.loop [8] [2, 5, 8, 9, 10, 11, 12, 13, 14, 15, 16] (.seq (.row [⟨(some 9), none, .ibin .lss .i64 (.tmp 8) (.tmp 7)⟩])
  (.prune [9, 7, 6, 3, 8] (.seq (.cond (.tmp 9)
   .skip
   (.exit 0))
  (.prune [7, 6, 3, 8] (.seq (.block 1 (.seq (.row [⟨(some 10), none, .ixA 1 (.tmp 6) (.tmp 8)⟩,
    ⟨(some 11), none, .ld (.tmp 10)⟩,
    ⟨(some 5), none, .mv (.tmp 11)⟩])
  (.prune [7, 6, 3, 8, 5] (.seq (.row [⟨(some 12), none, .mv (.tmp 5)⟩,
    ⟨(some 13), none, .mv (.tmp 3)⟩,
    ⟨(some 14), none, .ibin .neq .i64 (.tmp 12) (.tmp 13)⟩])
  (.prune [14, 7, 6, 3, 8, 5] (.cond (.tmp 14)
   (.seq (.row [⟨(some 15), none, .mv (.tmp 5)⟩,
     ⟨(some 2), none, .mv (.tmp 15)⟩])
   (.prune [2] .ret))
   .skip))))))
  (.prune [8, 3, 6, 7] (.row [⟨(some 16), none, .ibin .add .i64 (.tmp 8) (.const (.int .i64 1))⟩,
    ⟨(some 8), none, .mv (.tmp 16)⟩])))))))))))
 (.prune [3] (.seq (.row [⟨(some 17), none, .mv (.tmp 3)⟩,
   ⟨(some 2), none, .mv (.tmp 17)⟩])
 (.prune [2] .ret))))))))
theorem ok82 : fits Try.prog 82 ⟨s82, 18, [.tmp 2]⟩ = some ⟨s82, 18, [.tmp 2]⟩ := by kernel_rfl
theorem go82 {args : List Value} {w : World} {R : Value → World → Prop} (hle : Nat.ble args.length 18 = true) (h : vc Try.prog 18 s82 (argEnv args 0) w (fun L w => resL L w [.tmp 2] fun vs => oneOr vs fun v => R v w) (fun _ _ _ => False) (fun L w => resL L w [.tmp 2] fun vs => oneOr vs fun v => R v w)) : Cal Try.prog 82 ⟨args⟩ w R := cal_of mo ok82 hle h

-- cmp.Compare[int]
def s83 : S := (.seq (.row [⟨(some 4), none, .mv (.const (.int .i64 0))⟩])
 (.prune [1, 0] (.seq (.row [⟨(some 7), none, .mv (.tmp 0)⟩,
   ⟨(some 8), none, .call 85 [(.tmp 7)]⟩,
   ⟨(some 5), none, .mv (.tmp 8)⟩])
 (.prune [5, 1, 0] (.seq (.row [⟨(some 9), none, .mv (.tmp 1)⟩,
   ⟨(some 10), none, .call 85 [(.tmp 9)]⟩,
   ⟨(some 6), none, .mv (.tmp 10)⟩])
 (.prune [5, 1, 0, 6] (.seq (.seq (.row [⟨(some 11), none, .mv (.tmp 5)⟩])
 (.prune [11, 1, 0, 6] (.cond (.tmp 11)
  (.seq (.seq (.row [⟨(some 12), none, .mv (.tmp 6)⟩])
  (.prune [12] (.cond (.tmp 12)
   (.seq (.row [⟨(some 4), none, .mv (.const (.int .i64 0))⟩])
   (.prune [4] .ret))
   .skip)))
  (.prune [] (.seq (.row [⟨(some 4), none, .mv (.const (.int .i64 (-1)))⟩])
  (.prune [4] .ret))))
  .skip)))
 (.prune [6, 0, 1] (.seq (.seq (.row [⟨(some 13), none, .mv (.tmp 6)⟩])
 (.prune [13, 0, 1] (.cond (.tmp 13)
  (.seq (.row [⟨(some 4), none, .mv (.const (.int .i64 1))⟩])
  (.prune [4] .ret))
  .skip)))
 (.prune [1, 0] (.seq (.seq (.row [⟨(some 14), none, .mv (.tmp 0)⟩,
   ⟨(some 15), none, .mv (.tmp 1)⟩,
   ⟨(some 16), none, .ibin .lss .i64 (.tmp 14) (.tmp 15)⟩])
 (.prune [16, 1, 0] (.cond (.tmp 16)
  (.seq (.row [⟨(some 4), none, .mv (.const (.int .i64 (-1)))⟩])
  (.prune [4] .ret))
  .skip)))
 (.prune [0, 1] (.seq (.seq (.row [⟨(some 17), none, .mv (.tmp 0)⟩,
   ⟨(some 18), none, .mv (.tmp 1)⟩,
   ⟨(some 19), none, .ibin .gtr .i64 (.tmp 17) (.tmp 18)⟩])
 (.prune [19] (.cond (.tmp 19)
  (.seq (.row [⟨(some 4), none, .mv (.const (.int .i64 1))⟩])
  (.prune [4] .ret))
  .skip)))
 (.prune [] (.seq (.row [⟨(some 4), none, .mv (.const (.int .i64 0))⟩])
 (.prune [4] .ret))))))))))))))))
theorem ok83 : fits Try.prog 83 ⟨s83, 20, [.tmp 4]⟩ = some ⟨s83, 20, [.tmp 4]⟩ := by kernel_rfl
theorem go83 {args : List Value} {w : World} {R : Value → World → Prop} (hle : Nat.ble args.length 20 = true) (h : vc Try.prog 20 s83 (argEnv args 0) w (fun L w => resL L w [.tmp 4] fun vs => oneOr vs fun v => R v w) (fun _ _ _ => False) (fun L w => resL L w [.tmp 4] fun vs => oneOr vs fun v => R v w)) : Cal Try.prog 83 ⟨args⟩ w R := cal_of mo ok83 hle h

-- strings.IndexByte
def s84 : S := (.seq (.row [⟨(some 4), none, .mv (.const (.int .i64 0))⟩])
 (.prune [0, 1] (.seq (.row [⟨(some 5), none, .mv (.tmp 0)⟩,
   ⟨(some 6), none, .mv (.tmp 1)⟩,
   ⟨(some 7), none, .call 86 [(.tmp 5), (.tmp 6)]⟩,
   ⟨(some 4), none, .mv (.tmp 7)⟩])
 (.prune [4] .ret))))
theorem ok84 : fits Try.prog 84 ⟨s84, 8, [.tmp 4]⟩ = some ⟨s84, 8, [.tmp 4]⟩ := by kernel_rfl
theorem go84 {args : List Value} {w : World} {R : Value → World → Prop} (hle : Nat.ble args.length 8 = true) (h : vc Try.prog 8 s84 (argEnv args 0) w (fun L w => resL L w [.tmp 4] fun vs => oneOr vs fun v => R v w) (fun _ _ _ => False) (fun L w => resL L w [.tmp 4] fun vs => oneOr vs fun v => R v w)) : Cal Try.prog 84 ⟨args⟩ w R := cal_of mo ok84 hle h

-- cmp.isNaN[int]
def s85 : S := (.seq (.row [⟨(some 2), none, .mv (.const (.bool false))⟩])
 (.prune [0] (.seq (.row [⟨(some 3), none, .mv (.tmp 0)⟩,
   ⟨(some 4), none, .mv (.tmp 0)⟩,
   ⟨(some 5), none, .ibin .neq .i64 (.tmp 3) (.tmp 4)⟩,
   ⟨(some 2), none, .mv (.tmp 5)⟩])
 (.prune [2] .ret))))
theorem ok85 : fits Try.prog 85 ⟨s85, 6, [.tmp 2]⟩ = some ⟨s85, 6, [.tmp 2]⟩ := by kernel_rfl
theorem go85 {args : List Value} {w : World} {R : Value → World → Prop} (hle : Nat.ble args.length 6 = true) (h : vc Try.prog 6 s85 (argEnv args 0) w (fun L w => resL L w [.tmp 2] fun vs => oneOr vs fun v => R v w) (fun _ _ _ => False) (fun L w => resL L w [.tmp 2] fun vs => oneOr vs fun v => R v w)) : Cal Try.prog 85 ⟨args⟩ w R := cal_of mo ok85 hle h

end Fb.Try
