/- Texts of this claim, merged. -/
import Derived.Test.YtnphfkceoklkkaaVf1
import Derived.Test.YtnphfkceoklkkaaVf6
set_option linter.unusedSimpArgs false
set_option linter.unusedVariables false
set_option linter.unusedSectionVars false
/- The functions in the small code. Made by program out of the translation. -/
namespace Go.Proofs.Ytnphfkceoklkkaa
open Go
set_option maxRecDepth 100000
def cmade_Light : AFun := ⟨6, [(2, none)],
 (.seq
 (.reg false [
   ⟨(some 2), .mv, [(.c (.bool false))], none⟩] [])
 (.seq
 (.reg false [
   ⟨(some 3), .mv, [(.t 0)], none⟩,
   ⟨(some 4), .len, [(.t 3)], none⟩,
   ⟨(some 5), (.bin .leq), [(.t 4), (.c (.int .i64 400))], none⟩,
   ⟨(some 2), .mv, [(.t 5)], none⟩] [])
 .ret))⟩

def cmade_Roll : AFun := ⟨6, [(2, none)],
 (.seq
 (.reg false [
   ⟨(some 2), .mv, [(.c (.pointer none))], none⟩] [])
 (.seq
 (.reg false [
   ⟨(some 3), .mv, [(.t 0)], none⟩,
   ⟨(some 4), (.build [(.slice none 0 0), (.int .i64 0)] [(0, 1)]), [(.t 3)], none⟩,
   ⟨(some 5), (.box 2), [(.t 4)], none⟩,
   ⟨(some 2), .mv, [(.t 5)], none⟩] [])
 .ret))⟩

def cmade_Dice_Next : AFun := ⟨35, [(4, none)],
 (.seq
 (.reg false [
   ⟨(some 4), .mv, [(.c (.int .i64 0))], none⟩] [])
 (.seq
 (.seq
 (.reg true [
   ⟨(some 5), .mv, [(.t 0)], none⟩,
   ⟨(some 6), .nil, [(.t 5)], none⟩,
   ⟨(some 7), (.fad 1), [(.t 6)], none⟩,
   ⟨(some 8), (.ld false 1), [(.t 7)], none⟩,
   ⟨(some 9), .mv, [(.t 0)], none⟩,
   ⟨(some 10), .nil, [(.t 9)], none⟩,
   ⟨(some 11), (.fad 0), [(.t 10)], none⟩,
   ⟨(some 12), (.ld false 1), [(.t 11)], none⟩,
   ⟨(some 13), .len, [(.t 12)], none⟩,
   ⟨(some 14), (.bin .geq), [(.t 8), (.t 13)], none⟩] [[], [0], [1], [2], [], [4], [5], [6], [7], [3, 8]])
 (.cond (.t 14)
  (.seq
  (.reg false [
    ⟨(some 4), .mv, [(.c (.int .i64 0))], none⟩] [])
  .ret)
  .skip))
 (.seq
 (.reg false [
   ⟨(some 15), .mv, [(.t 0)], none⟩,
   ⟨(some 16), .nil, [(.t 15)], none⟩,
   ⟨(some 17), (.fad 1), [(.t 16)], none⟩,
   ⟨(some 18), (.ld false 1), [(.t 17)], none⟩,
   ⟨(some 19), (.bin .add), [(.t 18), (.c (.int .i64 1))], none⟩,
   ⟨(some 20), .nil, [(.t 15)], none⟩,
   ⟨(some 21), (.fad 1), [(.t 20)], none⟩,
   ⟨none, (.st 1), [(.t 21), (.t 19)], none⟩] [])
 (.seq
 (.reg true [
   ⟨(some 22), .mv, [(.t 0)], none⟩,
   ⟨(some 23), .nil, [(.t 22)], none⟩,
   ⟨(some 24), (.fad 0), [(.t 23)], none⟩,
   ⟨(some 25), (.ld false 1), [(.t 24)], none⟩,
   ⟨(some 26), .mv, [(.t 0)], none⟩,
   ⟨(some 27), .nil, [(.t 26)], none⟩,
   ⟨(some 28), (.fad 1), [(.t 27)], none⟩,
   ⟨(some 29), (.ld false 1), [(.t 28)], none⟩,
   ⟨(some 30), (.bin .sub), [(.t 29), (.c (.int .i64 1))], none⟩,
   ⟨(some 31), (.iad 1), [(.t 25), (.t 30)], none⟩,
   ⟨(some 32), (.ld false 1), [(.t 31)], none⟩,
   ⟨(some 33), .mv, [(.t 1)], none⟩,
   ⟨(some 34), .call, [(.f nmade_Mod), (.t 32), (.t 33)], none⟩,
   ⟨(some 4), .mv, [(.t 34)], none⟩] [[], [0], [1], [2], [], [4], [5], [6], [7], [3, 8], [9], [], [10, 11], [12, 12, 0, 1, 2, 3, 4, 5, 6, 7, 8, 9, 10, 11, 12]])
 .ret))))⟩

def cmade_Dice_Of : AFun := ⟨12, [(4, none)],
 (.seq
 (.reg false [
   ⟨(some 4), .mv, [(.c (.int .i64 0))], none⟩] [])
 (.seq
 (.reg false [
   ⟨(some 5), .mv, [(.t 1)], none⟩,
   ⟨(some 6), .mv, [(.t 0)], none⟩,
   ⟨(some 7), .mv, [(.t 1)], none⟩,
   ⟨(some 8), .len, [(.t 7)], none⟩,
   ⟨(some 9), .call, [(.f nmade_Dice_Next), (.t 6), (.t 8)], none⟩,
   ⟨(some 10), (.iad 1), [(.t 5), (.t 9)], none⟩,
   ⟨(some 11), (.ld false 1), [(.t 10)], none⟩,
   ⟨(some 4), .mv, [(.t 11)], none⟩] [])
 .ret))⟩

def cmade_Dice_One : AFun := ⟨11, [(4, none)],
 (.seq
 (.reg false [
   ⟨(some 4), .mv, [(.c (.bool false))], none⟩] [])
 (.seq
 (.reg false [
   ⟨(some 5), .mv, [(.t 0)], none⟩,
   ⟨(some 6), .mv, [(.t 1)], none⟩,
   ⟨(some 7), .call, [(.f nmade_Dice_Next), (.t 5), (.t 6)], none⟩,
   ⟨(some 8), .mv, [(.t 1)], none⟩,
   ⟨(some 9), (.bin .sub), [(.t 8), (.c (.int .i64 1))], none⟩,
   ⟨(some 10), (.bin .eql), [(.t 7), (.t 9)], none⟩,
   ⟨(some 4), .mv, [(.t 10)], none⟩] [])
 .ret))⟩

def cmade_Mod : AFun := ⟨16, [(4, none)],
 (.seq
 (.reg false [
   ⟨(some 4), .mv, [(.c (.int .i64 0))], none⟩] [])
 (.seq
 (.seq
 (.reg false [
   ⟨(some 5), .mv, [(.t 1)], none⟩,
   ⟨(some 6), (.bin .lss), [(.t 5), (.c (.int .i64 1))], none⟩] [])
 (.cond (.t 6)
  (.seq
  (.reg false [
    ⟨(some 4), .mv, [(.c (.int .i64 0))], none⟩] [])
  .ret)
  .skip))
 (.seq
 (.reg false [
   ⟨(some 7), .mv, [(.t 0)], none⟩,
   ⟨(some 8), .mv, [(.t 1)], none⟩,
   ⟨(some 9), (.bin .rem), [(.t 7), (.t 8)], none⟩,
   ⟨(some 0), .mv, [(.t 9)], none⟩] [])
 (.seq
 (.seq
 (.reg false [
   ⟨(some 10), .mv, [(.t 0)], none⟩,
   ⟨(some 11), (.bin .lss), [(.t 10), (.c (.int .i64 0))], none⟩] [])
 (.cond (.t 11)
  (.reg false [
    ⟨(some 12), .mv, [(.t 0)], none⟩,
    ⟨(some 13), .mv, [(.t 1)], none⟩,
    ⟨(some 14), (.bin .add), [(.t 12), (.t 13)], none⟩,
    ⟨(some 0), .mv, [(.t 14)], none⟩] [])
  .skip))
 (.seq
 (.reg false [
   ⟨(some 15), .mv, [(.t 0)], none⟩,
   ⟨(some 4), .mv, [(.t 15)], none⟩] [])
 .ret)))))⟩

def cmade_Dice_Graph : AFun := ⟨53, [(2, some (true, 3))],
 (.seq
 (.reg false [
   ⟨(some 2), (.alloc [(.int .i64 0), (.slice none 0 0), (.slice none 0 0)]), [], none⟩] [])
 (.seq
 (.reg false [
   ⟨(some 7), .mv, [(.t 0)], none⟩,
   ⟨(some 8), .call, [(.f nmade_Dice_Next), (.t 7), (.c (.int .i64 8))], none⟩,
   ⟨(some 9), (.bin .add), [(.c (.int .i64 2)), (.t 8)], none⟩,
   ⟨(some 10), (.build [(.int .i64 0), (.slice none 0 0), (.slice none 0 0)] [(0, 1)]), [(.t 9)], none⟩,
   ⟨(some 3), (.alloc [(.int .i64 0), (.slice none 0 0), (.slice none 0 0)]), [], none⟩,
   ⟨none, (.st 3), [(.t 3), (.t 10)], none⟩] [])
 (.seq
 (.seq
 (.reg false [
   ⟨(some 11), .mv, [(.t 0)], none⟩,
   ⟨(some 12), .nil, [(.t 11)], none⟩,
   ⟨(some 13), (.fad 0), [(.t 12)], none⟩,
   ⟨(some 14), (.ld false 1), [(.t 13)], none⟩,
   ⟨(some 15), .len, [(.t 14)], none⟩,
   ⟨(some 16), (.bin .eql), [(.t 15), (.c (.int .i64 0))], none⟩] [])
 (.cond (.t 16)
  (.reg false [
    ⟨(some 17), (.fad 0), [(.t 3)], none⟩,
    ⟨none, (.st 1), [(.t 17), (.c (.int .i64 4))], none⟩] [])
  .skip))
 (.seq
 (.seq
 (.reg false [
   ⟨(some 18), .mv, [(.t 0)], none⟩,
   ⟨(some 19), .call, [(.f nmade_Dice_One), (.t 18), (.c (.int .i64 8))], none⟩] [])
 (.cond (.t 19)
  (.reg false [
    ⟨(some 20), .mv, [(.t 0)], none⟩,
    ⟨(some 21), (.fad 0), [(.t 3)], none⟩,
    ⟨(some 22), (.ld false 1), [(.t 21)], none⟩,
    ⟨(some 23), .call, [(.f nmade_Dice_Next), (.t 20), (.t 22)], none⟩,
    ⟨(some 24), (.bsl 1 1 [(.int .i64 0)] [0]), [(.t 23)], none⟩,
    ⟨(some 25), (.fad 2), [(.t 3)], none⟩,
    ⟨none, (.st 1), [(.t 25), (.t 24)], none⟩] [])
  .skip))
 (.seq
 (.seq
 (.reg false [
   ⟨(some 26), .mv, [(.t 0)], none⟩,
   ⟨(some 27), .call, [(.f nmade_Dice_Next), (.t 26), (.c (.int .i64 23))], none⟩,
   ⟨(some 4), .mv, [(.t 27)], none⟩] [])
 (.block 0
 (.loop
 (.seq
 (.seq
 (.reg false [
   ⟨(some 28), .mv, [(.t 4)], none⟩,
   ⟨(some 29), (.bin .gtr), [(.t 28), (.c (.int .i64 0))], none⟩] [])
 (.cond (.t 29)
  .skip
  (.exit 0)))
 (.seq
 (.block 1
 (.seq
 (.reg true [
   ⟨(some 33), (.ld true 3), [(.t 3)], none⟩,
   ⟨(some 34), .mv, [(.t 0)], none⟩,
   ⟨(some 35), (.fad 0), [(.t 3)], none⟩,
   ⟨(some 36), (.ld false 1), [(.t 35)], none⟩,
   ⟨(some 37), .call, [(.f nmade_Dice_Next), (.t 34), (.t 36)], none⟩,
   ⟨(some 38), .mv, [(.t 0)], none⟩,
   ⟨(some 39), (.fad 0), [(.t 3)], none⟩,
   ⟨(some 40), (.ld false 1), [(.t 39)], none⟩,
   ⟨(some 41), .call, [(.f nmade_Dice_Next), (.t 38), (.t 40)], none⟩,
   ⟨(some 42), .mv, [(.t 0)], none⟩,
   ⟨(some 43), .call, [(.f nmade_Dice_Next), (.t 42), (.c (.int .i64 3))], none⟩,
   ⟨(some 44), (.bin .add), [(.c (.int .i64 1)), (.t 43)], none⟩,
   ⟨(some 45), (.build [(.int .i64 0), (.int .i64 0), (.int .i64 0)] [(0, 1), (1, 1), (2, 1)]), [(.t 37), (.t 41), (.t 44)], none⟩,
   ⟨(some 46), .call, [(.f nref11_With), (.t 33), (.t 45)], none⟩,
   ⟨(some 32), .mv, [(.t 46)], none⟩,
   ⟨(some 47), (.ext 0), [(.t 32)], none⟩,
   ⟨(some 48), (.ext 1), [(.t 32)], none⟩,
   ⟨(some 5), (.alloc [(.int .i64 0), (.slice none 0 0), (.slice none 0 0)]), [], none⟩,
   ⟨none, (.st 3), [(.t 5), (.t 47)], none⟩,
   ⟨(some 6), .mv, [(.t 48)], none⟩] [[], [], [], [2], [1, 3], [], [], [6], [5, 7, 4], [], [9, 8], [10], [4, 8, 11], [0, 12, 10], [13], [14], [14], [], [17, 15, 13, 0, 1, 2, 3, 4, 5, 6, 7, 8, 9, 10, 11, 12, 13, 14, 15, 17], [16, 18, 0, 1, 2, 3, 4, 5, 6, 7, 8, 9, 10, 11, 12, 13, 14, 15, 16, 17, 18]])
 (.seq
 (.reg false [
   ⟨(some 49), .mv, [(.t 6)], none⟩,
   ⟨(some 50), (.bin .eql), [(.t 49), (.c (.int .i64 0))], none⟩] [])
 (.cond (.t 50)
  (.reg false [
    ⟨(some 51), (.ld true 3), [(.t 5)], none⟩,
    ⟨none, (.st 3), [(.t 3), (.t 51)], none⟩] [])
  .skip))))
 (.reg false [
   ⟨(some 30), .mv, [(.t 4)], none⟩,
   ⟨(some 31), (.bin .sub), [(.t 30), (.c (.int .i64 1))], none⟩,
   ⟨(some 4), .mv, [(.t 31)], none⟩] []))))))
 (.seq
 (.reg false [
   ⟨(some 52), (.ld true 3), [(.t 3)], none⟩,
   ⟨none, (.st 3), [(.t 2), (.t 52)], none⟩] [])
 .ret))))))⟩

def cref11_Out : AFun := ⟨32, [(4, none)],
 (.seq
 (.reg false [
   ⟨(some 2), (.box 3), [(.t 0)], none⟩,
   ⟨(some 4), .mv, [(.c (.slice none 0 0))], none⟩] [])
 (.seq
 (.reg false [
   ⟨(some 5), .mv, [(.c (.slice none 0 0))], none⟩] [])
 (.seq
 (.seq
 (.reg false [
   ⟨(some 6), .mv, [(.c (.int .i64 0))], none⟩] [])
 (.block 0
 (.loop
 (.seq
 (.seq
 (.reg false [
   ⟨(some 7), .mv, [(.t 6)], none⟩,
   ⟨(some 8), (.fad 1), [(.t 2)], none⟩,
   ⟨(some 9), (.ld false 1), [(.t 8)], none⟩,
   ⟨(some 10), .len, [(.t 9)], none⟩,
   ⟨(some 11), (.bin .lss), [(.t 7), (.t 10)], none⟩] [])
 (.cond (.t 11)
  .skip
  (.exit 0)))
 (.seq
 (.block 1
 (.seq
 (.reg false [
   ⟨(some 14), (.fad 1), [(.t 2)], none⟩,
   ⟨(some 15), (.ld false 1), [(.t 14)], none⟩,
   ⟨(some 16), .mv, [(.t 6)], none⟩,
   ⟨(some 17), (.iad 3), [(.t 15), (.t 16)], none⟩,
   ⟨(some 18), (.fad 0), [(.t 17)], none⟩,
   ⟨(some 19), (.ld false 1), [(.t 18)], none⟩,
   ⟨(some 20), .mv, [(.t 1)], none⟩,
   ⟨(some 21), (.bin .eql), [(.t 19), (.t 20)], none⟩] [])
 (.cond (.t 21)
  (.reg false [
    ⟨(some 22), .mv, [(.t 5)], none⟩,
    ⟨(some 23), (.fad 1), [(.t 2)], none⟩,
    ⟨(some 24), (.ld false 1), [(.t 23)], none⟩,
    ⟨(some 25), .mv, [(.t 6)], none⟩,
    ⟨(some 26), (.iad 3), [(.t 24), (.t 25)], none⟩,
    ⟨(some 27), (.fad 1), [(.t 26)], none⟩,
    ⟨(some 28), (.ld false 1), [(.t 27)], none⟩,
    ⟨(some 29), (.bsl 1 1 [(.int .i64 0)] [0]), [(.t 28)], none⟩,
    ⟨(some 30), (.app 1 8), [(.t 22), (.t 29)], none⟩,
    ⟨(some 5), .mv, [(.t 30)], none⟩] [])
  .skip)))
 (.reg false [
   ⟨(some 12), .mv, [(.t 6)], none⟩,
   ⟨(some 13), (.bin .add), [(.t 12), (.c (.int .i64 1))], none⟩,
   ⟨(some 6), .mv, [(.t 13)], none⟩] []))))))
 (.seq
 (.reg false [
   ⟨(some 31), .mv, [(.t 5)], none⟩,
   ⟨(some 4), .mv, [(.t 31)], none⟩] [])
 .ret))))⟩

def cref11_In : AFun := ⟨32, [(4, none)],
 (.seq
 (.reg false [
   ⟨(some 2), (.box 3), [(.t 0)], none⟩,
   ⟨(some 4), .mv, [(.c (.slice none 0 0))], none⟩] [])
 (.seq
 (.reg false [
   ⟨(some 5), .mv, [(.c (.slice none 0 0))], none⟩] [])
 (.seq
 (.seq
 (.reg false [
   ⟨(some 6), .mv, [(.c (.int .i64 0))], none⟩] [])
 (.block 0
 (.loop
 (.seq
 (.seq
 (.reg false [
   ⟨(some 7), .mv, [(.t 6)], none⟩,
   ⟨(some 8), (.fad 1), [(.t 2)], none⟩,
   ⟨(some 9), (.ld false 1), [(.t 8)], none⟩,
   ⟨(some 10), .len, [(.t 9)], none⟩,
   ⟨(some 11), (.bin .lss), [(.t 7), (.t 10)], none⟩] [])
 (.cond (.t 11)
  .skip
  (.exit 0)))
 (.seq
 (.block 1
 (.seq
 (.reg false [
   ⟨(some 14), (.fad 1), [(.t 2)], none⟩,
   ⟨(some 15), (.ld false 1), [(.t 14)], none⟩,
   ⟨(some 16), .mv, [(.t 6)], none⟩,
   ⟨(some 17), (.iad 3), [(.t 15), (.t 16)], none⟩,
   ⟨(some 18), (.fad 1), [(.t 17)], none⟩,
   ⟨(some 19), (.ld false 1), [(.t 18)], none⟩,
   ⟨(some 20), .mv, [(.t 1)], none⟩,
   ⟨(some 21), (.bin .eql), [(.t 19), (.t 20)], none⟩] [])
 (.cond (.t 21)
  (.reg false [
    ⟨(some 22), .mv, [(.t 5)], none⟩,
    ⟨(some 23), (.fad 1), [(.t 2)], none⟩,
    ⟨(some 24), (.ld false 1), [(.t 23)], none⟩,
    ⟨(some 25), .mv, [(.t 6)], none⟩,
    ⟨(some 26), (.iad 3), [(.t 24), (.t 25)], none⟩,
    ⟨(some 27), (.fad 0), [(.t 26)], none⟩,
    ⟨(some 28), (.ld false 1), [(.t 27)], none⟩,
    ⟨(some 29), (.bsl 1 1 [(.int .i64 0)] [0]), [(.t 28)], none⟩,
    ⟨(some 30), (.app 1 8), [(.t 22), (.t 29)], none⟩,
    ⟨(some 5), .mv, [(.t 30)], none⟩] [])
  .skip)))
 (.reg false [
   ⟨(some 12), .mv, [(.t 6)], none⟩,
   ⟨(some 13), (.bin .add), [(.t 12), (.c (.int .i64 1))], none⟩,
   ⟨(some 6), .mv, [(.t 13)], none⟩] []))))))
 (.seq
 (.reg false [
   ⟨(some 31), .mv, [(.t 5)], none⟩,
   ⟨(some 4), .mv, [(.t 31)], none⟩] [])
 .ret))))⟩

end Go.Proofs.Ytnphfkceoklkkaa
