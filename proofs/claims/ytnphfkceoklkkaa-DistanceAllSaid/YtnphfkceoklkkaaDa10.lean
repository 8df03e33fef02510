/- Texts of this claim, merged. -/
import Derived.Test.YtnphfkceoklkkaaDa1
import Derived.Test.YtnphfkceoklkkaaDa6
set_option linter.unusedSimpArgs false
set_option linter.unusedVariables false
set_option linter.unusedSectionVars false
/- The functions in the small code. Made by program out of the translation. -/
namespace Go.Proofs.Ytnphfkceoklkkaa
open Go
set_option maxRecDepth 100000
def claw11_GraphUndone : AFun := ⟨124, [(2, none)],
 (.seq
 (.reg false [
   ⟨(some 2), .mv, [(.c (.bool false))], none⟩] [])
 (.seq
 (.seq
 (.reg false [
   ⟨(some 15), .mv, [(.t 0)], none⟩,
   ⟨(some 16), .call, [(.f nmade_Light), (.t 15)], none⟩,
   ⟨(some 17), (.un .not), [(.t 16)], none⟩] [])
 (.cond (.t 17)
  (.seq
  (.reg false [
    ⟨(some 18), .call, [(.f nlaw11_awake)], none⟩,
    ⟨(some 2), .mv, [(.t 18)], none⟩] [])
  .ret)
  .skip))
 (.seq
 (.reg false [
   ⟨(some 19), .mv, [(.t 0)], none⟩,
   ⟨(some 20), .call, [(.f nmade_Roll), (.t 19)], none⟩,
   ⟨(some 3), .mv, [(.t 20)], none⟩] [])
 (.seq
 (.reg false [
   ⟨(some 21), .mv, [(.t 3)], none⟩,
   ⟨(some 22), .call, [(.f nmade_Dice_Graph), (.t 21)], none⟩,
   ⟨(some 4), (.alloc [(.int .i64 0), (.slice none 0 0), (.slice none 0 0)]), [], none⟩,
   ⟨none, (.st 3), [(.t 4), (.t 22)], none⟩] [])
 (.seq
 (.reg true [
   ⟨(some 23), .mv, [(.t 3)], none⟩,
   ⟨(some 24), (.fad 0), [(.t 4)], none⟩,
   ⟨(some 25), (.ld false 1), [(.t 24)], none⟩,
   ⟨(some 26), .call, [(.f nmade_Dice_Next), (.t 23), (.t 25)], none⟩,
   ⟨(some 27), .mv, [(.t 3)], none⟩,
   ⟨(some 28), (.fad 0), [(.t 4)], none⟩,
   ⟨(some 29), (.ld false 1), [(.t 28)], none⟩,
   ⟨(some 30), .call, [(.f nmade_Dice_Next), (.t 27), (.t 29)], none⟩,
   ⟨(some 31), .mv, [(.t 3)], none⟩,
   ⟨(some 32), .call, [(.f nmade_Dice_Next), (.t 31), (.c (.int .i64 3))], none⟩,
   ⟨(some 33), (.bin .add), [(.c (.int .i64 1)), (.t 32)], none⟩,
   ⟨(some 34), (.build [(.int .i64 0), (.int .i64 0), (.int .i64 0)] [(0, 1), (1, 1), (2, 1)]), [(.t 26), (.t 30), (.t 33)], none⟩,
   ⟨(some 5), (.alloc [(.int .i64 0), (.int .i64 0), (.int .i64 0)]), [], none⟩,
   ⟨none, (.st 3), [(.t 5), (.t 34)], none⟩] [[], [], [1], [0, 2], [], [], [5], [4, 6, 3], [], [8, 7], [9], [3, 7, 10], [], [12, 11, 9, 0, 1, 2, 3, 4, 5, 6, 7, 8, 9, 10, 11, 12]])
 (.seq
 (.seq
 (.reg false [
   ⟨(some 36), (.ld true 3), [(.t 4)], none⟩,
   ⟨(some 37), (.ld true 3), [(.t 5)], none⟩,
   ⟨(some 38), .call, [(.f ngraph_With), (.t 36), (.t 37)], none⟩,
   ⟨(some 35), .mv, [(.t 38)], none⟩,
   ⟨(some 39), (.ext 0), [(.t 35)], none⟩,
   ⟨(some 40), (.ext 1), [(.t 35)], none⟩,
   ⟨(some 6), (.alloc [(.int .i64 0), (.slice none 0 0), (.slice none 0 0)]), [], none⟩,
   ⟨none, (.st 3), [(.t 6), (.t 39)], none⟩,
   ⟨(some 7), .mv, [(.t 40)], none⟩] [])
 (.seq
 (.reg false [
   ⟨(some 41), .mv, [(.t 7)], none⟩,
   ⟨(some 42), (.bin .eql), [(.t 41), (.c (.int .i64 0))], none⟩] [])
 (.cond (.t 42)
  (.seq
  (.reg false [
    ⟨(some 44), (.ld true 3), [(.t 6)], none⟩,
    ⟨(some 45), (.fad 0), [(.t 5)], none⟩,
    ⟨(some 46), (.ld false 1), [(.t 45)], none⟩,
    ⟨(some 47), (.fad 1), [(.t 5)], none⟩,
    ⟨(some 48), (.ld false 1), [(.t 47)], none⟩,
    ⟨(some 49), .call, [(.f ngraph_Without), (.t 44), (.t 46), (.t 48)], none⟩,
    ⟨(some 43), .mv, [(.t 49)], none⟩,
    ⟨(some 50), (.ext 0), [(.t 43)], none⟩,
    ⟨(some 51), (.ext 1), [(.t 43)], none⟩,
    ⟨(some 8), (.alloc [(.int .i64 0), (.slice none 0 0), (.slice none 0 0)]), [], none⟩,
    ⟨none, (.st 3), [(.t 8), (.t 50)], none⟩,
    ⟨(some 9), .mv, [(.t 51)], none⟩] [])
  (.seq
  (.reg false [
    ⟨(some 52), .mv, [(.t 9)], none⟩,
    ⟨(some 53), (.bin .neq), [(.t 52), (.c (.int .i64 0))], none⟩,
    ⟨(some 54), .mv, [(.t 53)], none⟩,
    ⟨(some 55), (.ld true 3), [(.t 8)], (some (54, false))⟩,
    ⟨(some 56), (.ld true 3), [(.t 4)], (some (54, false))⟩,
    ⟨(some 57), .call, [(.f nref11_Same), (.t 55), (.t 56)], (some (54, false))⟩,
    ⟨(some 58), (.un .not), [(.t 57)], (some (54, false))⟩,
    ⟨(some 59), .pick, [(.t 54), (.c (.bool true)), (.t 58)], none⟩,
    ⟨(some 60), .mv, [(.t 59)], none⟩,
    ⟨(some 61), (.fad 1), [(.t 6)], (some (60, false))⟩,
    ⟨(some 62), (.ld false 1), [(.t 61)], (some (60, false))⟩,
    ⟨(some 63), .len, [(.t 62)], (some (60, false))⟩,
    ⟨(some 64), (.fad 1), [(.t 4)], (some (60, false))⟩,
    ⟨(some 65), (.ld false 1), [(.t 64)], (some (60, false))⟩,
    ⟨(some 66), .len, [(.t 65)], (some (60, false))⟩,
    ⟨(some 67), (.bin .add), [(.t 66), (.c (.int .i64 1))], (some (60, false))⟩,
    ⟨(some 68), (.bin .neq), [(.t 63), (.t 67)], (some (60, false))⟩,
    ⟨(some 69), .pick, [(.t 60), (.c (.bool true)), (.t 68)], none⟩,
    ⟨(some 70), .mv, [(.t 69)], none⟩,
    ⟨(some 71), (.ld true 3), [(.t 6)], (some (70, false))⟩,
    ⟨(some 72), .call, [(.f ngraph_Check), (.t 71)], (some (70, false))⟩,
    ⟨(some 73), (.bin .neq), [(.t 72), (.c (.int .i64 0))], (some (70, false))⟩,
    ⟨(some 74), .pick, [(.t 70), (.c (.bool true)), (.t 73)], none⟩] [])
  (.cond (.t 74)
   (.seq
   (.reg false [
     ⟨(some 2), .mv, [(.c (.bool false))], none⟩] [])
   .ret)
   .skip)))
  .skip)))
 (.seq
 (.reg false [
   ⟨(some 10), .mv, [(.c (.int .i64 0))], none⟩,
   ⟨(some 11), .mv, [(.c (.int .i64 0))], none⟩] [])
 (.seq
 (.seq
 (.reg false [
   ⟨(some 12), .mv, [(.c (.int .i64 0))], none⟩] [])
 (.block 0
 (.loop
 (.seq
 (.seq
 (.reg false [
   ⟨(some 75), .mv, [(.t 12)], none⟩,
   ⟨(some 76), (.fad 0), [(.t 4)], none⟩,
   ⟨(some 77), (.ld false 1), [(.t 76)], none⟩,
   ⟨(some 78), (.bin .lss), [(.t 75), (.t 77)], none⟩] [])
 (.cond (.t 78)
  .skip
  (.exit 0)))
 (.seq
 (.block 1
 (.seq
 (.reg false [
   ⟨(some 81), (.ld true 3), [(.t 4)], none⟩,
   ⟨(some 82), .mv, [(.t 12)], none⟩,
   ⟨(some 83), .call, [(.f ngraph_Out), (.t 81), (.t 82)], none⟩,
   ⟨(some 13), .mv, [(.t 83)], none⟩] [])
 (.seq
 (.reg false [
   ⟨(some 84), .mv, [(.t 10)], none⟩,
   ⟨(some 85), .mv, [(.t 13)], none⟩,
   ⟨(some 86), .len, [(.t 85)], none⟩,
   ⟨(some 87), (.bin .add), [(.t 84), (.t 86)], none⟩,
   ⟨(some 88), .mv, [(.t 11)], none⟩,
   ⟨(some 89), (.ld true 3), [(.t 4)], none⟩,
   ⟨(some 90), .mv, [(.t 12)], none⟩,
   ⟨(some 91), .call, [(.f ngraph_In), (.t 89), (.t 90)], none⟩,
   ⟨(some 92), .len, [(.t 91)], none⟩,
   ⟨(some 93), (.bin .add), [(.t 88), (.t 92)], none⟩,
   ⟨(some 10), .mv, [(.t 87)], none⟩,
   ⟨(some 11), .mv, [(.t 93)], none⟩] [])
 (.seq
 (.reg false [
   ⟨(some 14), .mv, [(.c (.int .i64 0))], none⟩] [])
 (.block 2
 (.loop
 (.seq
 (.seq
 (.reg false [
   ⟨(some 94), .mv, [(.t 14)], none⟩,
   ⟨(some 95), .mv, [(.t 13)], none⟩,
   ⟨(some 96), .len, [(.t 95)], none⟩,
   ⟨(some 97), (.bin .lss), [(.t 94), (.t 96)], none⟩] [])
 (.cond (.t 97)
  .skip
  (.exit 2)))
 (.seq
 (.block 3
 (.seq
 (.reg true [
   ⟨(some 100), (.ld true 3), [(.t 4)], none⟩,
   ⟨(some 101), .mv, [(.t 13)], none⟩,
   ⟨(some 102), .mv, [(.t 14)], none⟩,
   ⟨(some 103), (.iad 1), [(.t 101), (.t 102)], none⟩,
   ⟨(some 104), (.ld false 1), [(.t 103)], none⟩,
   ⟨(some 105), .call, [(.f ngraph_In), (.t 100), (.t 104)], none⟩,
   ⟨(some 106), .mv, [(.t 12)], none⟩,
   ⟨(some 107), .call, [(.f nref11_Has), (.t 105), (.t 106)], none⟩,
   ⟨(some 108), (.un .not), [(.t 107)], none⟩] [[], [], [], [1, 2], [3], [0, 4], [], [5, 6, 5], [7]])
 (.cond (.t 108)
  (.seq
  (.reg false [
    ⟨(some 2), .mv, [(.c (.bool false))], none⟩] [])
  .ret)
  .skip)))
 (.reg false [
   ⟨(some 98), .mv, [(.t 14)], none⟩,
   ⟨(some 99), (.bin .add), [(.t 98), (.c (.int .i64 1))], none⟩,
   ⟨(some 14), .mv, [(.t 99)], none⟩] [])))))))))
 (.reg false [
   ⟨(some 79), .mv, [(.t 12)], none⟩,
   ⟨(some 80), (.bin .add), [(.t 79), (.c (.int .i64 1))], none⟩,
   ⟨(some 12), .mv, [(.t 80)], none⟩] []))))))
 (.seq
 (.reg false [
   ⟨(some 109), .call, [(.f nlaw11_awake)], none⟩,
   ⟨(some 110), .mv, [(.t 109)], none⟩,
   ⟨(some 111), .mv, [(.t 10)], (some (110, true))⟩,
   ⟨(some 112), (.fad 1), [(.t 4)], (some (110, true))⟩,
   ⟨(some 113), (.ld false 1), [(.t 112)], (some (110, true))⟩,
   ⟨(some 114), .len, [(.t 113)], (some (110, true))⟩,
   ⟨(some 115), (.bin .eql), [(.t 111), (.t 114)], (some (110, true))⟩,
   ⟨(some 116), .pick, [(.t 110), (.t 115), (.c (.bool false))], none⟩,
   ⟨(some 117), .mv, [(.t 116)], none⟩,
   ⟨(some 118), .mv, [(.t 11)], (some (117, true))⟩,
   ⟨(some 119), (.fad 1), [(.t 4)], (some (117, true))⟩,
   ⟨(some 120), (.ld false 1), [(.t 119)], (some (117, true))⟩,
   ⟨(some 121), .len, [(.t 120)], (some (117, true))⟩,
   ⟨(some 122), (.bin .eql), [(.t 118), (.t 121)], (some (117, true))⟩,
   ⟨(some 123), .pick, [(.t 117), (.t 122), (.c (.bool false))], none⟩,
   ⟨(some 2), .mv, [(.t 123)], none⟩] [])
 .ret)))))))))⟩

def claw11_GraphMade : AFun := ⟨182, [(4, none)],
 (.seq
 (.reg false [
   ⟨(some 4), .mv, [(.c (.bool false))], none⟩] [])
 (.seq
 (.seq
 (.reg false [
   ⟨(some 15), .mv, [(.t 0)], none⟩,
   ⟨(some 16), .call, [(.f nmade_Light), (.t 15)], none⟩,
   ⟨(some 17), (.un .not), [(.t 16)], none⟩] [])
 (.cond (.t 17)
  (.seq
  (.reg false [
    ⟨(some 18), .call, [(.f nlaw11_awake)], none⟩,
    ⟨(some 4), .mv, [(.t 18)], none⟩] [])
  .ret)
  .skip))
 (.seq
 (.reg false [
   ⟨(some 19), .mv, [(.t 0)], none⟩,
   ⟨(some 20), .call, [(.f nmade_Roll), (.t 19)], none⟩,
   ⟨(some 5), .mv, [(.t 20)], none⟩] [])
 (.seq
 (.reg false [
   ⟨(some 21), .mv, [(.t 5)], none⟩,
   ⟨(some 22), .call, [(.f nmade_Dice_Graph), (.t 21)], none⟩,
   ⟨(some 6), (.alloc [(.int .i64 0), (.slice none 0 0), (.slice none 0 0)]), [], none⟩,
   ⟨none, (.st 3), [(.t 6), (.t 22)], none⟩] [])
 (.seq
 (.reg true [
   ⟨(some 23), .mv, [(.t 5)], none⟩,
   ⟨(some 24), (.fad 0), [(.t 6)], none⟩,
   ⟨(some 25), (.ld false 1), [(.t 24)], none⟩,
   ⟨(some 26), (.bin .add), [(.t 25), (.c (.int .i64 1))], none⟩,
   ⟨(some 27), .call, [(.f nmade_Dice_Next), (.t 23), (.t 26)], none⟩,
   ⟨(some 28), .mv, [(.t 5)], none⟩,
   ⟨(some 29), .call, [(.f nmade_Dice_Next), (.t 28), (.c (.int .i64 2))], none⟩,
   ⟨(some 30), (.bin .sub), [(.t 27), (.t 29)], none⟩,
   ⟨(some 31), .mv, [(.t 5)], none⟩,
   ⟨(some 32), (.fad 0), [(.t 6)], none⟩,
   ⟨(some 33), (.ld false 1), [(.t 32)], none⟩,
   ⟨(some 34), (.bin .add), [(.t 33), (.c (.int .i64 1))], none⟩,
   ⟨(some 35), .call, [(.f nmade_Dice_Next), (.t 31), (.t 34)], none⟩,
   ⟨(some 36), .mv, [(.t 5)], none⟩,
   ⟨(some 37), (.bsl 1 4 [(.int .i64 0)] [0, 1, 2, 3]), [(.c (.int .i64 1)), (.c (.int .i64 3)), (.c (.int .i64 0)), (.c (.int .i64 4))], none⟩,
   ⟨(some 38), .call, [(.f nmade_Dice_Of), (.t 36), (.t 37)], none⟩,
   ⟨(some 39), (.build [(.int .i64 0), (.int .i64 0), (.int .i64 0)] [(0, 1), (1, 1), (2, 1)]), [(.t 30), (.t 35), (.t 38)], none⟩,
   ⟨(some 7), (.alloc [(.int .i64 0), (.int .i64 0), (.int .i64 0)]), [], none⟩,
   ⟨none, (.st 3), [(.t 7), (.t 39)], none⟩] [[], [], [1], [2], [0, 3], [], [5, 4], [4, 6], [], [], [9], [10], [8, 11, 6], [], [], [13, 14, 12], [7, 12, 15], [], [17, 16, 15, 0, 1, 2, 3, 4, 5, 6, 7, 8, 9, 10, 11, 12, 13, 14, 15, 16, 17]])
 (.seq
 (.seq
 (.reg false [
   ⟨(some 8), .mv, [(.c (.int .i64 (-1)))], none⟩] [])
 (.block 0
 (.loop
 (.seq
 (.seq
 (.reg false [
   ⟨(some 40), .mv, [(.t 8)], none⟩,
   ⟨(some 41), (.fad 0), [(.t 6)], none⟩,
   ⟨(some 42), (.ld false 1), [(.t 41)], none⟩,
   ⟨(some 43), (.bin .leq), [(.t 40), (.t 42)], none⟩] [])
 (.cond (.t 43)
  .skip
  (.exit 0)))
 (.seq
 (.block 1
 (.seq
 (.reg true [
   ⟨(some 46), (.ld true 3), [(.t 6)], none⟩,
   ⟨(some 47), .mv, [(.t 8)], none⟩,
   ⟨(some 48), .call, [(.f ngraph_Out), (.t 46), (.t 47)], none⟩,
   ⟨(some 49), (.ld true 3), [(.t 6)], none⟩,
   ⟨(some 50), .mv, [(.t 8)], none⟩,
   ⟨(some 51), .call, [(.f nref11_Out), (.t 49), (.t 50)], none⟩,
   ⟨(some 52), .call, [(.f nref03_SameInts), (.t 48), (.t 51)], none⟩,
   ⟨(some 53), (.un .not), [(.t 52)], none⟩,
   ⟨(some 54), .mv, [(.t 53)], none⟩,
   ⟨(some 55), (.ld true 3), [(.t 6)], (some (54, false))⟩,
   ⟨(some 56), .mv, [(.t 8)], (some (54, false))⟩,
   ⟨(some 57), .call, [(.f ngraph_In), (.t 55), (.t 56)], (some (54, false))⟩,
   ⟨(some 58), (.ld true 3), [(.t 6)], (some (54, false))⟩,
   ⟨(some 59), .mv, [(.t 8)], (some (54, false))⟩,
   ⟨(some 60), .call, [(.f nref11_In), (.t 58), (.t 59)], (some (54, false))⟩,
   ⟨(some 61), .call, [(.f nref03_SameInts), (.t 57), (.t 60)], (some (54, false))⟩,
   ⟨(some 62), (.un .not), [(.t 61)], (some (54, false))⟩,
   ⟨(some 63), .pick, [(.t 54), (.c (.bool true)), (.t 62)], none⟩] [[], [], [0, 1], [], [], [3, 4, 2], [2, 5, 5], [6], [7, 6], [8], [8], [9, 10, 8, 8], [8], [8], [12, 13, 11, 8], [11, 14, 14, 8], [15, 8], [8, 16]])
 (.cond (.t 63)
  (.seq
  (.reg false [
    ⟨(some 4), .mv, [(.c (.bool false))], none⟩] [])
  .ret)
  .skip)))
 (.reg false [
   ⟨(some 44), .mv, [(.t 8)], none⟩,
   ⟨(some 45), (.bin .add), [(.t 44), (.c (.int .i64 1))], none⟩,
   ⟨(some 8), .mv, [(.t 45)], none⟩] []))))))
 (.seq
 (.seq
 (.reg false [
   ⟨(some 64), (.ld true 3), [(.t 6)], none⟩,
   ⟨(some 65), (.ld true 3), [(.t 7)], none⟩,
   ⟨(some 66), .call, [(.f nlaw11_agree), (.t 64), (.t 65)], none⟩,
   ⟨(some 67), (.un .not), [(.t 66)], none⟩] [])
 (.cond (.t 67)
  (.seq
  (.reg false [
    ⟨(some 4), .mv, [(.c (.bool false))], none⟩] [])
  .ret)
  .skip))
 (.seq
 (.seq
 (.reg false [
   ⟨(some 9), .mv, [(.c (.int .i64 0))], none⟩] [])
 (.block 2
 (.loop
 (.seq
 (.seq
 (.reg false [
   ⟨(some 68), .mv, [(.t 9)], none⟩,
   ⟨(some 69), (.bin .lss), [(.t 68), (.c (.int .i64 5))], none⟩] [])
 (.cond (.t 69)
  .skip
  (.exit 2)))
 (.seq
 (.block 3
 (.seq
 (.reg true [
   ⟨(some 72), (.ld true 3), [(.t 6)], none⟩,
   ⟨(some 73), .mv, [(.t 9)], none⟩,
   ⟨(some 74), .call, [(.f ngraph_Level), (.t 72), (.t 73)], none⟩,
   ⟨(some 75), (.ld true 3), [(.t 6)], none⟩,
   ⟨(some 76), .mv, [(.t 9)], none⟩,
   ⟨(some 77), .call, [(.f nref11_Level), (.t 75), (.t 76)], none⟩,
   ⟨(some 78), .call, [(.f nref11_Same), (.t 74), (.t 77)], none⟩,
   ⟨(some 79), (.un .not), [(.t 78)], none⟩] [[], [], [0, 1], [], [], [3, 4, 2], [2, 5, 5], [6]])
 (.cond (.t 79)
  (.seq
  (.reg false [
    ⟨(some 4), .mv, [(.c (.bool false))], none⟩] [])
  .ret)
  .skip)))
 (.reg false [
   ⟨(some 70), .mv, [(.t 9)], none⟩,
   ⟨(some 71), (.bin .add), [(.t 70), (.c (.int .i64 1))], none⟩,
   ⟨(some 9), .mv, [(.t 71)], none⟩] []))))))
 (.seq
 (.reg false [
   ⟨(some 80), (.ld true 3), [(.t 6)], none⟩,
   ⟨(some 81), .call, [(.f nref11_Copy), (.t 80)], none⟩,
   ⟨(some 10), (.alloc [(.int .i64 0), (.slice none 0 0), (.slice none 0 0)]), [], none⟩,
   ⟨none, (.st 3), [(.t 10), (.t 81)], none⟩] [])
 (.seq
 (.seq
 (.reg false [
   ⟨(some 82), .mv, [(.t 5)], none⟩,
   ⟨(some 83), .call, [(.f nmade_Dice_Next), (.t 82), (.c (.int .i64 6))], none⟩] [])
 (.block 4
 (.seq
 (.reg false [
   ⟨(some 103), (.bin .eql), [(.t 83), (.c (.int .i64 0))], none⟩,
   ⟨(some 102), .mv, [(.t 103)], none⟩] [])
 (.cond (.t 102)
  (.reg false [
    ⟨(some 104), .mv, [(.t 1)], none⟩,
    ⟨(some 105), .call, [(.f nmade_Mod), (.t 104), (.c (.int .i64 70))], none⟩,
    ⟨(some 106), (.bin .sub), [(.t 105), (.c (.int .i64 2))], none⟩,
    ⟨(some 107), (.fad 0), [(.t 10)], none⟩,
    ⟨none, (.st 1), [(.t 107), (.t 106)], none⟩] [])
  (.seq
  (.reg false [
    ⟨(some 109), (.bin .eql), [(.t 83), (.c (.int .i64 1))], none⟩,
    ⟨(some 108), .mv, [(.t 109)], none⟩] [])
  (.cond (.t 108)
   (.reg true [
     ⟨(some 110), (.fad 2), [(.t 10)], none⟩,
     ⟨(some 111), (.ld false 1), [(.t 110)], none⟩,
     ⟨(some 112), .mv, [(.t 5)], none⟩,
     ⟨(some 113), .call, [(.f nmade_Dice_Next), (.t 112), (.c (.int .i64 9))], none⟩,
     ⟨(some 114), (.bsl 1 1 [(.int .i64 0)] [0]), [(.t 113)], none⟩,
     ⟨(some 115), (.app 1 8), [(.t 111), (.t 114)], none⟩,
     ⟨(some 116), (.fad 2), [(.t 10)], none⟩,
     ⟨none, (.st 1), [(.t 116), (.t 115)], none⟩] [[], [0], [], [2], [3], [1, 4, 3], [0, 1, 2, 3, 4, 5], [6, 5, 5, 0, 1, 2, 3, 4, 5]])
   (.seq
   (.reg false [
     ⟨(some 118), (.bin .eql), [(.t 83), (.c (.int .i64 2))], none⟩,
     ⟨(some 117), .mv, [(.t 118)], none⟩] [])
   (.cond (.t 117)
    (.reg false [
      ⟨(some 119), (.fad 1), [(.t 10)], none⟩,
      ⟨(some 120), (.ld false 1), [(.t 119)], none⟩,
      ⟨(some 121), (.ld true 3), [(.t 7)], none⟩,
      ⟨(some 122), (.bsl 3 1 [(.int .i64 0), (.int .i64 0), (.int .i64 0)] [0]), [(.t 121)], none⟩,
      ⟨(some 123), (.app 3 24), [(.t 120), (.t 122)], none⟩,
      ⟨(some 124), (.fad 1), [(.t 10)], none⟩,
      ⟨none, (.st 1), [(.t 124), (.t 123)], none⟩] [])
    (.seq
    (.reg false [
      ⟨(some 126), (.bin .eql), [(.t 83), (.c (.int .i64 3))], none⟩,
      ⟨(some 125), .mv, [(.t 126)], none⟩] [])
    (.cond (.t 125)
     (.seq
     (.reg false [
       ⟨(some 127), (.fad 1), [(.t 10)], none⟩,
       ⟨(some 128), (.ld false 1), [(.t 127)], none⟩,
       ⟨(some 129), .len, [(.t 128)], none⟩,
       ⟨(some 130), (.bin .gtr), [(.t 129), (.c (.int .i64 0))], none⟩] [])
     (.cond (.t 130)
      (.reg false [
        ⟨(some 131), (.fad 1), [(.t 10)], none⟩,
        ⟨(some 132), (.ld false 1), [(.t 131)], none⟩,
        ⟨(some 133), .mv, [(.t 1)], none⟩,
        ⟨(some 134), (.iad 3), [(.t 132), (.c (.int .i64 0))], none⟩,
        ⟨(some 135), (.fad 2), [(.t 134)], none⟩,
        ⟨none, (.st 1), [(.t 135), (.t 133)], none⟩] [])
      .skip))
     (.seq
     (.reg false [
       ⟨(some 137), (.bin .eql), [(.t 83), (.c (.int .i64 4))], none⟩,
       ⟨(some 136), .mv, [(.t 137)], none⟩] [])
     (.cond (.t 136)
      (.seq
      (.reg false [
        ⟨(some 138), (.fad 0), [(.t 10)], none⟩,
        ⟨none, (.st 1), [(.t 138), (.c (.int .i64 64))], none⟩] [])
      (.seq
      (.reg false [
        ⟨(some 11), .mv, [(.c (.int .i64 0))], none⟩] [])
      (.block 5
      (.loop
      (.seq
      (.seq
      (.reg false [
        ⟨(some 139), .mv, [(.t 11)], none⟩,
        ⟨(some 140), (.bin .lss), [(.t 139), (.c (.int .i64 9))], none⟩] [])
      (.cond (.t 140)
       .skip
       (.exit 5)))
      (.seq
      (.block 6
      (.seq
      (.reg false [
        ⟨(some 12), .mv, [(.c (.int .i64 0))], none⟩] [])
      (.block 7
      (.loop
      (.seq
      (.seq
      (.reg true [
        ⟨(some 143), .mv, [(.t 12)], none⟩,
        ⟨(some 144), (.bin .lss), [(.t 143), (.c (.int .i64 64))], none⟩,
        ⟨(some 145), .mv, [(.t 144)], none⟩,
        ⟨(some 146), (.fad 1), [(.t 10)], (some (145, true))⟩,
        ⟨(some 147), (.ld false 1), [(.t 146)], (some (145, true))⟩,
        ⟨(some 148), .len, [(.t 147)], (some (145, true))⟩,
        ⟨(some 149), .mv, [(.t 5)], (some (145, true))⟩,
        ⟨(some 150), .call, [(.f nmade_Dice_Next), (.t 149), (.c (.int .i64 2))], (some (145, true))⟩,
        ⟨(some 151), (.bin .add), [(.c (.int .i64 500)), (.t 150)], (some (145, true))⟩,
        ⟨(some 152), (.bin .lss), [(.t 148), (.t 151)], (some (145, true))⟩,
        ⟨(some 153), .pick, [(.t 145), (.t 152), (.c (.bool false))], none⟩] [[], [0], [1], [2], [3, 2], [4, 2], [2], [6, 2, 2], [7, 2], [5, 8, 2], [2, 9]])
      (.cond (.t 153)
       .skip
       (.exit 7)))
      (.seq
      (.block 8
      (.seq
      (.reg false [
        ⟨(some 157), (.ld true 3), [(.t 10)], none⟩,
        ⟨(some 158), .mv, [(.t 11)], none⟩,
        ⟨(some 159), .mv, [(.t 12)], none⟩,
        ⟨(some 160), (.build [(.int .i64 0), (.int .i64 0), (.int .i64 0)] [(0, 1), (1, 1), (2, 1)]), [(.t 158), (.t 159), (.c (.int .i64 1))], none⟩,
        ⟨(some 161), .call, [(.f nref11_With), (.t 157), (.t 160)], none⟩,
        ⟨(some 156), .mv, [(.t 161)], none⟩,
        ⟨(some 162), (.ext 0), [(.t 156)], none⟩,
        ⟨(some 163), (.ext 1), [(.t 156)], none⟩,
        ⟨(some 13), (.alloc [(.int .i64 0), (.slice none 0 0), (.slice none 0 0)]), [], none⟩,
        ⟨none, (.st 3), [(.t 13), (.t 162)], none⟩,
        ⟨(some 14), .mv, [(.t 163)], none⟩] [])
      (.seq
      (.reg false [
        ⟨(some 164), .mv, [(.t 14)], none⟩,
        ⟨(some 165), (.bin .eql), [(.t 164), (.c (.int .i64 0))], none⟩] [])
      (.cond (.t 165)
       (.reg false [
         ⟨(some 166), (.ld true 3), [(.t 13)], none⟩,
         ⟨none, (.st 3), [(.t 10), (.t 166)], none⟩] [])
       .skip))))
      (.reg false [
        ⟨(some 154), .mv, [(.t 12)], none⟩,
        ⟨(some 155), (.bin .add), [(.t 154), (.c (.int .i64 1))], none⟩,
        ⟨(some 12), .mv, [(.t 155)], none⟩] [])))))))
      (.reg false [
        ⟨(some 141), .mv, [(.t 11)], none⟩,
        ⟨(some 142), (.bin .add), [(.t 141), (.c (.int .i64 1))], none⟩,
        ⟨(some 11), .mv, [(.t 142)], none⟩] [])))))))
      (.seq
      (.reg false [
        ⟨(some 84), (.fad 1), [(.t 10)], none⟩,
        ⟨(some 85), (.ld false 1), [(.t 84)], none⟩,
        ⟨(some 86), .len, [(.t 85)], none⟩,
        ⟨(some 87), (.bin .gtr), [(.t 86), (.c (.int .i64 1))], none⟩] [])
      (.cond (.t 87)
       (.reg true [
         ⟨(some 88), (.fad 1), [(.t 10)], none⟩,
         ⟨(some 89), (.ld false 1), [(.t 88)], none⟩,
         ⟨(some 90), (.fad 1), [(.t 10)], none⟩,
         ⟨(some 91), (.ld false 1), [(.t 90)], none⟩,
         ⟨(some 92), (.fad 1), [(.t 10)], none⟩,
         ⟨(some 93), (.ld false 1), [(.t 92)], none⟩,
         ⟨(some 94), (.iad 3), [(.t 93), (.c (.int .i64 1))], none⟩,
         ⟨(some 95), (.ld true 3), [(.t 94)], none⟩,
         ⟨(some 96), (.fad 1), [(.t 10)], none⟩,
         ⟨(some 97), (.ld false 1), [(.t 96)], none⟩,
         ⟨(some 98), (.iad 3), [(.t 97), (.c (.int .i64 0))], none⟩,
         ⟨(some 99), (.ld true 3), [(.t 98)], none⟩,
         ⟨(some 100), (.iad 3), [(.t 89), (.c (.int .i64 0))], none⟩,
         ⟨none, (.st 3), [(.t 100), (.t 95)], none⟩,
         ⟨(some 101), (.iad 3), [(.t 91), (.c (.int .i64 1))], none⟩,
         ⟨none, (.st 3), [(.t 101), (.t 99)], none⟩] [[], [0], [], [2], [], [4], [5], [6], [], [8], [9], [10], [1, 0, 1, 4, 5, 6, 7, 11], [12, 7, 0, 1, 4, 5, 6, 7, 11], [3, 0, 1, 2, 3, 4, 5, 6, 7, 8, 9, 10, 11, 12, 13], [14, 11, 13, 0, 1, 2, 3, 4, 5, 6, 7, 8, 9, 10, 11, 12, 13]])
       .skip))))))))))))))
 (.seq
 (.reg true [
   ⟨(some 167), .call, [(.f nlaw11_awake)], none⟩,
   ⟨(some 168), .mv, [(.t 167)], none⟩,
   ⟨(some 169), (.ld true 3), [(.t 10)], (some (168, true))⟩,
   ⟨(some 170), (.ld true 3), [(.t 7)], (some (168, true))⟩,
   ⟨(some 171), .call, [(.f nlaw11_agree), (.t 169), (.t 170)], (some (168, true))⟩,
   ⟨(some 172), .pick, [(.t 168), (.t 171), (.c (.bool false))], none⟩,
   ⟨(some 173), .mv, [(.t 172)], none⟩,
   ⟨(some 174), (.ld true 3), [(.t 6)], (some (173, true))⟩,
   ⟨(some 175), (.ld true 3), [(.t 10)], (some (173, true))⟩,
   ⟨(some 176), .call, [(.f ngraph_Same), (.t 174), (.t 175)], (some (173, true))⟩,
   ⟨(some 177), (.ld true 3), [(.t 6)], (some (173, true))⟩,
   ⟨(some 178), (.ld true 3), [(.t 10)], (some (173, true))⟩,
   ⟨(some 179), .call, [(.f nref11_Same), (.t 177), (.t 178)], (some (173, true))⟩,
   ⟨(some 180), (.beq false), [(.t 176), (.t 179)], (some (173, true))⟩,
   ⟨(some 181), .pick, [(.t 173), (.t 180), (.c (.bool false))], none⟩,
   ⟨(some 4), .mv, [(.t 181)], none⟩] [[], [0, 0], [1], [1], [2, 3, 1, 1], [1, 4], [5, 4], [6], [6], [7, 8, 6, 6], [6], [6], [10, 11, 9, 6], [9, 12, 6], [6, 13], [14, 12, 0, 1, 2, 3, 4, 5, 6, 7, 8, 9, 10, 11, 12, 13, 14]])
 .ret)))))))))))⟩

def claw12_DistanceAll : AFun := ⟨51, [(4, none)],
 (.seq
 (.reg false [
   ⟨(some 4), .mv, [(.c (.bool false))], none⟩] [])
 (.seq
 (.seq
 (.reg false [
   ⟨(some 7), .mv, [(.t 0)], none⟩,
   ⟨(some 8), .call, [(.f nmade_Light), (.t 7)], none⟩,
   ⟨(some 9), (.un .not), [(.t 8)], none⟩,
   ⟨(some 10), .mv, [(.t 9)], none⟩,
   ⟨(some 11), .mv, [(.t 1)], (some (10, false))⟩,
   ⟨(some 12), .len, [(.t 11)], (some (10, false))⟩,
   ⟨(some 13), (.bin .gtr), [(.t 12), (.c (.int .i64 70))], (some (10, false))⟩,
   ⟨(some 14), .pick, [(.t 10), (.c (.bool true)), (.t 13)], none⟩] [])
 (.cond (.t 14)
  (.seq
  (.reg false [
    ⟨(some 15), .call, [(.f nlaw12_awake)], none⟩,
    ⟨(some 4), .mv, [(.t 15)], none⟩] [])
  .ret)
  .skip))
 (.seq
 (.reg false [
   ⟨(some 16), .mv, [(.t 0)], none⟩,
   ⟨(some 17), .call, [(.f nmade_Roll), (.t 16)], none⟩,
   ⟨(some 5), .mv, [(.t 17)], none⟩] [])
 (.seq
 (.reg false [
   ⟨(some 18), .mv, [(.t 5)], none⟩,
   ⟨(some 19), .call, [(.f nmade_Dice_Graph), (.t 18)], none⟩,
   ⟨(some 6), (.alloc [(.int .i64 0), (.slice none 0 0), (.slice none 0 0)]), [], none⟩,
   ⟨none, (.st 3), [(.t 6), (.t 19)], none⟩] [])
 (.seq
 (.reg true [
   ⟨(some 20), .call, [(.f nlaw12_awake)], none⟩,
   ⟨(some 21), .mv, [(.t 20)], none⟩,
   ⟨(some 22), (.ld true 3), [(.t 6)], (some (21, true))⟩,
   ⟨(some 23), .mv, [(.t 1)], (some (21, true))⟩,
   ⟨(some 24), .call, [(.f nlaw12_agree), (.t 22), (.t 23)], (some (21, true))⟩,
   ⟨(some 25), .pick, [(.t 21), (.t 24), (.c (.bool false))], none⟩,
   ⟨(some 26), .mv, [(.t 25)], none⟩,
   ⟨(some 27), (.ld true 3), [(.t 6)], (some (26, true))⟩,
   ⟨(some 28), .mv, [(.t 5)], (some (26, true))⟩,
   ⟨(some 29), (.fad 0), [(.t 6)], (some (26, true))⟩,
   ⟨(some 30), (.ld false 1), [(.t 29)], (some (26, true))⟩,
   ⟨(some 31), .call, [(.f nmade_Dice_Some), (.t 28), (.t 30)], (some (26, true))⟩,
   ⟨(some 32), .call, [(.f nlaw12_agree), (.t 27), (.t 31)], (some (26, true))⟩,
   ⟨(some 33), .pick, [(.t 26), (.t 32), (.c (.bool false))], none⟩,
   ⟨(some 34), .mv, [(.t 33)], none⟩,
   ⟨(some 35), (.ld true 3), [(.t 6)], (some (34, true))⟩,
   ⟨(some 36), .mv, [(.t 5)], (some (34, true))⟩,
   ⟨(some 37), (.fad 0), [(.t 6)], (some (34, true))⟩,
   ⟨(some 38), (.ld false 1), [(.t 37)], (some (34, true))⟩,
   ⟨(some 39), .call, [(.f nmade_Dice_Next), (.t 36), (.t 38)], (some (34, true))⟩,
   ⟨(some 40), (.bsl 1 1 [(.int .i64 0)] [0]), [(.t 39)], (some (34, true))⟩,
   ⟨(some 41), .call, [(.f nlaw12_agree), (.t 35), (.t 40)], (some (34, true))⟩,
   ⟨(some 42), .pick, [(.t 34), (.t 41), (.c (.bool false))], none⟩,
   ⟨(some 43), .mv, [(.t 42)], none⟩,
   ⟨(some 44), .mv, [(.t 1)], (some (43, true))⟩,
   ⟨(some 45), .len, [(.t 44)], (some (43, true))⟩,
   ⟨(some 46), .call, [(.f nmade_Mod), (.t 45), (.c (.int .i64 65))], (some (43, true))⟩,
   ⟨(some 47), (.build [(.int .i64 0), (.slice none 0 0), (.slice none 0 0)] [(0, 1)]), [(.t 46)], (some (43, true))⟩,
   ⟨(some 48), .mv, [(.t 1)], (some (43, true))⟩,
   ⟨(some 49), .call, [(.f nlaw12_agree), (.t 47), (.t 48)], (some (43, true))⟩,
   ⟨(some 50), .pick, [(.t 43), (.t 49), (.c (.bool false))], none⟩,
   ⟨(some 4), .mv, [(.t 50)], none⟩] [[], [0, 0], [1], [1], [2, 3, 1, 1], [1, 4], [5, 4], [6], [6], [6], [9, 6], [8, 10, 6, 6], [7, 11, 11, 6], [6, 12], [13, 12], [14], [14], [14], [17, 14], [16, 18, 14, 14], [19, 14], [15, 20, 19, 14], [14, 21], [22, 21], [23], [24, 23], [25, 23, 23], [26, 23], [23], [27, 28, 26, 23], [23, 29], [30, 29, 0, 1, 2, 3, 4, 5, 6, 7, 8, 9, 10, 11, 12, 13, 14, 15, 16, 17, 18, 19, 20, 21, 22, 23, 24, 25, 26, 27, 28, 29, 30]])
 .ret)))))⟩

def claw12_DistanceWays : AFun := ⟨144, [(2, none)],
 (.seq
 (.reg false [
   ⟨(some 2), .mv, [(.c (.bool false))], none⟩] [])
 (.seq
 (.seq
 (.reg false [
   ⟨(some 13), .mv, [(.t 0)], none⟩,
   ⟨(some 14), .call, [(.f nmade_Light), (.t 13)], none⟩,
   ⟨(some 15), (.un .not), [(.t 14)], none⟩] [])
 (.cond (.t 15)
  (.seq
  (.reg false [
    ⟨(some 16), .call, [(.f nlaw12_awake)], none⟩,
    ⟨(some 2), .mv, [(.t 16)], none⟩] [])
  .ret)
  .skip))
 (.seq
 (.reg false [
   ⟨(some 17), .mv, [(.t 0)], none⟩,
   ⟨(some 18), .call, [(.f nmade_Roll), (.t 17)], none⟩,
   ⟨(some 3), .mv, [(.t 18)], none⟩] [])
 (.seq
 (.reg false [
   ⟨(some 19), .mv, [(.t 3)], none⟩,
   ⟨(some 20), .call, [(.f nmade_Dice_Graph), (.t 19)], none⟩,
   ⟨(some 4), (.alloc [(.int .i64 0), (.slice none 0 0), (.slice none 0 0)]), [], none⟩,
   ⟨none, (.st 3), [(.t 4), (.t 20)], none⟩] [])
 (.seq
 (.reg false [
   ⟨(some 21), .mv, [(.t 3)], none⟩,
   ⟨(some 22), (.fad 0), [(.t 4)], none⟩,
   ⟨(some 23), (.ld false 1), [(.t 22)], none⟩,
   ⟨(some 24), .call, [(.f nmade_Dice_Some), (.t 21), (.t 23)], none⟩,
   ⟨(some 5), .mv, [(.t 24)], none⟩] [])
 (.seq
 (.reg false [
   ⟨(some 25), (.ld true 3), [(.t 4)], none⟩,
   ⟨(some 26), .mv, [(.t 5)], none⟩,
   ⟨(some 27), .call, [(.f ndistance_All), (.t 25), (.t 26)], none⟩,
   ⟨(some 6), .mv, [(.t 27)], none⟩] [])
 (.seq
 (.seq
 (.reg false [
   ⟨(some 28), .mv, [(.t 6)], none⟩,
   ⟨(some 29), .len, [(.t 28)], none⟩,
   ⟨(some 30), (.fad 0), [(.t 4)], none⟩,
   ⟨(some 31), (.ld false 1), [(.t 30)], none⟩,
   ⟨(some 32), (.bin .neq), [(.t 29), (.t 31)], none⟩] [])
 (.cond (.t 32)
  (.seq
  (.reg false [
    ⟨(some 2), .mv, [(.c (.bool false))], none⟩] [])
  .ret)
  .skip))
 (.seq
 (.seq
 (.reg false [
   ⟨(some 7), .mv, [(.c (.int .i64 0))], none⟩] [])
 (.block 0
 (.loop
 (.seq
 (.seq
 (.reg false [
   ⟨(some 33), .mv, [(.t 7)], none⟩,
   ⟨(some 34), (.fad 1), [(.t 4)], none⟩,
   ⟨(some 35), (.ld false 1), [(.t 34)], none⟩,
   ⟨(some 36), .len, [(.t 35)], none⟩,
   ⟨(some 37), (.bin .lss), [(.t 33), (.t 36)], none⟩] [])
 (.cond (.t 37)
  .skip
  (.exit 0)))
 (.seq
 (.block 1
 (.seq
 (.reg false [
   ⟨(some 40), (.fad 1), [(.t 4)], none⟩,
   ⟨(some 41), (.ld false 1), [(.t 40)], none⟩,
   ⟨(some 42), .mv, [(.t 7)], none⟩,
   ⟨(some 43), (.iad 3), [(.t 41), (.t 42)], none⟩,
   ⟨(some 44), (.ld true 3), [(.t 43)], none⟩,
   ⟨(some 8), (.alloc [(.int .i64 0), (.int .i64 0), (.int .i64 0)]), [], none⟩,
   ⟨none, (.st 3), [(.t 8), (.t 44)], none⟩] [])
 (.seq
 (.reg true [
   ⟨(some 45), .mv, [(.t 6)], none⟩,
   ⟨(some 46), (.fad 0), [(.t 8)], none⟩,
   ⟨(some 47), (.ld false 1), [(.t 46)], none⟩,
   ⟨(some 48), (.iad 1), [(.t 45), (.t 47)], none⟩,
   ⟨(some 49), (.ld false 1), [(.t 48)], none⟩,
   ⟨(some 50), (.bin .geq), [(.t 49), (.c (.int .i64 0))], none⟩,
   ⟨(some 51), .mv, [(.t 50)], none⟩,
   ⟨(some 52), .mv, [(.t 6)], (some (51, true))⟩,
   ⟨(some 53), (.fad 1), [(.t 8)], (some (51, true))⟩,
   ⟨(some 54), (.ld false 1), [(.t 53)], (some (51, true))⟩,
   ⟨(some 55), (.iad 1), [(.t 52), (.t 54)], (some (51, true))⟩,
   ⟨(some 56), (.ld false 1), [(.t 55)], (some (51, true))⟩,
   ⟨(some 57), (.bin .lss), [(.t 56), (.c (.int .i64 0))], (some (51, true))⟩,
   ⟨(some 58), .mv, [(.t 57)], (some (51, true))⟩,
   ⟨(some 59), .mv, [(.t 6)], (some (58, false))⟩,
   ⟨(some 60), (.fad 1), [(.t 8)], (some (58, false))⟩,
   ⟨(some 61), (.ld false 1), [(.t 60)], (some (58, false))⟩,
   ⟨(some 62), (.iad 1), [(.t 59), (.t 61)], (some (58, false))⟩,
   ⟨(some 63), (.ld false 1), [(.t 62)], (some (58, false))⟩,
   ⟨(some 64), .mv, [(.t 6)], (some (58, false))⟩,
   ⟨(some 65), (.fad 0), [(.t 8)], (some (58, false))⟩,
   ⟨(some 66), (.ld false 1), [(.t 65)], (some (58, false))⟩,
   ⟨(some 67), (.iad 1), [(.t 64), (.t 66)], (some (58, false))⟩,
   ⟨(some 68), (.ld false 1), [(.t 67)], (some (58, false))⟩,
   ⟨(some 69), (.bin .add), [(.t 68), (.c (.int .i64 1))], (some (58, false))⟩,
   ⟨(some 70), (.bin .gtr), [(.t 63), (.t 69)], (some (58, false))⟩,
   ⟨(some 71), .pick, [(.t 58), (.c (.bool true)), (.t 70)], (some (51, true))⟩,
   ⟨(some 72), .pick, [(.t 51), (.t 71), (.c (.bool false))], none⟩] [[], [], [1], [0, 2], [3], [4], [5], [6], [6], [8, 6], [7, 9, 6], [10, 6], [11, 6], [12, 6, 6], [13], [13], [15, 13], [14, 16, 13], [17, 13], [13], [13], [20, 13], [19, 21, 13], [22, 13], [23, 13], [18, 24, 13], [13, 25, 6], [6, 26]])
 (.cond (.t 72)
  (.seq
  (.reg false [
    ⟨(some 2), .mv, [(.c (.bool false))], none⟩] [])
  .ret)
  .skip))))
 (.reg false [
   ⟨(some 38), .mv, [(.t 7)], none⟩,
   ⟨(some 39), (.bin .add), [(.t 38), (.c (.int .i64 1))], none⟩,
   ⟨(some 7), .mv, [(.t 39)], none⟩] []))))))
 (.seq
 (.seq
 (.reg false [
   ⟨(some 9), .mv, [(.c (.int .i64 0))], none⟩] [])
 (.block 2
 (.loop
 (.seq
 (.seq
 (.reg false [
   ⟨(some 73), .mv, [(.t 9)], none⟩,
   ⟨(some 74), (.fad 0), [(.t 4)], none⟩,
   ⟨(some 75), (.ld false 1), [(.t 74)], none⟩,
   ⟨(some 76), (.bin .lss), [(.t 73), (.t 75)], none⟩] [])
 (.cond (.t 76)
  .skip
  (.exit 2)))
 (.seq
 (.block 3
 (.seq
 (.reg false [
   ⟨(some 80), (.ld true 3), [(.t 4)], none⟩,
   ⟨(some 81), .mv, [(.t 5)], none⟩,
   ⟨(some 82), .mv, [(.t 9)], none⟩,
   ⟨(some 83), .call, [(.f ndistance_Way), (.t 80), (.t 81), (.t 82)], none⟩,
   ⟨(some 79), .mv, [(.t 83)], none⟩,
   ⟨(some 84), (.ext 0), [(.t 79)], none⟩,
   ⟨(some 85), (.ext 1), [(.t 79)], none⟩,
   ⟨(some 10), .mv, [(.t 84)], none⟩,
   ⟨(some 11), .mv, [(.t 85)], none⟩] [])
 (.seq
 (.seq
 (.reg false [
   ⟨(some 86), .mv, [(.t 11)], none⟩,
   ⟨(some 87), .mv, [(.t 6)], none⟩,
   ⟨(some 88), .mv, [(.t 9)], none⟩,
   ⟨(some 89), (.iad 1), [(.t 87), (.t 88)], none⟩,
   ⟨(some 90), (.ld false 1), [(.t 89)], none⟩,
   ⟨(some 91), (.bin .geq), [(.t 90), (.c (.int .i64 0))], none⟩,
   ⟨(some 92), (.beq true), [(.t 86), (.t 91)], none⟩,
   ⟨(some 93), .mv, [(.t 92)], none⟩,
   ⟨(some 94), .mv, [(.t 11)], (some (93, false))⟩,
   ⟨(some 95), .mv, [(.t 94)], (some (93, false))⟩,
   ⟨(some 96), .mv, [(.t 10)], (some (95, true))⟩,
   ⟨(some 97), .len, [(.t 96)], (some (95, true))⟩,
   ⟨(some 98), .mv, [(.t 6)], (some (95, true))⟩,
   ⟨(some 99), .mv, [(.t 9)], (some (95, true))⟩,
   ⟨(some 100), (.iad 1), [(.t 98), (.t 99)], (some (95, true))⟩,
   ⟨(some 101), (.ld false 1), [(.t 100)], (some (95, true))⟩,
   ⟨(some 102), (.bin .add), [(.t 101), (.c (.int .i64 1))], (some (95, true))⟩,
   ⟨(some 103), (.bin .neq), [(.t 97), (.t 102)], (some (95, true))⟩,
   ⟨(some 104), .mv, [(.t 103)], (some (95, true))⟩,
   ⟨(some 105), .mv, [(.t 10)], (some (104, false))⟩,
   ⟨(some 106), .mv, [(.t 10)], (some (104, false))⟩,
   ⟨(some 107), .len, [(.t 106)], (some (104, false))⟩,
   ⟨(some 108), (.bin .sub), [(.t 107), (.c (.int .i64 1))], (some (104, false))⟩,
   ⟨(some 109), (.iad 1), [(.t 105), (.t 108)], (some (104, false))⟩,
   ⟨(some 110), (.ld false 1), [(.t 109)], (some (104, false))⟩,
   ⟨(some 111), .mv, [(.t 9)], (some (104, false))⟩,
   ⟨(some 112), (.bin .neq), [(.t 110), (.t 111)], (some (104, false))⟩,
   ⟨(some 113), .pick, [(.t 104), (.c (.bool true)), (.t 112)], (some (95, true))⟩,
   ⟨(some 114), .mv, [(.t 113)], (some (95, true))⟩,
   ⟨(some 115), .mv, [(.t 5)], (some (114, false))⟩,
   ⟨(some 116), .mv, [(.t 10)], (some (114, false))⟩,
   ⟨(some 117), (.iad 1), [(.t 116), (.c (.int .i64 0))], (some (114, false))⟩,
   ⟨(some 118), (.ld false 1), [(.t 117)], (some (114, false))⟩,
   ⟨(some 119), .call, [(.f nref11_Has), (.t 115), (.t 118)], (some (114, false))⟩,
   ⟨(some 120), (.un .not), [(.t 119)], (some (114, false))⟩,
   ⟨(some 121), .pick, [(.t 114), (.c (.bool true)), (.t 120)], (some (95, true))⟩,
   ⟨(some 122), .pick, [(.t 95), (.t 121), (.c (.bool false))], (some (93, false))⟩,
   ⟨(some 123), .pick, [(.t 93), (.c (.bool true)), (.t 122)], none⟩] [])
 (.cond (.t 123)
  (.seq
  (.reg false [
    ⟨(some 2), .mv, [(.c (.bool false))], none⟩] [])
  .ret)
  .skip))
 (.seq
 (.reg false [
   ⟨(some 12), .mv, [(.c (.int .i64 1))], none⟩] [])
 (.block 4
 (.loop
 (.seq
 (.seq
 (.reg false [
   ⟨(some 124), .mv, [(.t 12)], none⟩,
   ⟨(some 125), .mv, [(.t 10)], none⟩,
   ⟨(some 126), .len, [(.t 125)], none⟩,
   ⟨(some 127), (.bin .lss), [(.t 124), (.t 126)], none⟩] [])
 (.cond (.t 127)
  .skip
  (.exit 4)))
 (.seq
 (.block 5
 (.seq
 (.reg true [
   ⟨(some 130), (.ld true 3), [(.t 4)], none⟩,
   ⟨(some 131), .mv, [(.t 10)], none⟩,
   ⟨(some 132), .mv, [(.t 12)], none⟩,
   ⟨(some 133), (.bin .sub), [(.t 132), (.c (.int .i64 1))], none⟩,
   ⟨(some 134), (.iad 1), [(.t 131), (.t 133)], none⟩,
   ⟨(some 135), (.ld false 1), [(.t 134)], none⟩,
   ⟨(some 136), .call, [(.f nref11_Out), (.t 130), (.t 135)], none⟩,
   ⟨(some 137), .mv, [(.t 10)], none⟩,
   ⟨(some 138), .mv, [(.t 12)], none⟩,
   ⟨(some 139), (.iad 1), [(.t 137), (.t 138)], none⟩,
   ⟨(some 140), (.ld false 1), [(.t 139)], none⟩,
   ⟨(some 141), .call, [(.f nref11_Has), (.t 136), (.t 140)], none⟩,
   ⟨(some 142), (.un .not), [(.t 141)], none⟩] [[], [], [], [2], [1, 3], [4], [0, 5], [], [], [7, 8], [9], [6, 10, 6], [11]])
 (.cond (.t 142)
  (.seq
  (.reg false [
    ⟨(some 2), .mv, [(.c (.bool false))], none⟩] [])
  .ret)
  .skip)))
 (.reg false [
   ⟨(some 128), .mv, [(.t 12)], none⟩,
   ⟨(some 129), (.bin .add), [(.t 128), (.c (.int .i64 1))], none⟩,
   ⟨(some 12), .mv, [(.t 129)], none⟩] [])))))))))
 (.reg false [
   ⟨(some 77), .mv, [(.t 9)], none⟩,
   ⟨(some 78), (.bin .add), [(.t 77), (.c (.int .i64 1))], none⟩,
   ⟨(some 9), .mv, [(.t 78)], none⟩] []))))))
 (.seq
 (.reg false [
   ⟨(some 143), .call, [(.f nlaw12_awake)], none⟩,
   ⟨(some 2), .mv, [(.t 143)], none⟩] [])
 .ret))))))))))⟩

def claw12_DistanceMore : AFun := ⟨124, [(2, none)],
 (.seq
 (.reg false [
   ⟨(some 2), .mv, [(.c (.bool false))], none⟩] [])
 (.seq
 (.seq
 (.reg false [
   ⟨(some 13), .mv, [(.t 0)], none⟩,
   ⟨(some 14), .call, [(.f nmade_Light), (.t 13)], none⟩,
   ⟨(some 15), (.un .not), [(.t 14)], none⟩] [])
 (.cond (.t 15)
  (.seq
  (.reg false [
    ⟨(some 16), .call, [(.f nlaw12_awake)], none⟩,
    ⟨(some 2), .mv, [(.t 16)], none⟩] [])
  .ret)
  .skip))
 (.seq
 (.reg false [
   ⟨(some 17), .mv, [(.t 0)], none⟩,
   ⟨(some 18), .call, [(.f nmade_Roll), (.t 17)], none⟩,
   ⟨(some 3), .mv, [(.t 18)], none⟩] [])
 (.seq
 (.reg false [
   ⟨(some 19), .mv, [(.t 3)], none⟩,
   ⟨(some 20), .call, [(.f nmade_Dice_Graph), (.t 19)], none⟩,
   ⟨(some 4), (.alloc [(.int .i64 0), (.slice none 0 0), (.slice none 0 0)]), [], none⟩,
   ⟨none, (.st 3), [(.t 4), (.t 20)], none⟩] [])
 (.seq
 (.reg false [
   ⟨(some 21), .mv, [(.t 3)], none⟩,
   ⟨(some 22), (.fad 0), [(.t 4)], none⟩,
   ⟨(some 23), (.ld false 1), [(.t 22)], none⟩,
   ⟨(some 24), .call, [(.f nmade_Dice_Some), (.t 21), (.t 23)], none⟩,
   ⟨(some 5), .mv, [(.t 24)], none⟩] [])
 (.seq
 (.reg false [
   ⟨(some 25), (.ld true 3), [(.t 4)], none⟩,
   ⟨(some 6), (.alloc [(.int .i64 0), (.slice none 0 0), (.slice none 0 0)]), [], none⟩,
   ⟨none, (.st 3), [(.t 6), (.t 25)], none⟩] [])
 (.seq
 (.seq
 (.reg true [
   ⟨(some 27), (.ld true 3), [(.t 4)], none⟩,
   ⟨(some 28), .mv, [(.t 3)], none⟩,
   ⟨(some 29), (.fad 0), [(.t 4)], none⟩,
   ⟨(some 30), (.ld false 1), [(.t 29)], none⟩,
   ⟨(some 31), .call, [(.f nmade_Dice_Next), (.t 28), (.t 30)], none⟩,
   ⟨(some 32), .mv, [(.t 3)], none⟩,
   ⟨(some 33), (.fad 0), [(.t 4)], none⟩,
   ⟨(some 34), (.ld false 1), [(.t 33)], none⟩,
   ⟨(some 35), .call, [(.f nmade_Dice_Next), (.t 32), (.t 34)], none⟩,
   ⟨(some 36), (.build [(.int .i64 0), (.int .i64 0), (.int .i64 0)] [(0, 1), (1, 1), (2, 1)]), [(.t 31), (.t 35), (.c (.int .i64 1))], none⟩,
   ⟨(some 37), .call, [(.f nref11_With), (.t 27), (.t 36)], none⟩,
   ⟨(some 26), .mv, [(.t 37)], none⟩,
   ⟨(some 38), (.ext 0), [(.t 26)], none⟩,
   ⟨(some 39), (.ext 1), [(.t 26)], none⟩,
   ⟨(some 7), (.alloc [(.int .i64 0), (.slice none 0 0), (.slice none 0 0)]), [], none⟩,
   ⟨none, (.st 3), [(.t 7), (.t 38)], none⟩,
   ⟨(some 8), .mv, [(.t 39)], none⟩] [[], [], [], [2], [1, 3], [], [], [6], [5, 7, 4], [4, 8], [0, 9, 8], [10], [11], [11], [], [14, 12, 10, 0, 1, 2, 3, 4, 5, 6, 7, 8, 9, 10, 11, 12, 14], [13, 15, 0, 1, 2, 3, 4, 5, 6, 7, 8, 9, 10, 11, 12, 13, 14, 15]])
 (.seq
 (.reg false [
   ⟨(some 40), .mv, [(.t 8)], none⟩,
   ⟨(some 41), (.bin .eql), [(.t 40), (.c (.int .i64 0))], none⟩] [])
 (.cond (.t 41)
  (.reg false [
    ⟨(some 42), (.ld true 3), [(.t 7)], none⟩,
    ⟨none, (.st 3), [(.t 6), (.t 42)], none⟩] [])
  .skip)))
 (.seq
 (.reg true [
   ⟨(some 43), (.ld true 3), [(.t 4)], none⟩,
   ⟨(some 44), .mv, [(.t 5)], none⟩,
   ⟨(some 45), .call, [(.f ndistance_All), (.t 43), (.t 44)], none⟩,
   ⟨(some 46), (.ld true 3), [(.t 6)], none⟩,
   ⟨(some 47), .mv, [(.t 5)], none⟩,
   ⟨(some 48), .call, [(.f ndistance_All), (.t 46), (.t 47)], none⟩,
   ⟨(some 49), (.ld true 3), [(.t 4)], none⟩,
   ⟨(some 50), .mv, [(.t 5)], none⟩,
   ⟨(some 51), .mv, [(.t 3)], none⟩,
   ⟨(some 52), (.fad 0), [(.t 4)], none⟩,
   ⟨(some 53), (.ld false 1), [(.t 52)], none⟩,
   ⟨(some 54), .call, [(.f nmade_Dice_Next), (.t 51), (.t 53)], none⟩,
   ⟨(some 55), .call, [(.f nref11_Put), (.t 50), (.t 54)], none⟩,
   ⟨(some 56), .call, [(.f ndistance_All), (.t 49), (.t 55)], none⟩,
   ⟨(some 9), .mv, [(.t 45)], none⟩,
   ⟨(some 10), .mv, [(.t 48)], none⟩,
   ⟨(some 11), .mv, [(.t 56)], none⟩] [[], [], [0, 1], [], [], [3, 4, 2], [], [], [], [], [9], [8, 10, 5], [7, 11, 11], [6, 12, 12], [2, 13, 0, 1, 2], [5, 14, 0, 1, 2, 3, 4, 5, 14], [13, 15, 0, 1, 2, 3, 4, 5, 6, 7, 8, 9, 10, 11, 12, 13, 14, 15]])
 (.seq
 (.seq
 (.reg false [
   ⟨(some 57), .mv, [(.t 9)], none⟩,
   ⟨(some 58), .len, [(.t 57)], none⟩,
   ⟨(some 59), (.fad 0), [(.t 4)], none⟩,
   ⟨(some 60), (.ld false 1), [(.t 59)], none⟩,
   ⟨(some 61), (.bin .neq), [(.t 58), (.t 60)], none⟩,
   ⟨(some 62), .mv, [(.t 61)], none⟩,
   ⟨(some 63), .mv, [(.t 10)], (some (62, false))⟩,
   ⟨(some 64), .len, [(.t 63)], (some (62, false))⟩,
   ⟨(some 65), (.fad 0), [(.t 4)], (some (62, false))⟩,
   ⟨(some 66), (.ld false 1), [(.t 65)], (some (62, false))⟩,
   ⟨(some 67), (.bin .neq), [(.t 64), (.t 66)], (some (62, false))⟩,
   ⟨(some 68), .pick, [(.t 62), (.c (.bool true)), (.t 67)], none⟩,
   ⟨(some 69), .mv, [(.t 68)], none⟩,
   ⟨(some 70), .mv, [(.t 11)], (some (69, false))⟩,
   ⟨(some 71), .len, [(.t 70)], (some (69, false))⟩,
   ⟨(some 72), (.fad 0), [(.t 4)], (some (69, false))⟩,
   ⟨(some 73), (.ld false 1), [(.t 72)], (some (69, false))⟩,
   ⟨(some 74), (.bin .neq), [(.t 71), (.t 73)], (some (69, false))⟩,
   ⟨(some 75), .pick, [(.t 69), (.c (.bool true)), (.t 74)], none⟩] [])
 (.cond (.t 75)
  (.seq
  (.reg false [
    ⟨(some 2), .mv, [(.c (.bool false))], none⟩] [])
  .ret)
  .skip))
 (.seq
 (.seq
 (.reg false [
   ⟨(some 12), .mv, [(.c (.int .i64 0))], none⟩] [])
 (.block 0
 (.loop
 (.seq
 (.seq
 (.reg false [
   ⟨(some 76), .mv, [(.t 12)], none⟩,
   ⟨(some 77), (.fad 0), [(.t 4)], none⟩,
   ⟨(some 78), (.ld false 1), [(.t 77)], none⟩,
   ⟨(some 79), (.bin .lss), [(.t 76), (.t 78)], none⟩] [])
 (.cond (.t 79)
  .skip
  (.exit 0)))
 (.seq
 (.block 1
 (.seq
 (.reg true [
   ⟨(some 82), .mv, [(.t 9)], none⟩,
   ⟨(some 83), .mv, [(.t 12)], none⟩,
   ⟨(some 84), (.iad 1), [(.t 82), (.t 83)], none⟩,
   ⟨(some 85), (.ld false 1), [(.t 84)], none⟩,
   ⟨(some 86), (.bin .geq), [(.t 85), (.c (.int .i64 0))], none⟩,
   ⟨(some 87), .mv, [(.t 86)], none⟩,
   ⟨(some 88), .mv, [(.t 10)], (some (87, true))⟩,
   ⟨(some 89), .mv, [(.t 12)], (some (87, true))⟩,
   ⟨(some 90), (.iad 1), [(.t 88), (.t 89)], (some (87, true))⟩,
   ⟨(some 91), (.ld false 1), [(.t 90)], (some (87, true))⟩,
   ⟨(some 92), (.bin .lss), [(.t 91), (.c (.int .i64 0))], (some (87, true))⟩,
   ⟨(some 93), .mv, [(.t 92)], (some (87, true))⟩,
   ⟨(some 94), .mv, [(.t 10)], (some (93, false))⟩,
   ⟨(some 95), .mv, [(.t 12)], (some (93, false))⟩,
   ⟨(some 96), (.iad 1), [(.t 94), (.t 95)], (some (93, false))⟩,
   ⟨(some 97), (.ld false 1), [(.t 96)], (some (93, false))⟩,
   ⟨(some 98), .mv, [(.t 9)], (some (93, false))⟩,
   ⟨(some 99), .mv, [(.t 12)], (some (93, false))⟩,
   ⟨(some 100), (.iad 1), [(.t 98), (.t 99)], (some (93, false))⟩,
   ⟨(some 101), (.ld false 1), [(.t 100)], (some (93, false))⟩,
   ⟨(some 102), (.bin .gtr), [(.t 97), (.t 101)], (some (93, false))⟩,
   ⟨(some 103), .pick, [(.t 93), (.c (.bool true)), (.t 102)], (some (87, true))⟩,
   ⟨(some 104), .mv, [(.t 103)], (some (87, true))⟩,
   ⟨(some 105), .mv, [(.t 11)], (some (104, false))⟩,
   ⟨(some 106), .mv, [(.t 12)], (some (104, false))⟩,
   ⟨(some 107), (.iad 1), [(.t 105), (.t 106)], (some (104, false))⟩,
   ⟨(some 108), (.ld false 1), [(.t 107)], (some (104, false))⟩,
   ⟨(some 109), (.bin .lss), [(.t 108), (.c (.int .i64 0))], (some (104, false))⟩,
   ⟨(some 110), .pick, [(.t 104), (.c (.bool true)), (.t 109)], (some (87, true))⟩,
   ⟨(some 111), .mv, [(.t 110)], (some (87, true))⟩,
   ⟨(some 112), .mv, [(.t 11)], (some (111, false))⟩,
   ⟨(some 113), .mv, [(.t 12)], (some (111, false))⟩,
   ⟨(some 114), (.iad 1), [(.t 112), (.t 113)], (some (111, false))⟩,
   ⟨(some 115), (.ld false 1), [(.t 114)], (some (111, false))⟩,
   ⟨(some 116), .mv, [(.t 9)], (some (111, false))⟩,
   ⟨(some 117), .mv, [(.t 12)], (some (111, false))⟩,
   ⟨(some 118), (.iad 1), [(.t 116), (.t 117)], (some (111, false))⟩,
   ⟨(some 119), (.ld false 1), [(.t 118)], (some (111, false))⟩,
   ⟨(some 120), (.bin .gtr), [(.t 115), (.t 119)], (some (111, false))⟩,
   ⟨(some 121), .pick, [(.t 111), (.c (.bool true)), (.t 120)], (some (87, true))⟩,
   ⟨(some 122), .pick, [(.t 87), (.t 121), (.c (.bool false))], none⟩] [[], [], [0, 1], [2], [3], [4], [5], [5], [6, 7, 5], [8, 5], [9, 5], [10, 5, 5], [11], [11], [12, 13, 11], [14, 11], [11], [11], [16, 17, 11], [18, 11], [15, 19, 11], [11, 20, 5], [21, 11, 5], [22], [22], [23, 24, 22], [25, 22], [26, 22], [22, 27, 5], [28, 22, 5], [29], [29], [30, 31, 29], [32, 29], [29], [29], [34, 35, 29], [36, 29], [33, 37, 29], [29, 38, 5], [5, 39]])
 (.cond (.t 122)
  (.seq
  (.reg false [
    ⟨(some 2), .mv, [(.c (.bool false))], none⟩] [])
  .ret)
  .skip)))
 (.reg false [
   ⟨(some 80), .mv, [(.t 12)], none⟩,
   ⟨(some 81), (.bin .add), [(.t 80), (.c (.int .i64 1))], none⟩,
   ⟨(some 12), .mv, [(.t 81)], none⟩] []))))))
 (.seq
 (.reg false [
   ⟨(some 123), .call, [(.f nlaw12_awake)], none⟩,
   ⟨(some 2), .mv, [(.t 123)], none⟩] [])
 .ret)))))))))))⟩

def claw12_DistanceOrder : AFun := ⟨173, [(2, none)],
 (.seq
 (.reg false [
   ⟨(some 2), .mv, [(.c (.bool false))], none⟩] [])
 (.seq
 (.seq
 (.reg false [
   ⟨(some 11), .mv, [(.t 0)], none⟩,
   ⟨(some 12), .call, [(.f nmade_Light), (.t 11)], none⟩,
   ⟨(some 13), (.un .not), [(.t 12)], none⟩] [])
 (.cond (.t 13)
  (.seq
  (.reg false [
    ⟨(some 14), .call, [(.f nlaw12_awake)], none⟩,
    ⟨(some 2), .mv, [(.t 14)], none⟩] [])
  .ret)
  .skip))
 (.seq
 (.reg false [
   ⟨(some 15), .mv, [(.t 0)], none⟩,
   ⟨(some 16), .call, [(.f nmade_Roll), (.t 15)], none⟩,
   ⟨(some 3), .mv, [(.t 16)], none⟩] [])
 (.seq
 (.reg false [
   ⟨(some 17), .mv, [(.t 3)], none⟩,
   ⟨(some 18), .call, [(.f nmade_Dice_Graph), (.t 17)], none⟩,
   ⟨(some 4), (.alloc [(.int .i64 0), (.slice none 0 0), (.slice none 0 0)]), [], none⟩,
   ⟨none, (.st 3), [(.t 4), (.t 18)], none⟩] [])
 (.seq
 (.reg false [
   ⟨(some 19), .mv, [(.t 3)], none⟩,
   ⟨(some 20), (.fad 0), [(.t 4)], none⟩,
   ⟨(some 21), (.ld false 1), [(.t 20)], none⟩,
   ⟨(some 22), .call, [(.f nmade_Dice_Some), (.t 19), (.t 21)], none⟩,
   ⟨(some 5), .mv, [(.t 22)], none⟩] [])
 (.seq
 (.reg true [
   ⟨(some 23), (.ld true 3), [(.t 4)], none⟩,
   ⟨(some 24), .mv, [(.t 5)], none⟩,
   ⟨(some 25), .call, [(.f ndistance_Order), (.t 23), (.t 24)], none⟩,
   ⟨(some 26), (.ld true 3), [(.t 4)], none⟩,
   ⟨(some 27), .mv, [(.t 5)], none⟩,
   ⟨(some 28), .call, [(.f ndistance_All), (.t 26), (.t 27)], none⟩,
   ⟨(some 6), .mv, [(.t 25)], none⟩,
   ⟨(some 7), .mv, [(.t 28)], none⟩] [[], [], [0, 1], [], [], [3, 4, 2], [2, 5, 0, 1, 2], [5, 6, 0, 1, 2, 3, 4, 5, 6]])
 (.seq
 (.seq
 (.reg false [
   ⟨(some 29), .mv, [(.t 7)], none⟩,
   ⟨(some 30), .len, [(.t 29)], none⟩,
   ⟨(some 31), (.fad 0), [(.t 4)], none⟩,
   ⟨(some 32), (.ld false 1), [(.t 31)], none⟩,
   ⟨(some 33), (.bin .neq), [(.t 30), (.t 32)], none⟩] [])
 (.cond (.t 33)
  (.seq
  (.reg false [
    ⟨(some 2), .mv, [(.c (.bool false))], none⟩] [])
  .ret)
  .skip))
 (.seq
 (.seq
 (.reg false [
   ⟨(some 8), .mv, [(.c (.int .i64 0))], none⟩] [])
 (.block 0
 (.loop
 (.seq
 (.seq
 (.reg false [
   ⟨(some 34), .mv, [(.t 8)], none⟩,
   ⟨(some 35), .mv, [(.t 6)], none⟩,
   ⟨(some 36), .len, [(.t 35)], none⟩,
   ⟨(some 37), (.bin .lss), [(.t 34), (.t 36)], none⟩] [])
 (.cond (.t 37)
  .skip
  (.exit 0)))
 (.seq
 (.block 1
 (.seq
 (.seq
 (.reg true [
   ⟨(some 40), .mv, [(.t 6)], none⟩,
   ⟨(some 41), .mv, [(.t 8)], none⟩,
   ⟨(some 42), (.iad 1), [(.t 40), (.t 41)], none⟩,
   ⟨(some 43), (.ld false 1), [(.t 42)], none⟩,
   ⟨(some 44), (.bin .lss), [(.t 43), (.c (.int .i64 0))], none⟩,
   ⟨(some 45), .mv, [(.t 44)], none⟩,
   ⟨(some 46), .mv, [(.t 6)], (some (45, false))⟩,
   ⟨(some 47), .mv, [(.t 8)], (some (45, false))⟩,
   ⟨(some 48), (.iad 1), [(.t 46), (.t 47)], (some (45, false))⟩,
   ⟨(some 49), (.ld false 1), [(.t 48)], (some (45, false))⟩,
   ⟨(some 50), (.fad 0), [(.t 4)], (some (45, false))⟩,
   ⟨(some 51), (.ld false 1), [(.t 50)], (some (45, false))⟩,
   ⟨(some 52), (.bin .geq), [(.t 49), (.t 51)], (some (45, false))⟩,
   ⟨(some 53), .pick, [(.t 45), (.c (.bool true)), (.t 52)], none⟩,
   ⟨(some 54), .mv, [(.t 53)], none⟩,
   ⟨(some 55), .mv, [(.t 8)], (some (54, false))⟩,
   ⟨(some 56), (.bin .gtr), [(.t 55), (.c (.int .i64 0))], (some (54, false))⟩,
   ⟨(some 57), .mv, [(.t 56)], (some (54, false))⟩,
   ⟨(some 58), .mv, [(.t 7)], (some (57, true))⟩,
   ⟨(some 59), .mv, [(.t 6)], (some (57, true))⟩,
   ⟨(some 60), .mv, [(.t 8)], (some (57, true))⟩,
   ⟨(some 61), (.bin .sub), [(.t 60), (.c (.int .i64 1))], (some (57, true))⟩,
   ⟨(some 62), (.iad 1), [(.t 59), (.t 61)], (some (57, true))⟩,
   ⟨(some 63), (.ld false 1), [(.t 62)], (some (57, true))⟩,
   ⟨(some 64), (.iad 1), [(.t 58), (.t 63)], (some (57, true))⟩,
   ⟨(some 65), (.ld false 1), [(.t 64)], (some (57, true))⟩,
   ⟨(some 66), .mv, [(.t 7)], (some (57, true))⟩,
   ⟨(some 67), .mv, [(.t 6)], (some (57, true))⟩,
   ⟨(some 68), .mv, [(.t 8)], (some (57, true))⟩,
   ⟨(some 69), (.iad 1), [(.t 67), (.t 68)], (some (57, true))⟩,
   ⟨(some 70), (.ld false 1), [(.t 69)], (some (57, true))⟩,
   ⟨(some 71), (.iad 1), [(.t 66), (.t 70)], (some (57, true))⟩,
   ⟨(some 72), (.ld false 1), [(.t 71)], (some (57, true))⟩,
   ⟨(some 73), (.bin .gtr), [(.t 65), (.t 72)], (some (57, true))⟩,
   ⟨(some 74), .mv, [(.t 73)], (some (57, true))⟩,
   ⟨(some 75), .mv, [(.t 7)], (some (74, false))⟩,
   ⟨(some 76), .mv, [(.t 6)], (some (74, false))⟩,
   ⟨(some 77), .mv, [(.t 8)], (some (74, false))⟩,
   ⟨(some 78), (.bin .sub), [(.t 77), (.c (.int .i64 1))], (some (74, false))⟩,
   ⟨(some 79), (.iad 1), [(.t 76), (.t 78)], (some (74, false))⟩,
   ⟨(some 80), (.ld false 1), [(.t 79)], (some (74, false))⟩,
   ⟨(some 81), (.iad 1), [(.t 75), (.t 80)], (some (74, false))⟩,
   ⟨(some 82), (.ld false 1), [(.t 81)], (some (74, false))⟩,
   ⟨(some 83), .mv, [(.t 7)], (some (74, false))⟩,
   ⟨(some 84), .mv, [(.t 6)], (some (74, false))⟩,
   ⟨(some 85), .mv, [(.t 8)], (some (74, false))⟩,
   ⟨(some 86), (.iad 1), [(.t 84), (.t 85)], (some (74, false))⟩,
   ⟨(some 87), (.ld false 1), [(.t 86)], (some (74, false))⟩,
   ⟨(some 88), (.iad 1), [(.t 83), (.t 87)], (some (74, false))⟩,
   ⟨(some 89), (.ld false 1), [(.t 88)], (some (74, false))⟩,
   ⟨(some 90), (.bin .eql), [(.t 82), (.t 89)], (some (74, false))⟩,
   ⟨(some 91), .mv, [(.t 90)], (some (74, false))⟩,
   ⟨(some 92), .mv, [(.t 6)], (some (91, true))⟩,
   ⟨(some 93), .mv, [(.t 8)], (some (91, true))⟩,
   ⟨(some 94), (.bin .sub), [(.t 93), (.c (.int .i64 1))], (some (91, true))⟩,
   ⟨(some 95), (.iad 1), [(.t 92), (.t 94)], (some (91, true))⟩,
   ⟨(some 96), (.ld false 1), [(.t 95)], (some (91, true))⟩,
   ⟨(some 97), .mv, [(.t 6)], (some (91, true))⟩,
   ⟨(some 98), .mv, [(.t 8)], (some (91, true))⟩,
   ⟨(some 99), (.iad 1), [(.t 97), (.t 98)], (some (91, true))⟩,
   ⟨(some 100), (.ld false 1), [(.t 99)], (some (91, true))⟩,
   ⟨(some 101), (.bin .geq), [(.t 96), (.t 100)], (some (91, true))⟩,
   ⟨(some 102), .pick, [(.t 91), (.t 101), (.c (.bool false))], (some (74, false))⟩,
   ⟨(some 103), .pick, [(.t 74), (.c (.bool true)), (.t 102)], (some (57, true))⟩,
   ⟨(some 104), .pick, [(.t 57), (.t 103), (.c (.bool false))], (some (54, false))⟩,
   ⟨(some 105), .pick, [(.t 54), (.c (.bool true)), (.t 104)], none⟩] [[], [], [0, 1], [2], [3], [4], [5], [5], [6, 7, 5], [8, 5], [5], [10, 5], [9, 11, 5], [5, 12], [13, 5], [14], [15, 14], [16, 14, 14], [17], [17], [17], [20, 17], [19, 21, 17], [22, 17], [18, 23, 17], [24, 17], [17], [17], [17], [27, 28, 17], [29, 17], [26, 30, 17], [31, 17], [25, 32, 17], [33, 17, 17], [34], [34], [34], [37, 34], [36, 38, 34], [39, 34], [35, 40, 34], [41, 34], [34], [34], [34], [44, 45, 34], [46, 34], [43, 47, 34], [48, 34], [42, 49, 34], [50, 34, 34], [51], [51], [53, 51], [52, 54, 51], [55, 51], [51], [51], [57, 58, 51], [59, 51], [56, 60, 51], [51, 61, 34], [34, 62, 17], [17, 63, 14], [14, 64]])
 (.cond (.t 105)
  (.seq
  (.reg false [
    ⟨(some 2), .mv, [(.c (.bool false))], none⟩] [])
  .ret)
  .skip))
 (.seq
 (.reg false [
   ⟨(some 106), .mv, [(.t 7)], none⟩,
   ⟨(some 107), .mv, [(.t 6)], none⟩,
   ⟨(some 108), .mv, [(.t 8)], none⟩,
   ⟨(some 109), (.iad 1), [(.t 107), (.t 108)], none⟩,
   ⟨(some 110), (.ld false 1), [(.t 109)], none⟩,
   ⟨(some 111), (.iad 1), [(.t 106), (.t 110)], none⟩,
   ⟨(some 112), (.ld false 1), [(.t 111)], none⟩,
   ⟨(some 113), (.bin .eql), [(.t 112), (.c (.int .i64 0))], none⟩,
   ⟨(some 9), .mv, [(.t 113)], none⟩] [])
 (.seq
 (.seq
 (.reg false [
   ⟨(some 10), .mv, [(.c (.int .i64 0))], none⟩] [])
 (.block 2
 (.loop
 (.seq
 (.seq
 (.reg false [
   ⟨(some 114), .mv, [(.t 10)], none⟩,
   ⟨(some 115), .mv, [(.t 8)], none⟩,
   ⟨(some 116), (.bin .lss), [(.t 114), (.t 115)], none⟩] [])
 (.cond (.t 116)
  .skip
  (.exit 2)))
 (.seq
 (.block 3
 (.reg true [
   ⟨(some 119), .mv, [(.t 9)], none⟩,
   ⟨(some 120), .mv, [(.t 119)], none⟩,
   ⟨(some 121), .mv, [(.t 7)], (some (120, false))⟩,
   ⟨(some 122), .mv, [(.t 6)], (some (120, false))⟩,
   ⟨(some 123), .mv, [(.t 10)], (some (120, false))⟩,
   ⟨(some 124), (.iad 1), [(.t 122), (.t 123)], (some (120, false))⟩,
   ⟨(some 125), (.ld false 1), [(.t 124)], (some (120, false))⟩,
   ⟨(some 126), (.iad 1), [(.t 121), (.t 125)], (some (120, false))⟩,
   ⟨(some 127), (.ld false 1), [(.t 126)], (some (120, false))⟩,
   ⟨(some 128), .mv, [(.t 7)], (some (120, false))⟩,
   ⟨(some 129), .mv, [(.t 6)], (some (120, false))⟩,
   ⟨(some 130), .mv, [(.t 8)], (some (120, false))⟩,
   ⟨(some 131), (.iad 1), [(.t 129), (.t 130)], (some (120, false))⟩,
   ⟨(some 132), (.ld false 1), [(.t 131)], (some (120, false))⟩,
   ⟨(some 133), (.iad 1), [(.t 128), (.t 132)], (some (120, false))⟩,
   ⟨(some 134), (.ld false 1), [(.t 133)], (some (120, false))⟩,
   ⟨(some 135), (.bin .sub), [(.t 134), (.c (.int .i64 1))], (some (120, false))⟩,
   ⟨(some 136), (.bin .eql), [(.t 127), (.t 135)], (some (120, false))⟩,
   ⟨(some 137), .mv, [(.t 136)], (some (120, false))⟩,
   ⟨(some 138), (.ld true 3), [(.t 4)], (some (137, true))⟩,
   ⟨(some 139), .mv, [(.t 6)], (some (137, true))⟩,
   ⟨(some 140), .mv, [(.t 10)], (some (137, true))⟩,
   ⟨(some 141), (.iad 1), [(.t 139), (.t 140)], (some (137, true))⟩,
   ⟨(some 142), (.ld false 1), [(.t 141)], (some (137, true))⟩,
   ⟨(some 143), .call, [(.f nref11_Out), (.t 138), (.t 142)], (some (137, true))⟩,
   ⟨(some 144), .mv, [(.t 6)], (some (137, true))⟩,
   ⟨(some 145), .mv, [(.t 8)], (some (137, true))⟩,
   ⟨(some 146), (.iad 1), [(.t 144), (.t 145)], (some (137, true))⟩,
   ⟨(some 147), (.ld false 1), [(.t 146)], (some (137, true))⟩,
   ⟨(some 148), .call, [(.f nref11_Has), (.t 143), (.t 147)], (some (137, true))⟩,
   ⟨(some 149), .pick, [(.t 137), (.t 148), (.c (.bool false))], (some (120, false))⟩,
   ⟨(some 150), .pick, [(.t 120), (.c (.bool true)), (.t 149)], none⟩,
   ⟨(some 9), .mv, [(.t 150)], none⟩] [[], [0], [1], [1], [1], [3, 4, 1], [5, 1], [2, 6, 1], [7, 1], [1], [1], [1], [10, 11, 1], [12, 1], [9, 13, 1], [14, 1], [15, 1], [8, 16, 1], [17, 1, 1], [18], [18], [18], [20, 21, 18], [22, 18], [19, 23, 18, 18], [18], [18], [25, 26, 18], [27, 18], [24, 28, 24, 18], [18, 29, 1], [1, 30], [31, 29, 0, 1, 2, 3, 4, 5, 6, 7, 8, 9, 10, 11, 12, 13, 14, 15, 16, 17, 18, 19, 20, 21, 22, 23, 24, 25, 26, 27, 28, 29, 30, 31]]))
 (.reg false [
   ⟨(some 117), .mv, [(.t 10)], none⟩,
   ⟨(some 118), (.bin .add), [(.t 117), (.c (.int .i64 1))], none⟩,
   ⟨(some 10), .mv, [(.t 118)], none⟩] []))))))
 (.seq
 (.reg false [
   ⟨(some 151), .mv, [(.t 9)], none⟩,
   ⟨(some 152), (.un .not), [(.t 151)], none⟩,
   ⟨(some 153), .mv, [(.t 152)], none⟩,
   ⟨(some 154), .mv, [(.t 7)], (some (153, false))⟩,
   ⟨(some 155), .mv, [(.t 6)], (some (153, false))⟩,
   ⟨(some 156), .mv, [(.t 8)], (some (153, false))⟩,
   ⟨(some 157), (.iad 1), [(.t 155), (.t 156)], (some (153, false))⟩,
   ⟨(some 158), (.ld false 1), [(.t 157)], (some (153, false))⟩,
   ⟨(some 159), (.iad 1), [(.t 154), (.t 158)], (some (153, false))⟩,
   ⟨(some 160), (.ld false 1), [(.t 159)], (some (153, false))⟩,
   ⟨(some 161), (.bin .eql), [(.t 160), (.c (.int .i64 0))], (some (153, false))⟩,
   ⟨(some 162), .mv, [(.t 161)], (some (153, false))⟩,
   ⟨(some 163), .mv, [(.t 5)], (some (162, true))⟩,
   ⟨(some 164), .mv, [(.t 6)], (some (162, true))⟩,
   ⟨(some 165), .mv, [(.t 8)], (some (162, true))⟩,
   ⟨(some 166), (.iad 1), [(.t 164), (.t 165)], (some (162, true))⟩,
   ⟨(some 167), (.ld false 1), [(.t 166)], (some (162, true))⟩,
   ⟨(some 168), .call, [(.f nref11_Has), (.t 163), (.t 167)], (some (162, true))⟩,
   ⟨(some 169), (.un .not), [(.t 168)], (some (162, true))⟩,
   ⟨(some 170), .pick, [(.t 162), (.t 169), (.c (.bool false))], (some (153, false))⟩,
   ⟨(some 171), .pick, [(.t 153), (.c (.bool true)), (.t 170)], none⟩] [])
 (.cond (.t 171)
  (.seq
  (.reg false [
    ⟨(some 2), .mv, [(.c (.bool false))], none⟩] [])
  .ret)
  .skip))))))
 (.reg false [
   ⟨(some 38), .mv, [(.t 8)], none⟩,
   ⟨(some 39), (.bin .add), [(.t 38), (.c (.int .i64 1))], none⟩,
   ⟨(some 8), .mv, [(.t 39)], none⟩] []))))))
 (.seq
 (.reg false [
   ⟨(some 172), .call, [(.f nlaw12_awake)], none⟩,
   ⟨(some 2), .mv, [(.t 172)], none⟩] [])
 .ret)))))))))⟩

def cmade_Light : AFun := ⟨6, [(2, none)],
 (.seq
 (.reg false [
   ⟨(some 2), .mv, [(.c (.bool false))], none⟩] [])
 (.seq
 (.reg false [
   ⟨(some 3), .mv, [(.t 0)], none⟩,
   ⟨(some 4), .len, [(.t 3)], none⟩,
   ⟨(some 5), (.bin .leq), [(.t 4), (.c (.int .i64 400))], none⟩,
   ⟨(some 2), .mv, [(.t 5)], none⟩] [])
 .ret))⟩

def cmade_Roll : AFun := ⟨6, [(2, none)],
 (.seq
 (.reg false [
   ⟨(some 2), .mv, [(.c (.pointer none))], none⟩] [])
 (.seq
 (.reg false [
   ⟨(some 3), .mv, [(.t 0)], none⟩,
   ⟨(some 4), (.build [(.slice none 0 0), (.int .i64 0)] [(0, 1)]), [(.t 3)], none⟩,
   ⟨(some 5), (.box 2), [(.t 4)], none⟩,
   ⟨(some 2), .mv, [(.t 5)], none⟩] [])
 .ret))⟩

def cmade_Dice_Next : AFun := ⟨35, [(4, none)],
 (.seq
 (.reg false [
   ⟨(some 4), .mv, [(.c (.int .i64 0))], none⟩] [])
 (.seq
 (.seq
 (.reg true [
   ⟨(some 5), .mv, [(.t 0)], none⟩,
   ⟨(some 6), .nil, [(.t 5)], none⟩,
   ⟨(some 7), (.fad 1), [(.t 6)], none⟩,
   ⟨(some 8), (.ld false 1), [(.t 7)], none⟩,
   ⟨(some 9), .mv, [(.t 0)], none⟩,
   ⟨(some 10), .nil, [(.t 9)], none⟩,
   ⟨(some 11), (.fad 0), [(.t 10)], none⟩,
   ⟨(some 12), (.ld false 1), [(.t 11)], none⟩,
   ⟨(some 13), .len, [(.t 12)], none⟩,
   ⟨(some 14), (.bin .geq), [(.t 8), (.t 13)], none⟩] [[], [0], [1], [2], [], [4], [5], [6], [7], [3, 8]])
 (.cond (.t 14)
  (.seq
  (.reg false [
    ⟨(some 4), .mv, [(.c (.int .i64 0))], none⟩] [])
  .ret)
  .skip))
 (.seq
 (.reg false [
   ⟨(some 15), .mv, [(.t 0)], none⟩,
   ⟨(some 16), .nil, [(.t 15)], none⟩,
   ⟨(some 17), (.fad 1), [(.t 16)], none⟩,
   ⟨(some 18), (.ld false 1), [(.t 17)], none⟩,
   ⟨(some 19), (.bin .add), [(.t 18), (.c (.int .i64 1))], none⟩,
   ⟨(some 20), .nil, [(.t 15)], none⟩,
   ⟨(some 21), (.fad 1), [(.t 20)], none⟩,
   ⟨none, (.st 1), [(.t 21), (.t 19)], none⟩] [])
 (.seq
 (.reg true [
   ⟨(some 22), .mv, [(.t 0)], none⟩,
   ⟨(some 23), .nil, [(.t 22)], none⟩,
   ⟨(some 24), (.fad 0), [(.t 23)], none⟩,
   ⟨(some 25), (.ld false 1), [(.t 24)], none⟩,
   ⟨(some 26), .mv, [(.t 0)], none⟩,
   ⟨(some 27), .nil, [(.t 26)], none⟩,
   ⟨(some 28), (.fad 1), [(.t 27)], none⟩,
   ⟨(some 29), (.ld false 1), [(.t 28)], none⟩,
   ⟨(some 30), (.bin .sub), [(.t 29), (.c (.int .i64 1))], none⟩,
   ⟨(some 31), (.iad 1), [(.t 25), (.t 30)], none⟩,
   ⟨(some 32), (.ld false 1), [(.t 31)], none⟩,
   ⟨(some 33), .mv, [(.t 1)], none⟩,
   ⟨(some 34), .call, [(.f nmade_Mod), (.t 32), (.t 33)], none⟩,
   ⟨(some 4), .mv, [(.t 34)], none⟩] [[], [0], [1], [2], [], [4], [5], [6], [7], [3, 8], [9], [], [10, 11], [12, 12, 0, 1, 2, 3, 4, 5, 6, 7, 8, 9, 10, 11, 12]])
 .ret))))⟩

def cmade_Dice_Of : AFun := ⟨12, [(4, none)],
 (.seq
 (.reg false [
   ⟨(some 4), .mv, [(.c (.int .i64 0))], none⟩] [])
 (.seq
 (.reg false [
   ⟨(some 5), .mv, [(.t 1)], none⟩,
   ⟨(some 6), .mv, [(.t 0)], none⟩,
   ⟨(some 7), .mv, [(.t 1)], none⟩,
   ⟨(some 8), .len, [(.t 7)], none⟩,
   ⟨(some 9), .call, [(.f nmade_Dice_Next), (.t 6), (.t 8)], none⟩,
   ⟨(some 10), (.iad 1), [(.t 5), (.t 9)], none⟩,
   ⟨(some 11), (.ld false 1), [(.t 10)], none⟩,
   ⟨(some 4), .mv, [(.t 11)], none⟩] [])
 .ret))⟩

def cmade_Dice_One : AFun := ⟨11, [(4, none)],
 (.seq
 (.reg false [
   ⟨(some 4), .mv, [(.c (.bool false))], none⟩] [])
 (.seq
 (.reg false [
   ⟨(some 5), .mv, [(.t 0)], none⟩,
   ⟨(some 6), .mv, [(.t 1)], none⟩,
   ⟨(some 7), .call, [(.f nmade_Dice_Next), (.t 5), (.t 6)], none⟩,
   ⟨(some 8), .mv, [(.t 1)], none⟩,
   ⟨(some 9), (.bin .sub), [(.t 8), (.c (.int .i64 1))], none⟩,
   ⟨(some 10), (.bin .eql), [(.t 7), (.t 9)], none⟩,
   ⟨(some 4), .mv, [(.t 10)], none⟩] [])
 .ret))⟩

def cmade_Mod : AFun := ⟨16, [(4, none)],
 (.seq
 (.reg false [
   ⟨(some 4), .mv, [(.c (.int .i64 0))], none⟩] [])
 (.seq
 (.seq
 (.reg false [
   ⟨(some 5), .mv, [(.t 1)], none⟩,
   ⟨(some 6), (.bin .lss), [(.t 5), (.c (.int .i64 1))], none⟩] [])
 (.cond (.t 6)
  (.seq
  (.reg false [
    ⟨(some 4), .mv, [(.c (.int .i64 0))], none⟩] [])
  .ret)
  .skip))
 (.seq
 (.reg false [
   ⟨(some 7), .mv, [(.t 0)], none⟩,
   ⟨(some 8), .mv, [(.t 1)], none⟩,
   ⟨(some 9), (.bin .rem), [(.t 7), (.t 8)], none⟩,
   ⟨(some 0), .mv, [(.t 9)], none⟩] [])
 (.seq
 (.seq
 (.reg false [
   ⟨(some 10), .mv, [(.t 0)], none⟩,
   ⟨(some 11), (.bin .lss), [(.t 10), (.c (.int .i64 0))], none⟩] [])
 (.cond (.t 11)
  (.reg false [
    ⟨(some 12), .mv, [(.t 0)], none⟩,
    ⟨(some 13), .mv, [(.t 1)], none⟩,
    ⟨(some 14), (.bin .add), [(.t 12), (.t 13)], none⟩,
    ⟨(some 0), .mv, [(.t 14)], none⟩] [])
  .skip))
 (.seq
 (.reg false [
   ⟨(some 15), .mv, [(.t 0)], none⟩,
   ⟨(some 4), .mv, [(.t 15)], none⟩] [])
 .ret)))))⟩

def cmade_Dice_Graph : AFun := ⟨53, [(2, some (true, 3))],
 (.seq
 (.reg false [
   ⟨(some 2), (.alloc [(.int .i64 0), (.slice none 0 0), (.slice none 0 0)]), [], none⟩] [])
 (.seq
 (.reg false [
   ⟨(some 7), .mv, [(.t 0)], none⟩,
   ⟨(some 8), .call, [(.f nmade_Dice_Next), (.t 7), (.c (.int .i64 8))], none⟩,
   ⟨(some 9), (.bin .add), [(.c (.int .i64 2)), (.t 8)], none⟩,
   ⟨(some 10), (.build [(.int .i64 0), (.slice none 0 0), (.slice none 0 0)] [(0, 1)]), [(.t 9)], none⟩,
   ⟨(some 3), (.alloc [(.int .i64 0), (.slice none 0 0), (.slice none 0 0)]), [], none⟩,
   ⟨none, (.st 3), [(.t 3), (.t 10)], none⟩] [])
 (.seq
 (.seq
 (.reg false [
   ⟨(some 11), .mv, [(.t 0)], none⟩,
   ⟨(some 12), .nil, [(.t 11)], none⟩,
   ⟨(some 13), (.fad 0), [(.t 12)], none⟩,
   ⟨(some 14), (.ld false 1), [(.t 13)], none⟩,
   ⟨(some 15), .len, [(.t 14)], none⟩,
   ⟨(some 16), (.bin .eql), [(.t 15), (.c (.int .i64 0))], none⟩] [])
 (.cond (.t 16)
  (.reg false [
    ⟨(some 17), (.fad 0), [(.t 3)], none⟩,
    ⟨none, (.st 1), [(.t 17), (.c (.int .i64 4))], none⟩] [])
  .skip))
 (.seq
 (.seq
 (.reg false [
   ⟨(some 18), .mv, [(.t 0)], none⟩,
   ⟨(some 19), .call, [(.f nmade_Dice_One), (.t 18), (.c (.int .i64 8))], none⟩] [])
 (.cond (.t 19)
  (.reg false [
    ⟨(some 20), .mv, [(.t 0)], none⟩,
    ⟨(some 21), (.fad 0), [(.t 3)], none⟩,
    ⟨(some 22), (.ld false 1), [(.t 21)], none⟩,
    ⟨(some 23), .call, [(.f nmade_Dice_Next), (.t 20), (.t 22)], none⟩,
    ⟨(some 24), (.bsl 1 1 [(.int .i64 0)] [0]), [(.t 23)], none⟩,
    ⟨(some 25), (.fad 2), [(.t 3)], none⟩,
    ⟨none, (.st 1), [(.t 25), (.t 24)], none⟩] [])
  .skip))
 (.seq
 (.seq
 (.reg false [
   ⟨(some 26), .mv, [(.t 0)], none⟩,
   ⟨(some 27), .call, [(.f nmade_Dice_Next), (.t 26), (.c (.int .i64 23))], none⟩,
   ⟨(some 4), .mv, [(.t 27)], none⟩] [])
 (.block 0
 (.loop
 (.seq
 (.seq
 (.reg false [
   ⟨(some 28), .mv, [(.t 4)], none⟩,
   ⟨(some 29), (.bin .gtr), [(.t 28), (.c (.int .i64 0))], none⟩] [])
 (.cond (.t 29)
  .skip
  (.exit 0)))
 (.seq
 (.block 1
 (.seq
 (.reg true [
   ⟨(some 33), (.ld true 3), [(.t 3)], none⟩,
   ⟨(some 34), .mv, [(.t 0)], none⟩,
   ⟨(some 35), (.fad 0), [(.t 3)], none⟩,
   ⟨(some 36), (.ld false 1), [(.t 35)], none⟩,
   ⟨(some 37), .call, [(.f nmade_Dice_Next), (.t 34), (.t 36)], none⟩,
   ⟨(some 38), .mv, [(.t 0)], none⟩,
   ⟨(some 39), (.fad 0), [(.t 3)], none⟩,
   ⟨(some 40), (.ld false 1), [(.t 39)], none⟩,
   ⟨(some 41), .call, [(.f nmade_Dice_Next), (.t 38), (.t 40)], none⟩,
   ⟨(some 42), .mv, [(.t 0)], none⟩,
   ⟨(some 43), .call, [(.f nmade_Dice_Next), (.t 42), (.c (.int .i64 3))], none⟩,
   ⟨(some 44), (.bin .add), [(.c (.int .i64 1)), (.t 43)], none⟩,
   ⟨(some 45), (.build [(.int .i64 0), (.int .i64 0), (.int .i64 0)] [(0, 1), (1, 1), (2, 1)]), [(.t 37), (.t 41), (.t 44)], none⟩,
   ⟨(some 46), .call, [(.f nref11_With), (.t 33), (.t 45)], none⟩,
   ⟨(some 32), .mv, [(.t 46)], none⟩,
   ⟨(some 47), (.ext 0), [(.t 32)], none⟩,
   ⟨(some 48), (.ext 1), [(.t 32)], none⟩,
   ⟨(some 5), (.alloc [(.int .i64 0), (.slice none 0 0), (.slice none 0 0)]), [], none⟩,
   ⟨none, (.st 3), [(.t 5), (.t 47)], none⟩,
   ⟨(some 6), .mv, [(.t 48)], none⟩] [[], [], [], [2], [1, 3], [], [], [6], [5, 7, 4], [], [9, 8], [10], [4, 8, 11], [0, 12, 10], [13], [14], [14], [], [17, 15, 13, 0, 1, 2, 3, 4, 5, 6, 7, 8, 9, 10, 11, 12, 13, 14, 15, 17], [16, 18, 0, 1, 2, 3, 4, 5, 6, 7, 8, 9, 10, 11, 12, 13, 14, 15, 16, 17, 18]])
 (.seq
 (.reg false [
   ⟨(some 49), .mv, [(.t 6)], none⟩,
   ⟨(some 50), (.bin .eql), [(.t 49), (.c (.int .i64 0))], none⟩] [])
 (.cond (.t 50)
  (.reg false [
    ⟨(some 51), (.ld true 3), [(.t 5)], none⟩,
    ⟨none, (.st 3), [(.t 3), (.t 51)], none⟩] [])
  .skip))))
 (.reg false [
   ⟨(some 30), .mv, [(.t 4)], none⟩,
   ⟨(some 31), (.bin .sub), [(.t 30), (.c (.int .i64 1))], none⟩,
   ⟨(some 4), .mv, [(.t 31)], none⟩] []))))))
 (.seq
 (.reg false [
   ⟨(some 52), (.ld true 3), [(.t 3)], none⟩,
   ⟨none, (.st 3), [(.t 2), (.t 52)], none⟩] [])
 .ret))))))⟩

def cref11_Out : AFun := ⟨32, [(4, none)],
 (.seq
 (.reg false [
   ⟨(some 2), (.box 3), [(.t 0)], none⟩,
   ⟨(some 4), .mv, [(.c (.slice none 0 0))], none⟩] [])
 (.seq
 (.reg false [
   ⟨(some 5), .mv, [(.c (.slice none 0 0))], none⟩] [])
 (.seq
 (.seq
 (.reg false [
   ⟨(some 6), .mv, [(.c (.int .i64 0))], none⟩] [])
 (.block 0
 (.loop
 (.seq
 (.seq
 (.reg false [
   ⟨(some 7), .mv, [(.t 6)], none⟩,
   ⟨(some 8), (.fad 1), [(.t 2)], none⟩,
   ⟨(some 9), (.ld false 1), [(.t 8)], none⟩,
   ⟨(some 10), .len, [(.t 9)], none⟩,
   ⟨(some 11), (.bin .lss), [(.t 7), (.t 10)], none⟩] [])
 (.cond (.t 11)
  .skip
  (.exit 0)))
 (.seq
 (.block 1
 (.seq
 (.reg false [
   ⟨(some 14), (.fad 1), [(.t 2)], none⟩,
   ⟨(some 15), (.ld false 1), [(.t 14)], none⟩,
   ⟨(some 16), .mv, [(.t 6)], none⟩,
   ⟨(some 17), (.iad 3), [(.t 15), (.t 16)], none⟩,
   ⟨(some 18), (.fad 0), [(.t 17)], none⟩,
   ⟨(some 19), (.ld false 1), [(.t 18)], none⟩,
   ⟨(some 20), .mv, [(.t 1)], none⟩,
   ⟨(some 21), (.bin .eql), [(.t 19), (.t 20)], none⟩] [])
 (.cond (.t 21)
  (.reg false [
    ⟨(some 22), .mv, [(.t 5)], none⟩,
    ⟨(some 23), (.fad 1), [(.t 2)], none⟩,
    ⟨(some 24), (.ld false 1), [(.t 23)], none⟩,
    ⟨(some 25), .mv, [(.t 6)], none⟩,
    ⟨(some 26), (.iad 3), [(.t 24), (.t 25)], none⟩,
    ⟨(some 27), (.fad 1), [(.t 26)], none⟩,
    ⟨(some 28), (.ld false 1), [(.t 27)], none⟩,
    ⟨(some 29), (.bsl 1 1 [(.int .i64 0)] [0]), [(.t 28)], none⟩,
    ⟨(some 30), (.app 1 8), [(.t 22), (.t 29)], none⟩,
    ⟨(some 5), .mv, [(.t 30)], none⟩] [])
  .skip)))
 (.reg false [
   ⟨(some 12), .mv, [(.t 6)], none⟩,
   ⟨(some 13), (.bin .add), [(.t 12), (.c (.int .i64 1))], none⟩,
   ⟨(some 6), .mv, [(.t 13)], none⟩] []))))))
 (.seq
 (.reg false [
   ⟨(some 31), .mv, [(.t 5)], none⟩,
   ⟨(some 4), .mv, [(.t 31)], none⟩] [])
 .ret))))⟩

def cref11_In : AFun := ⟨32, [(4, none)],
 (.seq
 (.reg false [
   ⟨(some 2), (.box 3), [(.t 0)], none⟩,
   ⟨(some 4), .mv, [(.c (.slice none 0 0))], none⟩] [])
 (.seq
 (.reg false [
   ⟨(some 5), .mv, [(.c (.slice none 0 0))], none⟩] [])
 (.seq
 (.seq
 (.reg false [
   ⟨(some 6), .mv, [(.c (.int .i64 0))], none⟩] [])
 (.block 0
 (.loop
 (.seq
 (.seq
 (.reg false [
   ⟨(some 7), .mv, [(.t 6)], none⟩,
   ⟨(some 8), (.fad 1), [(.t 2)], none⟩,
   ⟨(some 9), (.ld false 1), [(.t 8)], none⟩,
   ⟨(some 10), .len, [(.t 9)], none⟩,
   ⟨(some 11), (.bin .lss), [(.t 7), (.t 10)], none⟩] [])
 (.cond (.t 11)
  .skip
  (.exit 0)))
 (.seq
 (.block 1
 (.seq
 (.reg false [
   ⟨(some 14), (.fad 1), [(.t 2)], none⟩,
   ⟨(some 15), (.ld false 1), [(.t 14)], none⟩,
   ⟨(some 16), .mv, [(.t 6)], none⟩,
   ⟨(some 17), (.iad 3), [(.t 15), (.t 16)], none⟩,
   ⟨(some 18), (.fad 1), [(.t 17)], none⟩,
   ⟨(some 19), (.ld false 1), [(.t 18)], none⟩,
   ⟨(some 20), .mv, [(.t 1)], none⟩,
   ⟨(some 21), (.bin .eql), [(.t 19), (.t 20)], none⟩] [])
 (.cond (.t 21)
  (.reg false [
    ⟨(some 22), .mv, [(.t 5)], none⟩,
    ⟨(some 23), (.fad 1), [(.t 2)], none⟩,
    ⟨(some 24), (.ld false 1), [(.t 23)], none⟩,
    ⟨(some 25), .mv, [(.t 6)], none⟩,
    ⟨(some 26), (.iad 3), [(.t 24), (.t 25)], none⟩,
    ⟨(some 27), (.fad 0), [(.t 26)], none⟩,
    ⟨(some 28), (.ld false 1), [(.t 27)], none⟩,
    ⟨(some 29), (.bsl 1 1 [(.int .i64 0)] [0]), [(.t 28)], none⟩,
    ⟨(some 30), (.app 1 8), [(.t 22), (.t 29)], none⟩,
    ⟨(some 5), .mv, [(.t 30)], none⟩] [])
  .skip)))
 (.reg false [
   ⟨(some 12), .mv, [(.t 6)], none⟩,
   ⟨(some 13), (.bin .add), [(.t 12), (.c (.int .i64 1))], none⟩,
   ⟨(some 6), .mv, [(.t 13)], none⟩] []))))))
 (.seq
 (.reg false [
   ⟨(some 31), .mv, [(.t 5)], none⟩,
   ⟨(some 4), .mv, [(.t 31)], none⟩] [])
 .ret))))⟩

def cgraph_Level : AFun := ⟨14, [(4, some (true, 3))],
 (.seq
 (.reg false [
   ⟨(some 2), (.box 3), [(.t 0)], none⟩,
   ⟨(some 3), (.box 1), [(.t 1)], none⟩,
   ⟨(some 4), (.alloc [(.int .i64 0), (.slice none 0 0), (.slice none 0 0)]), [], none⟩] [])
 (.seq
 (.reg false [
   ⟨(some 6), (.ld true 3), [(.t 2)], none⟩,
   ⟨(some 7), .call, [(.f ngraph_copied), (.t 6)], none⟩,
   ⟨(some 5), (.alloc [(.int .i64 0), (.slice none 0 0), (.slice none 0 0)]), [], none⟩,
   ⟨none, (.st 3), [(.t 5), (.t 7)], none⟩] [])
 (.seq
 (.reg false [
   ⟨(some 8), (.fad 1), [(.t 5)], none⟩,
   ⟨(some 9), (.ld false 1), [(.t 8)], none⟩,
   ⟨(some 10), (.mkf ngraph_Level_c1), [(.t 3)], none⟩,
   ⟨(some 11), .call, [(.f nslices_DeleteFunc_Lapi_Edge_api_Edge), (.t 9), (.t 10)], none⟩,
   ⟨(some 12), (.fad 1), [(.t 5)], none⟩,
   ⟨none, (.st 1), [(.t 12), (.t 11)], none⟩] [])
 (.seq
 (.reg false [
   ⟨(some 13), (.ld true 3), [(.t 5)], none⟩,
   ⟨none, (.st 3), [(.t 4), (.t 13)], none⟩] [])
 .ret))))⟩

def cref11_Level : AFun := ⟨36, [(4, some (true, 3))],
 (.seq
 (.reg false [
   ⟨(some 2), (.box 3), [(.t 0)], none⟩,
   ⟨(some 4), (.alloc [(.int .i64 0), (.slice none 0 0), (.slice none 0 0)]), [], none⟩] [])
 (.seq
 (.reg false [
   ⟨(some 7), (.ld true 3), [(.t 2)], none⟩,
   ⟨(some 8), .call, [(.f nref11_Copy), (.t 7)], none⟩,
   ⟨(some 5), (.alloc [(.int .i64 0), (.slice none 0 0), (.slice none 0 0)]), [], none⟩,
   ⟨none, (.st 3), [(.t 5), (.t 8)], none⟩] [])
 (.seq
 (.reg false [
   ⟨(some 9), (.fad 1), [(.t 5)], none⟩,
   ⟨none, (.st 1), [(.t 9), (.c (.slice none 0 0))], none⟩] [])
 (.seq
 (.seq
 (.reg false [
   ⟨(some 6), .mv, [(.c (.int .i64 0))], none⟩] [])
 (.block 0
 (.loop
 (.seq
 (.seq
 (.reg false [
   ⟨(some 10), .mv, [(.t 6)], none⟩,
   ⟨(some 11), (.fad 1), [(.t 2)], none⟩,
   ⟨(some 12), (.ld false 1), [(.t 11)], none⟩,
   ⟨(some 13), .len, [(.t 12)], none⟩,
   ⟨(some 14), (.bin .lss), [(.t 10), (.t 13)], none⟩] [])
 (.cond (.t 14)
  .skip
  (.exit 0)))
 (.seq
 (.block 1
 (.seq
 (.reg false [
   ⟨(some 17), (.fad 1), [(.t 2)], none⟩,
   ⟨(some 18), (.ld false 1), [(.t 17)], none⟩,
   ⟨(some 19), .mv, [(.t 6)], none⟩,
   ⟨(some 20), (.iad 3), [(.t 18), (.t 19)], none⟩,
   ⟨(some 21), (.fad 2), [(.t 20)], none⟩,
   ⟨(some 22), (.ld false 1), [(.t 21)], none⟩,
   ⟨(some 23), .mv, [(.t 1)], none⟩,
   ⟨(some 24), (.bin .geq), [(.t 22), (.t 23)], none⟩] [])
 (.cond (.t 24)
  (.reg true [
    ⟨(some 25), (.fad 1), [(.t 5)], none⟩,
    ⟨(some 26), (.ld false 1), [(.t 25)], none⟩,
    ⟨(some 27), (.fad 1), [(.t 2)], none⟩,
    ⟨(some 28), (.ld false 1), [(.t 27)], none⟩,
    ⟨(some 29), .mv, [(.t 6)], none⟩,
    ⟨(some 30), (.iad 3), [(.t 28), (.t 29)], none⟩,
    ⟨(some 31), (.ld true 3), [(.t 30)], none⟩,
    ⟨(some 32), (.bsl 3 1 [(.int .i64 0), (.int .i64 0), (.int .i64 0)] [0]), [(.t 31)], none⟩,
    ⟨(some 33), (.app 3 24), [(.t 26), (.t 32)], none⟩,
    ⟨(some 34), (.fad 1), [(.t 5)], none⟩,
    ⟨none, (.st 1), [(.t 34), (.t 33)], none⟩] [[], [0], [], [2], [], [3, 4], [5], [6], [1, 7], [0, 1, 2, 3, 4, 5, 6, 7, 8], [9, 8, 8, 0, 1, 2, 3, 4, 5, 6, 7, 8]])
  .skip)))
 (.reg false [
   ⟨(some 15), .mv, [(.t 6)], none⟩,
   ⟨(some 16), (.bin .add), [(.t 15), (.c (.int .i64 1))], none⟩,
   ⟨(some 6), .mv, [(.t 16)], none⟩] []))))))
 (.seq
 (.reg false [
   ⟨(some 35), (.ld true 3), [(.t 5)], none⟩,
   ⟨none, (.st 3), [(.t 4), (.t 35)], none⟩] [])
 .ret)))))⟩

def claw12_awake : AFun := ⟨62, [(0, none)],
 (.seq
 (.reg false [
   ⟨(some 0), .mv, [(.c (.bool false))], none⟩] [])
 (.seq
 (.reg false [
   ⟨(some 6), (.build [(.int .i64 0), (.int .i64 0), (.int .i64 0)] [(0, 1), (1, 1), (2, 1)]), [(.c (.int .i64 0)), (.c (.int .i64 2)), (.c (.int .i64 1))], none⟩,
   ⟨(some 7), (.build [(.int .i64 0), (.int .i64 0), (.int .i64 0)] [(0, 1), (1, 1), (2, 1)]), [(.c (.int .i64 2)), (.c (.int .i64 1)), (.c (.int .i64 1))], none⟩,
   ⟨(some 8), (.bsl 3 2 [(.int .i64 0), (.int .i64 0), (.int .i64 0)] [0, 1]), [(.t 6), (.t 7)], none⟩,
   ⟨(some 9), (.build [(.int .i64 0), (.slice none 0 0), (.slice none 0 0)] [(0, 1), (1, 1)]), [(.c (.int .i64 4)), (.t 8)], none⟩,
   ⟨(some 1), (.alloc [(.int .i64 0), (.slice none 0 0), (.slice none 0 0)]), [], none⟩,
   ⟨none, (.st 3), [(.t 1), (.t 9)], none⟩] [])
 (.seq
 (.reg false [
   ⟨(some 10), (.ld true 3), [(.t 1)], none⟩,
   ⟨(some 11), (.bsl 1 1 [(.int .i64 0)] [0]), [(.c (.int .i64 0))], none⟩,
   ⟨(some 12), .call, [(.f ndistance_All), (.t 10), (.t 11)], none⟩,
   ⟨(some 2), .mv, [(.t 12)], none⟩] [])
 (.seq
 (.reg false [
   ⟨(some 13), (.ld true 3), [(.t 1)], none⟩,
   ⟨(some 14), (.bsl 1 1 [(.int .i64 0)] [0]), [(.c (.int .i64 0))], none⟩,
   ⟨(some 15), .call, [(.f ndistance_Order), (.t 13), (.t 14)], none⟩,
   ⟨(some 3), .mv, [(.t 15)], none⟩] [])
 (.seq
 (.reg false [
   ⟨(some 17), (.ld true 3), [(.t 1)], none⟩,
   ⟨(some 18), (.bsl 1 1 [(.int .i64 0)] [0]), [(.c (.int .i64 0))], none⟩,
   ⟨(some 19), .call, [(.f ndistance_Way), (.t 17), (.t 18), (.c (.int .i64 1))], none⟩,
   ⟨(some 16), .mv, [(.t 19)], none⟩,
   ⟨(some 20), (.ext 0), [(.t 16)], none⟩,
   ⟨(some 21), (.ext 1), [(.t 16)], none⟩,
   ⟨(some 4), .mv, [(.t 20)], none⟩,
   ⟨(some 5), .mv, [(.t 21)], none⟩] [])
 (.seq
 (.reg false [
   ⟨(some 22), .mv, [(.t 2)], none⟩,
   ⟨(some 23), .len, [(.t 22)], none⟩,
   ⟨(some 24), (.bin .eql), [(.t 23), (.c (.int .i64 4))], none⟩,
   ⟨(some 25), .mv, [(.t 24)], none⟩,
   ⟨(some 26), .mv, [(.t 2)], (some (25, true))⟩,
   ⟨(some 27), (.iad 1), [(.t 26), (.c (.int .i64 1))], (some (25, true))⟩,
   ⟨(some 28), (.ld false 1), [(.t 27)], (some (25, true))⟩,
   ⟨(some 29), (.bin .eql), [(.t 28), (.c (.int .i64 2))], (some (25, true))⟩,
   ⟨(some 30), .pick, [(.t 25), (.t 29), (.c (.bool false))], none⟩,
   ⟨(some 31), .mv, [(.t 30)], none⟩,
   ⟨(some 32), .mv, [(.t 2)], (some (31, true))⟩,
   ⟨(some 33), (.iad 1), [(.t 32), (.c (.int .i64 2))], (some (31, true))⟩,
   ⟨(some 34), (.ld false 1), [(.t 33)], (some (31, true))⟩,
   ⟨(some 35), (.bin .eql), [(.t 34), (.c (.int .i64 1))], (some (31, true))⟩,
   ⟨(some 36), .pick, [(.t 31), (.t 35), (.c (.bool false))], none⟩,
   ⟨(some 37), .mv, [(.t 36)], none⟩,
   ⟨(some 38), .mv, [(.t 2)], (some (37, true))⟩,
   ⟨(some 39), (.iad 1), [(.t 38), (.c (.int .i64 3))], (some (37, true))⟩,
   ⟨(some 40), (.ld false 1), [(.t 39)], (some (37, true))⟩,
   ⟨(some 41), (.bin .eql), [(.t 40), (.c (.int .i64 (-1)))], (some (37, true))⟩,
   ⟨(some 42), .pick, [(.t 37), (.t 41), (.c (.bool false))], none⟩,
   ⟨(some 43), .mv, [(.t 42)], none⟩,
   ⟨(some 44), .mv, [(.t 3)], (some (43, true))⟩,
   ⟨(some 45), .len, [(.t 44)], (some (43, true))⟩,
   ⟨(some 46), (.bin .eql), [(.t 45), (.c (.int .i64 3))], (some (43, true))⟩,
   ⟨(some 47), .pick, [(.t 43), (.t 46), (.c (.bool false))], none⟩,
   ⟨(some 48), .mv, [(.t 47)], none⟩,
   ⟨(some 49), .mv, [(.t 3)], (some (48, true))⟩,
   ⟨(some 50), (.iad 1), [(.t 49), (.c (.int .i64 1))], (some (48, true))⟩,
   ⟨(some 51), (.ld false 1), [(.t 50)], (some (48, true))⟩,
   ⟨(some 52), (.bin .eql), [(.t 51), (.c (.int .i64 2))], (some (48, true))⟩,
   ⟨(some 53), .pick, [(.t 48), (.t 52), (.c (.bool false))], none⟩,
   ⟨(some 54), .mv, [(.t 53)], none⟩,
   ⟨(some 55), .mv, [(.t 5)], (some (54, true))⟩,
   ⟨(some 56), .pick, [(.t 54), (.t 55), (.c (.bool false))], none⟩,
   ⟨(some 57), .mv, [(.t 56)], none⟩,
   ⟨(some 58), .mv, [(.t 4)], (some (57, true))⟩,
   ⟨(some 59), .len, [(.t 58)], (some (57, true))⟩,
   ⟨(some 60), (.bin .eql), [(.t 59), (.c (.int .i64 3))], (some (57, true))⟩,
   ⟨(some 61), .pick, [(.t 57), (.t 60), (.c (.bool false))], none⟩,
   ⟨(some 0), .mv, [(.t 61)], none⟩] [])
 .ret))))))⟩

def claw12_agree : AFun := ⟨55, [(4, none)],
 (.seq
 (.reg false [
   ⟨(some 2), (.box 3), [(.t 0)], none⟩,
   ⟨(some 4), .mv, [(.c (.bool false))], none⟩] [])
 (.seq
 (.seq
 (.reg false [
   ⟨(some 5), .mv, [(.c (.int .i64 (-1)))], none⟩] [])
 (.block 0
 (.loop
 (.seq
 (.seq
 (.reg false [
   ⟨(some 10), .mv, [(.t 5)], none⟩,
   ⟨(some 11), (.fad 0), [(.t 2)], none⟩,
   ⟨(some 12), (.ld false 1), [(.t 11)], none⟩,
   ⟨(some 13), (.bin .leq), [(.t 10), (.t 12)], none⟩] [])
 (.cond (.t 13)
  .skip
  (.exit 0)))
 (.seq
 (.block 1
 (.seq
 (.reg false [
   ⟨(some 17), (.ld true 3), [(.t 2)], none⟩,
   ⟨(some 18), .mv, [(.t 1)], none⟩,
   ⟨(some 19), .mv, [(.t 5)], none⟩,
   ⟨(some 20), .call, [(.f ndistance_Way), (.t 17), (.t 18), (.t 19)], none⟩,
   ⟨(some 16), .mv, [(.t 20)], none⟩,
   ⟨(some 21), (.ext 0), [(.t 16)], none⟩,
   ⟨(some 22), (.ext 1), [(.t 16)], none⟩,
   ⟨(some 6), .mv, [(.t 21)], none⟩,
   ⟨(some 7), .mv, [(.t 22)], none⟩] [])
 (.seq
 (.reg false [
   ⟨(some 24), (.ld true 3), [(.t 2)], none⟩,
   ⟨(some 25), .mv, [(.t 1)], none⟩,
   ⟨(some 26), .mv, [(.t 5)], none⟩,
   ⟨(some 27), .call, [(.f nref12_Way), (.t 24), (.t 25), (.t 26)], none⟩,
   ⟨(some 23), .mv, [(.t 27)], none⟩,
   ⟨(some 28), (.ext 0), [(.t 23)], none⟩,
   ⟨(some 29), (.ext 1), [(.t 23)], none⟩,
   ⟨(some 8), .mv, [(.t 28)], none⟩,
   ⟨(some 9), .mv, [(.t 29)], none⟩] [])
 (.seq
 (.reg false [
   ⟨(some 30), .mv, [(.t 7)], none⟩,
   ⟨(some 31), .mv, [(.t 9)], none⟩,
   ⟨(some 32), (.beq true), [(.t 30), (.t 31)], none⟩,
   ⟨(some 33), .mv, [(.t 32)], none⟩,
   ⟨(some 34), .mv, [(.t 6)], (some (33, false))⟩,
   ⟨(some 35), .mv, [(.t 8)], (some (33, false))⟩,
   ⟨(some 36), .call, [(.f nref03_SameInts), (.t 34), (.t 35)], (some (33, false))⟩,
   ⟨(some 37), (.un .not), [(.t 36)], (some (33, false))⟩,
   ⟨(some 38), .pick, [(.t 33), (.c (.bool true)), (.t 37)], none⟩] [])
 (.cond (.t 38)
  (.seq
  (.reg false [
    ⟨(some 4), .mv, [(.c (.bool false))], none⟩] [])
  .ret)
  .skip)))))
 (.reg false [
   ⟨(some 14), .mv, [(.t 5)], none⟩,
   ⟨(some 15), (.bin .add), [(.t 14), (.c (.int .i64 1))], none⟩,
   ⟨(some 5), .mv, [(.t 15)], none⟩] []))))))
 (.seq
 (.reg true [
   ⟨(some 39), (.ld true 3), [(.t 2)], none⟩,
   ⟨(some 40), .mv, [(.t 1)], none⟩,
   ⟨(some 41), .call, [(.f ndistance_All), (.t 39), (.t 40)], none⟩,
   ⟨(some 42), (.ld true 3), [(.t 2)], none⟩,
   ⟨(some 43), .mv, [(.t 1)], none⟩,
   ⟨(some 44), .call, [(.f nref12_All), (.t 42), (.t 43)], none⟩,
   ⟨(some 45), .call, [(.f nref03_SameInts), (.t 41), (.t 44)], none⟩,
   ⟨(some 46), .mv, [(.t 45)], none⟩,
   ⟨(some 47), (.ld true 3), [(.t 2)], (some (46, true))⟩,
   ⟨(some 48), .mv, [(.t 1)], (some (46, true))⟩,
   ⟨(some 49), .call, [(.f ndistance_Order), (.t 47), (.t 48)], (some (46, true))⟩,
   ⟨(some 50), (.ld true 3), [(.t 2)], (some (46, true))⟩,
   ⟨(some 51), .mv, [(.t 1)], (some (46, true))⟩,
   ⟨(some 52), .call, [(.f nref12_Order), (.t 50), (.t 51)], (some (46, true))⟩,
   ⟨(some 53), .call, [(.f nref03_SameInts), (.t 49), (.t 52)], (some (46, true))⟩,
   ⟨(some 54), .pick, [(.t 46), (.t 53), (.c (.bool false))], none⟩,
   ⟨(some 4), .mv, [(.t 54)], none⟩] [[], [], [0, 1], [], [], [3, 4, 2], [2, 5, 5], [6, 6], [7], [7], [8, 9, 7, 7], [7], [7], [11, 12, 10, 7], [10, 13, 13, 7], [7, 14], [15, 14, 0, 1, 2, 3, 4, 5, 6, 7, 8, 9, 10, 11, 12, 13, 14, 15]])
 .ret)))⟩

def cmade_Dice_Some : AFun := ⟨20, [(4, none)],
 (.seq
 (.reg false [
   ⟨(some 4), .mv, [(.c (.slice none 0 0))], none⟩] [])
 (.seq
 (.reg false [
   ⟨(some 5), .mv, [(.c (.slice none 0 0))], none⟩] [])
 (.seq
 (.seq
 (.reg false [
   ⟨(some 6), .mv, [(.c (.int .i64 0))], none⟩] [])
 (.block 0
 (.loop
 (.seq
 (.seq
 (.reg false [
   ⟨(some 7), .mv, [(.t 6)], none⟩,
   ⟨(some 8), .mv, [(.t 1)], none⟩,
   ⟨(some 9), (.bin .lss), [(.t 7), (.t 8)], none⟩] [])
 (.cond (.t 9)
  .skip
  (.exit 0)))
 (.seq
 (.block 1
 (.seq
 (.reg false [
   ⟨(some 12), .mv, [(.t 0)], none⟩,
   ⟨(some 13), .call, [(.f nmade_Dice_Next), (.t 12), (.c (.int .i64 3))], none⟩,
   ⟨(some 14), (.bin .eql), [(.t 13), (.c (.int .i64 0))], none⟩] [])
 (.cond (.t 14)
  (.reg false [
    ⟨(some 15), .mv, [(.t 5)], none⟩,
    ⟨(some 16), .mv, [(.t 6)], none⟩,
    ⟨(some 17), (.bsl 1 1 [(.int .i64 0)] [0]), [(.t 16)], none⟩,
    ⟨(some 18), (.app 1 8), [(.t 15), (.t 17)], none⟩,
    ⟨(some 5), .mv, [(.t 18)], none⟩] [])
  .skip)))
 (.reg false [
   ⟨(some 10), .mv, [(.t 6)], none⟩,
   ⟨(some 11), (.bin .add), [(.t 10), (.c (.int .i64 1))], none⟩,
   ⟨(some 6), .mv, [(.t 11)], none⟩] []))))))
 (.seq
 (.reg false [
   ⟨(some 19), .mv, [(.t 5)], none⟩,
   ⟨(some 4), .mv, [(.t 19)], none⟩] [])
 .ret))))⟩

def cdistance_All : AFun := ⟨50, [(4, none)],
 (.seq
 (.reg false [
   ⟨(some 2), (.box 3), [(.t 0)], none⟩,
   ⟨(some 3), (.box 1), [(.t 1)], none⟩,
   ⟨(some 4), .mv, [(.c (.slice none 0 0))], none⟩] [])
 (.seq
 (.reg false [
   ⟨(some 11), (.bsl 1 1 [(.int .i64 0)] [0]), [(.c (.int .i64 (-1)))], none⟩,
   ⟨(some 12), (.fad 0), [(.t 2)], none⟩,
   ⟨(some 13), (.ld false 1), [(.t 12)], none⟩,
   ⟨(some 14), .mx2, [(.c (.int .i64 0)), (.t 13)], none⟩,
   ⟨(some 15), .call, [(.f nslices_Repeat_Lint_int), (.t 11), (.t 14)], none⟩,
   ⟨(some 5), (.alloc [(.slice none 0 0)]), [], none⟩,
   ⟨none, (.st 1), [(.t 5), (.t 15)], none⟩] [])
 (.seq
 (.reg false [
   ⟨(some 16), (.fad 0), [(.t 2)], none⟩,
   ⟨(some 17), (.ld false 1), [(.t 16)], none⟩,
   ⟨(some 18), (.mkf ndistance_All_c1), [(.t 2), (.t 3)], none⟩,
   ⟨(some 19), .call, [(.f nlists_Where), (.t 17), (.t 18)], none⟩,
   ⟨(some 6), .mv, [(.t 19)], none⟩] [])
 (.seq
 (.seq
 (.reg false [
   ⟨(some 7), .mv, [(.c (.int .i64 0))], none⟩] [])
 (.block 0
 (.loop
 (.seq
 (.seq
 (.reg false [
   ⟨(some 20), .mv, [(.t 6)], none⟩,
   ⟨(some 21), .len, [(.t 20)], none⟩,
   ⟨(some 22), (.bin .gtr), [(.t 21), (.c (.int .i64 0))], none⟩] [])
 (.cond (.t 22)
  .skip
  (.exit 0)))
 (.seq
 (.block 1
 (.seq
 (.reg false [
   ⟨(some 8), .mv, [(.c (.slice none 0 0))], none⟩] [])
 (.seq
 (.seq
 (.reg false [
   ⟨(some 25), .mv, [(.t 6)], none⟩,
   ⟨(some 26), .len, [(.t 25)], none⟩,
   ⟨(some 27), .mv, [(.c (.int .i64 0))], none⟩] [])
 (.block 2
 (.loop
 (.seq
 (.reg false [
   ⟨(some 28), (.bin .lss), [(.t 27), (.t 26)], none⟩] [])
 (.seq
 (.cond (.t 28)
  .skip
  (.exit 2))
 (.seq
 (.block 3
 (.seq
 (.reg false [
   ⟨(some 29), (.iad 1), [(.t 25), (.t 27)], none⟩,
   ⟨(some 30), (.ld false 1), [(.t 29)], none⟩,
   ⟨(some 10), .mv, [(.t 30)], none⟩] [])
 (.seq
 (.seq
 (.reg false [
   ⟨(some 31), (.ld false 1), [(.t 5)], none⟩,
   ⟨(some 32), .mv, [(.t 10)], none⟩,
   ⟨(some 33), (.iad 1), [(.t 31), (.t 32)], none⟩,
   ⟨(some 34), (.ld false 1), [(.t 33)], none⟩,
   ⟨(some 35), (.bin .geq), [(.t 34), (.c (.int .i64 0))], none⟩] [])
 (.cond (.t 35)
  (.exit 3)
  .skip))
 (.seq
 (.reg false [
   ⟨(some 36), (.ld false 1), [(.t 5)], none⟩,
   ⟨(some 37), .mv, [(.t 10)], none⟩,
   ⟨(some 38), .mv, [(.t 7)], none⟩,
   ⟨(some 39), (.iad 1), [(.t 36), (.t 37)], none⟩,
   ⟨none, (.st 1), [(.t 39), (.t 38)], none⟩] [])
 (.reg false [
   ⟨(some 40), .mv, [(.t 8)], none⟩,
   ⟨(some 41), (.ld true 3), [(.t 2)], none⟩,
   ⟨(some 42), .mv, [(.t 10)], none⟩,
   ⟨(some 43), .call, [(.f ngraph_Out), (.t 41), (.t 42)], none⟩,
   ⟨(some 44), (.app 1 8), [(.t 40), (.t 43)], none⟩,
   ⟨(some 8), .mv, [(.t 44)], none⟩] [])))))
 (.reg false [
   ⟨(some 45), (.bin .add), [(.t 27), (.c (.int .i64 1))], none⟩,
   ⟨(some 27), .mv, [(.t 45)], none⟩] [])))))))
 (.reg false [
   ⟨(some 46), .mv, [(.t 8)], none⟩,
   ⟨(some 47), (.mkf ndistance_All_c2), [(.t 5)], none⟩,
   ⟨(some 48), .call, [(.f nslices_DeleteFunc_Lint_int), (.t 46), (.t 47)], none⟩,
   ⟨(some 6), .mv, [(.t 48)], none⟩] []))))
 (.reg false [
   ⟨(some 23), .mv, [(.t 7)], none⟩,
   ⟨(some 24), (.bin .add), [(.t 23), (.c (.int .i64 1))], none⟩,
   ⟨(some 7), .mv, [(.t 24)], none⟩] []))))))
 (.seq
 (.reg false [
   ⟨(some 49), (.ld false 1), [(.t 5)], none⟩,
   ⟨(some 4), .mv, [(.t 49)], none⟩] [])
 .ret)))))⟩

def cdistance_Way : AFun := ⟨110, [(6, none), (7, none)],
 (.seq
 (.reg false [
   ⟨(some 3), (.box 3), [(.t 0)], none⟩,
   ⟨(some 6), .mv, [(.c (.slice none 0 0))], none⟩,
   ⟨(some 7), .mv, [(.c (.bool false))], none⟩] [])
 (.seq
 (.reg false [
   ⟨(some 15), (.ld true 3), [(.t 3)], none⟩,
   ⟨(some 16), .mv, [(.t 1)], none⟩,
   ⟨(some 17), .call, [(.f ndistance_All), (.t 15), (.t 16)], none⟩,
   ⟨(some 8), (.alloc [(.slice none 0 0)]), [], none⟩,
   ⟨none, (.st 1), [(.t 8), (.t 17)], none⟩] [])
 (.seq
 (.seq
 (.reg false [
   ⟨(some 18), .mv, [(.t 2)], none⟩,
   ⟨(some 19), (.ld false 1), [(.t 8)], none⟩,
   ⟨(some 20), .len, [(.t 19)], none⟩,
   ⟨(some 21), (.bin .sub), [(.t 20), (.c (.int .i64 1))], none⟩,
   ⟨(some 22), .call, [(.f nlists_In), (.t 18), (.c (.int .i64 0)), (.t 21)], none⟩,
   ⟨(some 23), (.un .not), [(.t 22)], none⟩,
   ⟨(some 24), .mv, [(.t 23)], none⟩,
   ⟨(some 25), (.ld false 1), [(.t 8)], (some (24, false))⟩,
   ⟨(some 26), .mv, [(.t 2)], (some (24, false))⟩,
   ⟨(some 27), (.iad 1), [(.t 25), (.t 26)], (some (24, false))⟩,
   ⟨(some 28), (.ld false 1), [(.t 27)], (some (24, false))⟩,
   ⟨(some 29), (.bin .lss), [(.t 28), (.c (.int .i64 0))], (some (24, false))⟩,
   ⟨(some 30), .pick, [(.t 24), (.c (.bool true)), (.t 29)], none⟩] [])
 (.cond (.t 30)
  (.seq
  (.reg false [
    ⟨(some 6), .mv, [(.c (.slice none 0 0))], none⟩,
    ⟨(some 7), .mv, [(.c (.bool false))], none⟩] [])
  .ret)
  .skip))
 (.seq
 (.reg false [
   ⟨(some 31), (.ld false 1), [(.t 8)], none⟩,
   ⟨(some 32), .len, [(.t 31)], none⟩,
   ⟨(some 33), (.mks 1 1 [(.bool false)]), [(.t 32), (.t 32)], none⟩,
   ⟨(some 9), (.alloc [(.slice none 0 0)]), [], none⟩,
   ⟨none, (.st 1), [(.t 9), (.t 33)], none⟩] [])
 (.seq
 (.reg false [
   ⟨(some 34), (.ld false 1), [(.t 9)], none⟩,
   ⟨(some 35), .mv, [(.t 2)], none⟩,
   ⟨(some 36), (.iad 1), [(.t 34), (.t 35)], none⟩,
   ⟨none, (.st 1), [(.t 36), (.c (.bool true))], none⟩] [])
 (.seq
 (.seq
 (.reg false [
   ⟨(some 37), (.ld false 1), [(.t 8)], none⟩,
   ⟨(some 38), .mv, [(.t 2)], none⟩,
   ⟨(some 39), (.iad 1), [(.t 37), (.t 38)], none⟩,
   ⟨(some 40), (.ld false 1), [(.t 39)], none⟩,
   ⟨(some 41), (.bin .sub), [(.t 40), (.c (.int .i64 1))], none⟩,
   ⟨(some 10), (.alloc [(.int .i64 0)]), [], none⟩,
   ⟨none, (.st 1), [(.t 10), (.t 41)], none⟩] [])
 (.block 0
 (.loop
 (.seq
 (.seq
 (.reg false [
   ⟨(some 42), (.ld false 1), [(.t 10)], none⟩,
   ⟨(some 43), (.bin .geq), [(.t 42), (.c (.int .i64 0))], none⟩] [])
 (.cond (.t 43)
  .skip
  (.exit 0)))
 (.seq
 (.block 1
 (.seq
 (.reg false [
   ⟨(some 46), (.ld false 1), [(.t 8)], none⟩,
   ⟨(some 47), .len, [(.t 46)], none⟩,
   ⟨(some 48), .mv, [(.c (.int .i64 0))], none⟩] [])
 (.block 2
 (.loop
 (.seq
 (.reg false [
   ⟨(some 49), (.bin .lss), [(.t 48), (.t 47)], none⟩] [])
 (.seq
 (.cond (.t 49)
  .skip
  (.exit 2))
 (.seq
 (.block 3
 (.seq
 (.reg false [
   ⟨(some 50), .mv, [(.t 48)], none⟩,
   ⟨(some 11), .mv, [(.t 50)], none⟩] [])
 (.seq
 (.reg true [
   ⟨(some 51), (.ld false 1), [(.t 8)], none⟩,
   ⟨(some 52), .mv, [(.t 11)], none⟩,
   ⟨(some 53), (.iad 1), [(.t 51), (.t 52)], none⟩,
   ⟨(some 54), (.ld false 1), [(.t 53)], none⟩,
   ⟨(some 55), (.ld false 1), [(.t 10)], none⟩,
   ⟨(some 56), (.bin .eql), [(.t 54), (.t 55)], none⟩,
   ⟨(some 57), .mv, [(.t 56)], none⟩,
   ⟨(some 58), (.ld true 3), [(.t 3)], (some (57, true))⟩,
   ⟨(some 59), .mv, [(.t 11)], (some (57, true))⟩,
   ⟨(some 60), .call, [(.f ngraph_Out), (.t 58), (.t 59)], (some (57, true))⟩,
   ⟨(some 61), (.mkf ndistance_Way_c1), [(.t 9), (.t 8), (.t 10)], (some (57, true))⟩,
   ⟨(some 62), .call, [(.f nslices_ContainsFunc_Lint_int), (.t 60), (.t 61)], (some (57, true))⟩,
   ⟨(some 63), .pick, [(.t 57), (.t 62), (.c (.bool false))], none⟩] [[], [], [0, 1], [2], [], [3, 4], [5], [6], [6], [7, 8, 6, 6], [6], [9, 10, 9, 6], [6, 11]])
 (.cond (.t 63)
  (.reg false [
    ⟨(some 64), (.ld false 1), [(.t 9)], none⟩,
    ⟨(some 65), .mv, [(.t 11)], none⟩,
    ⟨(some 66), (.iad 1), [(.t 64), (.t 65)], none⟩,
    ⟨none, (.st 1), [(.t 66), (.c (.bool true))], none⟩] [])
  .skip))))
 (.reg false [
   ⟨(some 67), (.bin .add), [(.t 48), (.c (.int .i64 1))], none⟩,
   ⟨(some 48), .mv, [(.t 67)], none⟩] []))))))))
 (.seq
 (.seq
 (.reg false [
   ⟨(some 68), (.ld false 1), [(.t 10)], none⟩] [])
 (.reg false [
   ⟨(some 10), (.alloc [(.int .i64 0)]), [], none⟩,
   ⟨none, (.st 1), [(.t 10), (.t 68)], none⟩] []))
 (.reg false [
   ⟨(some 44), (.ld false 1), [(.t 10)], none⟩,
   ⟨(some 45), (.bin .sub), [(.t 44), (.c (.int .i64 1))], none⟩,
   ⟨none, (.st 1), [(.t 10), (.t 45)], none⟩] [])))))))
 (.seq
 (.reg false [
   ⟨(some 69), (.ld false 1), [(.t 8)], none⟩,
   ⟨(some 70), .call, [(.f nslices_IndexFunc_Lint_int), (.t 69), (.f ndistance_Way_c2)], none⟩,
   ⟨(some 12), (.alloc [(.int .i64 0)]), [], none⟩,
   ⟨none, (.st 1), [(.t 12), (.t 70)], none⟩] [])
 (.seq
 (.block 4
 (.loop
 (.seq
 (.seq
 (.reg false [
   ⟨(some 71), (.ld false 1), [(.t 12)], none⟩,
   ⟨(some 72), (.ld false 1), [(.t 8)], none⟩,
   ⟨(some 73), .len, [(.t 72)], none⟩,
   ⟨(some 74), (.bin .lss), [(.t 71), (.t 73)], none⟩,
   ⟨(some 75), .mv, [(.t 74)], none⟩,
   ⟨(some 76), (.ld false 1), [(.t 8)], (some (75, true))⟩,
   ⟨(some 77), (.ld false 1), [(.t 12)], (some (75, true))⟩,
   ⟨(some 78), (.iad 1), [(.t 76), (.t 77)], (some (75, true))⟩,
   ⟨(some 79), (.ld false 1), [(.t 78)], (some (75, true))⟩,
   ⟨(some 80), (.bin .neq), [(.t 79), (.c (.int .i64 0))], (some (75, true))⟩,
   ⟨(some 81), .mv, [(.t 80)], (some (75, true))⟩,
   ⟨(some 82), (.ld false 1), [(.t 9)], (some (81, false))⟩,
   ⟨(some 83), (.ld false 1), [(.t 12)], (some (81, false))⟩,
   ⟨(some 84), (.iad 1), [(.t 82), (.t 83)], (some (81, false))⟩,
   ⟨(some 85), (.ld false 1), [(.t 84)], (some (81, false))⟩,
   ⟨(some 86), (.un .not), [(.t 85)], (some (81, false))⟩,
   ⟨(some 87), .pick, [(.t 81), (.c (.bool true)), (.t 86)], (some (75, true))⟩,
   ⟨(some 88), .pick, [(.t 75), (.t 87), (.c (.bool false))], none⟩] [])
 (.cond (.t 88)
  .skip
  (.exit 4)))
 (.block 5
 (.reg false [
   ⟨(some 89), (.ld false 1), [(.t 12)], none⟩,
   ⟨(some 90), (.bin .add), [(.t 89), (.c (.int .i64 1))], none⟩,
   ⟨none, (.st 1), [(.t 12), (.t 90)], none⟩] [])))))
 (.seq
 (.reg false [
   ⟨(some 91), (.ld false 1), [(.t 12)], none⟩,
   ⟨(some 92), (.bsl 1 1 [(.int .i64 0)] [0]), [(.t 91)], none⟩,
   ⟨(some 13), .mv, [(.t 92)], none⟩] [])
 (.seq
 (.block 6
 (.loop
 (.seq
 (.seq
 (.reg false [
   ⟨(some 93), (.ld false 1), [(.t 12)], none⟩,
   ⟨(some 94), .mv, [(.t 2)], none⟩,
   ⟨(some 95), (.bin .neq), [(.t 93), (.t 94)], none⟩] [])
 (.cond (.t 95)
  .skip
  (.exit 6)))
 (.block 7
 (.seq
 (.reg false [
   ⟨(some 96), (.ld true 3), [(.t 3)], none⟩,
   ⟨(some 97), (.ld false 1), [(.t 12)], none⟩,
   ⟨(some 98), .call, [(.f ngraph_Out), (.t 96), (.t 97)], none⟩,
   ⟨(some 14), .mv, [(.t 98)], none⟩] [])
 (.seq
 (.reg false [
   ⟨(some 99), .mv, [(.t 14)], none⟩,
   ⟨(some 100), .mv, [(.t 14)], none⟩,
   ⟨(some 101), (.mkf ndistance_Way_c3), [(.t 9), (.t 8), (.t 12)], none⟩,
   ⟨(some 102), .call, [(.f nslices_IndexFunc_Lint_int), (.t 100), (.t 101)], none⟩,
   ⟨(some 103), (.iad 1), [(.t 99), (.t 102)], none⟩,
   ⟨(some 104), (.ld false 1), [(.t 103)], none⟩,
   ⟨none, (.st 1), [(.t 12), (.t 104)], none⟩] [])
 (.reg false [
   ⟨(some 105), .mv, [(.t 13)], none⟩,
   ⟨(some 106), (.ld false 1), [(.t 12)], none⟩,
   ⟨(some 107), (.bsl 1 1 [(.int .i64 0)] [0]), [(.t 106)], none⟩,
   ⟨(some 108), (.app 1 8), [(.t 105), (.t 107)], none⟩,
   ⟨(some 13), .mv, [(.t 108)], none⟩] [])))))))
 (.seq
 (.reg false [
   ⟨(some 109), .mv, [(.t 13)], none⟩,
   ⟨(some 6), .mv, [(.t 109)], none⟩,
   ⟨(some 7), .mv, [(.c (.bool true))], none⟩] [])
 .ret)))))))))))⟩

def cref11_Put : AFun := ⟨45, [(4, none)],
 (.seq
 (.reg false [
   ⟨(some 4), .mv, [(.c (.slice none 0 0))], none⟩] [])
 (.seq
 (.reg false [
   ⟨(some 5), .mv, [(.c (.int .i64 0))], none⟩] [])
 (.seq
 (.block 0
 (.loop
 (.seq
 (.seq
 (.reg false [
   ⟨(some 6), .mv, [(.t 5)], none⟩,
   ⟨(some 7), .mv, [(.t 0)], none⟩,
   ⟨(some 8), .len, [(.t 7)], none⟩,
   ⟨(some 9), (.bin .lss), [(.t 6), (.t 8)], none⟩,
   ⟨(some 10), .mv, [(.t 9)], none⟩,
   ⟨(some 11), .mv, [(.t 0)], (some (10, true))⟩,
   ⟨(some 12), .mv, [(.t 5)], (some (10, true))⟩,
   ⟨(some 13), (.iad 1), [(.t 11), (.t 12)], (some (10, true))⟩,
   ⟨(some 14), (.ld false 1), [(.t 13)], (some (10, true))⟩,
   ⟨(some 15), .mv, [(.t 1)], (some (10, true))⟩,
   ⟨(some 16), (.bin .lss), [(.t 14), (.t 15)], (some (10, true))⟩,
   ⟨(some 17), .pick, [(.t 10), (.t 16), (.c (.bool false))], none⟩] [])
 (.cond (.t 17)
  .skip
  (.exit 0)))
 (.block 1
 (.reg false [
   ⟨(some 18), .mv, [(.t 5)], none⟩,
   ⟨(some 19), (.bin .add), [(.t 18), (.c (.int .i64 1))], none⟩,
   ⟨(some 5), .mv, [(.t 19)], none⟩] [])))))
 (.seq
 (.seq
 (.reg false [
   ⟨(some 20), .mv, [(.t 5)], none⟩,
   ⟨(some 21), .mv, [(.t 0)], none⟩,
   ⟨(some 22), .len, [(.t 21)], none⟩,
   ⟨(some 23), (.bin .lss), [(.t 20), (.t 22)], none⟩,
   ⟨(some 24), .mv, [(.t 23)], none⟩,
   ⟨(some 25), .mv, [(.t 0)], (some (24, true))⟩,
   ⟨(some 26), .mv, [(.t 5)], (some (24, true))⟩,
   ⟨(some 27), (.iad 1), [(.t 25), (.t 26)], (some (24, true))⟩,
   ⟨(some 28), (.ld false 1), [(.t 27)], (some (24, true))⟩,
   ⟨(some 29), .mv, [(.t 1)], (some (24, true))⟩,
   ⟨(some 30), (.bin .eql), [(.t 28), (.t 29)], (some (24, true))⟩,
   ⟨(some 31), .pick, [(.t 24), (.t 30), (.c (.bool false))], none⟩] [])
 (.cond (.t 31)
  (.seq
  (.reg false [
    ⟨(some 32), .mv, [(.t 0)], none⟩,
    ⟨(some 33), (.app 1 8), [(.c (.slice none 0 0)), (.t 32)], none⟩,
    ⟨(some 4), .mv, [(.t 33)], none⟩] [])
  .ret)
  .skip))
 (.seq
 (.reg true [
   ⟨(some 34), .mv, [(.t 0)], none⟩,
   ⟨(some 35), .mv, [(.t 5)], none⟩,
   ⟨(some 36), (.slc 1 false true false), [(.t 34), (.t 35)], none⟩,
   ⟨(some 37), (.app 1 8), [(.c (.slice none 0 0)), (.t 36)], none⟩,
   ⟨(some 38), .mv, [(.t 1)], none⟩,
   ⟨(some 39), (.bsl 1 1 [(.int .i64 0)] [0]), [(.t 38)], none⟩,
   ⟨(some 40), (.app 1 8), [(.t 37), (.t 39)], none⟩,
   ⟨(some 41), .mv, [(.t 0)], none⟩,
   ⟨(some 42), .mv, [(.t 5)], none⟩,
   ⟨(some 43), (.slc 1 true false false), [(.t 41), (.t 42)], none⟩,
   ⟨(some 44), (.app 1 8), [(.t 40), (.t 43)], none⟩,
   ⟨(some 4), .mv, [(.t 44)], none⟩] [[], [], [0, 1], [2], [], [4], [3, 5, 3], [], [], [7, 8], [6, 9, 6], [10, 10, 0, 1, 2, 3, 4, 5, 6, 7, 8, 9, 10]])
 .ret)))))⟩

def cdistance_Order : AFun := ⟨18, [(4, none)],
 (.seq
 (.reg false [
   ⟨(some 2), (.box 3), [(.t 0)], none⟩,
   ⟨(some 4), .mv, [(.c (.slice none 0 0))], none⟩] [])
 (.seq
 (.reg false [
   ⟨(some 7), (.ld true 3), [(.t 2)], none⟩,
   ⟨(some 8), .mv, [(.t 1)], none⟩,
   ⟨(some 9), .call, [(.f ndistance_All), (.t 7), (.t 8)], none⟩,
   ⟨(some 5), (.alloc [(.slice none 0 0)]), [], none⟩,
   ⟨none, (.st 1), [(.t 5), (.t 9)], none⟩] [])
 (.seq
 (.reg false [
   ⟨(some 10), (.ld false 1), [(.t 5)], none⟩,
   ⟨(some 11), .len, [(.t 10)], none⟩,
   ⟨(some 12), (.mkf ndistance_Order_c1), [(.t 5)], none⟩,
   ⟨(some 13), .call, [(.f nlists_Where), (.t 11), (.t 12)], none⟩,
   ⟨(some 6), .mv, [(.t 13)], none⟩] [])
 (.seq
 (.reg false [
   ⟨(some 14), .mv, [(.t 6)], none⟩,
   ⟨(some 15), (.mkf ndistance_Order_c2), [(.t 5)], none⟩,
   ⟨(some 16), .call, [(.f nslices_SortStableFunc_Lint_int), (.t 14), (.t 15)], none⟩] [])
 (.seq
 (.reg false [
   ⟨(some 17), .mv, [(.t 6)], none⟩,
   ⟨(some 4), .mv, [(.t 17)], none⟩] [])
 .ret)))))⟩

def cslices_DeleteFunc_Lapi_Edge_api_Edge : AFun := ⟨42, [(4, none)],
 (.seq
 (.reg false [
   ⟨(some 4), .mv, [(.c (.slice none 0 0))], none⟩] [])
 (.seq
 (.reg false [
   ⟨(some 8), .mv, [(.t 0)], none⟩,
   ⟨(some 9), .mv, [(.t 1)], none⟩,
   ⟨(some 10), .call, [(.f nslices_IndexFunc_Lapi_Edge_api_Edge), (.t 8), (.t 9)], none⟩,
   ⟨(some 5), .mv, [(.t 10)], none⟩] [])
 (.seq
 (.seq
 (.reg false [
   ⟨(some 11), .mv, [(.t 5)], none⟩,
   ⟨(some 12), (.bin .eql), [(.t 11), (.c (.int .i64 (-1)))], none⟩] [])
 (.cond (.t 12)
  (.seq
  (.reg false [
    ⟨(some 13), .mv, [(.t 0)], none⟩,
    ⟨(some 4), .mv, [(.t 13)], none⟩] [])
  .ret)
  .skip))
 (.seq
 (.seq
 (.reg false [
   ⟨(some 14), .mv, [(.t 5)], none⟩,
   ⟨(some 15), (.bin .add), [(.t 14), (.c (.int .i64 1))], none⟩,
   ⟨(some 6), .mv, [(.t 15)], none⟩] [])
 (.block 0
 (.loop
 (.seq
 (.seq
 (.reg false [
   ⟨(some 16), .mv, [(.t 6)], none⟩,
   ⟨(some 17), .mv, [(.t 0)], none⟩,
   ⟨(some 18), .len, [(.t 17)], none⟩,
   ⟨(some 19), (.bin .lss), [(.t 16), (.t 18)], none⟩] [])
 (.cond (.t 19)
  .skip
  (.exit 0)))
 (.seq
 (.block 1
 (.seq
 (.reg false [
   ⟨(some 22), .mv, [(.t 0)], none⟩,
   ⟨(some 23), .mv, [(.t 6)], none⟩,
   ⟨(some 24), (.iad 3), [(.t 22), (.t 23)], none⟩,
   ⟨(some 25), (.ld true 3), [(.t 24)], none⟩,
   ⟨(some 7), (.alloc [(.int .i64 0), (.int .i64 0), (.int .i64 0)]), [], none⟩,
   ⟨none, (.st 3), [(.t 7), (.t 25)], none⟩] [])
 (.seq
 (.reg false [
   ⟨(some 26), .mv, [(.t 1)], none⟩,
   ⟨(some 27), (.ld true 3), [(.t 7)], none⟩,
   ⟨(some 28), .call, [(.t 26), (.t 27)], none⟩,
   ⟨(some 29), (.un .not), [(.t 28)], none⟩] [])
 (.cond (.t 29)
  (.seq
  (.reg false [
    ⟨(some 30), .mv, [(.t 0)], none⟩,
    ⟨(some 31), .mv, [(.t 5)], none⟩,
    ⟨(some 32), (.ld true 3), [(.t 7)], none⟩,
    ⟨(some 33), (.iad 3), [(.t 30), (.t 31)], none⟩,
    ⟨none, (.st 3), [(.t 33), (.t 32)], none⟩] [])
  (.reg false [
    ⟨(some 34), .mv, [(.t 5)], none⟩,
    ⟨(some 35), (.bin .add), [(.t 34), (.c (.int .i64 1))], none⟩,
    ⟨(some 5), .mv, [(.t 35)], none⟩] []))
  .skip))))
 (.reg false [
   ⟨(some 20), .mv, [(.t 6)], none⟩,
   ⟨(some 21), (.bin .add), [(.t 20), (.c (.int .i64 1))], none⟩,
   ⟨(some 6), .mv, [(.t 21)], none⟩] []))))))
 (.seq
 (.reg false [
   ⟨(some 36), .mv, [(.t 0)], none⟩,
   ⟨(some 37), .mv, [(.t 5)], none⟩,
   ⟨(some 38), (.slc 3 true false false), [(.t 36), (.t 37)], none⟩,
   ⟨none, (.clr 3 [(.int .i64 0), (.int .i64 0), (.int .i64 0)]), [(.t 38)], none⟩] [])
 (.seq
 (.reg false [
   ⟨(some 39), .mv, [(.t 0)], none⟩,
   ⟨(some 40), .mv, [(.t 5)], none⟩,
   ⟨(some 41), (.slc 3 false true false), [(.t 39), (.t 40)], none⟩,
   ⟨(some 4), .mv, [(.t 41)], none⟩] [])
 .ret))))))⟩

def cgraph_Level_c1 : AFun := ⟨8, [(3, none)],
 (.seq
 (.reg false [
   ⟨(some 2), (.box 3), [(.t 0)], none⟩,
   ⟨(some 3), .mv, [(.c (.bool false))], none⟩] [])
 (.seq
 (.reg false [
   ⟨(some 4), (.fad 2), [(.t 2)], none⟩,
   ⟨(some 5), (.ld false 1), [(.t 4)], none⟩,
   ⟨(some 6), (.ld false 1), [(.t 1)], none⟩,
   ⟨(some 7), (.bin .lss), [(.t 5), (.t 6)], none⟩,
   ⟨(some 3), .mv, [(.t 7)], none⟩] [])
 .ret))⟩

def cref12_Way : AFun := ⟨134, [(6, none), (7, none)],
 (.seq
 (.reg false [
   ⟨(some 3), (.box 3), [(.t 0)], none⟩,
   ⟨(some 6), .mv, [(.c (.slice none 0 0))], none⟩,
   ⟨(some 7), .mv, [(.c (.bool false))], none⟩] [])
 (.seq
 (.reg false [
   ⟨(some 16), (.ld true 3), [(.t 3)], none⟩,
   ⟨(some 17), .mv, [(.t 1)], none⟩,
   ⟨(some 18), .call, [(.f nref12_All), (.t 16), (.t 17)], none⟩,
   ⟨(some 8), .mv, [(.t 18)], none⟩] [])
 (.seq
 (.seq
 (.reg false [
   ⟨(some 19), .mv, [(.t 2)], none⟩,
   ⟨(some 20), (.bin .lss), [(.t 19), (.c (.int .i64 0))], none⟩,
   ⟨(some 21), .mv, [(.t 20)], none⟩,
   ⟨(some 22), .mv, [(.t 2)], (some (21, false))⟩,
   ⟨(some 23), (.fad 0), [(.t 3)], (some (21, false))⟩,
   ⟨(some 24), (.ld false 1), [(.t 23)], (some (21, false))⟩,
   ⟨(some 25), (.bin .geq), [(.t 22), (.t 24)], (some (21, false))⟩,
   ⟨(some 26), .pick, [(.t 21), (.c (.bool true)), (.t 25)], none⟩,
   ⟨(some 27), .mv, [(.t 26)], none⟩,
   ⟨(some 28), .mv, [(.t 8)], (some (27, false))⟩,
   ⟨(some 29), .mv, [(.t 2)], (some (27, false))⟩,
   ⟨(some 30), (.iad 1), [(.t 28), (.t 29)], (some (27, false))⟩,
   ⟨(some 31), (.ld false 1), [(.t 30)], (some (27, false))⟩,
   ⟨(some 32), (.bin .lss), [(.t 31), (.c (.int .i64 0))], (some (27, false))⟩,
   ⟨(some 33), .pick, [(.t 27), (.c (.bool true)), (.t 32)], none⟩] [])
 (.cond (.t 33)
  (.seq
  (.reg false [
    ⟨(some 6), .mv, [(.c (.slice none 0 0))], none⟩,
    ⟨(some 7), .mv, [(.c (.bool false))], none⟩] [])
  .ret)
  .skip))
 (.seq
 (.reg false [
   ⟨(some 34), (.fad 0), [(.t 3)], none⟩,
   ⟨(some 35), (.ld false 1), [(.t 34)], none⟩,
   ⟨(some 36), (.mks 1 1 [(.bool false)]), [(.t 35), (.t 35)], none⟩,
   ⟨(some 9), .mv, [(.t 36)], none⟩] [])
 (.seq
 (.reg false [
   ⟨(some 37), .mv, [(.t 9)], none⟩,
   ⟨(some 38), .mv, [(.t 2)], none⟩,
   ⟨(some 39), (.iad 1), [(.t 37), (.t 38)], none⟩,
   ⟨none, (.st 1), [(.t 39), (.c (.bool true))], none⟩] [])
 (.seq
 (.seq
 (.reg false [
   ⟨(some 40), .mv, [(.t 8)], none⟩,
   ⟨(some 41), .mv, [(.t 2)], none⟩,
   ⟨(some 42), (.iad 1), [(.t 40), (.t 41)], none⟩,
   ⟨(some 43), (.ld false 1), [(.t 42)], none⟩,
   ⟨(some 10), .mv, [(.t 43)], none⟩] [])
 (.block 0
 (.loop
 (.seq
 (.seq
 (.reg false [
   ⟨(some 44), .mv, [(.t 10)], none⟩,
   ⟨(some 45), (.bin .gtr), [(.t 44), (.c (.int .i64 0))], none⟩] [])
 (.cond (.t 45)
  .skip
  (.exit 0)))
 (.seq
 (.block 1
 (.seq
 (.reg false [
   ⟨(some 11), .mv, [(.c (.int .i64 0))], none⟩] [])
 (.block 2
 (.loop
 (.seq
 (.seq
 (.reg false [
   ⟨(some 48), .mv, [(.t 11)], none⟩,
   ⟨(some 49), (.fad 1), [(.t 3)], none⟩,
   ⟨(some 50), (.ld false 1), [(.t 49)], none⟩,
   ⟨(some 51), .len, [(.t 50)], none⟩,
   ⟨(some 52), (.bin .lss), [(.t 48), (.t 51)], none⟩] [])
 (.cond (.t 52)
  .skip
  (.exit 2)))
 (.seq
 (.block 3
 (.seq
 (.reg false [
   ⟨(some 55), (.fad 1), [(.t 3)], none⟩,
   ⟨(some 56), (.ld false 1), [(.t 55)], none⟩,
   ⟨(some 57), .mv, [(.t 11)], none⟩,
   ⟨(some 58), (.iad 3), [(.t 56), (.t 57)], none⟩,
   ⟨(some 59), (.ld true 3), [(.t 58)], none⟩,
   ⟨(some 12), (.alloc [(.int .i64 0), (.int .i64 0), (.int .i64 0)]), [], none⟩,
   ⟨none, (.st 3), [(.t 12), (.t 59)], none⟩] [])
 (.seq
 (.reg false [
   ⟨(some 60), .mv, [(.t 9)], none⟩,
   ⟨(some 61), (.fad 1), [(.t 12)], none⟩,
   ⟨(some 62), (.ld false 1), [(.t 61)], none⟩,
   ⟨(some 63), (.iad 1), [(.t 60), (.t 62)], none⟩,
   ⟨(some 64), (.ld false 1), [(.t 63)], none⟩,
   ⟨(some 65), .mv, [(.t 64)], none⟩,
   ⟨(some 66), .mv, [(.t 8)], (some (65, true))⟩,
   ⟨(some 67), (.fad 1), [(.t 12)], (some (65, true))⟩,
   ⟨(some 68), (.ld false 1), [(.t 67)], (some (65, true))⟩,
   ⟨(some 69), (.iad 1), [(.t 66), (.t 68)], (some (65, true))⟩,
   ⟨(some 70), (.ld false 1), [(.t 69)], (some (65, true))⟩,
   ⟨(some 71), .mv, [(.t 10)], (some (65, true))⟩,
   ⟨(some 72), (.bin .eql), [(.t 70), (.t 71)], (some (65, true))⟩,
   ⟨(some 73), .pick, [(.t 65), (.t 72), (.c (.bool false))], none⟩,
   ⟨(some 74), .mv, [(.t 73)], none⟩,
   ⟨(some 75), .mv, [(.t 8)], (some (74, true))⟩,
   ⟨(some 76), (.fad 0), [(.t 12)], (some (74, true))⟩,
   ⟨(some 77), (.ld false 1), [(.t 76)], (some (74, true))⟩,
   ⟨(some 78), (.iad 1), [(.t 75), (.t 77)], (some (74, true))⟩,
   ⟨(some 79), (.ld false 1), [(.t 78)], (some (74, true))⟩,
   ⟨(some 80), .mv, [(.t 10)], (some (74, true))⟩,
   ⟨(some 81), (.bin .sub), [(.t 80), (.c (.int .i64 1))], (some (74, true))⟩,
   ⟨(some 82), (.bin .eql), [(.t 79), (.t 81)], (some (74, true))⟩,
   ⟨(some 83), .pick, [(.t 74), (.t 82), (.c (.bool false))], none⟩] [])
 (.cond (.t 83)
  (.reg false [
    ⟨(some 84), .mv, [(.t 9)], none⟩,
    ⟨(some 85), (.fad 0), [(.t 12)], none⟩,
    ⟨(some 86), (.ld false 1), [(.t 85)], none⟩,
    ⟨(some 87), (.iad 1), [(.t 84), (.t 86)], none⟩,
    ⟨none, (.st 1), [(.t 87), (.c (.bool true))], none⟩] [])
  .skip))))
 (.reg false [
   ⟨(some 53), .mv, [(.t 11)], none⟩,
   ⟨(some 54), (.bin .add), [(.t 53), (.c (.int .i64 1))], none⟩,
   ⟨(some 11), .mv, [(.t 54)], none⟩] [])))))))
 (.reg false [
   ⟨(some 46), .mv, [(.t 10)], none⟩,
   ⟨(some 47), (.bin .sub), [(.t 46), (.c (.int .i64 1))], none⟩,
   ⟨(some 10), .mv, [(.t 47)], none⟩] []))))))
 (.seq
 (.reg false [
   ⟨(some 13), .mv, [(.c (.slice none 0 0))], none⟩] [])
 (.seq
 (.seq
 (.reg false [
   ⟨(some 14), .mv, [(.c (.int .i64 0))], none⟩] [])
 (.block 4
 (.loop
 (.seq
 (.seq
 (.reg false [
   ⟨(some 88), .mv, [(.t 14)], none⟩,
   ⟨(some 89), .mv, [(.t 8)], none⟩,
   ⟨(some 90), .mv, [(.t 2)], none⟩,
   ⟨(some 91), (.iad 1), [(.t 89), (.t 90)], none⟩,
   ⟨(some 92), (.ld false 1), [(.t 91)], none⟩,
   ⟨(some 93), (.bin .leq), [(.t 88), (.t 92)], none⟩] [])
 (.cond (.t 93)
  .skip
  (.exit 4)))
 (.seq
 (.block 5
 (.seq
 (.reg false [
   ⟨(some 15), .mv, [(.c (.int .i64 0))], none⟩] [])
 (.block 6
 (.loop
 (.seq
 (.seq
 (.reg false [
   ⟨(some 96), .mv, [(.t 15)], none⟩,
   ⟨(some 97), (.fad 0), [(.t 3)], none⟩,
   ⟨(some 98), (.ld false 1), [(.t 97)], none⟩,
   ⟨(some 99), (.bin .lss), [(.t 96), (.t 98)], none⟩] [])
 (.cond (.t 99)
  .skip
  (.exit 6)))
 (.seq
 (.block 7
 (.seq
 (.reg true [
   ⟨(some 102), .mv, [(.t 9)], none⟩,
   ⟨(some 103), .mv, [(.t 15)], none⟩,
   ⟨(some 104), (.iad 1), [(.t 102), (.t 103)], none⟩,
   ⟨(some 105), (.ld false 1), [(.t 104)], none⟩,
   ⟨(some 106), .mv, [(.t 105)], none⟩,
   ⟨(some 107), .mv, [(.t 8)], (some (106, true))⟩,
   ⟨(some 108), .mv, [(.t 15)], (some (106, true))⟩,
   ⟨(some 109), (.iad 1), [(.t 107), (.t 108)], (some (106, true))⟩,
   ⟨(some 110), (.ld false 1), [(.t 109)], (some (106, true))⟩,
   ⟨(some 111), .mv, [(.t 14)], (some (106, true))⟩,
   ⟨(some 112), (.bin .eql), [(.t 110), (.t 111)], (some (106, true))⟩,
   ⟨(some 113), .pick, [(.t 106), (.t 112), (.c (.bool false))], none⟩,
   ⟨(some 114), .mv, [(.t 113)], none⟩,
   ⟨(some 115), .mv, [(.t 14)], (some (114, true))⟩,
   ⟨(some 116), (.bin .eql), [(.t 115), (.c (.int .i64 0))], (some (114, true))⟩,
   ⟨(some 117), .mv, [(.t 116)], (some (114, true))⟩,
   ⟨(some 118), (.ld true 3), [(.t 3)], (some (117, false))⟩,
   ⟨(some 119), .mv, [(.t 13)], (some (117, false))⟩,
   ⟨(some 120), .mv, [(.t 14)], (some (117, false))⟩,
   ⟨(some 121), (.bin .sub), [(.t 120), (.c (.int .i64 1))], (some (117, false))⟩,
   ⟨(some 122), (.iad 1), [(.t 119), (.t 121)], (some (117, false))⟩,
   ⟨(some 123), (.ld false 1), [(.t 122)], (some (117, false))⟩,
   ⟨(some 124), .call, [(.f nref11_Out), (.t 118), (.t 123)], (some (117, false))⟩,
   ⟨(some 125), .mv, [(.t 15)], (some (117, false))⟩,
   ⟨(some 126), .call, [(.f nref11_Has), (.t 124), (.t 125)], (some (117, false))⟩,
   ⟨(some 127), .pick, [(.t 117), (.c (.bool true)), (.t 126)], (some (114, true))⟩,
   ⟨(some 128), .pick, [(.t 114), (.t 127), (.c (.bool false))], none⟩] [[], [], [0, 1], [2], [3], [4], [4], [5, 6, 4], [7, 4], [4], [8, 9, 4], [4, 10], [11, 4], [12], [13, 12], [14, 12, 12], [15], [15], [15], [18, 15], [17, 19, 15], [20, 15], [16, 21, 15, 15], [15], [22, 23, 22, 15], [15, 24, 12], [12, 25]])
 (.cond (.t 128)
  (.seq
  (.reg false [
    ⟨(some 129), .mv, [(.t 13)], none⟩,
    ⟨(some 130), .mv, [(.t 15)], none⟩,
    ⟨(some 131), (.bsl 1 1 [(.int .i64 0)] [0]), [(.t 130)], none⟩,
    ⟨(some 132), (.app 1 8), [(.t 129), (.t 131)], none⟩,
    ⟨(some 13), .mv, [(.t 132)], none⟩] [])
  (.exit 6))
  .skip)))
 (.reg false [
   ⟨(some 100), .mv, [(.t 15)], none⟩,
   ⟨(some 101), (.bin .add), [(.t 100), (.c (.int .i64 1))], none⟩,
   ⟨(some 15), .mv, [(.t 101)], none⟩] [])))))))
 (.reg false [
   ⟨(some 94), .mv, [(.t 14)], none⟩,
   ⟨(some 95), (.bin .add), [(.t 94), (.c (.int .i64 1))], none⟩,
   ⟨(some 14), .mv, [(.t 95)], none⟩] []))))))
 (.seq
 (.reg false [
   ⟨(some 133), .mv, [(.t 13)], none⟩,
   ⟨(some 6), .mv, [(.t 133)], none⟩,
   ⟨(some 7), .mv, [(.c (.bool true))], none⟩] [])
 .ret)))))))))⟩

def cref12_All : AFun := ⟨72, [(4, none)],
 (.seq
 (.reg false [
   ⟨(some 2), (.box 3), [(.t 0)], none⟩,
   ⟨(some 4), .mv, [(.c (.slice none 0 0))], none⟩] [])
 (.seq
 (.reg false [
   ⟨(some 5), .mv, [(.c (.slice none 0 0))], none⟩] [])
 (.seq
 (.seq
 (.reg false [
   ⟨(some 6), .mv, [(.c (.int .i64 0))], none⟩] [])
 (.block 0
 (.loop
 (.seq
 (.seq
 (.reg false [
   ⟨(some 10), .mv, [(.t 6)], none⟩,
   ⟨(some 11), (.fad 0), [(.t 2)], none⟩,
   ⟨(some 12), (.ld false 1), [(.t 11)], none⟩,
   ⟨(some 13), (.bin .lss), [(.t 10), (.t 12)], none⟩] [])
 (.cond (.t 13)
  .skip
  (.exit 0)))
 (.seq
 (.block 1
 (.seq
 (.reg false [
   ⟨(some 16), .mv, [(.t 5)], none⟩,
   ⟨(some 17), (.bsl 1 1 [(.int .i64 0)] [0]), [(.c (.int .i64 (-1)))], none⟩,
   ⟨(some 18), (.app 1 8), [(.t 16), (.t 17)], none⟩,
   ⟨(some 5), .mv, [(.t 18)], none⟩] [])
 (.seq
 (.reg false [
   ⟨(some 19), .mv, [(.t 1)], none⟩,
   ⟨(some 20), .mv, [(.t 6)], none⟩,
   ⟨(some 21), .call, [(.f nref11_Has), (.t 19), (.t 20)], none⟩,
   ⟨(some 22), .mv, [(.t 21)], none⟩,
   ⟨(some 23), (.fad 2), [(.t 2)], (some (22, true))⟩,
   ⟨(some 24), (.ld false 1), [(.t 23)], (some (22, true))⟩,
   ⟨(some 25), .mv, [(.t 6)], (some (22, true))⟩,
   ⟨(some 26), .call, [(.f nref11_Has), (.t 24), (.t 25)], (some (22, true))⟩,
   ⟨(some 27), (.un .not), [(.t 26)], (some (22, true))⟩,
   ⟨(some 28), .pick, [(.t 22), (.t 27), (.c (.bool false))], none⟩] [])
 (.cond (.t 28)
  (.reg false [
    ⟨(some 29), .mv, [(.t 5)], none⟩,
    ⟨(some 30), .mv, [(.t 6)], none⟩,
    ⟨(some 31), (.iad 1), [(.t 29), (.t 30)], none⟩,
    ⟨none, (.st 1), [(.t 31), (.c (.int .i64 0))], none⟩] [])
  .skip))))
 (.reg false [
   ⟨(some 14), .mv, [(.t 6)], none⟩,
   ⟨(some 15), (.bin .add), [(.t 14), (.c (.int .i64 1))], none⟩,
   ⟨(some 6), .mv, [(.t 15)], none⟩] []))))))
 (.seq
 (.seq
 (.reg false [
   ⟨(some 7), .mv, [(.c (.int .i64 0))], none⟩] [])
 (.block 2
 (.loop
 (.seq
 (.seq
 (.reg false [
   ⟨(some 32), .mv, [(.t 7)], none⟩,
   ⟨(some 33), (.fad 0), [(.t 2)], none⟩,
   ⟨(some 34), (.ld false 1), [(.t 33)], none⟩,
   ⟨(some 35), (.bin .lss), [(.t 32), (.t 34)], none⟩] [])
 (.cond (.t 35)
  .skip
  (.exit 2)))
 (.seq
 (.block 3
 (.seq
 (.reg false [
   ⟨(some 8), .mv, [(.c (.int .i64 0))], none⟩] [])
 (.block 4
 (.loop
 (.seq
 (.seq
 (.reg false [
   ⟨(some 38), .mv, [(.t 8)], none⟩,
   ⟨(some 39), (.fad 1), [(.t 2)], none⟩,
   ⟨(some 40), (.ld false 1), [(.t 39)], none⟩,
   ⟨(some 41), .len, [(.t 40)], none⟩,
   ⟨(some 42), (.bin .lss), [(.t 38), (.t 41)], none⟩] [])
 (.cond (.t 42)
  .skip
  (.exit 4)))
 (.seq
 (.block 5
 (.seq
 (.reg false [
   ⟨(some 45), (.fad 1), [(.t 2)], none⟩,
   ⟨(some 46), (.ld false 1), [(.t 45)], none⟩,
   ⟨(some 47), .mv, [(.t 8)], none⟩,
   ⟨(some 48), (.iad 3), [(.t 46), (.t 47)], none⟩,
   ⟨(some 49), (.ld true 3), [(.t 48)], none⟩,
   ⟨(some 9), (.alloc [(.int .i64 0), (.int .i64 0), (.int .i64 0)]), [], none⟩,
   ⟨none, (.st 3), [(.t 9), (.t 49)], none⟩] [])
 (.seq
 (.reg false [
   ⟨(some 50), .mv, [(.t 5)], none⟩,
   ⟨(some 51), (.fad 0), [(.t 9)], none⟩,
   ⟨(some 52), (.ld false 1), [(.t 51)], none⟩,
   ⟨(some 53), (.iad 1), [(.t 50), (.t 52)], none⟩,
   ⟨(some 54), (.ld false 1), [(.t 53)], none⟩,
   ⟨(some 55), .mv, [(.t 7)], none⟩,
   ⟨(some 56), (.bin .eql), [(.t 54), (.t 55)], none⟩,
   ⟨(some 57), .mv, [(.t 56)], none⟩,
   ⟨(some 58), .mv, [(.t 5)], (some (57, true))⟩,
   ⟨(some 59), (.fad 1), [(.t 9)], (some (57, true))⟩,
   ⟨(some 60), (.ld false 1), [(.t 59)], (some (57, true))⟩,
   ⟨(some 61), (.iad 1), [(.t 58), (.t 60)], (some (57, true))⟩,
   ⟨(some 62), (.ld false 1), [(.t 61)], (some (57, true))⟩,
   ⟨(some 63), (.bin .eql), [(.t 62), (.c (.int .i64 (-1)))], (some (57, true))⟩,
   ⟨(some 64), .pick, [(.t 57), (.t 63), (.c (.bool false))], none⟩] [])
 (.cond (.t 64)
  (.reg false [
    ⟨(some 65), .mv, [(.t 5)], none⟩,
    ⟨(some 66), (.fad 1), [(.t 9)], none⟩,
    ⟨(some 67), (.ld false 1), [(.t 66)], none⟩,
    ⟨(some 68), .mv, [(.t 7)], none⟩,
    ⟨(some 69), (.bin .add), [(.t 68), (.c (.int .i64 1))], none⟩,
    ⟨(some 70), (.iad 1), [(.t 65), (.t 67)], none⟩,
    ⟨none, (.st 1), [(.t 70), (.t 69)], none⟩] [])
  .skip))))
 (.reg false [
   ⟨(some 43), .mv, [(.t 8)], none⟩,
   ⟨(some 44), (.bin .add), [(.t 43), (.c (.int .i64 1))], none⟩,
   ⟨(some 8), .mv, [(.t 44)], none⟩] [])))))))
 (.reg false [
   ⟨(some 36), .mv, [(.t 7)], none⟩,
   ⟨(some 37), (.bin .add), [(.t 36), (.c (.int .i64 1))], none⟩,
   ⟨(some 7), .mv, [(.t 37)], none⟩] []))))))
 (.seq
 (.reg false [
   ⟨(some 71), .mv, [(.t 5)], none⟩,
   ⟨(some 4), .mv, [(.t 71)], none⟩] [])
 .ret)))))⟩

def cref12_Order : AFun := ⟨35, [(4, none)],
 (.seq
 (.reg false [
   ⟨(some 2), (.box 3), [(.t 0)], none⟩,
   ⟨(some 4), .mv, [(.c (.slice none 0 0))], none⟩] [])
 (.seq
 (.reg false [
   ⟨(some 9), (.ld true 3), [(.t 2)], none⟩,
   ⟨(some 10), .mv, [(.t 1)], none⟩,
   ⟨(some 11), .call, [(.f nref12_All), (.t 9), (.t 10)], none⟩,
   ⟨(some 5), .mv, [(.t 11)], none⟩] [])
 (.seq
 (.reg false [
   ⟨(some 6), .mv, [(.c (.slice none 0 0))], none⟩] [])
 (.seq
 (.seq
 (.reg false [
   ⟨(some 7), .mv, [(.c (.int .i64 0))], none⟩] [])
 (.block 0
 (.loop
 (.seq
 (.seq
 (.reg false [
   ⟨(some 12), .mv, [(.t 7)], none⟩,
   ⟨(some 13), (.fad 0), [(.t 2)], none⟩,
   ⟨(some 14), (.ld false 1), [(.t 13)], none⟩,
   ⟨(some 15), (.bin .lss), [(.t 12), (.t 14)], none⟩] [])
 (.cond (.t 15)
  .skip
  (.exit 0)))
 (.seq
 (.block 1
 (.seq
 (.reg false [
   ⟨(some 8), .mv, [(.c (.int .i64 0))], none⟩] [])
 (.block 2
 (.loop
 (.seq
 (.seq
 (.reg false [
   ⟨(some 18), .mv, [(.t 8)], none⟩,
   ⟨(some 19), (.fad 0), [(.t 2)], none⟩,
   ⟨(some 20), (.ld false 1), [(.t 19)], none⟩,
   ⟨(some 21), (.bin .lss), [(.t 18), (.t 20)], none⟩] [])
 (.cond (.t 21)
  .skip
  (.exit 2)))
 (.seq
 (.block 3
 (.seq
 (.reg false [
   ⟨(some 24), .mv, [(.t 5)], none⟩,
   ⟨(some 25), .mv, [(.t 8)], none⟩,
   ⟨(some 26), (.iad 1), [(.t 24), (.t 25)], none⟩,
   ⟨(some 27), (.ld false 1), [(.t 26)], none⟩,
   ⟨(some 28), .mv, [(.t 7)], none⟩,
   ⟨(some 29), (.bin .eql), [(.t 27), (.t 28)], none⟩] [])
 (.cond (.t 29)
  (.reg false [
    ⟨(some 30), .mv, [(.t 6)], none⟩,
    ⟨(some 31), .mv, [(.t 8)], none⟩,
    ⟨(some 32), (.bsl 1 1 [(.int .i64 0)] [0]), [(.t 31)], none⟩,
    ⟨(some 33), (.app 1 8), [(.t 30), (.t 32)], none⟩,
    ⟨(some 6), .mv, [(.t 33)], none⟩] [])
  .skip)))
 (.reg false [
   ⟨(some 22), .mv, [(.t 8)], none⟩,
   ⟨(some 23), (.bin .add), [(.t 22), (.c (.int .i64 1))], none⟩,
   ⟨(some 8), .mv, [(.t 23)], none⟩] [])))))))
 (.reg false [
   ⟨(some 16), .mv, [(.t 7)], none⟩,
   ⟨(some 17), (.bin .add), [(.t 16), (.c (.int .i64 1))], none⟩,
   ⟨(some 7), .mv, [(.t 17)], none⟩] []))))))
 (.seq
 (.reg false [
   ⟨(some 34), .mv, [(.t 6)], none⟩,
   ⟨(some 4), .mv, [(.t 34)], none⟩] [])
 .ret)))))⟩

def cslices_Repeat_Lint_int : AFun := ⟨48, [(4, none)],
 (.seq
 (.reg false [
   ⟨(some 4), .mv, [(.c (.slice none 0 0))], none⟩] [])
 (.seq
 (.seq
 (.reg false [
   ⟨(some 9), .mv, [(.t 1)], none⟩,
   ⟨(some 10), (.bin .lss), [(.t 9), (.c (.int .i64 0))], none⟩] [])
 (.cond (.t 10)
  (.reg false [
    ⟨(some 11), .bad, [], none⟩,
    ⟨none, .bad, [], none⟩] [])
  .skip))
 (.seq
 (.reg false [
   ⟨(some 13), .mv, [(.t 0)], none⟩,
   ⟨(some 14), .len, [(.t 13)], none⟩,
   ⟨(some 15), (.cvt .u64), [(.t 14)], none⟩,
   ⟨(some 16), .mv, [(.t 1)], none⟩,
   ⟨(some 17), (.cvt .u64), [(.t 16)], none⟩,
   ⟨(some 18), .call, [(.f nmath_bits_Mul), (.t 15), (.t 17)], none⟩,
   ⟨(some 12), .mv, [(.t 18)], none⟩,
   ⟨(some 19), (.ext 0), [(.t 12)], none⟩,
   ⟨(some 20), (.ext 1), [(.t 12)], none⟩,
   ⟨(some 5), .mv, [(.t 19)], none⟩,
   ⟨(some 6), .mv, [(.t 20)], none⟩] [])
 (.seq
 (.seq
 (.reg false [
   ⟨(some 21), .mv, [(.t 5)], none⟩,
   ⟨(some 22), (.bin .gtr), [(.t 21), (.c (.int .u64 0))], none⟩,
   ⟨(some 23), .mv, [(.t 22)], none⟩,
   ⟨(some 24), .mv, [(.t 6)], (some (23, false))⟩,
   ⟨(some 25), (.bin .gtr), [(.t 24), (.c (.int .u64 9223372036854775807))], (some (23, false))⟩,
   ⟨(some 26), .pick, [(.t 23), (.c (.bool true)), (.t 25)], none⟩] [])
 (.cond (.t 26)
  (.reg false [
    ⟨(some 27), .bad, [], none⟩,
    ⟨none, .bad, [], none⟩] [])
  .skip))
 (.seq
 (.reg false [
   ⟨(some 28), .mv, [(.t 6)], none⟩,
   ⟨(some 29), (.cvt .i64), [(.t 28)], none⟩,
   ⟨(some 30), (.mks 1 8 [(.int .i64 0)]), [(.t 29), (.t 29)], none⟩,
   ⟨(some 7), .mv, [(.t 30)], none⟩] [])
 (.seq
 (.reg false [
   ⟨(some 31), .mv, [(.t 7)], none⟩,
   ⟨(some 32), .mv, [(.t 0)], none⟩,
   ⟨(some 33), (.cpy 1), [(.t 31), (.t 32)], none⟩,
   ⟨(some 8), .mv, [(.t 33)], none⟩] [])
 (.seq
 (.block 0
 (.loop
 (.seq
 (.seq
 (.reg false [
   ⟨(some 34), .mv, [(.t 8)], none⟩,
   ⟨(some 35), .mv, [(.t 7)], none⟩,
   ⟨(some 36), .len, [(.t 35)], none⟩,
   ⟨(some 37), (.bin .lss), [(.t 34), (.t 36)], none⟩] [])
 (.cond (.t 37)
  .skip
  (.exit 0)))
 (.block 1
 (.reg true [
   ⟨(some 38), .mv, [(.t 8)], none⟩,
   ⟨(some 39), .mv, [(.t 7)], none⟩,
   ⟨(some 40), .mv, [(.t 8)], none⟩,
   ⟨(some 41), (.slc 1 true false false), [(.t 39), (.t 40)], none⟩,
   ⟨(some 42), .mv, [(.t 7)], none⟩,
   ⟨(some 43), .mv, [(.t 8)], none⟩,
   ⟨(some 44), (.slc 1 false true false), [(.t 42), (.t 43)], none⟩,
   ⟨(some 45), (.cpy 1), [(.t 41), (.t 44)], none⟩,
   ⟨(some 46), (.bin .add), [(.t 38), (.t 45)], none⟩,
   ⟨(some 8), .mv, [(.t 46)], none⟩] [[], [], [], [1, 2], [], [], [4, 5], [3, 6], [0, 7], [8, 7, 0, 1, 2, 3, 4, 5, 6, 7, 8]])))))
 (.seq
 (.reg false [
   ⟨(some 47), .mv, [(.t 7)], none⟩,
   ⟨(some 4), .mv, [(.t 47)], none⟩] [])
 .ret))))))))⟩

def clists_Where : AFun := ⟨20, [(4, none)],
 (.seq
 (.reg false [
   ⟨(some 4), .mv, [(.c (.slice none 0 0))], none⟩] [])
 (.seq
 (.reg false [
   ⟨(some 5), .mv, [(.c (.slice none 0 0))], none⟩] [])
 (.seq
 (.seq
 (.reg false [
   ⟨(some 7), .mv, [(.t 0)], none⟩,
   ⟨(some 8), .mv, [(.c (.int .i64 0))], none⟩] [])
 (.block 0
 (.loop
 (.seq
 (.reg false [
   ⟨(some 9), (.bin .lss), [(.t 8), (.t 7)], none⟩] [])
 (.seq
 (.cond (.t 9)
  .skip
  (.exit 0))
 (.seq
 (.block 1
 (.seq
 (.reg false [
   ⟨(some 10), .mv, [(.t 8)], none⟩,
   ⟨(some 6), .mv, [(.t 10)], none⟩] [])
 (.seq
 (.reg false [
   ⟨(some 11), .mv, [(.t 1)], none⟩,
   ⟨(some 12), .mv, [(.t 6)], none⟩,
   ⟨(some 13), .call, [(.t 11), (.t 12)], none⟩] [])
 (.cond (.t 13)
  (.reg false [
    ⟨(some 14), .mv, [(.t 5)], none⟩,
    ⟨(some 15), .mv, [(.t 6)], none⟩,
    ⟨(some 16), (.bsl 1 1 [(.int .i64 0)] [0]), [(.t 15)], none⟩,
    ⟨(some 17), (.app 1 8), [(.t 14), (.t 16)], none⟩,
    ⟨(some 5), .mv, [(.t 17)], none⟩] [])
  .skip))))
 (.reg false [
   ⟨(some 18), (.bin .add), [(.t 8), (.c (.int .i64 1))], none⟩,
   ⟨(some 8), .mv, [(.t 18)], none⟩] [])))))))
 (.seq
 (.reg false [
   ⟨(some 19), .mv, [(.t 5)], none⟩,
   ⟨(some 4), .mv, [(.t 19)], none⟩] [])
 .ret))))⟩

def cdistance_All_c1 : AFun := ⟨9, [(4, none)],
 (.seq
 (.reg false [
   ⟨(some 4), .mv, [(.c (.bool false))], none⟩] [])
 (.seq
 (.reg false [
   ⟨(some 5), (.ld true 3), [(.t 1)], none⟩,
   ⟨(some 6), (.ld false 1), [(.t 2)], none⟩,
   ⟨(some 7), .mv, [(.t 0)], none⟩,
   ⟨(some 8), .call, [(.f ndistance_start), (.t 5), (.t 6), (.t 7)], none⟩,
   ⟨(some 4), .mv, [(.t 8)], none⟩] [])
 .ret))⟩

def cdistance_start : AFun := ⟨17, [(6, none)],
 (.seq
 (.reg false [
   ⟨(some 3), (.box 3), [(.t 0)], none⟩,
   ⟨(some 6), .mv, [(.c (.bool false))], none⟩] [])
 (.seq
 (.reg false [
   ⟨(some 7), .mv, [(.t 1)], none⟩,
   ⟨(some 8), .mv, [(.t 2)], none⟩,
   ⟨(some 9), .call, [(.f nslices_Contains_Lint_int), (.t 7), (.t 8)], none⟩,
   ⟨(some 10), .mv, [(.t 9)], none⟩,
   ⟨(some 11), (.fad 2), [(.t 3)], (some (10, true))⟩,
   ⟨(some 12), (.ld false 1), [(.t 11)], (some (10, true))⟩,
   ⟨(some 13), .mv, [(.t 2)], (some (10, true))⟩,
   ⟨(some 14), .call, [(.f nslices_Contains_Lint_int), (.t 12), (.t 13)], (some (10, true))⟩,
   ⟨(some 15), (.un .not), [(.t 14)], (some (10, true))⟩,
   ⟨(some 16), .pick, [(.t 10), (.t 15), (.c (.bool false))], none⟩,
   ⟨(some 6), .mv, [(.t 16)], none⟩] [])
 .ret))⟩

def cslices_DeleteFunc_Lint_int : AFun := ⟨42, [(4, none)],
 (.seq
 (.reg false [
   ⟨(some 4), .mv, [(.c (.slice none 0 0))], none⟩] [])
 (.seq
 (.reg false [
   ⟨(some 8), .mv, [(.t 0)], none⟩,
   ⟨(some 9), .mv, [(.t 1)], none⟩,
   ⟨(some 10), .call, [(.f nslices_IndexFunc_Lint_int), (.t 8), (.t 9)], none⟩,
   ⟨(some 5), .mv, [(.t 10)], none⟩] [])
 (.seq
 (.seq
 (.reg false [
   ⟨(some 11), .mv, [(.t 5)], none⟩,
   ⟨(some 12), (.bin .eql), [(.t 11), (.c (.int .i64 (-1)))], none⟩] [])
 (.cond (.t 12)
  (.seq
  (.reg false [
    ⟨(some 13), .mv, [(.t 0)], none⟩,
    ⟨(some 4), .mv, [(.t 13)], none⟩] [])
  .ret)
  .skip))
 (.seq
 (.seq
 (.reg false [
   ⟨(some 14), .mv, [(.t 5)], none⟩,
   ⟨(some 15), (.bin .add), [(.t 14), (.c (.int .i64 1))], none⟩,
   ⟨(some 6), .mv, [(.t 15)], none⟩] [])
 (.block 0
 (.loop
 (.seq
 (.seq
 (.reg false [
   ⟨(some 16), .mv, [(.t 6)], none⟩,
   ⟨(some 17), .mv, [(.t 0)], none⟩,
   ⟨(some 18), .len, [(.t 17)], none⟩,
   ⟨(some 19), (.bin .lss), [(.t 16), (.t 18)], none⟩] [])
 (.cond (.t 19)
  .skip
  (.exit 0)))
 (.seq
 (.block 1
 (.seq
 (.reg false [
   ⟨(some 22), .mv, [(.t 0)], none⟩,
   ⟨(some 23), .mv, [(.t 6)], none⟩,
   ⟨(some 24), (.iad 1), [(.t 22), (.t 23)], none⟩,
   ⟨(some 25), (.ld false 1), [(.t 24)], none⟩,
   ⟨(some 7), .mv, [(.t 25)], none⟩] [])
 (.seq
 (.reg false [
   ⟨(some 26), .mv, [(.t 1)], none⟩,
   ⟨(some 27), .mv, [(.t 7)], none⟩,
   ⟨(some 28), .call, [(.t 26), (.t 27)], none⟩,
   ⟨(some 29), (.un .not), [(.t 28)], none⟩] [])
 (.cond (.t 29)
  (.seq
  (.reg false [
    ⟨(some 30), .mv, [(.t 0)], none⟩,
    ⟨(some 31), .mv, [(.t 5)], none⟩,
    ⟨(some 32), .mv, [(.t 7)], none⟩,
    ⟨(some 33), (.iad 1), [(.t 30), (.t 31)], none⟩,
    ⟨none, (.st 1), [(.t 33), (.t 32)], none⟩] [])
  (.reg false [
    ⟨(some 34), .mv, [(.t 5)], none⟩,
    ⟨(some 35), (.bin .add), [(.t 34), (.c (.int .i64 1))], none⟩,
    ⟨(some 5), .mv, [(.t 35)], none⟩] []))
  .skip))))
 (.reg false [
   ⟨(some 20), .mv, [(.t 6)], none⟩,
   ⟨(some 21), (.bin .add), [(.t 20), (.c (.int .i64 1))], none⟩,
   ⟨(some 6), .mv, [(.t 21)], none⟩] []))))))
 (.seq
 (.reg false [
   ⟨(some 36), .mv, [(.t 0)], none⟩,
   ⟨(some 37), .mv, [(.t 5)], none⟩,
   ⟨(some 38), (.slc 1 true false false), [(.t 36), (.t 37)], none⟩,
   ⟨none, (.clr 1 [(.int .i64 0)]), [(.t 38)], none⟩] [])
 (.seq
 (.reg false [
   ⟨(some 39), .mv, [(.t 0)], none⟩,
   ⟨(some 40), .mv, [(.t 5)], none⟩,
   ⟨(some 41), (.slc 1 false true false), [(.t 39), (.t 40)], none⟩,
   ⟨(some 4), .mv, [(.t 41)], none⟩] [])
 .ret))))))⟩

def cdistance_All_c2 : AFun := ⟨17, [(3, none)],
 (.seq
 (.reg false [
   ⟨(some 3), .mv, [(.c (.bool false))], none⟩] [])
 (.seq
 (.reg false [
   ⟨(some 4), .mv, [(.t 0)], none⟩,
   ⟨(some 5), (.ld false 1), [(.t 1)], none⟩,
   ⟨(some 6), .len, [(.t 5)], none⟩,
   ⟨(some 7), (.bin .sub), [(.t 6), (.c (.int .i64 1))], none⟩,
   ⟨(some 8), .call, [(.f nlists_In), (.t 4), (.c (.int .i64 0)), (.t 7)], none⟩,
   ⟨(some 9), (.un .not), [(.t 8)], none⟩,
   ⟨(some 10), .mv, [(.t 9)], none⟩,
   ⟨(some 11), (.ld false 1), [(.t 1)], (some (10, false))⟩,
   ⟨(some 12), .mv, [(.t 0)], (some (10, false))⟩,
   ⟨(some 13), (.iad 1), [(.t 11), (.t 12)], (some (10, false))⟩,
   ⟨(some 14), (.ld false 1), [(.t 13)], (some (10, false))⟩,
   ⟨(some 15), (.bin .geq), [(.t 14), (.c (.int .i64 0))], (some (10, false))⟩,
   ⟨(some 16), .pick, [(.t 10), (.c (.bool true)), (.t 15)], none⟩,
   ⟨(some 3), .mv, [(.t 16)], none⟩] [])
 .ret))⟩

def cslices_ContainsFunc_Lint_int : AFun := ⟨9, [(4, none)],
 (.seq
 (.reg false [
   ⟨(some 4), .mv, [(.c (.bool false))], none⟩] [])
 (.seq
 (.reg false [
   ⟨(some 5), .mv, [(.t 0)], none⟩,
   ⟨(some 6), .mv, [(.t 1)], none⟩,
   ⟨(some 7), .call, [(.f nslices_IndexFunc_Lint_int), (.t 5), (.t 6)], none⟩,
   ⟨(some 8), (.bin .geq), [(.t 7), (.c (.int .i64 0))], none⟩,
   ⟨(some 4), .mv, [(.t 8)], none⟩] [])
 .ret))⟩

def cdistance_Way_c1 : AFun := ⟨19, [(5, none)],
 (.seq
 (.reg false [
   ⟨(some 5), .mv, [(.c (.bool false))], none⟩] [])
 (.seq
 (.reg true [
   ⟨(some 6), (.ld false 1), [(.t 1)], none⟩,
   ⟨(some 7), .mv, [(.t 0)], none⟩,
   ⟨(some 8), (.iad 1), [(.t 6), (.t 7)], none⟩,
   ⟨(some 9), (.ld false 1), [(.t 8)], none⟩,
   ⟨(some 10), .mv, [(.t 9)], none⟩,
   ⟨(some 11), (.ld false 1), [(.t 2)], (some (10, true))⟩,
   ⟨(some 12), .mv, [(.t 0)], (some (10, true))⟩,
   ⟨(some 13), (.iad 1), [(.t 11), (.t 12)], (some (10, true))⟩,
   ⟨(some 14), (.ld false 1), [(.t 13)], (some (10, true))⟩,
   ⟨(some 15), (.ld false 1), [(.t 3)], (some (10, true))⟩,
   ⟨(some 16), (.bin .add), [(.t 15), (.c (.int .i64 1))], (some (10, true))⟩,
   ⟨(some 17), (.bin .eql), [(.t 14), (.t 16)], (some (10, true))⟩,
   ⟨(some 18), .pick, [(.t 10), (.t 17), (.c (.bool false))], none⟩,
   ⟨(some 5), .mv, [(.t 18)], none⟩] [[], [], [0, 1], [2], [3], [4], [4], [5, 6, 4], [7, 4], [4], [9, 4], [8, 10, 4], [4, 11], [12, 4, 0, 1, 2, 3, 4, 5, 6, 7, 8, 9, 10, 11, 12]])
 .ret))⟩

def cslices_IndexFunc_Lint_int : AFun := ⟨19, [(4, none)],
 (.seq
 (.reg false [
   ⟨(some 4), .mv, [(.c (.int .i64 0))], none⟩] [])
 (.seq
 (.seq
 (.reg false [
   ⟨(some 6), .mv, [(.t 0)], none⟩,
   ⟨(some 7), .len, [(.t 6)], none⟩,
   ⟨(some 8), .mv, [(.c (.int .i64 0))], none⟩] [])
 (.block 0
 (.loop
 (.seq
 (.reg false [
   ⟨(some 9), (.bin .lss), [(.t 8), (.t 7)], none⟩] [])
 (.seq
 (.cond (.t 9)
  .skip
  (.exit 0))
 (.seq
 (.block 1
 (.seq
 (.reg false [
   ⟨(some 10), .mv, [(.t 8)], none⟩,
   ⟨(some 5), .mv, [(.t 10)], none⟩] [])
 (.seq
 (.reg false [
   ⟨(some 11), .mv, [(.t 1)], none⟩,
   ⟨(some 12), .mv, [(.t 0)], none⟩,
   ⟨(some 13), .mv, [(.t 5)], none⟩,
   ⟨(some 14), (.iad 1), [(.t 12), (.t 13)], none⟩,
   ⟨(some 15), (.ld false 1), [(.t 14)], none⟩,
   ⟨(some 16), .call, [(.t 11), (.t 15)], none⟩] [])
 (.cond (.t 16)
  (.seq
  (.reg false [
    ⟨(some 17), .mv, [(.t 5)], none⟩,
    ⟨(some 4), .mv, [(.t 17)], none⟩] [])
  .ret)
  .skip))))
 (.reg false [
   ⟨(some 18), (.bin .add), [(.t 8), (.c (.int .i64 1))], none⟩,
   ⟨(some 8), .mv, [(.t 18)], none⟩] [])))))))
 (.seq
 (.reg false [
   ⟨(some 4), .mv, [(.c (.int .i64 (-1)))], none⟩] [])
 .ret)))⟩

def cdistance_Way_c2 : AFun := ⟨5, [(2, none)],
 (.seq
 (.reg false [
   ⟨(some 2), .mv, [(.c (.bool false))], none⟩] [])
 (.seq
 (.reg false [
   ⟨(some 3), .mv, [(.t 0)], none⟩,
   ⟨(some 4), (.bin .eql), [(.t 3), (.c (.int .i64 0))], none⟩,
   ⟨(some 2), .mv, [(.t 4)], none⟩] [])
 .ret))⟩

def cdistance_Way_c3 : AFun := ⟨22, [(5, none)],
 (.seq
 (.reg false [
   ⟨(some 5), .mv, [(.c (.bool false))], none⟩] [])
 (.seq
 (.reg true [
   ⟨(some 6), (.ld false 1), [(.t 1)], none⟩,
   ⟨(some 7), .mv, [(.t 0)], none⟩,
   ⟨(some 8), (.iad 1), [(.t 6), (.t 7)], none⟩,
   ⟨(some 9), (.ld false 1), [(.t 8)], none⟩,
   ⟨(some 10), .mv, [(.t 9)], none⟩,
   ⟨(some 11), (.ld false 1), [(.t 2)], (some (10, true))⟩,
   ⟨(some 12), .mv, [(.t 0)], (some (10, true))⟩,
   ⟨(some 13), (.iad 1), [(.t 11), (.t 12)], (some (10, true))⟩,
   ⟨(some 14), (.ld false 1), [(.t 13)], (some (10, true))⟩,
   ⟨(some 15), (.ld false 1), [(.t 2)], (some (10, true))⟩,
   ⟨(some 16), (.ld false 1), [(.t 3)], (some (10, true))⟩,
   ⟨(some 17), (.iad 1), [(.t 15), (.t 16)], (some (10, true))⟩,
   ⟨(some 18), (.ld false 1), [(.t 17)], (some (10, true))⟩,
   ⟨(some 19), (.bin .add), [(.t 18), (.c (.int .i64 1))], (some (10, true))⟩,
   ⟨(some 20), (.bin .eql), [(.t 14), (.t 19)], (some (10, true))⟩,
   ⟨(some 21), .pick, [(.t 10), (.t 20), (.c (.bool false))], none⟩,
   ⟨(some 5), .mv, [(.t 21)], none⟩] [[], [], [0, 1], [2], [3], [4], [4], [5, 6, 4], [7, 4], [4], [4], [9, 10, 4], [11, 4], [12, 4], [8, 13, 4], [4, 14], [15, 4, 0, 1, 2, 3, 4, 5, 6, 7, 8, 9, 10, 11, 12, 13, 14, 15]])
 .ret))⟩

def cdistance_Order_c1 : AFun := ⟨9, [(3, none)],
 (.seq
 (.reg false [
   ⟨(some 3), .mv, [(.c (.bool false))], none⟩] [])
 (.seq
 (.reg false [
   ⟨(some 4), (.ld false 1), [(.t 1)], none⟩,
   ⟨(some 5), .mv, [(.t 0)], none⟩,
   ⟨(some 6), (.iad 1), [(.t 4), (.t 5)], none⟩,
   ⟨(some 7), (.ld false 1), [(.t 6)], none⟩,
   ⟨(some 8), (.bin .geq), [(.t 7), (.c (.int .i64 0))], none⟩,
   ⟨(some 3), .mv, [(.t 8)], none⟩] [])
 .ret))⟩

def cslices_SortStableFunc_Lint_int : AFun := ⟨9, [],
 (.reg false [
   ⟨(some 4), .mv, [(.t 0)], none⟩,
   ⟨(some 5), .mv, [(.t 0)], none⟩,
   ⟨(some 6), .len, [(.t 5)], none⟩,
   ⟨(some 7), .mv, [(.t 1)], none⟩,
   ⟨(some 8), .call, [(.f nslices_stableCmpFunc_int), (.t 4), (.t 6), (.t 7)], none⟩] [])⟩

def cdistance_Order_c2 : AFun := ⟨15, [(5, none)],
 (.seq
 (.reg false [
   ⟨(some 5), .mv, [(.c (.int .i64 0))], none⟩] [])
 (.seq
 (.reg true [
   ⟨(some 6), (.ld false 1), [(.t 2)], none⟩,
   ⟨(some 7), .mv, [(.t 0)], none⟩,
   ⟨(some 8), (.iad 1), [(.t 6), (.t 7)], none⟩,
   ⟨(some 9), (.ld false 1), [(.t 8)], none⟩,
   ⟨(some 10), (.ld false 1), [(.t 2)], none⟩,
   ⟨(some 11), .mv, [(.t 1)], none⟩,
   ⟨(some 12), (.iad 1), [(.t 10), (.t 11)], none⟩,
   ⟨(some 13), (.ld false 1), [(.t 12)], none⟩,
   ⟨(some 14), .call, [(.f ncmp_Compare_int), (.t 9), (.t 13)], none⟩,
   ⟨(some 5), .mv, [(.t 14)], none⟩] [[], [], [0, 1], [2], [], [], [4, 5], [6], [3, 7], [8, 8, 0, 1, 2, 3, 4, 5, 6, 7, 8]])
 .ret))⟩

def cslices_IndexFunc_Lapi_Edge_api_Edge : AFun := ⟨19, [(4, none)],
 (.seq
 (.reg false [
   ⟨(some 4), .mv, [(.c (.int .i64 0))], none⟩] [])
 (.seq
 (.seq
 (.reg false [
   ⟨(some 6), .mv, [(.t 0)], none⟩,
   ⟨(some 7), .len, [(.t 6)], none⟩,
   ⟨(some 8), .mv, [(.c (.int .i64 0))], none⟩] [])
 (.block 0
 (.loop
 (.seq
 (.reg false [
   ⟨(some 9), (.bin .lss), [(.t 8), (.t 7)], none⟩] [])
 (.seq
 (.cond (.t 9)
  .skip
  (.exit 0))
 (.seq
 (.block 1
 (.seq
 (.reg false [
   ⟨(some 10), .mv, [(.t 8)], none⟩,
   ⟨(some 5), .mv, [(.t 10)], none⟩] [])
 (.seq
 (.reg false [
   ⟨(some 11), .mv, [(.t 1)], none⟩,
   ⟨(some 12), .mv, [(.t 0)], none⟩,
   ⟨(some 13), .mv, [(.t 5)], none⟩,
   ⟨(some 14), (.iad 3), [(.t 12), (.t 13)], none⟩,
   ⟨(some 15), (.ld true 3), [(.t 14)], none⟩,
   ⟨(some 16), .call, [(.t 11), (.t 15)], none⟩] [])
 (.cond (.t 16)
  (.seq
  (.reg false [
    ⟨(some 17), .mv, [(.t 5)], none⟩,
    ⟨(some 4), .mv, [(.t 17)], none⟩] [])
  .ret)
  .skip))))
 (.reg false [
   ⟨(some 18), (.bin .add), [(.t 8), (.c (.int .i64 1))], none⟩,
   ⟨(some 8), .mv, [(.t 18)], none⟩] [])))))))
 (.seq
 (.reg false [
   ⟨(some 4), .mv, [(.c (.int .i64 (-1)))], none⟩] [])
 .ret)))⟩

def cmath_bits_Mul : AFun := ⟨30, [(4, none), (5, none)],
 (.seq
 (.reg false [
   ⟨(some 4), .mv, [(.c (.int .u64 0))], none⟩,
   ⟨(some 5), .mv, [(.c (.int .u64 0))], none⟩] [])
 (.seq
 (.cond (.c (.bool false))
  (.seq
  (.reg false [
    ⟨(some 11), .mv, [(.t 0)], none⟩,
    ⟨(some 12), (.cvt .u32), [(.t 11)], none⟩,
    ⟨(some 13), .mv, [(.t 1)], none⟩,
    ⟨(some 14), (.cvt .u32), [(.t 13)], none⟩,
    ⟨(some 15), .call, [(.f nmath_bits_Mul32), (.t 12), (.t 14)], none⟩,
    ⟨(some 10), .mv, [(.t 15)], none⟩,
    ⟨(some 16), (.ext 0), [(.t 10)], none⟩,
    ⟨(some 17), (.ext 1), [(.t 10)], none⟩,
    ⟨(some 6), .mv, [(.t 16)], none⟩,
    ⟨(some 7), .mv, [(.t 17)], none⟩] [])
  (.seq
  (.reg false [
    ⟨(some 18), .mv, [(.t 6)], none⟩,
    ⟨(some 19), (.cvt .u64), [(.t 18)], none⟩,
    ⟨(some 20), .mv, [(.t 7)], none⟩,
    ⟨(some 21), (.cvt .u64), [(.t 20)], none⟩,
    ⟨(some 4), .mv, [(.t 19)], none⟩,
    ⟨(some 5), .mv, [(.t 21)], none⟩] [])
  .ret))
  .skip)
 (.seq
 (.reg false [
   ⟨(some 23), .mv, [(.t 0)], none⟩,
   ⟨(some 24), .mv, [(.t 1)], none⟩,
   ⟨(some 25), .call, [(.f nmath_bits_Mul64), (.t 23), (.t 24)], none⟩,
   ⟨(some 22), .mv, [(.t 25)], none⟩,
   ⟨(some 26), (.ext 0), [(.t 22)], none⟩,
   ⟨(some 27), (.ext 1), [(.t 22)], none⟩,
   ⟨(some 8), .mv, [(.t 26)], none⟩,
   ⟨(some 9), .mv, [(.t 27)], none⟩] [])
 (.seq
 (.reg false [
   ⟨(some 28), .mv, [(.t 8)], none⟩,
   ⟨(some 29), .mv, [(.t 9)], none⟩,
   ⟨(some 4), .mv, [(.t 28)], none⟩,
   ⟨(some 5), .mv, [(.t 29)], none⟩] [])
 .ret))))⟩

def cslices_stableCmpFunc_int : AFun := ⟨63, [],
 (.seq
 (.reg false [
   ⟨(some 6), .mv, [(.c (.int .i64 20))], none⟩] [])
 (.seq
 (.reg false [
   ⟨(some 10), .mv, [(.t 6)], none⟩,
   ⟨(some 7), .mv, [(.c (.int .i64 0))], none⟩,
   ⟨(some 8), .mv, [(.t 10)], none⟩] [])
 (.seq
 (.block 0
 (.loop
 (.seq
 (.seq
 (.reg false [
   ⟨(some 11), .mv, [(.t 8)], none⟩,
   ⟨(some 12), .mv, [(.t 1)], none⟩,
   ⟨(some 13), (.bin .leq), [(.t 11), (.t 12)], none⟩] [])
 (.cond (.t 13)
  .skip
  (.exit 0)))
 (.block 1
 (.seq
 (.reg false [
   ⟨(some 14), .mv, [(.t 0)], none⟩,
   ⟨(some 15), .mv, [(.t 7)], none⟩,
   ⟨(some 16), .mv, [(.t 8)], none⟩,
   ⟨(some 17), .mv, [(.t 2)], none⟩,
   ⟨(some 18), .call, [(.f nslices_insertionSortCmpFunc_int), (.t 14), (.t 15), (.t 16), (.t 17)], none⟩] [])
 (.seq
 (.reg false [
   ⟨(some 19), .mv, [(.t 8)], none⟩,
   ⟨(some 7), .mv, [(.t 19)], none⟩] [])
 (.reg false [
   ⟨(some 20), .mv, [(.t 8)], none⟩,
   ⟨(some 21), .mv, [(.t 6)], none⟩,
   ⟨(some 22), (.bin .add), [(.t 20), (.t 21)], none⟩,
   ⟨(some 8), .mv, [(.t 22)], none⟩] [])))))))
 (.seq
 (.reg false [
   ⟨(some 23), .mv, [(.t 0)], none⟩,
   ⟨(some 24), .mv, [(.t 7)], none⟩,
   ⟨(some 25), .mv, [(.t 1)], none⟩,
   ⟨(some 26), .mv, [(.t 2)], none⟩,
   ⟨(some 27), .call, [(.f nslices_insertionSortCmpFunc_int), (.t 23), (.t 24), (.t 25), (.t 26)], none⟩] [])
 (.block 2
 (.loop
 (.seq
 (.seq
 (.reg false [
   ⟨(some 28), .mv, [(.t 6)], none⟩,
   ⟨(some 29), .mv, [(.t 1)], none⟩,
   ⟨(some 30), (.bin .lss), [(.t 28), (.t 29)], none⟩] [])
 (.cond (.t 30)
  .skip
  (.exit 2)))
 (.block 3
 (.seq
 (.reg false [
   ⟨(some 31), .mv, [(.t 6)], none⟩,
   ⟨(some 32), (.bin .mul), [(.c (.int .i64 2)), (.t 31)], none⟩,
   ⟨(some 7), .mv, [(.c (.int .i64 0))], none⟩,
   ⟨(some 8), .mv, [(.t 32)], none⟩] [])
 (.seq
 (.block 4
 (.loop
 (.seq
 (.seq
 (.reg false [
   ⟨(some 33), .mv, [(.t 8)], none⟩,
   ⟨(some 34), .mv, [(.t 1)], none⟩,
   ⟨(some 35), (.bin .leq), [(.t 33), (.t 34)], none⟩] [])
 (.cond (.t 35)
  .skip
  (.exit 4)))
 (.block 5
 (.seq
 (.reg false [
   ⟨(some 36), .mv, [(.t 0)], none⟩,
   ⟨(some 37), .mv, [(.t 7)], none⟩,
   ⟨(some 38), .mv, [(.t 7)], none⟩,
   ⟨(some 39), .mv, [(.t 6)], none⟩,
   ⟨(some 40), (.bin .add), [(.t 38), (.t 39)], none⟩,
   ⟨(some 41), .mv, [(.t 8)], none⟩,
   ⟨(some 42), .mv, [(.t 2)], none⟩,
   ⟨(some 43), .call, [(.f nslices_symMergeCmpFunc_int), (.t 36), (.t 37), (.t 40), (.t 41), (.t 42)], none⟩] [])
 (.seq
 (.reg false [
   ⟨(some 44), .mv, [(.t 8)], none⟩,
   ⟨(some 7), .mv, [(.t 44)], none⟩] [])
 (.reg false [
   ⟨(some 45), .mv, [(.t 8)], none⟩,
   ⟨(some 46), .mv, [(.t 6)], none⟩,
   ⟨(some 47), (.bin .mul), [(.c (.int .i64 2)), (.t 46)], none⟩,
   ⟨(some 48), (.bin .add), [(.t 45), (.t 47)], none⟩,
   ⟨(some 8), .mv, [(.t 48)], none⟩] [])))))))
 (.seq
 (.seq
 (.reg false [
   ⟨(some 49), .mv, [(.t 7)], none⟩,
   ⟨(some 50), .mv, [(.t 6)], none⟩,
   ⟨(some 51), (.bin .add), [(.t 49), (.t 50)], none⟩,
   ⟨(some 9), .mv, [(.t 51)], none⟩] [])
 (.seq
 (.reg false [
   ⟨(some 52), .mv, [(.t 9)], none⟩,
   ⟨(some 53), .mv, [(.t 1)], none⟩,
   ⟨(some 54), (.bin .lss), [(.t 52), (.t 53)], none⟩] [])
 (.cond (.t 54)
  (.reg false [
    ⟨(some 55), .mv, [(.t 0)], none⟩,
    ⟨(some 56), .mv, [(.t 7)], none⟩,
    ⟨(some 57), .mv, [(.t 9)], none⟩,
    ⟨(some 58), .mv, [(.t 1)], none⟩,
    ⟨(some 59), .mv, [(.t 2)], none⟩,
    ⟨(some 60), .call, [(.f nslices_symMergeCmpFunc_int), (.t 55), (.t 56), (.t 57), (.t 58), (.t 59)], none⟩] [])
  .skip)))
 (.reg false [
   ⟨(some 61), .mv, [(.t 6)], none⟩,
   ⟨(some 62), (.bin .mul), [(.t 61), (.c (.int .i64 2))], none⟩,
   ⟨(some 6), .mv, [(.t 62)], none⟩] []))))))))))))⟩

def cmath_bits_Mul32 : AFun := ⟨17, [(4, none), (5, none)],
 (.seq
 (.reg false [
   ⟨(some 4), .mv, [(.c (.int .u32 0))], none⟩,
   ⟨(some 5), .mv, [(.c (.int .u32 0))], none⟩] [])
 (.seq
 (.reg false [
   ⟨(some 7), .mv, [(.t 0)], none⟩,
   ⟨(some 8), (.cvt .u64), [(.t 7)], none⟩,
   ⟨(some 9), .mv, [(.t 1)], none⟩,
   ⟨(some 10), (.cvt .u64), [(.t 9)], none⟩,
   ⟨(some 11), (.bin .mul), [(.t 8), (.t 10)], none⟩,
   ⟨(some 6), .mv, [(.t 11)], none⟩] [])
 (.seq
 (.reg false [
   ⟨(some 12), .mv, [(.t 6)], none⟩,
   ⟨(some 13), (.bin .shr), [(.t 12), (.c (.int .u64 32))], none⟩,
   ⟨(some 14), (.cvt .u32), [(.t 13)], none⟩,
   ⟨(some 15), .mv, [(.t 6)], none⟩,
   ⟨(some 16), (.cvt .u32), [(.t 15)], none⟩,
   ⟨(some 4), .mv, [(.t 14)], none⟩,
   ⟨(some 5), .mv, [(.t 16)], none⟩] [])
 .ret)))⟩

def cmath_bits_Mul64 : AFun := ⟨51, [(4, none), (5, none)],
 (.seq
 (.reg false [
   ⟨(some 4), .mv, [(.c (.int .u64 0))], none⟩,
   ⟨(some 5), .mv, [(.c (.int .u64 0))], none⟩] [])
 (.seq
 (.reg false [
   ⟨(some 14), .mv, [(.t 0)], none⟩,
   ⟨(some 15), (.bin .and), [(.t 14), (.c (.int .u64 4294967295))], none⟩,
   ⟨(some 6), .mv, [(.t 15)], none⟩] [])
 (.seq
 (.reg false [
   ⟨(some 16), .mv, [(.t 0)], none⟩,
   ⟨(some 17), (.bin .shr), [(.t 16), (.c (.int .u64 32))], none⟩,
   ⟨(some 7), .mv, [(.t 17)], none⟩] [])
 (.seq
 (.reg false [
   ⟨(some 18), .mv, [(.t 1)], none⟩,
   ⟨(some 19), (.bin .and), [(.t 18), (.c (.int .u64 4294967295))], none⟩,
   ⟨(some 8), .mv, [(.t 19)], none⟩] [])
 (.seq
 (.reg false [
   ⟨(some 20), .mv, [(.t 1)], none⟩,
   ⟨(some 21), (.bin .shr), [(.t 20), (.c (.int .u64 32))], none⟩,
   ⟨(some 9), .mv, [(.t 21)], none⟩] [])
 (.seq
 (.reg false [
   ⟨(some 22), .mv, [(.t 6)], none⟩,
   ⟨(some 23), .mv, [(.t 8)], none⟩,
   ⟨(some 24), (.bin .mul), [(.t 22), (.t 23)], none⟩,
   ⟨(some 10), .mv, [(.t 24)], none⟩] [])
 (.seq
 (.reg false [
   ⟨(some 25), .mv, [(.t 7)], none⟩,
   ⟨(some 26), .mv, [(.t 8)], none⟩,
   ⟨(some 27), (.bin .mul), [(.t 25), (.t 26)], none⟩,
   ⟨(some 28), .mv, [(.t 10)], none⟩,
   ⟨(some 29), (.bin .shr), [(.t 28), (.c (.int .u64 32))], none⟩,
   ⟨(some 30), (.bin .add), [(.t 27), (.t 29)], none⟩,
   ⟨(some 11), .mv, [(.t 30)], none⟩] [])
 (.seq
 (.reg false [
   ⟨(some 31), .mv, [(.t 11)], none⟩,
   ⟨(some 32), (.bin .and), [(.t 31), (.c (.int .u64 4294967295))], none⟩,
   ⟨(some 12), .mv, [(.t 32)], none⟩] [])
 (.seq
 (.reg false [
   ⟨(some 33), .mv, [(.t 11)], none⟩,
   ⟨(some 34), (.bin .shr), [(.t 33), (.c (.int .u64 32))], none⟩,
   ⟨(some 13), .mv, [(.t 34)], none⟩] [])
 (.seq
 (.reg false [
   ⟨(some 35), .mv, [(.t 12)], none⟩,
   ⟨(some 36), .mv, [(.t 6)], none⟩,
   ⟨(some 37), .mv, [(.t 9)], none⟩,
   ⟨(some 38), (.bin .mul), [(.t 36), (.t 37)], none⟩,
   ⟨(some 39), (.bin .add), [(.t 35), (.t 38)], none⟩,
   ⟨(some 12), .mv, [(.t 39)], none⟩] [])
 (.seq
 (.reg false [
   ⟨(some 40), .mv, [(.t 7)], none⟩,
   ⟨(some 41), .mv, [(.t 9)], none⟩,
   ⟨(some 42), (.bin .mul), [(.t 40), (.t 41)], none⟩,
   ⟨(some 43), .mv, [(.t 13)], none⟩,
   ⟨(some 44), (.bin .add), [(.t 42), (.t 43)], none⟩,
   ⟨(some 45), .mv, [(.t 12)], none⟩,
   ⟨(some 46), (.bin .shr), [(.t 45), (.c (.int .u64 32))], none⟩,
   ⟨(some 47), (.bin .add), [(.t 44), (.t 46)], none⟩,
   ⟨(some 4), .mv, [(.t 47)], none⟩] [])
 (.seq
 (.reg false [
   ⟨(some 48), .mv, [(.t 0)], none⟩,
   ⟨(some 49), .mv, [(.t 1)], none⟩,
   ⟨(some 50), (.bin .mul), [(.t 48), (.t 49)], none⟩,
   ⟨(some 5), .mv, [(.t 50)], none⟩] [])
 .ret))))))))))))⟩

def cslices_insertionSortCmpFunc_int : AFun := ⟨53, [],
 (.seq
 (.reg false [
   ⟨(some 10), .mv, [(.t 1)], none⟩,
   ⟨(some 11), (.bin .add), [(.t 10), (.c (.int .i64 1))], none⟩,
   ⟨(some 8), .mv, [(.t 11)], none⟩] [])
 (.block 0
 (.loop
 (.seq
 (.seq
 (.reg false [
   ⟨(some 12), .mv, [(.t 8)], none⟩,
   ⟨(some 13), .mv, [(.t 2)], none⟩,
   ⟨(some 14), (.bin .lss), [(.t 12), (.t 13)], none⟩] [])
 (.cond (.t 14)
  .skip
  (.exit 0)))
 (.seq
 (.block 1
 (.seq
 (.reg false [
   ⟨(some 17), .mv, [(.t 8)], none⟩,
   ⟨(some 9), .mv, [(.t 17)], none⟩] [])
 (.block 2
 (.loop
 (.seq
 (.seq
 (.reg true [
   ⟨(some 18), .mv, [(.t 9)], none⟩,
   ⟨(some 19), .mv, [(.t 1)], none⟩,
   ⟨(some 20), (.bin .gtr), [(.t 18), (.t 19)], none⟩,
   ⟨(some 21), .mv, [(.t 20)], none⟩,
   ⟨(some 22), .mv, [(.t 3)], (some (21, true))⟩,
   ⟨(some 23), .mv, [(.t 0)], (some (21, true))⟩,
   ⟨(some 24), .mv, [(.t 9)], (some (21, true))⟩,
   ⟨(some 25), (.iad 1), [(.t 23), (.t 24)], (some (21, true))⟩,
   ⟨(some 26), (.ld false 1), [(.t 25)], (some (21, true))⟩,
   ⟨(some 27), .mv, [(.t 0)], (some (21, true))⟩,
   ⟨(some 28), .mv, [(.t 9)], (some (21, true))⟩,
   ⟨(some 29), (.bin .sub), [(.t 28), (.c (.int .i64 1))], (some (21, true))⟩,
   ⟨(some 30), (.iad 1), [(.t 27), (.t 29)], (some (21, true))⟩,
   ⟨(some 31), (.ld false 1), [(.t 30)], (some (21, true))⟩,
   ⟨(some 32), .call, [(.t 22), (.t 26), (.t 31)], (some (21, true))⟩,
   ⟨(some 33), (.bin .lss), [(.t 32), (.c (.int .i64 0))], (some (21, true))⟩,
   ⟨(some 34), .pick, [(.t 21), (.t 33), (.c (.bool false))], none⟩] [[], [], [0, 1], [2], [3], [3], [3], [5, 6, 3], [7, 3], [3], [3], [10, 3], [9, 11, 3], [12, 3], [4, 8, 13, 3, 3], [14, 3], [3, 15]])
 (.cond (.t 34)
  .skip
  (.exit 2)))
 (.seq
 (.block 3
 (.reg true [
   ⟨(some 37), .mv, [(.t 0)], none⟩,
   ⟨(some 38), .mv, [(.t 9)], none⟩,
   ⟨(some 39), .mv, [(.t 0)], none⟩,
   ⟨(some 40), .mv, [(.t 9)], none⟩,
   ⟨(some 41), (.bin .sub), [(.t 40), (.c (.int .i64 1))], none⟩,
   ⟨(some 42), .mv, [(.t 0)], none⟩,
   ⟨(some 43), .mv, [(.t 9)], none⟩,
   ⟨(some 44), (.bin .sub), [(.t 43), (.c (.int .i64 1))], none⟩,
   ⟨(some 45), (.iad 1), [(.t 42), (.t 44)], none⟩,
   ⟨(some 46), (.ld false 1), [(.t 45)], none⟩,
   ⟨(some 47), .mv, [(.t 0)], none⟩,
   ⟨(some 48), .mv, [(.t 9)], none⟩,
   ⟨(some 49), (.iad 1), [(.t 47), (.t 48)], none⟩,
   ⟨(some 50), (.ld false 1), [(.t 49)], none⟩,
   ⟨(some 51), (.iad 1), [(.t 37), (.t 38)], none⟩,
   ⟨none, (.st 1), [(.t 51), (.t 46)], none⟩,
   ⟨(some 52), (.iad 1), [(.t 39), (.t 41)], none⟩,
   ⟨none, (.st 1), [(.t 52), (.t 50)], none⟩] [[], [], [], [], [3], [], [], [6], [5, 7], [8], [], [], [10, 11], [12], [0, 1, 0, 1, 5, 6, 7, 8, 9, 13], [14, 9, 0, 1, 5, 6, 7, 8, 9, 13], [2, 4, 0, 1, 2, 3, 4, 5, 6, 7, 8, 9, 10, 11, 12, 13, 14, 15], [16, 13, 15, 0, 1, 2, 3, 4, 5, 6, 7, 8, 9, 10, 11, 12, 13, 14, 15]]))
 (.reg false [
   ⟨(some 35), .mv, [(.t 9)], none⟩,
   ⟨(some 36), (.bin .sub), [(.t 35), (.c (.int .i64 1))], none⟩,
   ⟨(some 9), .mv, [(.t 36)], none⟩] [])))))))
 (.reg false [
   ⟨(some 15), .mv, [(.t 8)], none⟩,
   ⟨(some 16), (.bin .add), [(.t 15), (.c (.int .i64 1))], none⟩,
   ⟨(some 8), .mv, [(.t 16)], none⟩] []))))))⟩

def cslices_symMergeCmpFunc_int : AFun := ⟨220, [],
 (.seq
 (.seq
 (.reg false [
   ⟨(some 25), .mv, [(.t 2)], none⟩,
   ⟨(some 26), .mv, [(.t 1)], none⟩,
   ⟨(some 27), (.bin .sub), [(.t 25), (.t 26)], none⟩,
   ⟨(some 28), (.bin .eql), [(.t 27), (.c (.int .i64 1))], none⟩] [])
 (.cond (.t 28)
  (.seq
  (.reg false [
    ⟨(some 29), .mv, [(.t 2)], none⟩,
    ⟨(some 10), .mv, [(.t 29)], none⟩] [])
  (.seq
  (.reg false [
    ⟨(some 30), .mv, [(.t 3)], none⟩,
    ⟨(some 11), .mv, [(.t 30)], none⟩] [])
  (.seq
  (.block 0
  (.loop
  (.seq
  (.seq
  (.reg false [
    ⟨(some 31), .mv, [(.t 10)], none⟩,
    ⟨(some 32), .mv, [(.t 11)], none⟩,
    ⟨(some 33), (.bin .lss), [(.t 31), (.t 32)], none⟩] [])
  (.cond (.t 33)
   .skip
   (.exit 0)))
  (.block 1
  (.seq
  (.reg false [
    ⟨(some 34), .mv, [(.t 10)], none⟩,
    ⟨(some 35), .mv, [(.t 11)], none⟩,
    ⟨(some 36), (.bin .add), [(.t 34), (.t 35)], none⟩,
    ⟨(some 37), (.cvt .u64), [(.t 36)], none⟩,
    ⟨(some 38), (.bin .shr), [(.t 37), (.c (.int .u64 1))], none⟩,
    ⟨(some 39), (.cvt .i64), [(.t 38)], none⟩,
    ⟨(some 12), .mv, [(.t 39)], none⟩] [])
  (.seq
  (.reg true [
    ⟨(some 40), .mv, [(.t 4)], none⟩,
    ⟨(some 41), .mv, [(.t 0)], none⟩,
    ⟨(some 42), .mv, [(.t 12)], none⟩,
    ⟨(some 43), (.iad 1), [(.t 41), (.t 42)], none⟩,
    ⟨(some 44), (.ld false 1), [(.t 43)], none⟩,
    ⟨(some 45), .mv, [(.t 0)], none⟩,
    ⟨(some 46), .mv, [(.t 1)], none⟩,
    ⟨(some 47), (.iad 1), [(.t 45), (.t 46)], none⟩,
    ⟨(some 48), (.ld false 1), [(.t 47)], none⟩,
    ⟨(some 49), .call, [(.t 40), (.t 44), (.t 48)], none⟩,
    ⟨(some 50), (.bin .lss), [(.t 49), (.c (.int .i64 0))], none⟩] [[], [], [], [1, 2], [3], [], [], [5, 6], [7], [0, 4, 8], [9]])
  (.cond (.t 50)
   (.reg false [
     ⟨(some 51), .mv, [(.t 12)], none⟩,
     ⟨(some 52), (.bin .add), [(.t 51), (.c (.int .i64 1))], none⟩,
     ⟨(some 10), .mv, [(.t 52)], none⟩] [])
   (.reg false [
     ⟨(some 53), .mv, [(.t 12)], none⟩,
     ⟨(some 11), .mv, [(.t 53)], none⟩] []))))))))
  (.seq
  (.seq
  (.reg false [
    ⟨(some 54), .mv, [(.t 1)], none⟩,
    ⟨(some 13), .mv, [(.t 54)], none⟩] [])
  (.block 2
  (.loop
  (.seq
  (.seq
  (.reg false [
    ⟨(some 55), .mv, [(.t 13)], none⟩,
    ⟨(some 56), .mv, [(.t 10)], none⟩,
    ⟨(some 57), (.bin .sub), [(.t 56), (.c (.int .i64 1))], none⟩,
    ⟨(some 58), (.bin .lss), [(.t 55), (.t 57)], none⟩] [])
  (.cond (.t 58)
   .skip
   (.exit 2)))
  (.seq
  (.block 3
  (.reg true [
    ⟨(some 61), .mv, [(.t 0)], none⟩,
    ⟨(some 62), .mv, [(.t 13)], none⟩,
    ⟨(some 63), .mv, [(.t 0)], none⟩,
    ⟨(some 64), .mv, [(.t 13)], none⟩,
    ⟨(some 65), (.bin .add), [(.t 64), (.c (.int .i64 1))], none⟩,
    ⟨(some 66), .mv, [(.t 0)], none⟩,
    ⟨(some 67), .mv, [(.t 13)], none⟩,
    ⟨(some 68), (.bin .add), [(.t 67), (.c (.int .i64 1))], none⟩,
    ⟨(some 69), (.iad 1), [(.t 66), (.t 68)], none⟩,
    ⟨(some 70), (.ld false 1), [(.t 69)], none⟩,
    ⟨(some 71), .mv, [(.t 0)], none⟩,
    ⟨(some 72), .mv, [(.t 13)], none⟩,
    ⟨(some 73), (.iad 1), [(.t 71), (.t 72)], none⟩,
    ⟨(some 74), (.ld false 1), [(.t 73)], none⟩,
    ⟨(some 75), (.iad 1), [(.t 61), (.t 62)], none⟩,
    ⟨none, (.st 1), [(.t 75), (.t 70)], none⟩,
    ⟨(some 76), (.iad 1), [(.t 63), (.t 65)], none⟩,
    ⟨none, (.st 1), [(.t 76), (.t 74)], none⟩] [[], [], [], [], [3], [], [], [6], [5, 7], [8], [], [], [10, 11], [12], [0, 1, 0, 1, 5, 6, 7, 8, 9, 13], [14, 9, 0, 1, 5, 6, 7, 8, 9, 13], [2, 4, 0, 1, 2, 3, 4, 5, 6, 7, 8, 9, 10, 11, 12, 13, 14, 15], [16, 13, 15, 0, 1, 2, 3, 4, 5, 6, 7, 8, 9, 10, 11, 12, 13, 14, 15]]))
  (.reg false [
    ⟨(some 59), .mv, [(.t 13)], none⟩,
    ⟨(some 60), (.bin .add), [(.t 59), (.c (.int .i64 1))], none⟩,
    ⟨(some 13), .mv, [(.t 60)], none⟩] []))))))
  .ret))))
  .skip))
 (.seq
 (.seq
 (.reg false [
   ⟨(some 77), .mv, [(.t 3)], none⟩,
   ⟨(some 78), .mv, [(.t 2)], none⟩,
   ⟨(some 79), (.bin .sub), [(.t 77), (.t 78)], none⟩,
   ⟨(some 80), (.bin .eql), [(.t 79), (.c (.int .i64 1))], none⟩] [])
 (.cond (.t 80)
  (.seq
  (.reg false [
    ⟨(some 81), .mv, [(.t 1)], none⟩,
    ⟨(some 14), .mv, [(.t 81)], none⟩] [])
  (.seq
  (.reg false [
    ⟨(some 82), .mv, [(.t 2)], none⟩,
    ⟨(some 15), .mv, [(.t 82)], none⟩] [])
  (.seq
  (.block 4
  (.loop
  (.seq
  (.seq
  (.reg false [
    ⟨(some 83), .mv, [(.t 14)], none⟩,
    ⟨(some 84), .mv, [(.t 15)], none⟩,
    ⟨(some 85), (.bin .lss), [(.t 83), (.t 84)], none⟩] [])
  (.cond (.t 85)
   .skip
   (.exit 4)))
  (.block 5
  (.seq
  (.reg false [
    ⟨(some 86), .mv, [(.t 14)], none⟩,
    ⟨(some 87), .mv, [(.t 15)], none⟩,
    ⟨(some 88), (.bin .add), [(.t 86), (.t 87)], none⟩,
    ⟨(some 89), (.cvt .u64), [(.t 88)], none⟩,
    ⟨(some 90), (.bin .shr), [(.t 89), (.c (.int .u64 1))], none⟩,
    ⟨(some 91), (.cvt .i64), [(.t 90)], none⟩,
    ⟨(some 16), .mv, [(.t 91)], none⟩] [])
  (.seq
  (.reg true [
    ⟨(some 92), .mv, [(.t 4)], none⟩,
    ⟨(some 93), .mv, [(.t 0)], none⟩,
    ⟨(some 94), .mv, [(.t 2)], none⟩,
    ⟨(some 95), (.iad 1), [(.t 93), (.t 94)], none⟩,
    ⟨(some 96), (.ld false 1), [(.t 95)], none⟩,
    ⟨(some 97), .mv, [(.t 0)], none⟩,
    ⟨(some 98), .mv, [(.t 16)], none⟩,
    ⟨(some 99), (.iad 1), [(.t 97), (.t 98)], none⟩,
    ⟨(some 100), (.ld false 1), [(.t 99)], none⟩,
    ⟨(some 101), .call, [(.t 92), (.t 96), (.t 100)], none⟩,
    ⟨(some 102), (.bin .lss), [(.t 101), (.c (.int .i64 0))], none⟩,
    ⟨(some 103), (.un .not), [(.t 102)], none⟩] [[], [], [], [1, 2], [3], [], [], [5, 6], [7], [0, 4, 8], [9], [10]])
  (.cond (.t 103)
   (.reg false [
     ⟨(some 104), .mv, [(.t 16)], none⟩,
     ⟨(some 105), (.bin .add), [(.t 104), (.c (.int .i64 1))], none⟩,
     ⟨(some 14), .mv, [(.t 105)], none⟩] [])
   (.reg false [
     ⟨(some 106), .mv, [(.t 16)], none⟩,
     ⟨(some 15), .mv, [(.t 106)], none⟩] []))))))))
  (.seq
  (.seq
  (.reg false [
    ⟨(some 107), .mv, [(.t 2)], none⟩,
    ⟨(some 17), .mv, [(.t 107)], none⟩] [])
  (.block 6
  (.loop
  (.seq
  (.seq
  (.reg false [
    ⟨(some 108), .mv, [(.t 17)], none⟩,
    ⟨(some 109), .mv, [(.t 14)], none⟩,
    ⟨(some 110), (.bin .gtr), [(.t 108), (.t 109)], none⟩] [])
  (.cond (.t 110)
   .skip
   (.exit 6)))
  (.seq
  (.block 7
  (.reg true [
    ⟨(some 113), .mv, [(.t 0)], none⟩,
    ⟨(some 114), .mv, [(.t 17)], none⟩,
    ⟨(some 115), .mv, [(.t 0)], none⟩,
    ⟨(some 116), .mv, [(.t 17)], none⟩,
    ⟨(some 117), (.bin .sub), [(.t 116), (.c (.int .i64 1))], none⟩,
    ⟨(some 118), .mv, [(.t 0)], none⟩,
    ⟨(some 119), .mv, [(.t 17)], none⟩,
    ⟨(some 120), (.bin .sub), [(.t 119), (.c (.int .i64 1))], none⟩,
    ⟨(some 121), (.iad 1), [(.t 118), (.t 120)], none⟩,
    ⟨(some 122), (.ld false 1), [(.t 121)], none⟩,
    ⟨(some 123), .mv, [(.t 0)], none⟩,
    ⟨(some 124), .mv, [(.t 17)], none⟩,
    ⟨(some 125), (.iad 1), [(.t 123), (.t 124)], none⟩,
    ⟨(some 126), (.ld false 1), [(.t 125)], none⟩,
    ⟨(some 127), (.iad 1), [(.t 113), (.t 114)], none⟩,
    ⟨none, (.st 1), [(.t 127), (.t 122)], none⟩,
    ⟨(some 128), (.iad 1), [(.t 115), (.t 117)], none⟩,
    ⟨none, (.st 1), [(.t 128), (.t 126)], none⟩] [[], [], [], [], [3], [], [], [6], [5, 7], [8], [], [], [10, 11], [12], [0, 1, 0, 1, 5, 6, 7, 8, 9, 13], [14, 9, 0, 1, 5, 6, 7, 8, 9, 13], [2, 4, 0, 1, 2, 3, 4, 5, 6, 7, 8, 9, 10, 11, 12, 13, 14, 15], [16, 13, 15, 0, 1, 2, 3, 4, 5, 6, 7, 8, 9, 10, 11, 12, 13, 14, 15]]))
  (.reg false [
    ⟨(some 111), .mv, [(.t 17)], none⟩,
    ⟨(some 112), (.bin .sub), [(.t 111), (.c (.int .i64 1))], none⟩,
    ⟨(some 17), .mv, [(.t 112)], none⟩] []))))))
  .ret))))
  .skip))
 (.seq
 (.reg false [
   ⟨(some 129), .mv, [(.t 1)], none⟩,
   ⟨(some 130), .mv, [(.t 3)], none⟩,
   ⟨(some 131), (.bin .add), [(.t 129), (.t 130)], none⟩,
   ⟨(some 132), (.cvt .u64), [(.t 131)], none⟩,
   ⟨(some 133), (.bin .shr), [(.t 132), (.c (.int .u64 1))], none⟩,
   ⟨(some 134), (.cvt .i64), [(.t 133)], none⟩,
   ⟨(some 18), .mv, [(.t 134)], none⟩] [])
 (.seq
 (.reg false [
   ⟨(some 135), .mv, [(.t 18)], none⟩,
   ⟨(some 136), .mv, [(.t 2)], none⟩,
   ⟨(some 137), (.bin .add), [(.t 135), (.t 136)], none⟩,
   ⟨(some 19), .mv, [(.t 137)], none⟩] [])
 (.seq
 (.reg false [
   ⟨(some 20), .mv, [(.c (.int .i64 0))], none⟩,
   ⟨(some 21), .mv, [(.c (.int .i64 0))], none⟩] [])
 (.seq
 (.seq
 (.reg false [
   ⟨(some 138), .mv, [(.t 2)], none⟩,
   ⟨(some 139), .mv, [(.t 18)], none⟩,
   ⟨(some 140), (.bin .gtr), [(.t 138), (.t 139)], none⟩] [])
 (.cond (.t 140)
  (.seq
  (.reg false [
    ⟨(some 141), .mv, [(.t 19)], none⟩,
    ⟨(some 142), .mv, [(.t 3)], none⟩,
    ⟨(some 143), (.bin .sub), [(.t 141), (.t 142)], none⟩,
    ⟨(some 20), .mv, [(.t 143)], none⟩] [])
  (.reg false [
    ⟨(some 144), .mv, [(.t 18)], none⟩,
    ⟨(some 21), .mv, [(.t 144)], none⟩] []))
  (.seq
  (.reg false [
    ⟨(some 145), .mv, [(.t 1)], none⟩,
    ⟨(some 20), .mv, [(.t 145)], none⟩] [])
  (.reg false [
    ⟨(some 146), .mv, [(.t 2)], none⟩,
    ⟨(some 21), .mv, [(.t 146)], none⟩] []))))
 (.seq
 (.reg false [
   ⟨(some 147), .mv, [(.t 19)], none⟩,
   ⟨(some 148), (.bin .sub), [(.t 147), (.c (.int .i64 1))], none⟩,
   ⟨(some 22), .mv, [(.t 148)], none⟩] [])
 (.seq
 (.block 8
 (.loop
 (.seq
 (.seq
 (.reg false [
   ⟨(some 149), .mv, [(.t 20)], none⟩,
   ⟨(some 150), .mv, [(.t 21)], none⟩,
   ⟨(some 151), (.bin .lss), [(.t 149), (.t 150)], none⟩] [])
 (.cond (.t 151)
  .skip
  (.exit 8)))
 (.block 9
 (.seq
 (.reg false [
   ⟨(some 152), .mv, [(.t 20)], none⟩,
   ⟨(some 153), .mv, [(.t 21)], none⟩,
   ⟨(some 154), (.bin .add), [(.t 152), (.t 153)], none⟩,
   ⟨(some 155), (.cvt .u64), [(.t 154)], none⟩,
   ⟨(some 156), (.bin .shr), [(.t 155), (.c (.int .u64 1))], none⟩,
   ⟨(some 157), (.cvt .i64), [(.t 156)], none⟩,
   ⟨(some 23), .mv, [(.t 157)], none⟩] [])
 (.seq
 (.reg true [
   ⟨(some 158), .mv, [(.t 4)], none⟩,
   ⟨(some 159), .mv, [(.t 0)], none⟩,
   ⟨(some 160), .mv, [(.t 22)], none⟩,
   ⟨(some 161), .mv, [(.t 23)], none⟩,
   ⟨(some 162), (.bin .sub), [(.t 160), (.t 161)], none⟩,
   ⟨(some 163), (.iad 1), [(.t 159), (.t 162)], none⟩,
   ⟨(some 164), (.ld false 1), [(.t 163)], none⟩,
   ⟨(some 165), .mv, [(.t 0)], none⟩,
   ⟨(some 166), .mv, [(.t 23)], none⟩,
   ⟨(some 167), (.iad 1), [(.t 165), (.t 166)], none⟩,
   ⟨(some 168), (.ld false 1), [(.t 167)], none⟩,
   ⟨(some 169), .call, [(.t 158), (.t 164), (.t 168)], none⟩,
   ⟨(some 170), (.bin .lss), [(.t 169), (.c (.int .i64 0))], none⟩,
   ⟨(some 171), (.un .not), [(.t 170)], none⟩] [[], [], [], [], [2, 3], [1, 4], [5], [], [], [7, 8], [9], [0, 6, 10], [11], [12]])
 (.cond (.t 171)
  (.reg false [
    ⟨(some 172), .mv, [(.t 23)], none⟩,
    ⟨(some 173), (.bin .add), [(.t 172), (.c (.int .i64 1))], none⟩,
    ⟨(some 20), .mv, [(.t 173)], none⟩] [])
  (.reg false [
    ⟨(some 174), .mv, [(.t 23)], none⟩,
    ⟨(some 21), .mv, [(.t 174)], none⟩] []))))))))
 (.seq
 (.reg false [
   ⟨(some 175), .mv, [(.t 19)], none⟩,
   ⟨(some 176), .mv, [(.t 20)], none⟩,
   ⟨(some 177), (.bin .sub), [(.t 175), (.t 176)], none⟩,
   ⟨(some 24), .mv, [(.t 177)], none⟩] [])
 (.seq
 (.seq
 (.reg false [
   ⟨(some 178), .mv, [(.t 20)], none⟩,
   ⟨(some 179), .mv, [(.t 2)], none⟩,
   ⟨(some 180), (.bin .lss), [(.t 178), (.t 179)], none⟩,
   ⟨(some 181), .mv, [(.t 180)], none⟩,
   ⟨(some 182), .mv, [(.t 2)], (some (181, true))⟩,
   ⟨(some 183), .mv, [(.t 24)], (some (181, true))⟩,
   ⟨(some 184), (.bin .lss), [(.t 182), (.t 183)], (some (181, true))⟩,
   ⟨(some 185), .pick, [(.t 181), (.t 184), (.c (.bool false))], none⟩] [])
 (.cond (.t 185)
  (.reg false [
    ⟨(some 186), .mv, [(.t 0)], none⟩,
    ⟨(some 187), .mv, [(.t 20)], none⟩,
    ⟨(some 188), .mv, [(.t 2)], none⟩,
    ⟨(some 189), .mv, [(.t 24)], none⟩,
    ⟨(some 190), .mv, [(.t 4)], none⟩,
    ⟨(some 191), .call, [(.f nslices_rotateCmpFunc_int), (.t 186), (.t 187), (.t 188), (.t 189), (.t 190)], none⟩] [])
  .skip))
 (.seq
 (.seq
 (.reg false [
   ⟨(some 192), .mv, [(.t 1)], none⟩,
   ⟨(some 193), .mv, [(.t 20)], none⟩,
   ⟨(some 194), (.bin .lss), [(.t 192), (.t 193)], none⟩,
   ⟨(some 195), .mv, [(.t 194)], none⟩,
   ⟨(some 196), .mv, [(.t 20)], (some (195, true))⟩,
   ⟨(some 197), .mv, [(.t 18)], (some (195, true))⟩,
   ⟨(some 198), (.bin .lss), [(.t 196), (.t 197)], (some (195, true))⟩,
   ⟨(some 199), .pick, [(.t 195), (.t 198), (.c (.bool false))], none⟩] [])
 (.cond (.t 199)
  (.reg false [
    ⟨(some 200), .mv, [(.t 0)], none⟩,
    ⟨(some 201), .mv, [(.t 1)], none⟩,
    ⟨(some 202), .mv, [(.t 20)], none⟩,
    ⟨(some 203), .mv, [(.t 18)], none⟩,
    ⟨(some 204), .mv, [(.t 4)], none⟩,
    ⟨(some 205), .call, [(.f nslices_symMergeCmpFunc_int), (.t 200), (.t 201), (.t 202), (.t 203), (.t 204)], none⟩] [])
  .skip))
 (.seq
 (.reg false [
   ⟨(some 206), .mv, [(.t 18)], none⟩,
   ⟨(some 207), .mv, [(.t 24)], none⟩,
   ⟨(some 208), (.bin .lss), [(.t 206), (.t 207)], none⟩,
   ⟨(some 209), .mv, [(.t 208)], none⟩,
   ⟨(some 210), .mv, [(.t 24)], (some (209, true))⟩,
   ⟨(some 211), .mv, [(.t 3)], (some (209, true))⟩,
   ⟨(some 212), (.bin .lss), [(.t 210), (.t 211)], (some (209, true))⟩,
   ⟨(some 213), .pick, [(.t 209), (.t 212), (.c (.bool false))], none⟩] [])
 (.cond (.t 213)
  (.reg false [
    ⟨(some 214), .mv, [(.t 0)], none⟩,
    ⟨(some 215), .mv, [(.t 18)], none⟩,
    ⟨(some 216), .mv, [(.t 24)], none⟩,
    ⟨(some 217), .mv, [(.t 3)], none⟩,
    ⟨(some 218), .mv, [(.t 4)], none⟩,
    ⟨(some 219), .call, [(.f nslices_symMergeCmpFunc_int), (.t 214), (.t 215), (.t 216), (.t 217), (.t 218)], none⟩] [])
  .skip)))))))))))))⟩

def cslices_rotateCmpFunc_int : AFun := ⟨58, [],
 (.seq
 (.reg false [
   ⟨(some 12), .mv, [(.t 2)], none⟩,
   ⟨(some 13), .mv, [(.t 1)], none⟩,
   ⟨(some 14), (.bin .sub), [(.t 12), (.t 13)], none⟩,
   ⟨(some 10), .mv, [(.t 14)], none⟩] [])
 (.seq
 (.reg false [
   ⟨(some 15), .mv, [(.t 3)], none⟩,
   ⟨(some 16), .mv, [(.t 2)], none⟩,
   ⟨(some 17), (.bin .sub), [(.t 15), (.t 16)], none⟩,
   ⟨(some 11), .mv, [(.t 17)], none⟩] [])
 (.seq
 (.block 0
 (.loop
 (.seq
 (.seq
 (.reg false [
   ⟨(some 18), .mv, [(.t 10)], none⟩,
   ⟨(some 19), .mv, [(.t 11)], none⟩,
   ⟨(some 20), (.bin .neq), [(.t 18), (.t 19)], none⟩] [])
 (.cond (.t 20)
  .skip
  (.exit 0)))
 (.block 1
 (.seq
 (.reg false [
   ⟨(some 21), .mv, [(.t 10)], none⟩,
   ⟨(some 22), .mv, [(.t 11)], none⟩,
   ⟨(some 23), (.bin .gtr), [(.t 21), (.t 22)], none⟩] [])
 (.cond (.t 23)
  (.seq
  (.reg false [
    ⟨(some 24), .mv, [(.t 0)], none⟩,
    ⟨(some 25), .mv, [(.t 2)], none⟩,
    ⟨(some 26), .mv, [(.t 10)], none⟩,
    ⟨(some 27), (.bin .sub), [(.t 25), (.t 26)], none⟩,
    ⟨(some 28), .mv, [(.t 2)], none⟩,
    ⟨(some 29), .mv, [(.t 11)], none⟩,
    ⟨(some 30), .mv, [(.t 4)], none⟩,
    ⟨(some 31), .call, [(.f nslices_swapRangeCmpFunc_int), (.t 24), (.t 27), (.t 28), (.t 29), (.t 30)], none⟩] [])
  (.reg false [
    ⟨(some 32), .mv, [(.t 10)], none⟩,
    ⟨(some 33), .mv, [(.t 11)], none⟩,
    ⟨(some 34), (.bin .sub), [(.t 32), (.t 33)], none⟩,
    ⟨(some 10), .mv, [(.t 34)], none⟩] []))
  (.seq
  (.reg false [
    ⟨(some 35), .mv, [(.t 0)], none⟩,
    ⟨(some 36), .mv, [(.t 2)], none⟩,
    ⟨(some 37), .mv, [(.t 10)], none⟩,
    ⟨(some 38), (.bin .sub), [(.t 36), (.t 37)], none⟩,
    ⟨(some 39), .mv, [(.t 2)], none⟩,
    ⟨(some 40), .mv, [(.t 11)], none⟩,
    ⟨(some 41), (.bin .add), [(.t 39), (.t 40)], none⟩,
    ⟨(some 42), .mv, [(.t 10)], none⟩,
    ⟨(some 43), (.bin .sub), [(.t 41), (.t 42)], none⟩,
    ⟨(some 44), .mv, [(.t 10)], none⟩,
    ⟨(some 45), .mv, [(.t 4)], none⟩,
    ⟨(some 46), .call, [(.f nslices_swapRangeCmpFunc_int), (.t 35), (.t 38), (.t 43), (.t 44), (.t 45)], none⟩] [])
  (.reg false [
    ⟨(some 47), .mv, [(.t 11)], none⟩,
    ⟨(some 48), .mv, [(.t 10)], none⟩,
    ⟨(some 49), (.bin .sub), [(.t 47), (.t 48)], none⟩,
    ⟨(some 11), .mv, [(.t 49)], none⟩] []))))))))
 (.reg false [
   ⟨(some 50), .mv, [(.t 0)], none⟩,
   ⟨(some 51), .mv, [(.t 2)], none⟩,
   ⟨(some 52), .mv, [(.t 10)], none⟩,
   ⟨(some 53), (.bin .sub), [(.t 51), (.t 52)], none⟩,
   ⟨(some 54), .mv, [(.t 2)], none⟩,
   ⟨(some 55), .mv, [(.t 10)], none⟩,
   ⟨(some 56), .mv, [(.t 4)], none⟩,
   ⟨(some 57), .call, [(.f nslices_swapRangeCmpFunc_int), (.t 50), (.t 53), (.t 54), (.t 55), (.t 56)], none⟩] []))))⟩

def cslices_swapRangeCmpFunc_int : AFun := ⟨38, [],
 (.seq
 (.reg false [
   ⟨(some 10), .mv, [(.c (.int .i64 0))], none⟩] [])
 (.block 0
 (.loop
 (.seq
 (.seq
 (.reg false [
   ⟨(some 11), .mv, [(.t 10)], none⟩,
   ⟨(some 12), .mv, [(.t 3)], none⟩,
   ⟨(some 13), (.bin .lss), [(.t 11), (.t 12)], none⟩] [])
 (.cond (.t 13)
  .skip
  (.exit 0)))
 (.seq
 (.block 1
 (.reg true [
   ⟨(some 16), .mv, [(.t 0)], none⟩,
   ⟨(some 17), .mv, [(.t 1)], none⟩,
   ⟨(some 18), .mv, [(.t 10)], none⟩,
   ⟨(some 19), (.bin .add), [(.t 17), (.t 18)], none⟩,
   ⟨(some 20), .mv, [(.t 0)], none⟩,
   ⟨(some 21), .mv, [(.t 2)], none⟩,
   ⟨(some 22), .mv, [(.t 10)], none⟩,
   ⟨(some 23), (.bin .add), [(.t 21), (.t 22)], none⟩,
   ⟨(some 24), .mv, [(.t 0)], none⟩,
   ⟨(some 25), .mv, [(.t 2)], none⟩,
   ⟨(some 26), .mv, [(.t 10)], none⟩,
   ⟨(some 27), (.bin .add), [(.t 25), (.t 26)], none⟩,
   ⟨(some 28), (.iad 1), [(.t 24), (.t 27)], none⟩,
   ⟨(some 29), (.ld false 1), [(.t 28)], none⟩,
   ⟨(some 30), .mv, [(.t 0)], none⟩,
   ⟨(some 31), .mv, [(.t 1)], none⟩,
   ⟨(some 32), .mv, [(.t 10)], none⟩,
   ⟨(some 33), (.bin .add), [(.t 31), (.t 32)], none⟩,
   ⟨(some 34), (.iad 1), [(.t 30), (.t 33)], none⟩,
   ⟨(some 35), (.ld false 1), [(.t 34)], none⟩,
   ⟨(some 36), (.iad 1), [(.t 16), (.t 19)], none⟩,
   ⟨none, (.st 1), [(.t 36), (.t 29)], none⟩,
   ⟨(some 37), (.iad 1), [(.t 20), (.t 23)], none⟩,
   ⟨none, (.st 1), [(.t 37), (.t 35)], none⟩] [[], [], [], [1, 2], [], [], [], [5, 6], [], [], [], [9, 10], [8, 11], [12], [], [], [], [15, 16], [14, 17], [18], [0, 3, 0, 1, 2, 3, 8, 9, 10, 11, 12, 13, 19], [20, 13, 0, 1, 2, 3, 8, 9, 10, 11, 12, 13, 19], [4, 7, 0, 1, 2, 3, 4, 5, 6, 7, 8, 9, 10, 11, 12, 13, 14, 15, 16, 17, 18, 19, 20, 21], [22, 19, 21, 0, 1, 2, 3, 4, 5, 6, 7, 8, 9, 10, 11, 12, 13, 14, 15, 16, 17, 18, 19, 20, 21]]))
 (.reg false [
   ⟨(some 14), .mv, [(.t 10)], none⟩,
   ⟨(some 15), (.bin .add), [(.t 14), (.c (.int .i64 1))], none⟩,
   ⟨(some 10), .mv, [(.t 15)], none⟩] []))))))⟩

end Go.Proofs.Ytnphfkceoklkkaa
