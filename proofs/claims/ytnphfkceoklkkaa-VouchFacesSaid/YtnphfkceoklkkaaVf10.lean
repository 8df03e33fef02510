/- Texts of this claim, merged. -/
import Derived.Test.YtnphfkceoklkkaaVf1
import Derived.Test.YtnphfkceoklkkaaVf6
set_option linter.unusedSimpArgs false
set_option linter.unusedVariables false
set_option linter.unusedSectionVars false
/- The functions in the small code. Made by program out of the translation. -/
namespace Go.Proofs.Ytnphfkceoklkkaa
open Go
set_option maxRecDepth 100000
def claw10_VouchFaces : AFun := ⟨105, [(2, none)],
 (.seq
 (.reg false [
   ⟨(some 2), .mv, [(.c (.bool false))], none⟩] [])
 (.seq
 (.seq
 (.reg false [
   ⟨(some 13), .mv, [(.t 0)], none⟩,
   ⟨(some 14), .call, [(.f nmade_Light), (.t 13)], none⟩,
   ⟨(some 15), (.un .not), [(.t 14)], none⟩] [])
 (.cond (.t 15)
  (.seq
  (.reg false [
    ⟨(some 16), .call, [(.f nlaw10_awake)], none⟩,
    ⟨(some 2), .mv, [(.t 16)], none⟩] [])
  .ret)
  .skip))
 (.seq
 (.reg false [
   ⟨(some 17), .mv, [(.t 0)], none⟩,
   ⟨(some 18), .call, [(.f nmade_Roll), (.t 17)], none⟩,
   ⟨(some 3), .mv, [(.t 18)], none⟩] [])
 (.seq
 (.reg false [
   ⟨(some 4), .mv, [(.c (.slice none 0 0))], none⟩] [])
 (.seq
 (.seq
 (.reg false [
   ⟨(some 5), .mv, [(.c (.int .i64 0))], none⟩] [])
 (.block 0
 (.loop
 (.seq
 (.seq
 (.reg false [
   ⟨(some 19), .mv, [(.t 5)], none⟩,
   ⟨(some 20), (.bin .lss), [(.t 19), (.c (.int .i64 2))], none⟩] [])
 (.cond (.t 20)
  .skip
  (.exit 0)))
 (.seq
 (.block 1
 (.seq
 (.reg false [
   ⟨(some 6), .mv, [(.c (.slice none 0 0))], none⟩] [])
 (.seq
 (.reg false [
   ⟨(some 7), .mv, [(.c (.int .i64 0))], none⟩] [])
 (.seq
 (.seq
 (.reg false [
   ⟨(some 23), .mv, [(.t 3)], none⟩,
   ⟨(some 24), .call, [(.f nmade_Dice_Next), (.t 23), (.c (.int .i64 9))], none⟩,
   ⟨(some 8), .mv, [(.t 24)], none⟩] [])
 (.block 2
 (.loop
 (.seq
 (.seq
 (.reg false [
   ⟨(some 25), .mv, [(.t 8)], none⟩,
   ⟨(some 26), (.bin .gtr), [(.t 25), (.c (.int .i64 0))], none⟩] [])
 (.cond (.t 26)
  .skip
  (.exit 2)))
 (.seq
 (.block 3
 (.seq
 (.reg false [
   ⟨(some 29), .mv, [(.t 7)], none⟩,
   ⟨(some 30), .mv, [(.t 3)], none⟩,
   ⟨(some 31), (.bsl 1 3 [(.int .i64 0)] [0, 1, 2]), [(.c (.int .i64 1)), (.c (.int .i64 0)), (.c (.int .i64 4))], none⟩,
   ⟨(some 32), .call, [(.f nmade_Dice_Of), (.t 30), (.t 31)], none⟩,
   ⟨(some 33), (.bin .add), [(.t 29), (.t 32)], none⟩,
   ⟨(some 7), .mv, [(.t 33)], none⟩] [])
 (.seq
 (.reg false [
   ⟨(some 34), .mv, [(.t 7)], none⟩,
   ⟨(some 35), .mv, [(.t 3)], none⟩,
   ⟨(some 36), (.bsl 1 6 [(.int .i64 0)] [0, 1, 2, 3, 4, 5]), [(.c (.int .i64 1)), (.c (.int .i64 1)), (.c (.int .i64 2)), (.c (.int .i64 1)), (.c (.int .i64 2)), (.c (.int .i64 10))], none⟩,
   ⟨(some 37), .call, [(.f nmade_Dice_Of), (.t 35), (.t 36)], none⟩,
   ⟨(some 38), (.build [(.int .i64 0), (.int .i64 0), (.string ⟨#[]⟩), (.int .i64 0), (.int .i64 0), (.int .i64 0), (.int .i64 0), (.int .i64 0), (.slice none 0 0), (.slice none 0 0), (.string ⟨#[]⟩), (.int .i64 0), (.string ⟨#[]⟩)] [(3, 1), (4, 1)]), [(.t 34), (.t 37)], none⟩,
   ⟨(some 9), (.alloc [(.int .i64 0), (.int .i64 0), (.string ⟨#[]⟩), (.int .i64 0), (.int .i64 0), (.int .i64 0), (.int .i64 0), (.int .i64 0), (.slice none 0 0), (.slice none 0 0), (.string ⟨#[]⟩), (.int .i64 0), (.string ⟨#[]⟩)]), [], none⟩,
   ⟨none, (.st 13), [(.t 9), (.t 38)], none⟩] [])
 (.seq
 (.seq
 (.reg false [
   ⟨(some 39), (.fad 4), [(.t 9)], none⟩,
   ⟨(some 40), (.ld false 1), [(.t 39)], none⟩] [])
 (.block 4
 (.seq
 (.reg false [
   ⟨(some 42), (.bin .eql), [(.t 40), (.c (.int .i64 1))], none⟩,
   ⟨(some 41), .mv, [(.t 42)], none⟩] [])
 (.cond (.t 41)
  (.reg false [
    ⟨(some 43), .mv, [(.t 5)], none⟩,
    ⟨(some 44), (.bin .sub), [(.c (.int .i64 1)), (.t 43)], none⟩,
    ⟨(some 45), .mv, [(.t 3)], none⟩,
    ⟨(some 46), .call, [(.f nmade_Dice_Next), (.t 45), (.c (.int .i64 2))], none⟩,
    ⟨(some 47), (.bin .mul), [(.c (.int .i64 2)), (.t 46)], none⟩,
    ⟨(some 48), (.bin .add), [(.t 44), (.t 47)], none⟩,
    ⟨(some 49), .mv, [(.t 3)], none⟩,
    ⟨(some 50), .call, [(.f nmade_Dice_Next), (.t 49), (.c (.int .i64 3))], none⟩,
    ⟨(some 51), (.bin .add), [(.c (.int .i64 1)), (.t 50)], none⟩,
    ⟨(some 52), .mv, [(.t 7)], none⟩,
    ⟨(some 53), .mv, [(.t 3)], none⟩,
    ⟨(some 54), (.bsl 1 3 [(.int .i64 0)] [0, 1, 2]), [(.c (.int .i64 20)), (.c (.int .i64 3)), (.c (.int .i64 0))], none⟩,
    ⟨(some 55), .call, [(.f nmade_Dice_Of), (.t 53), (.t 54)], none⟩,
    ⟨(some 56), (.bin .add), [(.t 52), (.t 55)], none⟩,
    ⟨(some 57), (.fad 5), [(.t 9)], none⟩,
    ⟨none, (.st 1), [(.t 57), (.t 48)], none⟩,
    ⟨(some 58), (.fad 6), [(.t 9)], none⟩,
    ⟨none, (.st 1), [(.t 58), (.t 51)], none⟩,
    ⟨(some 59), (.fad 7), [(.t 9)], none⟩,
    ⟨none, (.st 1), [(.t 59), (.t 56)], none⟩] [])
  (.seq
  (.reg false [
    ⟨(some 61), (.bin .eql), [(.t 40), (.c (.int .i64 2))], none⟩,
    ⟨(some 60), .mv, [(.t 61)], none⟩] [])
  (.cond (.t 60)
   (.reg false [
     ⟨(some 62), .mv, [(.t 3)], none⟩,
     ⟨(some 63), .call, [(.f nmade_Dice_Next), (.t 62), (.c (.int .i64 6))], none⟩,
     ⟨(some 64), (.fad 5), [(.t 9)], none⟩,
     ⟨none, (.st 1), [(.t 64), (.t 63)], none⟩] [])
   .skip))))))
 (.seq
 (.seq
 (.reg false [
   ⟨(some 65), .mv, [(.t 8)], none⟩,
   ⟨(some 66), (.bin .eql), [(.t 65), (.c (.int .i64 1))], none⟩,
   ⟨(some 67), .mv, [(.t 66)], none⟩,
   ⟨(some 68), .mv, [(.t 3)], (some (67, true))⟩,
   ⟨(some 69), .call, [(.f nmade_Dice_One), (.t 68), (.c (.int .i64 4))], (some (67, true))⟩,
   ⟨(some 70), .pick, [(.t 67), (.t 69), (.c (.bool false))], none⟩] [])
 (.cond (.t 70)
  (.reg false [
    ⟨(some 71), .mv, [(.t 7)], none⟩,
    ⟨(some 72), (.build [(.int .i64 0), (.int .i64 0), (.string ⟨#[]⟩), (.int .i64 0), (.int .i64 0), (.int .i64 0), (.int .i64 0), (.int .i64 0), (.slice none 0 0), (.slice none 0 0), (.string ⟨#[]⟩), (.int .i64 0), (.string ⟨#[]⟩)] [(3, 1), (4, 1)]), [(.t 71), (.c (.int .i64 3))], none⟩,
    ⟨none, (.st 13), [(.t 9), (.t 72)], none⟩] [])
  .skip))
 (.seq
 (.reg false [
   ⟨(some 74), .mv, [(.t 5)], none⟩,
   ⟨(some 75), .mv, [(.t 6)], none⟩,
   ⟨(some 76), (.ld true 13), [(.t 9)], none⟩,
   ⟨(some 77), .call, [(.f nref04_Next), (.t 74), (.t 75), (.t 76)], none⟩,
   ⟨(some 73), .mv, [(.t 77)], none⟩,
   ⟨(some 78), (.ext 0), [(.t 73)], none⟩,
   ⟨(some 79), (.ext 1), [(.t 73)], none⟩,
   ⟨(some 10), (.alloc [(.int .i64 0), (.int .i64 0), (.string ⟨#[]⟩), (.int .i64 0), (.int .i64 0), (.int .i64 0), (.int .i64 0), (.int .i64 0), (.slice none 0 0), (.slice none 0 0), (.string ⟨#[]⟩), (.int .i64 0), (.string ⟨#[]⟩)]), [], none⟩,
   ⟨none, (.st 13), [(.t 10), (.t 78)], none⟩,
   ⟨(some 11), .mv, [(.t 79)], none⟩] [])
 (.seq
 (.reg false [
   ⟨(some 80), .mv, [(.t 11)], none⟩,
   ⟨(some 81), (.bin .eql), [(.t 80), (.c (.int .i64 0))], none⟩] [])
 (.cond (.t 81)
  (.reg false [
    ⟨(some 82), .mv, [(.t 6)], none⟩,
    ⟨(some 83), (.ld true 13), [(.t 10)], none⟩,
    ⟨(some 84), (.bsl 13 1 [(.int .i64 0), (.int .i64 0), (.string ⟨#[]⟩), (.int .i64 0), (.int .i64 0), (.int .i64 0), (.int .i64 0), (.int .i64 0), (.slice none 0 0), (.slice none 0 0), (.string ⟨#[]⟩), (.int .i64 0), (.string ⟨#[]⟩)] [0]), [(.t 83)], none⟩,
    ⟨(some 85), (.app 13 160), [(.t 82), (.t 84)], none⟩,
    ⟨(some 6), .mv, [(.t 85)], none⟩] [])
  .skip))))))))
 (.reg false [
   ⟨(some 27), .mv, [(.t 8)], none⟩,
   ⟨(some 28), (.bin .sub), [(.t 27), (.c (.int .i64 1))], none⟩,
   ⟨(some 8), .mv, [(.t 28)], none⟩] []))))))
 (.reg false [
   ⟨(some 86), .mv, [(.t 4)], none⟩,
   ⟨(some 87), .mv, [(.t 6)], none⟩,
   ⟨(some 88), (.app 13 160), [(.t 86), (.t 87)], none⟩,
   ⟨(some 4), .mv, [(.t 88)], none⟩] [])))))
 (.reg false [
   ⟨(some 21), .mv, [(.t 5)], none⟩,
   ⟨(some 22), (.bin .add), [(.t 21), (.c (.int .i64 1))], none⟩,
   ⟨(some 5), .mv, [(.t 22)], none⟩] []))))))
 (.seq
 (.seq
 (.reg false [
   ⟨(some 12), .mv, [(.c (.int .i64 0))], none⟩] [])
 (.block 5
 (.loop
 (.seq
 (.seq
 (.reg false [
   ⟨(some 89), .mv, [(.t 12)], none⟩,
   ⟨(some 90), (.bin .lss), [(.t 89), (.c (.int .i64 30))], none⟩] [])
 (.cond (.t 90)
  .skip
  (.exit 5)))
 (.seq
 (.block 6
 (.seq
 (.reg false [
   ⟨(some 96), .mv, [(.t 4)], none⟩,
   ⟨(some 97), .mv, [(.t 3)], none⟩,
   ⟨(some 98), .call, [(.f nmade_Dice_Next), (.t 97), (.c (.int .i64 2))], none⟩,
   ⟨(some 99), .mv, [(.t 3)], none⟩,
   ⟨(some 100), .call, [(.f nmade_Dice_Next), (.t 99), (.c (.int .i64 4))], none⟩,
   ⟨(some 101), .mv, [(.t 12)], none⟩,
   ⟨(some 102), .call, [(.f nlaw10_agree), (.t 96), (.t 98), (.t 100), (.t 101)], none⟩,
   ⟨(some 103), (.un .not), [(.t 102)], none⟩] [])
 (.cond (.t 103)
  (.seq
  (.reg false [
    ⟨(some 2), .mv, [(.c (.bool false))], none⟩] [])
  .ret)
  .skip)))
 (.reg false [
   ⟨(some 91), .mv, [(.t 12)], none⟩,
   ⟨(some 92), .mv, [(.t 3)], none⟩,
   ⟨(some 93), .call, [(.f nmade_Dice_Next), (.t 92), (.c (.int .i64 4))], none⟩,
   ⟨(some 94), (.bin .add), [(.c (.int .i64 1)), (.t 93)], none⟩,
   ⟨(some 95), (.bin .add), [(.t 91), (.t 94)], none⟩,
   ⟨(some 12), .mv, [(.t 95)], none⟩] []))))))
 (.seq
 (.reg false [
   ⟨(some 104), .call, [(.f nlaw10_awake)], none⟩,
   ⟨(some 2), .mv, [(.t 104)], none⟩] [])
 .ret)))))))⟩

def claw10_awake : AFun := ⟨50, [(0, none)],
 (.seq
 (.reg false [
   ⟨(some 0), .mv, [(.c (.bool false))], none⟩] [])
 (.seq
 (.reg false [
   ⟨(some 5), .call, [(.f nlaw10_list)], none⟩,
   ⟨(some 1), .mv, [(.t 5)], none⟩] [])
 (.seq
 (.reg false [
   ⟨(some 6), .mv, [(.t 1)], none⟩,
   ⟨(some 7), .call, [(.f nvouch_Of), (.t 6)], none⟩,
   ⟨(some 2), .mv, [(.t 7)], none⟩] [])
 (.seq
 (.reg false [
   ⟨(some 9), .mv, [(.t 1)], none⟩,
   ⟨(some 10), .call, [(.f nvouch_Between), (.t 9), (.c (.int .i64 1)), (.c (.int .i64 2)), (.c (.int .i64 8))], none⟩,
   ⟨(some 8), .mv, [(.t 10)], none⟩,
   ⟨(some 11), (.ext 0), [(.t 8)], none⟩,
   ⟨(some 12), (.ext 1), [(.t 8)], none⟩,
   ⟨(some 3), (.alloc [(.int .i64 0), (.int .i64 0), (.int .i64 0), (.int .i64 0), (.int .i64 0), (.int .i64 0), (.int .i64 0)]), [], none⟩,
   ⟨none, (.st 7), [(.t 3), (.t 11)], none⟩,
   ⟨(some 4), .mv, [(.t 12)], none⟩] [])
 (.seq
 (.reg false [
   ⟨(some 13), .mv, [(.t 2)], none⟩,
   ⟨(some 14), .len, [(.t 13)], none⟩,
   ⟨(some 15), (.bin .eql), [(.t 14), (.c (.int .i64 1))], none⟩,
   ⟨(some 16), .mv, [(.t 15)], none⟩,
   ⟨(some 17), .mv, [(.t 2)], (some (16, true))⟩,
   ⟨(some 18), (.iad 7), [(.t 17), (.c (.int .i64 0))], (some (16, true))⟩,
   ⟨(some 19), (.fad 6), [(.t 18)], (some (16, true))⟩,
   ⟨(some 20), (.ld false 1), [(.t 19)], (some (16, true))⟩,
   ⟨(some 21), (.bin .eql), [(.t 20), (.c (.int .i64 9))], (some (16, true))⟩,
   ⟨(some 22), .pick, [(.t 16), (.t 21), (.c (.bool false))], none⟩,
   ⟨(some 23), .mv, [(.t 22)], none⟩,
   ⟨(some 24), .mv, [(.t 2)], (some (23, true))⟩,
   ⟨(some 25), (.iad 7), [(.t 24), (.c (.int .i64 0))], (some (23, true))⟩,
   ⟨(some 26), (.fad 2), [(.t 25)], (some (23, true))⟩,
   ⟨(some 27), (.ld false 1), [(.t 26)], (some (23, true))⟩,
   ⟨(some 28), (.bin .eql), [(.t 27), (.c (.int .i64 3))], (some (23, true))⟩,
   ⟨(some 29), .pick, [(.t 23), (.t 28), (.c (.bool false))], none⟩,
   ⟨(some 30), .mv, [(.t 29)], none⟩,
   ⟨(some 31), .mv, [(.t 1)], (some (30, true))⟩,
   ⟨(some 32), .call, [(.f nvouch_Active), (.t 31), (.c (.int .i64 8))], (some (30, true))⟩,
   ⟨(some 33), .len, [(.t 32)], (some (30, true))⟩,
   ⟨(some 34), (.bin .eql), [(.t 33), (.c (.int .i64 1))], (some (30, true))⟩,
   ⟨(some 35), .pick, [(.t 30), (.t 34), (.c (.bool false))], none⟩,
   ⟨(some 36), .mv, [(.t 35)], none⟩,
   ⟨(some 37), .mv, [(.t 1)], (some (36, true))⟩,
   ⟨(some 38), .call, [(.f nvouch_Active), (.t 37), (.c (.int .i64 9))], (some (36, true))⟩,
   ⟨(some 39), .len, [(.t 38)], (some (36, true))⟩,
   ⟨(some 40), (.bin .eql), [(.t 39), (.c (.int .i64 0))], (some (36, true))⟩,
   ⟨(some 41), .pick, [(.t 36), (.t 40), (.c (.bool false))], none⟩,
   ⟨(some 42), .mv, [(.t 41)], none⟩,
   ⟨(some 43), .mv, [(.t 4)], (some (42, true))⟩,
   ⟨(some 44), .pick, [(.t 42), (.t 43), (.c (.bool false))], none⟩,
   ⟨(some 45), .mv, [(.t 44)], none⟩,
   ⟨(some 46), (.fad 5), [(.t 3)], (some (45, true))⟩,
   ⟨(some 47), (.ld false 1), [(.t 46)], (some (45, true))⟩,
   ⟨(some 48), (.bin .eql), [(.t 47), (.c (.int .i64 20))], (some (45, true))⟩,
   ⟨(some 49), .pick, [(.t 45), (.t 48), (.c (.bool false))], none⟩,
   ⟨(some 0), .mv, [(.t 49)], none⟩] [])
 .ret)))))⟩

def claw10_agree : AFun := ⟨62, [(8, none)],
 (.seq
 (.reg false [
   ⟨(some 8), .mv, [(.c (.bool false))], none⟩] [])
 (.seq
 (.reg false [
   ⟨(some 14), .mv, [(.t 0)], none⟩,
   ⟨(some 15), .mv, [(.t 1)], none⟩,
   ⟨(some 16), .mv, [(.t 2)], none⟩,
   ⟨(some 17), .mv, [(.t 3)], none⟩,
   ⟨(some 18), .call, [(.f nvouch_Between), (.t 14), (.t 15), (.t 16), (.t 17)], none⟩,
   ⟨(some 13), .mv, [(.t 18)], none⟩,
   ⟨(some 19), (.ext 0), [(.t 13)], none⟩,
   ⟨(some 20), (.ext 1), [(.t 13)], none⟩,
   ⟨(some 9), (.alloc [(.int .i64 0), (.int .i64 0), (.int .i64 0), (.int .i64 0), (.int .i64 0), (.int .i64 0), (.int .i64 0)]), [], none⟩,
   ⟨none, (.st 7), [(.t 9), (.t 19)], none⟩,
   ⟨(some 10), .mv, [(.t 20)], none⟩] [])
 (.seq
 (.reg false [
   ⟨(some 22), .mv, [(.t 0)], none⟩,
   ⟨(some 23), .mv, [(.t 1)], none⟩,
   ⟨(some 24), .mv, [(.t 2)], none⟩,
   ⟨(some 25), .mv, [(.t 3)], none⟩,
   ⟨(some 26), .call, [(.f nref10_Between), (.t 22), (.t 23), (.t 24), (.t 25)], none⟩,
   ⟨(some 21), .mv, [(.t 26)], none⟩,
   ⟨(some 27), (.ext 0), [(.t 21)], none⟩,
   ⟨(some 28), (.ext 1), [(.t 21)], none⟩,
   ⟨(some 11), (.alloc [(.int .i64 0), (.int .i64 0), (.int .i64 0), (.int .i64 0), (.int .i64 0), (.int .i64 0), (.int .i64 0)]), [], none⟩,
   ⟨none, (.st 7), [(.t 11), (.t 27)], none⟩,
   ⟨(some 12), .mv, [(.t 28)], none⟩] [])
 (.seq
 (.reg false [
   ⟨(some 29), .mv, [(.t 0)], none⟩,
   ⟨(some 30), .call, [(.f nvouch_Of), (.t 29)], none⟩,
   ⟨(some 31), .mv, [(.t 0)], none⟩,
   ⟨(some 32), .call, [(.f nref10_Of), (.t 31)], none⟩,
   ⟨(some 33), .call, [(.f nref10_Same), (.t 30), (.t 32)], none⟩,
   ⟨(some 34), .mv, [(.t 33)], none⟩,
   ⟨(some 35), .mv, [(.t 0)], (some (34, true))⟩,
   ⟨(some 36), .mv, [(.t 3)], (some (34, true))⟩,
   ⟨(some 37), .call, [(.f nvouch_Gone), (.t 35), (.t 36)], (some (34, true))⟩,
   ⟨(some 38), .mv, [(.t 0)], (some (34, true))⟩,
   ⟨(some 39), .mv, [(.t 3)], (some (34, true))⟩,
   ⟨(some 40), .call, [(.f nref10_Gone), (.t 38), (.t 39)], (some (34, true))⟩,
   ⟨(some 41), .call, [(.f nref03_SameInts), (.t 37), (.t 40)], (some (34, true))⟩,
   ⟨(some 42), .pick, [(.t 34), (.t 41), (.c (.bool false))], none⟩,
   ⟨(some 43), .mv, [(.t 42)], none⟩,
   ⟨(some 44), .mv, [(.t 0)], (some (43, true))⟩,
   ⟨(some 45), .mv, [(.t 3)], (some (43, true))⟩,
   ⟨(some 46), .call, [(.f nvouch_Active), (.t 44), (.t 45)], (some (43, true))⟩,
   ⟨(some 47), .mv, [(.t 0)], (some (43, true))⟩,
   ⟨(some 48), .mv, [(.t 3)], (some (43, true))⟩,
   ⟨(some 49), .call, [(.f nref10_Active), (.t 47), (.t 48)], (some (43, true))⟩,
   ⟨(some 50), .call, [(.f nref10_Same), (.t 46), (.t 49)], (some (43, true))⟩,
   ⟨(some 51), .pick, [(.t 43), (.t 50), (.c (.bool false))], none⟩,
   ⟨(some 52), .mv, [(.t 51)], none⟩,
   ⟨(some 53), (.ld true 7), [(.t 9)], (some (52, true))⟩,
   ⟨(some 54), (.ld true 7), [(.t 11)], (some (52, true))⟩,
   ⟨(some 55), (.aeq false [0, 0, 0, 0, 0, 0, 0]), [(.t 53), (.t 54)], (some (52, true))⟩,
   ⟨(some 56), .pick, [(.t 52), (.t 55), (.c (.bool false))], none⟩,
   ⟨(some 57), .mv, [(.t 56)], none⟩,
   ⟨(some 58), .mv, [(.t 10)], (some (57, true))⟩,
   ⟨(some 59), .mv, [(.t 12)], (some (57, true))⟩,
   ⟨(some 60), (.beq false), [(.t 58), (.t 59)], (some (57, true))⟩,
   ⟨(some 61), .pick, [(.t 57), (.t 60), (.c (.bool false))], none⟩,
   ⟨(some 8), .mv, [(.t 61)], none⟩] [])
 .ret))))⟩

def cref04_Next : AFun := ⟨62, [(6, some (true, 13)), (7, none)],
 (.seq
 (.reg false [
   ⟨(some 5), (.box 13), [(.t 2)], none⟩,
   ⟨(some 6), (.alloc [(.int .i64 0), (.int .i64 0), (.string ⟨#[]⟩), (.int .i64 0), (.int .i64 0), (.int .i64 0), (.int .i64 0), (.int .i64 0), (.slice none 0 0), (.slice none 0 0), (.string ⟨#[]⟩), (.int .i64 0), (.string ⟨#[]⟩)]), [], none⟩,
   ⟨(some 7), .mv, [(.c (.int .i64 0))], none⟩] [])
 (.seq
 (.seq
 (.reg false [
   ⟨(some 11), .mv, [(.t 1)], none⟩,
   ⟨(some 12), .len, [(.t 11)], none⟩,
   ⟨(some 13), (.bin .gtr), [(.t 12), (.c (.int .i64 0))], none⟩,
   ⟨(some 14), .mv, [(.t 13)], none⟩,
   ⟨(some 15), .mv, [(.t 0)], (some (14, true))⟩,
   ⟨(some 16), .mv, [(.t 1)], (some (14, true))⟩,
   ⟨(some 17), .call, [(.f nref04_Counted), (.t 15), (.t 16)], (some (14, true))⟩,
   ⟨(some 18), .mv, [(.t 1)], (some (14, true))⟩,
   ⟨(some 19), .call, [(.f nref03_SameList), (.t 17), (.t 18)], (some (14, true))⟩,
   ⟨(some 20), (.un .not), [(.t 19)], (some (14, true))⟩,
   ⟨(some 21), .pick, [(.t 14), (.t 20), (.c (.bool false))], none⟩] [])
 (.cond (.t 21)
  (.seq
  (.reg false [
    ⟨(some 22), (.build [(.int .i64 0), (.int .i64 0), (.string ⟨#[]⟩), (.int .i64 0), (.int .i64 0), (.int .i64 0), (.int .i64 0), (.int .i64 0), (.slice none 0 0), (.slice none 0 0), (.string ⟨#[]⟩), (.int .i64 0), (.string ⟨#[]⟩)] []), [], none⟩,
    ⟨none, (.st 13), [(.t 6), (.t 22)], none⟩,
    ⟨(some 7), .mv, [(.c (.int .i64 1))], none⟩] [])
  .ret)
  .skip))
 (.seq
 (.reg false [
   ⟨(some 23), (.ld true 13), [(.t 5)], none⟩,
   ⟨(some 24), .call, [(.f nref03_Copy), (.t 23)], none⟩,
   ⟨none, (.st 13), [(.t 5), (.t 24)], none⟩] [])
 (.seq
 (.reg false [
   ⟨(some 25), .mv, [(.t 0)], none⟩,
   ⟨(some 26), (.fad 0), [(.t 5)], none⟩,
   ⟨none, (.st 1), [(.t 26), (.t 25)], none⟩,
   ⟨(some 27), (.fad 1), [(.t 5)], none⟩,
   ⟨none, (.st 1), [(.t 27), (.c (.int .i64 0))], none⟩,
   ⟨(some 28), (.fad 2), [(.t 5)], none⟩,
   ⟨none, (.st 1), [(.t 28), (.c (.string ⟨#[]⟩))], none⟩] [])
 (.seq
 (.seq
 (.reg false [
   ⟨(some 29), .mv, [(.t 1)], none⟩,
   ⟨(some 30), .len, [(.t 29)], none⟩,
   ⟨(some 8), .mv, [(.t 30)], none⟩] [])
 (.seq
 (.reg false [
   ⟨(some 31), .mv, [(.t 8)], none⟩,
   ⟨(some 32), (.bin .gtr), [(.t 31), (.c (.int .i64 0))], none⟩] [])
 (.cond (.t 32)
  (.seq
  (.reg false [
    ⟨(some 33), .mv, [(.t 1)], none⟩,
    ⟨(some 34), .mv, [(.t 8)], none⟩,
    ⟨(some 35), (.bin .sub), [(.t 34), (.c (.int .i64 1))], none⟩,
    ⟨(some 36), (.iad 13), [(.t 33), (.t 35)], none⟩,
    ⟨(some 37), (.ld true 13), [(.t 36)], none⟩,
    ⟨(some 9), (.alloc [(.int .i64 0), (.int .i64 0), (.string ⟨#[]⟩), (.int .i64 0), (.int .i64 0), (.int .i64 0), (.int .i64 0), (.int .i64 0), (.slice none 0 0), (.slice none 0 0), (.string ⟨#[]⟩), (.int .i64 0), (.string ⟨#[]⟩)]), [], none⟩,
    ⟨none, (.st 13), [(.t 9), (.t 37)], none⟩] [])
  (.seq
  (.seq
  (.reg false [
    ⟨(some 38), (.fad 3), [(.t 5)], none⟩,
    ⟨(some 39), (.ld false 1), [(.t 38)], none⟩,
    ⟨(some 40), (.fad 3), [(.t 9)], none⟩,
    ⟨(some 41), (.ld false 1), [(.t 40)], none⟩,
    ⟨(some 42), (.bin .lss), [(.t 39), (.t 41)], none⟩] [])
  (.cond (.t 42)
   (.seq
   (.reg false [
     ⟨(some 43), (.build [(.int .i64 0), (.int .i64 0), (.string ⟨#[]⟩), (.int .i64 0), (.int .i64 0), (.int .i64 0), (.int .i64 0), (.int .i64 0), (.slice none 0 0), (.slice none 0 0), (.string ⟨#[]⟩), (.int .i64 0), (.string ⟨#[]⟩)] []), [], none⟩,
     ⟨none, (.st 13), [(.t 6), (.t 43)], none⟩,
     ⟨(some 7), .mv, [(.c (.int .i64 9))], none⟩] [])
   .ret)
   .skip))
  (.seq
  (.seq
  (.reg false [
    ⟨(some 44), (.fad 4), [(.t 9)], none⟩,
    ⟨(some 45), (.ld false 1), [(.t 44)], none⟩,
    ⟨(some 46), (.bin .eql), [(.t 45), (.c (.int .i64 3))], none⟩] [])
  (.cond (.t 46)
   (.seq
   (.reg false [
     ⟨(some 47), (.build [(.int .i64 0), (.int .i64 0), (.string ⟨#[]⟩), (.int .i64 0), (.int .i64 0), (.int .i64 0), (.int .i64 0), (.int .i64 0), (.slice none 0 0), (.slice none 0 0), (.string ⟨#[]⟩), (.int .i64 0), (.string ⟨#[]⟩)] []), [], none⟩,
     ⟨none, (.st 13), [(.t 6), (.t 47)], none⟩,
     ⟨(some 7), .mv, [(.c (.int .i64 5))], none⟩] [])
   .ret)
   .skip))
  (.reg false [
    ⟨(some 48), .mv, [(.t 8)], none⟩,
    ⟨(some 49), (.ld true 13), [(.t 9)], none⟩,
    ⟨(some 50), .call, [(.f nref03_Digest), (.t 49)], none⟩,
    ⟨(some 51), (.fad 1), [(.t 5)], none⟩,
    ⟨none, (.st 1), [(.t 51), (.t 48)], none⟩,
    ⟨(some 52), (.fad 2), [(.t 5)], none⟩,
    ⟨none, (.st 1), [(.t 52), (.t 50)], none⟩] []))))
  .skip)))
 (.seq
 (.reg false [
   ⟨(some 53), (.ld true 13), [(.t 5)], none⟩,
   ⟨(some 54), .call, [(.f nref03_Seal), (.t 53)], none⟩,
   ⟨none, (.st 13), [(.t 5), (.t 54)], none⟩] [])
 (.seq
 (.seq
 (.reg false [
   ⟨(some 55), (.ld true 13), [(.t 5)], none⟩,
   ⟨(some 56), .call, [(.f nref03_Check), (.t 55)], none⟩,
   ⟨(some 10), .mv, [(.t 56)], none⟩] [])
 (.seq
 (.reg false [
   ⟨(some 57), .mv, [(.t 10)], none⟩,
   ⟨(some 58), (.bin .neq), [(.t 57), (.c (.int .i64 0))], none⟩] [])
 (.cond (.t 58)
  (.seq
  (.reg false [
    ⟨(some 59), (.build [(.int .i64 0), (.int .i64 0), (.string ⟨#[]⟩), (.int .i64 0), (.int .i64 0), (.int .i64 0), (.int .i64 0), (.int .i64 0), (.slice none 0 0), (.slice none 0 0), (.string ⟨#[]⟩), (.int .i64 0), (.string ⟨#[]⟩)] []), [], none⟩,
    ⟨(some 60), .mv, [(.t 10)], none⟩,
    ⟨none, (.st 13), [(.t 6), (.t 59)], none⟩,
    ⟨(some 7), .mv, [(.t 60)], none⟩] [])
  .ret)
  .skip)))
 (.seq
 (.reg false [
   ⟨(some 61), (.ld true 13), [(.t 5)], none⟩,
   ⟨none, (.st 13), [(.t 6), (.t 61)], none⟩,
   ⟨(some 7), .mv, [(.c (.int .i64 0))], none⟩] [])
 .ret))))))))⟩

def cvouch_Active : AFun := ⟨63, [(4, none)],
 (.seq
 (.reg false [
   ⟨(some 4), .mv, [(.c (.slice none 0 0))], none⟩] [])
 (.seq
 (.reg false [
   ⟨(some 12), .mv, [(.t 0)], none⟩,
   ⟨(some 13), .call, [(.f nvouch_Of), (.t 12)], none⟩,
   ⟨(some 14), .mv, [(.t 0)], none⟩,
   ⟨(some 15), .mv, [(.t 1)], none⟩,
   ⟨(some 16), .call, [(.f nvouch_Gone), (.t 14), (.t 15)], none⟩,
   ⟨(some 5), .mv, [(.t 13)], none⟩,
   ⟨(some 6), .mv, [(.t 16)], none⟩] [])
 (.seq
 (.reg false [
   ⟨(some 7), .mv, [(.c (.slice none 0 0))], none⟩] [])
 (.seq
 .skip
 (.seq
 (.seq
 (.reg false [
   ⟨(some 17), .mv, [(.t 5)], none⟩,
   ⟨(some 18), .len, [(.t 17)], none⟩,
   ⟨(some 19), .mv, [(.c (.int .i64 0))], none⟩] [])
 (.block 0
 (.loop
 (.seq
 (.reg false [
   ⟨(some 20), (.bin .lss), [(.t 19), (.t 18)], none⟩] [])
 (.seq
 (.cond (.t 20)
  .skip
  (.exit 0))
 (.seq
 (.block 1
 (.seq
 (.reg false [
   ⟨(some 21), .mv, [(.t 19)], none⟩,
   ⟨(some 22), (.iad 7), [(.t 17), (.t 19)], none⟩,
   ⟨(some 23), (.ld true 7), [(.t 22)], none⟩,
   ⟨(some 9), (.alloc [(.int .i64 0), (.int .i64 0), (.int .i64 0), (.int .i64 0), (.int .i64 0), (.int .i64 0), (.int .i64 0)]), [], none⟩,
   ⟨(some 8), .mv, [(.t 21)], none⟩,
   ⟨none, (.st 7), [(.t 9), (.t 23)], none⟩] [])
 (.seq
 (.seq
 (.reg false [
   ⟨(some 24), (.ld true 7), [(.t 9)], none⟩,
   ⟨(some 25), .mv, [(.t 6)], none⟩,
   ⟨(some 26), .mv, [(.t 1)], none⟩,
   ⟨(some 27), .call, [(.f nvouch_holds), (.t 24), (.t 25), (.t 26)], none⟩,
   ⟨(some 28), (.un .not), [(.t 27)], none⟩] [])
 (.cond (.t 28)
  (.exit 1)
  .skip))
 (.seq
 (.seq
 (.reg false [
   ⟨(some 29), .mv, [(.t 5)], none⟩,
   ⟨(some 30), .mv, [(.t 8)], none⟩,
   ⟨(some 31), (.bin .add), [(.t 30), (.c (.int .i64 1))], none⟩,
   ⟨(some 32), (.slc 7 true false false), [(.t 29), (.t 31)], none⟩,
   ⟨(some 33), .len, [(.t 32)], none⟩,
   ⟨(some 34), .mv, [(.c (.int .i64 0))], none⟩] [])
 (.block 2
 (.loop
 (.seq
 (.reg false [
   ⟨(some 35), (.bin .lss), [(.t 34), (.t 33)], none⟩] [])
 (.seq
 (.cond (.t 35)
  .skip
  (.exit 2))
 (.seq
 (.block 3
 (.seq
 (.reg false [
   ⟨(some 36), (.iad 7), [(.t 32), (.t 34)], none⟩,
   ⟨(some 37), (.ld true 7), [(.t 36)], none⟩,
   ⟨(some 11), (.alloc [(.int .i64 0), (.int .i64 0), (.int .i64 0), (.int .i64 0), (.int .i64 0), (.int .i64 0), (.int .i64 0)]), [], none⟩,
   ⟨none, (.st 7), [(.t 11), (.t 37)], none⟩] [])
 (.seq
 (.reg false [
   ⟨(some 38), (.fad 0), [(.t 11)], none⟩,
   ⟨(some 39), (.ld false 1), [(.t 38)], none⟩,
   ⟨(some 40), (.fad 0), [(.t 9)], none⟩,
   ⟨(some 41), (.ld false 1), [(.t 40)], none⟩,
   ⟨(some 42), (.bin .eql), [(.t 39), (.t 41)], none⟩,
   ⟨(some 43), .mv, [(.t 42)], none⟩,
   ⟨(some 44), (.fad 1), [(.t 11)], (some (43, true))⟩,
   ⟨(some 45), (.ld false 1), [(.t 44)], (some (43, true))⟩,
   ⟨(some 46), (.fad 1), [(.t 9)], (some (43, true))⟩,
   ⟨(some 47), (.ld false 1), [(.t 46)], (some (43, true))⟩,
   ⟨(some 48), (.bin .eql), [(.t 45), (.t 47)], (some (43, true))⟩,
   ⟨(some 49), .pick, [(.t 43), (.t 48), (.c (.bool false))], none⟩,
   ⟨(some 50), .mv, [(.t 49)], none⟩,
   ⟨(some 51), (.fad 4), [(.t 11)], (some (50, true))⟩,
   ⟨(some 52), (.ld false 1), [(.t 51)], (some (50, true))⟩,
   ⟨(some 53), .mv, [(.t 1)], (some (50, true))⟩,
   ⟨(some 54), (.bin .leq), [(.t 52), (.t 53)], (some (50, true))⟩,
   ⟨(some 55), .pick, [(.t 50), (.t 54), (.c (.bool false))], none⟩] [])
 (.cond (.t 55)
  (.exit 1)
  .skip))))
 (.reg false [
   ⟨(some 56), (.bin .add), [(.t 34), (.c (.int .i64 1))], none⟩,
   ⟨(some 34), .mv, [(.t 56)], none⟩] [])))))))
 (.reg false [
   ⟨(some 57), .mv, [(.t 7)], none⟩,
   ⟨(some 58), (.ld true 7), [(.t 9)], none⟩,
   ⟨(some 59), (.bsl 7 1 [(.int .i64 0), (.int .i64 0), (.int .i64 0), (.int .i64 0), (.int .i64 0), (.int .i64 0), (.int .i64 0)] [0]), [(.t 58)], none⟩,
   ⟨(some 60), (.app 7 56), [(.t 57), (.t 59)], none⟩,
   ⟨(some 7), .mv, [(.t 60)], none⟩] [])))))
 (.reg false [
   ⟨(some 61), (.bin .add), [(.t 19), (.c (.int .i64 1))], none⟩,
   ⟨(some 19), .mv, [(.t 61)], none⟩] [])))))))
 (.seq
 (.reg false [
   ⟨(some 62), .mv, [(.t 7)], none⟩,
   ⟨(some 4), .mv, [(.t 62)], none⟩] [])
 .ret))))))⟩

def cvouch_Gone : AFun := ⟨33, [(4, none)],
 (.seq
 (.reg false [
   ⟨(some 4), .mv, [(.c (.slice none 0 0))], none⟩] [])
 (.seq
 (.reg false [
   ⟨(some 5), .mv, [(.c (.slice none 0 0))], none⟩] [])
 (.seq
 (.seq
 (.reg false [
   ⟨(some 8), .mv, [(.t 0)], none⟩,
   ⟨(some 9), .len, [(.t 8)], none⟩,
   ⟨(some 10), .mv, [(.c (.int .i64 0))], none⟩] [])
 (.block 0
 (.loop
 (.seq
 (.reg false [
   ⟨(some 11), (.bin .lss), [(.t 10), (.t 9)], none⟩] [])
 (.seq
 (.cond (.t 11)
  .skip
  (.exit 0))
 (.seq
 (.block 1
 (.seq
 (.reg false [
   ⟨(some 12), (.iad 13), [(.t 8), (.t 10)], none⟩,
   ⟨(some 13), (.ld true 13), [(.t 12)], none⟩,
   ⟨(some 7), (.alloc [(.int .i64 0), (.int .i64 0), (.string ⟨#[]⟩), (.int .i64 0), (.int .i64 0), (.int .i64 0), (.int .i64 0), (.int .i64 0), (.slice none 0 0), (.slice none 0 0), (.string ⟨#[]⟩), (.int .i64 0), (.string ⟨#[]⟩)]), [], none⟩,
   ⟨none, (.st 13), [(.t 7), (.t 13)], none⟩] [])
 (.seq
 (.reg false [
   ⟨(some 14), (.fad 4), [(.t 7)], none⟩,
   ⟨(some 15), (.ld false 1), [(.t 14)], none⟩,
   ⟨(some 16), (.bin .eql), [(.t 15), (.c (.int .i64 3))], none⟩,
   ⟨(some 17), .mv, [(.t 16)], none⟩,
   ⟨(some 18), (.fad 3), [(.t 7)], (some (17, true))⟩,
   ⟨(some 19), (.ld false 1), [(.t 18)], (some (17, true))⟩,
   ⟨(some 20), .mv, [(.t 1)], (some (17, true))⟩,
   ⟨(some 21), (.bin .leq), [(.t 19), (.t 20)], (some (17, true))⟩,
   ⟨(some 22), .pick, [(.t 17), (.t 21), (.c (.bool false))], none⟩] [])
 (.cond (.t 22)
  (.reg false [
    ⟨(some 23), .mv, [(.t 5)], none⟩,
    ⟨(some 24), (.fad 0), [(.t 7)], none⟩,
    ⟨(some 25), (.ld false 1), [(.t 24)], none⟩,
    ⟨(some 26), (.bsl 1 1 [(.int .i64 0)] [0]), [(.t 25)], none⟩,
    ⟨(some 27), (.app 1 8), [(.t 23), (.t 26)], none⟩,
    ⟨(some 5), .mv, [(.t 27)], none⟩] [])
  .skip))))
 (.reg false [
   ⟨(some 28), (.bin .add), [(.t 10), (.c (.int .i64 1))], none⟩,
   ⟨(some 10), .mv, [(.t 28)], none⟩] [])))))))
 (.seq
 (.reg false [
   ⟨(some 29), .mv, [(.t 5)], none⟩,
   ⟨(some 30), .call, [(.f nslices_Sort_Lint_int), (.t 29)], none⟩] [])
 (.seq
 (.reg false [
   ⟨(some 31), .mv, [(.t 5)], none⟩,
   ⟨(some 32), .call, [(.f nslices_Compact_Lint_int), (.t 31)], none⟩,
   ⟨(some 4), .mv, [(.t 32)], none⟩] [])
 .ret)))))⟩

def cvouch_Between : AFun := ⟨33, [(8, some (true, 7)), (9, none)],
 (.seq
 (.reg false [
   ⟨(some 8), (.alloc [(.int .i64 0), (.int .i64 0), (.int .i64 0), (.int .i64 0), (.int .i64 0), (.int .i64 0), (.int .i64 0)]), [], none⟩,
   ⟨(some 9), .mv, [(.c (.bool false))], none⟩] [])
 (.seq
 (.seq
 (.reg false [
   ⟨(some 12), .mv, [(.t 0)], none⟩,
   ⟨(some 13), .mv, [(.t 3)], none⟩,
   ⟨(some 14), .call, [(.f nvouch_Active), (.t 12), (.t 13)], none⟩,
   ⟨(some 15), .len, [(.t 14)], none⟩,
   ⟨(some 16), .mv, [(.c (.int .i64 0))], none⟩] [])
 (.block 0
 (.loop
 (.seq
 (.reg false [
   ⟨(some 17), (.bin .lss), [(.t 16), (.t 15)], none⟩] [])
 (.seq
 (.cond (.t 17)
  .skip
  (.exit 0))
 (.seq
 (.block 1
 (.seq
 (.reg false [
   ⟨(some 18), (.iad 7), [(.t 14), (.t 16)], none⟩,
   ⟨(some 19), (.ld true 7), [(.t 18)], none⟩,
   ⟨(some 11), (.alloc [(.int .i64 0), (.int .i64 0), (.int .i64 0), (.int .i64 0), (.int .i64 0), (.int .i64 0), (.int .i64 0)]), [], none⟩,
   ⟨none, (.st 7), [(.t 11), (.t 19)], none⟩] [])
 (.seq
 (.reg false [
   ⟨(some 20), (.fad 0), [(.t 11)], none⟩,
   ⟨(some 21), (.ld false 1), [(.t 20)], none⟩,
   ⟨(some 22), .mv, [(.t 1)], none⟩,
   ⟨(some 23), (.bin .eql), [(.t 21), (.t 22)], none⟩,
   ⟨(some 24), .mv, [(.t 23)], none⟩,
   ⟨(some 25), (.fad 1), [(.t 11)], (some (24, true))⟩,
   ⟨(some 26), (.ld false 1), [(.t 25)], (some (24, true))⟩,
   ⟨(some 27), .mv, [(.t 2)], (some (24, true))⟩,
   ⟨(some 28), (.bin .eql), [(.t 26), (.t 27)], (some (24, true))⟩,
   ⟨(some 29), .pick, [(.t 24), (.t 28), (.c (.bool false))], none⟩] [])
 (.cond (.t 29)
  (.seq
  (.reg false [
    ⟨(some 30), (.ld true 7), [(.t 11)], none⟩,
    ⟨none, (.st 7), [(.t 8), (.t 30)], none⟩,
    ⟨(some 9), .mv, [(.c (.bool true))], none⟩] [])
  .ret)
  .skip))))
 (.reg false [
   ⟨(some 31), (.bin .add), [(.t 16), (.c (.int .i64 1))], none⟩,
   ⟨(some 16), .mv, [(.t 31)], none⟩] [])))))))
 (.seq
 (.reg false [
   ⟨(some 32), (.build [(.int .i64 0), (.int .i64 0), (.int .i64 0), (.int .i64 0), (.int .i64 0), (.int .i64 0), (.int .i64 0)] []), [], none⟩,
   ⟨none, (.st 7), [(.t 8), (.t 32)], none⟩,
   ⟨(some 9), .mv, [(.c (.bool false))], none⟩] [])
 .ret)))⟩

def claw10_list : AFun := ⟨20, [(0, none)],
 (.seq
 (.reg false [
   ⟨(some 0), .mv, [(.c (.slice none 0 0))], none⟩] [])
 (.seq
 (.reg false [
   ⟨(some 6), (.build [(.int .i64 0), (.int .i64 0), (.string ⟨#[]⟩), (.int .i64 0), (.int .i64 0), (.int .i64 0), (.int .i64 0), (.int .i64 0), (.slice none 0 0), (.slice none 0 0), (.string ⟨#[]⟩), (.int .i64 0), (.string ⟨#[]⟩)] [(3, 1), (4, 1), (5, 1), (6, 1), (7, 1)]), [(.c (.int .i64 5)), (.c (.int .i64 1)), (.c (.int .i64 2)), (.c (.int .i64 3)), (.c (.int .i64 20))], none⟩,
   ⟨(some 7), .call, [(.f nref04_Next), (.c (.int .i64 1)), (.c (.slice none 0 0)), (.t 6)], none⟩,
   ⟨(some 5), .mv, [(.t 7)], none⟩,
   ⟨(some 8), (.ext 0), [(.t 5)], none⟩,
   ⟨(some 9), (.ext 1), [(.t 5)], none⟩,
   ⟨(some 1), (.alloc [(.int .i64 0), (.int .i64 0), (.string ⟨#[]⟩), (.int .i64 0), (.int .i64 0), (.int .i64 0), (.int .i64 0), (.int .i64 0), (.slice none 0 0), (.slice none 0 0), (.string ⟨#[]⟩), (.int .i64 0), (.string ⟨#[]⟩)]), [], none⟩,
   ⟨none, (.st 13), [(.t 1), (.t 8)], none⟩,
   ⟨(some 2), .mv, [(.t 9)], none⟩] [])
 (.seq
 (.reg false [
   ⟨(some 11), (.ld true 13), [(.t 1)], none⟩,
   ⟨(some 12), (.bsl 13 1 [(.int .i64 0), (.int .i64 0), (.string ⟨#[]⟩), (.int .i64 0), (.int .i64 0), (.int .i64 0), (.int .i64 0), (.int .i64 0), (.slice none 0 0), (.slice none 0 0), (.string ⟨#[]⟩), (.int .i64 0), (.string ⟨#[]⟩)] [0]), [(.t 11)], none⟩,
   ⟨(some 13), (.build [(.int .i64 0), (.int .i64 0), (.string ⟨#[]⟩), (.int .i64 0), (.int .i64 0), (.int .i64 0), (.int .i64 0), (.int .i64 0), (.slice none 0 0), (.slice none 0 0), (.string ⟨#[]⟩), (.int .i64 0), (.string ⟨#[]⟩)] [(3, 1), (4, 1)]), [(.c (.int .i64 9)), (.c (.int .i64 2))], none⟩,
   ⟨(some 14), .call, [(.f nref04_Next), (.c (.int .i64 1)), (.t 12), (.t 13)], none⟩,
   ⟨(some 10), .mv, [(.t 14)], none⟩,
   ⟨(some 15), (.ext 0), [(.t 10)], none⟩,
   ⟨(some 16), (.ext 1), [(.t 10)], none⟩,
   ⟨(some 3), (.alloc [(.int .i64 0), (.int .i64 0), (.string ⟨#[]⟩), (.int .i64 0), (.int .i64 0), (.int .i64 0), (.int .i64 0), (.int .i64 0), (.slice none 0 0), (.slice none 0 0), (.string ⟨#[]⟩), (.int .i64 0), (.string ⟨#[]⟩)]), [], none⟩,
   ⟨none, (.st 13), [(.t 3), (.t 15)], none⟩,
   ⟨(some 4), .mv, [(.t 16)], none⟩] [])
 (.seq
 (.reg false [
   ⟨(some 17), (.ld true 13), [(.t 1)], none⟩,
   ⟨(some 18), (.ld true 13), [(.t 3)], none⟩,
   ⟨(some 19), (.bsl 13 2 [(.int .i64 0), (.int .i64 0), (.string ⟨#[]⟩), (.int .i64 0), (.int .i64 0), (.int .i64 0), (.int .i64 0), (.int .i64 0), (.slice none 0 0), (.slice none 0 0), (.string ⟨#[]⟩), (.int .i64 0), (.string ⟨#[]⟩)] [0, 1]), [(.t 17), (.t 18)], none⟩,
   ⟨(some 0), .mv, [(.t 19)], none⟩] [])
 .ret))))⟩

def cvouch_Of : AFun := ⟨38, [(2, none)],
 (.seq
 (.reg false [
   ⟨(some 2), .mv, [(.c (.slice none 0 0))], none⟩] [])
 (.seq
 (.reg false [
   ⟨(some 3), .mv, [(.c (.slice none 0 0))], none⟩] [])
 (.seq
 (.seq
 (.reg false [
   ⟨(some 6), .mv, [(.t 0)], none⟩,
   ⟨(some 7), .len, [(.t 6)], none⟩,
   ⟨(some 8), .mv, [(.c (.int .i64 0))], none⟩] [])
 (.block 0
 (.loop
 (.seq
 (.reg false [
   ⟨(some 9), (.bin .lss), [(.t 8), (.t 7)], none⟩] [])
 (.seq
 (.cond (.t 9)
  .skip
  (.exit 0))
 (.seq
 (.block 1
 (.seq
 (.reg false [
   ⟨(some 10), (.iad 13), [(.t 6), (.t 8)], none⟩,
   ⟨(some 11), (.ld true 13), [(.t 10)], none⟩,
   ⟨(some 5), (.alloc [(.int .i64 0), (.int .i64 0), (.string ⟨#[]⟩), (.int .i64 0), (.int .i64 0), (.int .i64 0), (.int .i64 0), (.int .i64 0), (.slice none 0 0), (.slice none 0 0), (.string ⟨#[]⟩), (.int .i64 0), (.string ⟨#[]⟩)]), [], none⟩,
   ⟨none, (.st 13), [(.t 5), (.t 11)], none⟩] [])
 (.seq
 (.reg false [
   ⟨(some 12), (.fad 4), [(.t 5)], none⟩,
   ⟨(some 13), (.ld false 1), [(.t 12)], none⟩,
   ⟨(some 14), (.bin .eql), [(.t 13), (.c (.int .i64 1))], none⟩] [])
 (.cond (.t 14)
  (.reg true [
    ⟨(some 15), .mv, [(.t 3)], none⟩,
    ⟨(some 16), (.fad 0), [(.t 5)], none⟩,
    ⟨(some 17), (.ld false 1), [(.t 16)], none⟩,
    ⟨(some 18), (.fad 5), [(.t 5)], none⟩,
    ⟨(some 19), (.ld false 1), [(.t 18)], none⟩,
    ⟨(some 20), (.fad 6), [(.t 5)], none⟩,
    ⟨(some 21), (.ld false 1), [(.t 20)], none⟩,
    ⟨(some 22), (.fad 1), [(.t 5)], none⟩,
    ⟨(some 23), (.ld false 1), [(.t 22)], none⟩,
    ⟨(some 24), (.fad 3), [(.t 5)], none⟩,
    ⟨(some 25), (.ld false 1), [(.t 24)], none⟩,
    ⟨(some 26), (.fad 7), [(.t 5)], none⟩,
    ⟨(some 27), (.ld false 1), [(.t 26)], none⟩,
    ⟨(some 28), .mv, [(.t 0)], none⟩,
    ⟨(some 29), (.ld true 13), [(.t 5)], none⟩,
    ⟨(some 30), .call, [(.f nvouch_revoked), (.t 28), (.t 29)], none⟩,
    ⟨(some 31), (.build [(.int .i64 0), (.int .i64 0), (.int .i64 0), (.int .i64 0), (.int .i64 0), (.int .i64 0), (.int .i64 0)] [(0, 1), (1, 1), (2, 1), (3, 1), (4, 1), (5, 1), (6, 1)]), [(.t 17), (.t 19), (.t 21), (.t 23), (.t 25), (.t 27), (.t 30)], none⟩,
    ⟨(some 32), (.bsl 7 1 [(.int .i64 0), (.int .i64 0), (.int .i64 0), (.int .i64 0), (.int .i64 0), (.int .i64 0), (.int .i64 0)] [0]), [(.t 31)], none⟩,
    ⟨(some 33), (.app 7 56), [(.t 15), (.t 32)], none⟩,
    ⟨(some 3), .mv, [(.t 33)], none⟩] [[], [], [1], [], [3], [], [5], [], [7], [], [9], [], [11], [], [], [13, 14], [2, 4, 6, 8, 10, 12, 15], [16], [0, 17, 15], [18, 18, 0, 1, 2, 3, 4, 5, 6, 7, 8, 9, 10, 11, 12, 13, 14, 15, 16, 17, 18]])
  .skip))))
 (.reg false [
   ⟨(some 34), (.bin .add), [(.t 8), (.c (.int .i64 1))], none⟩,
   ⟨(some 8), .mv, [(.t 34)], none⟩] [])))))))
 (.seq
 (.reg false [
   ⟨(some 35), .mv, [(.t 3)], none⟩,
   ⟨(some 36), .call, [(.f nslices_SortStableFunc_Lapi_Vouch_api_Vouch), (.t 35), (.f nvouch_Of_c1)], none⟩] [])
 (.seq
 (.reg false [
   ⟨(some 37), .mv, [(.t 3)], none⟩,
   ⟨(some 2), .mv, [(.t 37)], none⟩] [])
 .ret)))))⟩

def cref04_Counted : AFun := ⟨76, [(4, none)],
 (.seq
 (.reg false [
   ⟨(some 4), .mv, [(.c (.slice none 0 0))], none⟩] [])
 (.seq
 (.reg false [
   ⟨(some 9), .mv, [(.t 0)], none⟩,
   ⟨(some 10), .mv, [(.t 1)], none⟩,
   ⟨(some 11), .call, [(.f nref04_Own), (.t 9), (.t 10)], none⟩,
   ⟨(some 5), .mv, [(.t 11)], none⟩] [])
 (.seq
 (.reg false [
   ⟨(some 6), .mv, [(.c (.slice none 0 0))], none⟩] [])
 (.seq
 (.seq
 (.reg false [
   ⟨(some 7), .mv, [(.c (.int .i64 0))], none⟩] [])
 (.block 0
 (.loop
 (.seq
 (.seq
 (.reg false [
   ⟨(some 12), .mv, [(.t 7)], none⟩,
   ⟨(some 13), .mv, [(.t 5)], none⟩,
   ⟨(some 14), .len, [(.t 13)], none⟩,
   ⟨(some 15), (.bin .lss), [(.t 12), (.t 14)], none⟩] [])
 (.cond (.t 15)
  .skip
  (.exit 0)))
 (.seq
 (.block 1
 (.seq
 (.reg false [
   ⟨(some 18), .mv, [(.t 6)], none⟩,
   ⟨(some 19), .len, [(.t 18)], none⟩,
   ⟨(some 8), .mv, [(.t 19)], none⟩] [])
 (.seq
 (.seq
 (.reg false [
   ⟨(some 20), .mv, [(.t 5)], none⟩,
   ⟨(some 21), .mv, [(.t 7)], none⟩,
   ⟨(some 22), (.iad 13), [(.t 20), (.t 21)], none⟩,
   ⟨(some 23), (.fad 1), [(.t 22)], none⟩,
   ⟨(some 24), (.ld false 1), [(.t 23)], none⟩,
   ⟨(some 25), .mv, [(.t 8)], none⟩,
   ⟨(some 26), (.bin .neq), [(.t 24), (.t 25)], none⟩,
   ⟨(some 27), .mv, [(.t 26)], none⟩,
   ⟨(some 28), .mv, [(.t 7)], (some (27, false))⟩,
   ⟨(some 29), (.bin .add), [(.t 28), (.c (.int .i64 1))], (some (27, false))⟩,
   ⟨(some 30), .mv, [(.t 5)], (some (27, false))⟩,
   ⟨(some 31), .len, [(.t 30)], (some (27, false))⟩,
   ⟨(some 32), (.bin .lss), [(.t 29), (.t 31)], (some (27, false))⟩,
   ⟨(some 33), .mv, [(.t 32)], (some (27, false))⟩,
   ⟨(some 34), .mv, [(.t 5)], (some (33, true))⟩,
   ⟨(some 35), .mv, [(.t 7)], (some (33, true))⟩,
   ⟨(some 36), (.bin .add), [(.t 35), (.c (.int .i64 1))], (some (33, true))⟩,
   ⟨(some 37), (.iad 13), [(.t 34), (.t 36)], (some (33, true))⟩,
   ⟨(some 38), (.fad 1), [(.t 37)], (some (33, true))⟩,
   ⟨(some 39), (.ld false 1), [(.t 38)], (some (33, true))⟩,
   ⟨(some 40), .mv, [(.t 8)], (some (33, true))⟩,
   ⟨(some 41), (.bin .eql), [(.t 39), (.t 40)], (some (33, true))⟩,
   ⟨(some 42), .pick, [(.t 33), (.t 41), (.c (.bool false))], (some (27, false))⟩,
   ⟨(some 43), .pick, [(.t 27), (.c (.bool true)), (.t 42)], none⟩] [])
 (.cond (.t 43)
  (.exit 0)
  .skip))
 (.seq
 (.seq
 (.reg true [
   ⟨(some 44), .mv, [(.t 8)], none⟩,
   ⟨(some 45), (.bin .gtr), [(.t 44), (.c (.int .i64 0))], none⟩,
   ⟨(some 46), .mv, [(.t 45)], none⟩,
   ⟨(some 47), .mv, [(.t 6)], (some (46, true))⟩,
   ⟨(some 48), .mv, [(.t 8)], (some (46, true))⟩,
   ⟨(some 49), (.bin .sub), [(.t 48), (.c (.int .i64 1))], (some (46, true))⟩,
   ⟨(some 50), (.iad 13), [(.t 47), (.t 49)], (some (46, true))⟩,
   ⟨(some 51), (.ld true 13), [(.t 50)], (some (46, true))⟩,
   ⟨(some 52), .mv, [(.t 5)], (some (46, true))⟩,
   ⟨(some 53), .mv, [(.t 7)], (some (46, true))⟩,
   ⟨(some 54), (.iad 13), [(.t 52), (.t 53)], (some (46, true))⟩,
   ⟨(some 55), (.ld true 13), [(.t 54)], (some (46, true))⟩,
   ⟨(some 56), .call, [(.f nref04_Follows), (.t 51), (.t 55)], (some (46, true))⟩,
   ⟨(some 57), (.un .not), [(.t 56)], (some (46, true))⟩,
   ⟨(some 58), .mv, [(.t 57)], (some (46, true))⟩,
   ⟨(some 59), .mv, [(.t 6)], (some (58, false))⟩,
   ⟨(some 60), .mv, [(.t 8)], (some (58, false))⟩,
   ⟨(some 61), (.bin .sub), [(.t 60), (.c (.int .i64 1))], (some (58, false))⟩,
   ⟨(some 62), (.iad 13), [(.t 59), (.t 61)], (some (58, false))⟩,
   ⟨(some 63), (.fad 4), [(.t 62)], (some (58, false))⟩,
   ⟨(some 64), (.ld false 1), [(.t 63)], (some (58, false))⟩,
   ⟨(some 65), (.bin .eql), [(.t 64), (.c (.int .i64 3))], (some (58, false))⟩,
   ⟨(some 66), .pick, [(.t 58), (.c (.bool true)), (.t 65)], (some (46, true))⟩,
   ⟨(some 67), .pick, [(.t 46), (.t 66), (.c (.bool false))], none⟩] [[], [0], [1], [2], [2], [4, 2], [3, 5, 2], [6, 2], [2], [2], [8, 9, 2], [10, 2], [7, 11, 2, 2], [12, 2], [13, 12, 2], [14], [14], [16, 14], [15, 17, 14], [18, 14], [19, 14], [20, 14], [14, 21, 2], [2, 22]])
 (.cond (.t 67)
  (.exit 0)
  .skip))
 (.reg false [
   ⟨(some 68), .mv, [(.t 6)], none⟩,
   ⟨(some 69), .mv, [(.t 5)], none⟩,
   ⟨(some 70), .mv, [(.t 7)], none⟩,
   ⟨(some 71), (.iad 13), [(.t 69), (.t 70)], none⟩,
   ⟨(some 72), (.ld true 13), [(.t 71)], none⟩,
   ⟨(some 73), (.bsl 13 1 [(.int .i64 0), (.int .i64 0), (.string ⟨#[]⟩), (.int .i64 0), (.int .i64 0), (.int .i64 0), (.int .i64 0), (.int .i64 0), (.slice none 0 0), (.slice none 0 0), (.string ⟨#[]⟩), (.int .i64 0), (.string ⟨#[]⟩)] [0]), [(.t 72)], none⟩,
   ⟨(some 74), (.app 13 160), [(.t 68), (.t 73)], none⟩,
   ⟨(some 6), .mv, [(.t 74)], none⟩] [])))))
 (.reg false [
   ⟨(some 16), .mv, [(.t 7)], none⟩,
   ⟨(some 17), (.bin .add), [(.t 16), (.c (.int .i64 1))], none⟩,
   ⟨(some 7), .mv, [(.t 17)], none⟩] []))))))
 (.seq
 (.reg false [
   ⟨(some 75), .mv, [(.t 6)], none⟩,
   ⟨(some 4), .mv, [(.t 75)], none⟩] [])
 .ret)))))⟩

def cref10_Between : AFun := ⟨42, [(8, some (true, 7)), (9, none)],
 (.seq
 (.reg false [
   ⟨(some 8), (.alloc [(.int .i64 0), (.int .i64 0), (.int .i64 0), (.int .i64 0), (.int .i64 0), (.int .i64 0), (.int .i64 0)]), [], none⟩,
   ⟨(some 9), .mv, [(.c (.bool false))], none⟩] [])
 (.seq
 (.reg false [
   ⟨(some 12), .mv, [(.t 0)], none⟩,
   ⟨(some 13), .mv, [(.t 3)], none⟩,
   ⟨(some 14), .call, [(.f nref10_Active), (.t 12), (.t 13)], none⟩,
   ⟨(some 10), .mv, [(.t 14)], none⟩] [])
 (.seq
 (.seq
 (.reg false [
   ⟨(some 11), .mv, [(.c (.int .i64 0))], none⟩] [])
 (.block 0
 (.loop
 (.seq
 (.seq
 (.reg false [
   ⟨(some 15), .mv, [(.t 11)], none⟩,
   ⟨(some 16), .mv, [(.t 10)], none⟩,
   ⟨(some 17), .len, [(.t 16)], none⟩,
   ⟨(some 18), (.bin .lss), [(.t 15), (.t 17)], none⟩] [])
 (.cond (.t 18)
  .skip
  (.exit 0)))
 (.seq
 (.block 1
 (.seq
 (.reg false [
   ⟨(some 21), .mv, [(.t 10)], none⟩,
   ⟨(some 22), .mv, [(.t 11)], none⟩,
   ⟨(some 23), (.iad 7), [(.t 21), (.t 22)], none⟩,
   ⟨(some 24), (.fad 0), [(.t 23)], none⟩,
   ⟨(some 25), (.ld false 1), [(.t 24)], none⟩,
   ⟨(some 26), .mv, [(.t 1)], none⟩,
   ⟨(some 27), (.bin .eql), [(.t 25), (.t 26)], none⟩,
   ⟨(some 28), .mv, [(.t 27)], none⟩,
   ⟨(some 29), .mv, [(.t 10)], (some (28, true))⟩,
   ⟨(some 30), .mv, [(.t 11)], (some (28, true))⟩,
   ⟨(some 31), (.iad 7), [(.t 29), (.t 30)], (some (28, true))⟩,
   ⟨(some 32), (.fad 1), [(.t 31)], (some (28, true))⟩,
   ⟨(some 33), (.ld false 1), [(.t 32)], (some (28, true))⟩,
   ⟨(some 34), .mv, [(.t 2)], (some (28, true))⟩,
   ⟨(some 35), (.bin .eql), [(.t 33), (.t 34)], (some (28, true))⟩,
   ⟨(some 36), .pick, [(.t 28), (.t 35), (.c (.bool false))], none⟩] [])
 (.cond (.t 36)
  (.seq
  (.reg false [
    ⟨(some 37), .mv, [(.t 10)], none⟩,
    ⟨(some 38), .mv, [(.t 11)], none⟩,
    ⟨(some 39), (.iad 7), [(.t 37), (.t 38)], none⟩,
    ⟨(some 40), (.ld true 7), [(.t 39)], none⟩,
    ⟨none, (.st 7), [(.t 8), (.t 40)], none⟩,
    ⟨(some 9), .mv, [(.c (.bool true))], none⟩] [])
  .ret)
  .skip)))
 (.reg false [
   ⟨(some 19), .mv, [(.t 11)], none⟩,
   ⟨(some 20), (.bin .add), [(.t 19), (.c (.int .i64 1))], none⟩,
   ⟨(some 11), .mv, [(.t 20)], none⟩] []))))))
 (.seq
 (.reg false [
   ⟨(some 41), (.build [(.int .i64 0), (.int .i64 0), (.int .i64 0), (.int .i64 0), (.int .i64 0), (.int .i64 0), (.int .i64 0)] []), [], none⟩,
   ⟨none, (.st 7), [(.t 8), (.t 41)], none⟩,
   ⟨(some 9), .mv, [(.c (.bool false))], none⟩] [])
 .ret))))⟩

def cref10_Same : AFun := ⟨26, [(4, none)],
 (.seq
 (.reg false [
   ⟨(some 4), .mv, [(.c (.bool false))], none⟩] [])
 (.seq
 (.seq
 (.reg false [
   ⟨(some 6), .mv, [(.t 0)], none⟩,
   ⟨(some 7), .len, [(.t 6)], none⟩,
   ⟨(some 8), .mv, [(.t 1)], none⟩,
   ⟨(some 9), .len, [(.t 8)], none⟩,
   ⟨(some 10), (.bin .neq), [(.t 7), (.t 9)], none⟩] [])
 (.cond (.t 10)
  (.seq
  (.reg false [
    ⟨(some 4), .mv, [(.c (.bool false))], none⟩] [])
  .ret)
  .skip))
 (.seq
 (.seq
 (.reg false [
   ⟨(some 5), .mv, [(.c (.int .i64 0))], none⟩] [])
 (.block 0
 (.loop
 (.seq
 (.seq
 (.reg false [
   ⟨(some 11), .mv, [(.t 5)], none⟩,
   ⟨(some 12), .mv, [(.t 0)], none⟩,
   ⟨(some 13), .len, [(.t 12)], none⟩,
   ⟨(some 14), (.bin .lss), [(.t 11), (.t 13)], none⟩] [])
 (.cond (.t 14)
  .skip
  (.exit 0)))
 (.seq
 (.block 1
 (.seq
 (.reg true [
   ⟨(some 17), .mv, [(.t 0)], none⟩,
   ⟨(some 18), .mv, [(.t 5)], none⟩,
   ⟨(some 19), (.iad 7), [(.t 17), (.t 18)], none⟩,
   ⟨(some 20), (.ld true 7), [(.t 19)], none⟩,
   ⟨(some 21), .mv, [(.t 1)], none⟩,
   ⟨(some 22), .mv, [(.t 5)], none⟩,
   ⟨(some 23), (.iad 7), [(.t 21), (.t 22)], none⟩,
   ⟨(some 24), (.ld true 7), [(.t 23)], none⟩,
   ⟨(some 25), (.aeq true [0, 0, 0, 0, 0, 0, 0]), [(.t 20), (.t 24)], none⟩] [[], [], [0, 1], [2], [], [], [4, 5], [6], [3, 7]])
 (.cond (.t 25)
  (.seq
  (.reg false [
    ⟨(some 4), .mv, [(.c (.bool false))], none⟩] [])
  .ret)
  .skip)))
 (.reg false [
   ⟨(some 15), .mv, [(.t 5)], none⟩,
   ⟨(some 16), (.bin .add), [(.t 15), (.c (.int .i64 1))], none⟩,
   ⟨(some 5), .mv, [(.t 16)], none⟩] []))))))
 (.seq
 (.reg false [
   ⟨(some 4), .mv, [(.c (.bool true))], none⟩] [])
 .ret))))⟩

def cref10_Of : AFun := ⟨64, [(2, none)],
 (.seq
 (.reg false [
   ⟨(some 2), .mv, [(.c (.slice none 0 0))], none⟩] [])
 (.seq
 (.reg false [
   ⟨(some 3), .mv, [(.c (.slice none 0 0))], none⟩] [])
 (.seq
 (.seq
 (.reg false [
   ⟨(some 4), .mv, [(.c (.int .i64 0))], none⟩] [])
 (.block 0
 (.loop
 (.seq
 (.seq
 (.reg false [
   ⟨(some 8), .mv, [(.t 4)], none⟩,
   ⟨(some 9), .mv, [(.t 0)], none⟩,
   ⟨(some 10), .len, [(.t 9)], none⟩,
   ⟨(some 11), (.bin .lss), [(.t 8), (.t 10)], none⟩] [])
 (.cond (.t 11)
  .skip
  (.exit 0)))
 (.seq
 (.block 1
 (.seq
 (.reg false [
   ⟨(some 14), .mv, [(.t 0)], none⟩,
   ⟨(some 15), .mv, [(.t 4)], none⟩,
   ⟨(some 16), (.iad 13), [(.t 14), (.t 15)], none⟩,
   ⟨(some 17), (.ld true 13), [(.t 16)], none⟩,
   ⟨(some 5), (.alloc [(.int .i64 0), (.int .i64 0), (.string ⟨#[]⟩), (.int .i64 0), (.int .i64 0), (.int .i64 0), (.int .i64 0), (.int .i64 0), (.slice none 0 0), (.slice none 0 0), (.string ⟨#[]⟩), (.int .i64 0), (.string ⟨#[]⟩)]), [], none⟩,
   ⟨none, (.st 13), [(.t 5), (.t 17)], none⟩] [])
 (.seq
 (.seq
 (.reg false [
   ⟨(some 18), (.fad 4), [(.t 5)], none⟩,
   ⟨(some 19), (.ld false 1), [(.t 18)], none⟩,
   ⟨(some 20), (.bin .neq), [(.t 19), (.c (.int .i64 1))], none⟩] [])
 (.cond (.t 20)
  (.exit 1)
  .skip))
 (.seq
 (.reg true [
   ⟨(some 21), (.fad 0), [(.t 5)], none⟩,
   ⟨(some 22), (.ld false 1), [(.t 21)], none⟩,
   ⟨(some 23), (.fad 5), [(.t 5)], none⟩,
   ⟨(some 24), (.ld false 1), [(.t 23)], none⟩,
   ⟨(some 25), (.fad 6), [(.t 5)], none⟩,
   ⟨(some 26), (.ld false 1), [(.t 25)], none⟩,
   ⟨(some 27), (.fad 1), [(.t 5)], none⟩,
   ⟨(some 28), (.ld false 1), [(.t 27)], none⟩,
   ⟨(some 29), (.fad 3), [(.t 5)], none⟩,
   ⟨(some 30), (.ld false 1), [(.t 29)], none⟩,
   ⟨(some 31), (.fad 7), [(.t 5)], none⟩,
   ⟨(some 32), (.ld false 1), [(.t 31)], none⟩,
   ⟨(some 33), .mv, [(.t 0)], none⟩,
   ⟨(some 34), (.ld true 13), [(.t 5)], none⟩,
   ⟨(some 35), .call, [(.f nref10_revoked), (.t 33), (.t 34)], none⟩,
   ⟨(some 36), (.build [(.int .i64 0), (.int .i64 0), (.int .i64 0), (.int .i64 0), (.int .i64 0), (.int .i64 0), (.int .i64 0)] [(0, 1), (1, 1), (2, 1), (3, 1), (4, 1), (5, 1), (6, 1)]), [(.t 22), (.t 24), (.t 26), (.t 28), (.t 30), (.t 32), (.t 35)], none⟩,
   ⟨(some 6), (.alloc [(.int .i64 0), (.int .i64 0), (.int .i64 0), (.int .i64 0), (.int .i64 0), (.int .i64 0), (.int .i64 0)]), [], none⟩,
   ⟨none, (.st 7), [(.t 6), (.t 36)], none⟩] [[], [0], [], [2], [], [4], [], [6], [], [8], [], [10], [], [], [12, 13], [1, 3, 5, 7, 9, 11, 14], [], [16, 15, 14, 0, 1, 2, 3, 4, 5, 6, 7, 8, 9, 10, 11, 12, 13, 14, 15, 16]])
 (.seq
 (.reg false [
   ⟨(some 37), .mv, [(.t 3)], none⟩,
   ⟨(some 38), .len, [(.t 37)], none⟩,
   ⟨(some 7), .mv, [(.t 38)], none⟩] [])
 (.seq
 (.block 2
 (.loop
 (.seq
 (.seq
 (.reg true [
   ⟨(some 39), .mv, [(.t 7)], none⟩,
   ⟨(some 40), (.bin .gtr), [(.t 39), (.c (.int .i64 0))], none⟩,
   ⟨(some 41), .mv, [(.t 40)], none⟩,
   ⟨(some 42), (.ld true 7), [(.t 6)], (some (41, true))⟩,
   ⟨(some 43), .mv, [(.t 3)], (some (41, true))⟩,
   ⟨(some 44), .mv, [(.t 7)], (some (41, true))⟩,
   ⟨(some 45), (.bin .sub), [(.t 44), (.c (.int .i64 1))], (some (41, true))⟩,
   ⟨(some 46), (.iad 7), [(.t 43), (.t 45)], (some (41, true))⟩,
   ⟨(some 47), (.ld true 7), [(.t 46)], (some (41, true))⟩,
   ⟨(some 48), .call, [(.f nref10_less), (.t 42), (.t 47)], (some (41, true))⟩,
   ⟨(some 49), .pick, [(.t 41), (.t 48), (.c (.bool false))], none⟩] [[], [0], [1], [2], [2], [2], [5, 2], [4, 6, 2], [7, 2], [3, 8, 2, 2], [2, 9]])
 (.cond (.t 49)
  .skip
  (.exit 2)))
 (.block 3
 (.reg false [
   ⟨(some 50), .mv, [(.t 7)], none⟩,
   ⟨(some 51), (.bin .sub), [(.t 50), (.c (.int .i64 1))], none⟩,
   ⟨(some 7), .mv, [(.t 51)], none⟩] [])))))
 (.reg true [
   ⟨(some 52), .mv, [(.t 3)], none⟩,
   ⟨(some 53), .mv, [(.t 7)], none⟩,
   ⟨(some 54), (.slc 7 false true false), [(.t 52), (.t 53)], none⟩,
   ⟨(some 55), (.app 7 56), [(.c (.slice none 0 0)), (.t 54)], none⟩,
   ⟨(some 56), (.ld true 7), [(.t 6)], none⟩,
   ⟨(some 57), (.bsl 7 1 [(.int .i64 0), (.int .i64 0), (.int .i64 0), (.int .i64 0), (.int .i64 0), (.int .i64 0), (.int .i64 0)] [0]), [(.t 56)], none⟩,
   ⟨(some 58), (.app 7 56), [(.t 55), (.t 57)], none⟩,
   ⟨(some 59), .mv, [(.t 3)], none⟩,
   ⟨(some 60), .mv, [(.t 7)], none⟩,
   ⟨(some 61), (.slc 7 true false false), [(.t 59), (.t 60)], none⟩,
   ⟨(some 62), (.app 7 56), [(.t 58), (.t 61)], none⟩,
   ⟨(some 3), .mv, [(.t 62)], none⟩] [[], [], [0, 1], [2], [], [4], [3, 5, 3], [], [], [7, 8], [6, 9, 6], [10, 10, 0, 1, 2, 3, 4, 5, 6, 7, 8, 9, 10]])))))))
 (.reg false [
   ⟨(some 12), .mv, [(.t 4)], none⟩,
   ⟨(some 13), (.bin .add), [(.t 12), (.c (.int .i64 1))], none⟩,
   ⟨(some 4), .mv, [(.t 13)], none⟩] []))))))
 (.seq
 (.reg false [
   ⟨(some 63), .mv, [(.t 3)], none⟩,
   ⟨(some 2), .mv, [(.t 63)], none⟩] [])
 .ret))))⟩

def cref10_Gone : AFun := ⟨52, [(4, none)],
 (.seq
 (.reg false [
   ⟨(some 4), .mv, [(.c (.slice none 0 0))], none⟩] [])
 (.seq
 (.reg false [
   ⟨(some 5), .mv, [(.c (.slice none 0 0))], none⟩] [])
 (.seq
 (.seq
 (.reg false [
   ⟨(some 6), .mv, [(.c (.int .i64 0))], none⟩] [])
 (.block 0
 (.loop
 (.seq
 (.seq
 (.reg false [
   ⟨(some 9), .mv, [(.t 6)], none⟩,
   ⟨(some 10), (.bin .lss), [(.t 9), (.c (.int .i64 64))], none⟩] [])
 (.cond (.t 10)
  .skip
  (.exit 0)))
 (.seq
 (.block 1
 (.seq
 (.reg false [
   ⟨(some 7), .mv, [(.c (.bool false))], none⟩] [])
 (.seq
 (.seq
 (.reg false [
   ⟨(some 8), .mv, [(.c (.int .i64 0))], none⟩] [])
 (.block 2
 (.loop
 (.seq
 (.seq
 (.reg false [
   ⟨(some 13), .mv, [(.t 8)], none⟩,
   ⟨(some 14), .mv, [(.t 0)], none⟩,
   ⟨(some 15), .len, [(.t 14)], none⟩,
   ⟨(some 16), (.bin .lss), [(.t 13), (.t 15)], none⟩] [])
 (.cond (.t 16)
  .skip
  (.exit 2)))
 (.seq
 (.block 3
 (.reg false [
   ⟨(some 19), .mv, [(.t 7)], none⟩,
   ⟨(some 20), .mv, [(.t 19)], none⟩,
   ⟨(some 21), .mv, [(.t 0)], (some (20, false))⟩,
   ⟨(some 22), .mv, [(.t 8)], (some (20, false))⟩,
   ⟨(some 23), (.iad 13), [(.t 21), (.t 22)], (some (20, false))⟩,
   ⟨(some 24), (.fad 0), [(.t 23)], (some (20, false))⟩,
   ⟨(some 25), (.ld false 1), [(.t 24)], (some (20, false))⟩,
   ⟨(some 26), .mv, [(.t 6)], (some (20, false))⟩,
   ⟨(some 27), (.bin .eql), [(.t 25), (.t 26)], (some (20, false))⟩,
   ⟨(some 28), .mv, [(.t 27)], (some (20, false))⟩,
   ⟨(some 29), .mv, [(.t 0)], (some (28, true))⟩,
   ⟨(some 30), .mv, [(.t 8)], (some (28, true))⟩,
   ⟨(some 31), (.iad 13), [(.t 29), (.t 30)], (some (28, true))⟩,
   ⟨(some 32), (.fad 4), [(.t 31)], (some (28, true))⟩,
   ⟨(some 33), (.ld false 1), [(.t 32)], (some (28, true))⟩,
   ⟨(some 34), (.bin .eql), [(.t 33), (.c (.int .i64 3))], (some (28, true))⟩,
   ⟨(some 35), .pick, [(.t 28), (.t 34), (.c (.bool false))], (some (20, false))⟩,
   ⟨(some 36), .mv, [(.t 35)], (some (20, false))⟩,
   ⟨(some 37), .mv, [(.t 0)], (some (36, true))⟩,
   ⟨(some 38), .mv, [(.t 8)], (some (36, true))⟩,
   ⟨(some 39), (.iad 13), [(.t 37), (.t 38)], (some (36, true))⟩,
   ⟨(some 40), (.fad 3), [(.t 39)], (some (36, true))⟩,
   ⟨(some 41), (.ld false 1), [(.t 40)], (some (36, true))⟩,
   ⟨(some 42), .mv, [(.t 1)], (some (36, true))⟩,
   ⟨(some 43), (.bin .leq), [(.t 41), (.t 42)], (some (36, true))⟩,
   ⟨(some 44), .pick, [(.t 36), (.t 43), (.c (.bool false))], (some (20, false))⟩,
   ⟨(some 45), .pick, [(.t 20), (.c (.bool true)), (.t 44)], none⟩,
   ⟨(some 7), .mv, [(.t 45)], none⟩] []))
 (.reg false [
   ⟨(some 17), .mv, [(.t 8)], none⟩,
   ⟨(some 18), (.bin .add), [(.t 17), (.c (.int .i64 1))], none⟩,
   ⟨(some 8), .mv, [(.t 18)], none⟩] []))))))
 (.seq
 (.reg false [
   ⟨(some 46), .mv, [(.t 7)], none⟩] [])
 (.cond (.t 46)
  (.reg false [
    ⟨(some 47), .mv, [(.t 5)], none⟩,
    ⟨(some 48), .mv, [(.t 6)], none⟩,
    ⟨(some 49), (.bsl 1 1 [(.int .i64 0)] [0]), [(.t 48)], none⟩,
    ⟨(some 50), (.app 1 8), [(.t 47), (.t 49)], none⟩,
    ⟨(some 5), .mv, [(.t 50)], none⟩] [])
  .skip)))))
 (.reg false [
   ⟨(some 11), .mv, [(.t 6)], none⟩,
   ⟨(some 12), (.bin .add), [(.t 11), (.c (.int .i64 1))], none⟩,
   ⟨(some 6), .mv, [(.t 12)], none⟩] []))))))
 (.seq
 (.reg false [
   ⟨(some 51), .mv, [(.t 5)], none⟩,
   ⟨(some 4), .mv, [(.t 51)], none⟩] [])
 .ret))))⟩

def cref10_Active : AFun := ⟨107, [(4, none)],
 (.seq
 (.reg false [
   ⟨(some 4), .mv, [(.c (.slice none 0 0))], none⟩] [])
 (.seq
 (.reg false [
   ⟨(some 11), .mv, [(.t 0)], none⟩,
   ⟨(some 12), .call, [(.f nref10_Of), (.t 11)], none⟩,
   ⟨(some 13), .mv, [(.t 0)], none⟩,
   ⟨(some 14), .mv, [(.t 1)], none⟩,
   ⟨(some 15), .call, [(.f nref10_Gone), (.t 13), (.t 14)], none⟩,
   ⟨(some 5), .mv, [(.t 12)], none⟩,
   ⟨(some 6), .mv, [(.t 15)], none⟩] [])
 (.seq
 (.reg false [
   ⟨(some 7), .mv, [(.c (.slice none 0 0))], none⟩] [])
 (.seq
 (.seq
 (.reg false [
   ⟨(some 8), .mv, [(.c (.int .i64 0))], none⟩] [])
 (.block 0
 (.loop
 (.seq
 (.seq
 (.reg false [
   ⟨(some 16), .mv, [(.t 8)], none⟩,
   ⟨(some 17), .mv, [(.t 5)], none⟩,
   ⟨(some 18), .len, [(.t 17)], none⟩,
   ⟨(some 19), (.bin .lss), [(.t 16), (.t 18)], none⟩] [])
 (.cond (.t 19)
  .skip
  (.exit 0)))
 (.seq
 (.block 1
 (.seq
 (.reg false [
   ⟨(some 22), .mv, [(.t 5)], none⟩,
   ⟨(some 23), .mv, [(.t 8)], none⟩,
   ⟨(some 24), (.iad 7), [(.t 22), (.t 23)], none⟩,
   ⟨(some 25), (.ld true 7), [(.t 24)], none⟩,
   ⟨(some 9), (.alloc [(.int .i64 0), (.int .i64 0), (.int .i64 0), (.int .i64 0), (.int .i64 0), (.int .i64 0), (.int .i64 0)]), [], none⟩,
   ⟨none, (.st 7), [(.t 9), (.t 25)], none⟩] [])
 (.seq
 (.reg true [
   ⟨(some 26), .mv, [(.t 8)], none⟩,
   ⟨(some 27), (.bin .add), [(.t 26), (.c (.int .i64 1))], none⟩,
   ⟨(some 28), .mv, [(.t 5)], none⟩,
   ⟨(some 29), .len, [(.t 28)], none⟩,
   ⟨(some 30), (.bin .lss), [(.t 27), (.t 29)], none⟩,
   ⟨(some 31), .mv, [(.t 30)], none⟩,
   ⟨(some 32), .mv, [(.t 5)], (some (31, true))⟩,
   ⟨(some 33), .mv, [(.t 8)], (some (31, true))⟩,
   ⟨(some 34), (.bin .add), [(.t 33), (.c (.int .i64 1))], (some (31, true))⟩,
   ⟨(some 35), (.iad 7), [(.t 32), (.t 34)], (some (31, true))⟩,
   ⟨(some 36), (.fad 0), [(.t 35)], (some (31, true))⟩,
   ⟨(some 37), (.ld false 1), [(.t 36)], (some (31, true))⟩,
   ⟨(some 38), (.fad 0), [(.t 9)], (some (31, true))⟩,
   ⟨(some 39), (.ld false 1), [(.t 38)], (some (31, true))⟩,
   ⟨(some 40), (.bin .eql), [(.t 37), (.t 39)], (some (31, true))⟩,
   ⟨(some 41), .pick, [(.t 31), (.t 40), (.c (.bool false))], none⟩,
   ⟨(some 42), .mv, [(.t 41)], none⟩,
   ⟨(some 43), .mv, [(.t 5)], (some (42, true))⟩,
   ⟨(some 44), .mv, [(.t 8)], (some (42, true))⟩,
   ⟨(some 45), (.bin .add), [(.t 44), (.c (.int .i64 1))], (some (42, true))⟩,
   ⟨(some 46), (.iad 7), [(.t 43), (.t 45)], (some (42, true))⟩,
   ⟨(some 47), (.fad 1), [(.t 46)], (some (42, true))⟩,
   ⟨(some 48), (.ld false 1), [(.t 47)], (some (42, true))⟩,
   ⟨(some 49), (.fad 1), [(.t 9)], (some (42, true))⟩,
   ⟨(some 50), (.ld false 1), [(.t 49)], (some (42, true))⟩,
   ⟨(some 51), (.bin .eql), [(.t 48), (.t 50)], (some (42, true))⟩,
   ⟨(some 52), .pick, [(.t 42), (.t 51), (.c (.bool false))], none⟩,
   ⟨(some 53), .mv, [(.t 52)], none⟩,
   ⟨(some 54), .mv, [(.t 5)], (some (53, true))⟩,
   ⟨(some 55), .mv, [(.t 8)], (some (53, true))⟩,
   ⟨(some 56), (.bin .add), [(.t 55), (.c (.int .i64 1))], (some (53, true))⟩,
   ⟨(some 57), (.iad 7), [(.t 54), (.t 56)], (some (53, true))⟩,
   ⟨(some 58), (.fad 4), [(.t 57)], (some (53, true))⟩,
   ⟨(some 59), (.ld false 1), [(.t 58)], (some (53, true))⟩,
   ⟨(some 60), .mv, [(.t 1)], (some (53, true))⟩,
   ⟨(some 61), (.bin .leq), [(.t 59), (.t 60)], (some (53, true))⟩,
   ⟨(some 62), .pick, [(.t 53), (.t 61), (.c (.bool false))], none⟩,
   ⟨(some 10), .mv, [(.t 62)], none⟩] [[], [0], [], [2], [1, 3], [4], [5], [5], [7, 5], [6, 8, 5], [9, 5], [10, 5], [5], [12, 5], [11, 13, 5], [5, 14], [15, 5], [16], [16], [18, 16], [17, 19, 16], [20, 16], [21, 16], [16], [23, 16], [22, 24, 16], [16, 25], [26, 16], [27], [27], [29, 27], [28, 30, 27], [31, 27], [32, 27], [27], [33, 34, 27], [27, 35], [36, 27, 0, 1, 2, 3, 4, 5, 6, 7, 8, 9, 10, 11, 12, 13, 14, 15, 16, 17, 18, 19, 20, 21, 22, 23, 24, 25, 26, 27, 28, 29, 30, 31, 32, 33, 34, 35, 36]])
 (.seq
 (.reg false [
   ⟨(some 63), (.fad 4), [(.t 9)], none⟩,
   ⟨(some 64), (.ld false 1), [(.t 63)], none⟩,
   ⟨(some 65), .mv, [(.t 1)], none⟩,
   ⟨(some 66), (.bin .leq), [(.t 64), (.t 65)], none⟩,
   ⟨(some 67), .mv, [(.t 66)], none⟩,
   ⟨(some 68), .mv, [(.t 1)], (some (67, true))⟩,
   ⟨(some 69), (.fad 5), [(.t 9)], (some (67, true))⟩,
   ⟨(some 70), (.ld false 1), [(.t 69)], (some (67, true))⟩,
   ⟨(some 71), (.bin .lss), [(.t 68), (.t 70)], (some (67, true))⟩,
   ⟨(some 72), .pick, [(.t 67), (.t 71), (.c (.bool false))], none⟩,
   ⟨(some 73), .mv, [(.t 72)], none⟩,
   ⟨(some 74), (.fad 6), [(.t 9)], (some (73, true))⟩,
   ⟨(some 75), (.ld false 1), [(.t 74)], (some (73, true))⟩,
   ⟨(some 76), (.bin .eql), [(.t 75), (.c (.int .i64 (-1)))], (some (73, true))⟩,
   ⟨(some 77), .mv, [(.t 76)], (some (73, true))⟩,
   ⟨(some 78), (.fad 6), [(.t 9)], (some (77, false))⟩,
   ⟨(some 79), (.ld false 1), [(.t 78)], (some (77, false))⟩,
   ⟨(some 80), .mv, [(.t 1)], (some (77, false))⟩,
   ⟨(some 81), (.bin .gtr), [(.t 79), (.t 80)], (some (77, false))⟩,
   ⟨(some 82), .pick, [(.t 77), (.c (.bool true)), (.t 81)], (some (73, true))⟩,
   ⟨(some 83), .pick, [(.t 73), (.t 82), (.c (.bool false))], none⟩,
   ⟨(some 84), .mv, [(.t 83)], none⟩,
   ⟨(some 85), .mv, [(.t 10)], (some (84, true))⟩,
   ⟨(some 86), (.un .not), [(.t 85)], (some (84, true))⟩,
   ⟨(some 87), .pick, [(.t 84), (.t 86), (.c (.bool false))], none⟩,
   ⟨(some 88), .mv, [(.t 87)], none⟩,
   ⟨(some 89), .mv, [(.t 6)], (some (88, true))⟩,
   ⟨(some 90), (.fad 0), [(.t 9)], (some (88, true))⟩,
   ⟨(some 91), (.ld false 1), [(.t 90)], (some (88, true))⟩,
   ⟨(some 92), .call, [(.f nref10_has), (.t 89), (.t 91)], (some (88, true))⟩,
   ⟨(some 93), (.un .not), [(.t 92)], (some (88, true))⟩,
   ⟨(some 94), .pick, [(.t 88), (.t 93), (.c (.bool false))], none⟩,
   ⟨(some 95), .mv, [(.t 94)], none⟩,
   ⟨(some 96), .mv, [(.t 6)], (some (95, true))⟩,
   ⟨(some 97), (.fad 1), [(.t 9)], (some (95, true))⟩,
   ⟨(some 98), (.ld false 1), [(.t 97)], (some (95, true))⟩,
   ⟨(some 99), .call, [(.f nref10_has), (.t 96), (.t 98)], (some (95, true))⟩,
   ⟨(some 100), (.un .not), [(.t 99)], (some (95, true))⟩,
   ⟨(some 101), .pick, [(.t 95), (.t 100), (.c (.bool false))], none⟩] [])
 (.cond (.t 101)
  (.reg false [
    ⟨(some 102), .mv, [(.t 7)], none⟩,
    ⟨(some 103), (.ld true 7), [(.t 9)], none⟩,
    ⟨(some 104), (.bsl 7 1 [(.int .i64 0), (.int .i64 0), (.int .i64 0), (.int .i64 0), (.int .i64 0), (.int .i64 0), (.int .i64 0)] [0]), [(.t 103)], none⟩,
    ⟨(some 105), (.app 7 56), [(.t 102), (.t 104)], none⟩,
    ⟨(some 7), .mv, [(.t 105)], none⟩] [])
  .skip)))))
 (.reg false [
   ⟨(some 20), .mv, [(.t 8)], none⟩,
   ⟨(some 21), (.bin .add), [(.t 20), (.c (.int .i64 1))], none⟩,
   ⟨(some 8), .mv, [(.t 21)], none⟩] []))))))
 (.seq
 (.reg false [
   ⟨(some 106), .mv, [(.t 7)], none⟩,
   ⟨(some 4), .mv, [(.t 106)], none⟩] [])
 .ret)))))⟩

def cref03_SameList : AFun := ⟨27, [(4, none)],
 (.seq
 (.reg false [
   ⟨(some 4), .mv, [(.c (.bool false))], none⟩] [])
 (.seq
 (.seq
 (.reg false [
   ⟨(some 6), .mv, [(.t 0)], none⟩,
   ⟨(some 7), .len, [(.t 6)], none⟩,
   ⟨(some 8), .mv, [(.t 1)], none⟩,
   ⟨(some 9), .len, [(.t 8)], none⟩,
   ⟨(some 10), (.bin .neq), [(.t 7), (.t 9)], none⟩] [])
 (.cond (.t 10)
  (.seq
  (.reg false [
    ⟨(some 4), .mv, [(.c (.bool false))], none⟩] [])
  .ret)
  .skip))
 (.seq
 (.seq
 (.reg false [
   ⟨(some 5), .mv, [(.c (.int .i64 0))], none⟩] [])
 (.block 0
 (.loop
 (.seq
 (.seq
 (.reg false [
   ⟨(some 11), .mv, [(.t 5)], none⟩,
   ⟨(some 12), .mv, [(.t 0)], none⟩,
   ⟨(some 13), .len, [(.t 12)], none⟩,
   ⟨(some 14), (.bin .lss), [(.t 11), (.t 13)], none⟩] [])
 (.cond (.t 14)
  .skip
  (.exit 0)))
 (.seq
 (.block 1
 (.seq
 (.reg true [
   ⟨(some 17), .mv, [(.t 0)], none⟩,
   ⟨(some 18), .mv, [(.t 5)], none⟩,
   ⟨(some 19), (.iad 13), [(.t 17), (.t 18)], none⟩,
   ⟨(some 20), (.ld true 13), [(.t 19)], none⟩,
   ⟨(some 21), .mv, [(.t 1)], none⟩,
   ⟨(some 22), .mv, [(.t 5)], none⟩,
   ⟨(some 23), (.iad 13), [(.t 21), (.t 22)], none⟩,
   ⟨(some 24), (.ld true 13), [(.t 23)], none⟩,
   ⟨(some 25), .call, [(.f nref03_Same), (.t 20), (.t 24)], none⟩,
   ⟨(some 26), (.un .not), [(.t 25)], none⟩] [[], [], [0, 1], [2], [], [], [4, 5], [6], [3, 7], [8]])
 (.cond (.t 26)
  (.seq
  (.reg false [
    ⟨(some 4), .mv, [(.c (.bool false))], none⟩] [])
  .ret)
  .skip)))
 (.reg false [
   ⟨(some 15), .mv, [(.t 5)], none⟩,
   ⟨(some 16), (.bin .add), [(.t 15), (.c (.int .i64 1))], none⟩,
   ⟨(some 5), .mv, [(.t 16)], none⟩] []))))))
 (.seq
 (.reg false [
   ⟨(some 4), .mv, [(.c (.bool true))], none⟩] [])
 .ret))))⟩

def cref03_Copy : AFun := ⟨12, [(2, some (true, 13))],
 (.seq
 (.reg false [
   ⟨(some 1), (.box 13), [(.t 0)], none⟩,
   ⟨(some 2), (.alloc [(.int .i64 0), (.int .i64 0), (.string ⟨#[]⟩), (.int .i64 0), (.int .i64 0), (.int .i64 0), (.int .i64 0), (.int .i64 0), (.slice none 0 0), (.slice none 0 0), (.string ⟨#[]⟩), (.int .i64 0), (.string ⟨#[]⟩)]), [], none⟩] [])
 (.seq
 (.reg false [
   ⟨(some 3), (.fad 8), [(.t 1)], none⟩,
   ⟨(some 4), (.ld false 1), [(.t 3)], none⟩,
   ⟨(some 5), (.app 1 8), [(.c (.slice none 0 0)), (.t 4)], none⟩,
   ⟨(some 6), (.fad 8), [(.t 1)], none⟩,
   ⟨none, (.st 1), [(.t 6), (.t 5)], none⟩] [])
 (.seq
 (.reg false [
   ⟨(some 7), (.fad 9), [(.t 1)], none⟩,
   ⟨(some 8), (.ld false 1), [(.t 7)], none⟩,
   ⟨(some 9), (.app 3 32), [(.c (.slice none 0 0)), (.t 8)], none⟩,
   ⟨(some 10), (.fad 9), [(.t 1)], none⟩,
   ⟨none, (.st 1), [(.t 10), (.t 9)], none⟩] [])
 (.seq
 (.reg false [
   ⟨(some 11), (.ld true 13), [(.t 1)], none⟩,
   ⟨none, (.st 13), [(.t 2), (.t 11)], none⟩] [])
 .ret))))⟩

def cref03_Digest : AFun := ⟨6, [(2, none)],
 (.seq
 (.reg false [
   ⟨(some 1), (.box 13), [(.t 0)], none⟩,
   ⟨(some 2), .mv, [(.c (.string ⟨#[]⟩))], none⟩] [])
 (.seq
 (.reg false [
   ⟨(some 3), (.ld true 13), [(.t 1)], none⟩,
   ⟨(some 4), .call, [(.f nref03_Bytes), (.t 3)], none⟩,
   ⟨(some 5), .call, [(.f nref01_Sum), (.t 4)], none⟩,
   ⟨(some 2), .mv, [(.t 5)], none⟩] [])
 .ret))⟩

def cref03_Seal : AFun := ⟨12, [(2, some (true, 13))],
 (.seq
 (.reg false [
   ⟨(some 1), (.box 13), [(.t 0)], none⟩,
   ⟨(some 2), (.alloc [(.int .i64 0), (.int .i64 0), (.string ⟨#[]⟩), (.int .i64 0), (.int .i64 0), (.int .i64 0), (.int .i64 0), (.int .i64 0), (.slice none 0 0), (.slice none 0 0), (.string ⟨#[]⟩), (.int .i64 0), (.string ⟨#[]⟩)]), [], none⟩] [])
 (.seq
 (.reg false [
   ⟨(some 3), (.ld true 13), [(.t 1)], none⟩,
   ⟨(some 4), .call, [(.f nref03_Copy), (.t 3)], none⟩,
   ⟨none, (.st 13), [(.t 1), (.t 4)], none⟩] [])
 (.seq
 (.reg true [
   ⟨(some 5), (.fad 0), [(.t 1)], none⟩,
   ⟨(some 6), (.ld false 1), [(.t 5)], none⟩,
   ⟨(some 7), (.ld true 13), [(.t 1)], none⟩,
   ⟨(some 8), .call, [(.f nref03_Digest), (.t 7)], none⟩,
   ⟨(some 9), (.build [(.int .i64 0), (.string ⟨#[]⟩)] [(0, 1), (1, 1)]), [(.t 6), (.t 8)], none⟩,
   ⟨(some 10), (.fad 11), [(.t 1)], none⟩,
   ⟨none, (.st 2), [(.t 10), (.t 9)], none⟩] [[], [0], [], [2], [1, 3], [0, 1, 2, 3, 4], [5, 4, 3, 0, 1, 2, 3, 4]])
 (.seq
 (.reg false [
   ⟨(some 11), (.ld true 13), [(.t 1)], none⟩,
   ⟨none, (.st 13), [(.t 2), (.t 11)], none⟩] [])
 .ret))))⟩

def cref03_Check : AFun := ⟨100, [(2, none)],
 (.seq
 (.reg false [
   ⟨(some 1), (.box 13), [(.t 0)], none⟩,
   ⟨(some 2), .mv, [(.c (.int .i64 0))], none⟩] [])
 (.seq
 (.block 0
 (.seq
 (.reg false [
   ⟨(some 4), (.fad 0), [(.t 1)], none⟩,
   ⟨(some 5), (.ld false 1), [(.t 4)], none⟩,
   ⟨(some 6), .call, [(.f nref03_key), (.t 5)], none⟩,
   ⟨(some 7), (.un .not), [(.t 6)], none⟩,
   ⟨(some 3), .mv, [(.t 7)], none⟩] [])
 (.cond (.t 3)
  (.seq
  (.reg false [
    ⟨(some 2), .mv, [(.c (.int .i64 4))], none⟩] [])
  .ret)
  (.seq
  (.reg false [
    ⟨(some 9), (.fad 4), [(.t 1)], none⟩,
    ⟨(some 10), (.ld false 1), [(.t 9)], none⟩,
    ⟨(some 11), (.bin .lss), [(.t 10), (.c (.int .i64 1))], none⟩,
    ⟨(some 12), .mv, [(.t 11)], none⟩,
    ⟨(some 13), (.fad 4), [(.t 1)], (some (12, false))⟩,
    ⟨(some 14), (.ld false 1), [(.t 13)], (some (12, false))⟩,
    ⟨(some 15), (.bin .gtr), [(.t 14), (.c (.int .i64 3))], (some (12, false))⟩,
    ⟨(some 16), .mv, [(.t 15)], (some (12, false))⟩,
    ⟨(some 17), (.fad 4), [(.t 1)], (some (16, true))⟩,
    ⟨(some 18), (.ld false 1), [(.t 17)], (some (16, true))⟩,
    ⟨(some 19), (.bin .lss), [(.t 18), (.c (.int .i64 10))], (some (16, true))⟩,
    ⟨(some 20), .pick, [(.t 16), (.t 19), (.c (.bool false))], (some (12, false))⟩,
    ⟨(some 21), .pick, [(.t 12), (.c (.bool true)), (.t 20)], none⟩,
    ⟨(some 22), .mv, [(.t 21)], none⟩,
    ⟨(some 23), (.fad 4), [(.t 1)], (some (22, false))⟩,
    ⟨(some 24), (.ld false 1), [(.t 23)], (some (22, false))⟩,
    ⟨(some 25), (.bin .gtr), [(.t 24), (.c (.int .i64 31))], (some (22, false))⟩,
    ⟨(some 26), .pick, [(.t 22), (.c (.bool true)), (.t 25)], none⟩,
    ⟨(some 8), .mv, [(.t 26)], none⟩] [])
  (.cond (.t 8)
   (.seq
   (.reg false [
     ⟨(some 2), .mv, [(.c (.int .i64 5))], none⟩] [])
   .ret)
   (.seq
   (.reg false [
     ⟨(some 28), (.fad 3), [(.t 1)], none⟩,
     ⟨(some 29), (.ld false 1), [(.t 28)], none⟩,
     ⟨(some 30), .call, [(.f nref03_in), (.t 29), (.c (.int .i64 2147483648))], none⟩,
     ⟨(some 31), (.un .not), [(.t 30)], none⟩,
     ⟨(some 27), .mv, [(.t 31)], none⟩] [])
   (.cond (.t 27)
    (.seq
    (.reg false [
      ⟨(some 2), .mv, [(.c (.int .i64 9))], none⟩] [])
    .ret)
    (.seq
    (.reg false [
      ⟨(some 33), (.ld true 13), [(.t 1)], none⟩,
      ⟨(some 34), .call, [(.f nref03_numbers), (.t 33)], none⟩,
      ⟨(some 35), (.un .not), [(.t 34)], none⟩,
      ⟨(some 32), .mv, [(.t 35)], none⟩] [])
    (.cond (.t 32)
     (.seq
     (.reg false [
       ⟨(some 2), .mv, [(.c (.int .i64 2))], none⟩] [])
     .ret)
     (.seq
     (.reg false [
       ⟨(some 37), (.fad 8), [(.t 1)], none⟩,
       ⟨(some 38), (.ld false 1), [(.t 37)], none⟩,
       ⟨(some 39), .len, [(.t 38)], none⟩,
       ⟨(some 40), (.bin .gtr), [(.t 39), (.c (.int .i64 64))], none⟩,
       ⟨(some 41), .mv, [(.t 40)], none⟩,
       ⟨(some 42), (.fad 9), [(.t 1)], (some (41, false))⟩,
       ⟨(some 43), (.ld false 1), [(.t 42)], (some (41, false))⟩,
       ⟨(some 44), .len, [(.t 43)], (some (41, false))⟩,
       ⟨(some 45), (.bin .gtr), [(.t 44), (.c (.int .i64 64))], (some (41, false))⟩,
       ⟨(some 46), .pick, [(.t 41), (.c (.bool true)), (.t 45)], none⟩,
       ⟨(some 47), .mv, [(.t 46)], none⟩,
       ⟨(some 48), (.fad 10), [(.t 1)], (some (47, false))⟩,
       ⟨(some 49), (.ld false 1), [(.t 48)], (some (47, false))⟩,
       ⟨(some 50), .lens, [(.t 49)], (some (47, false))⟩,
       ⟨(some 51), (.bin .gtr), [(.t 50), (.c (.int .i64 4096))], (some (47, false))⟩,
       ⟨(some 52), .pick, [(.t 47), (.c (.bool true)), (.t 51)], none⟩,
       ⟨(some 36), .mv, [(.t 52)], none⟩] [])
     (.cond (.t 36)
      (.seq
      (.reg false [
        ⟨(some 2), .mv, [(.c (.int .i64 3))], none⟩] [])
      .ret)
      (.seq
      (.reg false [
        ⟨(some 54), (.fad 1), [(.t 1)], none⟩,
        ⟨(some 55), (.ld false 1), [(.t 54)], none⟩,
        ⟨(some 56), (.bin .eql), [(.t 55), (.c (.int .i64 0))], none⟩,
        ⟨(some 57), .mv, [(.t 56)], none⟩,
        ⟨(some 58), (.fad 2), [(.t 1)], (some (57, true))⟩,
        ⟨(some 59), (.ld false 1), [(.t 58)], (some (57, true))⟩,
        ⟨(some 60), (.bin .neq), [(.t 59), (.c (.string ⟨#[]⟩))], (some (57, true))⟩,
        ⟨(some 61), .pick, [(.t 57), (.t 60), (.c (.bool false))], none⟩,
        ⟨(some 62), .mv, [(.t 61)], none⟩,
        ⟨(some 63), (.fad 1), [(.t 1)], (some (62, false))⟩,
        ⟨(some 64), (.ld false 1), [(.t 63)], (some (62, false))⟩,
        ⟨(some 65), (.bin .gtr), [(.t 64), (.c (.int .i64 0))], (some (62, false))⟩,
        ⟨(some 66), .mv, [(.t 65)], (some (62, false))⟩,
        ⟨(some 67), (.fad 2), [(.t 1)], (some (66, true))⟩,
        ⟨(some 68), (.ld false 1), [(.t 67)], (some (66, true))⟩,
        ⟨(some 69), .lens, [(.t 68)], (some (66, true))⟩,
        ⟨(some 70), (.bin .neq), [(.t 69), (.c (.int .i64 32))], (some (66, true))⟩,
        ⟨(some 71), .pick, [(.t 66), (.t 70), (.c (.bool false))], (some (62, false))⟩,
        ⟨(some 72), .pick, [(.t 62), (.c (.bool true)), (.t 71)], none⟩,
        ⟨(some 73), .mv, [(.t 72)], none⟩,
        ⟨(some 74), (.fad 9), [(.t 1)], (some (73, false))⟩,
        ⟨(some 75), (.ld false 1), [(.t 74)], (some (73, false))⟩,
        ⟨(some 76), .call, [(.f nref03_PinsOK), (.t 75)], (some (73, false))⟩,
        ⟨(some 77), (.un .not), [(.t 76)], (some (73, false))⟩,
        ⟨(some 78), .pick, [(.t 73), (.c (.bool true)), (.t 77)], none⟩,
        ⟨(some 53), .mv, [(.t 78)], none⟩] [])
      (.cond (.t 53)
       (.seq
       (.reg false [
         ⟨(some 2), .mv, [(.c (.int .i64 1))], none⟩] [])
       .ret)
       (.seq
       (.reg false [
         ⟨(some 80), (.fad 4), [(.t 1)], none⟩,
         ⟨(some 81), (.ld false 1), [(.t 80)], none⟩,
         ⟨(some 82), (.bin .leq), [(.t 81), (.c (.int .i64 3))], none⟩,
         ⟨(some 83), .mv, [(.t 82)], none⟩,
         ⟨(some 84), (.fad 8), [(.t 1)], (some (83, true))⟩,
         ⟨(some 85), (.ld false 1), [(.t 84)], (some (83, true))⟩,
         ⟨(some 86), .len, [(.t 85)], (some (83, true))⟩,
         ⟨(some 87), (.bin .gtr), [(.t 86), (.c (.int .i64 0))], (some (83, true))⟩,
         ⟨(some 88), .mv, [(.t 87)], (some (83, true))⟩,
         ⟨(some 89), (.fad 9), [(.t 1)], (some (88, false))⟩,
         ⟨(some 90), (.ld false 1), [(.t 89)], (some (88, false))⟩,
         ⟨(some 91), .len, [(.t 90)], (some (88, false))⟩,
         ⟨(some 92), (.bin .gtr), [(.t 91), (.c (.int .i64 0))], (some (88, false))⟩,
         ⟨(some 93), .pick, [(.t 88), (.c (.bool true)), (.t 92)], (some (83, true))⟩,
         ⟨(some 94), .mv, [(.t 93)], (some (83, true))⟩,
         ⟨(some 95), (.fad 10), [(.t 1)], (some (94, false))⟩,
         ⟨(some 96), (.ld false 1), [(.t 95)], (some (94, false))⟩,
         ⟨(some 97), (.bin .neq), [(.t 96), (.c (.string ⟨#[]⟩))], (some (94, false))⟩,
         ⟨(some 98), .pick, [(.t 94), (.c (.bool true)), (.t 97)], (some (83, true))⟩,
         ⟨(some 99), .pick, [(.t 83), (.t 98), (.c (.bool false))], none⟩,
         ⟨(some 79), .mv, [(.t 99)], none⟩] [])
       (.cond (.t 79)
        (.seq
        (.reg false [
          ⟨(some 2), .mv, [(.c (.int .i64 1))], none⟩] [])
        .ret)
        .skip)))))))))))))))
 (.seq
 (.reg false [
   ⟨(some 2), .mv, [(.c (.int .i64 0))], none⟩] [])
 .ret)))⟩

def cvouch_holds : AFun := ⟨42, [(6, none)],
 (.seq
 (.reg false [
   ⟨(some 3), (.box 7), [(.t 0)], none⟩,
   ⟨(some 6), .mv, [(.c (.bool false))], none⟩] [])
 (.seq
 (.reg false [
   ⟨(some 7), (.fad 4), [(.t 3)], none⟩,
   ⟨(some 8), (.ld false 1), [(.t 7)], none⟩,
   ⟨(some 9), .mv, [(.t 2)], none⟩,
   ⟨(some 10), (.bin .leq), [(.t 8), (.t 9)], none⟩,
   ⟨(some 11), .mv, [(.t 10)], none⟩,
   ⟨(some 12), .mv, [(.t 2)], (some (11, true))⟩,
   ⟨(some 13), (.fad 5), [(.t 3)], (some (11, true))⟩,
   ⟨(some 14), (.ld false 1), [(.t 13)], (some (11, true))⟩,
   ⟨(some 15), (.bin .lss), [(.t 12), (.t 14)], (some (11, true))⟩,
   ⟨(some 16), .pick, [(.t 11), (.t 15), (.c (.bool false))], none⟩,
   ⟨(some 17), .mv, [(.t 16)], none⟩,
   ⟨(some 18), (.fad 6), [(.t 3)], (some (17, true))⟩,
   ⟨(some 19), (.ld false 1), [(.t 18)], (some (17, true))⟩,
   ⟨(some 20), (.bin .lss), [(.t 19), (.c (.int .i64 0))], (some (17, true))⟩,
   ⟨(some 21), .mv, [(.t 20)], (some (17, true))⟩,
   ⟨(some 22), (.fad 6), [(.t 3)], (some (21, false))⟩,
   ⟨(some 23), (.ld false 1), [(.t 22)], (some (21, false))⟩,
   ⟨(some 24), .mv, [(.t 2)], (some (21, false))⟩,
   ⟨(some 25), (.bin .gtr), [(.t 23), (.t 24)], (some (21, false))⟩,
   ⟨(some 26), .pick, [(.t 21), (.c (.bool true)), (.t 25)], (some (17, true))⟩,
   ⟨(some 27), .pick, [(.t 17), (.t 26), (.c (.bool false))], none⟩,
   ⟨(some 28), .mv, [(.t 27)], none⟩,
   ⟨(some 29), .mv, [(.t 1)], (some (28, true))⟩,
   ⟨(some 30), (.fad 0), [(.t 3)], (some (28, true))⟩,
   ⟨(some 31), (.ld false 1), [(.t 30)], (some (28, true))⟩,
   ⟨(some 32), .call, [(.f nslices_Contains_Lint_int), (.t 29), (.t 31)], (some (28, true))⟩,
   ⟨(some 33), (.un .not), [(.t 32)], (some (28, true))⟩,
   ⟨(some 34), .pick, [(.t 28), (.t 33), (.c (.bool false))], none⟩,
   ⟨(some 35), .mv, [(.t 34)], none⟩,
   ⟨(some 36), .mv, [(.t 1)], (some (35, true))⟩,
   ⟨(some 37), (.fad 1), [(.t 3)], (some (35, true))⟩,
   ⟨(some 38), (.ld false 1), [(.t 37)], (some (35, true))⟩,
   ⟨(some 39), .call, [(.f nslices_Contains_Lint_int), (.t 36), (.t 38)], (some (35, true))⟩,
   ⟨(some 40), (.un .not), [(.t 39)], (some (35, true))⟩,
   ⟨(some 41), .pick, [(.t 35), (.t 40), (.c (.bool false))], none⟩,
   ⟨(some 6), .mv, [(.t 41)], none⟩] [])
 .ret))⟩

def cslices_Compact_Lint_int : AFun := ⟨61, [(2, none)],
 (.seq
 (.reg false [
   ⟨(some 2), .mv, [(.c (.slice none 0 0))], none⟩] [])
 (.seq
 (.seq
 (.reg false [
   ⟨(some 6), .mv, [(.t 0)], none⟩,
   ⟨(some 7), .len, [(.t 6)], none⟩,
   ⟨(some 8), (.bin .lss), [(.t 7), (.c (.int .i64 2))], none⟩] [])
 (.cond (.t 8)
  (.seq
  (.reg false [
    ⟨(some 9), .mv, [(.t 0)], none⟩,
    ⟨(some 2), .mv, [(.t 9)], none⟩] [])
  .ret)
  .skip))
 (.seq
 (.seq
 (.reg false [
   ⟨(some 3), .mv, [(.c (.int .i64 1))], none⟩] [])
 (.block 0
 (.loop
 (.seq
 (.seq
 (.reg false [
   ⟨(some 10), .mv, [(.t 3)], none⟩,
   ⟨(some 11), .mv, [(.t 0)], none⟩,
   ⟨(some 12), .len, [(.t 11)], none⟩,
   ⟨(some 13), (.bin .lss), [(.t 10), (.t 12)], none⟩] [])
 (.cond (.t 13)
  .skip
  (.exit 0)))
 (.seq
 (.block 1
 (.seq
 (.reg true [
   ⟨(some 16), .mv, [(.t 0)], none⟩,
   ⟨(some 17), .mv, [(.t 3)], none⟩,
   ⟨(some 18), (.iad 1), [(.t 16), (.t 17)], none⟩,
   ⟨(some 19), (.ld false 1), [(.t 18)], none⟩,
   ⟨(some 20), .mv, [(.t 0)], none⟩,
   ⟨(some 21), .mv, [(.t 3)], none⟩,
   ⟨(some 22), (.bin .sub), [(.t 21), (.c (.int .i64 1))], none⟩,
   ⟨(some 23), (.iad 1), [(.t 20), (.t 22)], none⟩,
   ⟨(some 24), (.ld false 1), [(.t 23)], none⟩,
   ⟨(some 25), (.bin .eql), [(.t 19), (.t 24)], none⟩] [[], [], [0, 1], [2], [], [], [5], [4, 6], [7], [3, 8]])
 (.cond (.t 25)
  (.seq
  (.reg false [
    ⟨(some 26), .mv, [(.t 0)], none⟩,
    ⟨(some 27), .mv, [(.t 3)], none⟩,
    ⟨(some 28), (.slc 1 true false false), [(.t 26), (.t 27)], none⟩,
    ⟨(some 4), .mv, [(.t 28)], none⟩] [])
  (.seq
  (.seq
  (.reg false [
    ⟨(some 5), .mv, [(.c (.int .i64 1))], none⟩] [])
  (.block 2
  (.loop
  (.seq
  (.seq
  (.reg false [
    ⟨(some 29), .mv, [(.t 5)], none⟩,
    ⟨(some 30), .mv, [(.t 4)], none⟩,
    ⟨(some 31), .len, [(.t 30)], none⟩,
    ⟨(some 32), (.bin .lss), [(.t 29), (.t 31)], none⟩] [])
  (.cond (.t 32)
   .skip
   (.exit 2)))
  (.seq
  (.block 3
  (.seq
  (.reg true [
    ⟨(some 35), .mv, [(.t 4)], none⟩,
    ⟨(some 36), .mv, [(.t 5)], none⟩,
    ⟨(some 37), (.iad 1), [(.t 35), (.t 36)], none⟩,
    ⟨(some 38), (.ld false 1), [(.t 37)], none⟩,
    ⟨(some 39), .mv, [(.t 4)], none⟩,
    ⟨(some 40), .mv, [(.t 5)], none⟩,
    ⟨(some 41), (.bin .sub), [(.t 40), (.c (.int .i64 1))], none⟩,
    ⟨(some 42), (.iad 1), [(.t 39), (.t 41)], none⟩,
    ⟨(some 43), (.ld false 1), [(.t 42)], none⟩,
    ⟨(some 44), (.bin .neq), [(.t 38), (.t 43)], none⟩] [[], [], [0, 1], [2], [], [], [5], [4, 6], [7], [3, 8]])
  (.cond (.t 44)
   (.seq
   (.reg false [
     ⟨(some 45), .mv, [(.t 0)], none⟩,
     ⟨(some 46), .mv, [(.t 3)], none⟩,
     ⟨(some 47), .mv, [(.t 4)], none⟩,
     ⟨(some 48), .mv, [(.t 5)], none⟩,
     ⟨(some 49), (.iad 1), [(.t 47), (.t 48)], none⟩,
     ⟨(some 50), (.ld false 1), [(.t 49)], none⟩,
     ⟨(some 51), (.iad 1), [(.t 45), (.t 46)], none⟩,
     ⟨none, (.st 1), [(.t 51), (.t 50)], none⟩] [])
   (.reg false [
     ⟨(some 52), .mv, [(.t 3)], none⟩,
     ⟨(some 53), (.bin .add), [(.t 52), (.c (.int .i64 1))], none⟩,
     ⟨(some 3), .mv, [(.t 53)], none⟩] []))
   .skip)))
  (.reg false [
    ⟨(some 33), .mv, [(.t 5)], none⟩,
    ⟨(some 34), (.bin .add), [(.t 33), (.c (.int .i64 1))], none⟩,
    ⟨(some 5), .mv, [(.t 34)], none⟩] []))))))
  (.seq
  (.reg false [
    ⟨(some 54), .mv, [(.t 0)], none⟩,
    ⟨(some 55), .mv, [(.t 3)], none⟩,
    ⟨(some 56), (.slc 1 true false false), [(.t 54), (.t 55)], none⟩,
    ⟨none, (.clr 1 [(.int .i64 0)]), [(.t 56)], none⟩] [])
  (.seq
  (.reg false [
    ⟨(some 57), .mv, [(.t 0)], none⟩,
    ⟨(some 58), .mv, [(.t 3)], none⟩,
    ⟨(some 59), (.slc 1 false true false), [(.t 57), (.t 58)], none⟩,
    ⟨(some 2), .mv, [(.t 59)], none⟩] [])
  .ret))))
  .skip)))
 (.reg false [
   ⟨(some 14), .mv, [(.t 3)], none⟩,
   ⟨(some 15), (.bin .add), [(.t 14), (.c (.int .i64 1))], none⟩,
   ⟨(some 3), .mv, [(.t 15)], none⟩] []))))))
 (.seq
 (.reg false [
   ⟨(some 60), .mv, [(.t 0)], none⟩,
   ⟨(some 2), .mv, [(.t 60)], none⟩] [])
 .ret))))⟩

def cvouch_revoked : AFun := ⟨55, [(4, none)],
 (.seq
 (.reg false [
   ⟨(some 3), (.box 13), [(.t 1)], none⟩,
   ⟨(some 4), .mv, [(.c (.int .i64 0))], none⟩] [])
 (.seq
 (.reg false [
   ⟨(some 5), .mv, [(.c (.int .i64 (-1)))], none⟩,
   ⟨(some 6), .mv, [(.c (.int .i64 (-1)))], none⟩] [])
 (.seq
 (.seq
 (.reg false [
   ⟨(some 9), .mv, [(.t 0)], none⟩,
   ⟨(some 10), .len, [(.t 9)], none⟩,
   ⟨(some 11), .mv, [(.c (.int .i64 0))], none⟩] [])
 (.block 0
 (.loop
 (.seq
 (.reg false [
   ⟨(some 12), (.bin .lss), [(.t 11), (.t 10)], none⟩] [])
 (.seq
 (.cond (.t 12)
  .skip
  (.exit 0))
 (.seq
 (.block 1
 (.seq
 (.reg false [
   ⟨(some 13), (.iad 13), [(.t 9), (.t 11)], none⟩,
   ⟨(some 14), (.ld true 13), [(.t 13)], none⟩,
   ⟨(some 8), (.alloc [(.int .i64 0), (.int .i64 0), (.string ⟨#[]⟩), (.int .i64 0), (.int .i64 0), (.int .i64 0), (.int .i64 0), (.int .i64 0), (.slice none 0 0), (.slice none 0 0), (.string ⟨#[]⟩), (.int .i64 0), (.string ⟨#[]⟩)]), [], none⟩,
   ⟨none, (.st 13), [(.t 8), (.t 14)], none⟩] [])
 (.seq
 (.reg false [
   ⟨(some 15), (.fad 0), [(.t 8)], none⟩,
   ⟨(some 16), (.ld false 1), [(.t 15)], none⟩,
   ⟨(some 17), (.fad 0), [(.t 3)], none⟩,
   ⟨(some 18), (.ld false 1), [(.t 17)], none⟩,
   ⟨(some 19), (.bin .eql), [(.t 16), (.t 18)], none⟩,
   ⟨(some 20), .mv, [(.t 19)], none⟩,
   ⟨(some 21), (.fad 4), [(.t 8)], (some (20, true))⟩,
   ⟨(some 22), (.ld false 1), [(.t 21)], (some (20, true))⟩,
   ⟨(some 23), (.bin .eql), [(.t 22), (.c (.int .i64 2))], (some (20, true))⟩,
   ⟨(some 24), .pick, [(.t 20), (.t 23), (.c (.bool false))], none⟩,
   ⟨(some 25), .mv, [(.t 24)], none⟩,
   ⟨(some 26), (.fad 5), [(.t 8)], (some (25, true))⟩,
   ⟨(some 27), (.ld false 1), [(.t 26)], (some (25, true))⟩,
   ⟨(some 28), (.fad 1), [(.t 3)], (some (25, true))⟩,
   ⟨(some 29), (.ld false 1), [(.t 28)], (some (25, true))⟩,
   ⟨(some 30), (.bin .eql), [(.t 27), (.t 29)], (some (25, true))⟩,
   ⟨(some 31), .pick, [(.t 25), (.t 30), (.c (.bool false))], none⟩,
   ⟨(some 32), .mv, [(.t 31)], none⟩,
   ⟨(some 33), (.fad 1), [(.t 8)], (some (32, true))⟩,
   ⟨(some 34), (.ld false 1), [(.t 33)], (some (32, true))⟩,
   ⟨(some 35), (.fad 1), [(.t 3)], (some (32, true))⟩,
   ⟨(some 36), (.ld false 1), [(.t 35)], (some (32, true))⟩,
   ⟨(some 37), (.bin .gtr), [(.t 34), (.t 36)], (some (32, true))⟩,
   ⟨(some 38), .pick, [(.t 32), (.t 37), (.c (.bool false))], none⟩,
   ⟨(some 39), .mv, [(.t 38)], none⟩,
   ⟨(some 40), .mv, [(.t 6)], (some (39, true))⟩,
   ⟨(some 41), (.bin .lss), [(.t 40), (.c (.int .i64 0))], (some (39, true))⟩,
   ⟨(some 42), .mv, [(.t 41)], (some (39, true))⟩,
   ⟨(some 43), (.fad 1), [(.t 8)], (some (42, false))⟩,
   ⟨(some 44), (.ld false 1), [(.t 43)], (some (42, false))⟩,
   ⟨(some 45), .mv, [(.t 6)], (some (42, false))⟩,
   ⟨(some 46), (.bin .lss), [(.t 44), (.t 45)], (some (42, false))⟩,
   ⟨(some 47), .pick, [(.t 42), (.c (.bool true)), (.t 46)], (some (39, true))⟩,
   ⟨(some 48), .pick, [(.t 39), (.t 47), (.c (.bool false))], none⟩] [])
 (.cond (.t 48)
  (.reg true [
    ⟨(some 49), (.fad 3), [(.t 8)], none⟩,
    ⟨(some 50), (.ld false 1), [(.t 49)], none⟩,
    ⟨(some 51), (.fad 1), [(.t 8)], none⟩,
    ⟨(some 52), (.ld false 1), [(.t 51)], none⟩,
    ⟨(some 5), .mv, [(.t 50)], none⟩,
    ⟨(some 6), .mv, [(.t 52)], none⟩] [[], [0], [], [2], [1, 0, 1], [3, 4, 0, 1, 2, 3, 4]])
  .skip))))
 (.reg false [
   ⟨(some 53), (.bin .add), [(.t 11), (.c (.int .i64 1))], none⟩,
   ⟨(some 11), .mv, [(.t 53)], none⟩] [])))))))
 (.seq
 (.reg false [
   ⟨(some 54), .mv, [(.t 5)], none⟩,
   ⟨(some 4), .mv, [(.t 54)], none⟩] [])
 .ret))))⟩

def cslices_SortStableFunc_Lapi_Vouch_api_Vouch : AFun := ⟨9, [],
 (.reg false [
   ⟨(some 4), .mv, [(.t 0)], none⟩,
   ⟨(some 5), .mv, [(.t 0)], none⟩,
   ⟨(some 6), .len, [(.t 5)], none⟩,
   ⟨(some 7), .mv, [(.t 1)], none⟩,
   ⟨(some 8), .call, [(.f nslices_stableCmpFunc_api_Vouch), (.t 4), (.t 6), (.t 7)], none⟩] [])⟩

def cvouch_Of_c1 : AFun := ⟨22, [(4, none)],
 (.seq
 (.reg false [
   ⟨(some 2), (.box 7), [(.t 0)], none⟩,
   ⟨(some 3), (.box 7), [(.t 1)], none⟩,
   ⟨(some 4), .mv, [(.c (.int .i64 0))], none⟩] [])
 (.seq
 (.reg true [
   ⟨(some 5), (.fad 0), [(.t 2)], none⟩,
   ⟨(some 6), (.ld false 1), [(.t 5)], none⟩,
   ⟨(some 7), (.fad 0), [(.t 3)], none⟩,
   ⟨(some 8), (.ld false 1), [(.t 7)], none⟩,
   ⟨(some 9), .call, [(.f ncmp_Compare_int), (.t 6), (.t 8)], none⟩,
   ⟨(some 10), (.fad 1), [(.t 2)], none⟩,
   ⟨(some 11), (.ld false 1), [(.t 10)], none⟩,
   ⟨(some 12), (.fad 1), [(.t 3)], none⟩,
   ⟨(some 13), (.ld false 1), [(.t 12)], none⟩,
   ⟨(some 14), .call, [(.f ncmp_Compare_int), (.t 11), (.t 13)], none⟩,
   ⟨(some 15), (.fad 3), [(.t 2)], none⟩,
   ⟨(some 16), (.ld false 1), [(.t 15)], none⟩,
   ⟨(some 17), (.fad 3), [(.t 3)], none⟩,
   ⟨(some 18), (.ld false 1), [(.t 17)], none⟩,
   ⟨(some 19), .call, [(.f ncmp_Compare_int), (.t 16), (.t 18)], none⟩,
   ⟨(some 20), (.bsl 1 3 [(.int .i64 0)] [0, 1, 2]), [(.t 9), (.t 14), (.t 19)], none⟩,
   ⟨(some 21), .call, [(.f ncmp_Or_int), (.t 20)], none⟩,
   ⟨(some 4), .mv, [(.t 21)], none⟩] [[], [0], [], [2], [1, 3], [], [5], [], [7], [6, 8, 4], [], [10], [], [12], [11, 13, 9], [4, 9, 14], [15, 14], [16, 16, 0, 1, 2, 3, 4, 5, 6, 7, 8, 9, 10, 11, 12, 13, 14, 15, 16]])
 .ret))⟩

def cref04_Own : AFun := ⟨96, [(4, none)],
 (.seq
 (.reg false [
   ⟨(some 4), .mv, [(.c (.slice none 0 0))], none⟩] [])
 (.seq
 (.reg false [
   ⟨(some 5), .mv, [(.c (.slice none 0 0))], none⟩] [])
 (.seq
 (.seq
 (.reg false [
   ⟨(some 6), .mv, [(.c (.int .i64 0))], none⟩] [])
 (.block 0
 (.loop
 (.seq
 (.seq
 (.reg false [
   ⟨(some 9), .mv, [(.t 6)], none⟩,
   ⟨(some 10), .mv, [(.t 1)], none⟩,
   ⟨(some 11), .len, [(.t 10)], none⟩,
   ⟨(some 12), (.bin .lss), [(.t 9), (.t 11)], none⟩] [])
 (.cond (.t 12)
  .skip
  (.exit 0)))
 (.seq
 (.block 1
 (.seq
 (.reg false [
   ⟨(some 15), .mv, [(.t 1)], none⟩,
   ⟨(some 16), .mv, [(.t 6)], none⟩,
   ⟨(some 17), (.iad 13), [(.t 15), (.t 16)], none⟩,
   ⟨(some 18), (.ld true 13), [(.t 17)], none⟩,
   ⟨(some 7), (.alloc [(.int .i64 0), (.int .i64 0), (.string ⟨#[]⟩), (.int .i64 0), (.int .i64 0), (.int .i64 0), (.int .i64 0), (.int .i64 0), (.slice none 0 0), (.slice none 0 0), (.string ⟨#[]⟩), (.int .i64 0), (.string ⟨#[]⟩)]), [], none⟩,
   ⟨none, (.st 13), [(.t 7), (.t 18)], none⟩] [])
 (.seq
 (.seq
 (.reg false [
   ⟨(some 19), (.fad 0), [(.t 7)], none⟩,
   ⟨(some 20), (.ld false 1), [(.t 19)], none⟩,
   ⟨(some 21), .mv, [(.t 0)], none⟩,
   ⟨(some 22), (.bin .neq), [(.t 20), (.t 21)], none⟩,
   ⟨(some 23), .mv, [(.t 22)], none⟩,
   ⟨(some 24), (.ld true 13), [(.t 7)], (some (23, false))⟩,
   ⟨(some 25), .call, [(.f nref03_Check), (.t 24)], (some (23, false))⟩,
   ⟨(some 26), (.bin .neq), [(.t 25), (.c (.int .i64 0))], (some (23, false))⟩,
   ⟨(some 27), .pick, [(.t 23), (.c (.bool true)), (.t 26)], none⟩,
   ⟨(some 28), .mv, [(.t 27)], none⟩,
   ⟨(some 29), (.ld true 13), [(.t 7)], (some (28, false))⟩,
   ⟨(some 30), .call, [(.f nref03_Sealed), (.t 29)], (some (28, false))⟩,
   ⟨(some 31), (.un .not), [(.t 30)], (some (28, false))⟩,
   ⟨(some 32), .pick, [(.t 28), (.c (.bool true)), (.t 31)], none⟩] [])
 (.cond (.t 32)
  (.exit 1)
  .skip))
 (.seq
 (.reg false [
   ⟨(some 8), .mv, [(.c (.int .i64 0))], none⟩] [])
 (.seq
 (.block 2
 (.loop
 (.seq
 (.seq
 (.reg true [
   ⟨(some 33), .mv, [(.t 8)], none⟩,
   ⟨(some 34), .mv, [(.t 5)], none⟩,
   ⟨(some 35), .len, [(.t 34)], none⟩,
   ⟨(some 36), (.bin .lss), [(.t 33), (.t 35)], none⟩,
   ⟨(some 37), .mv, [(.t 36)], none⟩,
   ⟨(some 38), .mv, [(.t 5)], (some (37, true))⟩,
   ⟨(some 39), .mv, [(.t 8)], (some (37, true))⟩,
   ⟨(some 40), (.iad 13), [(.t 38), (.t 39)], (some (37, true))⟩,
   ⟨(some 41), (.fad 1), [(.t 40)], (some (37, true))⟩,
   ⟨(some 42), (.ld false 1), [(.t 41)], (some (37, true))⟩,
   ⟨(some 43), (.fad 1), [(.t 7)], (some (37, true))⟩,
   ⟨(some 44), (.ld false 1), [(.t 43)], (some (37, true))⟩,
   ⟨(some 45), (.bin .lss), [(.t 42), (.t 44)], (some (37, true))⟩,
   ⟨(some 46), .mv, [(.t 45)], (some (37, true))⟩,
   ⟨(some 47), .mv, [(.t 5)], (some (46, false))⟩,
   ⟨(some 48), .mv, [(.t 8)], (some (46, false))⟩,
   ⟨(some 49), (.iad 13), [(.t 47), (.t 48)], (some (46, false))⟩,
   ⟨(some 50), (.fad 1), [(.t 49)], (some (46, false))⟩,
   ⟨(some 51), (.ld false 1), [(.t 50)], (some (46, false))⟩,
   ⟨(some 52), (.fad 1), [(.t 7)], (some (46, false))⟩,
   ⟨(some 53), (.ld false 1), [(.t 52)], (some (46, false))⟩,
   ⟨(some 54), (.bin .eql), [(.t 51), (.t 53)], (some (46, false))⟩,
   ⟨(some 55), .mv, [(.t 54)], (some (46, false))⟩,
   ⟨(some 56), .mv, [(.t 5)], (some (55, true))⟩,
   ⟨(some 57), .mv, [(.t 8)], (some (55, true))⟩,
   ⟨(some 58), (.iad 13), [(.t 56), (.t 57)], (some (55, true))⟩,
   ⟨(some 59), (.fad 11), [(.t 58)], (some (55, true))⟩,
   ⟨(some 60), (.fad 1), [(.t 59)], (some (55, true))⟩,
   ⟨(some 61), (.ld false 1), [(.t 60)], (some (55, true))⟩,
   ⟨(some 62), (.fad 11), [(.t 7)], (some (55, true))⟩,
   ⟨(some 63), (.fad 1), [(.t 62)], (some (55, true))⟩,
   ⟨(some 64), (.ld false 1), [(.t 63)], (some (55, true))⟩,
   ⟨(some 65), (.bin .lss), [(.t 61), (.t 64)], (some (55, true))⟩,
   ⟨(some 66), .pick, [(.t 55), (.t 65), (.c (.bool false))], (some (46, false))⟩,
   ⟨(some 67), .pick, [(.t 46), (.c (.bool true)), (.t 66)], (some (37, true))⟩,
   ⟨(some 68), .pick, [(.t 37), (.t 67), (.c (.bool false))], none⟩] [[], [], [1], [0, 2], [3], [4], [4], [5, 6, 4], [7, 4], [8, 4], [4], [10, 4], [9, 11, 4], [12, 4, 4], [13], [13], [14, 15, 13], [16, 13], [17, 13], [13], [19, 13], [18, 20, 13], [21, 13, 13], [22], [22], [23, 24, 22], [25, 22], [26, 22], [27, 22], [22], [29, 22], [30, 22], [28, 31, 22], [22, 32, 13], [13, 33, 4], [4, 34]])
 (.cond (.t 68)
  .skip
  (.exit 2)))
 (.block 3
 (.reg false [
   ⟨(some 69), .mv, [(.t 8)], none⟩,
   ⟨(some 70), (.bin .add), [(.t 69), (.c (.int .i64 1))], none⟩,
   ⟨(some 8), .mv, [(.t 70)], none⟩] [])))))
 (.seq
 (.seq
 (.reg true [
   ⟨(some 71), .mv, [(.t 8)], none⟩,
   ⟨(some 72), .mv, [(.t 5)], none⟩,
   ⟨(some 73), .len, [(.t 72)], none⟩,
   ⟨(some 74), (.bin .lss), [(.t 71), (.t 73)], none⟩,
   ⟨(some 75), .mv, [(.t 74)], none⟩,
   ⟨(some 76), .mv, [(.t 5)], (some (75, true))⟩,
   ⟨(some 77), .mv, [(.t 8)], (some (75, true))⟩,
   ⟨(some 78), (.iad 13), [(.t 76), (.t 77)], (some (75, true))⟩,
   ⟨(some 79), (.ld true 13), [(.t 78)], (some (75, true))⟩,
   ⟨(some 80), (.ld true 13), [(.t 7)], (some (75, true))⟩,
   ⟨(some 81), .call, [(.f nref03_Same), (.t 79), (.t 80)], (some (75, true))⟩,
   ⟨(some 82), .pick, [(.t 75), (.t 81), (.c (.bool false))], none⟩] [[], [], [1], [0, 2], [3], [4], [4], [5, 6, 4], [7, 4], [4], [8, 9, 4, 4], [4, 10]])
 (.cond (.t 82)
  (.exit 1)
  .skip))
 (.reg true [
   ⟨(some 83), .mv, [(.t 5)], none⟩,
   ⟨(some 84), .mv, [(.t 8)], none⟩,
   ⟨(some 85), (.slc 13 false true false), [(.t 83), (.t 84)], none⟩,
   ⟨(some 86), (.app 13 160), [(.c (.slice none 0 0)), (.t 85)], none⟩,
   ⟨(some 87), (.ld true 13), [(.t 7)], none⟩,
   ⟨(some 88), .call, [(.f nref03_Copy), (.t 87)], none⟩,
   ⟨(some 89), (.bsl 13 1 [(.int .i64 0), (.int .i64 0), (.string ⟨#[]⟩), (.int .i64 0), (.int .i64 0), (.int .i64 0), (.int .i64 0), (.int .i64 0), (.slice none 0 0), (.slice none 0 0), (.string ⟨#[]⟩), (.int .i64 0), (.string ⟨#[]⟩)] [0]), [(.t 88)], none⟩,
   ⟨(some 90), (.app 13 160), [(.t 86), (.t 89)], none⟩,
   ⟨(some 91), .mv, [(.t 5)], none⟩,
   ⟨(some 92), .mv, [(.t 8)], none⟩,
   ⟨(some 93), (.slc 13 true false false), [(.t 91), (.t 92)], none⟩,
   ⟨(some 94), (.app 13 160), [(.t 90), (.t 93)], none⟩,
   ⟨(some 5), .mv, [(.t 94)], none⟩] [[], [], [0, 1], [2], [], [4, 3], [5], [3, 6, 5], [], [], [8, 9], [7, 10, 7], [11, 11, 0, 1, 2, 3, 4, 5, 6, 7, 8, 9, 10, 11]])))))))
 (.reg false [
   ⟨(some 13), .mv, [(.t 6)], none⟩,
   ⟨(some 14), (.bin .add), [(.t 13), (.c (.int .i64 1))], none⟩,
   ⟨(some 6), .mv, [(.t 14)], none⟩] []))))))
 (.seq
 (.reg false [
   ⟨(some 95), .mv, [(.t 5)], none⟩,
   ⟨(some 4), .mv, [(.t 95)], none⟩] [])
 .ret))))⟩

def cref04_Follows : AFun := ⟨39, [(4, none)],
 (.seq
 (.reg false [
   ⟨(some 2), (.box 13), [(.t 0)], none⟩,
   ⟨(some 3), (.box 13), [(.t 1)], none⟩,
   ⟨(some 4), .mv, [(.c (.bool false))], none⟩] [])
 (.seq
 (.reg true [
   ⟨(some 5), (.fad 0), [(.t 3)], none⟩,
   ⟨(some 6), (.ld false 1), [(.t 5)], none⟩,
   ⟨(some 7), (.fad 0), [(.t 2)], none⟩,
   ⟨(some 8), (.ld false 1), [(.t 7)], none⟩,
   ⟨(some 9), (.bin .eql), [(.t 6), (.t 8)], none⟩,
   ⟨(some 10), .mv, [(.t 9)], none⟩,
   ⟨(some 11), (.fad 1), [(.t 3)], (some (10, true))⟩,
   ⟨(some 12), (.ld false 1), [(.t 11)], (some (10, true))⟩,
   ⟨(some 13), (.fad 1), [(.t 2)], (some (10, true))⟩,
   ⟨(some 14), (.ld false 1), [(.t 13)], (some (10, true))⟩,
   ⟨(some 15), (.bin .gtr), [(.t 12), (.t 14)], (some (10, true))⟩,
   ⟨(some 16), .pick, [(.t 10), (.t 15), (.c (.bool false))], none⟩,
   ⟨(some 17), .mv, [(.t 16)], none⟩,
   ⟨(some 18), (.fad 1), [(.t 3)], (some (17, true))⟩,
   ⟨(some 19), (.ld false 1), [(.t 18)], (some (17, true))⟩,
   ⟨(some 20), (.fad 1), [(.t 2)], (some (17, true))⟩,
   ⟨(some 21), (.ld false 1), [(.t 20)], (some (17, true))⟩,
   ⟨(some 22), (.bin .add), [(.t 21), (.c (.int .i64 1))], (some (17, true))⟩,
   ⟨(some 23), (.bin .eql), [(.t 19), (.t 22)], (some (17, true))⟩,
   ⟨(some 24), .pick, [(.t 17), (.t 23), (.c (.bool false))], none⟩,
   ⟨(some 25), .mv, [(.t 24)], none⟩,
   ⟨(some 26), (.fad 2), [(.t 3)], (some (25, true))⟩,
   ⟨(some 27), (.ld false 1), [(.t 26)], (some (25, true))⟩,
   ⟨(some 28), (.ld true 13), [(.t 2)], (some (25, true))⟩,
   ⟨(some 29), .call, [(.f nref03_Digest), (.t 28)], (some (25, true))⟩,
   ⟨(some 30), (.bin .eql), [(.t 27), (.t 29)], (some (25, true))⟩,
   ⟨(some 31), .pick, [(.t 25), (.t 30), (.c (.bool false))], none⟩,
   ⟨(some 32), .mv, [(.t 31)], none⟩,
   ⟨(some 33), (.fad 3), [(.t 3)], (some (32, true))⟩,
   ⟨(some 34), (.ld false 1), [(.t 33)], (some (32, true))⟩,
   ⟨(some 35), (.fad 3), [(.t 2)], (some (32, true))⟩,
   ⟨(some 36), (.ld false 1), [(.t 35)], (some (32, true))⟩,
   ⟨(some 37), (.bin .geq), [(.t 34), (.t 36)], (some (32, true))⟩,
   ⟨(some 38), .pick, [(.t 32), (.t 37), (.c (.bool false))], none⟩,
   ⟨(some 4), .mv, [(.t 38)], none⟩] [[], [0], [], [2], [1, 3], [4], [5], [6, 5], [5], [8, 5], [7, 9, 5], [5, 10], [11, 5], [12], [13, 12], [12], [15, 12], [16, 12], [14, 17, 12], [12, 18], [19, 12], [20], [21, 20], [20], [23, 20, 20], [22, 24, 20], [20, 25], [26, 24], [27], [28, 27], [27], [30, 27], [29, 31, 27], [27, 32], [33, 27, 0, 1, 2, 3, 4, 5, 6, 7, 8, 9, 10, 11, 12, 13, 14, 15, 16, 17, 18, 19, 20, 21, 22, 23, 24, 25, 26, 27, 28, 29, 30, 31, 32, 33]])
 .ret))⟩

def cref10_revoked : AFun := ⟨43, [(4, none)],
 (.seq
 (.reg false [
   ⟨(some 3), (.box 13), [(.t 1)], none⟩,
   ⟨(some 4), .mv, [(.c (.int .i64 0))], none⟩] [])
 (.seq
 (.seq
 (.reg false [
   ⟨(some 5), .mv, [(.c (.int .i64 0))], none⟩] [])
 (.block 0
 (.loop
 (.seq
 (.seq
 (.reg false [
   ⟨(some 7), .mv, [(.t 5)], none⟩,
   ⟨(some 8), .mv, [(.t 0)], none⟩,
   ⟨(some 9), .len, [(.t 8)], none⟩,
   ⟨(some 10), (.bin .lss), [(.t 7), (.t 9)], none⟩] [])
 (.cond (.t 10)
  .skip
  (.exit 0)))
 (.seq
 (.block 1
 (.seq
 (.reg false [
   ⟨(some 13), .mv, [(.t 0)], none⟩,
   ⟨(some 14), .mv, [(.t 5)], none⟩,
   ⟨(some 15), (.iad 13), [(.t 13), (.t 14)], none⟩,
   ⟨(some 16), (.ld true 13), [(.t 15)], none⟩,
   ⟨(some 6), (.alloc [(.int .i64 0), (.int .i64 0), (.string ⟨#[]⟩), (.int .i64 0), (.int .i64 0), (.int .i64 0), (.int .i64 0), (.int .i64 0), (.slice none 0 0), (.slice none 0 0), (.string ⟨#[]⟩), (.int .i64 0), (.string ⟨#[]⟩)]), [], none⟩,
   ⟨none, (.st 13), [(.t 6), (.t 16)], none⟩] [])
 (.seq
 (.reg false [
   ⟨(some 17), (.fad 0), [(.t 6)], none⟩,
   ⟨(some 18), (.ld false 1), [(.t 17)], none⟩,
   ⟨(some 19), (.fad 0), [(.t 3)], none⟩,
   ⟨(some 20), (.ld false 1), [(.t 19)], none⟩,
   ⟨(some 21), (.bin .eql), [(.t 18), (.t 20)], none⟩,
   ⟨(some 22), .mv, [(.t 21)], none⟩,
   ⟨(some 23), (.fad 1), [(.t 6)], (some (22, true))⟩,
   ⟨(some 24), (.ld false 1), [(.t 23)], (some (22, true))⟩,
   ⟨(some 25), (.fad 1), [(.t 3)], (some (22, true))⟩,
   ⟨(some 26), (.ld false 1), [(.t 25)], (some (22, true))⟩,
   ⟨(some 27), (.bin .gtr), [(.t 24), (.t 26)], (some (22, true))⟩,
   ⟨(some 28), .pick, [(.t 22), (.t 27), (.c (.bool false))], none⟩,
   ⟨(some 29), .mv, [(.t 28)], none⟩,
   ⟨(some 30), (.fad 4), [(.t 6)], (some (29, true))⟩,
   ⟨(some 31), (.ld false 1), [(.t 30)], (some (29, true))⟩,
   ⟨(some 32), (.bin .eql), [(.t 31), (.c (.int .i64 2))], (some (29, true))⟩,
   ⟨(some 33), .pick, [(.t 29), (.t 32), (.c (.bool false))], none⟩,
   ⟨(some 34), .mv, [(.t 33)], none⟩,
   ⟨(some 35), (.fad 5), [(.t 6)], (some (34, true))⟩,
   ⟨(some 36), (.ld false 1), [(.t 35)], (some (34, true))⟩,
   ⟨(some 37), (.fad 1), [(.t 3)], (some (34, true))⟩,
   ⟨(some 38), (.ld false 1), [(.t 37)], (some (34, true))⟩,
   ⟨(some 39), (.bin .eql), [(.t 36), (.t 38)], (some (34, true))⟩,
   ⟨(some 40), .pick, [(.t 34), (.t 39), (.c (.bool false))], none⟩] [])
 (.cond (.t 40)
  (.seq
  (.reg false [
    ⟨(some 41), (.fad 3), [(.t 6)], none⟩,
    ⟨(some 42), (.ld false 1), [(.t 41)], none⟩,
    ⟨(some 4), .mv, [(.t 42)], none⟩] [])
  .ret)
  .skip))))
 (.reg false [
   ⟨(some 11), .mv, [(.t 5)], none⟩,
   ⟨(some 12), (.bin .add), [(.t 11), (.c (.int .i64 1))], none⟩,
   ⟨(some 5), .mv, [(.t 12)], none⟩] []))))))
 (.seq
 (.reg false [
   ⟨(some 4), .mv, [(.c (.int .i64 (-1)))], none⟩] [])
 .ret)))⟩

def cref10_less : AFun := ⟨30, [(4, none)],
 (.seq
 (.reg false [
   ⟨(some 2), (.box 7), [(.t 0)], none⟩,
   ⟨(some 3), (.box 7), [(.t 1)], none⟩,
   ⟨(some 4), .mv, [(.c (.bool false))], none⟩] [])
 (.seq
 (.seq
 (.reg false [
   ⟨(some 5), (.fad 0), [(.t 2)], none⟩,
   ⟨(some 6), (.ld false 1), [(.t 5)], none⟩,
   ⟨(some 7), (.fad 0), [(.t 3)], none⟩,
   ⟨(some 8), (.ld false 1), [(.t 7)], none⟩,
   ⟨(some 9), (.bin .neq), [(.t 6), (.t 8)], none⟩] [])
 (.cond (.t 9)
  (.seq
  (.reg false [
    ⟨(some 10), (.fad 0), [(.t 2)], none⟩,
    ⟨(some 11), (.ld false 1), [(.t 10)], none⟩,
    ⟨(some 12), (.fad 0), [(.t 3)], none⟩,
    ⟨(some 13), (.ld false 1), [(.t 12)], none⟩,
    ⟨(some 14), (.bin .lss), [(.t 11), (.t 13)], none⟩,
    ⟨(some 4), .mv, [(.t 14)], none⟩] [])
  .ret)
  .skip))
 (.seq
 (.seq
 (.reg false [
   ⟨(some 15), (.fad 1), [(.t 2)], none⟩,
   ⟨(some 16), (.ld false 1), [(.t 15)], none⟩,
   ⟨(some 17), (.fad 1), [(.t 3)], none⟩,
   ⟨(some 18), (.ld false 1), [(.t 17)], none⟩,
   ⟨(some 19), (.bin .neq), [(.t 16), (.t 18)], none⟩] [])
 (.cond (.t 19)
  (.seq
  (.reg false [
    ⟨(some 20), (.fad 1), [(.t 2)], none⟩,
    ⟨(some 21), (.ld false 1), [(.t 20)], none⟩,
    ⟨(some 22), (.fad 1), [(.t 3)], none⟩,
    ⟨(some 23), (.ld false 1), [(.t 22)], none⟩,
    ⟨(some 24), (.bin .lss), [(.t 21), (.t 23)], none⟩,
    ⟨(some 4), .mv, [(.t 24)], none⟩] [])
  .ret)
  .skip))
 (.seq
 (.reg false [
   ⟨(some 25), (.fad 3), [(.t 2)], none⟩,
   ⟨(some 26), (.ld false 1), [(.t 25)], none⟩,
   ⟨(some 27), (.fad 3), [(.t 3)], none⟩,
   ⟨(some 28), (.ld false 1), [(.t 27)], none⟩,
   ⟨(some 29), (.bin .lss), [(.t 26), (.t 28)], none⟩,
   ⟨(some 4), .mv, [(.t 29)], none⟩] [])
 .ret))))⟩

def cref10_has : AFun := ⟨18, [(4, none)],
 (.seq
 (.reg false [
   ⟨(some 4), .mv, [(.c (.bool false))], none⟩] [])
 (.seq
 (.seq
 (.reg false [
   ⟨(some 5), .mv, [(.c (.int .i64 0))], none⟩] [])
 (.block 0
 (.loop
 (.seq
 (.seq
 (.reg false [
   ⟨(some 6), .mv, [(.t 5)], none⟩,
   ⟨(some 7), .mv, [(.t 0)], none⟩,
   ⟨(some 8), .len, [(.t 7)], none⟩,
   ⟨(some 9), (.bin .lss), [(.t 6), (.t 8)], none⟩] [])
 (.cond (.t 9)
  .skip
  (.exit 0)))
 (.seq
 (.block 1
 (.seq
 (.reg false [
   ⟨(some 12), .mv, [(.t 0)], none⟩,
   ⟨(some 13), .mv, [(.t 5)], none⟩,
   ⟨(some 14), (.iad 1), [(.t 12), (.t 13)], none⟩,
   ⟨(some 15), (.ld false 1), [(.t 14)], none⟩,
   ⟨(some 16), .mv, [(.t 1)], none⟩,
   ⟨(some 17), (.bin .eql), [(.t 15), (.t 16)], none⟩] [])
 (.cond (.t 17)
  (.seq
  (.reg false [
    ⟨(some 4), .mv, [(.c (.bool true))], none⟩] [])
  .ret)
  .skip)))
 (.reg false [
   ⟨(some 10), .mv, [(.t 5)], none⟩,
   ⟨(some 11), (.bin .add), [(.t 10), (.c (.int .i64 1))], none⟩,
   ⟨(some 5), .mv, [(.t 11)], none⟩] []))))))
 (.seq
 (.reg false [
   ⟨(some 4), .mv, [(.c (.bool false))], none⟩] [])
 .ret)))⟩

def cref03_Same : AFun := ⟨87, [(4, none)],
 (.seq
 (.reg false [
   ⟨(some 2), (.box 13), [(.t 0)], none⟩,
   ⟨(some 3), (.box 13), [(.t 1)], none⟩,
   ⟨(some 4), .mv, [(.c (.bool false))], none⟩] [])
 (.seq
 (.reg false [
   ⟨(some 5), (.fad 0), [(.t 2)], none⟩,
   ⟨(some 6), (.ld false 1), [(.t 5)], none⟩,
   ⟨(some 7), (.fad 0), [(.t 3)], none⟩,
   ⟨(some 8), (.ld false 1), [(.t 7)], none⟩,
   ⟨(some 9), (.bin .eql), [(.t 6), (.t 8)], none⟩,
   ⟨(some 10), .mv, [(.t 9)], none⟩,
   ⟨(some 11), (.fad 1), [(.t 2)], (some (10, true))⟩,
   ⟨(some 12), (.ld false 1), [(.t 11)], (some (10, true))⟩,
   ⟨(some 13), (.fad 1), [(.t 3)], (some (10, true))⟩,
   ⟨(some 14), (.ld false 1), [(.t 13)], (some (10, true))⟩,
   ⟨(some 15), (.bin .eql), [(.t 12), (.t 14)], (some (10, true))⟩,
   ⟨(some 16), .pick, [(.t 10), (.t 15), (.c (.bool false))], none⟩,
   ⟨(some 17), .mv, [(.t 16)], none⟩,
   ⟨(some 18), (.fad 2), [(.t 2)], (some (17, true))⟩,
   ⟨(some 19), (.ld false 1), [(.t 18)], (some (17, true))⟩,
   ⟨(some 20), (.fad 2), [(.t 3)], (some (17, true))⟩,
   ⟨(some 21), (.ld false 1), [(.t 20)], (some (17, true))⟩,
   ⟨(some 22), (.bin .eql), [(.t 19), (.t 21)], (some (17, true))⟩,
   ⟨(some 23), .pick, [(.t 17), (.t 22), (.c (.bool false))], none⟩,
   ⟨(some 24), .mv, [(.t 23)], none⟩,
   ⟨(some 25), (.fad 3), [(.t 2)], (some (24, true))⟩,
   ⟨(some 26), (.ld false 1), [(.t 25)], (some (24, true))⟩,
   ⟨(some 27), (.fad 3), [(.t 3)], (some (24, true))⟩,
   ⟨(some 28), (.ld false 1), [(.t 27)], (some (24, true))⟩,
   ⟨(some 29), (.bin .eql), [(.t 26), (.t 28)], (some (24, true))⟩,
   ⟨(some 30), .pick, [(.t 24), (.t 29), (.c (.bool false))], none⟩,
   ⟨(some 31), .mv, [(.t 30)], none⟩,
   ⟨(some 32), (.fad 4), [(.t 2)], (some (31, true))⟩,
   ⟨(some 33), (.ld false 1), [(.t 32)], (some (31, true))⟩,
   ⟨(some 34), (.fad 4), [(.t 3)], (some (31, true))⟩,
   ⟨(some 35), (.ld false 1), [(.t 34)], (some (31, true))⟩,
   ⟨(some 36), (.bin .eql), [(.t 33), (.t 35)], (some (31, true))⟩,
   ⟨(some 37), .pick, [(.t 31), (.t 36), (.c (.bool false))], none⟩,
   ⟨(some 38), .mv, [(.t 37)], none⟩,
   ⟨(some 39), (.fad 5), [(.t 2)], (some (38, true))⟩,
   ⟨(some 40), (.ld false 1), [(.t 39)], (some (38, true))⟩,
   ⟨(some 41), (.fad 5), [(.t 3)], (some (38, true))⟩,
   ⟨(some 42), (.ld false 1), [(.t 41)], (some (38, true))⟩,
   ⟨(some 43), (.bin .eql), [(.t 40), (.t 42)], (some (38, true))⟩,
   ⟨(some 44), .pick, [(.t 38), (.t 43), (.c (.bool false))], none⟩,
   ⟨(some 45), .mv, [(.t 44)], none⟩,
   ⟨(some 46), (.fad 6), [(.t 2)], (some (45, true))⟩,
   ⟨(some 47), (.ld false 1), [(.t 46)], (some (45, true))⟩,
   ⟨(some 48), (.fad 6), [(.t 3)], (some (45, true))⟩,
   ⟨(some 49), (.ld false 1), [(.t 48)], (some (45, true))⟩,
   ⟨(some 50), (.bin .eql), [(.t 47), (.t 49)], (some (45, true))⟩,
   ⟨(some 51), .pick, [(.t 45), (.t 50), (.c (.bool false))], none⟩,
   ⟨(some 52), .mv, [(.t 51)], none⟩,
   ⟨(some 53), (.fad 7), [(.t 2)], (some (52, true))⟩,
   ⟨(some 54), (.ld false 1), [(.t 53)], (some (52, true))⟩,
   ⟨(some 55), (.fad 7), [(.t 3)], (some (52, true))⟩,
   ⟨(some 56), (.ld false 1), [(.t 55)], (some (52, true))⟩,
   ⟨(some 57), (.bin .eql), [(.t 54), (.t 56)], (some (52, true))⟩,
   ⟨(some 58), .pick, [(.t 52), (.t 57), (.c (.bool false))], none⟩,
   ⟨(some 59), .mv, [(.t 58)], none⟩,
   ⟨(some 60), (.fad 8), [(.t 2)], (some (59, true))⟩,
   ⟨(some 61), (.ld false 1), [(.t 60)], (some (59, true))⟩,
   ⟨(some 62), (.fad 8), [(.t 3)], (some (59, true))⟩,
   ⟨(some 63), (.ld false 1), [(.t 62)], (some (59, true))⟩,
   ⟨(some 64), .call, [(.f nref03_SameInts), (.t 61), (.t 63)], (some (59, true))⟩,
   ⟨(some 65), .pick, [(.t 59), (.t 64), (.c (.bool false))], none⟩,
   ⟨(some 66), .mv, [(.t 65)], none⟩,
   ⟨(some 67), (.fad 9), [(.t 2)], (some (66, true))⟩,
   ⟨(some 68), (.ld false 1), [(.t 67)], (some (66, true))⟩,
   ⟨(some 69), (.fad 9), [(.t 3)], (some (66, true))⟩,
   ⟨(some 70), (.ld false 1), [(.t 69)], (some (66, true))⟩,
   ⟨(some 71), .call, [(.f nref03_SamePins), (.t 68), (.t 70)], (some (66, true))⟩,
   ⟨(some 72), .pick, [(.t 66), (.t 71), (.c (.bool false))], none⟩,
   ⟨(some 73), .mv, [(.t 72)], none⟩,
   ⟨(some 74), (.fad 10), [(.t 2)], (some (73, true))⟩,
   ⟨(some 75), (.ld false 1), [(.t 74)], (some (73, true))⟩,
   ⟨(some 76), (.fad 10), [(.t 3)], (some (73, true))⟩,
   ⟨(some 77), (.ld false 1), [(.t 76)], (some (73, true))⟩,
   ⟨(some 78), (.bin .eql), [(.t 75), (.t 77)], (some (73, true))⟩,
   ⟨(some 79), .pick, [(.t 73), (.t 78), (.c (.bool false))], none⟩,
   ⟨(some 80), .mv, [(.t 79)], none⟩,
   ⟨(some 81), (.fad 11), [(.t 2)], (some (80, true))⟩,
   ⟨(some 82), (.ld true 2), [(.t 81)], (some (80, true))⟩,
   ⟨(some 83), (.fad 11), [(.t 3)], (some (80, true))⟩,
   ⟨(some 84), (.ld true 2), [(.t 83)], (some (80, true))⟩,
   ⟨(some 85), (.aeq false [0, 2]), [(.t 82), (.t 84)], (some (80, true))⟩,
   ⟨(some 86), .pick, [(.t 80), (.t 85), (.c (.bool false))], none⟩,
   ⟨(some 4), .mv, [(.t 86)], none⟩] [])
 .ret))⟩

def cref01_Sum : AFun := ⟨87, [(2, none)],
 (.seq
 (.reg false [
   ⟨(some 2), .mv, [(.c (.string ⟨#[]⟩))], none⟩] [])
 (.seq
 (.reg false [
   ⟨(some 11), (.bsl 1 8 [(.int .u32 0)] [0, 1, 2, 3, 4, 5, 6, 7]), [(.c (.int .u32 1779033703)), (.c (.int .u32 3144134277)), (.c (.int .u32 1013904242)), (.c (.int .u32 2773480762)), (.c (.int .u32 1359893119)), (.c (.int .u32 2600822924)), (.c (.int .u32 528734635)), (.c (.int .u32 1541459225))], none⟩,
   ⟨(some 3), .mv, [(.t 11)], none⟩] [])
 (.seq
 (.reg false [
   ⟨(some 12), .mv, [(.t 0)], none⟩,
   ⟨(some 13), (.app 1 1), [(.c (.slice none 0 0)), (.t 12)], none⟩,
   ⟨(some 14), (.bsl 1 1 [(.int .u8 0)] [0]), [(.c (.int .u8 128))], none⟩,
   ⟨(some 15), (.app 1 1), [(.t 13), (.t 14)], none⟩,
   ⟨(some 4), .mv, [(.t 15)], none⟩] [])
 (.seq
 (.block 0
 (.loop
 (.seq
 (.seq
 (.reg false [
   ⟨(some 16), .mv, [(.t 4)], none⟩,
   ⟨(some 17), .len, [(.t 16)], none⟩,
   ⟨(some 18), (.bin .rem), [(.t 17), (.c (.int .i64 64))], none⟩,
   ⟨(some 19), (.bin .neq), [(.t 18), (.c (.int .i64 56))], none⟩] [])
 (.cond (.t 19)
  .skip
  (.exit 0)))
 (.block 1
 (.reg false [
   ⟨(some 20), .mv, [(.t 4)], none⟩,
   ⟨(some 21), (.bsl 1 1 [(.int .u8 0)] [0]), [(.c (.int .u8 0))], none⟩,
   ⟨(some 22), (.app 1 1), [(.t 20), (.t 21)], none⟩,
   ⟨(some 4), .mv, [(.t 22)], none⟩] [])))))
 (.seq
 (.reg false [
   ⟨(some 23), .mv, [(.t 0)], none⟩,
   ⟨(some 24), .len, [(.t 23)], none⟩,
   ⟨(some 25), (.cvt .u64), [(.t 24)], none⟩,
   ⟨(some 26), (.bin .mul), [(.t 25), (.c (.int .u64 8))], none⟩,
   ⟨(some 5), .mv, [(.t 26)], none⟩] [])
 (.seq
 (.seq
 (.reg false [
   ⟨(some 6), .mv, [(.c (.int .i64 7))], none⟩] [])
 (.block 2
 (.loop
 (.seq
 (.seq
 (.reg false [
   ⟨(some 27), .mv, [(.t 6)], none⟩,
   ⟨(some 28), (.bin .geq), [(.t 27), (.c (.int .i64 0))], none⟩] [])
 (.cond (.t 28)
  .skip
  (.exit 2)))
 (.seq
 (.block 3
 (.reg false [
   ⟨(some 31), .mv, [(.t 4)], none⟩,
   ⟨(some 32), .mv, [(.t 5)], none⟩,
   ⟨(some 33), .mv, [(.t 6)], none⟩,
   ⟨(some 34), (.bin .mul), [(.c (.int .i64 8)), (.t 33)], none⟩,
   ⟨(some 35), (.cvt .u64), [(.t 34)], none⟩,
   ⟨(some 36), (.bin .shr), [(.t 32), (.t 35)], none⟩,
   ⟨(some 37), (.cvt .u8), [(.t 36)], none⟩,
   ⟨(some 38), (.bsl 1 1 [(.int .u8 0)] [0]), [(.t 37)], none⟩,
   ⟨(some 39), (.app 1 1), [(.t 31), (.t 38)], none⟩,
   ⟨(some 4), .mv, [(.t 39)], none⟩] []))
 (.reg false [
   ⟨(some 29), .mv, [(.t 6)], none⟩,
   ⟨(some 30), (.bin .sub), [(.t 29), (.c (.int .i64 1))], none⟩,
   ⟨(some 6), .mv, [(.t 30)], none⟩] []))))))
 (.seq
 (.reg false [
   ⟨(some 40), .call, [(.f nref01_constants)], none⟩,
   ⟨(some 7), .mv, [(.t 40)], none⟩] [])
 (.seq
 (.seq
 (.reg false [
   ⟨(some 8), .mv, [(.c (.int .i64 0))], none⟩] [])
 (.block 4
 (.loop
 (.seq
 (.seq
 (.reg false [
   ⟨(some 41), .mv, [(.t 8)], none⟩,
   ⟨(some 42), .mv, [(.t 4)], none⟩,
   ⟨(some 43), .len, [(.t 42)], none⟩,
   ⟨(some 44), (.bin .lss), [(.t 41), (.t 43)], none⟩] [])
 (.cond (.t 44)
  .skip
  (.exit 4)))
 (.seq
 (.block 5
 (.reg false [
   ⟨(some 47), .mv, [(.t 3)], none⟩,
   ⟨(some 48), .mv, [(.t 4)], none⟩,
   ⟨(some 49), .mv, [(.t 8)], none⟩,
   ⟨(some 50), .mv, [(.t 8)], none⟩,
   ⟨(some 51), (.bin .add), [(.t 50), (.c (.int .i64 64))], none⟩,
   ⟨(some 52), (.slc 1 true true false), [(.t 48), (.t 49), (.t 51)], none⟩,
   ⟨(some 53), .mv, [(.t 7)], none⟩,
   ⟨(some 54), .call, [(.f nref01_block), (.t 47), (.t 52), (.t 53)], none⟩,
   ⟨(some 3), .mv, [(.t 54)], none⟩] []))
 (.reg false [
   ⟨(some 45), .mv, [(.t 8)], none⟩,
   ⟨(some 46), (.bin .add), [(.t 45), (.c (.int .i64 64))], none⟩,
   ⟨(some 8), .mv, [(.t 46)], none⟩] []))))))
 (.seq
 (.reg false [
   ⟨(some 9), .mv, [(.c (.slice none 0 0))], none⟩] [])
 (.seq
 (.seq
 (.reg false [
   ⟨(some 10), .mv, [(.c (.int .i64 0))], none⟩] [])
 (.block 6
 (.loop
 (.seq
 (.seq
 (.reg false [
   ⟨(some 55), .mv, [(.t 10)], none⟩,
   ⟨(some 56), (.bin .lss), [(.t 55), (.c (.int .i64 8))], none⟩] [])
 (.cond (.t 56)
  .skip
  (.exit 6)))
 (.seq
 (.block 7
 (.reg true [
   ⟨(some 59), .mv, [(.t 9)], none⟩,
   ⟨(some 60), .mv, [(.t 3)], none⟩,
   ⟨(some 61), .mv, [(.t 10)], none⟩,
   ⟨(some 62), (.iad 1), [(.t 60), (.t 61)], none⟩,
   ⟨(some 63), (.ld false 1), [(.t 62)], none⟩,
   ⟨(some 64), (.bin .shr), [(.t 63), (.c (.int .u64 24))], none⟩,
   ⟨(some 65), (.cvt .u8), [(.t 64)], none⟩,
   ⟨(some 66), .mv, [(.t 3)], none⟩,
   ⟨(some 67), .mv, [(.t 10)], none⟩,
   ⟨(some 68), (.iad 1), [(.t 66), (.t 67)], none⟩,
   ⟨(some 69), (.ld false 1), [(.t 68)], none⟩,
   ⟨(some 70), (.bin .shr), [(.t 69), (.c (.int .u64 16))], none⟩,
   ⟨(some 71), (.cvt .u8), [(.t 70)], none⟩,
   ⟨(some 72), .mv, [(.t 3)], none⟩,
   ⟨(some 73), .mv, [(.t 10)], none⟩,
   ⟨(some 74), (.iad 1), [(.t 72), (.t 73)], none⟩,
   ⟨(some 75), (.ld false 1), [(.t 74)], none⟩,
   ⟨(some 76), (.bin .shr), [(.t 75), (.c (.int .u64 8))], none⟩,
   ⟨(some 77), (.cvt .u8), [(.t 76)], none⟩,
   ⟨(some 78), .mv, [(.t 3)], none⟩,
   ⟨(some 79), .mv, [(.t 10)], none⟩,
   ⟨(some 80), (.iad 1), [(.t 78), (.t 79)], none⟩,
   ⟨(some 81), (.ld false 1), [(.t 80)], none⟩,
   ⟨(some 82), (.cvt .u8), [(.t 81)], none⟩,
   ⟨(some 83), (.bsl 1 4 [(.int .u8 0)] [0, 1, 2, 3]), [(.t 65), (.t 71), (.t 77), (.t 82)], none⟩,
   ⟨(some 84), (.app 1 1), [(.t 59), (.t 83)], none⟩,
   ⟨(some 9), .mv, [(.t 84)], none⟩] [[], [], [], [1, 2], [3], [4], [5], [], [], [7, 8], [9], [10], [11], [], [], [13, 14], [15], [16], [17], [], [], [19, 20], [21], [22], [6, 12, 18, 23], [0, 24], [25, 25, 0, 1, 2, 3, 4, 5, 6, 7, 8, 9, 10, 11, 12, 13, 14, 15, 16, 17, 18, 19, 20, 21, 22, 23, 24, 25]]))
 (.reg false [
   ⟨(some 57), .mv, [(.t 10)], none⟩,
   ⟨(some 58), (.bin .add), [(.t 57), (.c (.int .i64 1))], none⟩,
   ⟨(some 10), .mv, [(.t 58)], none⟩] []))))))
 (.seq
 (.reg false [
   ⟨(some 85), .mv, [(.t 9)], none⟩,
   ⟨(some 86), .b2s, [(.t 85)], none⟩,
   ⟨(some 2), .mv, [(.t 86)], none⟩] [])
 .ret)))))))))))⟩

def cref03_Bytes : AFun := ⟨71, [(2, none)],
 (.seq
 (.reg false [
   ⟨(some 1), (.box 13), [(.t 0)], none⟩,
   ⟨(some 2), .mv, [(.c (.slice none 0 0))], none⟩] [])
 (.seq
 (.reg true [
   ⟨(some 8), (.fad 0), [(.t 1)], none⟩,
   ⟨(some 9), (.ld false 1), [(.t 8)], none⟩,
   ⟨(some 10), .call, [(.f nref02_Int), (.c (.slice none 0 0)), (.t 9)], none⟩,
   ⟨(some 11), (.fad 1), [(.t 1)], none⟩,
   ⟨(some 12), (.ld false 1), [(.t 11)], none⟩,
   ⟨(some 13), .call, [(.f nref02_Int), (.t 10), (.t 12)], none⟩,
   ⟨(some 14), (.fad 2), [(.t 1)], none⟩,
   ⟨(some 15), (.ld false 1), [(.t 14)], none⟩,
   ⟨(some 16), .call, [(.f nref02_Text), (.t 13), (.t 15)], none⟩,
   ⟨(some 3), .mv, [(.t 16)], none⟩] [[], [0], [1], [], [3], [2, 4, 2], [], [6], [5, 7, 5], [8, 8, 0, 1, 2, 3, 4, 5, 6, 7, 8]])
 (.seq
 (.seq
 (.reg false [
   ⟨(some 17), (.fad 3), [(.t 1)], none⟩,
   ⟨(some 18), (.ld false 1), [(.t 17)], none⟩,
   ⟨(some 19), (.fad 4), [(.t 1)], none⟩,
   ⟨(some 20), (.ld false 1), [(.t 19)], none⟩,
   ⟨(some 21), (.fad 5), [(.t 1)], none⟩,
   ⟨(some 22), (.ld false 1), [(.t 21)], none⟩,
   ⟨(some 23), (.fad 6), [(.t 1)], none⟩,
   ⟨(some 24), (.ld false 1), [(.t 23)], none⟩,
   ⟨(some 25), (.fad 7), [(.t 1)], none⟩,
   ⟨(some 26), (.ld false 1), [(.t 25)], none⟩,
   ⟨(some 27), (.bsl 1 5 [(.int .i64 0)] [0, 1, 2, 3, 4]), [(.t 18), (.t 20), (.t 22), (.t 24), (.t 26)], none⟩,
   ⟨(some 28), .len, [(.t 27)], none⟩,
   ⟨(some 29), .mv, [(.c (.int .i64 0))], none⟩] [])
 (.block 0
 (.loop
 (.seq
 (.reg false [
   ⟨(some 30), (.bin .lss), [(.t 29), (.t 28)], none⟩] [])
 (.seq
 (.cond (.t 30)
  .skip
  (.exit 0))
 (.seq
 (.block 1
 (.seq
 (.reg false [
   ⟨(some 31), (.iad 1), [(.t 27), (.t 29)], none⟩,
   ⟨(some 32), (.ld false 1), [(.t 31)], none⟩,
   ⟨(some 5), .mv, [(.t 32)], none⟩] [])
 (.reg false [
   ⟨(some 33), .mv, [(.t 3)], none⟩,
   ⟨(some 34), .mv, [(.t 5)], none⟩,
   ⟨(some 35), .call, [(.f nref02_Int), (.t 33), (.t 34)], none⟩,
   ⟨(some 3), .mv, [(.t 35)], none⟩] [])))
 (.reg false [
   ⟨(some 36), (.bin .add), [(.t 29), (.c (.int .i64 1))], none⟩,
   ⟨(some 29), .mv, [(.t 36)], none⟩] [])))))))
 (.seq
 (.reg true [
   ⟨(some 37), .mv, [(.t 3)], none⟩,
   ⟨(some 38), (.fad 8), [(.t 1)], none⟩,
   ⟨(some 39), (.ld false 1), [(.t 38)], none⟩,
   ⟨(some 40), .call, [(.f nref02_Ints), (.t 37), (.t 39)], none⟩,
   ⟨(some 41), (.fad 9), [(.t 1)], none⟩,
   ⟨(some 42), (.ld false 1), [(.t 41)], none⟩,
   ⟨(some 43), .len, [(.t 42)], none⟩,
   ⟨(some 44), .call, [(.f nref02_Int), (.t 40), (.t 43)], none⟩,
   ⟨(some 3), .mv, [(.t 44)], none⟩] [[], [], [1], [0, 2], [], [4], [5], [3, 6, 3], [7, 7, 0, 1, 2, 3, 4, 5, 6, 7]])
 (.seq
 (.seq
 (.reg false [
   ⟨(some 6), .mv, [(.c (.int .i64 0))], none⟩] [])
 (.block 2
 (.loop
 (.seq
 (.seq
 (.reg false [
   ⟨(some 45), .mv, [(.t 6)], none⟩,
   ⟨(some 46), (.fad 9), [(.t 1)], none⟩,
   ⟨(some 47), (.ld false 1), [(.t 46)], none⟩,
   ⟨(some 48), .len, [(.t 47)], none⟩,
   ⟨(some 49), (.bin .lss), [(.t 45), (.t 48)], none⟩] [])
 (.cond (.t 49)
  .skip
  (.exit 2)))
 (.seq
 (.block 3
 (.seq
 (.reg false [
   ⟨(some 52), (.fad 9), [(.t 1)], none⟩,
   ⟨(some 53), (.ld false 1), [(.t 52)], none⟩,
   ⟨(some 54), .mv, [(.t 6)], none⟩,
   ⟨(some 55), (.iad 3), [(.t 53), (.t 54)], none⟩,
   ⟨(some 56), (.ld true 3), [(.t 55)], none⟩,
   ⟨(some 7), (.alloc [(.int .i64 0), (.int .i64 0), (.string ⟨#[]⟩)]), [], none⟩,
   ⟨none, (.st 3), [(.t 7), (.t 56)], none⟩] [])
 (.reg true [
   ⟨(some 57), .mv, [(.t 3)], none⟩,
   ⟨(some 58), (.fad 0), [(.t 7)], none⟩,
   ⟨(some 59), (.ld false 1), [(.t 58)], none⟩,
   ⟨(some 60), .call, [(.f nref02_Int), (.t 57), (.t 59)], none⟩,
   ⟨(some 61), (.fad 1), [(.t 7)], none⟩,
   ⟨(some 62), (.ld false 1), [(.t 61)], none⟩,
   ⟨(some 63), .call, [(.f nref02_Int), (.t 60), (.t 62)], none⟩,
   ⟨(some 64), (.fad 2), [(.t 7)], none⟩,
   ⟨(some 65), (.ld false 1), [(.t 64)], none⟩,
   ⟨(some 66), .call, [(.f nref02_Text), (.t 63), (.t 65)], none⟩,
   ⟨(some 3), .mv, [(.t 66)], none⟩] [[], [], [1], [0, 2], [], [4], [3, 5, 3], [], [7], [6, 8, 6], [9, 9, 0, 1, 2, 3, 4, 5, 6, 7, 8, 9]])))
 (.reg false [
   ⟨(some 50), .mv, [(.t 6)], none⟩,
   ⟨(some 51), (.bin .add), [(.t 50), (.c (.int .i64 1))], none⟩,
   ⟨(some 6), .mv, [(.t 51)], none⟩] []))))))
 (.seq
 (.reg false [
   ⟨(some 67), .mv, [(.t 3)], none⟩,
   ⟨(some 68), (.fad 10), [(.t 1)], none⟩,
   ⟨(some 69), (.ld false 1), [(.t 68)], none⟩,
   ⟨(some 70), .call, [(.f nref02_Text), (.t 67), (.t 69)], none⟩,
   ⟨(some 2), .mv, [(.t 70)], none⟩] [])
 .ret))))))⟩

def cref03_key : AFun := ⟨9, [(2, none)],
 (.seq
 (.reg false [
   ⟨(some 2), .mv, [(.c (.bool false))], none⟩] [])
 (.seq
 (.reg false [
   ⟨(some 3), .mv, [(.t 0)], none⟩,
   ⟨(some 4), (.bin .geq), [(.t 3), (.c (.int .i64 0))], none⟩,
   ⟨(some 5), .mv, [(.t 4)], none⟩,
   ⟨(some 6), .mv, [(.t 0)], (some (5, true))⟩,
   ⟨(some 7), (.bin .lss), [(.t 6), (.c (.int .i64 64))], (some (5, true))⟩,
   ⟨(some 8), .pick, [(.t 5), (.t 7), (.c (.bool false))], none⟩,
   ⟨(some 2), .mv, [(.t 8)], none⟩] [])
 .ret))⟩

def cref03_in : AFun := ⟨12, [(4, none)],
 (.seq
 (.reg false [
   ⟨(some 4), .mv, [(.c (.bool false))], none⟩] [])
 (.seq
 (.reg false [
   ⟨(some 5), .mv, [(.t 0)], none⟩,
   ⟨(some 6), (.bin .geq), [(.t 5), (.c (.int .i64 0))], none⟩,
   ⟨(some 7), .mv, [(.t 6)], none⟩,
   ⟨(some 8), .mv, [(.t 0)], (some (7, true))⟩,
   ⟨(some 9), .mv, [(.t 1)], (some (7, true))⟩,
   ⟨(some 10), (.bin .leq), [(.t 8), (.t 9)], (some (7, true))⟩,
   ⟨(some 11), .pick, [(.t 7), (.t 10), (.c (.bool false))], none⟩,
   ⟨(some 4), .mv, [(.t 11)], none⟩] [])
 .ret))⟩

def cref03_numbers : AFun := ⟨106, [(2, none)],
 (.seq
 (.reg false [
   ⟨(some 1), (.box 13), [(.t 0)], none⟩,
   ⟨(some 2), .mv, [(.c (.bool false))], none⟩] [])
 (.seq
 (.seq
 (.reg false [
   ⟨(some 4), (.fad 1), [(.t 1)], none⟩,
   ⟨(some 5), (.ld false 1), [(.t 4)], none⟩,
   ⟨(some 6), .call, [(.f nref03_in), (.t 5), (.c (.int .i64 199))], none⟩,
   ⟨(some 7), (.un .not), [(.t 6)], none⟩,
   ⟨(some 8), .mv, [(.t 7)], none⟩,
   ⟨(some 9), (.fad 5), [(.t 1)], (some (8, false))⟩,
   ⟨(some 10), (.ld false 1), [(.t 9)], (some (8, false))⟩,
   ⟨(some 11), .call, [(.f nref03_in), (.t 10), (.c (.int .i64 1099511627776))], (some (8, false))⟩,
   ⟨(some 12), (.un .not), [(.t 11)], (some (8, false))⟩,
   ⟨(some 13), .pick, [(.t 8), (.c (.bool true)), (.t 12)], none⟩,
   ⟨(some 14), .mv, [(.t 13)], none⟩,
   ⟨(some 15), (.fad 6), [(.t 1)], (some (14, false))⟩,
   ⟨(some 16), (.ld false 1), [(.t 15)], (some (14, false))⟩,
   ⟨(some 17), .call, [(.f nref03_in), (.t 16), (.c (.int .i64 1099511627776))], (some (14, false))⟩,
   ⟨(some 18), (.un .not), [(.t 17)], (some (14, false))⟩,
   ⟨(some 19), .pick, [(.t 14), (.c (.bool true)), (.t 18)], none⟩,
   ⟨(some 20), .mv, [(.t 19)], none⟩,
   ⟨(some 21), (.fad 7), [(.t 1)], (some (20, false))⟩,
   ⟨(some 22), (.ld false 1), [(.t 21)], (some (20, false))⟩,
   ⟨(some 23), .call, [(.f nref03_in), (.t 22), (.c (.int .i64 1099511627776))], (some (20, false))⟩,
   ⟨(some 24), (.un .not), [(.t 23)], (some (20, false))⟩,
   ⟨(some 25), .pick, [(.t 20), (.c (.bool true)), (.t 24)], none⟩] [])
 (.cond (.t 25)
  (.seq
  (.reg false [
    ⟨(some 2), .mv, [(.c (.bool false))], none⟩] [])
  .ret)
  .skip))
 (.seq
 (.seq
 (.reg false [
   ⟨(some 3), .mv, [(.c (.int .i64 0))], none⟩] [])
 (.block 0
 (.loop
 (.seq
 (.seq
 (.reg false [
   ⟨(some 26), .mv, [(.t 3)], none⟩,
   ⟨(some 27), (.fad 8), [(.t 1)], none⟩,
   ⟨(some 28), (.ld false 1), [(.t 27)], none⟩,
   ⟨(some 29), .len, [(.t 28)], none⟩,
   ⟨(some 30), (.bin .lss), [(.t 26), (.t 29)], none⟩] [])
 (.cond (.t 30)
  .skip
  (.exit 0)))
 (.seq
 (.block 1
 (.seq
 (.reg false [
   ⟨(some 33), (.fad 8), [(.t 1)], none⟩,
   ⟨(some 34), (.ld false 1), [(.t 33)], none⟩,
   ⟨(some 35), .mv, [(.t 3)], none⟩,
   ⟨(some 36), (.iad 1), [(.t 34), (.t 35)], none⟩,
   ⟨(some 37), (.ld false 1), [(.t 36)], none⟩,
   ⟨(some 38), .call, [(.f nref03_in), (.t 37), (.c (.int .i64 1099511627776))], none⟩,
   ⟨(some 39), (.un .not), [(.t 38)], none⟩] [])
 (.cond (.t 39)
  (.seq
  (.reg false [
    ⟨(some 2), .mv, [(.c (.bool false))], none⟩] [])
  .ret)
  .skip)))
 (.reg false [
   ⟨(some 31), .mv, [(.t 3)], none⟩,
   ⟨(some 32), (.bin .add), [(.t 31), (.c (.int .i64 1))], none⟩,
   ⟨(some 3), .mv, [(.t 32)], none⟩] []))))))
 (.seq
 (.seq
 (.reg false [
   ⟨(some 40), (.fad 4), [(.t 1)], none⟩,
   ⟨(some 41), (.ld false 1), [(.t 40)], none⟩] [])
 (.block 2
 (.seq
 (.reg false [
   ⟨(some 43), (.bin .eql), [(.t 41), (.c (.int .i64 1))], none⟩,
   ⟨(some 42), .mv, [(.t 43)], none⟩] [])
 (.cond (.t 42)
  (.seq
  (.reg false [
    ⟨(some 44), (.fad 5), [(.t 1)], none⟩,
    ⟨(some 45), (.ld false 1), [(.t 44)], none⟩,
    ⟨(some 46), .call, [(.f nref03_key), (.t 45)], none⟩,
    ⟨(some 47), .mv, [(.t 46)], none⟩,
    ⟨(some 48), (.fad 5), [(.t 1)], (some (47, true))⟩,
    ⟨(some 49), (.ld false 1), [(.t 48)], (some (47, true))⟩,
    ⟨(some 50), (.fad 0), [(.t 1)], (some (47, true))⟩,
    ⟨(some 51), (.ld false 1), [(.t 50)], (some (47, true))⟩,
    ⟨(some 52), (.bin .neq), [(.t 49), (.t 51)], (some (47, true))⟩,
    ⟨(some 53), .pick, [(.t 47), (.t 52), (.c (.bool false))], none⟩,
    ⟨(some 54), .mv, [(.t 53)], none⟩,
    ⟨(some 55), (.fad 6), [(.t 1)], (some (54, true))⟩,
    ⟨(some 56), (.ld false 1), [(.t 55)], (some (54, true))⟩,
    ⟨(some 57), (.bin .geq), [(.t 56), (.c (.int .i64 1))], (some (54, true))⟩,
    ⟨(some 58), .pick, [(.t 54), (.t 57), (.c (.bool false))], none⟩,
    ⟨(some 59), .mv, [(.t 58)], none⟩,
    ⟨(some 60), (.fad 6), [(.t 1)], (some (59, true))⟩,
    ⟨(some 61), (.ld false 1), [(.t 60)], (some (59, true))⟩,
    ⟨(some 62), (.bin .leq), [(.t 61), (.c (.int .i64 3))], (some (59, true))⟩,
    ⟨(some 63), .pick, [(.t 59), (.t 62), (.c (.bool false))], none⟩,
    ⟨(some 64), .mv, [(.t 63)], none⟩,
    ⟨(some 65), (.fad 7), [(.t 1)], (some (64, true))⟩,
    ⟨(some 66), (.ld false 1), [(.t 65)], (some (64, true))⟩,
    ⟨(some 67), (.fad 3), [(.t 1)], (some (64, true))⟩,
    ⟨(some 68), (.ld false 1), [(.t 67)], (some (64, true))⟩,
    ⟨(some 69), (.bin .geq), [(.t 66), (.t 68)], (some (64, true))⟩,
    ⟨(some 70), .pick, [(.t 64), (.t 69), (.c (.bool false))], none⟩,
    ⟨(some 71), .mv, [(.t 70)], none⟩,
    ⟨(some 72), (.fad 7), [(.t 1)], (some (71, true))⟩,
    ⟨(some 73), (.ld false 1), [(.t 72)], (some (71, true))⟩,
    ⟨(some 74), (.bin .leq), [(.t 73), (.c (.int .i64 2147483648))], (some (71, true))⟩,
    ⟨(some 75), .pick, [(.t 71), (.t 74), (.c (.bool false))], none⟩,
    ⟨(some 2), .mv, [(.t 75)], none⟩] [])
  .ret)
  (.seq
  (.reg false [
    ⟨(some 77), (.bin .eql), [(.t 41), (.c (.int .i64 2))], none⟩,
    ⟨(some 76), .mv, [(.t 77)], none⟩] [])
  (.cond (.t 76)
   (.seq
   (.reg false [
     ⟨(some 78), (.fad 5), [(.t 1)], none⟩,
     ⟨(some 79), (.ld false 1), [(.t 78)], none⟩,
     ⟨(some 80), .call, [(.f nref03_in), (.t 79), (.c (.int .i64 199))], none⟩,
     ⟨(some 81), .mv, [(.t 80)], none⟩,
     ⟨(some 82), (.fad 6), [(.t 1)], (some (81, true))⟩,
     ⟨(some 83), (.ld false 1), [(.t 82)], (some (81, true))⟩,
     ⟨(some 84), (.bin .eql), [(.t 83), (.c (.int .i64 0))], (some (81, true))⟩,
     ⟨(some 85), .pick, [(.t 81), (.t 84), (.c (.bool false))], none⟩,
     ⟨(some 86), .mv, [(.t 85)], none⟩,
     ⟨(some 87), (.fad 7), [(.t 1)], (some (86, true))⟩,
     ⟨(some 88), (.ld false 1), [(.t 87)], (some (86, true))⟩,
     ⟨(some 89), (.bin .eql), [(.t 88), (.c (.int .i64 0))], (some (86, true))⟩,
     ⟨(some 90), .pick, [(.t 86), (.t 89), (.c (.bool false))], none⟩,
     ⟨(some 2), .mv, [(.t 90)], none⟩] [])
   .ret)
   (.seq
   (.reg false [
     ⟨(some 92), (.bin .eql), [(.t 41), (.c (.int .i64 3))], none⟩,
     ⟨(some 91), .mv, [(.t 92)], none⟩] [])
   (.cond (.t 91)
    (.seq
    (.reg false [
      ⟨(some 93), (.fad 5), [(.t 1)], none⟩,
      ⟨(some 94), (.ld false 1), [(.t 93)], none⟩,
      ⟨(some 95), (.bin .eql), [(.t 94), (.c (.int .i64 0))], none⟩,
      ⟨(some 96), .mv, [(.t 95)], none⟩,
      ⟨(some 97), (.fad 6), [(.t 1)], (some (96, true))⟩,
      ⟨(some 98), (.ld false 1), [(.t 97)], (some (96, true))⟩,
      ⟨(some 99), (.bin .eql), [(.t 98), (.c (.int .i64 0))], (some (96, true))⟩,
      ⟨(some 100), .pick, [(.t 96), (.t 99), (.c (.bool false))], none⟩,
      ⟨(some 101), .mv, [(.t 100)], none⟩,
      ⟨(some 102), (.fad 7), [(.t 1)], (some (101, true))⟩,
      ⟨(some 103), (.ld false 1), [(.t 102)], (some (101, true))⟩,
      ⟨(some 104), (.bin .eql), [(.t 103), (.c (.int .i64 0))], (some (101, true))⟩,
      ⟨(some 105), .pick, [(.t 101), (.t 104), (.c (.bool false))], none⟩,
      ⟨(some 2), .mv, [(.t 105)], none⟩] [])
    .ret)
    .skip))))))))
 (.seq
 (.reg false [
   ⟨(some 2), .mv, [(.c (.bool true))], none⟩] [])
 .ret)))))⟩

def cref03_PinsOK : AFun := ⟨50, [(2, none)],
 (.seq
 (.reg false [
   ⟨(some 2), .mv, [(.c (.bool false))], none⟩] [])
 (.seq
 (.seq
 (.reg false [
   ⟨(some 3), .mv, [(.c (.int .i64 0))], none⟩] [])
 (.block 0
 (.loop
 (.seq
 (.seq
 (.reg false [
   ⟨(some 5), .mv, [(.t 3)], none⟩,
   ⟨(some 6), .mv, [(.t 0)], none⟩,
   ⟨(some 7), .len, [(.t 6)], none⟩,
   ⟨(some 8), (.bin .lss), [(.t 5), (.t 7)], none⟩] [])
 (.cond (.t 8)
  .skip
  (.exit 0)))
 (.seq
 (.block 1
 (.seq
 (.reg false [
   ⟨(some 11), .mv, [(.t 0)], none⟩,
   ⟨(some 12), .mv, [(.t 3)], none⟩,
   ⟨(some 13), (.iad 3), [(.t 11), (.t 12)], none⟩,
   ⟨(some 14), (.ld true 3), [(.t 13)], none⟩,
   ⟨(some 4), (.alloc [(.int .i64 0), (.int .i64 0), (.string ⟨#[]⟩)]), [], none⟩,
   ⟨none, (.st 3), [(.t 4), (.t 14)], none⟩] [])
 (.seq
 (.reg true [
   ⟨(some 15), (.fad 0), [(.t 4)], none⟩,
   ⟨(some 16), (.ld false 1), [(.t 15)], none⟩,
   ⟨(some 17), .call, [(.f nref03_key), (.t 16)], none⟩,
   ⟨(some 18), (.un .not), [(.t 17)], none⟩,
   ⟨(some 19), .mv, [(.t 18)], none⟩,
   ⟨(some 20), .mv, [(.t 3)], (some (19, false))⟩,
   ⟨(some 21), (.bin .gtr), [(.t 20), (.c (.int .i64 0))], (some (19, false))⟩,
   ⟨(some 22), .mv, [(.t 21)], (some (19, false))⟩,
   ⟨(some 23), (.fad 0), [(.t 4)], (some (22, true))⟩,
   ⟨(some 24), (.ld false 1), [(.t 23)], (some (22, true))⟩,
   ⟨(some 25), .mv, [(.t 0)], (some (22, true))⟩,
   ⟨(some 26), .mv, [(.t 3)], (some (22, true))⟩,
   ⟨(some 27), (.bin .sub), [(.t 26), (.c (.int .i64 1))], (some (22, true))⟩,
   ⟨(some 28), (.iad 3), [(.t 25), (.t 27)], (some (22, true))⟩,
   ⟨(some 29), (.fad 0), [(.t 28)], (some (22, true))⟩,
   ⟨(some 30), (.ld false 1), [(.t 29)], (some (22, true))⟩,
   ⟨(some 31), (.bin .leq), [(.t 24), (.t 30)], (some (22, true))⟩,
   ⟨(some 32), .pick, [(.t 22), (.t 31), (.c (.bool false))], (some (19, false))⟩,
   ⟨(some 33), .pick, [(.t 19), (.c (.bool true)), (.t 32)], none⟩,
   ⟨(some 34), .mv, [(.t 33)], none⟩,
   ⟨(some 35), (.fad 1), [(.t 4)], (some (34, false))⟩,
   ⟨(some 36), (.ld false 1), [(.t 35)], (some (34, false))⟩,
   ⟨(some 37), (.bin .lss), [(.t 36), (.c (.int .i64 1))], (some (34, false))⟩,
   ⟨(some 38), .pick, [(.t 34), (.c (.bool true)), (.t 37)], none⟩,
   ⟨(some 39), .mv, [(.t 38)], none⟩,
   ⟨(some 40), (.fad 1), [(.t 4)], (some (39, false))⟩,
   ⟨(some 41), (.ld false 1), [(.t 40)], (some (39, false))⟩,
   ⟨(some 42), (.bin .gtr), [(.t 41), (.c (.int .i64 200))], (some (39, false))⟩,
   ⟨(some 43), .pick, [(.t 39), (.c (.bool true)), (.t 42)], none⟩,
   ⟨(some 44), .mv, [(.t 43)], none⟩,
   ⟨(some 45), (.fad 2), [(.t 4)], (some (44, false))⟩,
   ⟨(some 46), (.ld false 1), [(.t 45)], (some (44, false))⟩,
   ⟨(some 47), .lens, [(.t 46)], (some (44, false))⟩,
   ⟨(some 48), (.bin .neq), [(.t 47), (.c (.int .i64 32))], (some (44, false))⟩,
   ⟨(some 49), .pick, [(.t 44), (.c (.bool true)), (.t 48)], none⟩] [[], [0], [1], [2], [3, 2], [4], [5, 4], [6, 4, 4], [7], [8, 7], [7], [7], [11, 7], [10, 12, 7], [13, 7], [14, 7], [9, 15, 7], [7, 16, 4], [4, 17], [18, 7], [19], [20, 19], [21, 19], [19, 22], [23, 19], [24], [25, 24], [26, 24], [24, 27], [28, 24], [29], [30, 29], [31, 29], [32, 29], [29, 33]])
 (.cond (.t 49)
  (.seq
  (.reg false [
    ⟨(some 2), .mv, [(.c (.bool false))], none⟩] [])
  .ret)
  .skip))))
 (.reg false [
   ⟨(some 9), .mv, [(.t 3)], none⟩,
   ⟨(some 10), (.bin .add), [(.t 9), (.c (.int .i64 1))], none⟩,
   ⟨(some 3), .mv, [(.t 10)], none⟩] []))))))
 (.seq
 (.reg false [
   ⟨(some 2), .mv, [(.c (.bool true))], none⟩] [])
 .ret)))⟩

def cslices_stableCmpFunc_api_Vouch : AFun := ⟨63, [],
 (.seq
 (.reg false [
   ⟨(some 6), .mv, [(.c (.int .i64 20))], none⟩] [])
 (.seq
 (.reg false [
   ⟨(some 10), .mv, [(.t 6)], none⟩,
   ⟨(some 7), .mv, [(.c (.int .i64 0))], none⟩,
   ⟨(some 8), .mv, [(.t 10)], none⟩] [])
 (.seq
 (.block 0
 (.loop
 (.seq
 (.seq
 (.reg false [
   ⟨(some 11), .mv, [(.t 8)], none⟩,
   ⟨(some 12), .mv, [(.t 1)], none⟩,
   ⟨(some 13), (.bin .leq), [(.t 11), (.t 12)], none⟩] [])
 (.cond (.t 13)
  .skip
  (.exit 0)))
 (.block 1
 (.seq
 (.reg false [
   ⟨(some 14), .mv, [(.t 0)], none⟩,
   ⟨(some 15), .mv, [(.t 7)], none⟩,
   ⟨(some 16), .mv, [(.t 8)], none⟩,
   ⟨(some 17), .mv, [(.t 2)], none⟩,
   ⟨(some 18), .call, [(.f nslices_insertionSortCmpFunc_api_Vouch), (.t 14), (.t 15), (.t 16), (.t 17)], none⟩] [])
 (.seq
 (.reg false [
   ⟨(some 19), .mv, [(.t 8)], none⟩,
   ⟨(some 7), .mv, [(.t 19)], none⟩] [])
 (.reg false [
   ⟨(some 20), .mv, [(.t 8)], none⟩,
   ⟨(some 21), .mv, [(.t 6)], none⟩,
   ⟨(some 22), (.bin .add), [(.t 20), (.t 21)], none⟩,
   ⟨(some 8), .mv, [(.t 22)], none⟩] [])))))))
 (.seq
 (.reg false [
   ⟨(some 23), .mv, [(.t 0)], none⟩,
   ⟨(some 24), .mv, [(.t 7)], none⟩,
   ⟨(some 25), .mv, [(.t 1)], none⟩,
   ⟨(some 26), .mv, [(.t 2)], none⟩,
   ⟨(some 27), .call, [(.f nslices_insertionSortCmpFunc_api_Vouch), (.t 23), (.t 24), (.t 25), (.t 26)], none⟩] [])
 (.block 2
 (.loop
 (.seq
 (.seq
 (.reg false [
   ⟨(some 28), .mv, [(.t 6)], none⟩,
   ⟨(some 29), .mv, [(.t 1)], none⟩,
   ⟨(some 30), (.bin .lss), [(.t 28), (.t 29)], none⟩] [])
 (.cond (.t 30)
  .skip
  (.exit 2)))
 (.block 3
 (.seq
 (.reg false [
   ⟨(some 31), .mv, [(.t 6)], none⟩,
   ⟨(some 32), (.bin .mul), [(.c (.int .i64 2)), (.t 31)], none⟩,
   ⟨(some 7), .mv, [(.c (.int .i64 0))], none⟩,
   ⟨(some 8), .mv, [(.t 32)], none⟩] [])
 (.seq
 (.block 4
 (.loop
 (.seq
 (.seq
 (.reg false [
   ⟨(some 33), .mv, [(.t 8)], none⟩,
   ⟨(some 34), .mv, [(.t 1)], none⟩,
   ⟨(some 35), (.bin .leq), [(.t 33), (.t 34)], none⟩] [])
 (.cond (.t 35)
  .skip
  (.exit 4)))
 (.block 5
 (.seq
 (.reg false [
   ⟨(some 36), .mv, [(.t 0)], none⟩,
   ⟨(some 37), .mv, [(.t 7)], none⟩,
   ⟨(some 38), .mv, [(.t 7)], none⟩,
   ⟨(some 39), .mv, [(.t 6)], none⟩,
   ⟨(some 40), (.bin .add), [(.t 38), (.t 39)], none⟩,
   ⟨(some 41), .mv, [(.t 8)], none⟩,
   ⟨(some 42), .mv, [(.t 2)], none⟩,
   ⟨(some 43), .call, [(.f nslices_symMergeCmpFunc_api_Vouch), (.t 36), (.t 37), (.t 40), (.t 41), (.t 42)], none⟩] [])
 (.seq
 (.reg false [
   ⟨(some 44), .mv, [(.t 8)], none⟩,
   ⟨(some 7), .mv, [(.t 44)], none⟩] [])
 (.reg false [
   ⟨(some 45), .mv, [(.t 8)], none⟩,
   ⟨(some 46), .mv, [(.t 6)], none⟩,
   ⟨(some 47), (.bin .mul), [(.c (.int .i64 2)), (.t 46)], none⟩,
   ⟨(some 48), (.bin .add), [(.t 45), (.t 47)], none⟩,
   ⟨(some 8), .mv, [(.t 48)], none⟩] [])))))))
 (.seq
 (.seq
 (.reg false [
   ⟨(some 49), .mv, [(.t 7)], none⟩,
   ⟨(some 50), .mv, [(.t 6)], none⟩,
   ⟨(some 51), (.bin .add), [(.t 49), (.t 50)], none⟩,
   ⟨(some 9), .mv, [(.t 51)], none⟩] [])
 (.seq
 (.reg false [
   ⟨(some 52), .mv, [(.t 9)], none⟩,
   ⟨(some 53), .mv, [(.t 1)], none⟩,
   ⟨(some 54), (.bin .lss), [(.t 52), (.t 53)], none⟩] [])
 (.cond (.t 54)
  (.reg false [
    ⟨(some 55), .mv, [(.t 0)], none⟩,
    ⟨(some 56), .mv, [(.t 7)], none⟩,
    ⟨(some 57), .mv, [(.t 9)], none⟩,
    ⟨(some 58), .mv, [(.t 1)], none⟩,
    ⟨(some 59), .mv, [(.t 2)], none⟩,
    ⟨(some 60), .call, [(.f nslices_symMergeCmpFunc_api_Vouch), (.t 55), (.t 56), (.t 57), (.t 58), (.t 59)], none⟩] [])
  .skip)))
 (.reg false [
   ⟨(some 61), .mv, [(.t 6)], none⟩,
   ⟨(some 62), (.bin .mul), [(.t 61), (.c (.int .i64 2))], none⟩,
   ⟨(some 6), .mv, [(.t 62)], none⟩] []))))))))))))⟩

def cref03_Sealed : AFun := ⟨17, [(2, none)],
 (.seq
 (.reg false [
   ⟨(some 1), (.box 13), [(.t 0)], none⟩,
   ⟨(some 2), .mv, [(.c (.bool false))], none⟩] [])
 (.seq
 (.reg true [
   ⟨(some 3), (.fad 11), [(.t 1)], none⟩,
   ⟨(some 4), (.fad 0), [(.t 3)], none⟩,
   ⟨(some 5), (.ld false 1), [(.t 4)], none⟩,
   ⟨(some 6), (.fad 0), [(.t 1)], none⟩,
   ⟨(some 7), (.ld false 1), [(.t 6)], none⟩,
   ⟨(some 8), (.bin .eql), [(.t 5), (.t 7)], none⟩,
   ⟨(some 9), .mv, [(.t 8)], none⟩,
   ⟨(some 10), (.fad 11), [(.t 1)], (some (9, true))⟩,
   ⟨(some 11), (.fad 1), [(.t 10)], (some (9, true))⟩,
   ⟨(some 12), (.ld false 1), [(.t 11)], (some (9, true))⟩,
   ⟨(some 13), (.ld true 13), [(.t 1)], (some (9, true))⟩,
   ⟨(some 14), .call, [(.f nref03_Digest), (.t 13)], (some (9, true))⟩,
   ⟨(some 15), (.bin .eql), [(.t 12), (.t 14)], (some (9, true))⟩,
   ⟨(some 16), .pick, [(.t 9), (.t 15), (.c (.bool false))], none⟩,
   ⟨(some 2), .mv, [(.t 16)], none⟩] [[], [0], [1], [], [3], [2, 4], [5], [6], [7, 6], [8, 6], [6], [10, 6, 6], [9, 11, 6], [6, 12], [13, 11, 0, 1, 2, 3, 4, 5, 6, 7, 8, 9, 10, 11, 12, 13]])
 .ret))⟩

def cref03_SamePins : AFun := ⟨26, [(4, none)],
 (.seq
 (.reg false [
   ⟨(some 4), .mv, [(.c (.bool false))], none⟩] [])
 (.seq
 (.seq
 (.reg false [
   ⟨(some 6), .mv, [(.t 0)], none⟩,
   ⟨(some 7), .len, [(.t 6)], none⟩,
   ⟨(some 8), .mv, [(.t 1)], none⟩,
   ⟨(some 9), .len, [(.t 8)], none⟩,
   ⟨(some 10), (.bin .neq), [(.t 7), (.t 9)], none⟩] [])
 (.cond (.t 10)
  (.seq
  (.reg false [
    ⟨(some 4), .mv, [(.c (.bool false))], none⟩] [])
  .ret)
  .skip))
 (.seq
 (.seq
 (.reg false [
   ⟨(some 5), .mv, [(.c (.int .i64 0))], none⟩] [])
 (.block 0
 (.loop
 (.seq
 (.seq
 (.reg false [
   ⟨(some 11), .mv, [(.t 5)], none⟩,
   ⟨(some 12), .mv, [(.t 0)], none⟩,
   ⟨(some 13), .len, [(.t 12)], none⟩,
   ⟨(some 14), (.bin .lss), [(.t 11), (.t 13)], none⟩] [])
 (.cond (.t 14)
  .skip
  (.exit 0)))
 (.seq
 (.block 1
 (.seq
 (.reg true [
   ⟨(some 17), .mv, [(.t 0)], none⟩,
   ⟨(some 18), .mv, [(.t 5)], none⟩,
   ⟨(some 19), (.iad 3), [(.t 17), (.t 18)], none⟩,
   ⟨(some 20), (.ld true 3), [(.t 19)], none⟩,
   ⟨(some 21), .mv, [(.t 1)], none⟩,
   ⟨(some 22), .mv, [(.t 5)], none⟩,
   ⟨(some 23), (.iad 3), [(.t 21), (.t 22)], none⟩,
   ⟨(some 24), (.ld true 3), [(.t 23)], none⟩,
   ⟨(some 25), (.aeq true [0, 0, 2]), [(.t 20), (.t 24)], none⟩] [[], [], [0, 1], [2], [], [], [4, 5], [6], [3, 7]])
 (.cond (.t 25)
  (.seq
  (.reg false [
    ⟨(some 4), .mv, [(.c (.bool false))], none⟩] [])
  .ret)
  .skip)))
 (.reg false [
   ⟨(some 15), .mv, [(.t 5)], none⟩,
   ⟨(some 16), (.bin .add), [(.t 15), (.c (.int .i64 1))], none⟩,
   ⟨(some 5), .mv, [(.t 16)], none⟩] []))))))
 (.seq
 (.reg false [
   ⟨(some 4), .mv, [(.c (.bool true))], none⟩] [])
 .ret))))⟩

def cref01_constants : AFun := ⟨2, [(0, none)],
 (.seq
 (.reg false [
   ⟨(some 0), .mv, [(.c (.slice none 0 0))], none⟩] [])
 (.seq
 (.reg false [
   ⟨(some 1), (.bsl 1 64 [(.int .u32 0)] [0, 1, 2, 3, 4, 5, 6, 7, 8, 9, 10, 11, 12, 13, 14, 15, 16, 17, 18, 19, 20, 21, 22, 23, 24, 25, 26, 27, 28, 29, 30, 31, 32, 33, 34, 35, 36, 37, 38, 39, 40, 41, 42, 43, 44, 45, 46, 47, 48, 49, 50, 51, 52, 53, 54, 55, 56, 57, 58, 59, 60, 61, 62, 63]), [(.c (.int .u32 1116352408)), (.c (.int .u32 1899447441)), (.c (.int .u32 3049323471)), (.c (.int .u32 3921009573)), (.c (.int .u32 961987163)), (.c (.int .u32 1508970993)), (.c (.int .u32 2453635748)), (.c (.int .u32 2870763221)), (.c (.int .u32 3624381080)), (.c (.int .u32 310598401)), (.c (.int .u32 607225278)), (.c (.int .u32 1426881987)), (.c (.int .u32 1925078388)), (.c (.int .u32 2162078206)), (.c (.int .u32 2614888103)), (.c (.int .u32 3248222580)), (.c (.int .u32 3835390401)), (.c (.int .u32 4022224774)), (.c (.int .u32 264347078)), (.c (.int .u32 604807628)), (.c (.int .u32 770255983)), (.c (.int .u32 1249150122)), (.c (.int .u32 1555081692)), (.c (.int .u32 1996064986)), (.c (.int .u32 2554220882)), (.c (.int .u32 2821834349)), (.c (.int .u32 2952996808)), (.c (.int .u32 3210313671)), (.c (.int .u32 3336571891)), (.c (.int .u32 3584528711)), (.c (.int .u32 113926993)), (.c (.int .u32 338241895)), (.c (.int .u32 666307205)), (.c (.int .u32 773529912)), (.c (.int .u32 1294757372)), (.c (.int .u32 1396182291)), (.c (.int .u32 1695183700)), (.c (.int .u32 1986661051)), (.c (.int .u32 2177026350)), (.c (.int .u32 2456956037)), (.c (.int .u32 2730485921)), (.c (.int .u32 2820302411)), (.c (.int .u32 3259730800)), (.c (.int .u32 3345764771)), (.c (.int .u32 3516065817)), (.c (.int .u32 3600352804)), (.c (.int .u32 4094571909)), (.c (.int .u32 275423344)), (.c (.int .u32 430227734)), (.c (.int .u32 506948616)), (.c (.int .u32 659060556)), (.c (.int .u32 883997877)), (.c (.int .u32 958139571)), (.c (.int .u32 1322822218)), (.c (.int .u32 1537002063)), (.c (.int .u32 1747873779)), (.c (.int .u32 1955562222)), (.c (.int .u32 2024104815)), (.c (.int .u32 2227730452)), (.c (.int .u32 2361852424)), (.c (.int .u32 2428436474)), (.c (.int .u32 2756734187)), (.c (.int .u32 3204031479)), (.c (.int .u32 3329325298))], none⟩,
   ⟨(some 0), .mv, [(.t 1)], none⟩] [])
 .ret))⟩

def cref01_block : AFun := ⟨256, [(6, none)],
 (.seq
 (.reg false [
   ⟨(some 6), .mv, [(.c (.slice none 0 0))], none⟩] [])
 (.seq
 (.reg false [
   ⟨(some 19), (.mks 1 4 [(.int .u32 0)]), [(.c (.int .i64 64)), (.c (.int .i64 64))], none⟩,
   ⟨(some 7), .mv, [(.t 19)], none⟩] [])
 (.seq
 (.seq
 (.reg false [
   ⟨(some 8), .mv, [(.c (.int .i64 0))], none⟩] [])
 (.block 0
 (.loop
 (.seq
 (.seq
 (.reg false [
   ⟨(some 20), .mv, [(.t 8)], none⟩,
   ⟨(some 21), (.bin .lss), [(.t 20), (.c (.int .i64 16))], none⟩] [])
 (.cond (.t 21)
  .skip
  (.exit 0)))
 (.seq
 (.block 1
 (.reg true [
   ⟨(some 24), .mv, [(.t 7)], none⟩,
   ⟨(some 25), .mv, [(.t 8)], none⟩,
   ⟨(some 26), .mv, [(.t 1)], none⟩,
   ⟨(some 27), .mv, [(.t 8)], none⟩,
   ⟨(some 28), (.bin .mul), [(.c (.int .i64 4)), (.t 27)], none⟩,
   ⟨(some 29), (.iad 1), [(.t 26), (.t 28)], none⟩,
   ⟨(some 30), (.ld false 1), [(.t 29)], none⟩,
   ⟨(some 31), (.cvt .u32), [(.t 30)], none⟩,
   ⟨(some 32), (.bin .shl), [(.t 31), (.c (.int .u64 24))], none⟩,
   ⟨(some 33), .mv, [(.t 1)], none⟩,
   ⟨(some 34), .mv, [(.t 8)], none⟩,
   ⟨(some 35), (.bin .mul), [(.c (.int .i64 4)), (.t 34)], none⟩,
   ⟨(some 36), (.bin .add), [(.t 35), (.c (.int .i64 1))], none⟩,
   ⟨(some 37), (.iad 1), [(.t 33), (.t 36)], none⟩,
   ⟨(some 38), (.ld false 1), [(.t 37)], none⟩,
   ⟨(some 39), (.cvt .u32), [(.t 38)], none⟩,
   ⟨(some 40), (.bin .shl), [(.t 39), (.c (.int .u64 16))], none⟩,
   ⟨(some 41), (.bin .or), [(.t 32), (.t 40)], none⟩,
   ⟨(some 42), .mv, [(.t 1)], none⟩,
   ⟨(some 43), .mv, [(.t 8)], none⟩,
   ⟨(some 44), (.bin .mul), [(.c (.int .i64 4)), (.t 43)], none⟩,
   ⟨(some 45), (.bin .add), [(.t 44), (.c (.int .i64 2))], none⟩,
   ⟨(some 46), (.iad 1), [(.t 42), (.t 45)], none⟩,
   ⟨(some 47), (.ld false 1), [(.t 46)], none⟩,
   ⟨(some 48), (.cvt .u32), [(.t 47)], none⟩,
   ⟨(some 49), (.bin .shl), [(.t 48), (.c (.int .u64 8))], none⟩,
   ⟨(some 50), (.bin .or), [(.t 41), (.t 49)], none⟩,
   ⟨(some 51), .mv, [(.t 1)], none⟩,
   ⟨(some 52), .mv, [(.t 8)], none⟩,
   ⟨(some 53), (.bin .mul), [(.c (.int .i64 4)), (.t 52)], none⟩,
   ⟨(some 54), (.bin .add), [(.t 53), (.c (.int .i64 3))], none⟩,
   ⟨(some 55), (.iad 1), [(.t 51), (.t 54)], none⟩,
   ⟨(some 56), (.ld false 1), [(.t 55)], none⟩,
   ⟨(some 57), (.cvt .u32), [(.t 56)], none⟩,
   ⟨(some 58), (.bin .or), [(.t 50), (.t 57)], none⟩,
   ⟨(some 59), (.iad 1), [(.t 24), (.t 25)], none⟩,
   ⟨none, (.st 1), [(.t 59), (.t 58)], none⟩] [[], [], [], [], [3], [2, 4], [5], [6], [7], [], [], [10], [11], [9, 12], [13], [14], [15], [8, 16], [], [], [19], [20], [18, 21], [22], [23], [24], [17, 25], [], [], [28], [29], [27, 30], [31], [32], [26, 33], [0, 1, 0, 1, 2, 3, 4, 5, 6, 7, 8, 9, 10, 11, 12, 13, 14, 15, 16, 17, 18, 19, 20, 21, 22, 23, 24, 25, 26, 27, 28, 29, 30, 31, 32, 33, 34], [35, 34, 0, 1, 2, 3, 4, 5, 6, 7, 8, 9, 10, 11, 12, 13, 14, 15, 16, 17, 18, 19, 20, 21, 22, 23, 24, 25, 26, 27, 28, 29, 30, 31, 32, 33, 34]]))
 (.reg false [
   ⟨(some 22), .mv, [(.t 8)], none⟩,
   ⟨(some 23), (.bin .add), [(.t 22), (.c (.int .i64 1))], none⟩,
   ⟨(some 8), .mv, [(.t 23)], none⟩] []))))))
 (.seq
 (.seq
 (.reg false [
   ⟨(some 9), .mv, [(.c (.int .i64 16))], none⟩] [])
 (.block 2
 (.loop
 (.seq
 (.seq
 (.reg false [
   ⟨(some 60), .mv, [(.t 9)], none⟩,
   ⟨(some 61), (.bin .lss), [(.t 60), (.c (.int .i64 64))], none⟩] [])
 (.cond (.t 61)
  .skip
  (.exit 2)))
 (.seq
 (.block 3
 (.seq
 (.reg true [
   ⟨(some 64), .mv, [(.t 7)], none⟩,
   ⟨(some 65), .mv, [(.t 9)], none⟩,
   ⟨(some 66), (.bin .sub), [(.t 65), (.c (.int .i64 15))], none⟩,
   ⟨(some 67), (.iad 1), [(.t 64), (.t 66)], none⟩,
   ⟨(some 68), (.ld false 1), [(.t 67)], none⟩,
   ⟨(some 69), .call, [(.f nref01_turn), (.t 68), (.c (.int .u64 7))], none⟩,
   ⟨(some 70), .mv, [(.t 7)], none⟩,
   ⟨(some 71), .mv, [(.t 9)], none⟩,
   ⟨(some 72), (.bin .sub), [(.t 71), (.c (.int .i64 15))], none⟩,
   ⟨(some 73), (.iad 1), [(.t 70), (.t 72)], none⟩,
   ⟨(some 74), (.ld false 1), [(.t 73)], none⟩,
   ⟨(some 75), .call, [(.f nref01_turn), (.t 74), (.c (.int .u64 18))], none⟩,
   ⟨(some 76), (.bin .xor), [(.t 69), (.t 75)], none⟩,
   ⟨(some 77), .mv, [(.t 7)], none⟩,
   ⟨(some 78), .mv, [(.t 9)], none⟩,
   ⟨(some 79), (.bin .sub), [(.t 78), (.c (.int .i64 15))], none⟩,
   ⟨(some 80), (.iad 1), [(.t 77), (.t 79)], none⟩,
   ⟨(some 81), (.ld false 1), [(.t 80)], none⟩,
   ⟨(some 82), (.bin .shr), [(.t 81), (.c (.int .u64 3))], none⟩,
   ⟨(some 83), (.bin .xor), [(.t 76), (.t 82)], none⟩,
   ⟨(some 10), .mv, [(.t 83)], none⟩] [[], [], [1], [0, 2], [3], [4], [], [], [7], [6, 8], [9], [10, 5], [5, 11], [], [], [14], [13, 15], [16], [17], [12, 18], [19, 11, 0, 1, 2, 3, 4, 5, 6, 7, 8, 9, 10, 11, 12, 13, 14, 15, 16, 17, 18, 19]])
 (.seq
 (.reg true [
   ⟨(some 84), .mv, [(.t 7)], none⟩,
   ⟨(some 85), .mv, [(.t 9)], none⟩,
   ⟨(some 86), (.bin .sub), [(.t 85), (.c (.int .i64 2))], none⟩,
   ⟨(some 87), (.iad 1), [(.t 84), (.t 86)], none⟩,
   ⟨(some 88), (.ld false 1), [(.t 87)], none⟩,
   ⟨(some 89), .call, [(.f nref01_turn), (.t 88), (.c (.int .u64 17))], none⟩,
   ⟨(some 90), .mv, [(.t 7)], none⟩,
   ⟨(some 91), .mv, [(.t 9)], none⟩,
   ⟨(some 92), (.bin .sub), [(.t 91), (.c (.int .i64 2))], none⟩,
   ⟨(some 93), (.iad 1), [(.t 90), (.t 92)], none⟩,
   ⟨(some 94), (.ld false 1), [(.t 93)], none⟩,
   ⟨(some 95), .call, [(.f nref01_turn), (.t 94), (.c (.int .u64 19))], none⟩,
   ⟨(some 96), (.bin .xor), [(.t 89), (.t 95)], none⟩,
   ⟨(some 97), .mv, [(.t 7)], none⟩,
   ⟨(some 98), .mv, [(.t 9)], none⟩,
   ⟨(some 99), (.bin .sub), [(.t 98), (.c (.int .i64 2))], none⟩,
   ⟨(some 100), (.iad 1), [(.t 97), (.t 99)], none⟩,
   ⟨(some 101), (.ld false 1), [(.t 100)], none⟩,
   ⟨(some 102), (.bin .shr), [(.t 101), (.c (.int .u64 10))], none⟩,
   ⟨(some 103), (.bin .xor), [(.t 96), (.t 102)], none⟩,
   ⟨(some 11), .mv, [(.t 103)], none⟩] [[], [], [1], [0, 2], [3], [4], [], [], [7], [6, 8], [9], [10, 5], [5, 11], [], [], [14], [13, 15], [16], [17], [12, 18], [19, 11, 0, 1, 2, 3, 4, 5, 6, 7, 8, 9, 10, 11, 12, 13, 14, 15, 16, 17, 18, 19]])
 (.reg true [
   ⟨(some 104), .mv, [(.t 7)], none⟩,
   ⟨(some 105), .mv, [(.t 9)], none⟩,
   ⟨(some 106), .mv, [(.t 7)], none⟩,
   ⟨(some 107), .mv, [(.t 9)], none⟩,
   ⟨(some 108), (.bin .sub), [(.t 107), (.c (.int .i64 16))], none⟩,
   ⟨(some 109), (.iad 1), [(.t 106), (.t 108)], none⟩,
   ⟨(some 110), (.ld false 1), [(.t 109)], none⟩,
   ⟨(some 111), .mv, [(.t 10)], none⟩,
   ⟨(some 112), (.bin .add), [(.t 110), (.t 111)], none⟩,
   ⟨(some 113), .mv, [(.t 7)], none⟩,
   ⟨(some 114), .mv, [(.t 9)], none⟩,
   ⟨(some 115), (.bin .sub), [(.t 114), (.c (.int .i64 7))], none⟩,
   ⟨(some 116), (.iad 1), [(.t 113), (.t 115)], none⟩,
   ⟨(some 117), (.ld false 1), [(.t 116)], none⟩,
   ⟨(some 118), (.bin .add), [(.t 112), (.t 117)], none⟩,
   ⟨(some 119), .mv, [(.t 11)], none⟩,
   ⟨(some 120), (.bin .add), [(.t 118), (.t 119)], none⟩,
   ⟨(some 121), (.iad 1), [(.t 104), (.t 105)], none⟩,
   ⟨none, (.st 1), [(.t 121), (.t 120)], none⟩] [[], [], [], [], [3], [2, 4], [5], [], [6, 7], [], [], [10], [9, 11], [12], [8, 13], [], [14, 15], [0, 1, 0, 1, 2, 3, 4, 5, 6, 7, 8, 9, 10, 11, 12, 13, 14, 15, 16], [17, 16, 0, 1, 2, 3, 4, 5, 6, 7, 8, 9, 10, 11, 12, 13, 14, 15, 16]]))))
 (.reg false [
   ⟨(some 62), .mv, [(.t 9)], none⟩,
   ⟨(some 63), (.bin .add), [(.t 62), (.c (.int .i64 1))], none⟩,
   ⟨(some 9), .mv, [(.t 63)], none⟩] []))))))
 (.seq
 (.reg false [
   ⟨(some 122), .mv, [(.t 0)], none⟩,
   ⟨(some 123), (.app 1 4), [(.c (.slice none 0 0)), (.t 122)], none⟩,
   ⟨(some 12), .mv, [(.t 123)], none⟩] [])
 (.seq
 (.seq
 (.reg false [
   ⟨(some 13), .mv, [(.c (.int .i64 0))], none⟩] [])
 (.block 4
 (.loop
 (.seq
 (.seq
 (.reg false [
   ⟨(some 124), .mv, [(.t 13)], none⟩,
   ⟨(some 125), (.bin .lss), [(.t 124), (.c (.int .i64 64))], none⟩] [])
 (.cond (.t 125)
  .skip
  (.exit 4)))
 (.seq
 (.block 5
 (.seq
 (.reg true [
   ⟨(some 128), .mv, [(.t 12)], none⟩,
   ⟨(some 129), (.iad 1), [(.t 128), (.c (.int .i64 4))], none⟩,
   ⟨(some 130), (.ld false 1), [(.t 129)], none⟩,
   ⟨(some 131), .call, [(.f nref01_turn), (.t 130), (.c (.int .u64 6))], none⟩,
   ⟨(some 132), .mv, [(.t 12)], none⟩,
   ⟨(some 133), (.iad 1), [(.t 132), (.c (.int .i64 4))], none⟩,
   ⟨(some 134), (.ld false 1), [(.t 133)], none⟩,
   ⟨(some 135), .call, [(.f nref01_turn), (.t 134), (.c (.int .u64 11))], none⟩,
   ⟨(some 136), (.bin .xor), [(.t 131), (.t 135)], none⟩,
   ⟨(some 137), .mv, [(.t 12)], none⟩,
   ⟨(some 138), (.iad 1), [(.t 137), (.c (.int .i64 4))], none⟩,
   ⟨(some 139), (.ld false 1), [(.t 138)], none⟩,
   ⟨(some 140), .call, [(.f nref01_turn), (.t 139), (.c (.int .u64 25))], none⟩,
   ⟨(some 141), (.bin .xor), [(.t 136), (.t 140)], none⟩,
   ⟨(some 14), .mv, [(.t 141)], none⟩] [[], [0], [1], [2], [], [4], [5], [6, 3], [3, 7], [], [9], [10], [11, 7], [8, 12], [13, 12, 0, 1, 2, 3, 4, 5, 6, 7, 8, 9, 10, 11, 12, 13]])
 (.seq
 (.reg true [
   ⟨(some 142), .mv, [(.t 12)], none⟩,
   ⟨(some 143), (.iad 1), [(.t 142), (.c (.int .i64 4))], none⟩,
   ⟨(some 144), (.ld false 1), [(.t 143)], none⟩,
   ⟨(some 145), .mv, [(.t 12)], none⟩,
   ⟨(some 146), (.iad 1), [(.t 145), (.c (.int .i64 5))], none⟩,
   ⟨(some 147), (.ld false 1), [(.t 146)], none⟩,
   ⟨(some 148), (.bin .and), [(.t 144), (.t 147)], none⟩,
   ⟨(some 149), .mv, [(.t 12)], none⟩,
   ⟨(some 150), (.iad 1), [(.t 149), (.c (.int .i64 4))], none⟩,
   ⟨(some 151), (.ld false 1), [(.t 150)], none⟩,
   ⟨(some 152), (.un .xor), [(.t 151)], none⟩,
   ⟨(some 153), .mv, [(.t 12)], none⟩,
   ⟨(some 154), (.iad 1), [(.t 153), (.c (.int .i64 6))], none⟩,
   ⟨(some 155), (.ld false 1), [(.t 154)], none⟩,
   ⟨(some 156), (.bin .and), [(.t 152), (.t 155)], none⟩,
   ⟨(some 157), (.bin .xor), [(.t 148), (.t 156)], none⟩,
   ⟨(some 15), .mv, [(.t 157)], none⟩] [[], [0], [1], [], [3], [4], [2, 5], [], [7], [8], [9], [], [11], [12], [10, 13], [6, 14], [15, 0, 1, 2, 3, 4, 5, 6, 7, 8, 9, 10, 11, 12, 13, 14, 15]])
 (.seq
 (.reg true [
   ⟨(some 158), .mv, [(.t 12)], none⟩,
   ⟨(some 159), (.iad 1), [(.t 158), (.c (.int .i64 7))], none⟩,
   ⟨(some 160), (.ld false 1), [(.t 159)], none⟩,
   ⟨(some 161), .mv, [(.t 14)], none⟩,
   ⟨(some 162), (.bin .add), [(.t 160), (.t 161)], none⟩,
   ⟨(some 163), .mv, [(.t 15)], none⟩,
   ⟨(some 164), (.bin .add), [(.t 162), (.t 163)], none⟩,
   ⟨(some 165), .mv, [(.t 2)], none⟩,
   ⟨(some 166), .mv, [(.t 13)], none⟩,
   ⟨(some 167), (.iad 1), [(.t 165), (.t 166)], none⟩,
   ⟨(some 168), (.ld false 1), [(.t 167)], none⟩,
   ⟨(some 169), (.bin .add), [(.t 164), (.t 168)], none⟩,
   ⟨(some 170), .mv, [(.t 7)], none⟩,
   ⟨(some 171), .mv, [(.t 13)], none⟩,
   ⟨(some 172), (.iad 1), [(.t 170), (.t 171)], none⟩,
   ⟨(some 173), (.ld false 1), [(.t 172)], none⟩,
   ⟨(some 174), (.bin .add), [(.t 169), (.t 173)], none⟩,
   ⟨(some 16), .mv, [(.t 174)], none⟩] [[], [0], [1], [], [2, 3], [], [4, 5], [], [], [7, 8], [9], [6, 10], [], [], [12, 13], [14], [11, 15], [16, 0, 1, 2, 3, 4, 5, 6, 7, 8, 9, 10, 11, 12, 13, 14, 15, 16]])
 (.seq
 (.reg true [
   ⟨(some 175), .mv, [(.t 12)], none⟩,
   ⟨(some 176), (.iad 1), [(.t 175), (.c (.int .i64 0))], none⟩,
   ⟨(some 177), (.ld false 1), [(.t 176)], none⟩,
   ⟨(some 178), .call, [(.f nref01_turn), (.t 177), (.c (.int .u64 2))], none⟩,
   ⟨(some 179), .mv, [(.t 12)], none⟩,
   ⟨(some 180), (.iad 1), [(.t 179), (.c (.int .i64 0))], none⟩,
   ⟨(some 181), (.ld false 1), [(.t 180)], none⟩,
   ⟨(some 182), .call, [(.f nref01_turn), (.t 181), (.c (.int .u64 13))], none⟩,
   ⟨(some 183), (.bin .xor), [(.t 178), (.t 182)], none⟩,
   ⟨(some 184), .mv, [(.t 12)], none⟩,
   ⟨(some 185), (.iad 1), [(.t 184), (.c (.int .i64 0))], none⟩,
   ⟨(some 186), (.ld false 1), [(.t 185)], none⟩,
   ⟨(some 187), .call, [(.f nref01_turn), (.t 186), (.c (.int .u64 22))], none⟩,
   ⟨(some 188), (.bin .xor), [(.t 183), (.t 187)], none⟩,
   ⟨(some 14), .mv, [(.t 188)], none⟩] [[], [0], [1], [2], [], [4], [5], [6, 3], [3, 7], [], [9], [10], [11, 7], [8, 12], [13, 12, 0, 1, 2, 3, 4, 5, 6, 7, 8, 9, 10, 11, 12, 13]])
 (.seq
 (.reg true [
   ⟨(some 189), .mv, [(.t 12)], none⟩,
   ⟨(some 190), (.iad 1), [(.t 189), (.c (.int .i64 0))], none⟩,
   ⟨(some 191), (.ld false 1), [(.t 190)], none⟩,
   ⟨(some 192), .mv, [(.t 12)], none⟩,
   ⟨(some 193), (.iad 1), [(.t 192), (.c (.int .i64 1))], none⟩,
   ⟨(some 194), (.ld false 1), [(.t 193)], none⟩,
   ⟨(some 195), (.bin .and), [(.t 191), (.t 194)], none⟩,
   ⟨(some 196), .mv, [(.t 12)], none⟩,
   ⟨(some 197), (.iad 1), [(.t 196), (.c (.int .i64 0))], none⟩,
   ⟨(some 198), (.ld false 1), [(.t 197)], none⟩,
   ⟨(some 199), .mv, [(.t 12)], none⟩,
   ⟨(some 200), (.iad 1), [(.t 199), (.c (.int .i64 2))], none⟩,
   ⟨(some 201), (.ld false 1), [(.t 200)], none⟩,
   ⟨(some 202), (.bin .and), [(.t 198), (.t 201)], none⟩,
   ⟨(some 203), (.bin .xor), [(.t 195), (.t 202)], none⟩,
   ⟨(some 204), .mv, [(.t 12)], none⟩,
   ⟨(some 205), (.iad 1), [(.t 204), (.c (.int .i64 1))], none⟩,
   ⟨(some 206), (.ld false 1), [(.t 205)], none⟩,
   ⟨(some 207), .mv, [(.t 12)], none⟩,
   ⟨(some 208), (.iad 1), [(.t 207), (.c (.int .i64 2))], none⟩,
   ⟨(some 209), (.ld false 1), [(.t 208)], none⟩,
   ⟨(some 210), (.bin .and), [(.t 206), (.t 209)], none⟩,
   ⟨(some 211), (.bin .xor), [(.t 203), (.t 210)], none⟩,
   ⟨(some 17), .mv, [(.t 211)], none⟩] [[], [0], [1], [], [3], [4], [2, 5], [], [7], [8], [], [10], [11], [9, 12], [6, 13], [], [15], [16], [], [18], [19], [17, 20], [14, 21], [22, 0, 1, 2, 3, 4, 5, 6, 7, 8, 9, 10, 11, 12, 13, 14, 15, 16, 17, 18, 19, 20, 21, 22]])
 (.reg true [
   ⟨(some 212), .mv, [(.t 16)], none⟩,
   ⟨(some 213), .mv, [(.t 14)], none⟩,
   ⟨(some 214), (.bin .add), [(.t 212), (.t 213)], none⟩,
   ⟨(some 215), .mv, [(.t 17)], none⟩,
   ⟨(some 216), (.bin .add), [(.t 214), (.t 215)], none⟩,
   ⟨(some 217), .mv, [(.t 12)], none⟩,
   ⟨(some 218), (.iad 1), [(.t 217), (.c (.int .i64 0))], none⟩,
   ⟨(some 219), (.ld false 1), [(.t 218)], none⟩,
   ⟨(some 220), .mv, [(.t 12)], none⟩,
   ⟨(some 221), (.iad 1), [(.t 220), (.c (.int .i64 1))], none⟩,
   ⟨(some 222), (.ld false 1), [(.t 221)], none⟩,
   ⟨(some 223), .mv, [(.t 12)], none⟩,
   ⟨(some 224), (.iad 1), [(.t 223), (.c (.int .i64 2))], none⟩,
   ⟨(some 225), (.ld false 1), [(.t 224)], none⟩,
   ⟨(some 226), .mv, [(.t 12)], none⟩,
   ⟨(some 227), (.iad 1), [(.t 226), (.c (.int .i64 3))], none⟩,
   ⟨(some 228), (.ld false 1), [(.t 227)], none⟩,
   ⟨(some 229), .mv, [(.t 16)], none⟩,
   ⟨(some 230), (.bin .add), [(.t 228), (.t 229)], none⟩,
   ⟨(some 231), .mv, [(.t 12)], none⟩,
   ⟨(some 232), (.iad 1), [(.t 231), (.c (.int .i64 4))], none⟩,
   ⟨(some 233), (.ld false 1), [(.t 232)], none⟩,
   ⟨(some 234), .mv, [(.t 12)], none⟩,
   ⟨(some 235), (.iad 1), [(.t 234), (.c (.int .i64 5))], none⟩,
   ⟨(some 236), (.ld false 1), [(.t 235)], none⟩,
   ⟨(some 237), .mv, [(.t 12)], none⟩,
   ⟨(some 238), (.iad 1), [(.t 237), (.c (.int .i64 6))], none⟩,
   ⟨(some 239), (.ld false 1), [(.t 238)], none⟩,
   ⟨(some 240), (.bsl 1 8 [(.int .u32 0)] [0, 1, 2, 3, 4, 5, 6, 7]), [(.t 216), (.t 219), (.t 222), (.t 225), (.t 230), (.t 233), (.t 236), (.t 239)], none⟩,
   ⟨(some 12), .mv, [(.t 240)], none⟩] [[], [], [0, 1], [], [2, 3], [], [5], [6], [], [8], [9], [], [11], [12], [], [14], [15], [], [16, 17], [], [19], [20], [], [22], [23], [], [25], [26], [4, 7, 10, 13, 18, 21, 24, 27], [28, 0, 1, 2, 3, 4, 5, 6, 7, 8, 9, 10, 11, 12, 13, 14, 15, 16, 17, 18, 19, 20, 21, 22, 23, 24, 25, 26, 27, 28]])))))))
 (.reg false [
   ⟨(some 126), .mv, [(.t 13)], none⟩,
   ⟨(some 127), (.bin .add), [(.t 126), (.c (.int .i64 1))], none⟩,
   ⟨(some 13), .mv, [(.t 127)], none⟩] []))))))
 (.seq
 (.seq
 (.reg false [
   ⟨(some 18), .mv, [(.c (.int .i64 0))], none⟩] [])
 (.block 6
 (.loop
 (.seq
 (.seq
 (.reg false [
   ⟨(some 241), .mv, [(.t 18)], none⟩,
   ⟨(some 242), (.bin .lss), [(.t 241), (.c (.int .i64 8))], none⟩] [])
 (.cond (.t 242)
  .skip
  (.exit 6)))
 (.seq
 (.block 7
 (.reg true [
   ⟨(some 245), .mv, [(.t 12)], none⟩,
   ⟨(some 246), .mv, [(.t 18)], none⟩,
   ⟨(some 247), (.iad 1), [(.t 245), (.t 246)], none⟩,
   ⟨(some 248), (.ld false 1), [(.t 247)], none⟩,
   ⟨(some 249), .mv, [(.t 0)], none⟩,
   ⟨(some 250), .mv, [(.t 18)], none⟩,
   ⟨(some 251), (.iad 1), [(.t 249), (.t 250)], none⟩,
   ⟨(some 252), (.ld false 1), [(.t 251)], none⟩,
   ⟨(some 253), (.bin .add), [(.t 248), (.t 252)], none⟩,
   ⟨(some 254), (.iad 1), [(.t 245), (.t 246)], none⟩,
   ⟨none, (.st 1), [(.t 254), (.t 253)], none⟩] [[], [], [0, 1], [2], [], [], [4, 5], [6], [3, 7], [0, 1, 0, 1, 2, 3, 4, 5, 6, 7, 8], [9, 8, 0, 1, 2, 3, 4, 5, 6, 7, 8]]))
 (.reg false [
   ⟨(some 243), .mv, [(.t 18)], none⟩,
   ⟨(some 244), (.bin .add), [(.t 243), (.c (.int .i64 1))], none⟩,
   ⟨(some 18), .mv, [(.t 244)], none⟩] []))))))
 (.seq
 (.reg false [
   ⟨(some 255), .mv, [(.t 12)], none⟩,
   ⟨(some 6), .mv, [(.t 255)], none⟩] [])
 .ret))))))))⟩

def cref02_Text : AFun := ⟨11, [(4, none)],
 (.seq
 (.reg false [
   ⟨(some 4), .mv, [(.c (.slice none 0 0))], none⟩] [])
 (.seq
 (.reg false [
   ⟨(some 5), .mv, [(.t 0)], none⟩,
   ⟨(some 6), .mv, [(.t 1)], none⟩,
   ⟨(some 7), .lens, [(.t 6)], none⟩,
   ⟨(some 8), .call, [(.f nref02_Int), (.t 5), (.t 7)], none⟩,
   ⟨(some 9), .mv, [(.t 1)], none⟩,
   ⟨(some 10), .apps, [(.t 8), (.t 9)], none⟩,
   ⟨(some 4), .mv, [(.t 10)], none⟩] [])
 .ret))⟩

def cref02_Int : AFun := ⟨23, [(4, none)],
 (.seq
 (.reg false [
   ⟨(some 4), .mv, [(.c (.slice none 0 0))], none⟩] [])
 (.seq
 (.reg false [
   ⟨(some 7), .mv, [(.t 0)], none⟩,
   ⟨(some 8), (.app 1 1), [(.c (.slice none 0 0)), (.t 7)], none⟩,
   ⟨(some 5), .mv, [(.t 8)], none⟩] [])
 (.seq
 (.seq
 (.reg false [
   ⟨(some 6), .mv, [(.c (.int .i64 7))], none⟩] [])
 (.block 0
 (.loop
 (.seq
 (.seq
 (.reg false [
   ⟨(some 9), .mv, [(.t 6)], none⟩,
   ⟨(some 10), (.bin .geq), [(.t 9), (.c (.int .i64 0))], none⟩] [])
 (.cond (.t 10)
  .skip
  (.exit 0)))
 (.seq
 (.block 1
 (.reg false [
   ⟨(some 13), .mv, [(.t 5)], none⟩,
   ⟨(some 14), .mv, [(.t 1)], none⟩,
   ⟨(some 15), .mv, [(.t 6)], none⟩,
   ⟨(some 16), (.bin .mul), [(.c (.int .i64 8)), (.t 15)], none⟩,
   ⟨(some 17), (.cvt .u64), [(.t 16)], none⟩,
   ⟨(some 18), (.bin .shr), [(.t 14), (.t 17)], none⟩,
   ⟨(some 19), (.cvt .u8), [(.t 18)], none⟩,
   ⟨(some 20), (.bsl 1 1 [(.int .u8 0)] [0]), [(.t 19)], none⟩,
   ⟨(some 21), (.app 1 1), [(.t 13), (.t 20)], none⟩,
   ⟨(some 5), .mv, [(.t 21)], none⟩] []))
 (.reg false [
   ⟨(some 11), .mv, [(.t 6)], none⟩,
   ⟨(some 12), (.bin .sub), [(.t 11), (.c (.int .i64 1))], none⟩,
   ⟨(some 6), .mv, [(.t 12)], none⟩] []))))))
 (.seq
 (.reg false [
   ⟨(some 22), .mv, [(.t 5)], none⟩,
   ⟨(some 4), .mv, [(.t 22)], none⟩] [])
 .ret))))⟩

def cref02_Ints : AFun := ⟨24, [(4, none)],
 (.seq
 (.reg false [
   ⟨(some 4), .mv, [(.c (.slice none 0 0))], none⟩] [])
 (.seq
 (.reg false [
   ⟨(some 7), .mv, [(.t 0)], none⟩,
   ⟨(some 8), .mv, [(.t 1)], none⟩,
   ⟨(some 9), .len, [(.t 8)], none⟩,
   ⟨(some 10), .call, [(.f nref02_Int), (.t 7), (.t 9)], none⟩,
   ⟨(some 5), .mv, [(.t 10)], none⟩] [])
 (.seq
 (.seq
 (.reg false [
   ⟨(some 6), .mv, [(.c (.int .i64 0))], none⟩] [])
 (.block 0
 (.loop
 (.seq
 (.seq
 (.reg false [
   ⟨(some 11), .mv, [(.t 6)], none⟩,
   ⟨(some 12), .mv, [(.t 1)], none⟩,
   ⟨(some 13), .len, [(.t 12)], none⟩,
   ⟨(some 14), (.bin .lss), [(.t 11), (.t 13)], none⟩] [])
 (.cond (.t 14)
  .skip
  (.exit 0)))
 (.seq
 (.block 1
 (.reg false [
   ⟨(some 17), .mv, [(.t 5)], none⟩,
   ⟨(some 18), .mv, [(.t 1)], none⟩,
   ⟨(some 19), .mv, [(.t 6)], none⟩,
   ⟨(some 20), (.iad 1), [(.t 18), (.t 19)], none⟩,
   ⟨(some 21), (.ld false 1), [(.t 20)], none⟩,
   ⟨(some 22), .call, [(.f nref02_Int), (.t 17), (.t 21)], none⟩,
   ⟨(some 5), .mv, [(.t 22)], none⟩] []))
 (.reg false [
   ⟨(some 15), .mv, [(.t 6)], none⟩,
   ⟨(some 16), (.bin .add), [(.t 15), (.c (.int .i64 1))], none⟩,
   ⟨(some 6), .mv, [(.t 16)], none⟩] []))))))
 (.seq
 (.reg false [
   ⟨(some 23), .mv, [(.t 5)], none⟩,
   ⟨(some 4), .mv, [(.t 23)], none⟩] [])
 .ret))))⟩

def cslices_insertionSortCmpFunc_api_Vouch : AFun := ⟨53, [],
 (.seq
 (.reg false [
   ⟨(some 10), .mv, [(.t 1)], none⟩,
   ⟨(some 11), (.bin .add), [(.t 10), (.c (.int .i64 1))], none⟩,
   ⟨(some 8), .mv, [(.t 11)], none⟩] [])
 (.block 0
 (.loop
 (.seq
 (.seq
 (.reg false [
   ⟨(some 12), .mv, [(.t 8)], none⟩,
   ⟨(some 13), .mv, [(.t 2)], none⟩,
   ⟨(some 14), (.bin .lss), [(.t 12), (.t 13)], none⟩] [])
 (.cond (.t 14)
  .skip
  (.exit 0)))
 (.seq
 (.block 1
 (.seq
 (.reg false [
   ⟨(some 17), .mv, [(.t 8)], none⟩,
   ⟨(some 9), .mv, [(.t 17)], none⟩] [])
 (.block 2
 (.loop
 (.seq
 (.seq
 (.reg true [
   ⟨(some 18), .mv, [(.t 9)], none⟩,
   ⟨(some 19), .mv, [(.t 1)], none⟩,
   ⟨(some 20), (.bin .gtr), [(.t 18), (.t 19)], none⟩,
   ⟨(some 21), .mv, [(.t 20)], none⟩,
   ⟨(some 22), .mv, [(.t 3)], (some (21, true))⟩,
   ⟨(some 23), .mv, [(.t 0)], (some (21, true))⟩,
   ⟨(some 24), .mv, [(.t 9)], (some (21, true))⟩,
   ⟨(some 25), (.iad 7), [(.t 23), (.t 24)], (some (21, true))⟩,
   ⟨(some 26), (.ld true 7), [(.t 25)], (some (21, true))⟩,
   ⟨(some 27), .mv, [(.t 0)], (some (21, true))⟩,
   ⟨(some 28), .mv, [(.t 9)], (some (21, true))⟩,
   ⟨(some 29), (.bin .sub), [(.t 28), (.c (.int .i64 1))], (some (21, true))⟩,
   ⟨(some 30), (.iad 7), [(.t 27), (.t 29)], (some (21, true))⟩,
   ⟨(some 31), (.ld true 7), [(.t 30)], (some (21, true))⟩,
   ⟨(some 32), .call, [(.t 22), (.t 26), (.t 31)], (some (21, true))⟩,
   ⟨(some 33), (.bin .lss), [(.t 32), (.c (.int .i64 0))], (some (21, true))⟩,
   ⟨(some 34), .pick, [(.t 21), (.t 33), (.c (.bool false))], none⟩] [[], [], [0, 1], [2], [3], [3], [3], [5, 6, 3], [7, 3], [3], [3], [10, 3], [9, 11, 3], [12, 3], [4, 8, 13, 3, 3], [14, 3], [3, 15]])
 (.cond (.t 34)
  .skip
  (.exit 2)))
 (.seq
 (.block 3
 (.reg true [
   ⟨(some 37), .mv, [(.t 0)], none⟩,
   ⟨(some 38), .mv, [(.t 9)], none⟩,
   ⟨(some 39), .mv, [(.t 0)], none⟩,
   ⟨(some 40), .mv, [(.t 9)], none⟩,
   ⟨(some 41), (.bin .sub), [(.t 40), (.c (.int .i64 1))], none⟩,
   ⟨(some 42), .mv, [(.t 0)], none⟩,
   ⟨(some 43), .mv, [(.t 9)], none⟩,
   ⟨(some 44), (.bin .sub), [(.t 43), (.c (.int .i64 1))], none⟩,
   ⟨(some 45), (.iad 7), [(.t 42), (.t 44)], none⟩,
   ⟨(some 46), (.ld true 7), [(.t 45)], none⟩,
   ⟨(some 47), .mv, [(.t 0)], none⟩,
   ⟨(some 48), .mv, [(.t 9)], none⟩,
   ⟨(some 49), (.iad 7), [(.t 47), (.t 48)], none⟩,
   ⟨(some 50), (.ld true 7), [(.t 49)], none⟩,
   ⟨(some 51), (.iad 7), [(.t 37), (.t 38)], none⟩,
   ⟨none, (.st 7), [(.t 51), (.t 46)], none⟩,
   ⟨(some 52), (.iad 7), [(.t 39), (.t 41)], none⟩,
   ⟨none, (.st 7), [(.t 52), (.t 50)], none⟩] [[], [], [], [], [3], [], [], [6], [5, 7], [8], [], [], [10, 11], [12], [0, 1, 0, 1, 5, 6, 7, 8, 9, 13], [14, 9, 0, 1, 5, 6, 7, 8, 9, 13], [2, 4, 0, 1, 2, 3, 4, 5, 6, 7, 8, 9, 10, 11, 12, 13, 14, 15], [16, 13, 15, 0, 1, 2, 3, 4, 5, 6, 7, 8, 9, 10, 11, 12, 13, 14, 15]]))
 (.reg false [
   ⟨(some 35), .mv, [(.t 9)], none⟩,
   ⟨(some 36), (.bin .sub), [(.t 35), (.c (.int .i64 1))], none⟩,
   ⟨(some 9), .mv, [(.t 36)], none⟩] [])))))))
 (.reg false [
   ⟨(some 15), .mv, [(.t 8)], none⟩,
   ⟨(some 16), (.bin .add), [(.t 15), (.c (.int .i64 1))], none⟩,
   ⟨(some 8), .mv, [(.t 16)], none⟩] []))))))⟩

def cref01_turn : AFun := ⟨13, [(4, none)],
 (.seq
 (.reg false [
   ⟨(some 4), .mv, [(.c (.int .u32 0))], none⟩] [])
 (.seq
 (.reg false [
   ⟨(some 5), .mv, [(.t 0)], none⟩,
   ⟨(some 6), .mv, [(.t 1)], none⟩,
   ⟨(some 7), (.bin .shr), [(.t 5), (.t 6)], none⟩,
   ⟨(some 8), .mv, [(.t 0)], none⟩,
   ⟨(some 9), .mv, [(.t 1)], none⟩,
   ⟨(some 10), (.bin .sub), [(.c (.int .u64 32)), (.t 9)], none⟩,
   ⟨(some 11), (.bin .shl), [(.t 8), (.t 10)], none⟩,
   ⟨(some 12), (.bin .or), [(.t 7), (.t 11)], none⟩,
   ⟨(some 4), .mv, [(.t 12)], none⟩] [])
 .ret))⟩

end Go.Proofs.Ytnphfkceoklkkaa
