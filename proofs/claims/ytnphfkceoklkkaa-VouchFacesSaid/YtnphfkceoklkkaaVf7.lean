/- Texts of this claim, merged. -/
import Derived.Test.YtnphfkceoklkkaaVf1
import Derived.Test.YtnphfkceoklkkaaVf6
set_option linter.unusedSimpArgs false
set_option linter.unusedVariables false
set_option linter.unusedSectionVars false
/- The functions in the small code. Made by program out of the translation. -/
namespace Go.Proofs.Ytnphfkceoklkkaa
open Go
set_option maxRecDepth 100000
def cgraph_With : AFun := ⟨51, [(4, some (true, 3)), (5, none)],
 (.seq
 (.reg false [
   ⟨(some 2), (.box 3), [(.t 0)], none⟩,
   ⟨(some 3), (.box 3), [(.t 1)], none⟩,
   ⟨(some 4), (.alloc [(.int .i64 0), (.slice none 0 0), (.slice none 0 0)]), [], none⟩,
   ⟨(some 5), .mv, [(.c (.int .i64 0))], none⟩] [])
 (.seq
 (.seq
 (.reg false [
   ⟨(some 9), (.ld true 3), [(.t 2)], none⟩,
   ⟨(some 10), .call, [(.f ngraph_Check), (.t 9)], none⟩,
   ⟨(some 11), (.bin .neq), [(.t 10), (.c (.int .i64 0))], none⟩] [])
 (.cond (.t 11)
  (.seq
  (.reg false [
    ⟨(some 12), (.build [(.int .i64 0), (.slice none 0 0), (.slice none 0 0)] []), [], none⟩,
    ⟨none, (.st 3), [(.t 4), (.t 12)], none⟩,
    ⟨(some 5), .mv, [(.c (.int .i64 14))], none⟩] [])
  .ret)
  .skip))
 (.seq
 (.reg false [
   ⟨(some 14), (.fad 1), [(.t 2)], none⟩,
   ⟨(some 15), (.ld false 1), [(.t 14)], none⟩,
   ⟨(some 16), (.ld true 3), [(.t 3)], none⟩,
   ⟨(some 17), .call, [(.f nslices_BinarySearchFunc_Lapi_Edge_api_Edge_api_Edge), (.t 15), (.t 16), (.f ngraph_compare)], none⟩,
   ⟨(some 13), .mv, [(.t 17)], none⟩,
   ⟨(some 18), (.ext 0), [(.t 13)], none⟩,
   ⟨(some 19), (.ext 1), [(.t 13)], none⟩,
   ⟨(some 6), .mv, [(.t 18)], none⟩,
   ⟨(some 7), .mv, [(.t 19)], none⟩] [])
 (.seq
 (.block 0
 (.seq
 (.reg false [
   ⟨(some 21), (.ld true 3), [(.t 2)], none⟩,
   ⟨(some 22), (.ld true 3), [(.t 3)], none⟩,
   ⟨(some 23), .call, [(.f ngraph_fits), (.t 21), (.t 22)], none⟩,
   ⟨(some 24), (.un .not), [(.t 23)], none⟩,
   ⟨(some 20), .mv, [(.t 24)], none⟩] [])
 (.cond (.t 20)
  (.seq
  (.reg false [
    ⟨(some 25), (.build [(.int .i64 0), (.slice none 0 0), (.slice none 0 0)] []), [], none⟩,
    ⟨none, (.st 3), [(.t 4), (.t 25)], none⟩,
    ⟨(some 5), .mv, [(.c (.int .i64 4))], none⟩] [])
  .ret)
  (.seq
  (.reg false [
    ⟨(some 27), (.fad 2), [(.t 3)], none⟩,
    ⟨(some 28), (.ld false 1), [(.t 27)], none⟩,
    ⟨(some 29), .call, [(.f nlists_In), (.t 28), (.c (.int .i64 1)), (.c (.int .i64 3))], none⟩,
    ⟨(some 30), (.un .not), [(.t 29)], none⟩,
    ⟨(some 26), .mv, [(.t 30)], none⟩] [])
  (.cond (.t 26)
   (.seq
   (.reg false [
     ⟨(some 31), (.build [(.int .i64 0), (.slice none 0 0), (.slice none 0 0)] []), [], none⟩,
     ⟨none, (.st 3), [(.t 4), (.t 31)], none⟩,
     ⟨(some 5), .mv, [(.c (.int .i64 2))], none⟩] [])
   .ret)
   (.seq
   (.reg false [
     ⟨(some 33), .mv, [(.t 7)], none⟩,
     ⟨(some 32), .mv, [(.t 33)], none⟩] [])
   (.cond (.t 32)
    (.seq
    (.reg false [
      ⟨(some 34), (.build [(.int .i64 0), (.slice none 0 0), (.slice none 0 0)] []), [], none⟩,
      ⟨none, (.st 3), [(.t 4), (.t 34)], none⟩,
      ⟨(some 5), .mv, [(.c (.int .i64 19))], none⟩] [])
    .ret)
    (.seq
    (.reg false [
      ⟨(some 36), (.fad 1), [(.t 2)], none⟩,
      ⟨(some 37), (.ld false 1), [(.t 36)], none⟩,
      ⟨(some 38), .len, [(.t 37)], none⟩,
      ⟨(some 39), (.bin .geq), [(.t 38), (.c (.int .i64 500))], none⟩,
      ⟨(some 35), .mv, [(.t 39)], none⟩] [])
    (.cond (.t 35)
     (.seq
     (.reg false [
       ⟨(some 40), (.build [(.int .i64 0), (.slice none 0 0), (.slice none 0 0)] []), [], none⟩,
       ⟨none, (.st 3), [(.t 4), (.t 40)], none⟩,
       ⟨(some 5), .mv, [(.c (.int .i64 3))], none⟩] [])
     .ret)
     .skip)))))))))
 (.seq
 (.reg false [
   ⟨(some 41), (.ld true 3), [(.t 2)], none⟩,
   ⟨(some 42), .call, [(.f ngraph_copied), (.t 41)], none⟩,
   ⟨(some 8), (.alloc [(.int .i64 0), (.slice none 0 0), (.slice none 0 0)]), [], none⟩,
   ⟨none, (.st 3), [(.t 8), (.t 42)], none⟩] [])
 (.seq
 (.reg false [
   ⟨(some 43), (.fad 1), [(.t 8)], none⟩,
   ⟨(some 44), (.ld false 1), [(.t 43)], none⟩,
   ⟨(some 45), .mv, [(.t 6)], none⟩,
   ⟨(some 46), (.ld true 3), [(.t 3)], none⟩,
   ⟨(some 47), (.bsl 3 1 [(.int .i64 0), (.int .i64 0), (.int .i64 0)] [0]), [(.t 46)], none⟩,
   ⟨(some 48), .call, [(.f nslices_Insert_Lapi_Edge_api_Edge), (.t 44), (.t 45), (.t 47)], none⟩,
   ⟨(some 49), (.fad 1), [(.t 8)], none⟩,
   ⟨none, (.st 1), [(.t 49), (.t 48)], none⟩] [])
 (.seq
 (.reg false [
   ⟨(some 50), (.ld true 3), [(.t 8)], none⟩,
   ⟨none, (.st 3), [(.t 4), (.t 50)], none⟩,
   ⟨(some 5), .mv, [(.c (.int .i64 0))], none⟩] [])
 .ret)))))))⟩

def cref11_Same : AFun := ⟨46, [(4, none)],
 (.seq
 (.reg false [
   ⟨(some 2), (.box 3), [(.t 0)], none⟩,
   ⟨(some 3), (.box 3), [(.t 1)], none⟩,
   ⟨(some 4), .mv, [(.c (.bool false))], none⟩] [])
 (.seq
 (.seq
 (.reg false [
   ⟨(some 6), (.fad 0), [(.t 2)], none⟩,
   ⟨(some 7), (.ld false 1), [(.t 6)], none⟩,
   ⟨(some 8), (.fad 0), [(.t 3)], none⟩,
   ⟨(some 9), (.ld false 1), [(.t 8)], none⟩,
   ⟨(some 10), (.bin .neq), [(.t 7), (.t 9)], none⟩,
   ⟨(some 11), .mv, [(.t 10)], none⟩,
   ⟨(some 12), (.fad 1), [(.t 2)], (some (11, false))⟩,
   ⟨(some 13), (.ld false 1), [(.t 12)], (some (11, false))⟩,
   ⟨(some 14), .len, [(.t 13)], (some (11, false))⟩,
   ⟨(some 15), (.fad 1), [(.t 3)], (some (11, false))⟩,
   ⟨(some 16), (.ld false 1), [(.t 15)], (some (11, false))⟩,
   ⟨(some 17), .len, [(.t 16)], (some (11, false))⟩,
   ⟨(some 18), (.bin .neq), [(.t 14), (.t 17)], (some (11, false))⟩,
   ⟨(some 19), .pick, [(.t 11), (.c (.bool true)), (.t 18)], none⟩,
   ⟨(some 20), .mv, [(.t 19)], none⟩,
   ⟨(some 21), (.fad 2), [(.t 2)], (some (20, false))⟩,
   ⟨(some 22), (.ld false 1), [(.t 21)], (some (20, false))⟩,
   ⟨(some 23), (.fad 2), [(.t 3)], (some (20, false))⟩,
   ⟨(some 24), (.ld false 1), [(.t 23)], (some (20, false))⟩,
   ⟨(some 25), .call, [(.f nref03_SameInts), (.t 22), (.t 24)], (some (20, false))⟩,
   ⟨(some 26), (.un .not), [(.t 25)], (some (20, false))⟩,
   ⟨(some 27), .pick, [(.t 20), (.c (.bool true)), (.t 26)], none⟩] [])
 (.cond (.t 27)
  (.seq
  (.reg false [
    ⟨(some 4), .mv, [(.c (.bool false))], none⟩] [])
  .ret)
  .skip))
 (.seq
 (.seq
 (.reg false [
   ⟨(some 5), .mv, [(.c (.int .i64 0))], none⟩] [])
 (.block 0
 (.loop
 (.seq
 (.seq
 (.reg false [
   ⟨(some 28), .mv, [(.t 5)], none⟩,
   ⟨(some 29), (.fad 1), [(.t 2)], none⟩,
   ⟨(some 30), (.ld false 1), [(.t 29)], none⟩,
   ⟨(some 31), .len, [(.t 30)], none⟩,
   ⟨(some 32), (.bin .lss), [(.t 28), (.t 31)], none⟩] [])
 (.cond (.t 32)
  .skip
  (.exit 0)))
 (.seq
 (.block 1
 (.seq
 (.reg true [
   ⟨(some 35), (.fad 1), [(.t 2)], none⟩,
   ⟨(some 36), (.ld false 1), [(.t 35)], none⟩,
   ⟨(some 37), .mv, [(.t 5)], none⟩,
   ⟨(some 38), (.iad 3), [(.t 36), (.t 37)], none⟩,
   ⟨(some 39), (.ld true 3), [(.t 38)], none⟩,
   ⟨(some 40), (.fad 1), [(.t 3)], none⟩,
   ⟨(some 41), (.ld false 1), [(.t 40)], none⟩,
   ⟨(some 42), .mv, [(.t 5)], none⟩,
   ⟨(some 43), (.iad 3), [(.t 41), (.t 42)], none⟩,
   ⟨(some 44), (.ld true 3), [(.t 43)], none⟩,
   ⟨(some 45), (.aeq true [0, 0, 0]), [(.t 39), (.t 44)], none⟩] [[], [0], [], [1, 2], [3], [], [5], [], [6, 7], [8], [4, 9]])
 (.cond (.t 45)
  (.seq
  (.reg false [
    ⟨(some 4), .mv, [(.c (.bool false))], none⟩] [])
  .ret)
  .skip)))
 (.reg false [
   ⟨(some 33), .mv, [(.t 5)], none⟩,
   ⟨(some 34), (.bin .add), [(.t 33), (.c (.int .i64 1))], none⟩,
   ⟨(some 5), .mv, [(.t 34)], none⟩] []))))))
 (.seq
 (.reg false [
   ⟨(some 4), .mv, [(.c (.bool true))], none⟩] [])
 .ret))))⟩

def cgraph_Check : AFun := ⟨58, [(2, none)],
 (.seq
 (.reg false [
   ⟨(some 1), (.box 3), [(.t 0)], none⟩,
   ⟨(some 2), .mv, [(.c (.int .i64 0))], none⟩] [])
 (.seq
 (.seq
 (.reg false [
   ⟨(some 5), (.fad 0), [(.t 1)], none⟩,
   ⟨(some 6), (.ld false 1), [(.t 5)], none⟩,
   ⟨(some 7), .call, [(.f nlists_In), (.t 6), (.c (.int .i64 0)), (.c (.int .i64 64))], none⟩,
   ⟨(some 8), (.un .not), [(.t 7)], none⟩,
   ⟨(some 9), .mv, [(.t 8)], none⟩,
   ⟨(some 10), (.fad 1), [(.t 1)], (some (9, false))⟩,
   ⟨(some 11), (.ld false 1), [(.t 10)], (some (9, false))⟩,
   ⟨(some 12), .len, [(.t 11)], (some (9, false))⟩,
   ⟨(some 13), (.bin .gtr), [(.t 12), (.c (.int .i64 500))], (some (9, false))⟩,
   ⟨(some 14), .pick, [(.t 9), (.c (.bool true)), (.t 13)], none⟩,
   ⟨(some 15), .mv, [(.t 14)], none⟩,
   ⟨(some 16), (.fad 2), [(.t 1)], (some (15, false))⟩,
   ⟨(some 17), (.ld false 1), [(.t 16)], (some (15, false))⟩,
   ⟨(some 18), (.fad 0), [(.t 1)], (some (15, false))⟩,
   ⟨(some 19), (.ld false 1), [(.t 18)], (some (15, false))⟩,
   ⟨(some 20), (.bin .sub), [(.t 19), (.c (.int .i64 1))], (some (15, false))⟩,
   ⟨(some 21), .call, [(.f nlists_Rising), (.t 17), (.c (.int .i64 0)), (.t 20)], (some (15, false))⟩,
   ⟨(some 22), (.un .not), [(.t 21)], (some (15, false))⟩,
   ⟨(some 23), .pick, [(.t 15), (.c (.bool true)), (.t 22)], none⟩] [])
 (.cond (.t 23)
  (.seq
  (.reg false [
    ⟨(some 2), .mv, [(.c (.int .i64 14))], none⟩] [])
  .ret)
  .skip))
 (.seq
 (.seq
 (.reg false [
   ⟨(some 24), (.fad 1), [(.t 1)], none⟩,
   ⟨(some 25), (.ld false 1), [(.t 24)], none⟩,
   ⟨(some 26), .len, [(.t 25)], none⟩,
   ⟨(some 27), .mv, [(.c (.int .i64 0))], none⟩] [])
 (.block 0
 (.loop
 (.seq
 (.reg false [
   ⟨(some 28), (.bin .lss), [(.t 27), (.t 26)], none⟩] [])
 (.seq
 (.cond (.t 28)
  .skip
  (.exit 0))
 (.seq
 (.block 1
 (.seq
 (.reg false [
   ⟨(some 29), .mv, [(.t 27)], none⟩,
   ⟨(some 30), (.iad 3), [(.t 25), (.t 27)], none⟩,
   ⟨(some 31), (.ld true 3), [(.t 30)], none⟩,
   ⟨(some 4), (.alloc [(.int .i64 0), (.int .i64 0), (.int .i64 0)]), [], none⟩,
   ⟨(some 3), .mv, [(.t 29)], none⟩,
   ⟨none, (.st 3), [(.t 4), (.t 31)], none⟩] [])
 (.seq
 (.reg true [
   ⟨(some 32), (.ld true 3), [(.t 1)], none⟩,
   ⟨(some 33), (.ld true 3), [(.t 4)], none⟩,
   ⟨(some 34), .call, [(.f ngraph_fits), (.t 32), (.t 33)], none⟩,
   ⟨(some 35), (.un .not), [(.t 34)], none⟩,
   ⟨(some 36), .mv, [(.t 35)], none⟩,
   ⟨(some 37), (.fad 2), [(.t 4)], (some (36, false))⟩,
   ⟨(some 38), (.ld false 1), [(.t 37)], (some (36, false))⟩,
   ⟨(some 39), .call, [(.f nlists_In), (.t 38), (.c (.int .i64 1)), (.c (.int .i64 3))], (some (36, false))⟩,
   ⟨(some 40), (.un .not), [(.t 39)], (some (36, false))⟩,
   ⟨(some 41), .pick, [(.t 36), (.c (.bool true)), (.t 40)], none⟩,
   ⟨(some 42), .mv, [(.t 41)], none⟩,
   ⟨(some 43), .mv, [(.t 3)], (some (42, false))⟩,
   ⟨(some 44), (.bin .gtr), [(.t 43), (.c (.int .i64 0))], (some (42, false))⟩,
   ⟨(some 45), .mv, [(.t 44)], (some (42, false))⟩,
   ⟨(some 46), (.fad 1), [(.t 1)], (some (45, true))⟩,
   ⟨(some 47), (.ld false 1), [(.t 46)], (some (45, true))⟩,
   ⟨(some 48), .mv, [(.t 3)], (some (45, true))⟩,
   ⟨(some 49), (.bin .sub), [(.t 48), (.c (.int .i64 1))], (some (45, true))⟩,
   ⟨(some 50), (.iad 3), [(.t 47), (.t 49)], (some (45, true))⟩,
   ⟨(some 51), (.ld true 3), [(.t 50)], (some (45, true))⟩,
   ⟨(some 52), (.ld true 3), [(.t 4)], (some (45, true))⟩,
   ⟨(some 53), .call, [(.f ngraph_compare), (.t 51), (.t 52)], (some (45, true))⟩,
   ⟨(some 54), (.bin .geq), [(.t 53), (.c (.int .i64 0))], (some (45, true))⟩,
   ⟨(some 55), .pick, [(.t 45), (.t 54), (.c (.bool false))], (some (42, false))⟩,
   ⟨(some 56), .pick, [(.t 42), (.c (.bool true)), (.t 55)], none⟩] [[], [], [0, 1], [2], [3, 2], [4], [5, 4], [6, 4, 4], [7, 4], [4, 8], [9, 7], [10], [11, 10], [12, 10, 10], [13], [14, 13], [13], [16, 13], [15, 17, 13], [18, 13], [13], [19, 20, 13, 13], [21, 13], [13, 22, 10], [10, 23]])
 (.cond (.t 56)
  (.seq
  (.reg false [
    ⟨(some 2), .mv, [(.c (.int .i64 14))], none⟩] [])
  .ret)
  .skip))))
 (.reg false [
   ⟨(some 57), (.bin .add), [(.t 27), (.c (.int .i64 1))], none⟩,
   ⟨(some 27), .mv, [(.t 57)], none⟩] [])))))))
 (.seq
 (.reg false [
   ⟨(some 2), .mv, [(.c (.int .i64 0))], none⟩] [])
 .ret))))⟩

def cgraph_Out : AFun := ⟨28, [(4, none)],
 (.seq
 (.reg false [
   ⟨(some 2), (.box 3), [(.t 0)], none⟩,
   ⟨(some 4), .mv, [(.c (.slice none 0 0))], none⟩] [])
 (.seq
 (.reg false [
   ⟨(some 5), .mv, [(.c (.slice none 0 0))], none⟩] [])
 (.seq
 (.seq
 (.reg false [
   ⟨(some 8), (.fad 1), [(.t 2)], none⟩,
   ⟨(some 9), (.ld false 1), [(.t 8)], none⟩,
   ⟨(some 10), .len, [(.t 9)], none⟩,
   ⟨(some 11), .mv, [(.c (.int .i64 0))], none⟩] [])
 (.block 0
 (.loop
 (.seq
 (.reg false [
   ⟨(some 12), (.bin .lss), [(.t 11), (.t 10)], none⟩] [])
 (.seq
 (.cond (.t 12)
  .skip
  (.exit 0))
 (.seq
 (.block 1
 (.seq
 (.reg false [
   ⟨(some 13), (.iad 3), [(.t 9), (.t 11)], none⟩,
   ⟨(some 14), (.ld true 3), [(.t 13)], none⟩,
   ⟨(some 7), (.alloc [(.int .i64 0), (.int .i64 0), (.int .i64 0)]), [], none⟩,
   ⟨none, (.st 3), [(.t 7), (.t 14)], none⟩] [])
 (.seq
 (.reg false [
   ⟨(some 15), (.fad 0), [(.t 7)], none⟩,
   ⟨(some 16), (.ld false 1), [(.t 15)], none⟩,
   ⟨(some 17), .mv, [(.t 1)], none⟩,
   ⟨(some 18), (.bin .eql), [(.t 16), (.t 17)], none⟩] [])
 (.cond (.t 18)
  (.reg false [
    ⟨(some 19), .mv, [(.t 5)], none⟩,
    ⟨(some 20), (.fad 1), [(.t 7)], none⟩,
    ⟨(some 21), (.ld false 1), [(.t 20)], none⟩,
    ⟨(some 22), (.bsl 1 1 [(.int .i64 0)] [0]), [(.t 21)], none⟩,
    ⟨(some 23), (.app 1 8), [(.t 19), (.t 22)], none⟩,
    ⟨(some 5), .mv, [(.t 23)], none⟩] [])
  .skip))))
 (.reg false [
   ⟨(some 24), (.bin .add), [(.t 11), (.c (.int .i64 1))], none⟩,
   ⟨(some 11), .mv, [(.t 24)], none⟩] [])))))))
 (.seq
 (.reg false [
   ⟨(some 25), .mv, [(.t 5)], none⟩,
   ⟨(some 26), .call, [(.f nslices_Sort_Lint_int), (.t 25)], none⟩] [])
 (.seq
 (.reg false [
   ⟨(some 27), .mv, [(.t 5)], none⟩,
   ⟨(some 4), .mv, [(.t 27)], none⟩] [])
 .ret)))))⟩

def cgraph_In : AFun := ⟨28, [(4, none)],
 (.seq
 (.reg false [
   ⟨(some 2), (.box 3), [(.t 0)], none⟩,
   ⟨(some 4), .mv, [(.c (.slice none 0 0))], none⟩] [])
 (.seq
 (.reg false [
   ⟨(some 5), .mv, [(.c (.slice none 0 0))], none⟩] [])
 (.seq
 (.seq
 (.reg false [
   ⟨(some 8), (.fad 1), [(.t 2)], none⟩,
   ⟨(some 9), (.ld false 1), [(.t 8)], none⟩,
   ⟨(some 10), .len, [(.t 9)], none⟩,
   ⟨(some 11), .mv, [(.c (.int .i64 0))], none⟩] [])
 (.block 0
 (.loop
 (.seq
 (.reg false [
   ⟨(some 12), (.bin .lss), [(.t 11), (.t 10)], none⟩] [])
 (.seq
 (.cond (.t 12)
  .skip
  (.exit 0))
 (.seq
 (.block 1
 (.seq
 (.reg false [
   ⟨(some 13), (.iad 3), [(.t 9), (.t 11)], none⟩,
   ⟨(some 14), (.ld true 3), [(.t 13)], none⟩,
   ⟨(some 7), (.alloc [(.int .i64 0), (.int .i64 0), (.int .i64 0)]), [], none⟩,
   ⟨none, (.st 3), [(.t 7), (.t 14)], none⟩] [])
 (.seq
 (.reg false [
   ⟨(some 15), (.fad 1), [(.t 7)], none⟩,
   ⟨(some 16), (.ld false 1), [(.t 15)], none⟩,
   ⟨(some 17), .mv, [(.t 1)], none⟩,
   ⟨(some 18), (.bin .eql), [(.t 16), (.t 17)], none⟩] [])
 (.cond (.t 18)
  (.reg false [
    ⟨(some 19), .mv, [(.t 5)], none⟩,
    ⟨(some 20), (.fad 0), [(.t 7)], none⟩,
    ⟨(some 21), (.ld false 1), [(.t 20)], none⟩,
    ⟨(some 22), (.bsl 1 1 [(.int .i64 0)] [0]), [(.t 21)], none⟩,
    ⟨(some 23), (.app 1 8), [(.t 19), (.t 22)], none⟩,
    ⟨(some 5), .mv, [(.t 23)], none⟩] [])
  .skip))))
 (.reg false [
   ⟨(some 24), (.bin .add), [(.t 11), (.c (.int .i64 1))], none⟩,
   ⟨(some 11), .mv, [(.t 24)], none⟩] [])))))))
 (.seq
 (.reg false [
   ⟨(some 25), .mv, [(.t 5)], none⟩,
   ⟨(some 26), .call, [(.f nslices_Sort_Lint_int), (.t 25)], none⟩] [])
 (.seq
 (.reg false [
   ⟨(some 27), .mv, [(.t 5)], none⟩,
   ⟨(some 4), .mv, [(.t 27)], none⟩] [])
 .ret)))))⟩

def cref11_Has : AFun := ⟨18, [(4, none)],
 (.seq
 (.reg false [
   ⟨(some 4), .mv, [(.c (.bool false))], none⟩] [])
 (.seq
 (.seq
 (.reg false [
   ⟨(some 5), .mv, [(.c (.int .i64 0))], none⟩] [])
 (.block 0
 (.loop
 (.seq
 (.seq
 (.reg false [
   ⟨(some 6), .mv, [(.t 5)], none⟩,
   ⟨(some 7), .mv, [(.t 0)], none⟩,
   ⟨(some 8), .len, [(.t 7)], none⟩,
   ⟨(some 9), (.bin .lss), [(.t 6), (.t 8)], none⟩] [])
 (.cond (.t 9)
  .skip
  (.exit 0)))
 (.seq
 (.block 1
 (.seq
 (.reg false [
   ⟨(some 12), .mv, [(.t 0)], none⟩,
   ⟨(some 13), .mv, [(.t 5)], none⟩,
   ⟨(some 14), (.iad 1), [(.t 12), (.t 13)], none⟩,
   ⟨(some 15), (.ld false 1), [(.t 14)], none⟩,
   ⟨(some 16), .mv, [(.t 1)], none⟩,
   ⟨(some 17), (.bin .eql), [(.t 15), (.t 16)], none⟩] [])
 (.cond (.t 17)
  (.seq
  (.reg false [
    ⟨(some 4), .mv, [(.c (.bool true))], none⟩] [])
  .ret)
  .skip)))
 (.reg false [
   ⟨(some 10), .mv, [(.t 5)], none⟩,
   ⟨(some 11), (.bin .add), [(.t 10), (.c (.int .i64 1))], none⟩,
   ⟨(some 5), .mv, [(.t 11)], none⟩] []))))))
 (.seq
 (.reg false [
   ⟨(some 4), .mv, [(.c (.bool false))], none⟩] [])
 .ret)))⟩

def cgraph_Same : AFun := ⟨24, [(4, none)],
 (.seq
 (.reg false [
   ⟨(some 2), (.box 3), [(.t 0)], none⟩,
   ⟨(some 3), (.box 3), [(.t 1)], none⟩,
   ⟨(some 4), .mv, [(.c (.bool false))], none⟩] [])
 (.seq
 (.reg false [
   ⟨(some 5), (.fad 0), [(.t 2)], none⟩,
   ⟨(some 6), (.ld false 1), [(.t 5)], none⟩,
   ⟨(some 7), (.fad 0), [(.t 3)], none⟩,
   ⟨(some 8), (.ld false 1), [(.t 7)], none⟩,
   ⟨(some 9), (.bin .eql), [(.t 6), (.t 8)], none⟩,
   ⟨(some 10), .mv, [(.t 9)], none⟩,
   ⟨(some 11), (.fad 1), [(.t 2)], (some (10, true))⟩,
   ⟨(some 12), (.ld false 1), [(.t 11)], (some (10, true))⟩,
   ⟨(some 13), (.fad 1), [(.t 3)], (some (10, true))⟩,
   ⟨(some 14), (.ld false 1), [(.t 13)], (some (10, true))⟩,
   ⟨(some 15), .call, [(.f nslices_Equal_Lapi_Edge_api_Edge), (.t 12), (.t 14)], (some (10, true))⟩,
   ⟨(some 16), .pick, [(.t 10), (.t 15), (.c (.bool false))], none⟩,
   ⟨(some 17), .mv, [(.t 16)], none⟩,
   ⟨(some 18), (.fad 2), [(.t 2)], (some (17, true))⟩,
   ⟨(some 19), (.ld false 1), [(.t 18)], (some (17, true))⟩,
   ⟨(some 20), (.fad 2), [(.t 3)], (some (17, true))⟩,
   ⟨(some 21), (.ld false 1), [(.t 20)], (some (17, true))⟩,
   ⟨(some 22), .call, [(.f nslices_Equal_Lint_int), (.t 19), (.t 21)], (some (17, true))⟩,
   ⟨(some 23), .pick, [(.t 17), (.t 22), (.c (.bool false))], none⟩,
   ⟨(some 4), .mv, [(.t 23)], none⟩] [])
 .ret))⟩

def cref03_SameInts : AFun := ⟨26, [(4, none)],
 (.seq
 (.reg false [
   ⟨(some 4), .mv, [(.c (.bool false))], none⟩] [])
 (.seq
 (.seq
 (.reg false [
   ⟨(some 6), .mv, [(.t 0)], none⟩,
   ⟨(some 7), .len, [(.t 6)], none⟩,
   ⟨(some 8), .mv, [(.t 1)], none⟩,
   ⟨(some 9), .len, [(.t 8)], none⟩,
   ⟨(some 10), (.bin .neq), [(.t 7), (.t 9)], none⟩] [])
 (.cond (.t 10)
  (.seq
  (.reg false [
    ⟨(some 4), .mv, [(.c (.bool false))], none⟩] [])
  .ret)
  .skip))
 (.seq
 (.seq
 (.reg false [
   ⟨(some 5), .mv, [(.c (.int .i64 0))], none⟩] [])
 (.block 0
 (.loop
 (.seq
 (.seq
 (.reg false [
   ⟨(some 11), .mv, [(.t 5)], none⟩,
   ⟨(some 12), .mv, [(.t 0)], none⟩,
   ⟨(some 13), .len, [(.t 12)], none⟩,
   ⟨(some 14), (.bin .lss), [(.t 11), (.t 13)], none⟩] [])
 (.cond (.t 14)
  .skip
  (.exit 0)))
 (.seq
 (.block 1
 (.seq
 (.reg true [
   ⟨(some 17), .mv, [(.t 0)], none⟩,
   ⟨(some 18), .mv, [(.t 5)], none⟩,
   ⟨(some 19), (.iad 1), [(.t 17), (.t 18)], none⟩,
   ⟨(some 20), (.ld false 1), [(.t 19)], none⟩,
   ⟨(some 21), .mv, [(.t 1)], none⟩,
   ⟨(some 22), .mv, [(.t 5)], none⟩,
   ⟨(some 23), (.iad 1), [(.t 21), (.t 22)], none⟩,
   ⟨(some 24), (.ld false 1), [(.t 23)], none⟩,
   ⟨(some 25), (.bin .neq), [(.t 20), (.t 24)], none⟩] [[], [], [0, 1], [2], [], [], [4, 5], [6], [3, 7]])
 (.cond (.t 25)
  (.seq
  (.reg false [
    ⟨(some 4), .mv, [(.c (.bool false))], none⟩] [])
  .ret)
  .skip)))
 (.reg false [
   ⟨(some 15), .mv, [(.t 5)], none⟩,
   ⟨(some 16), (.bin .add), [(.t 15), (.c (.int .i64 1))], none⟩,
   ⟨(some 5), .mv, [(.t 16)], none⟩] []))))))
 (.seq
 (.reg false [
   ⟨(some 4), .mv, [(.c (.bool true))], none⟩] [])
 .ret))))⟩

def cref11_Copy : AFun := ⟨12, [(2, some (true, 3))],
 (.seq
 (.reg false [
   ⟨(some 1), (.box 3), [(.t 0)], none⟩,
   ⟨(some 2), (.alloc [(.int .i64 0), (.slice none 0 0), (.slice none 0 0)]), [], none⟩] [])
 (.seq
 (.reg true [
   ⟨(some 3), (.fad 0), [(.t 1)], none⟩,
   ⟨(some 4), (.ld false 1), [(.t 3)], none⟩,
   ⟨(some 5), (.fad 1), [(.t 1)], none⟩,
   ⟨(some 6), (.ld false 1), [(.t 5)], none⟩,
   ⟨(some 7), (.app 3 24), [(.c (.slice none 0 0)), (.t 6)], none⟩,
   ⟨(some 8), (.fad 2), [(.t 1)], none⟩,
   ⟨(some 9), (.ld false 1), [(.t 8)], none⟩,
   ⟨(some 10), (.app 1 8), [(.c (.slice none 0 0)), (.t 9)], none⟩,
   ⟨(some 11), (.build [(.int .i64 0), (.slice none 0 0), (.slice none 0 0)] [(0, 1), (1, 1), (2, 1)]), [(.t 4), (.t 7), (.t 10)], none⟩,
   ⟨none, (.st 3), [(.t 2), (.t 11)], none⟩] [[], [0], [], [2], [3], [], [5], [6, 4], [1, 4, 7], [8, 7, 0, 1, 2, 3, 4, 5, 6, 7, 8]])
 .ret))⟩

def cref11_With : AFun := ⟨103, [(4, some (true, 3)), (5, none)],
 (.seq
 (.reg false [
   ⟨(some 2), (.box 3), [(.t 0)], none⟩,
   ⟨(some 3), (.box 3), [(.t 1)], none⟩,
   ⟨(some 4), (.alloc [(.int .i64 0), (.slice none 0 0), (.slice none 0 0)]), [], none⟩,
   ⟨(some 5), .mv, [(.c (.int .i64 0))], none⟩] [])
 (.seq
 (.seq
 (.reg false [
   ⟨(some 9), (.ld true 3), [(.t 2)], none⟩,
   ⟨(some 10), .call, [(.f nref11_Check), (.t 9)], none⟩,
   ⟨(some 11), (.bin .neq), [(.t 10), (.c (.int .i64 0))], none⟩] [])
 (.cond (.t 11)
  (.seq
  (.reg false [
    ⟨(some 12), (.build [(.int .i64 0), (.slice none 0 0), (.slice none 0 0)] []), [], none⟩,
    ⟨none, (.st 3), [(.t 4), (.t 12)], none⟩,
    ⟨(some 5), .mv, [(.c (.int .i64 14))], none⟩] [])
  .ret)
  .skip))
 (.seq
 (.reg false [
   ⟨(some 14), (.ld true 3), [(.t 2)], none⟩,
   ⟨(some 15), (.fad 0), [(.t 3)], none⟩,
   ⟨(some 16), (.ld false 1), [(.t 15)], none⟩,
   ⟨(some 17), (.fad 1), [(.t 3)], none⟩,
   ⟨(some 18), (.ld false 1), [(.t 17)], none⟩,
   ⟨(some 19), .call, [(.f nref11_index), (.t 14), (.t 16), (.t 18)], none⟩,
   ⟨(some 13), .mv, [(.t 19)], none⟩,
   ⟨(some 20), (.ext 0), [(.t 13)], none⟩,
   ⟨(some 21), (.ext 1), [(.t 13)], none⟩,
   ⟨(some 6), .mv, [(.t 20)], none⟩,
   ⟨(some 7), .mv, [(.t 21)], none⟩] [])
 (.seq
 (.block 0
 (.seq
 (.reg false [
   ⟨(some 23), (.fad 0), [(.t 3)], none⟩,
   ⟨(some 24), (.ld false 1), [(.t 23)], none⟩,
   ⟨(some 25), (.bin .lss), [(.t 24), (.c (.int .i64 0))], none⟩,
   ⟨(some 26), .mv, [(.t 25)], none⟩,
   ⟨(some 27), (.fad 0), [(.t 3)], (some (26, false))⟩,
   ⟨(some 28), (.ld false 1), [(.t 27)], (some (26, false))⟩,
   ⟨(some 29), (.fad 0), [(.t 2)], (some (26, false))⟩,
   ⟨(some 30), (.ld false 1), [(.t 29)], (some (26, false))⟩,
   ⟨(some 31), (.bin .geq), [(.t 28), (.t 30)], (some (26, false))⟩,
   ⟨(some 32), .pick, [(.t 26), (.c (.bool true)), (.t 31)], none⟩,
   ⟨(some 33), .mv, [(.t 32)], none⟩,
   ⟨(some 34), (.fad 1), [(.t 3)], (some (33, false))⟩,
   ⟨(some 35), (.ld false 1), [(.t 34)], (some (33, false))⟩,
   ⟨(some 36), (.bin .lss), [(.t 35), (.c (.int .i64 0))], (some (33, false))⟩,
   ⟨(some 37), .pick, [(.t 33), (.c (.bool true)), (.t 36)], none⟩,
   ⟨(some 38), .mv, [(.t 37)], none⟩,
   ⟨(some 39), (.fad 1), [(.t 3)], (some (38, false))⟩,
   ⟨(some 40), (.ld false 1), [(.t 39)], (some (38, false))⟩,
   ⟨(some 41), (.fad 0), [(.t 2)], (some (38, false))⟩,
   ⟨(some 42), (.ld false 1), [(.t 41)], (some (38, false))⟩,
   ⟨(some 43), (.bin .geq), [(.t 40), (.t 42)], (some (38, false))⟩,
   ⟨(some 44), .pick, [(.t 38), (.c (.bool true)), (.t 43)], none⟩,
   ⟨(some 45), .mv, [(.t 44)], none⟩,
   ⟨(some 46), (.fad 0), [(.t 3)], (some (45, false))⟩,
   ⟨(some 47), (.ld false 1), [(.t 46)], (some (45, false))⟩,
   ⟨(some 48), (.fad 1), [(.t 3)], (some (45, false))⟩,
   ⟨(some 49), (.ld false 1), [(.t 48)], (some (45, false))⟩,
   ⟨(some 50), (.bin .eql), [(.t 47), (.t 49)], (some (45, false))⟩,
   ⟨(some 51), .pick, [(.t 45), (.c (.bool true)), (.t 50)], none⟩,
   ⟨(some 52), .mv, [(.t 51)], none⟩,
   ⟨(some 53), (.fad 2), [(.t 2)], (some (52, false))⟩,
   ⟨(some 54), (.ld false 1), [(.t 53)], (some (52, false))⟩,
   ⟨(some 55), (.fad 0), [(.t 3)], (some (52, false))⟩,
   ⟨(some 56), (.ld false 1), [(.t 55)], (some (52, false))⟩,
   ⟨(some 57), .call, [(.f nref11_Has), (.t 54), (.t 56)], (some (52, false))⟩,
   ⟨(some 58), .pick, [(.t 52), (.c (.bool true)), (.t 57)], none⟩,
   ⟨(some 59), .mv, [(.t 58)], none⟩,
   ⟨(some 60), (.fad 2), [(.t 2)], (some (59, false))⟩,
   ⟨(some 61), (.ld false 1), [(.t 60)], (some (59, false))⟩,
   ⟨(some 62), (.fad 1), [(.t 3)], (some (59, false))⟩,
   ⟨(some 63), (.ld false 1), [(.t 62)], (some (59, false))⟩,
   ⟨(some 64), .call, [(.f nref11_Has), (.t 61), (.t 63)], (some (59, false))⟩,
   ⟨(some 65), .pick, [(.t 59), (.c (.bool true)), (.t 64)], none⟩,
   ⟨(some 22), .mv, [(.t 65)], none⟩] [])
 (.cond (.t 22)
  (.seq
  (.reg false [
    ⟨(some 66), (.build [(.int .i64 0), (.slice none 0 0), (.slice none 0 0)] []), [], none⟩,
    ⟨none, (.st 3), [(.t 4), (.t 66)], none⟩,
    ⟨(some 5), .mv, [(.c (.int .i64 4))], none⟩] [])
  .ret)
  (.seq
  (.reg false [
    ⟨(some 68), (.fad 2), [(.t 3)], none⟩,
    ⟨(some 69), (.ld false 1), [(.t 68)], none⟩,
    ⟨(some 70), (.bin .lss), [(.t 69), (.c (.int .i64 1))], none⟩,
    ⟨(some 71), .mv, [(.t 70)], none⟩,
    ⟨(some 72), (.fad 2), [(.t 3)], (some (71, false))⟩,
    ⟨(some 73), (.ld false 1), [(.t 72)], (some (71, false))⟩,
    ⟨(some 74), (.bin .gtr), [(.t 73), (.c (.int .i64 3))], (some (71, false))⟩,
    ⟨(some 75), .pick, [(.t 71), (.c (.bool true)), (.t 74)], none⟩,
    ⟨(some 67), .mv, [(.t 75)], none⟩] [])
  (.cond (.t 67)
   (.seq
   (.reg false [
     ⟨(some 76), (.build [(.int .i64 0), (.slice none 0 0), (.slice none 0 0)] []), [], none⟩,
     ⟨none, (.st 3), [(.t 4), (.t 76)], none⟩,
     ⟨(some 5), .mv, [(.c (.int .i64 2))], none⟩] [])
   .ret)
   (.seq
   (.reg false [
     ⟨(some 78), .mv, [(.t 7)], none⟩,
     ⟨(some 77), .mv, [(.t 78)], none⟩] [])
   (.cond (.t 77)
    (.seq
    (.reg false [
      ⟨(some 79), (.build [(.int .i64 0), (.slice none 0 0), (.slice none 0 0)] []), [], none⟩,
      ⟨none, (.st 3), [(.t 4), (.t 79)], none⟩,
      ⟨(some 5), .mv, [(.c (.int .i64 19))], none⟩] [])
    .ret)
    (.seq
    (.reg false [
      ⟨(some 81), (.fad 1), [(.t 2)], none⟩,
      ⟨(some 82), (.ld false 1), [(.t 81)], none⟩,
      ⟨(some 83), .len, [(.t 82)], none⟩,
      ⟨(some 84), (.bin .eql), [(.t 83), (.c (.int .i64 500))], none⟩,
      ⟨(some 80), .mv, [(.t 84)], none⟩] [])
    (.cond (.t 80)
     (.seq
     (.reg false [
       ⟨(some 85), (.build [(.int .i64 0), (.slice none 0 0), (.slice none 0 0)] []), [], none⟩,
       ⟨none, (.st 3), [(.t 4), (.t 85)], none⟩,
       ⟨(some 5), .mv, [(.c (.int .i64 3))], none⟩] [])
     .ret)
     .skip)))))))))
 (.seq
 (.reg false [
   ⟨(some 86), (.ld true 3), [(.t 2)], none⟩,
   ⟨(some 87), .call, [(.f nref11_Copy), (.t 86)], none⟩,
   ⟨(some 8), (.alloc [(.int .i64 0), (.slice none 0 0), (.slice none 0 0)]), [], none⟩,
   ⟨none, (.st 3), [(.t 8), (.t 87)], none⟩] [])
 (.seq
 (.reg true [
   ⟨(some 88), (.fad 1), [(.t 2)], none⟩,
   ⟨(some 89), (.ld false 1), [(.t 88)], none⟩,
   ⟨(some 90), .mv, [(.t 6)], none⟩,
   ⟨(some 91), (.slc 3 false true false), [(.t 89), (.t 90)], none⟩,
   ⟨(some 92), (.app 3 24), [(.c (.slice none 0 0)), (.t 91)], none⟩,
   ⟨(some 93), (.ld true 3), [(.t 3)], none⟩,
   ⟨(some 94), (.bsl 3 1 [(.int .i64 0), (.int .i64 0), (.int .i64 0)] [0]), [(.t 93)], none⟩,
   ⟨(some 95), (.app 3 24), [(.t 92), (.t 94)], none⟩,
   ⟨(some 96), (.fad 1), [(.t 2)], none⟩,
   ⟨(some 97), (.ld false 1), [(.t 96)], none⟩,
   ⟨(some 98), .mv, [(.t 6)], none⟩,
   ⟨(some 99), (.slc 3 true false false), [(.t 97), (.t 98)], none⟩,
   ⟨(some 100), (.app 3 24), [(.t 95), (.t 99)], none⟩,
   ⟨(some 101), (.fad 1), [(.t 8)], none⟩,
   ⟨none, (.st 1), [(.t 101), (.t 100)], none⟩] [[], [0], [], [1, 2], [3], [], [5], [4, 6, 4], [], [8], [], [9, 10], [7, 11, 7], [0, 1, 2, 3, 4, 5, 6, 7, 8, 9, 10, 11, 12], [13, 12, 12, 0, 1, 2, 3, 4, 5, 6, 7, 8, 9, 10, 11, 12]])
 (.seq
 (.reg false [
   ⟨(some 102), (.ld true 3), [(.t 8)], none⟩,
   ⟨none, (.st 3), [(.t 4), (.t 102)], none⟩,
   ⟨(some 5), .mv, [(.c (.int .i64 0))], none⟩] [])
 .ret)))))))⟩

def cslices_Sort_Lint_int : AFun := ⟨11, [],
 (.seq
 (.reg false [
   ⟨(some 3), .mv, [(.t 0)], none⟩,
   ⟨(some 4), .len, [(.t 3)], none⟩,
   ⟨(some 2), .mv, [(.t 4)], none⟩] [])
 (.reg false [
   ⟨(some 5), .mv, [(.t 0)], none⟩,
   ⟨(some 6), .mv, [(.t 2)], none⟩,
   ⟨(some 7), .mv, [(.t 2)], none⟩,
   ⟨(some 8), (.cvt .u64), [(.t 7)], none⟩,
   ⟨(some 9), .call, [(.f nmath_bits_Len), (.t 8)], none⟩,
   ⟨(some 10), .call, [(.f nslices_pdqsortOrdered_int), (.t 5), (.c (.int .i64 0)), (.t 6), (.t 9)], none⟩] []))⟩

def cslices_BinarySearchFunc_Lapi_Edge_api_Edge_api_Edge : AFun := ⟨49, [(6, none), (7, none)],
 (.seq
 (.reg false [
   ⟨(some 4), (.box 3), [(.t 1)], none⟩,
   ⟨(some 6), .mv, [(.c (.int .i64 0))], none⟩,
   ⟨(some 7), .mv, [(.c (.bool false))], none⟩] [])
 (.seq
 (.reg false [
   ⟨(some 12), .mv, [(.t 0)], none⟩,
   ⟨(some 13), .len, [(.t 12)], none⟩,
   ⟨(some 8), .mv, [(.t 13)], none⟩] [])
 (.seq
 (.reg false [
   ⟨(some 14), .mv, [(.t 8)], none⟩,
   ⟨(some 9), .mv, [(.c (.int .i64 0))], none⟩,
   ⟨(some 10), .mv, [(.t 14)], none⟩] [])
 (.seq
 (.block 0
 (.loop
 (.seq
 (.seq
 (.reg false [
   ⟨(some 15), .mv, [(.t 9)], none⟩,
   ⟨(some 16), .mv, [(.t 10)], none⟩,
   ⟨(some 17), (.bin .lss), [(.t 15), (.t 16)], none⟩] [])
 (.cond (.t 17)
  .skip
  (.exit 0)))
 (.block 1
 (.seq
 (.reg false [
   ⟨(some 18), .mv, [(.t 9)], none⟩,
   ⟨(some 19), .mv, [(.t 10)], none⟩,
   ⟨(some 20), (.bin .add), [(.t 18), (.t 19)], none⟩,
   ⟨(some 21), (.cvt .u64), [(.t 20)], none⟩,
   ⟨(some 22), (.bin .shr), [(.t 21), (.c (.int .u64 1))], none⟩,
   ⟨(some 23), (.cvt .i64), [(.t 22)], none⟩,
   ⟨(some 11), .mv, [(.t 23)], none⟩] [])
 (.seq
 (.reg true [
   ⟨(some 24), .mv, [(.t 2)], none⟩,
   ⟨(some 25), .mv, [(.t 0)], none⟩,
   ⟨(some 26), .mv, [(.t 11)], none⟩,
   ⟨(some 27), (.iad 3), [(.t 25), (.t 26)], none⟩,
   ⟨(some 28), (.ld true 3), [(.t 27)], none⟩,
   ⟨(some 29), (.ld true 3), [(.t 4)], none⟩,
   ⟨(some 30), .call, [(.t 24), (.t 28), (.t 29)], none⟩,
   ⟨(some 31), (.bin .lss), [(.t 30), (.c (.int .i64 0))], none⟩] [[], [], [], [1, 2], [3], [], [0, 4, 5], [6]])
 (.cond (.t 31)
  (.reg false [
    ⟨(some 32), .mv, [(.t 11)], none⟩,
    ⟨(some 33), (.bin .add), [(.t 32), (.c (.int .i64 1))], none⟩,
    ⟨(some 9), .mv, [(.t 33)], none⟩] [])
  (.reg false [
    ⟨(some 34), .mv, [(.t 11)], none⟩,
    ⟨(some 10), .mv, [(.t 34)], none⟩] []))))))))
 (.seq
 (.reg true [
   ⟨(some 35), .mv, [(.t 9)], none⟩,
   ⟨(some 36), .mv, [(.t 9)], none⟩,
   ⟨(some 37), .mv, [(.t 8)], none⟩,
   ⟨(some 38), (.bin .lss), [(.t 36), (.t 37)], none⟩,
   ⟨(some 39), .mv, [(.t 38)], none⟩,
   ⟨(some 40), .mv, [(.t 2)], (some (39, true))⟩,
   ⟨(some 41), .mv, [(.t 0)], (some (39, true))⟩,
   ⟨(some 42), .mv, [(.t 9)], (some (39, true))⟩,
   ⟨(some 43), (.iad 3), [(.t 41), (.t 42)], (some (39, true))⟩,
   ⟨(some 44), (.ld true 3), [(.t 43)], (some (39, true))⟩,
   ⟨(some 45), (.ld true 3), [(.t 4)], (some (39, true))⟩,
   ⟨(some 46), .call, [(.t 40), (.t 44), (.t 45)], (some (39, true))⟩,
   ⟨(some 47), (.bin .eql), [(.t 46), (.c (.int .i64 0))], (some (39, true))⟩,
   ⟨(some 48), .pick, [(.t 39), (.t 47), (.c (.bool false))], none⟩,
   ⟨(some 6), .mv, [(.t 35)], none⟩,
   ⟨(some 7), .mv, [(.t 48)], none⟩] [[], [], [], [1, 2], [3], [4], [4], [4], [6, 7, 4], [8, 4], [4], [5, 9, 10, 4, 4], [11, 4], [4, 12], [0, 11, 0], [13, 14, 0, 1, 2, 3, 4, 5, 6, 7, 8, 9, 10, 11, 12, 13, 14]])
 .ret)))))⟩

def cgraph_compare : AFun := ⟨17, [(4, none)],
 (.seq
 (.reg false [
   ⟨(some 2), (.box 3), [(.t 0)], none⟩,
   ⟨(some 3), (.box 3), [(.t 1)], none⟩,
   ⟨(some 4), .mv, [(.c (.int .i64 0))], none⟩] [])
 (.seq
 (.reg true [
   ⟨(some 5), (.fad 0), [(.t 2)], none⟩,
   ⟨(some 6), (.ld false 1), [(.t 5)], none⟩,
   ⟨(some 7), (.fad 0), [(.t 3)], none⟩,
   ⟨(some 8), (.ld false 1), [(.t 7)], none⟩,
   ⟨(some 9), .call, [(.f ncmp_Compare_int), (.t 6), (.t 8)], none⟩,
   ⟨(some 10), (.fad 1), [(.t 2)], none⟩,
   ⟨(some 11), (.ld false 1), [(.t 10)], none⟩,
   ⟨(some 12), (.fad 1), [(.t 3)], none⟩,
   ⟨(some 13), (.ld false 1), [(.t 12)], none⟩,
   ⟨(some 14), .call, [(.f ncmp_Compare_int), (.t 11), (.t 13)], none⟩,
   ⟨(some 15), (.bsl 1 2 [(.int .i64 0)] [0, 1]), [(.t 9), (.t 14)], none⟩,
   ⟨(some 16), .call, [(.f ncmp_Or_int), (.t 15)], none⟩,
   ⟨(some 4), .mv, [(.t 16)], none⟩] [[], [0], [], [2], [1, 3], [], [5], [], [7], [6, 8, 4], [4, 9], [10, 9], [11, 11, 0, 1, 2, 3, 4, 5, 6, 7, 8, 9, 10, 11]])
 .ret))⟩

def cgraph_fits : AFun := ⟨42, [(4, none)],
 (.seq
 (.reg false [
   ⟨(some 2), (.box 3), [(.t 0)], none⟩,
   ⟨(some 3), (.box 3), [(.t 1)], none⟩,
   ⟨(some 4), .mv, [(.c (.bool false))], none⟩] [])
 (.seq
 (.reg false [
   ⟨(some 5), (.fad 0), [(.t 3)], none⟩,
   ⟨(some 6), (.ld false 1), [(.t 5)], none⟩,
   ⟨(some 7), (.fad 0), [(.t 2)], none⟩,
   ⟨(some 8), (.ld false 1), [(.t 7)], none⟩,
   ⟨(some 9), (.bin .sub), [(.t 8), (.c (.int .i64 1))], none⟩,
   ⟨(some 10), .call, [(.f nlists_In), (.t 6), (.c (.int .i64 0)), (.t 9)], none⟩,
   ⟨(some 11), .mv, [(.t 10)], none⟩,
   ⟨(some 12), (.fad 1), [(.t 3)], (some (11, true))⟩,
   ⟨(some 13), (.ld false 1), [(.t 12)], (some (11, true))⟩,
   ⟨(some 14), (.fad 0), [(.t 2)], (some (11, true))⟩,
   ⟨(some 15), (.ld false 1), [(.t 14)], (some (11, true))⟩,
   ⟨(some 16), (.bin .sub), [(.t 15), (.c (.int .i64 1))], (some (11, true))⟩,
   ⟨(some 17), .call, [(.f nlists_In), (.t 13), (.c (.int .i64 0)), (.t 16)], (some (11, true))⟩,
   ⟨(some 18), .pick, [(.t 11), (.t 17), (.c (.bool false))], none⟩,
   ⟨(some 19), .mv, [(.t 18)], none⟩,
   ⟨(some 20), (.fad 0), [(.t 3)], (some (19, true))⟩,
   ⟨(some 21), (.ld false 1), [(.t 20)], (some (19, true))⟩,
   ⟨(some 22), (.fad 1), [(.t 3)], (some (19, true))⟩,
   ⟨(some 23), (.ld false 1), [(.t 22)], (some (19, true))⟩,
   ⟨(some 24), (.bin .neq), [(.t 21), (.t 23)], (some (19, true))⟩,
   ⟨(some 25), .pick, [(.t 19), (.t 24), (.c (.bool false))], none⟩,
   ⟨(some 26), .mv, [(.t 25)], none⟩,
   ⟨(some 27), (.fad 2), [(.t 2)], (some (26, true))⟩,
   ⟨(some 28), (.ld false 1), [(.t 27)], (some (26, true))⟩,
   ⟨(some 29), (.fad 0), [(.t 3)], (some (26, true))⟩,
   ⟨(some 30), (.ld false 1), [(.t 29)], (some (26, true))⟩,
   ⟨(some 31), .call, [(.f nslices_Contains_Lint_int), (.t 28), (.t 30)], (some (26, true))⟩,
   ⟨(some 32), (.un .not), [(.t 31)], (some (26, true))⟩,
   ⟨(some 33), .pick, [(.t 26), (.t 32), (.c (.bool false))], none⟩,
   ⟨(some 34), .mv, [(.t 33)], none⟩,
   ⟨(some 35), (.fad 2), [(.t 2)], (some (34, true))⟩,
   ⟨(some 36), (.ld false 1), [(.t 35)], (some (34, true))⟩,
   ⟨(some 37), (.fad 1), [(.t 3)], (some (34, true))⟩,
   ⟨(some 38), (.ld false 1), [(.t 37)], (some (34, true))⟩,
   ⟨(some 39), .call, [(.f nslices_Contains_Lint_int), (.t 36), (.t 38)], (some (34, true))⟩,
   ⟨(some 40), (.un .not), [(.t 39)], (some (34, true))⟩,
   ⟨(some 41), .pick, [(.t 34), (.t 40), (.c (.bool false))], none⟩,
   ⟨(some 4), .mv, [(.t 41)], none⟩] [])
 .ret))⟩

def clists_In : AFun := ⟨15, [(6, none)],
 (.seq
 (.reg false [
   ⟨(some 6), .mv, [(.c (.bool false))], none⟩] [])
 (.seq
 (.reg false [
   ⟨(some 7), .mv, [(.t 0)], none⟩,
   ⟨(some 8), .mv, [(.t 1)], none⟩,
   ⟨(some 9), (.bin .geq), [(.t 7), (.t 8)], none⟩,
   ⟨(some 10), .mv, [(.t 9)], none⟩,
   ⟨(some 11), .mv, [(.t 0)], (some (10, true))⟩,
   ⟨(some 12), .mv, [(.t 2)], (some (10, true))⟩,
   ⟨(some 13), (.bin .leq), [(.t 11), (.t 12)], (some (10, true))⟩,
   ⟨(some 14), .pick, [(.t 10), (.t 13), (.c (.bool false))], none⟩,
   ⟨(some 6), .mv, [(.t 14)], none⟩] [])
 .ret))⟩

def cgraph_copied : AFun := ⟨12, [(2, some (true, 3))],
 (.seq
 (.reg false [
   ⟨(some 1), (.box 3), [(.t 0)], none⟩,
   ⟨(some 2), (.alloc [(.int .i64 0), (.slice none 0 0), (.slice none 0 0)]), [], none⟩] [])
 (.seq
 (.reg true [
   ⟨(some 3), (.fad 0), [(.t 1)], none⟩,
   ⟨(some 4), (.ld false 1), [(.t 3)], none⟩,
   ⟨(some 5), (.fad 1), [(.t 1)], none⟩,
   ⟨(some 6), (.ld false 1), [(.t 5)], none⟩,
   ⟨(some 7), .call, [(.f nslices_Clone_Lapi_Edge_api_Edge), (.t 6)], none⟩,
   ⟨(some 8), (.fad 2), [(.t 1)], none⟩,
   ⟨(some 9), (.ld false 1), [(.t 8)], none⟩,
   ⟨(some 10), .call, [(.f nslices_Clone_Lint_int), (.t 9)], none⟩,
   ⟨(some 11), (.build [(.int .i64 0), (.slice none 0 0), (.slice none 0 0)] [(0, 1), (1, 1), (2, 1)]), [(.t 4), (.t 7), (.t 10)], none⟩,
   ⟨none, (.st 3), [(.t 2), (.t 11)], none⟩] [[], [0], [], [2], [3], [], [5], [6, 4], [1, 4, 7], [8, 7, 0, 1, 2, 3, 4, 5, 6, 7, 8]])
 .ret))⟩

def cslices_Insert_Lapi_Edge_api_Edge : AFun := ⟨95, [(6, none)],
 (.seq
 (.reg false [
   ⟨(some 6), .mv, [(.c (.slice none 0 0))], none⟩] [])
 (.seq
 (.reg false [
   ⟨(some 10), .mv, [(.t 0)], none⟩,
   ⟨(some 11), .mv, [(.t 1)], none⟩,
   ⟨(some 12), (.slc 3 true false false), [(.t 10), (.t 11)], none⟩] [])
 (.seq
 (.reg false [
   ⟨(some 13), .mv, [(.t 2)], none⟩,
   ⟨(some 14), .len, [(.t 13)], none⟩,
   ⟨(some 7), .mv, [(.t 14)], none⟩] [])
 (.seq
 (.seq
 (.reg false [
   ⟨(some 15), .mv, [(.t 7)], none⟩,
   ⟨(some 16), (.bin .eql), [(.t 15), (.c (.int .i64 0))], none⟩] [])
 (.cond (.t 16)
  (.seq
  (.reg false [
    ⟨(some 17), .mv, [(.t 0)], none⟩,
    ⟨(some 6), .mv, [(.t 17)], none⟩] [])
  .ret)
  .skip))
 (.seq
 (.reg false [
   ⟨(some 18), .mv, [(.t 0)], none⟩,
   ⟨(some 19), .len, [(.t 18)], none⟩,
   ⟨(some 8), .mv, [(.t 19)], none⟩] [])
 (.seq
 (.seq
 (.reg false [
   ⟨(some 20), .mv, [(.t 1)], none⟩,
   ⟨(some 21), .mv, [(.t 8)], none⟩,
   ⟨(some 22), (.bin .eql), [(.t 20), (.t 21)], none⟩] [])
 (.cond (.t 22)
  (.seq
  (.reg false [
    ⟨(some 23), .mv, [(.t 0)], none⟩,
    ⟨(some 24), .mv, [(.t 2)], none⟩,
    ⟨(some 25), (.app 3 24), [(.t 23), (.t 24)], none⟩,
    ⟨(some 6), .mv, [(.t 25)], none⟩] [])
  .ret)
  .skip))
 (.seq
 (.seq
 (.reg false [
   ⟨(some 26), .mv, [(.t 8)], none⟩,
   ⟨(some 27), .mv, [(.t 7)], none⟩,
   ⟨(some 28), (.bin .add), [(.t 26), (.t 27)], none⟩,
   ⟨(some 29), .mv, [(.t 0)], none⟩,
   ⟨(some 30), .cap, [(.t 29)], none⟩,
   ⟨(some 31), (.bin .gtr), [(.t 28), (.t 30)], none⟩] [])
 (.cond (.t 31)
  (.seq
  (.reg false [
    ⟨(some 32), .mv, [(.t 0)], none⟩,
    ⟨(some 33), .mv, [(.t 1)], none⟩,
    ⟨(some 34), (.slc 3 false true false), [(.t 32), (.t 33)], none⟩,
    ⟨(some 35), .mv, [(.t 8)], none⟩,
    ⟨(some 36), .mv, [(.t 7)], none⟩,
    ⟨(some 37), (.bin .add), [(.t 35), (.t 36)], none⟩,
    ⟨(some 38), .mv, [(.t 1)], none⟩,
    ⟨(some 39), (.bin .sub), [(.t 37), (.t 38)], none⟩,
    ⟨(some 40), (.apz 3 24 [(.int .i64 0), (.int .i64 0), (.int .i64 0)]), [(.t 34), (.t 39)], none⟩,
    ⟨(some 9), .mv, [(.t 40)], none⟩] [])
  (.seq
  (.reg false [
    ⟨(some 41), .mv, [(.t 9)], none⟩,
    ⟨(some 42), .mv, [(.t 1)], none⟩,
    ⟨(some 43), (.slc 3 true false false), [(.t 41), (.t 42)], none⟩,
    ⟨(some 44), .mv, [(.t 2)], none⟩,
    ⟨(some 45), (.cpy 3), [(.t 43), (.t 44)], none⟩] [])
  (.seq
  (.reg true [
    ⟨(some 46), .mv, [(.t 9)], none⟩,
    ⟨(some 47), .mv, [(.t 1)], none⟩,
    ⟨(some 48), .mv, [(.t 7)], none⟩,
    ⟨(some 49), (.bin .add), [(.t 47), (.t 48)], none⟩,
    ⟨(some 50), (.slc 3 true false false), [(.t 46), (.t 49)], none⟩,
    ⟨(some 51), .mv, [(.t 0)], none⟩,
    ⟨(some 52), .mv, [(.t 1)], none⟩,
    ⟨(some 53), (.slc 3 true false false), [(.t 51), (.t 52)], none⟩,
    ⟨(some 54), (.cpy 3), [(.t 50), (.t 53)], none⟩] [[], [], [], [1, 2], [0, 3], [], [], [5, 6], [4, 7]])
  (.seq
  (.reg false [
    ⟨(some 55), .mv, [(.t 9)], none⟩,
    ⟨(some 6), .mv, [(.t 55)], none⟩] [])
  .ret))))
  .skip))
 (.seq
 (.reg false [
   ⟨(some 56), .mv, [(.t 0)], none⟩,
   ⟨(some 57), .mv, [(.t 8)], none⟩,
   ⟨(some 58), .mv, [(.t 7)], none⟩,
   ⟨(some 59), (.bin .add), [(.t 57), (.t 58)], none⟩,
   ⟨(some 60), (.slc 3 false true false), [(.t 56), (.t 59)], none⟩,
   ⟨(some 0), .mv, [(.t 60)], none⟩] [])
 (.seq
 (.seq
 (.reg false [
   ⟨(some 61), .mv, [(.t 2)], none⟩,
   ⟨(some 62), .mv, [(.t 0)], none⟩,
   ⟨(some 63), .mv, [(.t 1)], none⟩,
   ⟨(some 64), .mv, [(.t 7)], none⟩,
   ⟨(some 65), (.bin .add), [(.t 63), (.t 64)], none⟩,
   ⟨(some 66), (.slc 3 true false false), [(.t 62), (.t 65)], none⟩,
   ⟨(some 67), (.ovl 3), [(.t 61), (.t 66)], none⟩,
   ⟨(some 68), (.un .not), [(.t 67)], none⟩] [])
 (.cond (.t 68)
  (.seq
  (.reg true [
    ⟨(some 69), .mv, [(.t 0)], none⟩,
    ⟨(some 70), .mv, [(.t 1)], none⟩,
    ⟨(some 71), .mv, [(.t 7)], none⟩,
    ⟨(some 72), (.bin .add), [(.t 70), (.t 71)], none⟩,
    ⟨(some 73), (.slc 3 true false false), [(.t 69), (.t 72)], none⟩,
    ⟨(some 74), .mv, [(.t 0)], none⟩,
    ⟨(some 75), .mv, [(.t 1)], none⟩,
    ⟨(some 76), (.slc 3 true false false), [(.t 74), (.t 75)], none⟩,
    ⟨(some 77), (.cpy 3), [(.t 73), (.t 76)], none⟩] [[], [], [], [1, 2], [0, 3], [], [], [5, 6], [4, 7]])
  (.seq
  (.reg false [
    ⟨(some 78), .mv, [(.t 0)], none⟩,
    ⟨(some 79), .mv, [(.t 1)], none⟩,
    ⟨(some 80), (.slc 3 true false false), [(.t 78), (.t 79)], none⟩,
    ⟨(some 81), .mv, [(.t 2)], none⟩,
    ⟨(some 82), (.cpy 3), [(.t 80), (.t 81)], none⟩] [])
  (.seq
  (.reg false [
    ⟨(some 83), .mv, [(.t 0)], none⟩,
    ⟨(some 6), .mv, [(.t 83)], none⟩] [])
  .ret)))
  .skip))
 (.seq
 (.reg false [
   ⟨(some 84), .mv, [(.t 0)], none⟩,
   ⟨(some 85), .mv, [(.t 8)], none⟩,
   ⟨(some 86), (.slc 3 true false false), [(.t 84), (.t 85)], none⟩,
   ⟨(some 87), .mv, [(.t 2)], none⟩,
   ⟨(some 88), (.cpy 3), [(.t 86), (.t 87)], none⟩] [])
 (.seq
 (.reg false [
   ⟨(some 89), .mv, [(.t 0)], none⟩,
   ⟨(some 90), .mv, [(.t 1)], none⟩,
   ⟨(some 91), (.slc 3 true false false), [(.t 89), (.t 90)], none⟩,
   ⟨(some 92), .mv, [(.t 7)], none⟩,
   ⟨(some 93), .call, [(.f nslices_rotateRight_api_Edge), (.t 91), (.t 92)], none⟩] [])
 (.seq
 (.reg false [
   ⟨(some 94), .mv, [(.t 0)], none⟩,
   ⟨(some 6), .mv, [(.t 94)], none⟩] [])
 .ret))))))))))))⟩

def cslices_Delete_Lapi_Edge_api_Edge : AFun := ⟨33, [(6, none)],
 (.seq
 (.reg false [
   ⟨(some 6), .mv, [(.c (.slice none 0 0))], none⟩] [])
 (.seq
 (.reg false [
   ⟨(some 8), .mv, [(.t 0)], none⟩,
   ⟨(some 9), .mv, [(.t 1)], none⟩,
   ⟨(some 10), .mv, [(.t 2)], none⟩,
   ⟨(some 11), .mv, [(.t 0)], none⟩,
   ⟨(some 12), .len, [(.t 11)], none⟩,
   ⟨(some 13), (.slc 3 true true true), [(.t 8), (.t 9), (.t 10), (.t 12)], none⟩] [])
 (.seq
 (.seq
 (.reg false [
   ⟨(some 14), .mv, [(.t 1)], none⟩,
   ⟨(some 15), .mv, [(.t 2)], none⟩,
   ⟨(some 16), (.bin .eql), [(.t 14), (.t 15)], none⟩] [])
 (.cond (.t 16)
  (.seq
  (.reg false [
    ⟨(some 17), .mv, [(.t 0)], none⟩,
    ⟨(some 6), .mv, [(.t 17)], none⟩] [])
  .ret)
  .skip))
 (.seq
 (.reg false [
   ⟨(some 18), .mv, [(.t 0)], none⟩,
   ⟨(some 19), .len, [(.t 18)], none⟩,
   ⟨(some 7), .mv, [(.t 19)], none⟩] [])
 (.seq
 (.reg true [
   ⟨(some 20), .mv, [(.t 0)], none⟩,
   ⟨(some 21), .mv, [(.t 1)], none⟩,
   ⟨(some 22), (.slc 3 false true false), [(.t 20), (.t 21)], none⟩,
   ⟨(some 23), .mv, [(.t 0)], none⟩,
   ⟨(some 24), .mv, [(.t 2)], none⟩,
   ⟨(some 25), (.slc 3 true false false), [(.t 23), (.t 24)], none⟩,
   ⟨(some 26), (.app 3 24), [(.t 22), (.t 25)], none⟩,
   ⟨(some 0), .mv, [(.t 26)], none⟩] [[], [], [0, 1], [], [], [3, 4], [2, 5], [6, 6, 0, 1, 2, 3, 4, 5, 6]])
 (.seq
 (.reg false [
   ⟨(some 27), .mv, [(.t 0)], none⟩,
   ⟨(some 28), .mv, [(.t 0)], none⟩,
   ⟨(some 29), .len, [(.t 28)], none⟩,
   ⟨(some 30), .mv, [(.t 7)], none⟩,
   ⟨(some 31), (.slc 3 true true false), [(.t 27), (.t 29), (.t 30)], none⟩,
   ⟨none, (.clr 3 [(.int .i64 0), (.int .i64 0), (.int .i64 0)]), [(.t 31)], none⟩] [])
 (.seq
 (.reg false [
   ⟨(some 32), .mv, [(.t 0)], none⟩,
   ⟨(some 6), .mv, [(.t 32)], none⟩] [])
 .ret)))))))⟩

def clists_Rising : AFun := ⟨38, [(6, none)],
 (.seq
 (.reg false [
   ⟨(some 6), .mv, [(.c (.bool false))], none⟩] [])
 (.seq
 (.seq
 (.reg false [
   ⟨(some 9), .mv, [(.t 0)], none⟩,
   ⟨(some 10), .len, [(.t 9)], none⟩,
   ⟨(some 11), .mv, [(.c (.int .i64 0))], none⟩] [])
 (.block 0
 (.loop
 (.seq
 (.reg false [
   ⟨(some 12), (.bin .lss), [(.t 11), (.t 10)], none⟩] [])
 (.seq
 (.cond (.t 12)
  .skip
  (.exit 0))
 (.seq
 (.block 1
 (.seq
 (.reg false [
   ⟨(some 13), .mv, [(.t 11)], none⟩,
   ⟨(some 14), (.iad 1), [(.t 9), (.t 11)], none⟩,
   ⟨(some 15), (.ld false 1), [(.t 14)], none⟩,
   ⟨(some 7), .mv, [(.t 13)], none⟩,
   ⟨(some 8), .mv, [(.t 15)], none⟩] [])
 (.seq
 (.reg false [
   ⟨(some 16), .mv, [(.t 8)], none⟩,
   ⟨(some 17), .mv, [(.t 1)], none⟩,
   ⟨(some 18), (.bin .lss), [(.t 16), (.t 17)], none⟩,
   ⟨(some 19), .mv, [(.t 18)], none⟩,
   ⟨(some 20), .mv, [(.t 8)], (some (19, false))⟩,
   ⟨(some 21), .mv, [(.t 2)], (some (19, false))⟩,
   ⟨(some 22), (.bin .gtr), [(.t 20), (.t 21)], (some (19, false))⟩,
   ⟨(some 23), .pick, [(.t 19), (.c (.bool true)), (.t 22)], none⟩,
   ⟨(some 24), .mv, [(.t 23)], none⟩,
   ⟨(some 25), .mv, [(.t 7)], (some (24, false))⟩,
   ⟨(some 26), (.bin .gtr), [(.t 25), (.c (.int .i64 0))], (some (24, false))⟩,
   ⟨(some 27), .mv, [(.t 26)], (some (24, false))⟩,
   ⟨(some 28), .mv, [(.t 8)], (some (27, true))⟩,
   ⟨(some 29), .mv, [(.t 0)], (some (27, true))⟩,
   ⟨(some 30), .mv, [(.t 7)], (some (27, true))⟩,
   ⟨(some 31), (.bin .sub), [(.t 30), (.c (.int .i64 1))], (some (27, true))⟩,
   ⟨(some 32), (.iad 1), [(.t 29), (.t 31)], (some (27, true))⟩,
   ⟨(some 33), (.ld false 1), [(.t 32)], (some (27, true))⟩,
   ⟨(some 34), (.bin .leq), [(.t 28), (.t 33)], (some (27, true))⟩,
   ⟨(some 35), .pick, [(.t 27), (.t 34), (.c (.bool false))], (some (24, false))⟩,
   ⟨(some 36), .pick, [(.t 24), (.c (.bool true)), (.t 35)], none⟩] [])
 (.cond (.t 36)
  (.seq
  (.reg false [
    ⟨(some 6), .mv, [(.c (.bool false))], none⟩] [])
  .ret)
  .skip))))
 (.reg false [
   ⟨(some 37), (.bin .add), [(.t 11), (.c (.int .i64 1))], none⟩,
   ⟨(some 11), .mv, [(.t 37)], none⟩] [])))))))
 (.seq
 (.reg false [
   ⟨(some 6), .mv, [(.c (.bool true))], none⟩] [])
 .ret)))⟩

def cref11_Without : AFun := ⟨40, [(6, some (true, 3)), (7, none)],
 (.seq
 (.reg false [
   ⟨(some 3), (.box 3), [(.t 0)], none⟩,
   ⟨(some 6), (.alloc [(.int .i64 0), (.slice none 0 0), (.slice none 0 0)]), [], none⟩,
   ⟨(some 7), .mv, [(.c (.int .i64 0))], none⟩] [])
 (.seq
 (.seq
 (.reg false [
   ⟨(some 11), (.ld true 3), [(.t 3)], none⟩,
   ⟨(some 12), .call, [(.f nref11_Check), (.t 11)], none⟩,
   ⟨(some 13), (.bin .neq), [(.t 12), (.c (.int .i64 0))], none⟩] [])
 (.cond (.t 13)
  (.seq
  (.reg false [
    ⟨(some 14), (.build [(.int .i64 0), (.slice none 0 0), (.slice none 0 0)] []), [], none⟩,
    ⟨none, (.st 3), [(.t 6), (.t 14)], none⟩,
    ⟨(some 7), .mv, [(.c (.int .i64 14))], none⟩] [])
  .ret)
  .skip))
 (.seq
 (.reg false [
   ⟨(some 16), (.ld true 3), [(.t 3)], none⟩,
   ⟨(some 17), .mv, [(.t 1)], none⟩,
   ⟨(some 18), .mv, [(.t 2)], none⟩,
   ⟨(some 19), .call, [(.f nref11_index), (.t 16), (.t 17), (.t 18)], none⟩,
   ⟨(some 15), .mv, [(.t 19)], none⟩,
   ⟨(some 20), (.ext 0), [(.t 15)], none⟩,
   ⟨(some 21), (.ext 1), [(.t 15)], none⟩,
   ⟨(some 8), .mv, [(.t 20)], none⟩,
   ⟨(some 9), .mv, [(.t 21)], none⟩] [])
 (.seq
 (.seq
 (.reg false [
   ⟨(some 22), .mv, [(.t 9)], none⟩,
   ⟨(some 23), (.un .not), [(.t 22)], none⟩] [])
 (.cond (.t 23)
  (.seq
  (.reg false [
    ⟨(some 24), (.build [(.int .i64 0), (.slice none 0 0), (.slice none 0 0)] []), [], none⟩,
    ⟨none, (.st 3), [(.t 6), (.t 24)], none⟩,
    ⟨(some 7), .mv, [(.c (.int .i64 19))], none⟩] [])
  .ret)
  .skip))
 (.seq
 (.reg false [
   ⟨(some 25), (.ld true 3), [(.t 3)], none⟩,
   ⟨(some 26), .call, [(.f nref11_Copy), (.t 25)], none⟩,
   ⟨(some 10), (.alloc [(.int .i64 0), (.slice none 0 0), (.slice none 0 0)]), [], none⟩,
   ⟨none, (.st 3), [(.t 10), (.t 26)], none⟩] [])
 (.seq
 (.reg true [
   ⟨(some 27), (.fad 1), [(.t 3)], none⟩,
   ⟨(some 28), (.ld false 1), [(.t 27)], none⟩,
   ⟨(some 29), .mv, [(.t 8)], none⟩,
   ⟨(some 30), (.slc 3 false true false), [(.t 28), (.t 29)], none⟩,
   ⟨(some 31), (.app 3 24), [(.c (.slice none 0 0)), (.t 30)], none⟩,
   ⟨(some 32), (.fad 1), [(.t 3)], none⟩,
   ⟨(some 33), (.ld false 1), [(.t 32)], none⟩,
   ⟨(some 34), .mv, [(.t 8)], none⟩,
   ⟨(some 35), (.bin .add), [(.t 34), (.c (.int .i64 1))], none⟩,
   ⟨(some 36), (.slc 3 true false false), [(.t 33), (.t 35)], none⟩,
   ⟨(some 37), (.app 3 24), [(.t 31), (.t 36)], none⟩,
   ⟨(some 38), (.fad 1), [(.t 10)], none⟩,
   ⟨none, (.st 1), [(.t 38), (.t 37)], none⟩] [[], [0], [], [1, 2], [3], [], [5], [], [7], [6, 8], [4, 9, 4], [0, 1, 2, 3, 4, 5, 6, 7, 8, 9, 10], [11, 10, 10, 0, 1, 2, 3, 4, 5, 6, 7, 8, 9, 10]])
 (.seq
 (.reg false [
   ⟨(some 39), (.ld true 3), [(.t 10)], none⟩,
   ⟨none, (.st 3), [(.t 6), (.t 39)], none⟩,
   ⟨(some 7), .mv, [(.c (.int .i64 0))], none⟩] [])
 .ret)))))))⟩

def cref11_Check : AFun := ⟨105, [(2, none)],
 (.seq
 (.reg false [
   ⟨(some 1), (.box 3), [(.t 0)], none⟩,
   ⟨(some 2), .mv, [(.c (.int .i64 0))], none⟩] [])
 (.seq
 (.seq
 (.reg false [
   ⟨(some 5), (.fad 0), [(.t 1)], none⟩,
   ⟨(some 6), (.ld false 1), [(.t 5)], none⟩,
   ⟨(some 7), (.bin .lss), [(.t 6), (.c (.int .i64 0))], none⟩,
   ⟨(some 8), .mv, [(.t 7)], none⟩,
   ⟨(some 9), (.fad 0), [(.t 1)], (some (8, false))⟩,
   ⟨(some 10), (.ld false 1), [(.t 9)], (some (8, false))⟩,
   ⟨(some 11), (.bin .gtr), [(.t 10), (.c (.int .i64 64))], (some (8, false))⟩,
   ⟨(some 12), .pick, [(.t 8), (.c (.bool true)), (.t 11)], none⟩,
   ⟨(some 13), .mv, [(.t 12)], none⟩,
   ⟨(some 14), (.fad 1), [(.t 1)], (some (13, false))⟩,
   ⟨(some 15), (.ld false 1), [(.t 14)], (some (13, false))⟩,
   ⟨(some 16), .len, [(.t 15)], (some (13, false))⟩,
   ⟨(some 17), (.bin .gtr), [(.t 16), (.c (.int .i64 500))], (some (13, false))⟩,
   ⟨(some 18), .pick, [(.t 13), (.c (.bool true)), (.t 17)], none⟩,
   ⟨(some 19), .mv, [(.t 18)], none⟩,
   ⟨(some 20), (.fad 2), [(.t 1)], (some (19, false))⟩,
   ⟨(some 21), (.ld false 1), [(.t 20)], (some (19, false))⟩,
   ⟨(some 22), (.fad 0), [(.t 1)], (some (19, false))⟩,
   ⟨(some 23), (.ld false 1), [(.t 22)], (some (19, false))⟩,
   ⟨(some 24), .call, [(.f nref11_Set), (.t 21), (.t 23)], (some (19, false))⟩,
   ⟨(some 25), (.un .not), [(.t 24)], (some (19, false))⟩,
   ⟨(some 26), .pick, [(.t 19), (.c (.bool true)), (.t 25)], none⟩] [])
 (.cond (.t 26)
  (.seq
  (.reg false [
    ⟨(some 2), .mv, [(.c (.int .i64 14))], none⟩] [])
  .ret)
  .skip))
 (.seq
 (.seq
 (.reg false [
   ⟨(some 3), .mv, [(.c (.int .i64 0))], none⟩] [])
 (.block 0
 (.loop
 (.seq
 (.seq
 (.reg false [
   ⟨(some 27), .mv, [(.t 3)], none⟩,
   ⟨(some 28), (.fad 1), [(.t 1)], none⟩,
   ⟨(some 29), (.ld false 1), [(.t 28)], none⟩,
   ⟨(some 30), .len, [(.t 29)], none⟩,
   ⟨(some 31), (.bin .lss), [(.t 27), (.t 30)], none⟩] [])
 (.cond (.t 31)
  .skip
  (.exit 0)))
 (.seq
 (.block 1
 (.seq
 (.reg false [
   ⟨(some 34), (.fad 1), [(.t 1)], none⟩,
   ⟨(some 35), (.ld false 1), [(.t 34)], none⟩,
   ⟨(some 36), .mv, [(.t 3)], none⟩,
   ⟨(some 37), (.iad 3), [(.t 35), (.t 36)], none⟩,
   ⟨(some 38), (.ld true 3), [(.t 37)], none⟩,
   ⟨(some 4), (.alloc [(.int .i64 0), (.int .i64 0), (.int .i64 0)]), [], none⟩,
   ⟨none, (.st 3), [(.t 4), (.t 38)], none⟩] [])
 (.seq
 (.seq
 (.reg false [
   ⟨(some 39), (.fad 0), [(.t 4)], none⟩,
   ⟨(some 40), (.ld false 1), [(.t 39)], none⟩,
   ⟨(some 41), (.bin .lss), [(.t 40), (.c (.int .i64 0))], none⟩,
   ⟨(some 42), .mv, [(.t 41)], none⟩,
   ⟨(some 43), (.fad 0), [(.t 4)], (some (42, false))⟩,
   ⟨(some 44), (.ld false 1), [(.t 43)], (some (42, false))⟩,
   ⟨(some 45), (.fad 0), [(.t 1)], (some (42, false))⟩,
   ⟨(some 46), (.ld false 1), [(.t 45)], (some (42, false))⟩,
   ⟨(some 47), (.bin .geq), [(.t 44), (.t 46)], (some (42, false))⟩,
   ⟨(some 48), .pick, [(.t 42), (.c (.bool true)), (.t 47)], none⟩,
   ⟨(some 49), .mv, [(.t 48)], none⟩,
   ⟨(some 50), (.fad 1), [(.t 4)], (some (49, false))⟩,
   ⟨(some 51), (.ld false 1), [(.t 50)], (some (49, false))⟩,
   ⟨(some 52), (.bin .lss), [(.t 51), (.c (.int .i64 0))], (some (49, false))⟩,
   ⟨(some 53), .pick, [(.t 49), (.c (.bool true)), (.t 52)], none⟩,
   ⟨(some 54), .mv, [(.t 53)], none⟩,
   ⟨(some 55), (.fad 1), [(.t 4)], (some (54, false))⟩,
   ⟨(some 56), (.ld false 1), [(.t 55)], (some (54, false))⟩,
   ⟨(some 57), (.fad 0), [(.t 1)], (some (54, false))⟩,
   ⟨(some 58), (.ld false 1), [(.t 57)], (some (54, false))⟩,
   ⟨(some 59), (.bin .geq), [(.t 56), (.t 58)], (some (54, false))⟩,
   ⟨(some 60), .pick, [(.t 54), (.c (.bool true)), (.t 59)], none⟩,
   ⟨(some 61), .mv, [(.t 60)], none⟩,
   ⟨(some 62), (.fad 0), [(.t 4)], (some (61, false))⟩,
   ⟨(some 63), (.ld false 1), [(.t 62)], (some (61, false))⟩,
   ⟨(some 64), (.fad 1), [(.t 4)], (some (61, false))⟩,
   ⟨(some 65), (.ld false 1), [(.t 64)], (some (61, false))⟩,
   ⟨(some 66), (.bin .eql), [(.t 63), (.t 65)], (some (61, false))⟩,
   ⟨(some 67), .pick, [(.t 61), (.c (.bool true)), (.t 66)], none⟩,
   ⟨(some 68), .mv, [(.t 67)], none⟩,
   ⟨(some 69), (.fad 2), [(.t 4)], (some (68, false))⟩,
   ⟨(some 70), (.ld false 1), [(.t 69)], (some (68, false))⟩,
   ⟨(some 71), (.bin .lss), [(.t 70), (.c (.int .i64 1))], (some (68, false))⟩,
   ⟨(some 72), .pick, [(.t 68), (.c (.bool true)), (.t 71)], none⟩,
   ⟨(some 73), .mv, [(.t 72)], none⟩,
   ⟨(some 74), (.fad 2), [(.t 4)], (some (73, false))⟩,
   ⟨(some 75), (.ld false 1), [(.t 74)], (some (73, false))⟩,
   ⟨(some 76), (.bin .gtr), [(.t 75), (.c (.int .i64 3))], (some (73, false))⟩,
   ⟨(some 77), .pick, [(.t 73), (.c (.bool true)), (.t 76)], none⟩] [])
 (.cond (.t 77)
  (.seq
  (.reg false [
    ⟨(some 2), .mv, [(.c (.int .i64 14))], none⟩] [])
  .ret)
  .skip))
 (.seq
 (.reg true [
   ⟨(some 78), .mv, [(.t 3)], none⟩,
   ⟨(some 79), (.bin .gtr), [(.t 78), (.c (.int .i64 0))], none⟩,
   ⟨(some 80), .mv, [(.t 79)], none⟩,
   ⟨(some 81), (.fad 1), [(.t 1)], (some (80, true))⟩,
   ⟨(some 82), (.ld false 1), [(.t 81)], (some (80, true))⟩,
   ⟨(some 83), .mv, [(.t 3)], (some (80, true))⟩,
   ⟨(some 84), (.bin .sub), [(.t 83), (.c (.int .i64 1))], (some (80, true))⟩,
   ⟨(some 85), (.iad 3), [(.t 82), (.t 84)], (some (80, true))⟩,
   ⟨(some 86), (.ld true 3), [(.t 85)], (some (80, true))⟩,
   ⟨(some 87), (.ld true 3), [(.t 4)], (some (80, true))⟩,
   ⟨(some 88), .call, [(.f nref11_before), (.t 86), (.t 87)], (some (80, true))⟩,
   ⟨(some 89), (.un .not), [(.t 88)], (some (80, true))⟩,
   ⟨(some 90), .pick, [(.t 80), (.t 89), (.c (.bool false))], none⟩,
   ⟨(some 91), .mv, [(.t 90)], none⟩,
   ⟨(some 92), (.fad 2), [(.t 1)], (some (91, false))⟩,
   ⟨(some 93), (.ld false 1), [(.t 92)], (some (91, false))⟩,
   ⟨(some 94), (.fad 0), [(.t 4)], (some (91, false))⟩,
   ⟨(some 95), (.ld false 1), [(.t 94)], (some (91, false))⟩,
   ⟨(some 96), .call, [(.f nref11_Has), (.t 93), (.t 95)], (some (91, false))⟩,
   ⟨(some 97), .pick, [(.t 91), (.c (.bool true)), (.t 96)], none⟩,
   ⟨(some 98), .mv, [(.t 97)], none⟩,
   ⟨(some 99), (.fad 2), [(.t 1)], (some (98, false))⟩,
   ⟨(some 100), (.ld false 1), [(.t 99)], (some (98, false))⟩,
   ⟨(some 101), (.fad 1), [(.t 4)], (some (98, false))⟩,
   ⟨(some 102), (.ld false 1), [(.t 101)], (some (98, false))⟩,
   ⟨(some 103), .call, [(.f nref11_Has), (.t 100), (.t 102)], (some (98, false))⟩,
   ⟨(some 104), .pick, [(.t 98), (.c (.bool true)), (.t 103)], none⟩] [[], [0], [1], [2], [3, 2], [2], [5, 2], [4, 6, 2], [7, 2], [2], [8, 9, 2, 2], [10, 2], [2, 11], [12, 10], [13], [14, 13], [13], [16, 13], [15, 17, 13, 13], [13, 18], [19, 18], [20], [21, 20], [20], [23, 20], [22, 24, 20, 20], [20, 25]])
 (.cond (.t 104)
  (.seq
  (.reg false [
    ⟨(some 2), .mv, [(.c (.int .i64 14))], none⟩] [])
  .ret)
  .skip)))))
 (.reg false [
   ⟨(some 32), .mv, [(.t 3)], none⟩,
   ⟨(some 33), (.bin .add), [(.t 32), (.c (.int .i64 1))], none⟩,
   ⟨(some 3), .mv, [(.t 33)], none⟩] []))))))
 (.seq
 (.reg false [
   ⟨(some 2), .mv, [(.c (.int .i64 0))], none⟩] [])
 .ret))))⟩

def cslices_Equal_Lapi_Edge_api_Edge : AFun := ⟨26, [(4, none)],
 (.seq
 (.reg false [
   ⟨(some 4), .mv, [(.c (.bool false))], none⟩] [])
 (.seq
 (.seq
 (.reg false [
   ⟨(some 6), .mv, [(.t 0)], none⟩,
   ⟨(some 7), .len, [(.t 6)], none⟩,
   ⟨(some 8), .mv, [(.t 1)], none⟩,
   ⟨(some 9), .len, [(.t 8)], none⟩,
   ⟨(some 10), (.bin .neq), [(.t 7), (.t 9)], none⟩] [])
 (.cond (.t 10)
  (.seq
  (.reg false [
    ⟨(some 4), .mv, [(.c (.bool false))], none⟩] [])
  .ret)
  .skip))
 (.seq
 (.seq
 (.reg false [
   ⟨(some 11), .mv, [(.t 0)], none⟩,
   ⟨(some 12), .len, [(.t 11)], none⟩,
   ⟨(some 13), .mv, [(.c (.int .i64 0))], none⟩] [])
 (.block 0
 (.loop
 (.seq
 (.reg false [
   ⟨(some 14), (.bin .lss), [(.t 13), (.t 12)], none⟩] [])
 (.seq
 (.cond (.t 14)
  .skip
  (.exit 0))
 (.seq
 (.block 1
 (.seq
 (.reg false [
   ⟨(some 15), .mv, [(.t 13)], none⟩,
   ⟨(some 5), .mv, [(.t 15)], none⟩] [])
 (.seq
 (.reg true [
   ⟨(some 16), .mv, [(.t 0)], none⟩,
   ⟨(some 17), .mv, [(.t 5)], none⟩,
   ⟨(some 18), (.iad 3), [(.t 16), (.t 17)], none⟩,
   ⟨(some 19), (.ld true 3), [(.t 18)], none⟩,
   ⟨(some 20), .mv, [(.t 1)], none⟩,
   ⟨(some 21), .mv, [(.t 5)], none⟩,
   ⟨(some 22), (.iad 3), [(.t 20), (.t 21)], none⟩,
   ⟨(some 23), (.ld true 3), [(.t 22)], none⟩,
   ⟨(some 24), (.aeq true [0, 0, 0]), [(.t 19), (.t 23)], none⟩] [[], [], [0, 1], [2], [], [], [4, 5], [6], [3, 7]])
 (.cond (.t 24)
  (.seq
  (.reg false [
    ⟨(some 4), .mv, [(.c (.bool false))], none⟩] [])
  .ret)
  .skip))))
 (.reg false [
   ⟨(some 25), (.bin .add), [(.t 13), (.c (.int .i64 1))], none⟩,
   ⟨(some 13), .mv, [(.t 25)], none⟩] [])))))))
 (.seq
 (.reg false [
   ⟨(some 4), .mv, [(.c (.bool true))], none⟩] [])
 .ret))))⟩

def cslices_Equal_Lint_int : AFun := ⟨26, [(4, none)],
 (.seq
 (.reg false [
   ⟨(some 4), .mv, [(.c (.bool false))], none⟩] [])
 (.seq
 (.seq
 (.reg false [
   ⟨(some 6), .mv, [(.t 0)], none⟩,
   ⟨(some 7), .len, [(.t 6)], none⟩,
   ⟨(some 8), .mv, [(.t 1)], none⟩,
   ⟨(some 9), .len, [(.t 8)], none⟩,
   ⟨(some 10), (.bin .neq), [(.t 7), (.t 9)], none⟩] [])
 (.cond (.t 10)
  (.seq
  (.reg false [
    ⟨(some 4), .mv, [(.c (.bool false))], none⟩] [])
  .ret)
  .skip))
 (.seq
 (.seq
 (.reg false [
   ⟨(some 11), .mv, [(.t 0)], none⟩,
   ⟨(some 12), .len, [(.t 11)], none⟩,
   ⟨(some 13), .mv, [(.c (.int .i64 0))], none⟩] [])
 (.block 0
 (.loop
 (.seq
 (.reg false [
   ⟨(some 14), (.bin .lss), [(.t 13), (.t 12)], none⟩] [])
 (.seq
 (.cond (.t 14)
  .skip
  (.exit 0))
 (.seq
 (.block 1
 (.seq
 (.reg false [
   ⟨(some 15), .mv, [(.t 13)], none⟩,
   ⟨(some 5), .mv, [(.t 15)], none⟩] [])
 (.seq
 (.reg true [
   ⟨(some 16), .mv, [(.t 0)], none⟩,
   ⟨(some 17), .mv, [(.t 5)], none⟩,
   ⟨(some 18), (.iad 1), [(.t 16), (.t 17)], none⟩,
   ⟨(some 19), (.ld false 1), [(.t 18)], none⟩,
   ⟨(some 20), .mv, [(.t 1)], none⟩,
   ⟨(some 21), .mv, [(.t 5)], none⟩,
   ⟨(some 22), (.iad 1), [(.t 20), (.t 21)], none⟩,
   ⟨(some 23), (.ld false 1), [(.t 22)], none⟩,
   ⟨(some 24), (.bin .neq), [(.t 19), (.t 23)], none⟩] [[], [], [0, 1], [2], [], [], [4, 5], [6], [3, 7]])
 (.cond (.t 24)
  (.seq
  (.reg false [
    ⟨(some 4), .mv, [(.c (.bool false))], none⟩] [])
  .ret)
  .skip))))
 (.reg false [
   ⟨(some 25), (.bin .add), [(.t 13), (.c (.int .i64 1))], none⟩,
   ⟨(some 13), .mv, [(.t 25)], none⟩] [])))))))
 (.seq
 (.reg false [
   ⟨(some 4), .mv, [(.c (.bool true))], none⟩] [])
 .ret))))⟩

def cref11_index : AFun := ⟨53, [(6, none), (7, none)],
 (.seq
 (.reg false [
   ⟨(some 3), (.box 3), [(.t 0)], none⟩,
   ⟨(some 6), .mv, [(.c (.int .i64 0))], none⟩,
   ⟨(some 7), .mv, [(.c (.bool false))], none⟩] [])
 (.seq
 (.reg false [
   ⟨(some 8), .mv, [(.c (.int .i64 0))], none⟩] [])
 (.seq
 (.block 0
 (.loop
 (.seq
 (.seq
 (.reg false [
   ⟨(some 9), .mv, [(.t 8)], none⟩,
   ⟨(some 10), (.fad 1), [(.t 3)], none⟩,
   ⟨(some 11), (.ld false 1), [(.t 10)], none⟩,
   ⟨(some 12), .len, [(.t 11)], none⟩,
   ⟨(some 13), (.bin .lss), [(.t 9), (.t 12)], none⟩,
   ⟨(some 14), .mv, [(.t 13)], none⟩,
   ⟨(some 15), (.fad 1), [(.t 3)], (some (14, true))⟩,
   ⟨(some 16), (.ld false 1), [(.t 15)], (some (14, true))⟩,
   ⟨(some 17), .mv, [(.t 8)], (some (14, true))⟩,
   ⟨(some 18), (.iad 3), [(.t 16), (.t 17)], (some (14, true))⟩,
   ⟨(some 19), (.ld true 3), [(.t 18)], (some (14, true))⟩,
   ⟨(some 20), .mv, [(.t 1)], (some (14, true))⟩,
   ⟨(some 21), .mv, [(.t 2)], (some (14, true))⟩,
   ⟨(some 22), (.build [(.int .i64 0), (.int .i64 0), (.int .i64 0)] [(0, 1), (1, 1)]), [(.t 20), (.t 21)], (some (14, true))⟩,
   ⟨(some 23), .call, [(.f nref11_before), (.t 19), (.t 22)], (some (14, true))⟩,
   ⟨(some 24), .pick, [(.t 14), (.t 23), (.c (.bool false))], none⟩] [])
 (.cond (.t 24)
  .skip
  (.exit 0)))
 (.block 1
 (.reg false [
   ⟨(some 25), .mv, [(.t 8)], none⟩,
   ⟨(some 26), (.bin .add), [(.t 25), (.c (.int .i64 1))], none⟩,
   ⟨(some 8), .mv, [(.t 26)], none⟩] [])))))
 (.seq
 (.reg true [
   ⟨(some 27), .mv, [(.t 8)], none⟩,
   ⟨(some 28), .mv, [(.t 8)], none⟩,
   ⟨(some 29), (.fad 1), [(.t 3)], none⟩,
   ⟨(some 30), (.ld false 1), [(.t 29)], none⟩,
   ⟨(some 31), .len, [(.t 30)], none⟩,
   ⟨(some 32), (.bin .lss), [(.t 28), (.t 31)], none⟩,
   ⟨(some 33), .mv, [(.t 32)], none⟩,
   ⟨(some 34), (.fad 1), [(.t 3)], (some (33, true))⟩,
   ⟨(some 35), (.ld false 1), [(.t 34)], (some (33, true))⟩,
   ⟨(some 36), .mv, [(.t 8)], (some (33, true))⟩,
   ⟨(some 37), (.iad 3), [(.t 35), (.t 36)], (some (33, true))⟩,
   ⟨(some 38), (.fad 0), [(.t 37)], (some (33, true))⟩,
   ⟨(some 39), (.ld false 1), [(.t 38)], (some (33, true))⟩,
   ⟨(some 40), .mv, [(.t 1)], (some (33, true))⟩,
   ⟨(some 41), (.bin .eql), [(.t 39), (.t 40)], (some (33, true))⟩,
   ⟨(some 42), .pick, [(.t 33), (.t 41), (.c (.bool false))], none⟩,
   ⟨(some 43), .mv, [(.t 42)], none⟩,
   ⟨(some 44), (.fad 1), [(.t 3)], (some (43, true))⟩,
   ⟨(some 45), (.ld false 1), [(.t 44)], (some (43, true))⟩,
   ⟨(some 46), .mv, [(.t 8)], (some (43, true))⟩,
   ⟨(some 47), (.iad 3), [(.t 45), (.t 46)], (some (43, true))⟩,
   ⟨(some 48), (.fad 1), [(.t 47)], (some (43, true))⟩,
   ⟨(some 49), (.ld false 1), [(.t 48)], (some (43, true))⟩,
   ⟨(some 50), .mv, [(.t 2)], (some (43, true))⟩,
   ⟨(some 51), (.bin .eql), [(.t 49), (.t 50)], (some (43, true))⟩,
   ⟨(some 52), .pick, [(.t 43), (.t 51), (.c (.bool false))], none⟩,
   ⟨(some 6), .mv, [(.t 27)], none⟩,
   ⟨(some 7), .mv, [(.t 52)], none⟩] [[], [], [], [2], [3], [1, 4], [5], [6], [7, 6], [6], [8, 9, 6], [10, 6], [11, 6], [6], [12, 13, 6], [6, 14], [15, 6], [16], [17, 16], [16], [18, 19, 16], [20, 16], [21, 16], [16], [22, 23, 16], [16, 24], [0, 16, 0], [25, 26, 0, 1, 2, 3, 4, 5, 6, 7, 8, 9, 10, 11, 12, 13, 14, 15, 16, 17, 18, 19, 20, 21, 22, 23, 24, 25, 26]])
 .ret))))⟩

def ccmp_Compare_int : AFun := ⟨20, [(4, none)],
 (.seq
 (.reg false [
   ⟨(some 4), .mv, [(.c (.int .i64 0))], none⟩] [])
 (.seq
 (.reg false [
   ⟨(some 7), .mv, [(.t 0)], none⟩,
   ⟨(some 8), .call, [(.f ncmp_isNaN_int), (.t 7)], none⟩,
   ⟨(some 5), .mv, [(.t 8)], none⟩] [])
 (.seq
 (.reg false [
   ⟨(some 9), .mv, [(.t 1)], none⟩,
   ⟨(some 10), .call, [(.f ncmp_isNaN_int), (.t 9)], none⟩,
   ⟨(some 6), .mv, [(.t 10)], none⟩] [])
 (.seq
 (.seq
 (.reg false [
   ⟨(some 11), .mv, [(.t 5)], none⟩] [])
 (.cond (.t 11)
  (.seq
  (.seq
  (.reg false [
    ⟨(some 12), .mv, [(.t 6)], none⟩] [])
  (.cond (.t 12)
   (.seq
   (.reg false [
     ⟨(some 4), .mv, [(.c (.int .i64 0))], none⟩] [])
   .ret)
   .skip))
  (.seq
  (.reg false [
    ⟨(some 4), .mv, [(.c (.int .i64 (-1)))], none⟩] [])
  .ret))
  .skip))
 (.seq
 (.seq
 (.reg false [
   ⟨(some 13), .mv, [(.t 6)], none⟩] [])
 (.cond (.t 13)
  (.seq
  (.reg false [
    ⟨(some 4), .mv, [(.c (.int .i64 1))], none⟩] [])
  .ret)
  .skip))
 (.seq
 (.seq
 (.reg false [
   ⟨(some 14), .mv, [(.t 0)], none⟩,
   ⟨(some 15), .mv, [(.t 1)], none⟩,
   ⟨(some 16), (.bin .lss), [(.t 14), (.t 15)], none⟩] [])
 (.cond (.t 16)
  (.seq
  (.reg false [
    ⟨(some 4), .mv, [(.c (.int .i64 (-1)))], none⟩] [])
  .ret)
  .skip))
 (.seq
 (.seq
 (.reg false [
   ⟨(some 17), .mv, [(.t 0)], none⟩,
   ⟨(some 18), .mv, [(.t 1)], none⟩,
   ⟨(some 19), (.bin .gtr), [(.t 17), (.t 18)], none⟩] [])
 (.cond (.t 19)
  (.seq
  (.reg false [
    ⟨(some 4), .mv, [(.c (.int .i64 1))], none⟩] [])
  .ret)
  .skip))
 (.seq
 (.reg false [
   ⟨(some 4), .mv, [(.c (.int .i64 0))], none⟩] [])
 .ret))))))))⟩

def ccmp_Or_int : AFun := ⟨18, [(2, none)],
 (.seq
 (.reg false [
   ⟨(some 2), .mv, [(.c (.int .i64 0))], none⟩] [])
 (.seq
 (.reg false [
   ⟨(some 3), .mv, [(.c (.int .i64 0))], none⟩] [])
 (.seq
 (.seq
 (.reg false [
   ⟨(some 6), .mv, [(.t 0)], none⟩,
   ⟨(some 7), .len, [(.t 6)], none⟩,
   ⟨(some 8), .mv, [(.c (.int .i64 0))], none⟩] [])
 (.block 0
 (.loop
 (.seq
 (.reg false [
   ⟨(some 9), (.bin .lss), [(.t 8), (.t 7)], none⟩] [])
 (.seq
 (.cond (.t 9)
  .skip
  (.exit 0))
 (.seq
 (.block 1
 (.seq
 (.reg false [
   ⟨(some 10), (.iad 1), [(.t 6), (.t 8)], none⟩,
   ⟨(some 11), (.ld false 1), [(.t 10)], none⟩,
   ⟨(some 5), .mv, [(.t 11)], none⟩] [])
 (.seq
 (.reg false [
   ⟨(some 12), .mv, [(.t 5)], none⟩,
   ⟨(some 13), .mv, [(.t 3)], none⟩,
   ⟨(some 14), (.bin .neq), [(.t 12), (.t 13)], none⟩] [])
 (.cond (.t 14)
  (.seq
  (.reg false [
    ⟨(some 15), .mv, [(.t 5)], none⟩,
    ⟨(some 2), .mv, [(.t 15)], none⟩] [])
  .ret)
  .skip))))
 (.reg false [
   ⟨(some 16), (.bin .add), [(.t 8), (.c (.int .i64 1))], none⟩,
   ⟨(some 8), .mv, [(.t 16)], none⟩] [])))))))
 (.seq
 (.reg false [
   ⟨(some 17), .mv, [(.t 3)], none⟩,
   ⟨(some 2), .mv, [(.t 17)], none⟩] [])
 .ret))))⟩

def cslices_Contains_Lint_int : AFun := ⟨9, [(4, none)],
 (.seq
 (.reg false [
   ⟨(some 4), .mv, [(.c (.bool false))], none⟩] [])
 (.seq
 (.reg false [
   ⟨(some 5), .mv, [(.t 0)], none⟩,
   ⟨(some 6), .mv, [(.t 1)], none⟩,
   ⟨(some 7), .call, [(.f nslices_Index_Lint_int), (.t 5), (.t 6)], none⟩,
   ⟨(some 8), (.bin .geq), [(.t 7), (.c (.int .i64 0))], none⟩,
   ⟨(some 4), .mv, [(.t 8)], none⟩] [])
 .ret))⟩

def cslices_Clone_Lapi_Edge_api_Edge : AFun := ⟨8, [(2, none)],
 (.seq
 (.reg false [
   ⟨(some 2), .mv, [(.c (.slice none 0 0))], none⟩] [])
 (.seq
 (.seq
 (.reg false [
   ⟨(some 3), .mv, [(.t 0)], none⟩,
   ⟨(some 4), (.snil false), [(.t 3)], none⟩] [])
 (.cond (.t 4)
  (.seq
  (.reg false [
    ⟨(some 2), .mv, [(.c (.slice none 0 0))], none⟩] [])
  .ret)
  .skip))
 (.seq
 (.reg false [
   ⟨(some 5), (.bsl 3 0 [(.int .i64 0), (.int .i64 0), (.int .i64 0)] []), [], none⟩,
   ⟨(some 6), .mv, [(.t 0)], none⟩,
   ⟨(some 7), (.app 3 24), [(.t 5), (.t 6)], none⟩,
   ⟨(some 2), .mv, [(.t 7)], none⟩] [])
 .ret)))⟩

def cslices_Clone_Lint_int : AFun := ⟨8, [(2, none)],
 (.seq
 (.reg false [
   ⟨(some 2), .mv, [(.c (.slice none 0 0))], none⟩] [])
 (.seq
 (.seq
 (.reg false [
   ⟨(some 3), .mv, [(.t 0)], none⟩,
   ⟨(some 4), (.snil false), [(.t 3)], none⟩] [])
 (.cond (.t 4)
  (.seq
  (.reg false [
    ⟨(some 2), .mv, [(.c (.slice none 0 0))], none⟩] [])
  .ret)
  .skip))
 (.seq
 (.reg false [
   ⟨(some 5), (.bsl 1 0 [(.int .i64 0)] []), [], none⟩,
   ⟨(some 6), .mv, [(.t 0)], none⟩,
   ⟨(some 7), (.app 1 8), [(.t 5), (.t 6)], none⟩,
   ⟨(some 2), .mv, [(.t 7)], none⟩] [])
 .ret)))⟩

def cref11_Set : AFun := ⟨41, [(4, none)],
 (.seq
 (.reg false [
   ⟨(some 4), .mv, [(.c (.bool false))], none⟩] [])
 (.seq
 (.seq
 (.reg false [
   ⟨(some 5), .mv, [(.c (.int .i64 0))], none⟩] [])
 (.block 0
 (.loop
 (.seq
 (.seq
 (.reg false [
   ⟨(some 6), .mv, [(.t 5)], none⟩,
   ⟨(some 7), .mv, [(.t 0)], none⟩,
   ⟨(some 8), .len, [(.t 7)], none⟩,
   ⟨(some 9), (.bin .lss), [(.t 6), (.t 8)], none⟩] [])
 (.cond (.t 9)
  .skip
  (.exit 0)))
 (.seq
 (.block 1
 (.seq
 (.reg true [
   ⟨(some 12), .mv, [(.t 0)], none⟩,
   ⟨(some 13), .mv, [(.t 5)], none⟩,
   ⟨(some 14), (.iad 1), [(.t 12), (.t 13)], none⟩,
   ⟨(some 15), (.ld false 1), [(.t 14)], none⟩,
   ⟨(some 16), (.bin .lss), [(.t 15), (.c (.int .i64 0))], none⟩,
   ⟨(some 17), .mv, [(.t 16)], none⟩,
   ⟨(some 18), .mv, [(.t 0)], (some (17, false))⟩,
   ⟨(some 19), .mv, [(.t 5)], (some (17, false))⟩,
   ⟨(some 20), (.iad 1), [(.t 18), (.t 19)], (some (17, false))⟩,
   ⟨(some 21), (.ld false 1), [(.t 20)], (some (17, false))⟩,
   ⟨(some 22), .mv, [(.t 1)], (some (17, false))⟩,
   ⟨(some 23), (.bin .geq), [(.t 21), (.t 22)], (some (17, false))⟩,
   ⟨(some 24), .pick, [(.t 17), (.c (.bool true)), (.t 23)], none⟩,
   ⟨(some 25), .mv, [(.t 24)], none⟩,
   ⟨(some 26), .mv, [(.t 5)], (some (25, false))⟩,
   ⟨(some 27), (.bin .gtr), [(.t 26), (.c (.int .i64 0))], (some (25, false))⟩,
   ⟨(some 28), .mv, [(.t 27)], (some (25, false))⟩,
   ⟨(some 29), .mv, [(.t 0)], (some (28, true))⟩,
   ⟨(some 30), .mv, [(.t 5)], (some (28, true))⟩,
   ⟨(some 31), (.iad 1), [(.t 29), (.t 30)], (some (28, true))⟩,
   ⟨(some 32), (.ld false 1), [(.t 31)], (some (28, true))⟩,
   ⟨(some 33), .mv, [(.t 0)], (some (28, true))⟩,
   ⟨(some 34), .mv, [(.t 5)], (some (28, true))⟩,
   ⟨(some 35), (.bin .sub), [(.t 34), (.c (.int .i64 1))], (some (28, true))⟩,
   ⟨(some 36), (.iad 1), [(.t 33), (.t 35)], (some (28, true))⟩,
   ⟨(some 37), (.ld false 1), [(.t 36)], (some (28, true))⟩,
   ⟨(some 38), (.bin .leq), [(.t 32), (.t 37)], (some (28, true))⟩,
   ⟨(some 39), .pick, [(.t 28), (.t 38), (.c (.bool false))], (some (25, false))⟩,
   ⟨(some 40), .pick, [(.t 25), (.c (.bool true)), (.t 39)], none⟩] [[], [], [0, 1], [2], [3], [4], [5], [5], [6, 7, 5], [8, 5], [5], [9, 10, 5], [5, 11], [12, 5], [13], [14, 13], [15, 13, 13], [16], [16], [17, 18, 16], [19, 16], [16], [16], [22, 16], [21, 23, 16], [24, 16], [20, 25, 16], [16, 26, 13], [13, 27]])
 (.cond (.t 40)
  (.seq
  (.reg false [
    ⟨(some 4), .mv, [(.c (.bool false))], none⟩] [])
  .ret)
  .skip)))
 (.reg false [
   ⟨(some 10), .mv, [(.t 5)], none⟩,
   ⟨(some 11), (.bin .add), [(.t 10), (.c (.int .i64 1))], none⟩,
   ⟨(some 5), .mv, [(.t 11)], none⟩] []))))))
 (.seq
 (.reg false [
   ⟨(some 4), .mv, [(.c (.bool true))], none⟩] [])
 .ret)))⟩

def cref11_before : AFun := ⟨24, [(4, none)],
 (.seq
 (.reg false [
   ⟨(some 2), (.box 3), [(.t 0)], none⟩,
   ⟨(some 3), (.box 3), [(.t 1)], none⟩,
   ⟨(some 4), .mv, [(.c (.bool false))], none⟩] [])
 (.seq
 (.reg false [
   ⟨(some 5), (.fad 0), [(.t 2)], none⟩,
   ⟨(some 6), (.ld false 1), [(.t 5)], none⟩,
   ⟨(some 7), (.fad 0), [(.t 3)], none⟩,
   ⟨(some 8), (.ld false 1), [(.t 7)], none⟩,
   ⟨(some 9), (.bin .lss), [(.t 6), (.t 8)], none⟩,
   ⟨(some 10), .mv, [(.t 9)], none⟩,
   ⟨(some 11), (.fad 0), [(.t 2)], (some (10, false))⟩,
   ⟨(some 12), (.ld false 1), [(.t 11)], (some (10, false))⟩,
   ⟨(some 13), (.fad 0), [(.t 3)], (some (10, false))⟩,
   ⟨(some 14), (.ld false 1), [(.t 13)], (some (10, false))⟩,
   ⟨(some 15), (.bin .eql), [(.t 12), (.t 14)], (some (10, false))⟩,
   ⟨(some 16), .mv, [(.t 15)], (some (10, false))⟩,
   ⟨(some 17), (.fad 1), [(.t 2)], (some (16, true))⟩,
   ⟨(some 18), (.ld false 1), [(.t 17)], (some (16, true))⟩,
   ⟨(some 19), (.fad 1), [(.t 3)], (some (16, true))⟩,
   ⟨(some 20), (.ld false 1), [(.t 19)], (some (16, true))⟩,
   ⟨(some 21), (.bin .lss), [(.t 18), (.t 20)], (some (16, true))⟩,
   ⟨(some 22), .pick, [(.t 16), (.t 21), (.c (.bool false))], (some (10, false))⟩,
   ⟨(some 23), .pick, [(.t 10), (.c (.bool true)), (.t 22)], none⟩,
   ⟨(some 4), .mv, [(.t 23)], none⟩] [])
 .ret))⟩

def ccmp_isNaN_int : AFun := ⟨6, [(2, none)],
 (.seq
 (.reg false [
   ⟨(some 2), .mv, [(.c (.bool false))], none⟩] [])
 (.seq
 (.reg false [
   ⟨(some 3), .mv, [(.t 0)], none⟩,
   ⟨(some 4), .mv, [(.t 0)], none⟩,
   ⟨(some 5), (.bin .neq), [(.t 3), (.t 4)], none⟩,
   ⟨(some 2), .mv, [(.t 5)], none⟩] [])
 .ret))⟩

def cslices_Index_Lint_int : AFun := ⟨19, [(4, none)],
 (.seq
 (.reg false [
   ⟨(some 4), .mv, [(.c (.int .i64 0))], none⟩] [])
 (.seq
 (.seq
 (.reg false [
   ⟨(some 6), .mv, [(.t 0)], none⟩,
   ⟨(some 7), .len, [(.t 6)], none⟩,
   ⟨(some 8), .mv, [(.c (.int .i64 0))], none⟩] [])
 (.block 0
 (.loop
 (.seq
 (.reg false [
   ⟨(some 9), (.bin .lss), [(.t 8), (.t 7)], none⟩] [])
 (.seq
 (.cond (.t 9)
  .skip
  (.exit 0))
 (.seq
 (.block 1
 (.seq
 (.reg false [
   ⟨(some 10), .mv, [(.t 8)], none⟩,
   ⟨(some 5), .mv, [(.t 10)], none⟩] [])
 (.seq
 (.reg false [
   ⟨(some 11), .mv, [(.t 1)], none⟩,
   ⟨(some 12), .mv, [(.t 0)], none⟩,
   ⟨(some 13), .mv, [(.t 5)], none⟩,
   ⟨(some 14), (.iad 1), [(.t 12), (.t 13)], none⟩,
   ⟨(some 15), (.ld false 1), [(.t 14)], none⟩,
   ⟨(some 16), (.bin .eql), [(.t 11), (.t 15)], none⟩] [])
 (.cond (.t 16)
  (.seq
  (.reg false [
    ⟨(some 17), .mv, [(.t 5)], none⟩,
    ⟨(some 4), .mv, [(.t 17)], none⟩] [])
  .ret)
  .skip))))
 (.reg false [
   ⟨(some 18), (.bin .add), [(.t 8), (.c (.int .i64 1))], none⟩,
   ⟨(some 8), .mv, [(.t 18)], none⟩] [])))))))
 (.seq
 (.reg false [
   ⟨(some 4), .mv, [(.c (.int .i64 (-1)))], none⟩] [])
 .ret)))⟩

end Go.Proofs.Ytnphfkceoklkkaa
