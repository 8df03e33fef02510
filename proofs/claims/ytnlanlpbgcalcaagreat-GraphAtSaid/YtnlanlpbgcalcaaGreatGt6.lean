/- Texts of this claim, merged. -/
import Derived.Test.YtnlanlpbgcalcaaGreatGt5
set_option linter.unusedSimpArgs false
set_option linter.unusedVariables false
set_option linter.unusedSectionVars false
namespace Go.Proofs.YtnlanlpbgcalcaaGreat
open Go
set_option maxRecDepth 100000
def cmade_Light : AFun := ⟨6,[(2,none)],
 (.seq (.reg false [oo 2 .mv [.c (.bool false)]] [])
 (.seq (.reg false [oo 3 .mv [.t 0],oo 4 .len [.t 3],oo 5 (.bin .leq) [.t 4,ki 400],oo 2 .mv [.t 5]] [])
 .ret))⟩
def claw11_awake : AFun := ⟨64,[(0,none)],
 (.seq (.reg false [oo 0 .mv [.c (.bool false)]] [])
 (.seq (.reg false [oo 7 (.build [v0,vn,vn] [(0,1)]) [ki 3],oo 8 (.build [v0,v0,v0] [(0,1),(1,1),(2,1)]) [ki 0,ki 2,ki 2],oo 9 .call [.f ngraph_With,.t 7,.t 8],oo 6 .mv [.t 9],oo 10 (.ext 0) [.t 6],oo 11 (.ext 1) [.t 6],oo 1 (.alloc [v0,vn,vn]) [],ou (.st 3) [.t 1,.t 10],oo 2 .mv [.t 11]] [])
 (.seq (.reg false [oo 13 (.ld true 3) [.t 1],oo 14 .call [.f ngraph_Without,.t 13,ki 0,ki 2],oo 12 .mv [.t 14],oo 15 (.ext 0) [.t 12],oo 16 (.ext 1) [.t 12],oo 3 (.alloc [v0,vn,vn]) [],ou (.st 3) [.t 3,.t 15],oo 4 .mv [.t 16]] [])
 (.seq (.reg false [oo 17 (.ld true 3) [.t 1],oo 18 .call [.f ngraph_Out,.t 17,ki 0],oo 5 .mv [.t 18]] [])
 (.seq (.reg false [oo 19 .mv [.t 2],oo 20 (.bin .eql) [.t 19,ki 0],oo 21 .mv [.t 20],og 22 .mv [.t 4] 21,og 23 (.bin .eql) [.t 22,ki 0] 21,oo 24 .pick [.t 21,.t 23,.c (.bool false)],oo 25 .mv [.t 24],og 26 (.fad 1) [.t 1] 25,og 27 (.ld false 1) [.t 26] 25,og 28 .len [.t 27] 25,og 29 (.bin .eql) [.t 28,ki 1] 25,oo 30 .pick [.t 25,.t 29,.c (.bool false)],oo 31 .mv [.t 30],og 32 (.fad 1) [.t 3] 31,og 33 (.ld false 1) [.t 32] 31,og 34 .len [.t 33] 31,og 35 (.bin .eql) [.t 34,ki 0] 31,oo 36 .pick [.t 31,.t 35,.c (.bool false)],oo 37 .mv [.t 36],og 38 (.ld true 3) [.t 1] 37,og 39 .call [.f ngraph_Check,.t 38] 37,og 40 (.bin .eql) [.t 39,ki 0] 37,oo 41 .pick [.t 37,.t 40,.c (.bool false)],oo 42 .mv [.t 41],og 43 .mv [.t 5] 42,og 44 .len [.t 43] 42,og 45 (.bin .eql) [.t 44,ki 1] 42,oo 46 .pick [.t 42,.t 45,.c (.bool false)],oo 47 .mv [.t 46],og 48 .mv [.t 5] 47,og 49 (.iad 1) [.t 48,ki 0] 47,og 50 (.ld false 1) [.t 49] 47,og 51 (.bin .eql) [.t 50,ki 2] 47,oo 52 .pick [.t 47,.t 51,.c (.bool false)],oo 53 .mv [.t 52],og 54 (.ld true 3) [.t 1] 53,og 55 .call [.f ngraph_In,.t 54,ki 2] 53,og 56 .len [.t 55] 53,og 57 (.bin .eql) [.t 56,ki 1] 53,oo 58 .pick [.t 53,.t 57,.c (.bool false)],oo 59 .mv [.t 58],og 60 (.build [v0,vn,vn] [(0,1)]) [ki 65] 59,og 61 .call [.f ngraph_Check,.t 60] 59,og 62 (.bin .eql) [.t 61,ki 14] 59,oo 63 .pick [.t 59,.t 62,.c (.bool false)],oo 0 .mv [.t 63]] [])
 .ret)))))⟩
def cmade_Roll : AFun := ⟨6,[(2,none)],
 (.seq (.reg false [oo 2 .mv [(.c (.pointer none))]] [])
 (.seq (.reg false [oo 3 .mv [.t 0],oo 4 (.build [vn,v0] [(0,1)]) [.t 3],oo 5 (.box 2) [.t 4],oo 2 .mv [.t 5]] [])
 .ret))⟩
def cref05_Counted : AFun := ⟨17,[(2,none)],
 (.seq (.reg false [oo 1 (.box 1) [.t 0],oo 2 .mv [kn]] [])
 (.seq (.reg false [oo 3 .mv [kn]] [])
 (.seq (.seq
 (.reg false [oo 4 .mv [ki 0]] [])
 (.block 0 (.loop
 (.seq (.seq
 (.reg false [oo 5 .mv [.t 4],oo 6 (.bin .lss) [.t 5,ki 64]] [])
 (.cond (.t 6)
 .skip
 (.exit 0)))
 (.seq (.block 1 (.reg false [oo 9 .mv [.t 3],oo 10 .mv [.t 4],oo 11 (.ld true 1) [.t 1],oo 12 .mv [.t 4],oo 13 .call [.f nref05_Of,.t 11,.t 12],oo 14 .call [.f nref04_Counted,.t 10,.t 13],oo 15 (.app 13 160) [.t 9,.t 14],oo 3 .mv [.t 15]] []))
 (.reg false [oo 7 .mv [.t 4],oo 8 (.bin .add) [.t 7,ki 1],oo 4 .mv [.t 8]] []))))))
 (.seq (.reg false [oo 16 .mv [.t 3],oo 2 .mv [.t 16]] [])
 .ret))))⟩
def cmade_Dice_Store : AFun := ⟨12,[(4,some (true,1))],
 (.seq (.reg false [oo 4 (.alloc [vn]) []] [])
 (.seq (.reg false [oo 5 .mv [.t 0],oo 6 .mv [.t 0],oo 7 .call [.f nmade_Dice_Next,.t 6,ki 5],oo 8 (.bin .add) [ki 1,.t 7],oo 9 .mv [.t 1],oo 10 .call [.f nmade_Dice_Lists,.t 5,.t 8,.t 9],oo 11 .call [.f nmade_StoreOf,.t 10],ou (.st 1) [.t 4,.t 11]] [])
 .ret))⟩
def cmade_Mod : AFun := ⟨16,[(4,none)],
 (.seq (.reg false [oo 4 .mv [ki 0]] [])
 (.seq (.seq
 (.reg false [oo 5 .mv [.t 1],oo 6 (.bin .lss) [.t 5,ki 1]] [])
 (.cond (.t 6)
 (.seq (.reg false [
 oo 4 .mv [ki 0]] [])
 .ret)
 .skip))
 (.seq (.reg false [oo 7 .mv [.t 0],oo 8 .mv [.t 1],oo 9 (.bin .rem) [.t 7,.t 8],oo 0 .mv [.t 9]] [])
 (.seq (.seq
 (.reg false [oo 10 .mv [.t 0],oo 11 (.bin .lss) [.t 10,ki 0]] [])
 (.cond (.t 11)
 (.reg false [
 oo 12 .mv [.t 0],
 oo 13 .mv [.t 1],
 oo 14 (.bin .add) [.t 12,.t 13],
 oo 0 .mv [.t 14]] [])
 .skip))
 (.seq (.reg false [oo 15 .mv [.t 0],oo 4 .mv [.t 15]] [])
 .ret)))))⟩
def cgraph_At : AFun := ⟨50,[(6,some (true,3)),(7,none)],
 (.seq (.reg false [oo 6 (.alloc [v0,vn,vn]) [],oo 7 .mv [ki 0]] [])
 (.seq (.seq
 (.reg false [oo 11 .mv [.t 2],oo 12 .call [.f nlists_In,.t 11,ki 1,ki 3],oo 13 (.un .not) [.t 12]] [])
 (.cond (.t 13)
 (.seq (.reg false [
 oo 14 (.build [v0,vn,vn] []) [],
 ou (.st 3) [.t 6,.t 14],
 oo 7 .mv [ki 2]] [])
 .ret)
 .skip))
 (.seq (.reg false [oo 15 .mv [.t 0],oo 16 .mv [.t 1],oo 17 .call [.f nvouch_Gone,.t 15,.t 16],oo 18 (.build [v0,vn,vn] [(0,1),(2,1)]) [ki 64,.t 17],oo 8 (.alloc [v0,vn,vn]) [],ou (.st 3) [.t 8,.t 18]] [])
 (.seq (.seq
 (.reg false [oo 19 .mv [.t 0],oo 20 .mv [.t 1],oo 21 .call [.f nvouch_Active,.t 19,.t 20],oo 22 .len [.t 21],oo 23 .mv [ki 0]] [])
 (.block 0 (.loop
 (.seq (.reg false [oo 24 (.bin .lss) [.t 23,.t 22]] [])
 (.seq (.cond (.t 24)
 .skip
 (.exit 0))
 (.seq (.block 1 (.seq (.reg false [oo 25 (.iad 7) [.t 21,.t 23],oo 26 (.ld true 7) [.t 25],oo 10 (.alloc [v0,v0,v0,v0,v0,v0,v0]) [],ou (.st 7) [.t 10,.t 26]] [])
 (.seq (.reg false [oo 27 (.fad 2) [.t 10],oo 28 (.ld false 1) [.t 27],oo 29 .mv [.t 2],oo 30 (.bin .geq) [.t 28,.t 29]] [])
 (.cond (.t 30)
 (.reg false [
 oo 31 (.fad 1) [.t 8],
 oo 32 (.ld false 1) [.t 31],
 oo 33 (.fad 0) [.t 10],
 oo 34 (.ld false 1) [.t 33],
 oo 35 (.fad 1) [.t 10],
 oo 36 (.ld false 1) [.t 35],
 oo 37 (.fad 2) [.t 10],
 oo 38 (.ld false 1) [.t 37],
 oo 39 (.build [v0,v0,v0] [(0,1),(1,1),(2,1)]) [.t 34,.t 36,.t 38],
 oo 40 (.bsl 3 1 [v0,v0,v0] [0]) [.t 39],
 oo 41 (.app 3 24) [.t 32,.t 40],
 oo 42 (.fad 1) [.t 8],
 ou (.st 1) [.t 42,.t 41]] [])
 .skip))))
 (.reg false [oo 43 (.bin .add) [.t 23,ki 1],oo 23 .mv [.t 43]] [])))))))
 (.seq (.seq
 (.reg false [oo 44 (.fad 1) [.t 8],oo 45 (.ld false 1) [.t 44],oo 46 .len [.t 45],oo 47 (.bin .gtr) [.t 46,ki 500]] [])
 (.cond (.t 47)
 (.seq (.reg false [
 oo 48 (.build [v0,vn,vn] []) [],
 ou (.st 3) [.t 6,.t 48],
 oo 7 .mv [ki 3]] [])
 .ret)
 .skip))
 (.seq (.reg false [oo 49 (.ld true 3) [.t 8],ou (.st 3) [.t 6,.t 49],oo 7 .mv [ki 0]] [])
 .ret))))))⟩
def cgraph_Check : AFun := ⟨58,[(2,none)],
 (.seq (.reg false [oo 1 (.box 3) [.t 0],oo 2 .mv [ki 0]] [])
 (.seq (.seq
 (.reg false [oo 5 (.fad 0) [.t 1],oo 6 (.ld false 1) [.t 5],oo 7 .call [.f nlists_In,.t 6,ki 0,ki 64],oo 8 (.un .not) [.t 7],oo 9 .mv [.t 8],oh 10 (.fad 1) [.t 1] 9,oh 11 (.ld false 1) [.t 10] 9,oh 12 .len [.t 11] 9,oh 13 (.bin .gtr) [.t 12,ki 500] 9,oo 14 .pick [.t 9,.c (.bool true),.t 13],oo 15 .mv [.t 14],oh 16 (.fad 2) [.t 1] 15,oh 17 (.ld false 1) [.t 16] 15,oh 18 (.fad 0) [.t 1] 15,oh 19 (.ld false 1) [.t 18] 15,oh 20 (.bin .sub) [.t 19,ki 1] 15,oh 21 .call [.f nlists_Rising,.t 17,ki 0,.t 20] 15,oh 22 (.un .not) [.t 21] 15,oo 23 .pick [.t 15,.c (.bool true),.t 22]] [])
 (.cond (.t 23)
 (.seq (.reg false [
 oo 2 .mv [ki 14]] [])
 .ret)
 .skip))
 (.seq (.seq
 (.reg false [oo 24 (.fad 1) [.t 1],oo 25 (.ld false 1) [.t 24],oo 26 .len [.t 25],oo 27 .mv [ki 0]] [])
 (.block 0 (.loop
 (.seq (.reg false [oo 28 (.bin .lss) [.t 27,.t 26]] [])
 (.seq (.cond (.t 28)
 .skip
 (.exit 0))
 (.seq (.block 1 (.seq (.reg false [oo 29 .mv [.t 27],oo 30 (.iad 3) [.t 25,.t 27],oo 31 (.ld true 3) [.t 30],oo 4 (.alloc [v0,v0,v0]) [],oo 3 .mv [.t 29],ou (.st 3) [.t 4,.t 31]] [])
 (.seq (.reg true [oo 32 (.ld true 3) [.t 1],oo 33 (.ld true 3) [.t 4],oo 34 .call [.f ngraph_fits,.t 32,.t 33],oo 35 (.un .not) [.t 34],oo 36 .mv [.t 35],oh 37 (.fad 2) [.t 4] 36,oh 38 (.ld false 1) [.t 37] 36,oh 39 .call [.f nlists_In,.t 38,ki 1,ki 3] 36,oh 40 (.un .not) [.t 39] 36,oo 41 .pick [.t 36,.c (.bool true),.t 40],oo 42 .mv [.t 41],oh 43 .mv [.t 3] 42,oh 44 (.bin .gtr) [.t 43,ki 0] 42,oh 45 .mv [.t 44] 42,og 46 (.fad 1) [.t 1] 45,og 47 (.ld false 1) [.t 46] 45,og 48 .mv [.t 3] 45,og 49 (.bin .sub) [.t 48,ki 1] 45,og 50 (.iad 3) [.t 47,.t 49] 45,og 51 (.ld true 3) [.t 50] 45,og 52 (.ld true 3) [.t 4] 45,og 53 .call [.f ngraph_compare,.t 51,.t 52] 45,og 54 (.bin .geq) [.t 53,ki 0] 45,oh 55 .pick [.t 45,.t 54,.c (.bool false)] 42,oo 56 .pick [.t 42,.c (.bool true),.t 55]] [[],[],[0,1],[2],[3,2],[4],[5,4],[6,4,4],[7,4],[4,8],[9,7],[10],[11,10],[12,10,10],[13],[14,13],[13],[16,13],[15,17,13],[18,13],[13],[19,20,13,13],[21,13],[13,22,10],[10,23]])
 (.cond (.t 56)
 (.seq (.reg false [
 oo 2 .mv [ki 14]] [])
 .ret)
 .skip))))
 (.reg false [oo 57 (.bin .add) [.t 27,ki 1],oo 27 .mv [.t 57]] [])))))))
 (.seq (.reg false [oo 2 .mv [ki 0]] [])
 .ret))))⟩
def cgraph_Out : AFun := ⟨28,[(4,none)],
 (.seq (.reg false [oo 2 (.box 3) [.t 0],oo 4 .mv [kn]] [])
 (.seq (.reg false [oo 5 .mv [kn]] [])
 (.seq (.seq
 (.reg false [oo 8 (.fad 1) [.t 2],oo 9 (.ld false 1) [.t 8],oo 10 .len [.t 9],oo 11 .mv [ki 0]] [])
 (.block 0 (.loop
 (.seq (.reg false [oo 12 (.bin .lss) [.t 11,.t 10]] [])
 (.seq (.cond (.t 12)
 .skip
 (.exit 0))
 (.seq (.block 1 (.seq (.reg false [oo 13 (.iad 3) [.t 9,.t 11],oo 14 (.ld true 3) [.t 13],oo 7 (.alloc [v0,v0,v0]) [],ou (.st 3) [.t 7,.t 14]] [])
 (.seq (.reg false [oo 15 (.fad 0) [.t 7],oo 16 (.ld false 1) [.t 15],oo 17 .mv [.t 1],oo 18 (.bin .eql) [.t 16,.t 17]] [])
 (.cond (.t 18)
 (.reg false [
 oo 19 .mv [.t 5],
 oo 20 (.fad 1) [.t 7],
 oo 21 (.ld false 1) [.t 20],
 oo 22 (.bsl 1 1 [v0] [0]) [.t 21],
 oo 23 (.app 1 8) [.t 19,.t 22],
 oo 5 .mv [.t 23]] [])
 .skip))))
 (.reg false [oo 24 (.bin .add) [.t 11,ki 1],oo 11 .mv [.t 24]] [])))))))
 (.seq (.reg false [oo 25 .mv [.t 5],oo 26 .call [.f nslices_Sort_Lint_int,.t 25]] [])
 (.seq (.reg false [oo 27 .mv [.t 5],oo 4 .mv [.t 27]] [])
 .ret)))))⟩
def cgraph_In : AFun := ⟨28,[(4,none)],
 (.seq (.reg false [oo 2 (.box 3) [.t 0],oo 4 .mv [kn]] [])
 (.seq (.reg false [oo 5 .mv [kn]] [])
 (.seq (.seq
 (.reg false [oo 8 (.fad 1) [.t 2],oo 9 (.ld false 1) [.t 8],oo 10 .len [.t 9],oo 11 .mv [ki 0]] [])
 (.block 0 (.loop
 (.seq (.reg false [oo 12 (.bin .lss) [.t 11,.t 10]] [])
 (.seq (.cond (.t 12)
 .skip
 (.exit 0))
 (.seq (.block 1 (.seq (.reg false [oo 13 (.iad 3) [.t 9,.t 11],oo 14 (.ld true 3) [.t 13],oo 7 (.alloc [v0,v0,v0]) [],ou (.st 3) [.t 7,.t 14]] [])
 (.seq (.reg false [oo 15 (.fad 1) [.t 7],oo 16 (.ld false 1) [.t 15],oo 17 .mv [.t 1],oo 18 (.bin .eql) [.t 16,.t 17]] [])
 (.cond (.t 18)
 (.reg false [
 oo 19 .mv [.t 5],
 oo 20 (.fad 0) [.t 7],
 oo 21 (.ld false 1) [.t 20],
 oo 22 (.bsl 1 1 [v0] [0]) [.t 21],
 oo 23 (.app 1 8) [.t 19,.t 22],
 oo 5 .mv [.t 23]] [])
 .skip))))
 (.reg false [oo 24 (.bin .add) [.t 11,ki 1],oo 11 .mv [.t 24]] [])))))))
 (.seq (.reg false [oo 25 .mv [.t 5],oo 26 .call [.f nslices_Sort_Lint_int,.t 25]] [])
 (.seq (.reg false [oo 27 .mv [.t 5],oo 4 .mv [.t 27]] [])
 .ret)))))⟩
def claw11_same : AFun := ⟨17,[(8,none)],
 (.seq (.reg false [oo 4 (.box 3) [.t 0],oo 5 (.box 3) [.t 1],oo 8 .mv [.c (.bool false)]] [])
 (.seq (.reg false [oo 9 .mv [.t 2],oo 10 .mv [.t 3],oo 11 (.bin .eql) [.t 9,.t 10],oo 12 .mv [.t 11],og 13 (.ld true 3) [.t 4] 12,og 14 (.ld true 3) [.t 5] 12,og 15 .call [.f nref11_Same,.t 13,.t 14] 12,oo 16 .pick [.t 12,.t 15,.c (.bool false)],oo 8 .mv [.t 16]] [])
 .ret))⟩
def cref11_Same : AFun := ⟨46,[(4,none)],
 (.seq (.reg false [oo 2 (.box 3) [.t 0],oo 3 (.box 3) [.t 1],oo 4 .mv [.c (.bool false)]] [])
 (.seq (.seq
 (.reg false [oo 6 (.fad 0) [.t 2],oo 7 (.ld false 1) [.t 6],oo 8 (.fad 0) [.t 3],oo 9 (.ld false 1) [.t 8],oo 10 (.bin .neq) [.t 7,.t 9],oo 11 .mv [.t 10],oh 12 (.fad 1) [.t 2] 11,oh 13 (.ld false 1) [.t 12] 11,oh 14 .len [.t 13] 11,oh 15 (.fad 1) [.t 3] 11,oh 16 (.ld false 1) [.t 15] 11,oh 17 .len [.t 16] 11,oh 18 (.bin .neq) [.t 14,.t 17] 11,oo 19 .pick [.t 11,.c (.bool true),.t 18],oo 20 .mv [.t 19],oh 21 (.fad 2) [.t 2] 20,oh 22 (.ld false 1) [.t 21] 20,oh 23 (.fad 2) [.t 3] 20,oh 24 (.ld false 1) [.t 23] 20,oh 25 .call [.f nref03_SameInts,.t 22,.t 24] 20,oh 26 (.un .not) [.t 25] 20,oo 27 .pick [.t 20,.c (.bool true),.t 26]] [])
 (.cond (.t 27)
 (.seq (.reg false [
 oo 4 .mv [.c (.bool false)]] [])
 .ret)
 .skip))
 (.seq (.seq
 (.reg false [oo 5 .mv [ki 0]] [])
 (.block 0 (.loop
 (.seq (.seq
 (.reg false [oo 28 .mv [.t 5],oo 29 (.fad 1) [.t 2],oo 30 (.ld false 1) [.t 29],oo 31 .len [.t 30],oo 32 (.bin .lss) [.t 28,.t 31]] [])
 (.cond (.t 32)
 .skip
 (.exit 0)))
 (.seq (.block 1 (.seq (.reg true [oo 35 (.fad 1) [.t 2],oo 36 (.ld false 1) [.t 35],oo 37 .mv [.t 5],oo 38 (.iad 3) [.t 36,.t 37],oo 39 (.ld true 3) [.t 38],oo 40 (.fad 1) [.t 3],oo 41 (.ld false 1) [.t 40],oo 42 .mv [.t 5],oo 43 (.iad 3) [.t 41,.t 42],oo 44 (.ld true 3) [.t 43],oo 45 (.aeq true [0,0,0]) [.t 39,.t 44]] [[],[0],[],[1,2],[3],[],[5],[],[6,7],[8],[4,9]])
 (.cond (.t 45)
 (.seq (.reg false [
 oo 4 .mv [.c (.bool false)]] [])
 .ret)
 .skip)))
 (.reg false [oo 33 .mv [.t 5],oo 34 (.bin .add) [.t 33,ki 1],oo 5 .mv [.t 34]] []))))))
 (.seq (.reg false [oo 4 .mv [.c (.bool true)]] [])
 .ret))))⟩
def cgraph_Level : AFun := ⟨14,[(4,some (true,3))],
 (.seq (.reg false [oo 2 (.box 3) [.t 0],oo 3 (.box 1) [.t 1],oo 4 (.alloc [v0,vn,vn]) []] [])
 (.seq (.reg false [oo 6 (.ld true 3) [.t 2],oo 7 .call [.f ngraph_copied,.t 6],oo 5 (.alloc [v0,vn,vn]) [],ou (.st 3) [.t 5,.t 7]] [])
 (.seq (.reg false [oo 8 (.fad 1) [.t 5],oo 9 (.ld false 1) [.t 8],oo 10 (.mkf ngraph_Level_c1) [.t 3],oo 11 .call [.f nslices_DeleteFunc_Lapi_Edge_api_Edge,.t 9,.t 10],oo 12 (.fad 1) [.t 5],ou (.st 1) [.t 12,.t 11]] [])
 (.seq (.reg false [oo 13 (.ld true 3) [.t 5],ou (.st 3) [.t 4,.t 13]] [])
 .ret))))⟩
def cgraph_With : AFun := ⟨51,[(4,some (true,3)),(5,none)],
 (.seq (.reg false [oo 2 (.box 3) [.t 0],oo 3 (.box 3) [.t 1],oo 4 (.alloc [v0,vn,vn]) [],oo 5 .mv [ki 0]] [])
 (.seq (.seq
 (.reg false [oo 9 (.ld true 3) [.t 2],oo 10 .call [.f ngraph_Check,.t 9],oo 11 (.bin .neq) [.t 10,ki 0]] [])
 (.cond (.t 11)
 (.seq (.reg false [
 oo 12 (.build [v0,vn,vn] []) [],
 ou (.st 3) [.t 4,.t 12],
 oo 5 .mv [ki 14]] [])
 .ret)
 .skip))
 (.seq (.reg false [oo 14 (.fad 1) [.t 2],oo 15 (.ld false 1) [.t 14],oo 16 (.ld true 3) [.t 3],oo 17 .call [.f nslices_BinarySearchFunc_Lapi_Edge_api_Edge_api_Edge,.t 15,.t 16,(.f ngraph_compare)],oo 13 .mv [.t 17],oo 18 (.ext 0) [.t 13],oo 19 (.ext 1) [.t 13],oo 6 .mv [.t 18],oo 7 .mv [.t 19]] [])
 (.seq (.block 0 (.seq (.reg false [oo 21 (.ld true 3) [.t 2],oo 22 (.ld true 3) [.t 3],oo 23 .call [.f ngraph_fits,.t 21,.t 22],oo 24 (.un .not) [.t 23],oo 20 .mv [.t 24]] [])
 (.cond (.t 20)
 (.seq (.reg false [
 oo 25 (.build [v0,vn,vn] []) [],
 ou (.st 3) [.t 4,.t 25],
 oo 5 .mv [ki 4]] [])
 .ret)
 (.seq (.reg false [
 oo 27 (.fad 2) [.t 3],
 oo 28 (.ld false 1) [.t 27],
 oo 29 .call [.f nlists_In,.t 28,ki 1,ki 3],
 oo 30 (.un .not) [.t 29],
 oo 26 .mv [.t 30]] [])
 (.cond (.t 26)
 (.seq (.reg false [
 oo 31 (.build [v0,vn,vn] []) [],
 ou (.st 3) [.t 4,.t 31],
 oo 5 .mv [ki 2]] [])
 .ret)
 (.seq (.reg false [
 oo 33 .mv [.t 7],
 oo 32 .mv [.t 33]] [])
 (.cond (.t 32)
 (.seq (.reg false [
 oo 34 (.build [v0,vn,vn] []) [],
 ou (.st 3) [.t 4,.t 34],
 oo 5 .mv [ki 19]] [])
 .ret)
 (.seq (.reg false [
 oo 36 (.fad 1) [.t 2],
 oo 37 (.ld false 1) [.t 36],
 oo 38 .len [.t 37],
 oo 39 (.bin .geq) [.t 38,ki 500],
 oo 35 .mv [.t 39]] [])
 (.cond (.t 35)
 (.seq (.reg false [
 oo 40 (.build [v0,vn,vn] []) [],
 ou (.st 3) [.t 4,.t 40],
 oo 5 .mv [ki 3]] [])
 .ret)
 .skip)))))))))
 (.seq (.reg false [oo 41 (.ld true 3) [.t 2],oo 42 .call [.f ngraph_copied,.t 41],oo 8 (.alloc [v0,vn,vn]) [],ou (.st 3) [.t 8,.t 42]] [])
 (.seq (.reg false [oo 43 (.fad 1) [.t 8],oo 44 (.ld false 1) [.t 43],oo 45 .mv [.t 6],oo 46 (.ld true 3) [.t 3],oo 47 (.bsl 3 1 [v0,v0,v0] [0]) [.t 46],oo 48 .call [.f nslices_Insert_Lapi_Edge_api_Edge,.t 44,.t 45,.t 47],oo 49 (.fad 1) [.t 8],ou (.st 1) [.t 49,.t 48]] [])
 (.seq (.reg false [oo 50 (.ld true 3) [.t 8],ou (.st 3) [.t 4,.t 50],oo 5 .mv [ki 0]] [])
 .ret)))))))⟩
def cgraph_Without : AFun := ⟨37,[(6,some (true,3)),(7,none)],
 (.seq (.reg false [oo 3 (.box 3) [.t 0],oo 6 (.alloc [v0,vn,vn]) [],oo 7 .mv [ki 0]] [])
 (.seq (.seq
 (.reg false [oo 11 (.ld true 3) [.t 3],oo 12 .call [.f ngraph_Check,.t 11],oo 13 (.bin .neq) [.t 12,ki 0]] [])
 (.cond (.t 13)
 (.seq (.reg false [
 oo 14 (.build [v0,vn,vn] []) [],
 ou (.st 3) [.t 6,.t 14],
 oo 7 .mv [ki 14]] [])
 .ret)
 .skip))
 (.seq (.reg false [oo 16 (.fad 1) [.t 3],oo 17 (.ld false 1) [.t 16],oo 18 .mv [.t 1],oo 19 .mv [.t 2],oo 20 (.build [v0,v0,v0] [(0,1),(1,1)]) [.t 18,.t 19],oo 21 .call [.f nslices_BinarySearchFunc_Lapi_Edge_api_Edge_api_Edge,.t 17,.t 20,(.f ngraph_compare)],oo 15 .mv [.t 21],oo 22 (.ext 0) [.t 15],oo 23 (.ext 1) [.t 15],oo 8 .mv [.t 22],oo 9 .mv [.t 23]] [])
 (.seq (.seq
 (.reg false [oo 24 .mv [.t 9],oo 25 (.un .not) [.t 24]] [])
 (.cond (.t 25)
 (.seq (.reg false [
 oo 26 (.build [v0,vn,vn] []) [],
 ou (.st 3) [.t 6,.t 26],
 oo 7 .mv [ki 19]] [])
 .ret)
 .skip))
 (.seq (.reg false [oo 27 (.ld true 3) [.t 3],oo 28 .call [.f ngraph_copied,.t 27],oo 10 (.alloc [v0,vn,vn]) [],ou (.st 3) [.t 10,.t 28]] [])
 (.seq (.reg false [oo 29 (.fad 1) [.t 10],oo 30 (.ld false 1) [.t 29],oo 31 .mv [.t 8],oo 32 .mv [.t 8],oo 33 (.bin .add) [.t 32,ki 1],oo 34 .call [.f nslices_Delete_Lapi_Edge_api_Edge,.t 30,.t 31,.t 33],oo 35 (.fad 1) [.t 10],ou (.st 1) [.t 35,.t 34]] [])
 (.seq (.reg false [oo 36 (.ld true 3) [.t 10],ou (.st 3) [.t 6,.t 36],oo 7 .mv [ki 0]] [])
 .ret)))))))⟩
def cref04_Counted : AFun := ⟨76,[(4,none)],
 (.seq (.reg false [oo 4 .mv [kn]] [])
 (.seq (.reg false [oo 9 .mv [.t 0],oo 10 .mv [.t 1],oo 11 .call [.f nref04_Own,.t 9,.t 10],oo 5 .mv [.t 11]] [])
 (.seq (.reg false [oo 6 .mv [kn]] [])
 (.seq (.seq
 (.reg false [oo 7 .mv [ki 0]] [])
 (.block 0 (.loop
 (.seq (.seq
 (.reg false [oo 12 .mv [.t 7],oo 13 .mv [.t 5],oo 14 .len [.t 13],oo 15 (.bin .lss) [.t 12,.t 14]] [])
 (.cond (.t 15)
 .skip
 (.exit 0)))
 (.seq (.block 1 (.seq (.reg false [oo 18 .mv [.t 6],oo 19 .len [.t 18],oo 8 .mv [.t 19]] [])
 (.seq (.seq
 (.reg false [oo 20 .mv [.t 5],oo 21 .mv [.t 7],oo 22 (.iad 13) [.t 20,.t 21],oo 23 (.fad 1) [.t 22],oo 24 (.ld false 1) [.t 23],oo 25 .mv [.t 8],oo 26 (.bin .neq) [.t 24,.t 25],oo 27 .mv [.t 26],oh 28 .mv [.t 7] 27,oh 29 (.bin .add) [.t 28,ki 1] 27,oh 30 .mv [.t 5] 27,oh 31 .len [.t 30] 27,oh 32 (.bin .lss) [.t 29,.t 31] 27,oh 33 .mv [.t 32] 27,og 34 .mv [.t 5] 33,og 35 .mv [.t 7] 33,og 36 (.bin .add) [.t 35,ki 1] 33,og 37 (.iad 13) [.t 34,.t 36] 33,og 38 (.fad 1) [.t 37] 33,og 39 (.ld false 1) [.t 38] 33,og 40 .mv [.t 8] 33,og 41 (.bin .eql) [.t 39,.t 40] 33,oh 42 .pick [.t 33,.t 41,.c (.bool false)] 27,oo 43 .pick [.t 27,.c (.bool true),.t 42]] [])
 (.cond (.t 43)
 (.exit 0)
 .skip))
 (.seq (.seq
 (.reg true [oo 44 .mv [.t 8],oo 45 (.bin .gtr) [.t 44,ki 0],oo 46 .mv [.t 45],og 47 .mv [.t 6] 46,og 48 .mv [.t 8] 46,og 49 (.bin .sub) [.t 48,ki 1] 46,og 50 (.iad 13) [.t 47,.t 49] 46,og 51 (.ld true 13) [.t 50] 46,og 52 .mv [.t 5] 46,og 53 .mv [.t 7] 46,og 54 (.iad 13) [.t 52,.t 53] 46,og 55 (.ld true 13) [.t 54] 46,og 56 .call [.f nref04_Follows,.t 51,.t 55] 46,og 57 (.un .not) [.t 56] 46,og 58 .mv [.t 57] 46,oh 59 .mv [.t 6] 58,oh 60 .mv [.t 8] 58,oh 61 (.bin .sub) [.t 60,ki 1] 58,oh 62 (.iad 13) [.t 59,.t 61] 58,oh 63 (.fad 4) [.t 62] 58,oh 64 (.ld false 1) [.t 63] 58,oh 65 (.bin .eql) [.t 64,ki 3] 58,og 66 .pick [.t 58,.c (.bool true),.t 65] 46,oo 67 .pick [.t 46,.t 66,.c (.bool false)]] [[],[0],[1],[2],[2],[4,2],[3,5,2],[6,2],[2],[2],[8,9,2],[10,2],[7,11,2,2],[12,2],[13,12,2],[14],[14],[16,14],[15,17,14],[18,14],[19,14],[20,14],[14,21,2],[2,22]])
 (.cond (.t 67)
 (.exit 0)
 .skip))
 (.reg false [oo 68 .mv [.t 6],oo 69 .mv [.t 5],oo 70 .mv [.t 7],oo 71 (.iad 13) [.t 69,.t 70],oo 72 (.ld true 13) [.t 71],oo 73 (.bsl 13 1 [v0,v0,ve,v0,v0,v0,v0,v0,vn,vn,ve,v0,ve] [0]) [.t 72],oo 74 (.app 13 160) [.t 68,.t 73],oo 6 .mv [.t 74]] [])))))
 (.reg false [oo 16 .mv [.t 7],oo 17 (.bin .add) [.t 16,ki 1],oo 7 .mv [.t 17]] []))))))
 (.seq (.reg false [oo 75 .mv [.t 6],oo 4 .mv [.t 75]] [])
 .ret)))))⟩
def cref05_Of : AFun := ⟨32,[(4,none)],
 (.seq (.reg false [oo 2 (.box 1) [.t 0],oo 4 .mv [kn]] [])
 (.seq (.reg false [oo 5 .mv [kn]] [])
 (.seq (.seq
 (.reg false [oo 6 .mv [ki 0]] [])
 (.block 0 (.loop
 (.seq (.seq
 (.reg false [oo 7 .mv [.t 6],oo 8 (.fad 0) [.t 2],oo 9 (.ld false 1) [.t 8],oo 10 .len [.t 9],oo 11 (.bin .lss) [.t 7,.t 10]] [])
 (.cond (.t 11)
 .skip
 (.exit 0)))
 (.seq (.block 1 (.seq (.reg false [oo 14 (.fad 0) [.t 2],oo 15 (.ld false 1) [.t 14],oo 16 .mv [.t 6],oo 17 (.iad 13) [.t 15,.t 16],oo 18 (.fad 0) [.t 17],oo 19 (.ld false 1) [.t 18],oo 20 .mv [.t 1],oo 21 (.bin .eql) [.t 19,.t 20]] [])
 (.cond (.t 21)
 (.reg false [
 oo 22 .mv [.t 5],
 oo 23 (.fad 0) [.t 2],
 oo 24 (.ld false 1) [.t 23],
 oo 25 .mv [.t 6],
 oo 26 (.iad 13) [.t 24,.t 25],
 oo 27 (.ld true 13) [.t 26],
 oo 28 .call [.f nref03_Copy,.t 27],
 oo 29 (.bsl 13 1 [v0,v0,ve,v0,v0,v0,v0,v0,vn,vn,ve,v0,ve] [0]) [.t 28],
 oo 30 (.app 13 160) [.t 22,.t 29],
 oo 5 .mv [.t 30]] [])
 .skip)))
 (.reg false [oo 12 .mv [.t 6],oo 13 (.bin .add) [.t 12,ki 1],oo 6 .mv [.t 13]] []))))))
 (.seq (.reg false [oo 31 .mv [.t 5],oo 4 .mv [.t 31]] [])
 .ret))))⟩
def cmade_StoreOf : AFun := ⟨18,[(2,some (true,1))],
 (.seq (.reg false [oo 2 (.alloc [vn]) []] [])
 (.seq (.reg false [oo 3 (.alloc [vn]) []] [])
 (.seq (.seq
 (.reg false [oo 4 .mv [ki 0]] [])
 (.block 0 (.loop
 (.seq (.seq
 (.reg false [oo 5 .mv [.t 4],oo 6 .mv [.t 0],oo 7 .len [.t 6],oo 8 (.bin .lss) [.t 5,.t 7]] [])
 (.cond (.t 8)
 .skip
 (.exit 0)))
 (.seq (.block 1 (.reg true [oo 11 (.ld true 1) [.t 3],oo 12 .mv [.t 0],oo 13 .mv [.t 4],oo 14 (.iad 13) [.t 12,.t 13],oo 15 (.ld true 13) [.t 14],oo 16 .call [.f nref05_Adds,.t 11,.t 15],ou (.st 1) [.t 3,.t 16]] [[],[],[],[1,2],[3],[0,4],[5,5,0,1,2,3,4,5]]))
 (.reg false [oo 9 .mv [.t 4],oo 10 (.bin .add) [.t 9,ki 1],oo 4 .mv [.t 10]] []))))))
 (.seq (.reg false [oo 17 (.ld true 1) [.t 3],ou (.st 1) [.t 2,.t 17]] [])
 .ret))))⟩
def cmade_Dice_Lists : AFun := ⟨23,[(6,none)],
 (.seq (.reg false [oo 6 .mv [kn]] [])
 (.seq (.reg false [oo 7 .mv [kn]] [])
 (.seq (.seq
 (.reg false [oo 8 .mv [ki 0]] [])
 (.block 0 (.loop
 (.seq (.seq
 (.reg false [oo 9 .mv [.t 8],oo 10 .mv [.t 1],oo 11 (.bin .lss) [.t 9,.t 10]] [])
 (.cond (.t 11)
 .skip
 (.exit 0)))
 (.seq (.block 1 (.reg false [oo 14 .mv [.t 7],oo 15 .mv [.t 0],oo 16 .mv [.t 0],oo 17 .mv [.t 8],oo 18 .mv [.t 2],oo 19 .call [.f nmade_Dice_Chain,.t 16,.t 17,.t 18],oo 20 .call [.f nmade_Dice_Spoil,.t 15,.t 19],oo 21 (.app 13 160) [.t 14,.t 20],oo 7 .mv [.t 21]] []))
 (.reg false [oo 12 .mv [.t 8],oo 13 (.bin .add) [.t 12,ki 1],oo 8 .mv [.t 13]] []))))))
 (.seq (.reg false [oo 22 .mv [.t 7],oo 6 .mv [.t 22]] [])
 .ret))))⟩
def cmade_Dice_Next : AFun := ⟨35,[(4,none)],
 (.seq (.reg false [oo 4 .mv [ki 0]] [])
 (.seq (.seq
 (.reg true [oo 5 .mv [.t 0],oo 6 .nil [.t 5],oo 7 (.fad 1) [.t 6],oo 8 (.ld false 1) [.t 7],oo 9 .mv [.t 0],oo 10 .nil [.t 9],oo 11 (.fad 0) [.t 10],oo 12 (.ld false 1) [.t 11],oo 13 .len [.t 12],oo 14 (.bin .geq) [.t 8,.t 13]] [[],[0],[1],[2],[],[4],[5],[6],[7],[3,8]])
 (.cond (.t 14)
 (.seq (.reg false [
 oo 4 .mv [ki 0]] [])
 .ret)
 .skip))
 (.seq (.reg false [oo 15 .mv [.t 0],oo 16 .nil [.t 15],oo 17 (.fad 1) [.t 16],oo 18 (.ld false 1) [.t 17],oo 19 (.bin .add) [.t 18,ki 1],oo 20 .nil [.t 15],oo 21 (.fad 1) [.t 20],ou (.st 1) [.t 21,.t 19]] [])
 (.seq (.reg true [oo 22 .mv [.t 0],oo 23 .nil [.t 22],oo 24 (.fad 0) [.t 23],oo 25 (.ld false 1) [.t 24],oo 26 .mv [.t 0],oo 27 .nil [.t 26],oo 28 (.fad 1) [.t 27],oo 29 (.ld false 1) [.t 28],oo 30 (.bin .sub) [.t 29,ki 1],oo 31 (.iad 1) [.t 25,.t 30],oo 32 (.ld false 1) [.t 31],oo 33 .mv [.t 1],oo 34 .call [.f nmade_Mod,.t 32,.t 33],oo 4 .mv [.t 34]] [[],[0],[1],[2],[],[4],[5],[6],[7],[3,8],[9],[],[10,11],[12,12,0,1,2,3,4,5,6,7,8,9,10,11,12]])
 .ret))))⟩
def clists_In : AFun := ⟨15,[(6,none)],
 (.seq (.reg false [oo 6 .mv [.c (.bool false)]] [])
 (.seq (.reg false [oo 7 .mv [.t 0],oo 8 .mv [.t 1],oo 9 (.bin .geq) [.t 7,.t 8],oo 10 .mv [.t 9],og 11 .mv [.t 0] 10,og 12 .mv [.t 2] 10,og 13 (.bin .leq) [.t 11,.t 12] 10,oo 14 .pick [.t 10,.t 13,.c (.bool false)],oo 6 .mv [.t 14]] [])
 .ret))⟩
def cvouch_Gone : AFun := ⟨33,[(4,none)],
 (.seq (.reg false [oo 4 .mv [kn]] [])
 (.seq (.reg false [oo 5 .mv [kn]] [])
 (.seq (.seq
 (.reg false [oo 8 .mv [.t 0],oo 9 .len [.t 8],oo 10 .mv [ki 0]] [])
 (.block 0 (.loop
 (.seq (.reg false [oo 11 (.bin .lss) [.t 10,.t 9]] [])
 (.seq (.cond (.t 11)
 .skip
 (.exit 0))
 (.seq (.block 1 (.seq (.reg false [oo 12 (.iad 13) [.t 8,.t 10],oo 13 (.ld true 13) [.t 12],oo 7 (.alloc [v0,v0,ve,v0,v0,v0,v0,v0,vn,vn,ve,v0,ve]) [],ou (.st 13) [.t 7,.t 13]] [])
 (.seq (.reg false [oo 14 (.fad 4) [.t 7],oo 15 (.ld false 1) [.t 14],oo 16 (.bin .eql) [.t 15,ki 3],oo 17 .mv [.t 16],og 18 (.fad 3) [.t 7] 17,og 19 (.ld false 1) [.t 18] 17,og 20 .mv [.t 1] 17,og 21 (.bin .leq) [.t 19,.t 20] 17,oo 22 .pick [.t 17,.t 21,.c (.bool false)]] [])
 (.cond (.t 22)
 (.reg false [
 oo 23 .mv [.t 5],
 oo 24 (.fad 0) [.t 7],
 oo 25 (.ld false 1) [.t 24],
 oo 26 (.bsl 1 1 [v0] [0]) [.t 25],
 oo 27 (.app 1 8) [.t 23,.t 26],
 oo 5 .mv [.t 27]] [])
 .skip))))
 (.reg false [oo 28 (.bin .add) [.t 10,ki 1],oo 10 .mv [.t 28]] [])))))))
 (.seq (.reg false [oo 29 .mv [.t 5],oo 30 .call [.f nslices_Sort_Lint_int,.t 29]] [])
 (.seq (.reg false [oo 31 .mv [.t 5],oo 32 .call [.f nslices_Compact_Lint_int,.t 31],oo 4 .mv [.t 32]] [])
 .ret)))))⟩
def cvouch_Active : AFun := ⟨63,[(4,none)],
 (.seq (.reg false [oo 4 .mv [kn]] [])
 (.seq (.reg false [oo 12 .mv [.t 0],oo 13 .call [.f nvouch_Of,.t 12],oo 14 .mv [.t 0],oo 15 .mv [.t 1],oo 16 .call [.f nvouch_Gone,.t 14,.t 15],oo 5 .mv [.t 13],oo 6 .mv [.t 16]] [])
 (.seq (.reg false [oo 7 .mv [kn]] [])
 (.seq
 .skip
 (.seq (.seq
 (.reg false [oo 17 .mv [.t 5],oo 18 .len [.t 17],oo 19 .mv [ki 0]] [])
 (.block 0 (.loop
 (.seq (.reg false [oo 20 (.bin .lss) [.t 19,.t 18]] [])
 (.seq (.cond (.t 20)
 .skip
 (.exit 0))
 (.seq (.block 1 (.seq (.reg false [oo 21 .mv [.t 19],oo 22 (.iad 7) [.t 17,.t 19],oo 23 (.ld true 7) [.t 22],oo 9 (.alloc [v0,v0,v0,v0,v0,v0,v0]) [],oo 8 .mv [.t 21],ou (.st 7) [.t 9,.t 23]] [])
 (.seq (.seq
 (.reg false [oo 24 (.ld true 7) [.t 9],oo 25 .mv [.t 6],oo 26 .mv [.t 1],oo 27 .call [.f nvouch_holds,.t 24,.t 25,.t 26],oo 28 (.un .not) [.t 27]] [])
 (.cond (.t 28)
 (.exit 1)
 .skip))
 (.seq (.seq
 (.reg false [oo 29 .mv [.t 5],oo 30 .mv [.t 8],oo 31 (.bin .add) [.t 30,ki 1],oo 32 (.slc 7 true false false) [.t 29,.t 31],oo 33 .len [.t 32],oo 34 .mv [ki 0]] [])
 (.block 2 (.loop
 (.seq (.reg false [oo 35 (.bin .lss) [.t 34,.t 33]] [])
 (.seq (.cond (.t 35)
 .skip
 (.exit 2))
 (.seq (.block 3 (.seq (.reg false [oo 36 (.iad 7) [.t 32,.t 34],oo 37 (.ld true 7) [.t 36],oo 11 (.alloc [v0,v0,v0,v0,v0,v0,v0]) [],ou (.st 7) [.t 11,.t 37]] [])
 (.seq (.reg false [oo 38 (.fad 0) [.t 11],oo 39 (.ld false 1) [.t 38],oo 40 (.fad 0) [.t 9],oo 41 (.ld false 1) [.t 40],oo 42 (.bin .eql) [.t 39,.t 41],oo 43 .mv [.t 42],og 44 (.fad 1) [.t 11] 43,og 45 (.ld false 1) [.t 44] 43,og 46 (.fad 1) [.t 9] 43,og 47 (.ld false 1) [.t 46] 43,og 48 (.bin .eql) [.t 45,.t 47] 43,oo 49 .pick [.t 43,.t 48,.c (.bool false)],oo 50 .mv [.t 49],og 51 (.fad 4) [.t 11] 50,og 52 (.ld false 1) [.t 51] 50,og 53 .mv [.t 1] 50,og 54 (.bin .leq) [.t 52,.t 53] 50,oo 55 .pick [.t 50,.t 54,.c (.bool false)]] [])
 (.cond (.t 55)
 (.exit 1)
 .skip))))
 (.reg false [oo 56 (.bin .add) [.t 34,ki 1],oo 34 .mv [.t 56]] [])))))))
 (.reg false [oo 57 .mv [.t 7],oo 58 (.ld true 7) [.t 9],oo 59 (.bsl 7 1 [v0,v0,v0,v0,v0,v0,v0] [0]) [.t 58],oo 60 (.app 7 56) [.t 57,.t 59],oo 7 .mv [.t 60]] [])))))
 (.reg false [oo 61 (.bin .add) [.t 19,ki 1],oo 19 .mv [.t 61]] [])))))))
 (.seq (.reg false [oo 62 .mv [.t 7],oo 4 .mv [.t 62]] [])
 .ret))))))⟩
def clists_Rising : AFun := ⟨38,[(6,none)],
 (.seq (.reg false [oo 6 .mv [.c (.bool false)]] [])
 (.seq (.seq
 (.reg false [oo 9 .mv [.t 0],oo 10 .len [.t 9],oo 11 .mv [ki 0]] [])
 (.block 0 (.loop
 (.seq (.reg false [oo 12 (.bin .lss) [.t 11,.t 10]] [])
 (.seq (.cond (.t 12)
 .skip
 (.exit 0))
 (.seq (.block 1 (.seq (.reg false [oo 13 .mv [.t 11],oo 14 (.iad 1) [.t 9,.t 11],oo 15 (.ld false 1) [.t 14],oo 7 .mv [.t 13],oo 8 .mv [.t 15]] [])
 (.seq (.reg false [oo 16 .mv [.t 8],oo 17 .mv [.t 1],oo 18 (.bin .lss) [.t 16,.t 17],oo 19 .mv [.t 18],oh 20 .mv [.t 8] 19,oh 21 .mv [.t 2] 19,oh 22 (.bin .gtr) [.t 20,.t 21] 19,oo 23 .pick [.t 19,.c (.bool true),.t 22],oo 24 .mv [.t 23],oh 25 .mv [.t 7] 24,oh 26 (.bin .gtr) [.t 25,ki 0] 24,oh 27 .mv [.t 26] 24,og 28 .mv [.t 8] 27,og 29 .mv [.t 0] 27,og 30 .mv [.t 7] 27,og 31 (.bin .sub) [.t 30,ki 1] 27,og 32 (.iad 1) [.t 29,.t 31] 27,og 33 (.ld false 1) [.t 32] 27,og 34 (.bin .leq) [.t 28,.t 33] 27,oh 35 .pick [.t 27,.t 34,.c (.bool false)] 24,oo 36 .pick [.t 24,.c (.bool true),.t 35]] [])
 (.cond (.t 36)
 (.seq (.reg false [
 oo 6 .mv [.c (.bool false)]] [])
 .ret)
 .skip))))
 (.reg false [oo 37 (.bin .add) [.t 11,ki 1],oo 11 .mv [.t 37]] [])))))))
 (.seq (.reg false [oo 6 .mv [.c (.bool true)]] [])
 .ret)))⟩
def cgraph_fits : AFun := ⟨42,[(4,none)],
 (.seq (.reg false [oo 2 (.box 3) [.t 0],oo 3 (.box 3) [.t 1],oo 4 .mv [.c (.bool false)]] [])
 (.seq (.reg false [oo 5 (.fad 0) [.t 3],oo 6 (.ld false 1) [.t 5],oo 7 (.fad 0) [.t 2],oo 8 (.ld false 1) [.t 7],oo 9 (.bin .sub) [.t 8,ki 1],oo 10 .call [.f nlists_In,.t 6,ki 0,.t 9],oo 11 .mv [.t 10],og 12 (.fad 1) [.t 3] 11,og 13 (.ld false 1) [.t 12] 11,og 14 (.fad 0) [.t 2] 11,og 15 (.ld false 1) [.t 14] 11,og 16 (.bin .sub) [.t 15,ki 1] 11,og 17 .call [.f nlists_In,.t 13,ki 0,.t 16] 11,oo 18 .pick [.t 11,.t 17,.c (.bool false)],oo 19 .mv [.t 18],og 20 (.fad 0) [.t 3] 19,og 21 (.ld false 1) [.t 20] 19,og 22 (.fad 1) [.t 3] 19,og 23 (.ld false 1) [.t 22] 19,og 24 (.bin .neq) [.t 21,.t 23] 19,oo 25 .pick [.t 19,.t 24,.c (.bool false)],oo 26 .mv [.t 25],og 27 (.fad 2) [.t 2] 26,og 28 (.ld false 1) [.t 27] 26,og 29 (.fad 0) [.t 3] 26,og 30 (.ld false 1) [.t 29] 26,og 31 .call [.f nslices_Contains_Lint_int,.t 28,.t 30] 26,og 32 (.un .not) [.t 31] 26,oo 33 .pick [.t 26,.t 32,.c (.bool false)],oo 34 .mv [.t 33],og 35 (.fad 2) [.t 2] 34,og 36 (.ld false 1) [.t 35] 34,og 37 (.fad 1) [.t 3] 34,og 38 (.ld false 1) [.t 37] 34,og 39 .call [.f nslices_Contains_Lint_int,.t 36,.t 38] 34,og 40 (.un .not) [.t 39] 34,oo 41 .pick [.t 34,.t 40,.c (.bool false)],oo 4 .mv [.t 41]] [])
 .ret))⟩
def cgraph_compare : AFun := ⟨17,[(4,none)],
 (.seq (.reg false [oo 2 (.box 3) [.t 0],oo 3 (.box 3) [.t 1],oo 4 .mv [ki 0]] [])
 (.seq (.reg true [oo 5 (.fad 0) [.t 2],oo 6 (.ld false 1) [.t 5],oo 7 (.fad 0) [.t 3],oo 8 (.ld false 1) [.t 7],oo 9 .call [.f ncmp_Compare_int,.t 6,.t 8],oo 10 (.fad 1) [.t 2],oo 11 (.ld false 1) [.t 10],oo 12 (.fad 1) [.t 3],oo 13 (.ld false 1) [.t 12],oo 14 .call [.f ncmp_Compare_int,.t 11,.t 13],oo 15 (.bsl 1 2 [v0] [0,1]) [.t 9,.t 14],oo 16 .call [.f ncmp_Or_int,.t 15],oo 4 .mv [.t 16]] [[],[0],[],[2],[1,3],[],[5],[],[7],[6,8,4],[4,9],[10,9],[11,11,0,1,2,3,4,5,6,7,8,9,10,11]])
 .ret))⟩
def cslices_Sort_Lint_int : AFun := ⟨11,[],
 (.seq (.reg false [oo 3 .mv [.t 0],oo 4 .len [.t 3],oo 2 .mv [.t 4]] [])
 (.reg false [oo 5 .mv [.t 0],oo 6 .mv [.t 2],oo 7 .mv [.t 2],oo 8 (.cvt .u64) [.t 7],oo 9 .call [.f nmath_bits_Len,.t 8],oo 10 .call [.f nslices_pdqsortOrdered_int,.t 5,ki 0,.t 6,.t 9]] []))⟩
def cref10_Gone : AFun := ⟨52,[(4,none)],
 (.seq (.reg false [oo 4 .mv [kn]] [])
 (.seq (.reg false [oo 5 .mv [kn]] [])
 (.seq (.seq
 (.reg false [oo 6 .mv [ki 0]] [])
 (.block 0 (.loop
 (.seq (.seq
 (.reg false [oo 9 .mv [.t 6],oo 10 (.bin .lss) [.t 9,ki 64]] [])
 (.cond (.t 10)
 .skip
 (.exit 0)))
 (.seq (.block 1 (.seq (.reg false [oo 7 .mv [.c (.bool false)]] [])
 (.seq (.seq
 (.reg false [oo 8 .mv [ki 0]] [])
 (.block 2 (.loop
 (.seq (.seq
 (.reg false [oo 13 .mv [.t 8],oo 14 .mv [.t 0],oo 15 .len [.t 14],oo 16 (.bin .lss) [.t 13,.t 15]] [])
 (.cond (.t 16)
 .skip
 (.exit 2)))
 (.seq (.block 3 (.reg false [oo 19 .mv [.t 7],oo 20 .mv [.t 19],oh 21 .mv [.t 0] 20,oh 22 .mv [.t 8] 20,oh 23 (.iad 13) [.t 21,.t 22] 20,oh 24 (.fad 0) [.t 23] 20,oh 25 (.ld false 1) [.t 24] 20,oh 26 .mv [.t 6] 20,oh 27 (.bin .eql) [.t 25,.t 26] 20,oh 28 .mv [.t 27] 20,og 29 .mv [.t 0] 28,og 30 .mv [.t 8] 28,og 31 (.iad 13) [.t 29,.t 30] 28,og 32 (.fad 4) [.t 31] 28,og 33 (.ld false 1) [.t 32] 28,og 34 (.bin .eql) [.t 33,ki 3] 28,oh 35 .pick [.t 28,.t 34,.c (.bool false)] 20,oh 36 .mv [.t 35] 20,og 37 .mv [.t 0] 36,og 38 .mv [.t 8] 36,og 39 (.iad 13) [.t 37,.t 38] 36,og 40 (.fad 3) [.t 39] 36,og 41 (.ld false 1) [.t 40] 36,og 42 .mv [.t 1] 36,og 43 (.bin .leq) [.t 41,.t 42] 36,oh 44 .pick [.t 36,.t 43,.c (.bool false)] 20,oo 45 .pick [.t 20,.c (.bool true),.t 44],oo 7 .mv [.t 45]] []))
 (.reg false [oo 17 .mv [.t 8],oo 18 (.bin .add) [.t 17,ki 1],oo 8 .mv [.t 18]] []))))))
 (.seq (.reg false [oo 46 .mv [.t 7]] [])
 (.cond (.t 46)
 (.reg false [
 oo 47 .mv [.t 5],
 oo 48 .mv [.t 6],
 oo 49 (.bsl 1 1 [v0] [0]) [.t 48],
 oo 50 (.app 1 8) [.t 47,.t 49],
 oo 5 .mv [.t 50]] [])
 .skip)))))
 (.reg false [oo 11 .mv [.t 6],oo 12 (.bin .add) [.t 11,ki 1],oo 6 .mv [.t 12]] []))))))
 (.seq (.reg false [oo 51 .mv [.t 5],oo 4 .mv [.t 51]] [])
 .ret))))⟩
def cref10_Active : AFun := ⟨107,[(4,none)],
 (.seq (.reg false [oo 4 .mv [kn]] [])
 (.seq (.reg false [oo 11 .mv [.t 0],oo 12 .call [.f nref10_Of,.t 11],oo 13 .mv [.t 0],oo 14 .mv [.t 1],oo 15 .call [.f nref10_Gone,.t 13,.t 14],oo 5 .mv [.t 12],oo 6 .mv [.t 15]] [])
 (.seq (.reg false [oo 7 .mv [kn]] [])
 (.seq (.seq
 (.reg false [oo 8 .mv [ki 0]] [])
 (.block 0 (.loop
 (.seq (.seq
 (.reg false [oo 16 .mv [.t 8],oo 17 .mv [.t 5],oo 18 .len [.t 17],oo 19 (.bin .lss) [.t 16,.t 18]] [])
 (.cond (.t 19)
 .skip
 (.exit 0)))
 (.seq (.block 1 (.seq (.reg false [oo 22 .mv [.t 5],oo 23 .mv [.t 8],oo 24 (.iad 7) [.t 22,.t 23],oo 25 (.ld true 7) [.t 24],oo 9 (.alloc [v0,v0,v0,v0,v0,v0,v0]) [],ou (.st 7) [.t 9,.t 25]] [])
 (.seq (.reg true [oo 26 .mv [.t 8],oo 27 (.bin .add) [.t 26,ki 1],oo 28 .mv [.t 5],oo 29 .len [.t 28],oo 30 (.bin .lss) [.t 27,.t 29],oo 31 .mv [.t 30],og 32 .mv [.t 5] 31,og 33 .mv [.t 8] 31,og 34 (.bin .add) [.t 33,ki 1] 31,og 35 (.iad 7) [.t 32,.t 34] 31,og 36 (.fad 0) [.t 35] 31,og 37 (.ld false 1) [.t 36] 31,og 38 (.fad 0) [.t 9] 31,og 39 (.ld false 1) [.t 38] 31,og 40 (.bin .eql) [.t 37,.t 39] 31,oo 41 .pick [.t 31,.t 40,.c (.bool false)],oo 42 .mv [.t 41],og 43 .mv [.t 5] 42,og 44 .mv [.t 8] 42,og 45 (.bin .add) [.t 44,ki 1] 42,og 46 (.iad 7) [.t 43,.t 45] 42,og 47 (.fad 1) [.t 46] 42,og 48 (.ld false 1) [.t 47] 42,og 49 (.fad 1) [.t 9] 42,og 50 (.ld false 1) [.t 49] 42,og 51 (.bin .eql) [.t 48,.t 50] 42,oo 52 .pick [.t 42,.t 51,.c (.bool false)],oo 53 .mv [.t 52],og 54 .mv [.t 5] 53,og 55 .mv [.t 8] 53,og 56 (.bin .add) [.t 55,ki 1] 53,og 57 (.iad 7) [.t 54,.t 56] 53,og 58 (.fad 4) [.t 57] 53,og 59 (.ld false 1) [.t 58] 53,og 60 .mv [.t 1] 53,og 61 (.bin .leq) [.t 59,.t 60] 53,oo 62 .pick [.t 53,.t 61,.c (.bool false)],oo 10 .mv [.t 62]] [[],[0],[],[2],[1,3],[4],[5],[5],[7,5],[6,8,5],[9,5],[10,5],[5],[12,5],[11,13,5],[5,14],[15,5],[16],[16],[18,16],[17,19,16],[20,16],[21,16],[16],[23,16],[22,24,16],[16,25],[26,16],[27],[27],[29,27],[28,30,27],[31,27],[32,27],[27],[33,34,27],[27,35],[36,27,0,1,2,3,4,5,6,7,8,9,10,11,12,13,14,15,16,17,18,19,20,21,22,23,24,25,26,27,28,29,30,31,32,33,34,35,36]])
 (.seq (.reg false [oo 63 (.fad 4) [.t 9],oo 64 (.ld false 1) [.t 63],oo 65 .mv [.t 1],oo 66 (.bin .leq) [.t 64,.t 65],oo 67 .mv [.t 66],og 68 .mv [.t 1] 67,og 69 (.fad 5) [.t 9] 67,og 70 (.ld false 1) [.t 69] 67,og 71 (.bin .lss) [.t 68,.t 70] 67,oo 72 .pick [.t 67,.t 71,.c (.bool false)],oo 73 .mv [.t 72],og 74 (.fad 6) [.t 9] 73,og 75 (.ld false 1) [.t 74] 73,og 76 (.bin .eql) [.t 75,ki (-1)] 73,og 77 .mv [.t 76] 73,oh 78 (.fad 6) [.t 9] 77,oh 79 (.ld false 1) [.t 78] 77,oh 80 .mv [.t 1] 77,oh 81 (.bin .gtr) [.t 79,.t 80] 77,og 82 .pick [.t 77,.c (.bool true),.t 81] 73,oo 83 .pick [.t 73,.t 82,.c (.bool false)],oo 84 .mv [.t 83],og 85 .mv [.t 10] 84,og 86 (.un .not) [.t 85] 84,oo 87 .pick [.t 84,.t 86,.c (.bool false)],oo 88 .mv [.t 87],og 89 .mv [.t 6] 88,og 90 (.fad 0) [.t 9] 88,og 91 (.ld false 1) [.t 90] 88,og 92 .call [.f nref10_has,.t 89,.t 91] 88,og 93 (.un .not) [.t 92] 88,oo 94 .pick [.t 88,.t 93,.c (.bool false)],oo 95 .mv [.t 94],og 96 .mv [.t 6] 95,og 97 (.fad 1) [.t 9] 95,og 98 (.ld false 1) [.t 97] 95,og 99 .call [.f nref10_has,.t 96,.t 98] 95,og 100 (.un .not) [.t 99] 95,oo 101 .pick [.t 95,.t 100,.c (.bool false)]] [])
 (.cond (.t 101)
 (.reg false [
 oo 102 .mv [.t 7],
 oo 103 (.ld true 7) [.t 9],
 oo 104 (.bsl 7 1 [v0,v0,v0,v0,v0,v0,v0] [0]) [.t 103],
 oo 105 (.app 7 56) [.t 102,.t 104],
 oo 7 .mv [.t 105]] [])
 .skip)))))
 (.reg false [oo 20 .mv [.t 8],oo 21 (.bin .add) [.t 20,ki 1],oo 8 .mv [.t 21]] []))))))
 (.seq (.reg false [oo 106 .mv [.t 7],oo 4 .mv [.t 106]] [])
 .ret)))))⟩
def cref03_SameInts : AFun := ⟨26,[(4,none)],
 (.seq (.reg false [oo 4 .mv [.c (.bool false)]] [])
 (.seq (.seq
 (.reg false [oo 6 .mv [.t 0],oo 7 .len [.t 6],oo 8 .mv [.t 1],oo 9 .len [.t 8],oo 10 (.bin .neq) [.t 7,.t 9]] [])
 (.cond (.t 10)
 (.seq (.reg false [
 oo 4 .mv [.c (.bool false)]] [])
 .ret)
 .skip))
 (.seq (.seq
 (.reg false [oo 5 .mv [ki 0]] [])
 (.block 0 (.loop
 (.seq (.seq
 (.reg false [oo 11 .mv [.t 5],oo 12 .mv [.t 0],oo 13 .len [.t 12],oo 14 (.bin .lss) [.t 11,.t 13]] [])
 (.cond (.t 14)
 .skip
 (.exit 0)))
 (.seq (.block 1 (.seq (.reg true [oo 17 .mv [.t 0],oo 18 .mv [.t 5],oo 19 (.iad 1) [.t 17,.t 18],oo 20 (.ld false 1) [.t 19],oo 21 .mv [.t 1],oo 22 .mv [.t 5],oo 23 (.iad 1) [.t 21,.t 22],oo 24 (.ld false 1) [.t 23],oo 25 (.bin .neq) [.t 20,.t 24]] [[],[],[0,1],[2],[],[],[4,5],[6],[3,7]])
 (.cond (.t 25)
 (.seq (.reg false [
 oo 4 .mv [.c (.bool false)]] [])
 .ret)
 .skip)))
 (.reg false [oo 15 .mv [.t 5],oo 16 (.bin .add) [.t 15,ki 1],oo 5 .mv [.t 16]] []))))))
 (.seq (.reg false [oo 4 .mv [.c (.bool true)]] [])
 .ret))))⟩
def cgraph_copied : AFun := ⟨12,[(2,some (true,3))],
 (.seq (.reg false [oo 1 (.box 3) [.t 0],oo 2 (.alloc [v0,vn,vn]) []] [])
 (.seq (.reg true [oo 3 (.fad 0) [.t 1],oo 4 (.ld false 1) [.t 3],oo 5 (.fad 1) [.t 1],oo 6 (.ld false 1) [.t 5],oo 7 .call [.f nslices_Clone_Lapi_Edge_api_Edge,.t 6],oo 8 (.fad 2) [.t 1],oo 9 (.ld false 1) [.t 8],oo 10 .call [.f nslices_Clone_Lint_int,.t 9],oo 11 (.build [v0,vn,vn] [(0,1),(1,1),(2,1)]) [.t 4,.t 7,.t 10],ou (.st 3) [.t 2,.t 11]] [[],[0],[],[2],[3],[],[5],[6,4],[1,4,7],[8,7,0,1,2,3,4,5,6,7,8]])
 .ret))⟩
def cslices_DeleteFunc_Lapi_Edge_api_Edge : AFun := ⟨42,[(4,none)],
 (.seq (.reg false [oo 4 .mv [kn]] [])
 (.seq (.reg false [oo 8 .mv [.t 0],oo 9 .mv [.t 1],oo 10 .call [.f nslices_IndexFunc_Lapi_Edge_api_Edge,.t 8,.t 9],oo 5 .mv [.t 10]] [])
 (.seq (.seq
 (.reg false [oo 11 .mv [.t 5],oo 12 (.bin .eql) [.t 11,ki (-1)]] [])
 (.cond (.t 12)
 (.seq (.reg false [
 oo 13 .mv [.t 0],
 oo 4 .mv [.t 13]] [])
 .ret)
 .skip))
 (.seq (.seq
 (.reg false [oo 14 .mv [.t 5],oo 15 (.bin .add) [.t 14,ki 1],oo 6 .mv [.t 15]] [])
 (.block 0 (.loop
 (.seq (.seq
 (.reg false [oo 16 .mv [.t 6],oo 17 .mv [.t 0],oo 18 .len [.t 17],oo 19 (.bin .lss) [.t 16,.t 18]] [])
 (.cond (.t 19)
 .skip
 (.exit 0)))
 (.seq (.block 1 (.seq (.reg false [oo 22 .mv [.t 0],oo 23 .mv [.t 6],oo 24 (.iad 3) [.t 22,.t 23],oo 25 (.ld true 3) [.t 24],oo 7 (.alloc [v0,v0,v0]) [],ou (.st 3) [.t 7,.t 25]] [])
 (.seq (.reg false [oo 26 .mv [.t 1],oo 27 (.ld true 3) [.t 7],oo 28 .call [.t 26,.t 27],oo 29 (.un .not) [.t 28]] [])
 (.cond (.t 29)
 (.seq (.reg false [
 oo 30 .mv [.t 0],
 oo 31 .mv [.t 5],
 oo 32 (.ld true 3) [.t 7],
 oo 33 (.iad 3) [.t 30,.t 31],
 ou (.st 3) [.t 33,.t 32]] [])
 (.reg false [
 oo 34 .mv [.t 5],
 oo 35 (.bin .add) [.t 34,ki 1],
 oo 5 .mv [.t 35]] []))
 .skip))))
 (.reg false [oo 20 .mv [.t 6],oo 21 (.bin .add) [.t 20,ki 1],oo 6 .mv [.t 21]] []))))))
 (.seq (.reg false [oo 36 .mv [.t 0],oo 37 .mv [.t 5],oo 38 (.slc 3 true false false) [.t 36,.t 37],ou (.clr 3 [v0,v0,v0]) [.t 38]] [])
 (.seq (.reg false [oo 39 .mv [.t 0],oo 40 .mv [.t 5],oo 41 (.slc 3 false true false) [.t 39,.t 40],oo 4 .mv [.t 41]] [])
 .ret))))))⟩
def cgraph_Level_c1 : AFun := ⟨8,[(3,none)],
 (.seq (.reg false [oo 2 (.box 3) [.t 0],oo 3 .mv [.c (.bool false)]] [])
 (.seq (.reg false [oo 4 (.fad 2) [.t 2],oo 5 (.ld false 1) [.t 4],oo 6 (.ld false 1) [.t 1],oo 7 (.bin .lss) [.t 5,.t 6],oo 3 .mv [.t 7]] [])
 .ret))⟩
def cslices_BinarySearchFunc_Lapi_Edge_api_Edge_api_Edge : AFun := ⟨49,[(6,none),(7,none)],
 (.seq (.reg false [oo 4 (.box 3) [.t 1],oo 6 .mv [ki 0],oo 7 .mv [.c (.bool false)]] [])
 (.seq (.reg false [oo 12 .mv [.t 0],oo 13 .len [.t 12],oo 8 .mv [.t 13]] [])
 (.seq (.reg false [oo 14 .mv [.t 8],oo 9 .mv [ki 0],oo 10 .mv [.t 14]] [])
 (.seq (.block 0 (.loop
 (.seq (.seq
 (.reg false [oo 15 .mv [.t 9],oo 16 .mv [.t 10],oo 17 (.bin .lss) [.t 15,.t 16]] [])
 (.cond (.t 17)
 .skip
 (.exit 0)))
 (.block 1 (.seq (.reg false [oo 18 .mv [.t 9],oo 19 .mv [.t 10],oo 20 (.bin .add) [.t 18,.t 19],oo 21 (.cvt .u64) [.t 20],oo 22 (.bin .shr) [.t 21,(.c (.int .u64 1))],oo 23 (.cvt .i64) [.t 22],oo 11 .mv [.t 23]] [])
 (.seq (.reg true [oo 24 .mv [.t 2],oo 25 .mv [.t 0],oo 26 .mv [.t 11],oo 27 (.iad 3) [.t 25,.t 26],oo 28 (.ld true 3) [.t 27],oo 29 (.ld true 3) [.t 4],oo 30 .call [.t 24,.t 28,.t 29],oo 31 (.bin .lss) [.t 30,ki 0]] [[],[],[],[1,2],[3],[],[0,4,5],[6]])
 (.cond (.t 31)
 (.reg false [
 oo 32 .mv [.t 11],
 oo 33 (.bin .add) [.t 32,ki 1],
 oo 9 .mv [.t 33]] [])
 (.reg false [
 oo 34 .mv [.t 11],
 oo 10 .mv [.t 34]] []))))))))
 (.seq (.reg true [oo 35 .mv [.t 9],oo 36 .mv [.t 9],oo 37 .mv [.t 8],oo 38 (.bin .lss) [.t 36,.t 37],oo 39 .mv [.t 38],og 40 .mv [.t 2] 39,og 41 .mv [.t 0] 39,og 42 .mv [.t 9] 39,og 43 (.iad 3) [.t 41,.t 42] 39,og 44 (.ld true 3) [.t 43] 39,og 45 (.ld true 3) [.t 4] 39,og 46 .call [.t 40,.t 44,.t 45] 39,og 47 (.bin .eql) [.t 46,ki 0] 39,oo 48 .pick [.t 39,.t 47,.c (.bool false)],oo 6 .mv [.t 35],oo 7 .mv [.t 48]] [[],[],[],[1,2],[3],[4],[4],[4],[6,7,4],[8,4],[4],[5,9,10,4,4],[11,4],[4,12],[0,11,0],[13,14,0,1,2,3,4,5,6,7,8,9,10,11,12,13,14]])
 .ret)))))⟩
def cslices_Insert_Lapi_Edge_api_Edge : AFun := ⟨95,[(6,none)],
 (.seq (.reg false [oo 6 .mv [kn]] [])
 (.seq (.reg false [oo 10 .mv [.t 0],oo 11 .mv [.t 1],oo 12 (.slc 3 true false false) [.t 10,.t 11]] [])
 (.seq (.reg false [oo 13 .mv [.t 2],oo 14 .len [.t 13],oo 7 .mv [.t 14]] [])
 (.seq (.seq
 (.reg false [oo 15 .mv [.t 7],oo 16 (.bin .eql) [.t 15,ki 0]] [])
 (.cond (.t 16)
 (.seq (.reg false [
 oo 17 .mv [.t 0],
 oo 6 .mv [.t 17]] [])
 .ret)
 .skip))
 (.seq (.reg false [oo 18 .mv [.t 0],oo 19 .len [.t 18],oo 8 .mv [.t 19]] [])
 (.seq (.seq
 (.reg false [oo 20 .mv [.t 1],oo 21 .mv [.t 8],oo 22 (.bin .eql) [.t 20,.t 21]] [])
 (.cond (.t 22)
 (.seq (.reg false [
 oo 23 .mv [.t 0],
 oo 24 .mv [.t 2],
 oo 25 (.app 3 24) [.t 23,.t 24],
 oo 6 .mv [.t 25]] [])
 .ret)
 .skip))
 (.seq (.seq
 (.reg false [oo 26 .mv [.t 8],oo 27 .mv [.t 7],oo 28 (.bin .add) [.t 26,.t 27],oo 29 .mv [.t 0],oo 30 .cap [.t 29],oo 31 (.bin .gtr) [.t 28,.t 30]] [])
 (.cond (.t 31)
 (.seq (.reg false [
 oo 32 .mv [.t 0],
 oo 33 .mv [.t 1],
 oo 34 (.slc 3 false true false) [.t 32,.t 33],
 oo 35 .mv [.t 8],
 oo 36 .mv [.t 7],
 oo 37 (.bin .add) [.t 35,.t 36],
 oo 38 .mv [.t 1],
 oo 39 (.bin .sub) [.t 37,.t 38],
 oo 40 (.apz 3 24 [v0,v0,v0]) [.t 34,.t 39],
 oo 9 .mv [.t 40]] [])
 (.seq (.reg false [
 oo 41 .mv [.t 9],
 oo 42 .mv [.t 1],
 oo 43 (.slc 3 true false false) [.t 41,.t 42],
 oo 44 .mv [.t 2],
 oo 45 (.cpy 3) [.t 43,.t 44]] [])
 (.seq (.reg true [
 oo 46 .mv [.t 9],
 oo 47 .mv [.t 1],
 oo 48 .mv [.t 7],
 oo 49 (.bin .add) [.t 47,.t 48],
 oo 50 (.slc 3 true false false) [.t 46,.t 49],
 oo 51 .mv [.t 0],
 oo 52 .mv [.t 1],
 oo 53 (.slc 3 true false false) [.t 51,.t 52],
 oo 54 (.cpy 3) [.t 50,.t 53]] [[],[],[],[1,2],[0,3],[],[],[5,6],[4,7]])
 (.seq (.reg false [
 oo 55 .mv [.t 9],
 oo 6 .mv [.t 55]] [])
 .ret))))
 .skip))
 (.seq (.reg false [oo 56 .mv [.t 0],oo 57 .mv [.t 8],oo 58 .mv [.t 7],oo 59 (.bin .add) [.t 57,.t 58],oo 60 (.slc 3 false true false) [.t 56,.t 59],oo 0 .mv [.t 60]] [])
 (.seq (.seq
 (.reg false [oo 61 .mv [.t 2],oo 62 .mv [.t 0],oo 63 .mv [.t 1],oo 64 .mv [.t 7],oo 65 (.bin .add) [.t 63,.t 64],oo 66 (.slc 3 true false false) [.t 62,.t 65],oo 67 (.ovl 3) [.t 61,.t 66],oo 68 (.un .not) [.t 67]] [])
 (.cond (.t 68)
 (.seq (.reg true [
 oo 69 .mv [.t 0],
 oo 70 .mv [.t 1],
 oo 71 .mv [.t 7],
 oo 72 (.bin .add) [.t 70,.t 71],
 oo 73 (.slc 3 true false false) [.t 69,.t 72],
 oo 74 .mv [.t 0],
 oo 75 .mv [.t 1],
 oo 76 (.slc 3 true false false) [.t 74,.t 75],
 oo 77 (.cpy 3) [.t 73,.t 76]] [[],[],[],[1,2],[0,3],[],[],[5,6],[4,7]])
 (.seq (.reg false [
 oo 78 .mv [.t 0],
 oo 79 .mv [.t 1],
 oo 80 (.slc 3 true false false) [.t 78,.t 79],
 oo 81 .mv [.t 2],
 oo 82 (.cpy 3) [.t 80,.t 81]] [])
 (.seq (.reg false [
 oo 83 .mv [.t 0],
 oo 6 .mv [.t 83]] [])
 .ret)))
 .skip))
 (.seq (.reg false [oo 84 .mv [.t 0],oo 85 .mv [.t 8],oo 86 (.slc 3 true false false) [.t 84,.t 85],oo 87 .mv [.t 2],oo 88 (.cpy 3) [.t 86,.t 87]] [])
 (.seq (.reg false [oo 89 .mv [.t 0],oo 90 .mv [.t 1],oo 91 (.slc 3 true false false) [.t 89,.t 90],oo 92 .mv [.t 7],oo 93 .call [.f nslices_rotateRight_api_Edge,.t 91,.t 92]] [])
 (.seq (.reg false [oo 94 .mv [.t 0],oo 6 .mv [.t 94]] [])
 .ret))))))))))))⟩
def cslices_Delete_Lapi_Edge_api_Edge : AFun := ⟨33,[(6,none)],
 (.seq (.reg false [oo 6 .mv [kn]] [])
 (.seq (.reg false [oo 8 .mv [.t 0],oo 9 .mv [.t 1],oo 10 .mv [.t 2],oo 11 .mv [.t 0],oo 12 .len [.t 11],oo 13 (.slc 3 true true true) [.t 8,.t 9,.t 10,.t 12]] [])
 (.seq (.seq
 (.reg false [oo 14 .mv [.t 1],oo 15 .mv [.t 2],oo 16 (.bin .eql) [.t 14,.t 15]] [])
 (.cond (.t 16)
 (.seq (.reg false [
 oo 17 .mv [.t 0],
 oo 6 .mv [.t 17]] [])
 .ret)
 .skip))
 (.seq (.reg false [oo 18 .mv [.t 0],oo 19 .len [.t 18],oo 7 .mv [.t 19]] [])
 (.seq (.reg true [oo 20 .mv [.t 0],oo 21 .mv [.t 1],oo 22 (.slc 3 false true false) [.t 20,.t 21],oo 23 .mv [.t 0],oo 24 .mv [.t 2],oo 25 (.slc 3 true false false) [.t 23,.t 24],oo 26 (.app 3 24) [.t 22,.t 25],oo 0 .mv [.t 26]] [[],[],[0,1],[],[],[3,4],[2,5],[6,6,0,1,2,3,4,5,6]])
 (.seq (.reg false [oo 27 .mv [.t 0],oo 28 .mv [.t 0],oo 29 .len [.t 28],oo 30 .mv [.t 7],oo 31 (.slc 3 true true false) [.t 27,.t 29,.t 30],ou (.clr 3 [v0,v0,v0]) [.t 31]] [])
 (.seq (.reg false [oo 32 .mv [.t 0],oo 6 .mv [.t 32]] [])
 .ret)))))))⟩
def cref04_Own : AFun := ⟨96,[(4,none)],
 (.seq (.reg false [oo 4 .mv [kn]] [])
 (.seq (.reg false [oo 5 .mv [kn]] [])
 (.seq (.seq
 (.reg false [oo 6 .mv [ki 0]] [])
 (.block 0 (.loop
 (.seq (.seq
 (.reg false [oo 9 .mv [.t 6],oo 10 .mv [.t 1],oo 11 .len [.t 10],oo 12 (.bin .lss) [.t 9,.t 11]] [])
 (.cond (.t 12)
 .skip
 (.exit 0)))
 (.seq (.block 1 (.seq (.reg false [oo 15 .mv [.t 1],oo 16 .mv [.t 6],oo 17 (.iad 13) [.t 15,.t 16],oo 18 (.ld true 13) [.t 17],oo 7 (.alloc [v0,v0,ve,v0,v0,v0,v0,v0,vn,vn,ve,v0,ve]) [],ou (.st 13) [.t 7,.t 18]] [])
 (.seq (.seq
 (.reg false [oo 19 (.fad 0) [.t 7],oo 20 (.ld false 1) [.t 19],oo 21 .mv [.t 0],oo 22 (.bin .neq) [.t 20,.t 21],oo 23 .mv [.t 22],oh 24 (.ld true 13) [.t 7] 23,oh 25 .call [.f nref03_Check,.t 24] 23,oh 26 (.bin .neq) [.t 25,ki 0] 23,oo 27 .pick [.t 23,.c (.bool true),.t 26],oo 28 .mv [.t 27],oh 29 (.ld true 13) [.t 7] 28,oh 30 .call [.f nref03_Sealed,.t 29] 28,oh 31 (.un .not) [.t 30] 28,oo 32 .pick [.t 28,.c (.bool true),.t 31]] [])
 (.cond (.t 32)
 (.exit 1)
 .skip))
 (.seq (.reg false [oo 8 .mv [ki 0]] [])
 (.seq (.block 2 (.loop
 (.seq (.seq
 (.reg true [oo 33 .mv [.t 8],oo 34 .mv [.t 5],oo 35 .len [.t 34],oo 36 (.bin .lss) [.t 33,.t 35],oo 37 .mv [.t 36],og 38 .mv [.t 5] 37,og 39 .mv [.t 8] 37,og 40 (.iad 13) [.t 38,.t 39] 37,og 41 (.fad 1) [.t 40] 37,og 42 (.ld false 1) [.t 41] 37,og 43 (.fad 1) [.t 7] 37,og 44 (.ld false 1) [.t 43] 37,og 45 (.bin .lss) [.t 42,.t 44] 37,og 46 .mv [.t 45] 37,oh 47 .mv [.t 5] 46,oh 48 .mv [.t 8] 46,oh 49 (.iad 13) [.t 47,.t 48] 46,oh 50 (.fad 1) [.t 49] 46,oh 51 (.ld false 1) [.t 50] 46,oh 52 (.fad 1) [.t 7] 46,oh 53 (.ld false 1) [.t 52] 46,oh 54 (.bin .eql) [.t 51,.t 53] 46,oh 55 .mv [.t 54] 46,og 56 .mv [.t 5] 55,og 57 .mv [.t 8] 55,og 58 (.iad 13) [.t 56,.t 57] 55,og 59 (.fad 11) [.t 58] 55,og 60 (.fad 1) [.t 59] 55,og 61 (.ld false 1) [.t 60] 55,og 62 (.fad 11) [.t 7] 55,og 63 (.fad 1) [.t 62] 55,og 64 (.ld false 1) [.t 63] 55,og 65 (.bin .lss) [.t 61,.t 64] 55,oh 66 .pick [.t 55,.t 65,.c (.bool false)] 46,og 67 .pick [.t 46,.c (.bool true),.t 66] 37,oo 68 .pick [.t 37,.t 67,.c (.bool false)]] [[],[],[1],[0,2],[3],[4],[4],[5,6,4],[7,4],[8,4],[4],[10,4],[9,11,4],[12,4,4],[13],[13],[14,15,13],[16,13],[17,13],[13],[19,13],[18,20,13],[21,13,13],[22],[22],[23,24,22],[25,22],[26,22],[27,22],[22],[29,22],[30,22],[28,31,22],[22,32,13],[13,33,4],[4,34]])
 (.cond (.t 68)
 .skip
 (.exit 2)))
 (.block 3 (.reg false [oo 69 .mv [.t 8],oo 70 (.bin .add) [.t 69,ki 1],oo 8 .mv [.t 70]] [])))))
 (.seq (.seq
 (.reg true [oo 71 .mv [.t 8],oo 72 .mv [.t 5],oo 73 .len [.t 72],oo 74 (.bin .lss) [.t 71,.t 73],oo 75 .mv [.t 74],og 76 .mv [.t 5] 75,og 77 .mv [.t 8] 75,og 78 (.iad 13) [.t 76,.t 77] 75,og 79 (.ld true 13) [.t 78] 75,og 80 (.ld true 13) [.t 7] 75,og 81 .call [.f nref03_Same,.t 79,.t 80] 75,oo 82 .pick [.t 75,.t 81,.c (.bool false)]] [[],[],[1],[0,2],[3],[4],[4],[5,6,4],[7,4],[4],[8,9,4,4],[4,10]])
 (.cond (.t 82)
 (.exit 1)
 .skip))
 (.reg true [oo 83 .mv [.t 5],oo 84 .mv [.t 8],oo 85 (.slc 13 false true false) [.t 83,.t 84],oo 86 (.app 13 160) [kn,.t 85],oo 87 (.ld true 13) [.t 7],oo 88 .call [.f nref03_Copy,.t 87],oo 89 (.bsl 13 1 [v0,v0,ve,v0,v0,v0,v0,v0,vn,vn,ve,v0,ve] [0]) [.t 88],oo 90 (.app 13 160) [.t 86,.t 89],oo 91 .mv [.t 5],oo 92 .mv [.t 8],oo 93 (.slc 13 true false false) [.t 91,.t 92],oo 94 (.app 13 160) [.t 90,.t 93],oo 5 .mv [.t 94]] [[],[],[0,1],[2],[],[4,3],[5],[3,6,5],[],[],[8,9],[7,10,7],[11,11,0,1,2,3,4,5,6,7,8,9,10,11]])))))))
 (.reg false [oo 13 .mv [.t 6],oo 14 (.bin .add) [.t 13,ki 1],oo 6 .mv [.t 14]] []))))))
 (.seq (.reg false [oo 95 .mv [.t 5],oo 4 .mv [.t 95]] [])
 .ret))))⟩
def cref04_Follows : AFun := ⟨39,[(4,none)],
 (.seq (.reg false [oo 2 (.box 13) [.t 0],oo 3 (.box 13) [.t 1],oo 4 .mv [.c (.bool false)]] [])
 (.seq (.reg true [oo 5 (.fad 0) [.t 3],oo 6 (.ld false 1) [.t 5],oo 7 (.fad 0) [.t 2],oo 8 (.ld false 1) [.t 7],oo 9 (.bin .eql) [.t 6,.t 8],oo 10 .mv [.t 9],og 11 (.fad 1) [.t 3] 10,og 12 (.ld false 1) [.t 11] 10,og 13 (.fad 1) [.t 2] 10,og 14 (.ld false 1) [.t 13] 10,og 15 (.bin .gtr) [.t 12,.t 14] 10,oo 16 .pick [.t 10,.t 15,.c (.bool false)],oo 17 .mv [.t 16],og 18 (.fad 1) [.t 3] 17,og 19 (.ld false 1) [.t 18] 17,og 20 (.fad 1) [.t 2] 17,og 21 (.ld false 1) [.t 20] 17,og 22 (.bin .add) [.t 21,ki 1] 17,og 23 (.bin .eql) [.t 19,.t 22] 17,oo 24 .pick [.t 17,.t 23,.c (.bool false)],oo 25 .mv [.t 24],og 26 (.fad 2) [.t 3] 25,og 27 (.ld false 1) [.t 26] 25,og 28 (.ld true 13) [.t 2] 25,og 29 .call [.f nref03_Digest,.t 28] 25,og 30 (.bin .eql) [.t 27,.t 29] 25,oo 31 .pick [.t 25,.t 30,.c (.bool false)],oo 32 .mv [.t 31],og 33 (.fad 3) [.t 3] 32,og 34 (.ld false 1) [.t 33] 32,og 35 (.fad 3) [.t 2] 32,og 36 (.ld false 1) [.t 35] 32,og 37 (.bin .geq) [.t 34,.t 36] 32,oo 38 .pick [.t 32,.t 37,.c (.bool false)],oo 4 .mv [.t 38]] [[],[0],[],[2],[1,3],[4],[5],[6,5],[5],[8,5],[7,9,5],[5,10],[11,5],[12],[13,12],[12],[15,12],[16,12],[14,17,12],[12,18],[19,12],[20],[21,20],[20],[23,20,20],[22,24,20],[20,25],[26,24],[27],[28,27],[27],[30,27],[29,31,27],[27,32],[33,27,0,1,2,3,4,5,6,7,8,9,10,11,12,13,14,15,16,17,18,19,20,21,22,23,24,25,26,27,28,29,30,31,32,33]])
 .ret))⟩
def cref03_Copy : AFun := ⟨12,[(2,some (true,13))],
 (.seq (.reg false [oo 1 (.box 13) [.t 0],oo 2 (.alloc [v0,v0,ve,v0,v0,v0,v0,v0,vn,vn,ve,v0,ve]) []] [])
 (.seq (.reg false [oo 3 (.fad 8) [.t 1],oo 4 (.ld false 1) [.t 3],oo 5 (.app 1 8) [kn,.t 4],oo 6 (.fad 8) [.t 1],ou (.st 1) [.t 6,.t 5]] [])
 (.seq (.reg false [oo 7 (.fad 9) [.t 1],oo 8 (.ld false 1) [.t 7],oo 9 (.app 3 32) [kn,.t 8],oo 10 (.fad 9) [.t 1],ou (.st 1) [.t 10,.t 9]] [])
 (.seq (.reg false [oo 11 (.ld true 13) [.t 1],ou (.st 13) [.t 2,.t 11]] [])
 .ret))))⟩
def cref05_Adds : AFun := ⟨29,[(4,some (true,1))],
 (.seq (.reg false [oo 2 (.box 1) [.t 0],oo 3 (.box 13) [.t 1],oo 4 (.alloc [vn]) []] [])
 (.seq (.seq
 (.reg false [oo 7 (.ld true 13) [.t 3],oo 8 .call [.f nref03_Check,.t 7],oo 9 (.bin .neq) [.t 8,ki 0],oo 10 .mv [.t 9],oh 11 (.ld true 13) [.t 3] 10,oh 12 .call [.f nref03_Sealed,.t 11] 10,oh 13 (.un .not) [.t 12] 10,oo 14 .pick [.t 10,.c (.bool true),.t 13]] [])
 (.cond (.t 14)
 (.seq (.reg false [
 oo 15 (.ld true 1) [.t 2],
 ou (.st 1) [.t 4,.t 15]] [])
 .ret)
 .skip))
 (.seq (.seq
 (.reg false [oo 17 (.fad 0) [.t 2],oo 18 (.ld false 1) [.t 17],oo 19 (.ld true 13) [.t 3],oo 20 .call [.f nref05_put,.t 18,.t 19],oo 16 .mv [.t 20],oo 21 (.ext 0) [.t 16],oo 22 (.ext 1) [.t 16],oo 5 .mv [.t 21],oo 6 .mv [.t 22]] [])
 (.seq (.reg false [oo 23 .mv [.t 5],oo 24 .len [.t 23],oo 25 (.bin .leq) [.t 24,ki 1000]] [])
 (.cond (.t 25)
 (.seq (.reg false [
 oo 26 .mv [.t 5],
 oo 27 (.build [vn] [(0,1)]) [.t 26],
 ou (.st 1) [.t 4,.t 27]] [])
 .ret)
 .skip)))
 (.seq (.reg false [oo 28 (.ld true 1) [.t 2],ou (.st 1) [.t 4,.t 28]] [])
 .ret))))⟩
def cmade_Dice_Spoil : AFun := ⟨111,[(4,none)],
 (.seq (.reg false [oo 4 .mv [kn]] [])
 (.seq (.reg false [oo 9 .mv [.t 1],oo 10 .call [.f nref03_CopyList,.t 9],oo 5 .mv [.t 10]] [])
 (.seq (.seq
 (.reg false [oo 11 .mv [.t 5],oo 12 .len [.t 11],oo 13 (.bin .eql) [.t 12,ki 0]] [])
 (.cond (.t 13)
 (.seq (.reg false [
 oo 14 .mv [.t 5],
 oo 4 .mv [.t 14]] [])
 .ret)
 .skip))
 (.seq (.seq
 (.reg false [oo 15 .mv [.t 0],oo 16 .call [.f nmade_Dice_Next,.t 15,ki 3],oo 6 .mv [.t 16]] [])
 (.block 0 (.loop
 (.seq (.seq
 (.reg false [oo 17 .mv [.t 6],oo 18 (.bin .gtr) [.t 17,ki 0]] [])
 (.cond (.t 18)
 .skip
 (.exit 0)))
 (.seq (.block 1 (.seq (.reg false [oo 21 .mv [.t 5],oo 22 .mv [.t 0],oo 23 .mv [.t 5],oo 24 .len [.t 23],oo 25 .call [.f nmade_Dice_Next,.t 22,.t 24],oo 26 (.iad 13) [.t 21,.t 25],oo 27 (.ld true 13) [.t 26],oo 28 .call [.f nref03_Copy,.t 27],oo 7 (.alloc [v0,v0,ve,v0,v0,v0,v0,v0,vn,vn,ve,v0,ve]) [],ou (.st 13) [.t 7,.t 28]] [])
 (.seq (.seq
 (.reg false [oo 29 .mv [.t 0],oo 30 .call [.f nmade_Dice_Next,.t 29,ki 5]] [])
 (.block 2 (.seq (.reg false [oo 48 (.bin .eql) [.t 30,ki 0],oo 47 .mv [.t 48]] [])
 (.cond (.t 47)
 (.seq (.reg false [
 oo 49 (.fad 3) [.t 7],
 oo 50 (.ld false 1) [.t 49],
 oo 51 (.bin .add) [.t 50,ki 1],
 oo 52 (.fad 3) [.t 7],
 ou (.st 1) [.t 52,.t 51]] [])
 (.reg true [
 oo 53 (.fad 7) [.t 7],
 oo 54 (.ld false 1) [.t 53],
 oo 55 (.fad 3) [.t 7],
 oo 56 (.ld false 1) [.t 55],
 oo 57 (.fad 4) [.t 7],
 oo 58 (.ld false 1) [.t 57],
 oo 59 (.bin .sub) [ki 2,.t 58],
 oo 60 .call [.f nmade_Mod,.t 59,ki 2],
 oo 61 (.bin .mul) [.t 56,.t 60],
 oo 62 .mx2 [.t 54,.t 61],
 oo 63 (.fad 7) [.t 7],
 ou (.st 1) [.t 63,.t 62]] [[],[0],[],[2],[],[4],[5],[6],[3,7],[1,8],[0,1,2,3,4,5,6,7,8,9],[10,9,7,0,1,2,3,4,5,6,7,8,9]]))
 (.seq (.reg false [
 oo 65 (.bin .eql) [.t 30,ki 1],
 oo 64 .mv [.t 65]] [])
 (.cond (.t 64)
 (.seq (.reg true [
 oo 66 (.fad 1) [.t 7],
 oo 67 (.ld false 1) [.t 66],
 oo 68 (.bin .add) [.t 67,ki 1],
 oo 69 .mv [.t 0],
 oo 70 .call [.f nmade_Dice_Next,.t 69,ki 3],
 oo 71 (.bin .add) [.t 68,.t 70],
 oo 72 .mn2 [.t 71,ki 199],
 oo 73 (.fad 1) [.t 7],
 ou (.st 1) [.t 73,.t 72]] [[],[0],[1],[],[3],[2,4],[5],[0,1,2,3,4,5,6],[7,6,4,0,1,2,3,4,5,6]])
 (.seq (.reg false [
 oo 74 (.fad 2) [.t 7],
 oo 75 (.ld false 1) [.t 74],
 oo 76 .lens [.t 75],
 oo 77 (.bin .neq) [.t 76,ki 32]] [])
 (.cond (.t 77)
 (.reg false [
 oo 78 .mv [.t 0],
 oo 79 .call [.f nmade_Dice_Digest,.t 78],
 oo 80 (.fad 2) [.t 7],
 ou (.st 1) [.t 80,.t 79]] [])
 .skip)))
 (.seq (.reg false [
 oo 82 (.bin .eql) [.t 30,ki 2],
 oo 81 .mv [.t 82]] [])
 (.cond (.t 81)
 (.reg false [
 oo 83 (.fad 3) [.t 7],
 oo 84 (.ld false 1) [.t 83],
 oo 85 (.bin .sub) [.t 84,ki 30],
 oo 86 .mx2 [ki 0,.t 85],
 oo 87 (.fad 3) [.t 7],
 ou (.st 1) [.t 87,.t 86]] [])
 (.seq (.reg false [
 oo 89 (.bin .eql) [.t 30,ki 3],
 oo 88 .mv [.t 89]] [])
 (.cond (.t 88)
 (.seq (.reg false [
 oo 90 (.fad 1) [.t 7],
 oo 91 (.ld false 1) [.t 90],
 oo 92 (.bin .gtr) [.t 91,ki 0]] [])
 (.cond (.t 92)
 (.reg false [
 oo 93 .mv [.t 0],
 oo 94 .call [.f nmade_Dice_Digest,.t 93],
 oo 95 (.fad 2) [.t 7],
 ou (.st 1) [.t 95,.t 94]] [])
 .skip))
 (.seq (.reg false [
 oo 31 .mv [.t 5],
 oo 32 .len [.t 31],
 oo 33 (.bin .gtr) [.t 32,ki 1]] [])
 (.cond (.t 33)
 (.seq (.reg false [
 oo 34 .mv [.t 0],
 oo 35 .mv [.t 5],
 oo 36 .len [.t 35],
 oo 37 .call [.f nmade_Dice_Next,.t 34,.t 36],
 oo 8 .mv [.t 37]] [])
 (.reg true [
 oo 38 .mv [.t 5],
 oo 39 .mv [.t 8],
 oo 40 (.slc 13 false true false) [.t 38,.t 39],
 oo 41 (.app 13 160) [kn,.t 40],
 oo 42 .mv [.t 5],
 oo 43 .mv [.t 8],
 oo 44 (.bin .add) [.t 43,ki 1],
 oo 45 (.slc 13 true false false) [.t 42,.t 44],
 oo 46 (.app 13 160) [.t 41,.t 45],
 oo 5 .mv [.t 46]] [[],[],[0,1],[2],[],[],[5],[4,6],[3,7,3],[8,8,0,1,2,3,4,5,6,7,8]]))
 .skip))))))))))))
 (.seq (.reg false [oo 96 (.ld true 13) [.t 7],oo 97 .call [.f nref03_Seal,.t 96],ou (.st 13) [.t 7,.t 97]] [])
 (.seq (.reg false [oo 98 (.ld true 13) [.t 7],oo 99 .call [.f nref03_Check,.t 98],oo 100 (.bin .eql) [.t 99,ki 0],oo 101 .mv [.t 100],og 102 .mv [.t 0] 101,og 103 .call [.f nmade_Dice_One,.t 102,ki 3] 101,og 104 (.un .not) [.t 103] 101,oo 105 .pick [.t 101,.t 104,.c (.bool false)]] [])
 (.cond (.t 105)
 (.reg false [
 oo 106 .mv [.t 5],
 oo 107 (.ld true 13) [.t 7],
 oo 108 (.bsl 13 1 [v0,v0,ve,v0,v0,v0,v0,v0,vn,vn,ve,v0,ve] [0]) [.t 107],
 oo 109 (.app 13 160) [.t 106,.t 108],
 oo 5 .mv [.t 109]] [])
 .skip))))))
 (.reg false [oo 19 .mv [.t 6],oo 20 (.bin .sub) [.t 19,ki 1],oo 6 .mv [.t 20]] []))))))
 (.seq (.reg false [oo 110 .mv [.t 5],oo 4 .mv [.t 110]] [])
 .ret)))))⟩
def cmade_Dice_Chain : AFun := ⟨55,[(6,none)],
 (.seq (.reg false [oo 6 .mv [kn]] [])
 (.seq (.reg false [oo 7 .mv [kn]] [])
 (.seq (.reg false [oo 13 .mv [.t 0],oo 14 .call [.f nmade_Dice_Next,.t 13,ki 10],oo 8 .mv [.t 14]] [])
 (.seq (.seq
 (.reg false [oo 15 .mv [.t 0],oo 16 .mv [.t 2],oo 17 (.bin .add) [.t 16,ki 1],oo 18 .call [.f nmade_Dice_Next,.t 15,.t 17],oo 9 .mv [.t 18]] [])
 (.block 0 (.loop
 (.seq (.seq
 (.reg false [oo 19 .mv [.t 9],oo 20 (.bin .gtr) [.t 19,ki 0]] [])
 (.cond (.t 20)
 .skip
 (.exit 0)))
 (.seq (.block 1 (.seq (.reg false [oo 23 .mv [.t 8],oo 24 .mv [.t 0],oo 25 (.bsl 1 4 [v0] [0,1,2,3]) [ki 1,ki 0,ki 5,ki 20],oo 26 .call [.f nmade_Dice_Of,.t 24,.t 25],oo 27 (.bin .add) [.t 23,.t 26],oo 8 .mv [.t 27]] [])
 (.seq (.reg false [oo 28 .mv [.t 0],oo 29 .mv [.t 1],oo 30 .mv [.t 8],oo 31 .call [.f nmade_Dice_Statement,.t 28,.t 29,.t 30],oo 10 (.alloc [v0,v0,ve,v0,v0,v0,v0,v0,vn,vn,ve,v0,ve]) [],ou (.st 13) [.t 10,.t 31]] [])
 (.seq (.seq
 (.reg false [oo 32 .mv [.t 9],oo 33 (.bin .eql) [.t 32,ki 1],oo 34 .mv [.t 33],og 35 .mv [.t 0] 34,og 36 .call [.f nmade_Dice_One,.t 35,ki 6] 34,oo 37 .pick [.t 34,.t 36,.c (.bool false)]] [])
 (.cond (.t 37)
 (.reg false [
 oo 38 .mv [.t 1],
 oo 39 .mv [.t 8],
 oo 40 (.build [v0,v0,ve,v0,v0,v0,v0,v0,vn,vn,ve,v0,ve] [(0,1),(3,1),(4,1)]) [.t 38,.t 39,ki 3],
 ou (.st 13) [.t 10,.t 40]] [])
 .skip))
 (.seq (.reg false [oo 42 .mv [.t 1],oo 43 .mv [.t 7],oo 44 (.ld true 13) [.t 10],oo 45 .call [.f nref04_Next,.t 42,.t 43,.t 44],oo 41 .mv [.t 45],oo 46 (.ext 0) [.t 41],oo 47 (.ext 1) [.t 41],oo 11 (.alloc [v0,v0,ve,v0,v0,v0,v0,v0,vn,vn,ve,v0,ve]) [],ou (.st 13) [.t 11,.t 46],oo 12 .mv [.t 47]] [])
 (.seq (.reg false [oo 48 .mv [.t 12],oo 49 (.bin .eql) [.t 48,ki 0]] [])
 (.cond (.t 49)
 (.reg false [
 oo 50 .mv [.t 7],
 oo 51 (.ld true 13) [.t 11],
 oo 52 (.bsl 13 1 [v0,v0,ve,v0,v0,v0,v0,v0,vn,vn,ve,v0,ve] [0]) [.t 51],
 oo 53 (.app 13 160) [.t 50,.t 52],
 oo 7 .mv [.t 53]] [])
 .skip)))))))
 (.reg false [oo 21 .mv [.t 9],oo 22 (.bin .sub) [.t 21,ki 1],oo 9 .mv [.t 22]] []))))))
 (.seq (.reg false [oo 54 .mv [.t 7],oo 6 .mv [.t 54]] [])
 .ret)))))⟩
def cslices_Compact_Lint_int : AFun := ⟨61,[(2,none)],
 (.seq (.reg false [oo 2 .mv [kn]] [])
 (.seq (.seq
 (.reg false [oo 6 .mv [.t 0],oo 7 .len [.t 6],oo 8 (.bin .lss) [.t 7,ki 2]] [])
 (.cond (.t 8)
 (.seq (.reg false [
 oo 9 .mv [.t 0],
 oo 2 .mv [.t 9]] [])
 .ret)
 .skip))
 (.seq (.seq
 (.reg false [oo 3 .mv [ki 1]] [])
 (.block 0 (.loop
 (.seq (.seq
 (.reg false [oo 10 .mv [.t 3],oo 11 .mv [.t 0],oo 12 .len [.t 11],oo 13 (.bin .lss) [.t 10,.t 12]] [])
 (.cond (.t 13)
 .skip
 (.exit 0)))
 (.seq (.block 1 (.seq (.reg true [oo 16 .mv [.t 0],oo 17 .mv [.t 3],oo 18 (.iad 1) [.t 16,.t 17],oo 19 (.ld false 1) [.t 18],oo 20 .mv [.t 0],oo 21 .mv [.t 3],oo 22 (.bin .sub) [.t 21,ki 1],oo 23 (.iad 1) [.t 20,.t 22],oo 24 (.ld false 1) [.t 23],oo 25 (.bin .eql) [.t 19,.t 24]] [[],[],[0,1],[2],[],[],[5],[4,6],[7],[3,8]])
 (.cond (.t 25)
 (.seq (.reg false [
 oo 26 .mv [.t 0],
 oo 27 .mv [.t 3],
 oo 28 (.slc 1 true false false) [.t 26,.t 27],
 oo 4 .mv [.t 28]] [])
 (.seq (.seq
 (.reg false [
 oo 5 .mv [ki 1]] [])
 (.block 2 (.loop
 (.seq (.seq
 (.reg false [
 oo 29 .mv [.t 5],
 oo 30 .mv [.t 4],
 oo 31 .len [.t 30],
 oo 32 (.bin .lss) [.t 29,.t 31]] [])
 (.cond (.t 32)
 .skip
 (.exit 2)))
 (.seq (.block 3 (.seq (.reg true [
 oo 35 .mv [.t 4],
 oo 36 .mv [.t 5],
 oo 37 (.iad 1) [.t 35,.t 36],
 oo 38 (.ld false 1) [.t 37],
 oo 39 .mv [.t 4],
 oo 40 .mv [.t 5],
 oo 41 (.bin .sub) [.t 40,ki 1],
 oo 42 (.iad 1) [.t 39,.t 41],
 oo 43 (.ld false 1) [.t 42],
 oo 44 (.bin .neq) [.t 38,.t 43]] [[],[],[0,1],[2],[],[],[5],[4,6],[7],[3,8]])
 (.cond (.t 44)
 (.seq (.reg false [
 oo 45 .mv [.t 0],
 oo 46 .mv [.t 3],
 oo 47 .mv [.t 4],
 oo 48 .mv [.t 5],
 oo 49 (.iad 1) [.t 47,.t 48],
 oo 50 (.ld false 1) [.t 49],
 oo 51 (.iad 1) [.t 45,.t 46],
 ou (.st 1) [.t 51,.t 50]] [])
 (.reg false [
 oo 52 .mv [.t 3],
 oo 53 (.bin .add) [.t 52,ki 1],
 oo 3 .mv [.t 53]] []))
 .skip)))
 (.reg false [
 oo 33 .mv [.t 5],
 oo 34 (.bin .add) [.t 33,ki 1],
 oo 5 .mv [.t 34]] []))))))
 (.seq (.reg false [
 oo 54 .mv [.t 0],
 oo 55 .mv [.t 3],
 oo 56 (.slc 1 true false false) [.t 54,.t 55],
 ou (.clr 1 [v0]) [.t 56]] [])
 (.seq (.reg false [
 oo 57 .mv [.t 0],
 oo 58 .mv [.t 3],
 oo 59 (.slc 1 false true false) [.t 57,.t 58],
 oo 2 .mv [.t 59]] [])
 .ret))))
 .skip)))
 (.reg false [oo 14 .mv [.t 3],oo 15 (.bin .add) [.t 14,ki 1],oo 3 .mv [.t 15]] []))))))
 (.seq (.reg false [oo 60 .mv [.t 0],oo 2 .mv [.t 60]] [])
 .ret))))⟩
def cvouch_Of : AFun := ⟨38,[(2,none)],
 (.seq (.reg false [oo 2 .mv [kn]] [])
 (.seq (.reg false [oo 3 .mv [kn]] [])
 (.seq (.seq
 (.reg false [oo 6 .mv [.t 0],oo 7 .len [.t 6],oo 8 .mv [ki 0]] [])
 (.block 0 (.loop
 (.seq (.reg false [oo 9 (.bin .lss) [.t 8,.t 7]] [])
 (.seq (.cond (.t 9)
 .skip
 (.exit 0))
 (.seq (.block 1 (.seq (.reg false [oo 10 (.iad 13) [.t 6,.t 8],oo 11 (.ld true 13) [.t 10],oo 5 (.alloc [v0,v0,ve,v0,v0,v0,v0,v0,vn,vn,ve,v0,ve]) [],ou (.st 13) [.t 5,.t 11]] [])
 (.seq (.reg false [oo 12 (.fad 4) [.t 5],oo 13 (.ld false 1) [.t 12],oo 14 (.bin .eql) [.t 13,ki 1]] [])
 (.cond (.t 14)
 (.reg true [
 oo 15 .mv [.t 3],
 oo 16 (.fad 0) [.t 5],
 oo 17 (.ld false 1) [.t 16],
 oo 18 (.fad 5) [.t 5],
 oo 19 (.ld false 1) [.t 18],
 oo 20 (.fad 6) [.t 5],
 oo 21 (.ld false 1) [.t 20],
 oo 22 (.fad 1) [.t 5],
 oo 23 (.ld false 1) [.t 22],
 oo 24 (.fad 3) [.t 5],
 oo 25 (.ld false 1) [.t 24],
 oo 26 (.fad 7) [.t 5],
 oo 27 (.ld false 1) [.t 26],
 oo 28 .mv [.t 0],
 oo 29 (.ld true 13) [.t 5],
 oo 30 .call [.f nvouch_revoked,.t 28,.t 29],
 oo 31 (.build [v0,v0,v0,v0,v0,v0,v0] [(0,1),(1,1),(2,1),(3,1),(4,1),(5,1),(6,1)]) [.t 17,.t 19,.t 21,.t 23,.t 25,.t 27,.t 30],
 oo 32 (.bsl 7 1 [v0,v0,v0,v0,v0,v0,v0] [0]) [.t 31],
 oo 33 (.app 7 56) [.t 15,.t 32],
 oo 3 .mv [.t 33]] [[],[],[1],[],[3],[],[5],[],[7],[],[9],[],[11],[],[],[13,14],[2,4,6,8,10,12,15],[16],[0,17,15],[18,18,0,1,2,3,4,5,6,7,8,9,10,11,12,13,14,15,16,17,18]])
 .skip))))
 (.reg false [oo 34 (.bin .add) [.t 8,ki 1],oo 8 .mv [.t 34]] [])))))))
 (.seq (.reg false [oo 35 .mv [.t 3],oo 36 .call [.f nslices_SortStableFunc_Lapi_Vouch_api_Vouch,.t 35,(.f nvouch_Of_c1)]] [])
 (.seq (.reg false [oo 37 .mv [.t 3],oo 2 .mv [.t 37]] [])
 .ret)))))⟩
def cvouch_holds : AFun := ⟨42,[(6,none)],
 (.seq (.reg false [oo 3 (.box 7) [.t 0],oo 6 .mv [.c (.bool false)]] [])
 (.seq (.reg false [oo 7 (.fad 4) [.t 3],oo 8 (.ld false 1) [.t 7],oo 9 .mv [.t 2],oo 10 (.bin .leq) [.t 8,.t 9],oo 11 .mv [.t 10],og 12 .mv [.t 2] 11,og 13 (.fad 5) [.t 3] 11,og 14 (.ld false 1) [.t 13] 11,og 15 (.bin .lss) [.t 12,.t 14] 11,oo 16 .pick [.t 11,.t 15,.c (.bool false)],oo 17 .mv [.t 16],og 18 (.fad 6) [.t 3] 17,og 19 (.ld false 1) [.t 18] 17,og 20 (.bin .lss) [.t 19,ki 0] 17,og 21 .mv [.t 20] 17,oh 22 (.fad 6) [.t 3] 21,oh 23 (.ld false 1) [.t 22] 21,oh 24 .mv [.t 2] 21,oh 25 (.bin .gtr) [.t 23,.t 24] 21,og 26 .pick [.t 21,.c (.bool true),.t 25] 17,oo 27 .pick [.t 17,.t 26,.c (.bool false)],oo 28 .mv [.t 27],og 29 .mv [.t 1] 28,og 30 (.fad 0) [.t 3] 28,og 31 (.ld false 1) [.t 30] 28,og 32 .call [.f nslices_Contains_Lint_int,.t 29,.t 31] 28,og 33 (.un .not) [.t 32] 28,oo 34 .pick [.t 28,.t 33,.c (.bool false)],oo 35 .mv [.t 34],og 36 .mv [.t 1] 35,og 37 (.fad 1) [.t 3] 35,og 38 (.ld false 1) [.t 37] 35,og 39 .call [.f nslices_Contains_Lint_int,.t 36,.t 38] 35,og 40 (.un .not) [.t 39] 35,oo 41 .pick [.t 35,.t 40,.c (.bool false)],oo 6 .mv [.t 41]] [])
 .ret))⟩
def cslices_Contains_Lint_int : AFun := ⟨9,[(4,none)],
 (.seq (.reg false [oo 4 .mv [.c (.bool false)]] [])
 (.seq (.reg false [oo 5 .mv [.t 0],oo 6 .mv [.t 1],oo 7 .call [.f nslices_Index_Lint_int,.t 5,.t 6],oo 8 (.bin .geq) [.t 7,ki 0],oo 4 .mv [.t 8]] [])
 .ret))⟩
def ccmp_Or_int : AFun := ⟨18,[(2,none)],
 (.seq (.reg false [oo 2 .mv [ki 0]] [])
 (.seq (.reg false [oo 3 .mv [ki 0]] [])
 (.seq (.seq
 (.reg false [oo 6 .mv [.t 0],oo 7 .len [.t 6],oo 8 .mv [ki 0]] [])
 (.block 0 (.loop
 (.seq (.reg false [oo 9 (.bin .lss) [.t 8,.t 7]] [])
 (.seq (.cond (.t 9)
 .skip
 (.exit 0))
 (.seq (.block 1 (.seq (.reg false [oo 10 (.iad 1) [.t 6,.t 8],oo 11 (.ld false 1) [.t 10],oo 5 .mv [.t 11]] [])
 (.seq (.reg false [oo 12 .mv [.t 5],oo 13 .mv [.t 3],oo 14 (.bin .neq) [.t 12,.t 13]] [])
 (.cond (.t 14)
 (.seq (.reg false [
 oo 15 .mv [.t 5],
 oo 2 .mv [.t 15]] [])
 .ret)
 .skip))))
 (.reg false [oo 16 (.bin .add) [.t 8,ki 1],oo 8 .mv [.t 16]] [])))))))
 (.seq (.reg false [oo 17 .mv [.t 3],oo 2 .mv [.t 17]] [])
 .ret))))⟩
def ccmp_Compare_int : AFun := ⟨20,[(4,none)],
 (.seq (.reg false [oo 4 .mv [ki 0]] [])
 (.seq (.reg false [oo 7 .mv [.t 0],oo 8 .call [.f ncmp_isNaN_int,.t 7],oo 5 .mv [.t 8]] [])
 (.seq (.reg false [oo 9 .mv [.t 1],oo 10 .call [.f ncmp_isNaN_int,.t 9],oo 6 .mv [.t 10]] [])
 (.seq (.seq
 (.reg false [oo 11 .mv [.t 5]] [])
 (.cond (.t 11)
 (.seq (.seq
 (.reg false [
 oo 12 .mv [.t 6]] [])
 (.cond (.t 12)
 (.seq (.reg false [
 oo 4 .mv [ki 0]] [])
 .ret)
 .skip))
 (.seq (.reg false [
 oo 4 .mv [ki (-1)]] [])
 .ret))
 .skip))
 (.seq (.seq
 (.reg false [oo 13 .mv [.t 6]] [])
 (.cond (.t 13)
 (.seq (.reg false [
 oo 4 .mv [ki 1]] [])
 .ret)
 .skip))
 (.seq (.seq
 (.reg false [oo 14 .mv [.t 0],oo 15 .mv [.t 1],oo 16 (.bin .lss) [.t 14,.t 15]] [])
 (.cond (.t 16)
 (.seq (.reg false [
 oo 4 .mv [ki (-1)]] [])
 .ret)
 .skip))
 (.seq (.seq
 (.reg false [oo 17 .mv [.t 0],oo 18 .mv [.t 1],oo 19 (.bin .gtr) [.t 17,.t 18]] [])
 (.cond (.t 19)
 (.seq (.reg false [
 oo 4 .mv [ki 1]] [])
 .ret)
 .skip))
 (.seq (.reg false [oo 4 .mv [ki 0]] [])
 .ret))))))))⟩
def cref10_Of : AFun := ⟨64,[(2,none)],
 (.seq (.reg false [oo 2 .mv [kn]] [])
 (.seq (.reg false [oo 3 .mv [kn]] [])
 (.seq (.seq
 (.reg false [oo 4 .mv [ki 0]] [])
 (.block 0 (.loop
 (.seq (.seq
 (.reg false [oo 8 .mv [.t 4],oo 9 .mv [.t 0],oo 10 .len [.t 9],oo 11 (.bin .lss) [.t 8,.t 10]] [])
 (.cond (.t 11)
 .skip
 (.exit 0)))
 (.seq (.block 1 (.seq (.reg false [oo 14 .mv [.t 0],oo 15 .mv [.t 4],oo 16 (.iad 13) [.t 14,.t 15],oo 17 (.ld true 13) [.t 16],oo 5 (.alloc [v0,v0,ve,v0,v0,v0,v0,v0,vn,vn,ve,v0,ve]) [],ou (.st 13) [.t 5,.t 17]] [])
 (.seq (.seq
 (.reg false [oo 18 (.fad 4) [.t 5],oo 19 (.ld false 1) [.t 18],oo 20 (.bin .neq) [.t 19,ki 1]] [])
 (.cond (.t 20)
 (.exit 1)
 .skip))
 (.seq (.reg true [oo 21 (.fad 0) [.t 5],oo 22 (.ld false 1) [.t 21],oo 23 (.fad 5) [.t 5],oo 24 (.ld false 1) [.t 23],oo 25 (.fad 6) [.t 5],oo 26 (.ld false 1) [.t 25],oo 27 (.fad 1) [.t 5],oo 28 (.ld false 1) [.t 27],oo 29 (.fad 3) [.t 5],oo 30 (.ld false 1) [.t 29],oo 31 (.fad 7) [.t 5],oo 32 (.ld false 1) [.t 31],oo 33 .mv [.t 0],oo 34 (.ld true 13) [.t 5],oo 35 .call [.f nref10_revoked,.t 33,.t 34],oo 36 (.build [v0,v0,v0,v0,v0,v0,v0] [(0,1),(1,1),(2,1),(3,1),(4,1),(5,1),(6,1)]) [.t 22,.t 24,.t 26,.t 28,.t 30,.t 32,.t 35],oo 6 (.alloc [v0,v0,v0,v0,v0,v0,v0]) [],ou (.st 7) [.t 6,.t 36]] [[],[0],[],[2],[],[4],[],[6],[],[8],[],[10],[],[],[12,13],[1,3,5,7,9,11,14],[],[16,15,14,0,1,2,3,4,5,6,7,8,9,10,11,12,13,14,15,16]])
 (.seq (.reg false [oo 37 .mv [.t 3],oo 38 .len [.t 37],oo 7 .mv [.t 38]] [])
 (.seq (.block 2 (.loop
 (.seq (.seq
 (.reg true [oo 39 .mv [.t 7],oo 40 (.bin .gtr) [.t 39,ki 0],oo 41 .mv [.t 40],og 42 (.ld true 7) [.t 6] 41,og 43 .mv [.t 3] 41,og 44 .mv [.t 7] 41,og 45 (.bin .sub) [.t 44,ki 1] 41,og 46 (.iad 7) [.t 43,.t 45] 41,og 47 (.ld true 7) [.t 46] 41,og 48 .call [.f nref10_less,.t 42,.t 47] 41,oo 49 .pick [.t 41,.t 48,.c (.bool false)]] [[],[0],[1],[2],[2],[2],[5,2],[4,6,2],[7,2],[3,8,2,2],[2,9]])
 (.cond (.t 49)
 .skip
 (.exit 2)))
 (.block 3 (.reg false [oo 50 .mv [.t 7],oo 51 (.bin .sub) [.t 50,ki 1],oo 7 .mv [.t 51]] [])))))
 (.reg true [oo 52 .mv [.t 3],oo 53 .mv [.t 7],oo 54 (.slc 7 false true false) [.t 52,.t 53],oo 55 (.app 7 56) [kn,.t 54],oo 56 (.ld true 7) [.t 6],oo 57 (.bsl 7 1 [v0,v0,v0,v0,v0,v0,v0] [0]) [.t 56],oo 58 (.app 7 56) [.t 55,.t 57],oo 59 .mv [.t 3],oo 60 .mv [.t 7],oo 61 (.slc 7 true false false) [.t 59,.t 60],oo 62 (.app 7 56) [.t 58,.t 61],oo 3 .mv [.t 62]] [[],[],[0,1],[2],[],[4],[3,5,3],[],[],[7,8],[6,9,6],[10,10,0,1,2,3,4,5,6,7,8,9,10]])))))))
 (.reg false [oo 12 .mv [.t 4],oo 13 (.bin .add) [.t 12,ki 1],oo 4 .mv [.t 13]] []))))))
 (.seq (.reg false [oo 63 .mv [.t 3],oo 2 .mv [.t 63]] [])
 .ret))))⟩
def cref10_has : AFun := ⟨18,[(4,none)],
 (.seq (.reg false [oo 4 .mv [.c (.bool false)]] [])
 (.seq (.seq
 (.reg false [oo 5 .mv [ki 0]] [])
 (.block 0 (.loop
 (.seq (.seq
 (.reg false [oo 6 .mv [.t 5],oo 7 .mv [.t 0],oo 8 .len [.t 7],oo 9 (.bin .lss) [.t 6,.t 8]] [])
 (.cond (.t 9)
 .skip
 (.exit 0)))
 (.seq (.block 1 (.seq (.reg false [oo 12 .mv [.t 0],oo 13 .mv [.t 5],oo 14 (.iad 1) [.t 12,.t 13],oo 15 (.ld false 1) [.t 14],oo 16 .mv [.t 1],oo 17 (.bin .eql) [.t 15,.t 16]] [])
 (.cond (.t 17)
 (.seq (.reg false [
 oo 4 .mv [.c (.bool true)]] [])
 .ret)
 .skip)))
 (.reg false [oo 10 .mv [.t 5],oo 11 (.bin .add) [.t 10,ki 1],oo 5 .mv [.t 11]] []))))))
 (.seq (.reg false [oo 4 .mv [.c (.bool false)]] [])
 .ret)))⟩
def cslices_Clone_Lapi_Edge_api_Edge : AFun := ⟨8,[(2,none)],
 (.seq (.reg false [oo 2 .mv [kn]] [])
 (.seq (.seq
 (.reg false [oo 3 .mv [.t 0],oo 4 (.snil false) [.t 3]] [])
 (.cond (.t 4)
 (.seq (.reg false [
 oo 2 .mv [kn]] [])
 .ret)
 .skip))
 (.seq (.reg false [oo 5 (.bsl 3 0 [v0,v0,v0] []) [],oo 6 .mv [.t 0],oo 7 (.app 3 24) [.t 5,.t 6],oo 2 .mv [.t 7]] [])
 .ret)))⟩
def cslices_Clone_Lint_int : AFun := ⟨8,[(2,none)],
 (.seq (.reg false [oo 2 .mv [kn]] [])
 (.seq (.seq
 (.reg false [oo 3 .mv [.t 0],oo 4 (.snil false) [.t 3]] [])
 (.cond (.t 4)
 (.seq (.reg false [
 oo 2 .mv [kn]] [])
 .ret)
 .skip))
 (.seq (.reg false [oo 5 (.bsl 1 0 [v0] []) [],oo 6 .mv [.t 0],oo 7 (.app 1 8) [.t 5,.t 6],oo 2 .mv [.t 7]] [])
 .ret)))⟩
def cslices_IndexFunc_Lapi_Edge_api_Edge : AFun := ⟨19,[(4,none)],
 (.seq (.reg false [oo 4 .mv [ki 0]] [])
 (.seq (.seq
 (.reg false [oo 6 .mv [.t 0],oo 7 .len [.t 6],oo 8 .mv [ki 0]] [])
 (.block 0 (.loop
 (.seq (.reg false [oo 9 (.bin .lss) [.t 8,.t 7]] [])
 (.seq (.cond (.t 9)
 .skip
 (.exit 0))
 (.seq (.block 1 (.seq (.reg false [oo 10 .mv [.t 8],oo 5 .mv [.t 10]] [])
 (.seq (.reg false [oo 11 .mv [.t 1],oo 12 .mv [.t 0],oo 13 .mv [.t 5],oo 14 (.iad 3) [.t 12,.t 13],oo 15 (.ld true 3) [.t 14],oo 16 .call [.t 11,.t 15]] [])
 (.cond (.t 16)
 (.seq (.reg false [
 oo 17 .mv [.t 5],
 oo 4 .mv [.t 17]] [])
 .ret)
 .skip))))
 (.reg false [oo 18 (.bin .add) [.t 8,ki 1],oo 8 .mv [.t 18]] [])))))))
 (.seq (.reg false [oo 4 .mv [ki (-1)]] [])
 .ret)))⟩
def cref03_Check : AFun := ⟨100,[(2,none)],
 (.seq (.reg false [oo 1 (.box 13) [.t 0],oo 2 .mv [ki 0]] [])
 (.seq (.block 0 (.seq (.reg false [oo 4 (.fad 0) [.t 1],oo 5 (.ld false 1) [.t 4],oo 6 .call [.f nref03_key,.t 5],oo 7 (.un .not) [.t 6],oo 3 .mv [.t 7]] [])
 (.cond (.t 3)
 (.seq (.reg false [
 oo 2 .mv [ki 4]] [])
 .ret)
 (.seq (.reg false [
 oo 9 (.fad 4) [.t 1],
 oo 10 (.ld false 1) [.t 9],
 oo 11 (.bin .lss) [.t 10,ki 1],
 oo 12 .mv [.t 11],
 oh 13 (.fad 4) [.t 1] 12,
 oh 14 (.ld false 1) [.t 13] 12,
 oh 15 (.bin .gtr) [.t 14,ki 3] 12,
 oh 16 .mv [.t 15] 12,
 og 17 (.fad 4) [.t 1] 16,
 og 18 (.ld false 1) [.t 17] 16,
 og 19 (.bin .lss) [.t 18,ki 10] 16,
 oh 20 .pick [.t 16,.t 19,.c (.bool false)] 12,
 oo 21 .pick [.t 12,.c (.bool true),.t 20],
 oo 22 .mv [.t 21],
 oh 23 (.fad 4) [.t 1] 22,
 oh 24 (.ld false 1) [.t 23] 22,
 oh 25 (.bin .gtr) [.t 24,ki 31] 22,
 oo 26 .pick [.t 22,.c (.bool true),.t 25],
 oo 8 .mv [.t 26]] [])
 (.cond (.t 8)
 (.seq (.reg false [
 oo 2 .mv [ki 5]] [])
 .ret)
 (.seq (.reg false [
 oo 28 (.fad 3) [.t 1],
 oo 29 (.ld false 1) [.t 28],
 oo 30 .call [.f nref03_in,.t 29,ki 2147483648],
 oo 31 (.un .not) [.t 30],
 oo 27 .mv [.t 31]] [])
 (.cond (.t 27)
 (.seq (.reg false [
 oo 2 .mv [ki 9]] [])
 .ret)
 (.seq (.reg false [
 oo 33 (.ld true 13) [.t 1],
 oo 34 .call [.f nref03_numbers,.t 33],
 oo 35 (.un .not) [.t 34],
 oo 32 .mv [.t 35]] [])
 (.cond (.t 32)
 (.seq (.reg false [
 oo 2 .mv [ki 2]] [])
 .ret)
 (.seq (.reg false [
 oo 37 (.fad 8) [.t 1],
 oo 38 (.ld false 1) [.t 37],
 oo 39 .len [.t 38],
 oo 40 (.bin .gtr) [.t 39,ki 64],
 oo 41 .mv [.t 40],
 oh 42 (.fad 9) [.t 1] 41,
 oh 43 (.ld false 1) [.t 42] 41,
 oh 44 .len [.t 43] 41,
 oh 45 (.bin .gtr) [.t 44,ki 64] 41,
 oo 46 .pick [.t 41,.c (.bool true),.t 45],
 oo 47 .mv [.t 46],
 oh 48 (.fad 10) [.t 1] 47,
 oh 49 (.ld false 1) [.t 48] 47,
 oh 50 .lens [.t 49] 47,
 oh 51 (.bin .gtr) [.t 50,ki 4096] 47,
 oo 52 .pick [.t 47,.c (.bool true),.t 51],
 oo 36 .mv [.t 52]] [])
 (.cond (.t 36)
 (.seq (.reg false [
 oo 2 .mv [ki 3]] [])
 .ret)
 (.seq (.reg false [
 oo 54 (.fad 1) [.t 1],
 oo 55 (.ld false 1) [.t 54],
 oo 56 (.bin .eql) [.t 55,ki 0],
 oo 57 .mv [.t 56],
 og 58 (.fad 2) [.t 1] 57,
 og 59 (.ld false 1) [.t 58] 57,
 og 60 (.bin .neq) [.t 59,(.c ve)] 57,
 oo 61 .pick [.t 57,.t 60,.c (.bool false)],
 oo 62 .mv [.t 61],
 oh 63 (.fad 1) [.t 1] 62,
 oh 64 (.ld false 1) [.t 63] 62,
 oh 65 (.bin .gtr) [.t 64,ki 0] 62,
 oh 66 .mv [.t 65] 62,
 og 67 (.fad 2) [.t 1] 66,
 og 68 (.ld false 1) [.t 67] 66,
 og 69 .lens [.t 68] 66,
 og 70 (.bin .neq) [.t 69,ki 32] 66,
 oh 71 .pick [.t 66,.t 70,.c (.bool false)] 62,
 oo 72 .pick [.t 62,.c (.bool true),.t 71],
 oo 73 .mv [.t 72],
 oh 74 (.fad 9) [.t 1] 73,
 oh 75 (.ld false 1) [.t 74] 73,
 oh 76 .call [.f nref03_PinsOK,.t 75] 73,
 oh 77 (.un .not) [.t 76] 73,
 oo 78 .pick [.t 73,.c (.bool true),.t 77],
 oo 53 .mv [.t 78]] [])
 (.cond (.t 53)
 (.seq (.reg false [
 oo 2 .mv [ki 1]] [])
 .ret)
 (.seq (.reg false [
 oo 80 (.fad 4) [.t 1],
 oo 81 (.ld false 1) [.t 80],
 oo 82 (.bin .leq) [.t 81,ki 3],
 oo 83 .mv [.t 82],
 og 84 (.fad 8) [.t 1] 83,
 og 85 (.ld false 1) [.t 84] 83,
 og 86 .len [.t 85] 83,
 og 87 (.bin .gtr) [.t 86,ki 0] 83,
 og 88 .mv [.t 87] 83,
 oh 89 (.fad 9) [.t 1] 88,
 oh 90 (.ld false 1) [.t 89] 88,
 oh 91 .len [.t 90] 88,
 oh 92 (.bin .gtr) [.t 91,ki 0] 88,
 og 93 .pick [.t 88,.c (.bool true),.t 92] 83,
 og 94 .mv [.t 93] 83,
 oh 95 (.fad 10) [.t 1] 94,
 oh 96 (.ld false 1) [.t 95] 94,
 oh 97 (.bin .neq) [.t 96,(.c ve)] 94,
 og 98 .pick [.t 94,.c (.bool true),.t 97] 83,
 oo 99 .pick [.t 83,.t 98,.c (.bool false)],
 oo 79 .mv [.t 99]] [])
 (.cond (.t 79)
 (.seq (.reg false [
 oo 2 .mv [ki 1]] [])
 .ret)
 .skip)))))))))))))))
 (.seq (.reg false [oo 2 .mv [ki 0]] [])
 .ret)))⟩
def cref03_Sealed : AFun := ⟨17,[(2,none)],
 (.seq (.reg false [oo 1 (.box 13) [.t 0],oo 2 .mv [.c (.bool false)]] [])
 (.seq (.reg true [oo 3 (.fad 11) [.t 1],oo 4 (.fad 0) [.t 3],oo 5 (.ld false 1) [.t 4],oo 6 (.fad 0) [.t 1],oo 7 (.ld false 1) [.t 6],oo 8 (.bin .eql) [.t 5,.t 7],oo 9 .mv [.t 8],og 10 (.fad 11) [.t 1] 9,og 11 (.fad 1) [.t 10] 9,og 12 (.ld false 1) [.t 11] 9,og 13 (.ld true 13) [.t 1] 9,og 14 .call [.f nref03_Digest,.t 13] 9,og 15 (.bin .eql) [.t 12,.t 14] 9,oo 16 .pick [.t 9,.t 15,.c (.bool false)],oo 2 .mv [.t 16]] [[],[0],[1],[],[3],[2,4],[5],[6],[7,6],[8,6],[6],[10,6,6],[9,11,6],[6,12],[13,11,0,1,2,3,4,5,6,7,8,9,10,11,12,13]])
 .ret))⟩
def cref03_Same : AFun := ⟨87,[(4,none)],
 (.seq (.reg false [oo 2 (.box 13) [.t 0],oo 3 (.box 13) [.t 1],oo 4 .mv [.c (.bool false)]] [])
 (.seq (.reg false [oo 5 (.fad 0) [.t 2],oo 6 (.ld false 1) [.t 5],oo 7 (.fad 0) [.t 3],oo 8 (.ld false 1) [.t 7],oo 9 (.bin .eql) [.t 6,.t 8],oo 10 .mv [.t 9],og 11 (.fad 1) [.t 2] 10,og 12 (.ld false 1) [.t 11] 10,og 13 (.fad 1) [.t 3] 10,og 14 (.ld false 1) [.t 13] 10,og 15 (.bin .eql) [.t 12,.t 14] 10,oo 16 .pick [.t 10,.t 15,.c (.bool false)],oo 17 .mv [.t 16],og 18 (.fad 2) [.t 2] 17,og 19 (.ld false 1) [.t 18] 17,og 20 (.fad 2) [.t 3] 17,og 21 (.ld false 1) [.t 20] 17,og 22 (.bin .eql) [.t 19,.t 21] 17,oo 23 .pick [.t 17,.t 22,.c (.bool false)],oo 24 .mv [.t 23],og 25 (.fad 3) [.t 2] 24,og 26 (.ld false 1) [.t 25] 24,og 27 (.fad 3) [.t 3] 24,og 28 (.ld false 1) [.t 27] 24,og 29 (.bin .eql) [.t 26,.t 28] 24,oo 30 .pick [.t 24,.t 29,.c (.bool false)],oo 31 .mv [.t 30],og 32 (.fad 4) [.t 2] 31,og 33 (.ld false 1) [.t 32] 31,og 34 (.fad 4) [.t 3] 31,og 35 (.ld false 1) [.t 34] 31,og 36 (.bin .eql) [.t 33,.t 35] 31,oo 37 .pick [.t 31,.t 36,.c (.bool false)],oo 38 .mv [.t 37],og 39 (.fad 5) [.t 2] 38,og 40 (.ld false 1) [.t 39] 38,og 41 (.fad 5) [.t 3] 38,og 42 (.ld false 1) [.t 41] 38,og 43 (.bin .eql) [.t 40,.t 42] 38,oo 44 .pick [.t 38,.t 43,.c (.bool false)],oo 45 .mv [.t 44],og 46 (.fad 6) [.t 2] 45,og 47 (.ld false 1) [.t 46] 45,og 48 (.fad 6) [.t 3] 45,og 49 (.ld false 1) [.t 48] 45,og 50 (.bin .eql) [.t 47,.t 49] 45,oo 51 .pick [.t 45,.t 50,.c (.bool false)],oo 52 .mv [.t 51],og 53 (.fad 7) [.t 2] 52,og 54 (.ld false 1) [.t 53] 52,og 55 (.fad 7) [.t 3] 52,og 56 (.ld false 1) [.t 55] 52,og 57 (.bin .eql) [.t 54,.t 56] 52,oo 58 .pick [.t 52,.t 57,.c (.bool false)],oo 59 .mv [.t 58],og 60 (.fad 8) [.t 2] 59,og 61 (.ld false 1) [.t 60] 59,og 62 (.fad 8) [.t 3] 59,og 63 (.ld false 1) [.t 62] 59,og 64 .call [.f nref03_SameInts,.t 61,.t 63] 59,oo 65 .pick [.t 59,.t 64,.c (.bool false)],oo 66 .mv [.t 65],og 67 (.fad 9) [.t 2] 66,og 68 (.ld false 1) [.t 67] 66,og 69 (.fad 9) [.t 3] 66,og 70 (.ld false 1) [.t 69] 66,og 71 .call [.f nref03_SamePins,.t 68,.t 70] 66,oo 72 .pick [.t 66,.t 71,.c (.bool false)],oo 73 .mv [.t 72],og 74 (.fad 10) [.t 2] 73,og 75 (.ld false 1) [.t 74] 73,og 76 (.fad 10) [.t 3] 73,og 77 (.ld false 1) [.t 76] 73,og 78 (.bin .eql) [.t 75,.t 77] 73,oo 79 .pick [.t 73,.t 78,.c (.bool false)],oo 80 .mv [.t 79],og 81 (.fad 11) [.t 2] 80,og 82 (.ld true 2) [.t 81] 80,og 83 (.fad 11) [.t 3] 80,og 84 (.ld true 2) [.t 83] 80,og 85 (.aeq false [0,2]) [.t 82,.t 84] 80,oo 86 .pick [.t 80,.t 85,.c (.bool false)],oo 4 .mv [.t 86]] [])
 .ret))⟩
def cref03_Digest : AFun := ⟨6,[(2,none)],
 (.seq (.reg false [oo 1 (.box 13) [.t 0],oo 2 .mv [(.c ve)]] [])
 (.seq (.reg false [oo 3 (.ld true 13) [.t 1],oo 4 .call [.f nref03_Bytes,.t 3],oo 5 .call [.f nref01_Sum,.t 4],oo 2 .mv [.t 5]] [])
 .ret))⟩
def cref05_put : AFun := ⟨46,[(4,none),(5,none)],
 (.seq (.reg false [oo 3 (.box 13) [.t 1],oo 4 .mv [kn],oo 5 .mv [.c (.bool false)]] [])
 (.seq (.reg false [oo 6 .mv [ki 0]] [])
 (.seq (.block 0 (.loop
 (.seq (.seq
 (.reg true [oo 7 .mv [.t 6],oo 8 .mv [.t 0],oo 9 .len [.t 8],oo 10 (.bin .lss) [.t 7,.t 9],oo 11 .mv [.t 10],og 12 .mv [.t 0] 11,og 13 .mv [.t 6] 11,og 14 (.iad 13) [.t 12,.t 13] 11,og 15 (.ld true 13) [.t 14] 11,og 16 (.ld true 13) [.t 3] 11,og 17 .call [.f nref05_before,.t 15,.t 16] 11,oo 18 .pick [.t 11,.t 17,.c (.bool false)]] [[],[],[1],[0,2],[3],[4],[4],[5,6,4],[7,4],[4],[8,9,4,4],[4,10]])
 (.cond (.t 18)
 .skip
 (.exit 0)))
 (.block 1 (.reg false [oo 19 .mv [.t 6],oo 20 (.bin .add) [.t 19,ki 1],oo 6 .mv [.t 20]] [])))))
 (.seq (.seq
 (.reg true [oo 21 .mv [.t 6],oo 22 .mv [.t 0],oo 23 .len [.t 22],oo 24 (.bin .lss) [.t 21,.t 23],oo 25 .mv [.t 24],og 26 .mv [.t 0] 25,og 27 .mv [.t 6] 25,og 28 (.iad 13) [.t 26,.t 27] 25,og 29 (.ld true 13) [.t 28] 25,og 30 (.ld true 13) [.t 3] 25,og 31 .call [.f nref03_Same,.t 29,.t 30] 25,oo 32 .pick [.t 25,.t 31,.c (.bool false)]] [[],[],[1],[0,2],[3],[4],[4],[5,6,4],[7,4],[4],[8,9,4,4],[4,10]])
 (.cond (.t 32)
 (.seq (.reg false [
 oo 33 .mv [.t 0],
 oo 4 .mv [.t 33],
 oo 5 .mv [.c (.bool false)]] [])
 .ret)
 .skip))
 (.seq (.reg true [oo 34 .mv [.t 0],oo 35 .mv [.t 6],oo 36 (.slc 13 false true false) [.t 34,.t 35],oo 37 (.app 13 160) [kn,.t 36],oo 38 (.ld true 13) [.t 3],oo 39 .call [.f nref03_Copy,.t 38],oo 40 (.bsl 13 1 [v0,v0,ve,v0,v0,v0,v0,v0,vn,vn,ve,v0,ve] [0]) [.t 39],oo 41 (.app 13 160) [.t 37,.t 40],oo 42 .mv [.t 0],oo 43 .mv [.t 6],oo 44 (.slc 13 true false false) [.t 42,.t 43],oo 45 (.app 13 160) [.t 41,.t 44],oo 4 .mv [.t 45],oo 5 .mv [.c (.bool true)]] [[],[],[0,1],[2],[],[4,3],[5],[3,6,5],[],[],[8,9],[7,10,7],[11,11,0,1,2,3,4,5,6,7,8,9,10,11],[12,0,1,2,3,4,5,6,7,8,9,10,11,12]])
 .ret)))))⟩
def cref03_CopyList : AFun := ⟨20,[(2,none)],
 (.seq (.reg false [oo 2 .mv [kn]] [])
 (.seq (.reg false [oo 3 .mv [kn]] [])
 (.seq (.seq
 (.reg false [oo 4 .mv [ki 0]] [])
 (.block 0 (.loop
 (.seq (.seq
 (.reg false [oo 5 .mv [.t 4],oo 6 .mv [.t 0],oo 7 .len [.t 6],oo 8 (.bin .lss) [.t 5,.t 7]] [])
 (.cond (.t 8)
 .skip
 (.exit 0)))
 (.seq (.block 1 (.reg false [oo 11 .mv [.t 3],oo 12 .mv [.t 0],oo 13 .mv [.t 4],oo 14 (.iad 13) [.t 12,.t 13],oo 15 (.ld true 13) [.t 14],oo 16 .call [.f nref03_Copy,.t 15],oo 17 (.bsl 13 1 [v0,v0,ve,v0,v0,v0,v0,v0,vn,vn,ve,v0,ve] [0]) [.t 16],oo 18 (.app 13 160) [.t 11,.t 17],oo 3 .mv [.t 18]] []))
 (.reg false [oo 9 .mv [.t 4],oo 10 (.bin .add) [.t 9,ki 1],oo 4 .mv [.t 10]] []))))))
 (.seq (.reg false [oo 19 .mv [.t 3],oo 2 .mv [.t 19]] [])
 .ret))))⟩
def cmade_Dice_Digest : AFun := ⟨17,[(2,none)],
 (.seq (.reg false [oo 2 .mv [(.c ve)]] [])
 (.seq (.reg false [oo 4 (.mks 1 1 [(.int .u8 0)]) [ki 32,ki 32],oo 3 .mv [.t 4]] [])
 (.seq (.reg false [oo 5 .mv [.t 3],oo 6 .mv [.t 3],oo 7 .mv [.t 0],oo 8 .call [.f nmade_Dice_Next,.t 7,ki 4],oo 9 (.cvt .u8) [.t 8],oo 10 .mv [.t 0],oo 11 .call [.f nmade_Dice_Next,.t 10,ki 256],oo 12 (.cvt .u8) [.t 11],oo 13 (.iad 1) [.t 5,ki 0],ou (.st 1) [.t 13,.t 9],oo 14 (.iad 1) [.t 6,ki 31],ou (.st 1) [.t 14,.t 12]] [])
 (.seq (.reg false [oo 15 .mv [.t 3],oo 16 .b2s [.t 15],oo 2 .mv [.t 16]] [])
 .ret))))⟩
def cref03_Seal : AFun := ⟨12,[(2,some (true,13))],
 (.seq (.reg false [oo 1 (.box 13) [.t 0],oo 2 (.alloc [v0,v0,ve,v0,v0,v0,v0,v0,vn,vn,ve,v0,ve]) []] [])
 (.seq (.reg false [oo 3 (.ld true 13) [.t 1],oo 4 .call [.f nref03_Copy,.t 3],ou (.st 13) [.t 1,.t 4]] [])
 (.seq (.reg true [oo 5 (.fad 0) [.t 1],oo 6 (.ld false 1) [.t 5],oo 7 (.ld true 13) [.t 1],oo 8 .call [.f nref03_Digest,.t 7],oo 9 (.build [v0,ve] [(0,1),(1,1)]) [.t 6,.t 8],oo 10 (.fad 11) [.t 1],ou (.st 2) [.t 10,.t 9]] [[],[0],[],[2],[1,3],[0,1,2,3,4],[5,4,3,0,1,2,3,4]])
 (.seq (.reg false [oo 11 (.ld true 13) [.t 1],ou (.st 13) [.t 2,.t 11]] [])
 .ret))))⟩
def cmade_Dice_One : AFun := ⟨11,[(4,none)],
 (.seq (.reg false [oo 4 .mv [.c (.bool false)]] [])
 (.seq (.reg false [oo 5 .mv [.t 0],oo 6 .mv [.t 1],oo 7 .call [.f nmade_Dice_Next,.t 5,.t 6],oo 8 .mv [.t 1],oo 9 (.bin .sub) [.t 8,ki 1],oo 10 (.bin .eql) [.t 7,.t 9],oo 4 .mv [.t 10]] [])
 .ret))⟩
def cmade_Dice_Of : AFun := ⟨12,[(4,none)],
 (.seq (.reg false [oo 4 .mv [ki 0]] [])
 (.seq (.reg false [oo 5 .mv [.t 1],oo 6 .mv [.t 0],oo 7 .mv [.t 1],oo 8 .len [.t 7],oo 9 .call [.f nmade_Dice_Next,.t 6,.t 8],oo 10 (.iad 1) [.t 5,.t 9],oo 11 (.ld false 1) [.t 10],oo 4 .mv [.t 11]] [])
 .ret))⟩
def cmade_Dice_Statement : AFun := ⟨89,[(6,some (true,13))],
 (.seq (.reg false [oo 6 (.alloc [v0,v0,ve,v0,v0,v0,v0,v0,vn,vn,ve,v0,ve]) []] [])
 (.seq (.reg false [oo 9 .mv [.t 1],oo 10 .mv [.t 2],oo 11 .mv [.t 0],oo 12 (.bsl 1 8 [v0] [0,1,2,3,4,5,6,7]) [ki 1,ki 1,ki 1,ki 2,ki 10,ki 31,ki 1,ki 12],oo 13 .call [.f nmade_Dice_Of,.t 11,.t 12],oo 14 (.build [v0,v0,ve,v0,v0,v0,v0,v0,vn,vn,ve,v0,ve] [(0,1),(3,1),(4,1)]) [.t 9,.t 10,.t 13],oo 7 (.alloc [v0,v0,ve,v0,v0,v0,v0,v0,vn,vn,ve,v0,ve]) [],ou (.st 13) [.t 7,.t 14]] [])
 (.seq (.seq
 (.reg false [oo 15 (.fad 4) [.t 7],oo 16 (.ld false 1) [.t 15]] [])
 (.block 0 (.seq (.reg false [oo 58 (.bin .eql) [.t 16,ki 1],oo 57 .mv [.t 58]] [])
 (.cond (.t 57)
 (.seq (.reg false [
 oo 59 .mv [.t 1],
 oo 60 (.bin .add) [.t 59,ki 1],
 oo 61 .mv [.t 0],
 oo 62 .call [.f nmade_Dice_Next,.t 61,ki 5],
 oo 63 (.bin .add) [.t 60,.t 62],
 oo 64 .call [.f nmade_Mod,.t 63,ki 6],
 oo 65 .mv [.t 0],
 oo 66 .call [.f nmade_Dice_Next,.t 65,ki 3],
 oo 67 (.bin .add) [ki 1,.t 66],
 oo 68 .mv [.t 2],
 oo 69 .mv [.t 0],
 oo 70 (.bsl 1 4 [v0] [0,1,2,3]) [ki 50,ki 5,ki 0,ki 200],
 oo 71 .call [.f nmade_Dice_Of,.t 69,.t 70],
 oo 72 (.bin .add) [.t 68,.t 71],
 oo 73 (.fad 5) [.t 7],
 ou (.st 1) [.t 73,.t 64],
 oo 74 (.fad 6) [.t 7],
 ou (.st 1) [.t 74,.t 67],
 oo 75 (.fad 7) [.t 7],
 ou (.st 1) [.t 75,.t 72]] [])
 (.seq (.reg false [
 oo 76 (.fad 5) [.t 7],
 oo 77 (.ld false 1) [.t 76],
 oo 78 .mv [.t 1],
 oo 79 (.bin .eql) [.t 77,.t 78]] [])
 (.cond (.t 79)
 (.reg false [
 oo 80 .mv [.t 1],
 oo 81 (.bin .add) [.t 80,ki 1],
 oo 82 (.fad 5) [.t 7],
 ou (.st 1) [.t 82,.t 81]] [])
 .skip)))
 (.seq (.reg false [
 oo 84 (.bin .eql) [.t 16,ki 2],
 oo 83 .mv [.t 84]] [])
 (.cond (.t 83)
 (.reg false [
 oo 85 .mv [.t 0],
 oo 86 .call [.f nmade_Dice_Next,.t 85,ki 4],
 oo 87 (.fad 5) [.t 7],
 ou (.st 1) [.t 87,.t 86]] [])
 (.seq (.reg false [
 oo 17 .mv [.t 0],
 oo 18 .call [.f nmade_Dice_Next,.t 17,ki 9],
 oo 19 .mv [.t 0],
 oo 20 (.bsl 1 2 [v0] [0,1]) [ki 0,ki 1099511627776],
 oo 21 .call [.f nmade_Dice_Of,.t 19,.t 20],
 oo 22 .mv [.t 0],
 oo 23 .call [.f nmade_Dice_Next,.t 22,ki 3],
 oo 24 (.fad 5) [.t 7],
 ou (.st 1) [.t 24,.t 18],
 oo 25 (.fad 6) [.t 7],
 ou (.st 1) [.t 25,.t 21],
 oo 26 (.fad 7) [.t 7],
 ou (.st 1) [.t 26,.t 23]] [])
 (.seq (.seq
 (.reg false [
 oo 27 .mv [.t 0],
 oo 28 .call [.f nmade_Dice_Next,.t 27,ki 3],
 oo 8 .mv [.t 28]] [])
 (.block 1 (.loop
 (.seq (.seq
 (.reg false [
 oo 29 .mv [.t 8],
 oo 30 (.bin .gtr) [.t 29,ki 0]] [])
 (.cond (.t 30)
 .skip
 (.exit 1)))
 (.seq (.block 2 (.reg true [
 oo 33 (.fad 8) [.t 7],
 oo 34 (.ld false 1) [.t 33],
 oo 35 .mv [.t 0],
 oo 36 (.bsl 1 3 [v0] [0,1,2]) [ki 0,ki 5,ki 1099511627776],
 oo 37 .call [.f nmade_Dice_Of,.t 35,.t 36],
 oo 38 (.bsl 1 1 [v0] [0]) [.t 37],
 oo 39 (.app 1 8) [.t 34,.t 38],
 oo 40 (.fad 8) [.t 7],
 ou (.st 1) [.t 40,.t 39]] [[],[0],[],[],[2,3],[4],[1,5,4],[0,1,2,3,4,5,6],[7,6,6,0,1,2,3,4,5,6]]))
 (.reg false [
 oo 31 .mv [.t 8],
 oo 32 (.bin .sub) [.t 31,ki 1],
 oo 8 .mv [.t 32]] []))))))
 (.seq (.seq
 (.reg false [
 oo 41 .mv [.t 0],
 oo 42 .call [.f nmade_Dice_One,.t 41,ki 3]] [])
 (.cond (.t 42)
 (.reg false [
 oo 43 .mv [.t 0],
 oo 44 .call [.f nmade_Dice_Next,.t 43,ki 5],
 oo 45 .mv [.t 0],
 oo 46 .call [.f nmade_Dice_Next,.t 45,ki 4],
 oo 47 (.bin .add) [ki 1,.t 46],
 oo 48 .mv [.t 0],
 oo 49 .call [.f nmade_Dice_Digest,.t 48],
 oo 50 (.build [v0,v0,ve] [(0,1),(1,1),(2,1)]) [.t 44,.t 47,.t 49],
 oo 51 (.bsl 3 1 [v0,v0,ve] [0]) [.t 50],
 oo 52 (.fad 9) [.t 7],
 ou (.st 1) [.t 52,.t 51]] [])
 .skip))
 (.reg false [
 oo 53 .mv [.t 0],
 oo 54 .call [.f nmade_Dice_Bytes,.t 53,ki 5],
 oo 55 .b2s [.t 54],
 oo 56 (.fad 10) [.t 7],
 ou (.st 1) [.t 56,.t 55]] []))))))))))
 (.seq (.reg false [oo 88 (.ld true 13) [.t 7],ou (.st 13) [.t 6,.t 88]] [])
 .ret))))⟩
def cref04_Next : AFun := ⟨62,[(6,some (true,13)),(7,none)],
 (.seq (.reg false [oo 5 (.box 13) [.t 2],oo 6 (.alloc [v0,v0,ve,v0,v0,v0,v0,v0,vn,vn,ve,v0,ve]) [],oo 7 .mv [ki 0]] [])
 (.seq (.seq
 (.reg false [oo 11 .mv [.t 1],oo 12 .len [.t 11],oo 13 (.bin .gtr) [.t 12,ki 0],oo 14 .mv [.t 13],og 15 .mv [.t 0] 14,og 16 .mv [.t 1] 14,og 17 .call [.f nref04_Counted,.t 15,.t 16] 14,og 18 .mv [.t 1] 14,og 19 .call [.f nref03_SameList,.t 17,.t 18] 14,og 20 (.un .not) [.t 19] 14,oo 21 .pick [.t 14,.t 20,.c (.bool false)]] [])
 (.cond (.t 21)
 (.seq (.reg false [
 oo 22 (.build [v0,v0,ve,v0,v0,v0,v0,v0,vn,vn,ve,v0,ve] []) [],
 ou (.st 13) [.t 6,.t 22],
 oo 7 .mv [ki 1]] [])
 .ret)
 .skip))
 (.seq (.reg false [oo 23 (.ld true 13) [.t 5],oo 24 .call [.f nref03_Copy,.t 23],ou (.st 13) [.t 5,.t 24]] [])
 (.seq (.reg false [oo 25 .mv [.t 0],oo 26 (.fad 0) [.t 5],ou (.st 1) [.t 26,.t 25],oo 27 (.fad 1) [.t 5],ou (.st 1) [.t 27,ki 0],oo 28 (.fad 2) [.t 5],ou (.st 1) [.t 28,(.c ve)]] [])
 (.seq (.seq
 (.reg false [oo 29 .mv [.t 1],oo 30 .len [.t 29],oo 8 .mv [.t 30]] [])
 (.seq (.reg false [oo 31 .mv [.t 8],oo 32 (.bin .gtr) [.t 31,ki 0]] [])
 (.cond (.t 32)
 (.seq (.reg false [
 oo 33 .mv [.t 1],
 oo 34 .mv [.t 8],
 oo 35 (.bin .sub) [.t 34,ki 1],
 oo 36 (.iad 13) [.t 33,.t 35],
 oo 37 (.ld true 13) [.t 36],
 oo 9 (.alloc [v0,v0,ve,v0,v0,v0,v0,v0,vn,vn,ve,v0,ve]) [],
 ou (.st 13) [.t 9,.t 37]] [])
 (.seq (.seq
 (.reg false [
 oo 38 (.fad 3) [.t 5],
 oo 39 (.ld false 1) [.t 38],
 oo 40 (.fad 3) [.t 9],
 oo 41 (.ld false 1) [.t 40],
 oo 42 (.bin .lss) [.t 39,.t 41]] [])
 (.cond (.t 42)
 (.seq (.reg false [
 oo 43 (.build [v0,v0,ve,v0,v0,v0,v0,v0,vn,vn,ve,v0,ve] []) [],
 ou (.st 13) [.t 6,.t 43],
 oo 7 .mv [ki 9]] [])
 .ret)
 .skip))
 (.seq (.seq
 (.reg false [
 oo 44 (.fad 4) [.t 9],
 oo 45 (.ld false 1) [.t 44],
 oo 46 (.bin .eql) [.t 45,ki 3]] [])
 (.cond (.t 46)
 (.seq (.reg false [
 oo 47 (.build [v0,v0,ve,v0,v0,v0,v0,v0,vn,vn,ve,v0,ve] []) [],
 ou (.st 13) [.t 6,.t 47],
 oo 7 .mv [ki 5]] [])
 .ret)
 .skip))
 (.reg false [
 oo 48 .mv [.t 8],
 oo 49 (.ld true 13) [.t 9],
 oo 50 .call [.f nref03_Digest,.t 49],
 oo 51 (.fad 1) [.t 5],
 ou (.st 1) [.t 51,.t 48],
 oo 52 (.fad 2) [.t 5],
 ou (.st 1) [.t 52,.t 50]] []))))
 .skip)))
 (.seq (.reg false [oo 53 (.ld true 13) [.t 5],oo 54 .call [.f nref03_Seal,.t 53],ou (.st 13) [.t 5,.t 54]] [])
 (.seq (.seq
 (.reg false [oo 55 (.ld true 13) [.t 5],oo 56 .call [.f nref03_Check,.t 55],oo 10 .mv [.t 56]] [])
 (.seq (.reg false [oo 57 .mv [.t 10],oo 58 (.bin .neq) [.t 57,ki 0]] [])
 (.cond (.t 58)
 (.seq (.reg false [
 oo 59 (.build [v0,v0,ve,v0,v0,v0,v0,v0,vn,vn,ve,v0,ve] []) [],
 oo 60 .mv [.t 10],
 ou (.st 13) [.t 6,.t 59],
 oo 7 .mv [.t 60]] [])
 .ret)
 .skip)))
 (.seq (.reg false [oo 61 (.ld true 13) [.t 5],ou (.st 13) [.t 6,.t 61],oo 7 .mv [ki 0]] [])
 .ret))))))))⟩
def cvouch_revoked : AFun := ⟨55,[(4,none)],
 (.seq (.reg false [oo 3 (.box 13) [.t 1],oo 4 .mv [ki 0]] [])
 (.seq (.reg false [oo 5 .mv [ki (-1)],oo 6 .mv [ki (-1)]] [])
 (.seq (.seq
 (.reg false [oo 9 .mv [.t 0],oo 10 .len [.t 9],oo 11 .mv [ki 0]] [])
 (.block 0 (.loop
 (.seq (.reg false [oo 12 (.bin .lss) [.t 11,.t 10]] [])
 (.seq (.cond (.t 12)
 .skip
 (.exit 0))
 (.seq (.block 1 (.seq (.reg false [oo 13 (.iad 13) [.t 9,.t 11],oo 14 (.ld true 13) [.t 13],oo 8 (.alloc [v0,v0,ve,v0,v0,v0,v0,v0,vn,vn,ve,v0,ve]) [],ou (.st 13) [.t 8,.t 14]] [])
 (.seq (.reg false [oo 15 (.fad 0) [.t 8],oo 16 (.ld false 1) [.t 15],oo 17 (.fad 0) [.t 3],oo 18 (.ld false 1) [.t 17],oo 19 (.bin .eql) [.t 16,.t 18],oo 20 .mv [.t 19],og 21 (.fad 4) [.t 8] 20,og 22 (.ld false 1) [.t 21] 20,og 23 (.bin .eql) [.t 22,ki 2] 20,oo 24 .pick [.t 20,.t 23,.c (.bool false)],oo 25 .mv [.t 24],og 26 (.fad 5) [.t 8] 25,og 27 (.ld false 1) [.t 26] 25,og 28 (.fad 1) [.t 3] 25,og 29 (.ld false 1) [.t 28] 25,og 30 (.bin .eql) [.t 27,.t 29] 25,oo 31 .pick [.t 25,.t 30,.c (.bool false)],oo 32 .mv [.t 31],og 33 (.fad 1) [.t 8] 32,og 34 (.ld false 1) [.t 33] 32,og 35 (.fad 1) [.t 3] 32,og 36 (.ld false 1) [.t 35] 32,og 37 (.bin .gtr) [.t 34,.t 36] 32,oo 38 .pick [.t 32,.t 37,.c (.bool false)],oo 39 .mv [.t 38],og 40 .mv [.t 6] 39,og 41 (.bin .lss) [.t 40,ki 0] 39,og 42 .mv [.t 41] 39,oh 43 (.fad 1) [.t 8] 42,oh 44 (.ld false 1) [.t 43] 42,oh 45 .mv [.t 6] 42,oh 46 (.bin .lss) [.t 44,.t 45] 42,og 47 .pick [.t 42,.c (.bool true),.t 46] 39,oo 48 .pick [.t 39,.t 47,.c (.bool false)]] [])
 (.cond (.t 48)
 (.reg true [
 oo 49 (.fad 3) [.t 8],
 oo 50 (.ld false 1) [.t 49],
 oo 51 (.fad 1) [.t 8],
 oo 52 (.ld false 1) [.t 51],
 oo 5 .mv [.t 50],
 oo 6 .mv [.t 52]] [[],[0],[],[2],[1,0,1],[3,4,0,1,2,3,4]])
 .skip))))
 (.reg false [oo 53 (.bin .add) [.t 11,ki 1],oo 11 .mv [.t 53]] [])))))))
 (.seq (.reg false [oo 54 .mv [.t 5],oo 4 .mv [.t 54]] [])
 .ret))))⟩
def cslices_SortStableFunc_Lapi_Vouch_api_Vouch : AFun := ⟨9,[],
 (.reg false [oo 4 .mv [.t 0],oo 5 .mv [.t 0],oo 6 .len [.t 5],oo 7 .mv [.t 1],oo 8 .call [.f nslices_stableCmpFunc_api_Vouch,.t 4,.t 6,.t 7]] [])⟩
def cvouch_Of_c1 : AFun := ⟨22,[(4,none)],
 (.seq (.reg false [oo 2 (.box 7) [.t 0],oo 3 (.box 7) [.t 1],oo 4 .mv [ki 0]] [])
 (.seq (.reg true [oo 5 (.fad 0) [.t 2],oo 6 (.ld false 1) [.t 5],oo 7 (.fad 0) [.t 3],oo 8 (.ld false 1) [.t 7],oo 9 .call [.f ncmp_Compare_int,.t 6,.t 8],oo 10 (.fad 1) [.t 2],oo 11 (.ld false 1) [.t 10],oo 12 (.fad 1) [.t 3],oo 13 (.ld false 1) [.t 12],oo 14 .call [.f ncmp_Compare_int,.t 11,.t 13],oo 15 (.fad 3) [.t 2],oo 16 (.ld false 1) [.t 15],oo 17 (.fad 3) [.t 3],oo 18 (.ld false 1) [.t 17],oo 19 .call [.f ncmp_Compare_int,.t 16,.t 18],oo 20 (.bsl 1 3 [v0] [0,1,2]) [.t 9,.t 14,.t 19],oo 21 .call [.f ncmp_Or_int,.t 20],oo 4 .mv [.t 21]] [[],[0],[],[2],[1,3],[],[5],[],[7],[6,8,4],[],[10],[],[12],[11,13,9],[4,9,14],[15,14],[16,16,0,1,2,3,4,5,6,7,8,9,10,11,12,13,14,15,16]])
 .ret))⟩
def cslices_Index_Lint_int : AFun := ⟨19,[(4,none)],
 (.seq (.reg false [oo 4 .mv [ki 0]] [])
 (.seq (.seq
 (.reg false [oo 6 .mv [.t 0],oo 7 .len [.t 6],oo 8 .mv [ki 0]] [])
 (.block 0 (.loop
 (.seq (.reg false [oo 9 (.bin .lss) [.t 8,.t 7]] [])
 (.seq (.cond (.t 9)
 .skip
 (.exit 0))
 (.seq (.block 1 (.seq (.reg false [oo 10 .mv [.t 8],oo 5 .mv [.t 10]] [])
 (.seq (.reg false [oo 11 .mv [.t 1],oo 12 .mv [.t 0],oo 13 .mv [.t 5],oo 14 (.iad 1) [.t 12,.t 13],oo 15 (.ld false 1) [.t 14],oo 16 (.bin .eql) [.t 11,.t 15]] [])
 (.cond (.t 16)
 (.seq (.reg false [
 oo 17 .mv [.t 5],
 oo 4 .mv [.t 17]] [])
 .ret)
 .skip))))
 (.reg false [oo 18 (.bin .add) [.t 8,ki 1],oo 8 .mv [.t 18]] [])))))))
 (.seq (.reg false [oo 4 .mv [ki (-1)]] [])
 .ret)))⟩
def ccmp_isNaN_int : AFun := ⟨6,[(2,none)],
 (.seq (.reg false [oo 2 .mv [.c (.bool false)]] [])
 (.seq (.reg false [oo 3 .mv [.t 0],oo 4 .mv [.t 0],oo 5 (.bin .neq) [.t 3,.t 4],oo 2 .mv [.t 5]] [])
 .ret))⟩
def cref10_revoked : AFun := ⟨43,[(4,none)],
 (.seq (.reg false [oo 3 (.box 13) [.t 1],oo 4 .mv [ki 0]] [])
 (.seq (.seq
 (.reg false [oo 5 .mv [ki 0]] [])
 (.block 0 (.loop
 (.seq (.seq
 (.reg false [oo 7 .mv [.t 5],oo 8 .mv [.t 0],oo 9 .len [.t 8],oo 10 (.bin .lss) [.t 7,.t 9]] [])
 (.cond (.t 10)
 .skip
 (.exit 0)))
 (.seq (.block 1 (.seq (.reg false [oo 13 .mv [.t 0],oo 14 .mv [.t 5],oo 15 (.iad 13) [.t 13,.t 14],oo 16 (.ld true 13) [.t 15],oo 6 (.alloc [v0,v0,ve,v0,v0,v0,v0,v0,vn,vn,ve,v0,ve]) [],ou (.st 13) [.t 6,.t 16]] [])
 (.seq (.reg false [oo 17 (.fad 0) [.t 6],oo 18 (.ld false 1) [.t 17],oo 19 (.fad 0) [.t 3],oo 20 (.ld false 1) [.t 19],oo 21 (.bin .eql) [.t 18,.t 20],oo 22 .mv [.t 21],og 23 (.fad 1) [.t 6] 22,og 24 (.ld false 1) [.t 23] 22,og 25 (.fad 1) [.t 3] 22,og 26 (.ld false 1) [.t 25] 22,og 27 (.bin .gtr) [.t 24,.t 26] 22,oo 28 .pick [.t 22,.t 27,.c (.bool false)],oo 29 .mv [.t 28],og 30 (.fad 4) [.t 6] 29,og 31 (.ld false 1) [.t 30] 29,og 32 (.bin .eql) [.t 31,ki 2] 29,oo 33 .pick [.t 29,.t 32,.c (.bool false)],oo 34 .mv [.t 33],og 35 (.fad 5) [.t 6] 34,og 36 (.ld false 1) [.t 35] 34,og 37 (.fad 1) [.t 3] 34,og 38 (.ld false 1) [.t 37] 34,og 39 (.bin .eql) [.t 36,.t 38] 34,oo 40 .pick [.t 34,.t 39,.c (.bool false)]] [])
 (.cond (.t 40)
 (.seq (.reg false [
 oo 41 (.fad 3) [.t 6],
 oo 42 (.ld false 1) [.t 41],
 oo 4 .mv [.t 42]] [])
 .ret)
 .skip))))
 (.reg false [oo 11 .mv [.t 5],oo 12 (.bin .add) [.t 11,ki 1],oo 5 .mv [.t 12]] []))))))
 (.seq (.reg false [oo 4 .mv [ki (-1)]] [])
 .ret)))⟩
def cref10_less : AFun := ⟨30,[(4,none)],
 (.seq (.reg false [oo 2 (.box 7) [.t 0],oo 3 (.box 7) [.t 1],oo 4 .mv [.c (.bool false)]] [])
 (.seq (.seq
 (.reg false [oo 5 (.fad 0) [.t 2],oo 6 (.ld false 1) [.t 5],oo 7 (.fad 0) [.t 3],oo 8 (.ld false 1) [.t 7],oo 9 (.bin .neq) [.t 6,.t 8]] [])
 (.cond (.t 9)
 (.seq (.reg false [
 oo 10 (.fad 0) [.t 2],
 oo 11 (.ld false 1) [.t 10],
 oo 12 (.fad 0) [.t 3],
 oo 13 (.ld false 1) [.t 12],
 oo 14 (.bin .lss) [.t 11,.t 13],
 oo 4 .mv [.t 14]] [])
 .ret)
 .skip))
 (.seq (.seq
 (.reg false [oo 15 (.fad 1) [.t 2],oo 16 (.ld false 1) [.t 15],oo 17 (.fad 1) [.t 3],oo 18 (.ld false 1) [.t 17],oo 19 (.bin .neq) [.t 16,.t 18]] [])
 (.cond (.t 19)
 (.seq (.reg false [
 oo 20 (.fad 1) [.t 2],
 oo 21 (.ld false 1) [.t 20],
 oo 22 (.fad 1) [.t 3],
 oo 23 (.ld false 1) [.t 22],
 oo 24 (.bin .lss) [.t 21,.t 23],
 oo 4 .mv [.t 24]] [])
 .ret)
 .skip))
 (.seq (.reg false [oo 25 (.fad 3) [.t 2],oo 26 (.ld false 1) [.t 25],oo 27 (.fad 3) [.t 3],oo 28 (.ld false 1) [.t 27],oo 29 (.bin .lss) [.t 26,.t 28],oo 4 .mv [.t 29]] [])
 .ret))))⟩
def cref03_key : AFun := ⟨9,[(2,none)],
 (.seq (.reg false [oo 2 .mv [.c (.bool false)]] [])
 (.seq (.reg false [oo 3 .mv [.t 0],oo 4 (.bin .geq) [.t 3,ki 0],oo 5 .mv [.t 4],og 6 .mv [.t 0] 5,og 7 (.bin .lss) [.t 6,ki 64] 5,oo 8 .pick [.t 5,.t 7,.c (.bool false)],oo 2 .mv [.t 8]] [])
 .ret))⟩
def cref03_in : AFun := ⟨12,[(4,none)],
 (.seq (.reg false [oo 4 .mv [.c (.bool false)]] [])
 (.seq (.reg false [oo 5 .mv [.t 0],oo 6 (.bin .geq) [.t 5,ki 0],oo 7 .mv [.t 6],og 8 .mv [.t 0] 7,og 9 .mv [.t 1] 7,og 10 (.bin .leq) [.t 8,.t 9] 7,oo 11 .pick [.t 7,.t 10,.c (.bool false)],oo 4 .mv [.t 11]] [])
 .ret))⟩
def cref03_numbers : AFun := ⟨106,[(2,none)],
 (.seq (.reg false [oo 1 (.box 13) [.t 0],oo 2 .mv [.c (.bool false)]] [])
 (.seq (.seq
 (.reg false [oo 4 (.fad 1) [.t 1],oo 5 (.ld false 1) [.t 4],oo 6 .call [.f nref03_in,.t 5,ki 199],oo 7 (.un .not) [.t 6],oo 8 .mv [.t 7],oh 9 (.fad 5) [.t 1] 8,oh 10 (.ld false 1) [.t 9] 8,oh 11 .call [.f nref03_in,.t 10,ki 1099511627776] 8,oh 12 (.un .not) [.t 11] 8,oo 13 .pick [.t 8,.c (.bool true),.t 12],oo 14 .mv [.t 13],oh 15 (.fad 6) [.t 1] 14,oh 16 (.ld false 1) [.t 15] 14,oh 17 .call [.f nref03_in,.t 16,ki 1099511627776] 14,oh 18 (.un .not) [.t 17] 14,oo 19 .pick [.t 14,.c (.bool true),.t 18],oo 20 .mv [.t 19],oh 21 (.fad 7) [.t 1] 20,oh 22 (.ld false 1) [.t 21] 20,oh 23 .call [.f nref03_in,.t 22,ki 1099511627776] 20,oh 24 (.un .not) [.t 23] 20,oo 25 .pick [.t 20,.c (.bool true),.t 24]] [])
 (.cond (.t 25)
 (.seq (.reg false [
 oo 2 .mv [.c (.bool false)]] [])
 .ret)
 .skip))
 (.seq (.seq
 (.reg false [oo 3 .mv [ki 0]] [])
 (.block 0 (.loop
 (.seq (.seq
 (.reg false [oo 26 .mv [.t 3],oo 27 (.fad 8) [.t 1],oo 28 (.ld false 1) [.t 27],oo 29 .len [.t 28],oo 30 (.bin .lss) [.t 26,.t 29]] [])
 (.cond (.t 30)
 .skip
 (.exit 0)))
 (.seq (.block 1 (.seq (.reg false [oo 33 (.fad 8) [.t 1],oo 34 (.ld false 1) [.t 33],oo 35 .mv [.t 3],oo 36 (.iad 1) [.t 34,.t 35],oo 37 (.ld false 1) [.t 36],oo 38 .call [.f nref03_in,.t 37,ki 1099511627776],oo 39 (.un .not) [.t 38]] [])
 (.cond (.t 39)
 (.seq (.reg false [
 oo 2 .mv [.c (.bool false)]] [])
 .ret)
 .skip)))
 (.reg false [oo 31 .mv [.t 3],oo 32 (.bin .add) [.t 31,ki 1],oo 3 .mv [.t 32]] []))))))
 (.seq (.seq
 (.reg false [oo 40 (.fad 4) [.t 1],oo 41 (.ld false 1) [.t 40]] [])
 (.block 2 (.seq (.reg false [oo 43 (.bin .eql) [.t 41,ki 1],oo 42 .mv [.t 43]] [])
 (.cond (.t 42)
 (.seq (.reg false [
 oo 44 (.fad 5) [.t 1],
 oo 45 (.ld false 1) [.t 44],
 oo 46 .call [.f nref03_key,.t 45],
 oo 47 .mv [.t 46],
 og 48 (.fad 5) [.t 1] 47,
 og 49 (.ld false 1) [.t 48] 47,
 og 50 (.fad 0) [.t 1] 47,
 og 51 (.ld false 1) [.t 50] 47,
 og 52 (.bin .neq) [.t 49,.t 51] 47,
 oo 53 .pick [.t 47,.t 52,.c (.bool false)],
 oo 54 .mv [.t 53],
 og 55 (.fad 6) [.t 1] 54,
 og 56 (.ld false 1) [.t 55] 54,
 og 57 (.bin .geq) [.t 56,ki 1] 54,
 oo 58 .pick [.t 54,.t 57,.c (.bool false)],
 oo 59 .mv [.t 58],
 og 60 (.fad 6) [.t 1] 59,
 og 61 (.ld false 1) [.t 60] 59,
 og 62 (.bin .leq) [.t 61,ki 3] 59,
 oo 63 .pick [.t 59,.t 62,.c (.bool false)],
 oo 64 .mv [.t 63],
 og 65 (.fad 7) [.t 1] 64,
 og 66 (.ld false 1) [.t 65] 64,
 og 67 (.fad 3) [.t 1] 64,
 og 68 (.ld false 1) [.t 67] 64,
 og 69 (.bin .geq) [.t 66,.t 68] 64,
 oo 70 .pick [.t 64,.t 69,.c (.bool false)],
 oo 71 .mv [.t 70],
 og 72 (.fad 7) [.t 1] 71,
 og 73 (.ld false 1) [.t 72] 71,
 og 74 (.bin .leq) [.t 73,ki 2147483648] 71,
 oo 75 .pick [.t 71,.t 74,.c (.bool false)],
 oo 2 .mv [.t 75]] [])
 .ret)
 (.seq (.reg false [
 oo 77 (.bin .eql) [.t 41,ki 2],
 oo 76 .mv [.t 77]] [])
 (.cond (.t 76)
 (.seq (.reg false [
 oo 78 (.fad 5) [.t 1],
 oo 79 (.ld false 1) [.t 78],
 oo 80 .call [.f nref03_in,.t 79,ki 199],
 oo 81 .mv [.t 80],
 og 82 (.fad 6) [.t 1] 81,
 og 83 (.ld false 1) [.t 82] 81,
 og 84 (.bin .eql) [.t 83,ki 0] 81,
 oo 85 .pick [.t 81,.t 84,.c (.bool false)],
 oo 86 .mv [.t 85],
 og 87 (.fad 7) [.t 1] 86,
 og 88 (.ld false 1) [.t 87] 86,
 og 89 (.bin .eql) [.t 88,ki 0] 86,
 oo 90 .pick [.t 86,.t 89,.c (.bool false)],
 oo 2 .mv [.t 90]] [])
 .ret)
 (.seq (.reg false [
 oo 92 (.bin .eql) [.t 41,ki 3],
 oo 91 .mv [.t 92]] [])
 (.cond (.t 91)
 (.seq (.reg false [
 oo 93 (.fad 5) [.t 1],
 oo 94 (.ld false 1) [.t 93],
 oo 95 (.bin .eql) [.t 94,ki 0],
 oo 96 .mv [.t 95],
 og 97 (.fad 6) [.t 1] 96,
 og 98 (.ld false 1) [.t 97] 96,
 og 99 (.bin .eql) [.t 98,ki 0] 96,
 oo 100 .pick [.t 96,.t 99,.c (.bool false)],
 oo 101 .mv [.t 100],
 og 102 (.fad 7) [.t 1] 101,
 og 103 (.ld false 1) [.t 102] 101,
 og 104 (.bin .eql) [.t 103,ki 0] 101,
 oo 105 .pick [.t 101,.t 104,.c (.bool false)],
 oo 2 .mv [.t 105]] [])
 .ret)
 .skip))))))))
 (.seq (.reg false [oo 2 .mv [.c (.bool true)]] [])
 .ret)))))⟩
def cref03_PinsOK : AFun := ⟨50,[(2,none)],
 (.seq (.reg false [oo 2 .mv [.c (.bool false)]] [])
 (.seq (.seq
 (.reg false [oo 3 .mv [ki 0]] [])
 (.block 0 (.loop
 (.seq (.seq
 (.reg false [oo 5 .mv [.t 3],oo 6 .mv [.t 0],oo 7 .len [.t 6],oo 8 (.bin .lss) [.t 5,.t 7]] [])
 (.cond (.t 8)
 .skip
 (.exit 0)))
 (.seq (.block 1 (.seq (.reg false [oo 11 .mv [.t 0],oo 12 .mv [.t 3],oo 13 (.iad 3) [.t 11,.t 12],oo 14 (.ld true 3) [.t 13],oo 4 (.alloc [v0,v0,ve]) [],ou (.st 3) [.t 4,.t 14]] [])
 (.seq (.reg true [oo 15 (.fad 0) [.t 4],oo 16 (.ld false 1) [.t 15],oo 17 .call [.f nref03_key,.t 16],oo 18 (.un .not) [.t 17],oo 19 .mv [.t 18],oh 20 .mv [.t 3] 19,oh 21 (.bin .gtr) [.t 20,ki 0] 19,oh 22 .mv [.t 21] 19,og 23 (.fad 0) [.t 4] 22,og 24 (.ld false 1) [.t 23] 22,og 25 .mv [.t 0] 22,og 26 .mv [.t 3] 22,og 27 (.bin .sub) [.t 26,ki 1] 22,og 28 (.iad 3) [.t 25,.t 27] 22,og 29 (.fad 0) [.t 28] 22,og 30 (.ld false 1) [.t 29] 22,og 31 (.bin .leq) [.t 24,.t 30] 22,oh 32 .pick [.t 22,.t 31,.c (.bool false)] 19,oo 33 .pick [.t 19,.c (.bool true),.t 32],oo 34 .mv [.t 33],oh 35 (.fad 1) [.t 4] 34,oh 36 (.ld false 1) [.t 35] 34,oh 37 (.bin .lss) [.t 36,ki 1] 34,oo 38 .pick [.t 34,.c (.bool true),.t 37],oo 39 .mv [.t 38],oh 40 (.fad 1) [.t 4] 39,oh 41 (.ld false 1) [.t 40] 39,oh 42 (.bin .gtr) [.t 41,ki 200] 39,oo 43 .pick [.t 39,.c (.bool true),.t 42],oo 44 .mv [.t 43],oh 45 (.fad 2) [.t 4] 44,oh 46 (.ld false 1) [.t 45] 44,oh 47 .lens [.t 46] 44,oh 48 (.bin .neq) [.t 47,ki 32] 44,oo 49 .pick [.t 44,.c (.bool true),.t 48]] [[],[0],[1],[2],[3,2],[4],[5,4],[6,4,4],[7],[8,7],[7],[7],[11,7],[10,12,7],[13,7],[14,7],[9,15,7],[7,16,4],[4,17],[18,7],[19],[20,19],[21,19],[19,22],[23,19],[24],[25,24],[26,24],[24,27],[28,24],[29],[30,29],[31,29],[32,29],[29,33]])
 (.cond (.t 49)
 (.seq (.reg false [
 oo 2 .mv [.c (.bool false)]] [])
 .ret)
 .skip))))
 (.reg false [oo 9 .mv [.t 3],oo 10 (.bin .add) [.t 9,ki 1],oo 3 .mv [.t 10]] []))))))
 (.seq (.reg false [oo 2 .mv [.c (.bool true)]] [])
 .ret)))⟩
def cref03_SamePins : AFun := ⟨26,[(4,none)],
 (.seq (.reg false [oo 4 .mv [.c (.bool false)]] [])
 (.seq (.seq
 (.reg false [oo 6 .mv [.t 0],oo 7 .len [.t 6],oo 8 .mv [.t 1],oo 9 .len [.t 8],oo 10 (.bin .neq) [.t 7,.t 9]] [])
 (.cond (.t 10)
 (.seq (.reg false [
 oo 4 .mv [.c (.bool false)]] [])
 .ret)
 .skip))
 (.seq (.seq
 (.reg false [oo 5 .mv [ki 0]] [])
 (.block 0 (.loop
 (.seq (.seq
 (.reg false [oo 11 .mv [.t 5],oo 12 .mv [.t 0],oo 13 .len [.t 12],oo 14 (.bin .lss) [.t 11,.t 13]] [])
 (.cond (.t 14)
 .skip
 (.exit 0)))
 (.seq (.block 1 (.seq (.reg true [oo 17 .mv [.t 0],oo 18 .mv [.t 5],oo 19 (.iad 3) [.t 17,.t 18],oo 20 (.ld true 3) [.t 19],oo 21 .mv [.t 1],oo 22 .mv [.t 5],oo 23 (.iad 3) [.t 21,.t 22],oo 24 (.ld true 3) [.t 23],oo 25 (.aeq true [0,0,2]) [.t 20,.t 24]] [[],[],[0,1],[2],[],[],[4,5],[6],[3,7]])
 (.cond (.t 25)
 (.seq (.reg false [
 oo 4 .mv [.c (.bool false)]] [])
 .ret)
 .skip)))
 (.reg false [oo 15 .mv [.t 5],oo 16 (.bin .add) [.t 15,ki 1],oo 5 .mv [.t 16]] []))))))
 (.seq (.reg false [oo 4 .mv [.c (.bool true)]] [])
 .ret))))⟩
def cref01_Sum : AFun := ⟨87,[(2,none)],
 (.seq (.reg false [oo 2 .mv [(.c ve)]] [])
 (.seq (.reg false [oo 11 (.bsl 1 8 [(.int .u32 0)] [0,1,2,3,4,5,6,7]) [(.c (.int .u32 1779033703)),(.c (.int .u32 3144134277)),(.c (.int .u32 1013904242)),(.c (.int .u32 2773480762)),(.c (.int .u32 1359893119)),(.c (.int .u32 2600822924)),(.c (.int .u32 528734635)),(.c (.int .u32 1541459225))],oo 3 .mv [.t 11]] [])
 (.seq (.reg false [oo 12 .mv [.t 0],oo 13 (.app 1 1) [kn,.t 12],oo 14 (.bsl 1 1 [(.int .u8 0)] [0]) [(.c (.int .u8 128))],oo 15 (.app 1 1) [.t 13,.t 14],oo 4 .mv [.t 15]] [])
 (.seq (.block 0 (.loop
 (.seq (.seq
 (.reg false [oo 16 .mv [.t 4],oo 17 .len [.t 16],oo 18 (.bin .rem) [.t 17,ki 64],oo 19 (.bin .neq) [.t 18,ki 56]] [])
 (.cond (.t 19)
 .skip
 (.exit 0)))
 (.block 1 (.reg false [oo 20 .mv [.t 4],oo 21 (.bsl 1 1 [(.int .u8 0)] [0]) [(.c (.int .u8 0))],oo 22 (.app 1 1) [.t 20,.t 21],oo 4 .mv [.t 22]] [])))))
 (.seq (.reg false [oo 23 .mv [.t 0],oo 24 .len [.t 23],oo 25 (.cvt .u64) [.t 24],oo 26 (.bin .mul) [.t 25,(.c (.int .u64 8))],oo 5 .mv [.t 26]] [])
 (.seq (.seq
 (.reg false [oo 6 .mv [ki 7]] [])
 (.block 2 (.loop
 (.seq (.seq
 (.reg false [oo 27 .mv [.t 6],oo 28 (.bin .geq) [.t 27,ki 0]] [])
 (.cond (.t 28)
 .skip
 (.exit 2)))
 (.seq (.block 3 (.reg false [oo 31 .mv [.t 4],oo 32 .mv [.t 5],oo 33 .mv [.t 6],oo 34 (.bin .mul) [ki 8,.t 33],oo 35 (.cvt .u64) [.t 34],oo 36 (.bin .shr) [.t 32,.t 35],oo 37 (.cvt .u8) [.t 36],oo 38 (.bsl 1 1 [(.int .u8 0)] [0]) [.t 37],oo 39 (.app 1 1) [.t 31,.t 38],oo 4 .mv [.t 39]] []))
 (.reg false [oo 29 .mv [.t 6],oo 30 (.bin .sub) [.t 29,ki 1],oo 6 .mv [.t 30]] []))))))
 (.seq (.reg false [oo 40 .call [.f nref01_constants],oo 7 .mv [.t 40]] [])
 (.seq (.seq
 (.reg false [oo 8 .mv [ki 0]] [])
 (.block 4 (.loop
 (.seq (.seq
 (.reg false [oo 41 .mv [.t 8],oo 42 .mv [.t 4],oo 43 .len [.t 42],oo 44 (.bin .lss) [.t 41,.t 43]] [])
 (.cond (.t 44)
 .skip
 (.exit 4)))
 (.seq (.block 5 (.reg false [oo 47 .mv [.t 3],oo 48 .mv [.t 4],oo 49 .mv [.t 8],oo 50 .mv [.t 8],oo 51 (.bin .add) [.t 50,ki 64],oo 52 (.slc 1 true true false) [.t 48,.t 49,.t 51],oo 53 .mv [.t 7],oo 54 .call [.f nref01_block,.t 47,.t 52,.t 53],oo 3 .mv [.t 54]] []))
 (.reg false [oo 45 .mv [.t 8],oo 46 (.bin .add) [.t 45,ki 64],oo 8 .mv [.t 46]] []))))))
 (.seq (.reg false [oo 9 .mv [kn]] [])
 (.seq (.seq
 (.reg false [oo 10 .mv [ki 0]] [])
 (.block 6 (.loop
 (.seq (.seq
 (.reg false [oo 55 .mv [.t 10],oo 56 (.bin .lss) [.t 55,ki 8]] [])
 (.cond (.t 56)
 .skip
 (.exit 6)))
 (.seq (.block 7 (.reg true [oo 59 .mv [.t 9],oo 60 .mv [.t 3],oo 61 .mv [.t 10],oo 62 (.iad 1) [.t 60,.t 61],oo 63 (.ld false 1) [.t 62],oo 64 (.bin .shr) [.t 63,(.c (.int .u64 24))],oo 65 (.cvt .u8) [.t 64],oo 66 .mv [.t 3],oo 67 .mv [.t 10],oo 68 (.iad 1) [.t 66,.t 67],oo 69 (.ld false 1) [.t 68],oo 70 (.bin .shr) [.t 69,(.c (.int .u64 16))],oo 71 (.cvt .u8) [.t 70],oo 72 .mv [.t 3],oo 73 .mv [.t 10],oo 74 (.iad 1) [.t 72,.t 73],oo 75 (.ld false 1) [.t 74],oo 76 (.bin .shr) [.t 75,(.c (.int .u64 8))],oo 77 (.cvt .u8) [.t 76],oo 78 .mv [.t 3],oo 79 .mv [.t 10],oo 80 (.iad 1) [.t 78,.t 79],oo 81 (.ld false 1) [.t 80],oo 82 (.cvt .u8) [.t 81],oo 83 (.bsl 1 4 [(.int .u8 0)] [0,1,2,3]) [.t 65,.t 71,.t 77,.t 82],oo 84 (.app 1 1) [.t 59,.t 83],oo 9 .mv [.t 84]] [[],[],[],[1,2],[3],[4],[5],[],[],[7,8],[9],[10],[11],[],[],[13,14],[15],[16],[17],[],[],[19,20],[21],[22],[6,12,18,23],[0,24],[25,25,0,1,2,3,4,5,6,7,8,9,10,11,12,13,14,15,16,17,18,19,20,21,22,23,24,25]]))
 (.reg false [oo 57 .mv [.t 10],oo 58 (.bin .add) [.t 57,ki 1],oo 10 .mv [.t 58]] []))))))
 (.seq (.reg false [oo 85 .mv [.t 9],oo 86 .b2s [.t 85],oo 2 .mv [.t 86]] [])
 .ret)))))))))))⟩
def cref03_Bytes : AFun := ⟨71,[(2,none)],
 (.seq (.reg false [oo 1 (.box 13) [.t 0],oo 2 .mv [kn]] [])
 (.seq (.reg true [oo 8 (.fad 0) [.t 1],oo 9 (.ld false 1) [.t 8],oo 10 .call [.f nref02_Int,kn,.t 9],oo 11 (.fad 1) [.t 1],oo 12 (.ld false 1) [.t 11],oo 13 .call [.f nref02_Int,.t 10,.t 12],oo 14 (.fad 2) [.t 1],oo 15 (.ld false 1) [.t 14],oo 16 .call [.f nref02_Text,.t 13,.t 15],oo 3 .mv [.t 16]] [[],[0],[1],[],[3],[2,4,2],[],[6],[5,7,5],[8,8,0,1,2,3,4,5,6,7,8]])
 (.seq (.seq
 (.reg false [oo 17 (.fad 3) [.t 1],oo 18 (.ld false 1) [.t 17],oo 19 (.fad 4) [.t 1],oo 20 (.ld false 1) [.t 19],oo 21 (.fad 5) [.t 1],oo 22 (.ld false 1) [.t 21],oo 23 (.fad 6) [.t 1],oo 24 (.ld false 1) [.t 23],oo 25 (.fad 7) [.t 1],oo 26 (.ld false 1) [.t 25],oo 27 (.bsl 1 5 [v0] [0,1,2,3,4]) [.t 18,.t 20,.t 22,.t 24,.t 26],oo 28 .len [.t 27],oo 29 .mv [ki 0]] [])
 (.block 0 (.loop
 (.seq (.reg false [oo 30 (.bin .lss) [.t 29,.t 28]] [])
 (.seq (.cond (.t 30)
 .skip
 (.exit 0))
 (.seq (.block 1 (.seq (.reg false [oo 31 (.iad 1) [.t 27,.t 29],oo 32 (.ld false 1) [.t 31],oo 5 .mv [.t 32]] [])
 (.reg false [oo 33 .mv [.t 3],oo 34 .mv [.t 5],oo 35 .call [.f nref02_Int,.t 33,.t 34],oo 3 .mv [.t 35]] [])))
 (.reg false [oo 36 (.bin .add) [.t 29,ki 1],oo 29 .mv [.t 36]] [])))))))
 (.seq (.reg true [oo 37 .mv [.t 3],oo 38 (.fad 8) [.t 1],oo 39 (.ld false 1) [.t 38],oo 40 .call [.f nref02_Ints,.t 37,.t 39],oo 41 (.fad 9) [.t 1],oo 42 (.ld false 1) [.t 41],oo 43 .len [.t 42],oo 44 .call [.f nref02_Int,.t 40,.t 43],oo 3 .mv [.t 44]] [[],[],[1],[0,2],[],[4],[5],[3,6,3],[7,7,0,1,2,3,4,5,6,7]])
 (.seq (.seq
 (.reg false [oo 6 .mv [ki 0]] [])
 (.block 2 (.loop
 (.seq (.seq
 (.reg false [oo 45 .mv [.t 6],oo 46 (.fad 9) [.t 1],oo 47 (.ld false 1) [.t 46],oo 48 .len [.t 47],oo 49 (.bin .lss) [.t 45,.t 48]] [])
 (.cond (.t 49)
 .skip
 (.exit 2)))
 (.seq (.block 3 (.seq (.reg false [oo 52 (.fad 9) [.t 1],oo 53 (.ld false 1) [.t 52],oo 54 .mv [.t 6],oo 55 (.iad 3) [.t 53,.t 54],oo 56 (.ld true 3) [.t 55],oo 7 (.alloc [v0,v0,ve]) [],ou (.st 3) [.t 7,.t 56]] [])
 (.reg true [oo 57 .mv [.t 3],oo 58 (.fad 0) [.t 7],oo 59 (.ld false 1) [.t 58],oo 60 .call [.f nref02_Int,.t 57,.t 59],oo 61 (.fad 1) [.t 7],oo 62 (.ld false 1) [.t 61],oo 63 .call [.f nref02_Int,.t 60,.t 62],oo 64 (.fad 2) [.t 7],oo 65 (.ld false 1) [.t 64],oo 66 .call [.f nref02_Text,.t 63,.t 65],oo 3 .mv [.t 66]] [[],[],[1],[0,2],[],[4],[3,5,3],[],[7],[6,8,6],[9,9,0,1,2,3,4,5,6,7,8,9]])))
 (.reg false [oo 50 .mv [.t 6],oo 51 (.bin .add) [.t 50,ki 1],oo 6 .mv [.t 51]] []))))))
 (.seq (.reg false [oo 67 .mv [.t 3],oo 68 (.fad 10) [.t 1],oo 69 (.ld false 1) [.t 68],oo 70 .call [.f nref02_Text,.t 67,.t 69],oo 2 .mv [.t 70]] [])
 .ret))))))⟩
def cref05_before : AFun := ⟨32,[(4,none)],
 (.seq (.reg false [oo 2 (.box 13) [.t 0],oo 3 (.box 13) [.t 1],oo 4 .mv [.c (.bool false)]] [])
 (.seq (.seq
 (.reg false [oo 5 (.fad 0) [.t 2],oo 6 (.ld false 1) [.t 5],oo 7 (.fad 0) [.t 3],oo 8 (.ld false 1) [.t 7],oo 9 (.bin .neq) [.t 6,.t 8]] [])
 (.cond (.t 9)
 (.seq (.reg false [
 oo 10 (.fad 0) [.t 2],
 oo 11 (.ld false 1) [.t 10],
 oo 12 (.fad 0) [.t 3],
 oo 13 (.ld false 1) [.t 12],
 oo 14 (.bin .lss) [.t 11,.t 13],
 oo 4 .mv [.t 14]] [])
 .ret)
 .skip))
 (.seq (.seq
 (.reg false [oo 15 (.fad 1) [.t 2],oo 16 (.ld false 1) [.t 15],oo 17 (.fad 1) [.t 3],oo 18 (.ld false 1) [.t 17],oo 19 (.bin .neq) [.t 16,.t 18]] [])
 (.cond (.t 19)
 (.seq (.reg false [
 oo 20 (.fad 1) [.t 2],
 oo 21 (.ld false 1) [.t 20],
 oo 22 (.fad 1) [.t 3],
 oo 23 (.ld false 1) [.t 22],
 oo 24 (.bin .lss) [.t 21,.t 23],
 oo 4 .mv [.t 24]] [])
 .ret)
 .skip))
 (.seq (.reg false [oo 25 (.fad 11) [.t 2],oo 26 (.fad 1) [.t 25],oo 27 (.ld false 1) [.t 26],oo 28 (.fad 11) [.t 3],oo 29 (.fad 1) [.t 28],oo 30 (.ld false 1) [.t 29],oo 31 (.bin .lss) [.t 27,.t 30],oo 4 .mv [.t 31]] [])
 .ret))))⟩
def cmade_Dice_Bytes : AFun := ⟨23,[(4,none)],
 (.seq (.reg false [oo 4 .mv [kn]] [])
 (.seq (.reg false [oo 5 .mv [kn]] [])
 (.seq (.seq
 (.reg false [oo 7 .mv [.t 0],oo 8 .mv [.t 1],oo 9 (.bin .add) [.t 8,ki 1],oo 10 .call [.f nmade_Dice_Next,.t 7,.t 9],oo 6 .mv [.t 10]] [])
 (.block 0 (.loop
 (.seq (.seq
 (.reg false [oo 11 .mv [.t 6],oo 12 (.bin .gtr) [.t 11,ki 0]] [])
 (.cond (.t 12)
 .skip
 (.exit 0)))
 (.seq (.block 1 (.reg false [oo 15 .mv [.t 5],oo 16 .mv [.t 0],oo 17 (.bsl 1 7 [v0] [0,1,2,3,4,5,6]) [ki 0,ki 1,ki 255,ki 7,ki 128,ki 126,ki 32],oo 18 .call [.f nmade_Dice_Of,.t 16,.t 17],oo 19 (.cvt .u8) [.t 18],oo 20 (.bsl 1 1 [(.int .u8 0)] [0]) [.t 19],oo 21 (.app 1 1) [.t 15,.t 20],oo 5 .mv [.t 21]] []))
 (.reg false [oo 13 .mv [.t 6],oo 14 (.bin .sub) [.t 13,ki 1],oo 6 .mv [.t 14]] []))))))
 (.seq (.reg false [oo 22 .mv [.t 5],oo 4 .mv [.t 22]] [])
 .ret))))⟩
def cref03_SameList : AFun := ⟨27,[(4,none)],
 (.seq (.reg false [oo 4 .mv [.c (.bool false)]] [])
 (.seq (.seq
 (.reg false [oo 6 .mv [.t 0],oo 7 .len [.t 6],oo 8 .mv [.t 1],oo 9 .len [.t 8],oo 10 (.bin .neq) [.t 7,.t 9]] [])
 (.cond (.t 10)
 (.seq (.reg false [
 oo 4 .mv [.c (.bool false)]] [])
 .ret)
 .skip))
 (.seq (.seq
 (.reg false [oo 5 .mv [ki 0]] [])
 (.block 0 (.loop
 (.seq (.seq
 (.reg false [oo 11 .mv [.t 5],oo 12 .mv [.t 0],oo 13 .len [.t 12],oo 14 (.bin .lss) [.t 11,.t 13]] [])
 (.cond (.t 14)
 .skip
 (.exit 0)))
 (.seq (.block 1 (.seq (.reg true [oo 17 .mv [.t 0],oo 18 .mv [.t 5],oo 19 (.iad 13) [.t 17,.t 18],oo 20 (.ld true 13) [.t 19],oo 21 .mv [.t 1],oo 22 .mv [.t 5],oo 23 (.iad 13) [.t 21,.t 22],oo 24 (.ld true 13) [.t 23],oo 25 .call [.f nref03_Same,.t 20,.t 24],oo 26 (.un .not) [.t 25]] [[],[],[0,1],[2],[],[],[4,5],[6],[3,7],[8]])
 (.cond (.t 26)
 (.seq (.reg false [
 oo 4 .mv [.c (.bool false)]] [])
 .ret)
 .skip)))
 (.reg false [oo 15 .mv [.t 5],oo 16 (.bin .add) [.t 15,ki 1],oo 5 .mv [.t 16]] []))))))
 (.seq (.reg false [oo 4 .mv [.c (.bool true)]] [])
 .ret))))⟩
def cslices_stableCmpFunc_api_Vouch : AFun := ⟨63,[],
 (.seq (.reg false [oo 6 .mv [ki 20]] [])
 (.seq (.reg false [oo 10 .mv [.t 6],oo 7 .mv [ki 0],oo 8 .mv [.t 10]] [])
 (.seq (.block 0 (.loop
 (.seq (.seq
 (.reg false [oo 11 .mv [.t 8],oo 12 .mv [.t 1],oo 13 (.bin .leq) [.t 11,.t 12]] [])
 (.cond (.t 13)
 .skip
 (.exit 0)))
 (.block 1 (.seq (.reg false [oo 14 .mv [.t 0],oo 15 .mv [.t 7],oo 16 .mv [.t 8],oo 17 .mv [.t 2],oo 18 .call [.f nslices_insertionSortCmpFunc_api_Vouch,.t 14,.t 15,.t 16,.t 17]] [])
 (.seq (.reg false [oo 19 .mv [.t 8],oo 7 .mv [.t 19]] [])
 (.reg false [oo 20 .mv [.t 8],oo 21 .mv [.t 6],oo 22 (.bin .add) [.t 20,.t 21],oo 8 .mv [.t 22]] [])))))))
 (.seq (.reg false [oo 23 .mv [.t 0],oo 24 .mv [.t 7],oo 25 .mv [.t 1],oo 26 .mv [.t 2],oo 27 .call [.f nslices_insertionSortCmpFunc_api_Vouch,.t 23,.t 24,.t 25,.t 26]] [])
 (.block 2 (.loop
 (.seq (.seq
 (.reg false [oo 28 .mv [.t 6],oo 29 .mv [.t 1],oo 30 (.bin .lss) [.t 28,.t 29]] [])
 (.cond (.t 30)
 .skip
 (.exit 2)))
 (.block 3 (.seq (.reg false [oo 31 .mv [.t 6],oo 32 (.bin .mul) [ki 2,.t 31],oo 7 .mv [ki 0],oo 8 .mv [.t 32]] [])
 (.seq (.block 4 (.loop
 (.seq (.seq
 (.reg false [oo 33 .mv [.t 8],oo 34 .mv [.t 1],oo 35 (.bin .leq) [.t 33,.t 34]] [])
 (.cond (.t 35)
 .skip
 (.exit 4)))
 (.block 5 (.seq (.reg false [oo 36 .mv [.t 0],oo 37 .mv [.t 7],oo 38 .mv [.t 7],oo 39 .mv [.t 6],oo 40 (.bin .add) [.t 38,.t 39],oo 41 .mv [.t 8],oo 42 .mv [.t 2],oo 43 .call [.f nslices_symMergeCmpFunc_api_Vouch,.t 36,.t 37,.t 40,.t 41,.t 42]] [])
 (.seq (.reg false [oo 44 .mv [.t 8],oo 7 .mv [.t 44]] [])
 (.reg false [oo 45 .mv [.t 8],oo 46 .mv [.t 6],oo 47 (.bin .mul) [ki 2,.t 46],oo 48 (.bin .add) [.t 45,.t 47],oo 8 .mv [.t 48]] [])))))))
 (.seq (.seq
 (.reg false [oo 49 .mv [.t 7],oo 50 .mv [.t 6],oo 51 (.bin .add) [.t 49,.t 50],oo 9 .mv [.t 51]] [])
 (.seq (.reg false [oo 52 .mv [.t 9],oo 53 .mv [.t 1],oo 54 (.bin .lss) [.t 52,.t 53]] [])
 (.cond (.t 54)
 (.reg false [
 oo 55 .mv [.t 0],
 oo 56 .mv [.t 7],
 oo 57 .mv [.t 9],
 oo 58 .mv [.t 1],
 oo 59 .mv [.t 2],
 oo 60 .call [.f nslices_symMergeCmpFunc_api_Vouch,.t 55,.t 56,.t 57,.t 58,.t 59]] [])
 .skip)))
 (.reg false [oo 61 .mv [.t 6],oo 62 (.bin .mul) [.t 61,ki 2],oo 6 .mv [.t 62]] []))))))))))))⟩
def cref01_constants : AFun := ⟨2,[(0,none)],
 (.seq (.reg false [oo 0 .mv [kn]] [])
 (.seq (.reg false [oo 1 (.bsl 1 64 [(.int .u32 0)] [0,1,2,3,4,5,6,7,8,9,10,11,12,13,14,15,16,17,18,19,20,21,22,23,24,25,26,27,28,29,30,31,32,33,34,35,36,37,38,39,40,41,42,43,44,45,46,47,48,49,50,51,52,53,54,55,56,57,58,59,60,61,62,63]) [(.c (.int .u32 1116352408)),(.c (.int .u32 1899447441)),(.c (.int .u32 3049323471)),(.c (.int .u32 3921009573)),(.c (.int .u32 961987163)),(.c (.int .u32 1508970993)),(.c (.int .u32 2453635748)),(.c (.int .u32 2870763221)),(.c (.int .u32 3624381080)),(.c (.int .u32 310598401)),(.c (.int .u32 607225278)),(.c (.int .u32 1426881987)),(.c (.int .u32 1925078388)),(.c (.int .u32 2162078206)),(.c (.int .u32 2614888103)),(.c (.int .u32 3248222580)),(.c (.int .u32 3835390401)),(.c (.int .u32 4022224774)),(.c (.int .u32 264347078)),(.c (.int .u32 604807628)),(.c (.int .u32 770255983)),(.c (.int .u32 1249150122)),(.c (.int .u32 1555081692)),(.c (.int .u32 1996064986)),(.c (.int .u32 2554220882)),(.c (.int .u32 2821834349)),(.c (.int .u32 2952996808)),(.c (.int .u32 3210313671)),(.c (.int .u32 3336571891)),(.c (.int .u32 3584528711)),(.c (.int .u32 113926993)),(.c (.int .u32 338241895)),(.c (.int .u32 666307205)),(.c (.int .u32 773529912)),(.c (.int .u32 1294757372)),(.c (.int .u32 1396182291)),(.c (.int .u32 1695183700)),(.c (.int .u32 1986661051)),(.c (.int .u32 2177026350)),(.c (.int .u32 2456956037)),(.c (.int .u32 2730485921)),(.c (.int .u32 2820302411)),(.c (.int .u32 3259730800)),(.c (.int .u32 3345764771)),(.c (.int .u32 3516065817)),(.c (.int .u32 3600352804)),(.c (.int .u32 4094571909)),(.c (.int .u32 275423344)),(.c (.int .u32 430227734)),(.c (.int .u32 506948616)),(.c (.int .u32 659060556)),(.c (.int .u32 883997877)),(.c (.int .u32 958139571)),(.c (.int .u32 1322822218)),(.c (.int .u32 1537002063)),(.c (.int .u32 1747873779)),(.c (.int .u32 1955562222)),(.c (.int .u32 2024104815)),(.c (.int .u32 2227730452)),(.c (.int .u32 2361852424)),(.c (.int .u32 2428436474)),(.c (.int .u32 2756734187)),(.c (.int .u32 3204031479)),(.c (.int .u32 3329325298))],oo 0 .mv [.t 1]] [])
 .ret))⟩
def cref01_block : AFun := ⟨256,[(6,none)],
 (.seq (.reg false [oo 6 .mv [kn]] [])
 (.seq (.reg false [oo 19 (.mks 1 4 [(.int .u32 0)]) [ki 64,ki 64],oo 7 .mv [.t 19]] [])
 (.seq (.seq
 (.reg false [oo 8 .mv [ki 0]] [])
 (.block 0 (.loop
 (.seq (.seq
 (.reg false [oo 20 .mv [.t 8],oo 21 (.bin .lss) [.t 20,ki 16]] [])
 (.cond (.t 21)
 .skip
 (.exit 0)))
 (.seq (.block 1 (.reg true [oo 24 .mv [.t 7],oo 25 .mv [.t 8],oo 26 .mv [.t 1],oo 27 .mv [.t 8],oo 28 (.bin .mul) [ki 4,.t 27],oo 29 (.iad 1) [.t 26,.t 28],oo 30 (.ld false 1) [.t 29],oo 31 (.cvt .u32) [.t 30],oo 32 (.bin .shl) [.t 31,(.c (.int .u64 24))],oo 33 .mv [.t 1],oo 34 .mv [.t 8],oo 35 (.bin .mul) [ki 4,.t 34],oo 36 (.bin .add) [.t 35,ki 1],oo 37 (.iad 1) [.t 33,.t 36],oo 38 (.ld false 1) [.t 37],oo 39 (.cvt .u32) [.t 38],oo 40 (.bin .shl) [.t 39,(.c (.int .u64 16))],oo 41 (.bin .or) [.t 32,.t 40],oo 42 .mv [.t 1],oo 43 .mv [.t 8],oo 44 (.bin .mul) [ki 4,.t 43],oo 45 (.bin .add) [.t 44,ki 2],oo 46 (.iad 1) [.t 42,.t 45],oo 47 (.ld false 1) [.t 46],oo 48 (.cvt .u32) [.t 47],oo 49 (.bin .shl) [.t 48,(.c (.int .u64 8))],oo 50 (.bin .or) [.t 41,.t 49],oo 51 .mv [.t 1],oo 52 .mv [.t 8],oo 53 (.bin .mul) [ki 4,.t 52],oo 54 (.bin .add) [.t 53,ki 3],oo 55 (.iad 1) [.t 51,.t 54],oo 56 (.ld false 1) [.t 55],oo 57 (.cvt .u32) [.t 56],oo 58 (.bin .or) [.t 50,.t 57],oo 59 (.iad 1) [.t 24,.t 25],ou (.st 1) [.t 59,.t 58]] [[],[],[],[],[3],[2,4],[5],[6],[7],[],[],[10],[11],[9,12],[13],[14],[15],[8,16],[],[],[19],[20],[18,21],[22],[23],[24],[17,25],[],[],[28],[29],[27,30],[31],[32],[26,33],[0,1,0,1,2,3,4,5,6,7,8,9,10,11,12,13,14,15,16,17,18,19,20,21,22,23,24,25,26,27,28,29,30,31,32,33,34],[35,34,0,1,2,3,4,5,6,7,8,9,10,11,12,13,14,15,16,17,18,19,20,21,22,23,24,25,26,27,28,29,30,31,32,33,34]]))
 (.reg false [oo 22 .mv [.t 8],oo 23 (.bin .add) [.t 22,ki 1],oo 8 .mv [.t 23]] []))))))
 (.seq (.seq
 (.reg false [oo 9 .mv [ki 16]] [])
 (.block 2 (.loop
 (.seq (.seq
 (.reg false [oo 60 .mv [.t 9],oo 61 (.bin .lss) [.t 60,ki 64]] [])
 (.cond (.t 61)
 .skip
 (.exit 2)))
 (.seq (.block 3 (.seq (.reg true [oo 64 .mv [.t 7],oo 65 .mv [.t 9],oo 66 (.bin .sub) [.t 65,ki 15],oo 67 (.iad 1) [.t 64,.t 66],oo 68 (.ld false 1) [.t 67],oo 69 .call [.f nref01_turn,.t 68,(.c (.int .u64 7))],oo 70 .mv [.t 7],oo 71 .mv [.t 9],oo 72 (.bin .sub) [.t 71,ki 15],oo 73 (.iad 1) [.t 70,.t 72],oo 74 (.ld false 1) [.t 73],oo 75 .call [.f nref01_turn,.t 74,(.c (.int .u64 18))],oo 76 (.bin .xor) [.t 69,.t 75],oo 77 .mv [.t 7],oo 78 .mv [.t 9],oo 79 (.bin .sub) [.t 78,ki 15],oo 80 (.iad 1) [.t 77,.t 79],oo 81 (.ld false 1) [.t 80],oo 82 (.bin .shr) [.t 81,(.c (.int .u64 3))],oo 83 (.bin .xor) [.t 76,.t 82],oo 10 .mv [.t 83]] [[],[],[1],[0,2],[3],[4],[],[],[7],[6,8],[9],[10,5],[5,11],[],[],[14],[13,15],[16],[17],[12,18],[19,11,0,1,2,3,4,5,6,7,8,9,10,11,12,13,14,15,16,17,18,19]])
 (.seq (.reg true [oo 84 .mv [.t 7],oo 85 .mv [.t 9],oo 86 (.bin .sub) [.t 85,ki 2],oo 87 (.iad 1) [.t 84,.t 86],oo 88 (.ld false 1) [.t 87],oo 89 .call [.f nref01_turn,.t 88,(.c (.int .u64 17))],oo 90 .mv [.t 7],oo 91 .mv [.t 9],oo 92 (.bin .sub) [.t 91,ki 2],oo 93 (.iad 1) [.t 90,.t 92],oo 94 (.ld false 1) [.t 93],oo 95 .call [.f nref01_turn,.t 94,(.c (.int .u64 19))],oo 96 (.bin .xor) [.t 89,.t 95],oo 97 .mv [.t 7],oo 98 .mv [.t 9],oo 99 (.bin .sub) [.t 98,ki 2],oo 100 (.iad 1) [.t 97,.t 99],oo 101 (.ld false 1) [.t 100],oo 102 (.bin .shr) [.t 101,(.c (.int .u64 10))],oo 103 (.bin .xor) [.t 96,.t 102],oo 11 .mv [.t 103]] [[],[],[1],[0,2],[3],[4],[],[],[7],[6,8],[9],[10,5],[5,11],[],[],[14],[13,15],[16],[17],[12,18],[19,11,0,1,2,3,4,5,6,7,8,9,10,11,12,13,14,15,16,17,18,19]])
 (.reg true [oo 104 .mv [.t 7],oo 105 .mv [.t 9],oo 106 .mv [.t 7],oo 107 .mv [.t 9],oo 108 (.bin .sub) [.t 107,ki 16],oo 109 (.iad 1) [.t 106,.t 108],oo 110 (.ld false 1) [.t 109],oo 111 .mv [.t 10],oo 112 (.bin .add) [.t 110,.t 111],oo 113 .mv [.t 7],oo 114 .mv [.t 9],oo 115 (.bin .sub) [.t 114,ki 7],oo 116 (.iad 1) [.t 113,.t 115],oo 117 (.ld false 1) [.t 116],oo 118 (.bin .add) [.t 112,.t 117],oo 119 .mv [.t 11],oo 120 (.bin .add) [.t 118,.t 119],oo 121 (.iad 1) [.t 104,.t 105],ou (.st 1) [.t 121,.t 120]] [[],[],[],[],[3],[2,4],[5],[],[6,7],[],[],[10],[9,11],[12],[8,13],[],[14,15],[0,1,0,1,2,3,4,5,6,7,8,9,10,11,12,13,14,15,16],[17,16,0,1,2,3,4,5,6,7,8,9,10,11,12,13,14,15,16]]))))
 (.reg false [oo 62 .mv [.t 9],oo 63 (.bin .add) [.t 62,ki 1],oo 9 .mv [.t 63]] []))))))
 (.seq (.reg false [oo 122 .mv [.t 0],oo 123 (.app 1 4) [kn,.t 122],oo 12 .mv [.t 123]] [])
 (.seq (.seq
 (.reg false [oo 13 .mv [ki 0]] [])
 (.block 4 (.loop
 (.seq (.seq
 (.reg false [oo 124 .mv [.t 13],oo 125 (.bin .lss) [.t 124,ki 64]] [])
 (.cond (.t 125)
 .skip
 (.exit 4)))
 (.seq (.block 5 (.seq (.reg true [oo 128 .mv [.t 12],oo 129 (.iad 1) [.t 128,ki 4],oo 130 (.ld false 1) [.t 129],oo 131 .call [.f nref01_turn,.t 130,(.c (.int .u64 6))],oo 132 .mv [.t 12],oo 133 (.iad 1) [.t 132,ki 4],oo 134 (.ld false 1) [.t 133],oo 135 .call [.f nref01_turn,.t 134,(.c (.int .u64 11))],oo 136 (.bin .xor) [.t 131,.t 135],oo 137 .mv [.t 12],oo 138 (.iad 1) [.t 137,ki 4],oo 139 (.ld false 1) [.t 138],oo 140 .call [.f nref01_turn,.t 139,(.c (.int .u64 25))],oo 141 (.bin .xor) [.t 136,.t 140],oo 14 .mv [.t 141]] [[],[0],[1],[2],[],[4],[5],[6,3],[3,7],[],[9],[10],[11,7],[8,12],[13,12,0,1,2,3,4,5,6,7,8,9,10,11,12,13]])
 (.seq (.reg true [oo 142 .mv [.t 12],oo 143 (.iad 1) [.t 142,ki 4],oo 144 (.ld false 1) [.t 143],oo 145 .mv [.t 12],oo 146 (.iad 1) [.t 145,ki 5],oo 147 (.ld false 1) [.t 146],oo 148 (.bin .and) [.t 144,.t 147],oo 149 .mv [.t 12],oo 150 (.iad 1) [.t 149,ki 4],oo 151 (.ld false 1) [.t 150],oo 152 (.un .xor) [.t 151],oo 153 .mv [.t 12],oo 154 (.iad 1) [.t 153,ki 6],oo 155 (.ld false 1) [.t 154],oo 156 (.bin .and) [.t 152,.t 155],oo 157 (.bin .xor) [.t 148,.t 156],oo 15 .mv [.t 157]] [[],[0],[1],[],[3],[4],[2,5],[],[7],[8],[9],[],[11],[12],[10,13],[6,14],[15,0,1,2,3,4,5,6,7,8,9,10,11,12,13,14,15]])
 (.seq (.reg true [oo 158 .mv [.t 12],oo 159 (.iad 1) [.t 158,ki 7],oo 160 (.ld false 1) [.t 159],oo 161 .mv [.t 14],oo 162 (.bin .add) [.t 160,.t 161],oo 163 .mv [.t 15],oo 164 (.bin .add) [.t 162,.t 163],oo 165 .mv [.t 2],oo 166 .mv [.t 13],oo 167 (.iad 1) [.t 165,.t 166],oo 168 (.ld false 1) [.t 167],oo 169 (.bin .add) [.t 164,.t 168],oo 170 .mv [.t 7],oo 171 .mv [.t 13],oo 172 (.iad 1) [.t 170,.t 171],oo 173 (.ld false 1) [.t 172],oo 174 (.bin .add) [.t 169,.t 173],oo 16 .mv [.t 174]] [[],[0],[1],[],[2,3],[],[4,5],[],[],[7,8],[9],[6,10],[],[],[12,13],[14],[11,15],[16,0,1,2,3,4,5,6,7,8,9,10,11,12,13,14,15,16]])
 (.seq (.reg true [oo 175 .mv [.t 12],oo 176 (.iad 1) [.t 175,ki 0],oo 177 (.ld false 1) [.t 176],oo 178 .call [.f nref01_turn,.t 177,(.c (.int .u64 2))],oo 179 .mv [.t 12],oo 180 (.iad 1) [.t 179,ki 0],oo 181 (.ld false 1) [.t 180],oo 182 .call [.f nref01_turn,.t 181,(.c (.int .u64 13))],oo 183 (.bin .xor) [.t 178,.t 182],oo 184 .mv [.t 12],oo 185 (.iad 1) [.t 184,ki 0],oo 186 (.ld false 1) [.t 185],oo 187 .call [.f nref01_turn,.t 186,(.c (.int .u64 22))],oo 188 (.bin .xor) [.t 183,.t 187],oo 14 .mv [.t 188]] [[],[0],[1],[2],[],[4],[5],[6,3],[3,7],[],[9],[10],[11,7],[8,12],[13,12,0,1,2,3,4,5,6,7,8,9,10,11,12,13]])
 (.seq (.reg true [oo 189 .mv [.t 12],oo 190 (.iad 1) [.t 189,ki 0],oo 191 (.ld false 1) [.t 190],oo 192 .mv [.t 12],oo 193 (.iad 1) [.t 192,ki 1],oo 194 (.ld false 1) [.t 193],oo 195 (.bin .and) [.t 191,.t 194],oo 196 .mv [.t 12],oo 197 (.iad 1) [.t 196,ki 0],oo 198 (.ld false 1) [.t 197],oo 199 .mv [.t 12],oo 200 (.iad 1) [.t 199,ki 2],oo 201 (.ld false 1) [.t 200],oo 202 (.bin .and) [.t 198,.t 201],oo 203 (.bin .xor) [.t 195,.t 202],oo 204 .mv [.t 12],oo 205 (.iad 1) [.t 204,ki 1],oo 206 (.ld false 1) [.t 205],oo 207 .mv [.t 12],oo 208 (.iad 1) [.t 207,ki 2],oo 209 (.ld false 1) [.t 208],oo 210 (.bin .and) [.t 206,.t 209],oo 211 (.bin .xor) [.t 203,.t 210],oo 17 .mv [.t 211]] [[],[0],[1],[],[3],[4],[2,5],[],[7],[8],[],[10],[11],[9,12],[6,13],[],[15],[16],[],[18],[19],[17,20],[14,21],[22,0,1,2,3,4,5,6,7,8,9,10,11,12,13,14,15,16,17,18,19,20,21,22]])
 (.reg true [oo 212 .mv [.t 16],oo 213 .mv [.t 14],oo 214 (.bin .add) [.t 212,.t 213],oo 215 .mv [.t 17],oo 216 (.bin .add) [.t 214,.t 215],oo 217 .mv [.t 12],oo 218 (.iad 1) [.t 217,ki 0],oo 219 (.ld false 1) [.t 218],oo 220 .mv [.t 12],oo 221 (.iad 1) [.t 220,ki 1],oo 222 (.ld false 1) [.t 221],oo 223 .mv [.t 12],oo 224 (.iad 1) [.t 223,ki 2],oo 225 (.ld false 1) [.t 224],oo 226 .mv [.t 12],oo 227 (.iad 1) [.t 226,ki 3],oo 228 (.ld false 1) [.t 227],oo 229 .mv [.t 16],oo 230 (.bin .add) [.t 228,.t 229],oo 231 .mv [.t 12],oo 232 (.iad 1) [.t 231,ki 4],oo 233 (.ld false 1) [.t 232],oo 234 .mv [.t 12],oo 235 (.iad 1) [.t 234,ki 5],oo 236 (.ld false 1) [.t 235],oo 237 .mv [.t 12],oo 238 (.iad 1) [.t 237,ki 6],oo 239 (.ld false 1) [.t 238],oo 240 (.bsl 1 8 [(.int .u32 0)] [0,1,2,3,4,5,6,7]) [.t 216,.t 219,.t 222,.t 225,.t 230,.t 233,.t 236,.t 239],oo 12 .mv [.t 240]] [[],[],[0,1],[],[2,3],[],[5],[6],[],[8],[9],[],[11],[12],[],[14],[15],[],[16,17],[],[19],[20],[],[22],[23],[],[25],[26],[4,7,10,13,18,21,24,27],[28,0,1,2,3,4,5,6,7,8,9,10,11,12,13,14,15,16,17,18,19,20,21,22,23,24,25,26,27,28]])))))))
 (.reg false [oo 126 .mv [.t 13],oo 127 (.bin .add) [.t 126,ki 1],oo 13 .mv [.t 127]] []))))))
 (.seq (.seq
 (.reg false [oo 18 .mv [ki 0]] [])
 (.block 6 (.loop
 (.seq (.seq
 (.reg false [oo 241 .mv [.t 18],oo 242 (.bin .lss) [.t 241,ki 8]] [])
 (.cond (.t 242)
 .skip
 (.exit 6)))
 (.seq (.block 7 (.reg true [oo 245 .mv [.t 12],oo 246 .mv [.t 18],oo 247 (.iad 1) [.t 245,.t 246],oo 248 (.ld false 1) [.t 247],oo 249 .mv [.t 0],oo 250 .mv [.t 18],oo 251 (.iad 1) [.t 249,.t 250],oo 252 (.ld false 1) [.t 251],oo 253 (.bin .add) [.t 248,.t 252],oo 254 (.iad 1) [.t 245,.t 246],ou (.st 1) [.t 254,.t 253]] [[],[],[0,1],[2],[],[],[4,5],[6],[3,7],[0,1,0,1,2,3,4,5,6,7,8],[9,8,0,1,2,3,4,5,6,7,8]]))
 (.reg false [oo 243 .mv [.t 18],oo 244 (.bin .add) [.t 243,ki 1],oo 18 .mv [.t 244]] []))))))
 (.seq (.reg false [oo 255 .mv [.t 12],oo 6 .mv [.t 255]] [])
 .ret))))))))⟩
def cref02_Text : AFun := ⟨11,[(4,none)],
 (.seq (.reg false [oo 4 .mv [kn]] [])
 (.seq (.reg false [oo 5 .mv [.t 0],oo 6 .mv [.t 1],oo 7 .lens [.t 6],oo 8 .call [.f nref02_Int,.t 5,.t 7],oo 9 .mv [.t 1],oo 10 .apps [.t 8,.t 9],oo 4 .mv [.t 10]] [])
 .ret))⟩
def cref02_Int : AFun := ⟨23,[(4,none)],
 (.seq (.reg false [oo 4 .mv [kn]] [])
 (.seq (.reg false [oo 7 .mv [.t 0],oo 8 (.app 1 1) [kn,.t 7],oo 5 .mv [.t 8]] [])
 (.seq (.seq
 (.reg false [oo 6 .mv [ki 7]] [])
 (.block 0 (.loop
 (.seq (.seq
 (.reg false [oo 9 .mv [.t 6],oo 10 (.bin .geq) [.t 9,ki 0]] [])
 (.cond (.t 10)
 .skip
 (.exit 0)))
 (.seq (.block 1 (.reg false [oo 13 .mv [.t 5],oo 14 .mv [.t 1],oo 15 .mv [.t 6],oo 16 (.bin .mul) [ki 8,.t 15],oo 17 (.cvt .u64) [.t 16],oo 18 (.bin .shr) [.t 14,.t 17],oo 19 (.cvt .u8) [.t 18],oo 20 (.bsl 1 1 [(.int .u8 0)] [0]) [.t 19],oo 21 (.app 1 1) [.t 13,.t 20],oo 5 .mv [.t 21]] []))
 (.reg false [oo 11 .mv [.t 6],oo 12 (.bin .sub) [.t 11,ki 1],oo 6 .mv [.t 12]] []))))))
 (.seq (.reg false [oo 22 .mv [.t 5],oo 4 .mv [.t 22]] [])
 .ret))))⟩
def cref02_Ints : AFun := ⟨24,[(4,none)],
 (.seq (.reg false [oo 4 .mv [kn]] [])
 (.seq (.reg false [oo 7 .mv [.t 0],oo 8 .mv [.t 1],oo 9 .len [.t 8],oo 10 .call [.f nref02_Int,.t 7,.t 9],oo 5 .mv [.t 10]] [])
 (.seq (.seq
 (.reg false [oo 6 .mv [ki 0]] [])
 (.block 0 (.loop
 (.seq (.seq
 (.reg false [oo 11 .mv [.t 6],oo 12 .mv [.t 1],oo 13 .len [.t 12],oo 14 (.bin .lss) [.t 11,.t 13]] [])
 (.cond (.t 14)
 .skip
 (.exit 0)))
 (.seq (.block 1 (.reg false [oo 17 .mv [.t 5],oo 18 .mv [.t 1],oo 19 .mv [.t 6],oo 20 (.iad 1) [.t 18,.t 19],oo 21 (.ld false 1) [.t 20],oo 22 .call [.f nref02_Int,.t 17,.t 21],oo 5 .mv [.t 22]] []))
 (.reg false [oo 15 .mv [.t 6],oo 16 (.bin .add) [.t 15,ki 1],oo 6 .mv [.t 16]] []))))))
 (.seq (.reg false [oo 23 .mv [.t 5],oo 4 .mv [.t 23]] [])
 .ret))))⟩
def cslices_insertionSortCmpFunc_api_Vouch : AFun := ⟨53,[],
 (.seq (.reg false [oo 10 .mv [.t 1],oo 11 (.bin .add) [.t 10,ki 1],oo 8 .mv [.t 11]] [])
 (.block 0 (.loop
 (.seq (.seq
 (.reg false [oo 12 .mv [.t 8],oo 13 .mv [.t 2],oo 14 (.bin .lss) [.t 12,.t 13]] [])
 (.cond (.t 14)
 .skip
 (.exit 0)))
 (.seq (.block 1 (.seq (.reg false [oo 17 .mv [.t 8],oo 9 .mv [.t 17]] [])
 (.block 2 (.loop
 (.seq (.seq
 (.reg true [oo 18 .mv [.t 9],oo 19 .mv [.t 1],oo 20 (.bin .gtr) [.t 18,.t 19],oo 21 .mv [.t 20],og 22 .mv [.t 3] 21,og 23 .mv [.t 0] 21,og 24 .mv [.t 9] 21,og 25 (.iad 7) [.t 23,.t 24] 21,og 26 (.ld true 7) [.t 25] 21,og 27 .mv [.t 0] 21,og 28 .mv [.t 9] 21,og 29 (.bin .sub) [.t 28,ki 1] 21,og 30 (.iad 7) [.t 27,.t 29] 21,og 31 (.ld true 7) [.t 30] 21,og 32 .call [.t 22,.t 26,.t 31] 21,og 33 (.bin .lss) [.t 32,ki 0] 21,oo 34 .pick [.t 21,.t 33,.c (.bool false)]] [[],[],[0,1],[2],[3],[3],[3],[5,6,3],[7,3],[3],[3],[10,3],[9,11,3],[12,3],[4,8,13,3,3],[14,3],[3,15]])
 (.cond (.t 34)
 .skip
 (.exit 2)))
 (.seq (.block 3 (.reg true [oo 37 .mv [.t 0],oo 38 .mv [.t 9],oo 39 .mv [.t 0],oo 40 .mv [.t 9],oo 41 (.bin .sub) [.t 40,ki 1],oo 42 .mv [.t 0],oo 43 .mv [.t 9],oo 44 (.bin .sub) [.t 43,ki 1],oo 45 (.iad 7) [.t 42,.t 44],oo 46 (.ld true 7) [.t 45],oo 47 .mv [.t 0],oo 48 .mv [.t 9],oo 49 (.iad 7) [.t 47,.t 48],oo 50 (.ld true 7) [.t 49],oo 51 (.iad 7) [.t 37,.t 38],ou (.st 7) [.t 51,.t 46],oo 52 (.iad 7) [.t 39,.t 41],ou (.st 7) [.t 52,.t 50]] [[],[],[],[],[3],[],[],[6],[5,7],[8],[],[],[10,11],[12],[0,1,0,1,5,6,7,8,9,13],[14,9,0,1,5,6,7,8,9,13],[2,4,0,1,2,3,4,5,6,7,8,9,10,11,12,13,14,15],[16,13,15,0,1,2,3,4,5,6,7,8,9,10,11,12,13,14,15]]))
 (.reg false [oo 35 .mv [.t 9],oo 36 (.bin .sub) [.t 35,ki 1],oo 9 .mv [.t 36]] [])))))))
 (.reg false [oo 15 .mv [.t 8],oo 16 (.bin .add) [.t 15,ki 1],oo 8 .mv [.t 16]] []))))))⟩
def cslices_symMergeCmpFunc_api_Vouch : AFun := ⟨220,[],
 (.seq (.seq
 (.reg false [oo 25 .mv [.t 2],oo 26 .mv [.t 1],oo 27 (.bin .sub) [.t 25,.t 26],oo 28 (.bin .eql) [.t 27,ki 1]] [])
 (.cond (.t 28)
 (.seq (.reg false [
 oo 29 .mv [.t 2],
 oo 10 .mv [.t 29]] [])
 (.seq (.reg false [
 oo 30 .mv [.t 3],
 oo 11 .mv [.t 30]] [])
 (.seq (.block 0 (.loop
 (.seq (.seq
 (.reg false [
 oo 31 .mv [.t 10],
 oo 32 .mv [.t 11],
 oo 33 (.bin .lss) [.t 31,.t 32]] [])
 (.cond (.t 33)
 .skip
 (.exit 0)))
 (.block 1 (.seq (.reg false [
 oo 34 .mv [.t 10],
 oo 35 .mv [.t 11],
 oo 36 (.bin .add) [.t 34,.t 35],
 oo 37 (.cvt .u64) [.t 36],
 oo 38 (.bin .shr) [.t 37,(.c (.int .u64 1))],
 oo 39 (.cvt .i64) [.t 38],
 oo 12 .mv [.t 39]] [])
 (.seq (.reg true [
 oo 40 .mv [.t 4],
 oo 41 .mv [.t 0],
 oo 42 .mv [.t 12],
 oo 43 (.iad 7) [.t 41,.t 42],
 oo 44 (.ld true 7) [.t 43],
 oo 45 .mv [.t 0],
 oo 46 .mv [.t 1],
 oo 47 (.iad 7) [.t 45,.t 46],
 oo 48 (.ld true 7) [.t 47],
 oo 49 .call [.t 40,.t 44,.t 48],
 oo 50 (.bin .lss) [.t 49,ki 0]] [[],[],[],[1,2],[3],[],[],[5,6],[7],[0,4,8],[9]])
 (.cond (.t 50)
 (.reg false [
 oo 51 .mv [.t 12],
 oo 52 (.bin .add) [.t 51,ki 1],
 oo 10 .mv [.t 52]] [])
 (.reg false [
 oo 53 .mv [.t 12],
 oo 11 .mv [.t 53]] []))))))))
 (.seq (.seq
 (.reg false [
 oo 54 .mv [.t 1],
 oo 13 .mv [.t 54]] [])
 (.block 2 (.loop
 (.seq (.seq
 (.reg false [
 oo 55 .mv [.t 13],
 oo 56 .mv [.t 10],
 oo 57 (.bin .sub) [.t 56,ki 1],
 oo 58 (.bin .lss) [.t 55,.t 57]] [])
 (.cond (.t 58)
 .skip
 (.exit 2)))
 (.seq (.block 3 (.reg true [
 oo 61 .mv [.t 0],
 oo 62 .mv [.t 13],
 oo 63 .mv [.t 0],
 oo 64 .mv [.t 13],
 oo 65 (.bin .add) [.t 64,ki 1],
 oo 66 .mv [.t 0],
 oo 67 .mv [.t 13],
 oo 68 (.bin .add) [.t 67,ki 1],
 oo 69 (.iad 7) [.t 66,.t 68],
 oo 70 (.ld true 7) [.t 69],
 oo 71 .mv [.t 0],
 oo 72 .mv [.t 13],
 oo 73 (.iad 7) [.t 71,.t 72],
 oo 74 (.ld true 7) [.t 73],
 oo 75 (.iad 7) [.t 61,.t 62],
 ou (.st 7) [.t 75,.t 70],
 oo 76 (.iad 7) [.t 63,.t 65],
 ou (.st 7) [.t 76,.t 74]] [[],[],[],[],[3],[],[],[6],[5,7],[8],[],[],[10,11],[12],[0,1,0,1,5,6,7,8,9,13],[14,9,0,1,5,6,7,8,9,13],[2,4,0,1,2,3,4,5,6,7,8,9,10,11,12,13,14,15],[16,13,15,0,1,2,3,4,5,6,7,8,9,10,11,12,13,14,15]]))
 (.reg false [
 oo 59 .mv [.t 13],
 oo 60 (.bin .add) [.t 59,ki 1],
 oo 13 .mv [.t 60]] []))))))
 .ret))))
 .skip))
 (.seq (.seq
 (.reg false [oo 77 .mv [.t 3],oo 78 .mv [.t 2],oo 79 (.bin .sub) [.t 77,.t 78],oo 80 (.bin .eql) [.t 79,ki 1]] [])
 (.cond (.t 80)
 (.seq (.reg false [
 oo 81 .mv [.t 1],
 oo 14 .mv [.t 81]] [])
 (.seq (.reg false [
 oo 82 .mv [.t 2],
 oo 15 .mv [.t 82]] [])
 (.seq (.block 4 (.loop
 (.seq (.seq
 (.reg false [
 oo 83 .mv [.t 14],
 oo 84 .mv [.t 15],
 oo 85 (.bin .lss) [.t 83,.t 84]] [])
 (.cond (.t 85)
 .skip
 (.exit 4)))
 (.block 5 (.seq (.reg false [
 oo 86 .mv [.t 14],
 oo 87 .mv [.t 15],
 oo 88 (.bin .add) [.t 86,.t 87],
 oo 89 (.cvt .u64) [.t 88],
 oo 90 (.bin .shr) [.t 89,(.c (.int .u64 1))],
 oo 91 (.cvt .i64) [.t 90],
 oo 16 .mv [.t 91]] [])
 (.seq (.reg true [
 oo 92 .mv [.t 4],
 oo 93 .mv [.t 0],
 oo 94 .mv [.t 2],
 oo 95 (.iad 7) [.t 93,.t 94],
 oo 96 (.ld true 7) [.t 95],
 oo 97 .mv [.t 0],
 oo 98 .mv [.t 16],
 oo 99 (.iad 7) [.t 97,.t 98],
 oo 100 (.ld true 7) [.t 99],
 oo 101 .call [.t 92,.t 96,.t 100],
 oo 102 (.bin .lss) [.t 101,ki 0],
 oo 103 (.un .not) [.t 102]] [[],[],[],[1,2],[3],[],[],[5,6],[7],[0,4,8],[9],[10]])
 (.cond (.t 103)
 (.reg false [
 oo 104 .mv [.t 16],
 oo 105 (.bin .add) [.t 104,ki 1],
 oo 14 .mv [.t 105]] [])
 (.reg false [
 oo 106 .mv [.t 16],
 oo 15 .mv [.t 106]] []))))))))
 (.seq (.seq
 (.reg false [
 oo 107 .mv [.t 2],
 oo 17 .mv [.t 107]] [])
 (.block 6 (.loop
 (.seq (.seq
 (.reg false [
 oo 108 .mv [.t 17],
 oo 109 .mv [.t 14],
 oo 110 (.bin .gtr) [.t 108,.t 109]] [])
 (.cond (.t 110)
 .skip
 (.exit 6)))
 (.seq (.block 7 (.reg true [
 oo 113 .mv [.t 0],
 oo 114 .mv [.t 17],
 oo 115 .mv [.t 0],
 oo 116 .mv [.t 17],
 oo 117 (.bin .sub) [.t 116,ki 1],
 oo 118 .mv [.t 0],
 oo 119 .mv [.t 17],
 oo 120 (.bin .sub) [.t 119,ki 1],
 oo 121 (.iad 7) [.t 118,.t 120],
 oo 122 (.ld true 7) [.t 121],
 oo 123 .mv [.t 0],
 oo 124 .mv [.t 17],
 oo 125 (.iad 7) [.t 123,.t 124],
 oo 126 (.ld true 7) [.t 125],
 oo 127 (.iad 7) [.t 113,.t 114],
 ou (.st 7) [.t 127,.t 122],
 oo 128 (.iad 7) [.t 115,.t 117],
 ou (.st 7) [.t 128,.t 126]] [[],[],[],[],[3],[],[],[6],[5,7],[8],[],[],[10,11],[12],[0,1,0,1,5,6,7,8,9,13],[14,9,0,1,5,6,7,8,9,13],[2,4,0,1,2,3,4,5,6,7,8,9,10,11,12,13,14,15],[16,13,15,0,1,2,3,4,5,6,7,8,9,10,11,12,13,14,15]]))
 (.reg false [
 oo 111 .mv [.t 17],
 oo 112 (.bin .sub) [.t 111,ki 1],
 oo 17 .mv [.t 112]] []))))))
 .ret))))
 .skip))
 (.seq (.reg false [oo 129 .mv [.t 1],oo 130 .mv [.t 3],oo 131 (.bin .add) [.t 129,.t 130],oo 132 (.cvt .u64) [.t 131],oo 133 (.bin .shr) [.t 132,(.c (.int .u64 1))],oo 134 (.cvt .i64) [.t 133],oo 18 .mv [.t 134]] [])
 (.seq (.reg false [oo 135 .mv [.t 18],oo 136 .mv [.t 2],oo 137 (.bin .add) [.t 135,.t 136],oo 19 .mv [.t 137]] [])
 (.seq (.reg false [oo 20 .mv [ki 0],oo 21 .mv [ki 0]] [])
 (.seq (.seq
 (.reg false [oo 138 .mv [.t 2],oo 139 .mv [.t 18],oo 140 (.bin .gtr) [.t 138,.t 139]] [])
 (.cond (.t 140)
 (.seq (.reg false [
 oo 141 .mv [.t 19],
 oo 142 .mv [.t 3],
 oo 143 (.bin .sub) [.t 141,.t 142],
 oo 20 .mv [.t 143]] [])
 (.reg false [
 oo 144 .mv [.t 18],
 oo 21 .mv [.t 144]] []))
 (.seq (.reg false [
 oo 145 .mv [.t 1],
 oo 20 .mv [.t 145]] [])
 (.reg false [
 oo 146 .mv [.t 2],
 oo 21 .mv [.t 146]] []))))
 (.seq (.reg false [oo 147 .mv [.t 19],oo 148 (.bin .sub) [.t 147,ki 1],oo 22 .mv [.t 148]] [])
 (.seq (.block 8 (.loop
 (.seq (.seq
 (.reg false [oo 149 .mv [.t 20],oo 150 .mv [.t 21],oo 151 (.bin .lss) [.t 149,.t 150]] [])
 (.cond (.t 151)
 .skip
 (.exit 8)))
 (.block 9 (.seq (.reg false [oo 152 .mv [.t 20],oo 153 .mv [.t 21],oo 154 (.bin .add) [.t 152,.t 153],oo 155 (.cvt .u64) [.t 154],oo 156 (.bin .shr) [.t 155,(.c (.int .u64 1))],oo 157 (.cvt .i64) [.t 156],oo 23 .mv [.t 157]] [])
 (.seq (.reg true [oo 158 .mv [.t 4],oo 159 .mv [.t 0],oo 160 .mv [.t 22],oo 161 .mv [.t 23],oo 162 (.bin .sub) [.t 160,.t 161],oo 163 (.iad 7) [.t 159,.t 162],oo 164 (.ld true 7) [.t 163],oo 165 .mv [.t 0],oo 166 .mv [.t 23],oo 167 (.iad 7) [.t 165,.t 166],oo 168 (.ld true 7) [.t 167],oo 169 .call [.t 158,.t 164,.t 168],oo 170 (.bin .lss) [.t 169,ki 0],oo 171 (.un .not) [.t 170]] [[],[],[],[],[2,3],[1,4],[5],[],[],[7,8],[9],[0,6,10],[11],[12]])
 (.cond (.t 171)
 (.reg false [
 oo 172 .mv [.t 23],
 oo 173 (.bin .add) [.t 172,ki 1],
 oo 20 .mv [.t 173]] [])
 (.reg false [
 oo 174 .mv [.t 23],
 oo 21 .mv [.t 174]] []))))))))
 (.seq (.reg false [oo 175 .mv [.t 19],oo 176 .mv [.t 20],oo 177 (.bin .sub) [.t 175,.t 176],oo 24 .mv [.t 177]] [])
 (.seq (.seq
 (.reg false [oo 178 .mv [.t 20],oo 179 .mv [.t 2],oo 180 (.bin .lss) [.t 178,.t 179],oo 181 .mv [.t 180],og 182 .mv [.t 2] 181,og 183 .mv [.t 24] 181,og 184 (.bin .lss) [.t 182,.t 183] 181,oo 185 .pick [.t 181,.t 184,.c (.bool false)]] [])
 (.cond (.t 185)
 (.reg false [
 oo 186 .mv [.t 0],
 oo 187 .mv [.t 20],
 oo 188 .mv [.t 2],
 oo 189 .mv [.t 24],
 oo 190 .mv [.t 4],
 oo 191 .call [.f nslices_rotateCmpFunc_api_Vouch,.t 186,.t 187,.t 188,.t 189,.t 190]] [])
 .skip))
 (.seq (.seq
 (.reg false [oo 192 .mv [.t 1],oo 193 .mv [.t 20],oo 194 (.bin .lss) [.t 192,.t 193],oo 195 .mv [.t 194],og 196 .mv [.t 20] 195,og 197 .mv [.t 18] 195,og 198 (.bin .lss) [.t 196,.t 197] 195,oo 199 .pick [.t 195,.t 198,.c (.bool false)]] [])
 (.cond (.t 199)
 (.reg false [
 oo 200 .mv [.t 0],
 oo 201 .mv [.t 1],
 oo 202 .mv [.t 20],
 oo 203 .mv [.t 18],
 oo 204 .mv [.t 4],
 oo 205 .call [.f nslices_symMergeCmpFunc_api_Vouch,.t 200,.t 201,.t 202,.t 203,.t 204]] [])
 .skip))
 (.seq (.reg false [oo 206 .mv [.t 18],oo 207 .mv [.t 24],oo 208 (.bin .lss) [.t 206,.t 207],oo 209 .mv [.t 208],og 210 .mv [.t 24] 209,og 211 .mv [.t 3] 209,og 212 (.bin .lss) [.t 210,.t 211] 209,oo 213 .pick [.t 209,.t 212,.c (.bool false)]] [])
 (.cond (.t 213)
 (.reg false [
 oo 214 .mv [.t 0],
 oo 215 .mv [.t 18],
 oo 216 .mv [.t 24],
 oo 217 .mv [.t 3],
 oo 218 .mv [.t 4],
 oo 219 .call [.f nslices_symMergeCmpFunc_api_Vouch,.t 214,.t 215,.t 216,.t 217,.t 218]] [])
 .skip)))))))))))))⟩
def cref01_turn : AFun := ⟨13,[(4,none)],
 (.seq (.reg false [oo 4 .mv [(.c (.int .u32 0))]] [])
 (.seq (.reg false [oo 5 .mv [.t 0],oo 6 .mv [.t 1],oo 7 (.bin .shr) [.t 5,.t 6],oo 8 .mv [.t 0],oo 9 .mv [.t 1],oo 10 (.bin .sub) [(.c (.int .u64 32)),.t 9],oo 11 (.bin .shl) [.t 8,.t 10],oo 12 (.bin .or) [.t 7,.t 11],oo 4 .mv [.t 12]] [])
 .ret))⟩
def cslices_rotateCmpFunc_api_Vouch : AFun := ⟨58,[],
 (.seq (.reg false [oo 12 .mv [.t 2],oo 13 .mv [.t 1],oo 14 (.bin .sub) [.t 12,.t 13],oo 10 .mv [.t 14]] [])
 (.seq (.reg false [oo 15 .mv [.t 3],oo 16 .mv [.t 2],oo 17 (.bin .sub) [.t 15,.t 16],oo 11 .mv [.t 17]] [])
 (.seq (.block 0 (.loop
 (.seq (.seq
 (.reg false [oo 18 .mv [.t 10],oo 19 .mv [.t 11],oo 20 (.bin .neq) [.t 18,.t 19]] [])
 (.cond (.t 20)
 .skip
 (.exit 0)))
 (.block 1 (.seq (.reg false [oo 21 .mv [.t 10],oo 22 .mv [.t 11],oo 23 (.bin .gtr) [.t 21,.t 22]] [])
 (.cond (.t 23)
 (.seq (.reg false [
 oo 24 .mv [.t 0],
 oo 25 .mv [.t 2],
 oo 26 .mv [.t 10],
 oo 27 (.bin .sub) [.t 25,.t 26],
 oo 28 .mv [.t 2],
 oo 29 .mv [.t 11],
 oo 30 .mv [.t 4],
 oo 31 .call [.f nslices_swapRangeCmpFunc_api_Vouch,.t 24,.t 27,.t 28,.t 29,.t 30]] [])
 (.reg false [
 oo 32 .mv [.t 10],
 oo 33 .mv [.t 11],
 oo 34 (.bin .sub) [.t 32,.t 33],
 oo 10 .mv [.t 34]] []))
 (.seq (.reg false [
 oo 35 .mv [.t 0],
 oo 36 .mv [.t 2],
 oo 37 .mv [.t 10],
 oo 38 (.bin .sub) [.t 36,.t 37],
 oo 39 .mv [.t 2],
 oo 40 .mv [.t 11],
 oo 41 (.bin .add) [.t 39,.t 40],
 oo 42 .mv [.t 10],
 oo 43 (.bin .sub) [.t 41,.t 42],
 oo 44 .mv [.t 10],
 oo 45 .mv [.t 4],
 oo 46 .call [.f nslices_swapRangeCmpFunc_api_Vouch,.t 35,.t 38,.t 43,.t 44,.t 45]] [])
 (.reg false [
 oo 47 .mv [.t 11],
 oo 48 .mv [.t 10],
 oo 49 (.bin .sub) [.t 47,.t 48],
 oo 11 .mv [.t 49]] []))))))))
 (.reg false [oo 50 .mv [.t 0],oo 51 .mv [.t 2],oo 52 .mv [.t 10],oo 53 (.bin .sub) [.t 51,.t 52],oo 54 .mv [.t 2],oo 55 .mv [.t 10],oo 56 .mv [.t 4],oo 57 .call [.f nslices_swapRangeCmpFunc_api_Vouch,.t 50,.t 53,.t 54,.t 55,.t 56]] []))))⟩
def cslices_swapRangeCmpFunc_api_Vouch : AFun := ⟨38,[],
 (.seq (.reg false [oo 10 .mv [ki 0]] [])
 (.block 0 (.loop
 (.seq (.seq
 (.reg false [oo 11 .mv [.t 10],oo 12 .mv [.t 3],oo 13 (.bin .lss) [.t 11,.t 12]] [])
 (.cond (.t 13)
 .skip
 (.exit 0)))
 (.seq (.block 1 (.reg true [oo 16 .mv [.t 0],oo 17 .mv [.t 1],oo 18 .mv [.t 10],oo 19 (.bin .add) [.t 17,.t 18],oo 20 .mv [.t 0],oo 21 .mv [.t 2],oo 22 .mv [.t 10],oo 23 (.bin .add) [.t 21,.t 22],oo 24 .mv [.t 0],oo 25 .mv [.t 2],oo 26 .mv [.t 10],oo 27 (.bin .add) [.t 25,.t 26],oo 28 (.iad 7) [.t 24,.t 27],oo 29 (.ld true 7) [.t 28],oo 30 .mv [.t 0],oo 31 .mv [.t 1],oo 32 .mv [.t 10],oo 33 (.bin .add) [.t 31,.t 32],oo 34 (.iad 7) [.t 30,.t 33],oo 35 (.ld true 7) [.t 34],oo 36 (.iad 7) [.t 16,.t 19],ou (.st 7) [.t 36,.t 29],oo 37 (.iad 7) [.t 20,.t 23],ou (.st 7) [.t 37,.t 35]] [[],[],[],[1,2],[],[],[],[5,6],[],[],[],[9,10],[8,11],[12],[],[],[],[15,16],[14,17],[18],[0,3,0,1,2,3,8,9,10,11,12,13,19],[20,13,0,1,2,3,8,9,10,11,12,13,19],[4,7,0,1,2,3,4,5,6,7,8,9,10,11,12,13,14,15,16,17,18,19,20,21],[22,19,21,0,1,2,3,4,5,6,7,8,9,10,11,12,13,14,15,16,17,18,19,20,21]]))
 (.reg false [oo 14 .mv [.t 10],oo 15 (.bin .add) [.t 14,ki 1],oo 10 .mv [.t 15]] []))))))⟩
end Go.Proofs.YtnlanlpbgcalcaaGreat
