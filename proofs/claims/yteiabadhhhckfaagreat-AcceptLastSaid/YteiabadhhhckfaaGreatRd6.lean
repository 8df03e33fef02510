/- Texts of this claim,merged. -/
import Derived.Test.YteiabadhhhckfaaGreatRd5
import Derived.Test.YteiabadhhhckfaaGreatProg
import Derived.KernelRfl
set_option linter.unusedSimpArgs false
set_option linter.unusedVariables false
set_option linter.unusedSectionVars false
namespace Go.Proofs.YteiabadhhhckfaaGreat
open Go
set_option maxRecDepth 100000
def znc : AFun:=⟨6,[(2,none)],
 (.seq (.reg false [oo 2 .mv [.c (.bool false)]] [])
 (.seq (.reg false [oo 3 .mv [.t 0],oo 4 .len [.t 3],oo 5 (.bin .leq) [.t 4,ki 400],oo 2 .mv [.t 5]] [])
 .ret))⟩
def zoR : AFun:=⟨6,[(2,none)],
 (.seq (.reg false [oo 2 .mv [(.c (.pointer none))]] [])
 (.seq (.reg false [oo 3 .mv [.t 0],oo 4 (.build [vn,v0] [(0,1)]) [.t 3],oo 5 (.box 2) [.t 4],oo 2 .mv [.t 5]] [])
 .ret))⟩
def zhQ : AFun:=⟨53,[(2,some (true,3))],
 (.seq (.reg false [oo 2 (.alloc [v0,vn,vn]) []] [])
 (.seq (.reg false [oo 7 .mv [.t 0],oo 8 .call [.f zax,.t 7,ki 8],oo 9 (.bin .add) [ki 2,.t 8],oo 10 (.build [v0,vn,vn] [(0,1)]) [.t 9],oo 3 (.alloc [v0,vn,vn]) [],ou (.st 3) [.t 3,.t 10]] [])
 (.seq (.seq
 (.reg false [oo 11 .mv [.t 0],oo 12 .nil [.t 11],oo 13 (.fad 0) [.t 12],oo 14 (.ld false 1) [.t 13],oo 15 .len [.t 14],oo 16 (.bin .eql) [.t 15,ki 0]] [])
 (.cond (.t 16)
 (.reg false [
 oo 17 (.fad 0) [.t 3],
 ou (.st 1) [.t 17,ki 4]] [])
 .skip))
 (.seq (.seq
 (.reg false [oo 18 .mv [.t 0],oo 19 .call [.f zb7,.t 18,ki 8]] [])
 (.cond (.t 19)
 (.reg false [
 oo 20 .mv [.t 0],
 oo 21 (.fad 0) [.t 3],
 oo 22 (.ld false 1) [.t 21],
 oo 23 .call [.f zax,.t 20,.t 22],
 oo 24 (.bsl 1 1 [v0] [0]) [.t 23],
 oo 25 (.fad 2) [.t 3],
 ou (.st 1) [.t 25,.t 24]] [])
 .skip))
 (.seq (.seq
 (.reg false [oo 26 .mv [.t 0],oo 27 .call [.f zax,.t 26,ki 23],oo 4 .mv [.t 27]] [])
 (.block 0 (.loop
 (.seq (.seq
 (.reg false [oo 28 .mv [.t 4],oo 29 (.bin .gtr) [.t 28,ki 0]] [])
 (.cond (.t 29)
 .skip
 (.exit 0)))
 (.seq (.block 1 (.seq (.reg true [oo 33 (.ld true 3) [.t 3],oo 34 .mv [.t 0],oo 35 (.fad 0) [.t 3],oo 36 (.ld false 1) [.t 35],oo 37 .call [.f zax,.t 34,.t 36],oo 38 .mv [.t 0],oo 39 (.fad 0) [.t 3],oo 40 (.ld false 1) [.t 39],oo 41 .call [.f zax,.t 38,.t 40],oo 42 .mv [.t 0],oo 43 .call [.f zax,.t 42,ki 3],oo 44 (.bin .add) [ki 1,.t 43],oo 45 (.build [v0,v0,v0] [(0,1),(1,1),(2,1)]) [.t 37,.t 41,.t 44],oo 46 .call [.f zex,.t 33,.t 45],oo 32 .mv [.t 46],oo 47 (.ext 0) [.t 32],oo 48 (.ext 1) [.t 32],oo 5 (.alloc [v0,vn,vn]) [],ou (.st 3) [.t 5,.t 47],oo 6 .mv [.t 48]] [[],[],[],[2],[1,3],[],[],[6],[5,7,4],[],[9,8],[10],[4,8,11],[0,12,10],[13],[14],[14],[],[17,15,13,0,1,2,3,4,5,6,7,8,9,10,11,12,13,14,15,17],[16,18,0,1,2,3,4,5,6,7,8,9,10,11,12,13,14,15,16,17,18]])
 (.seq (.reg false [oo 49 .mv [.t 6],oo 50 (.bin .eql) [.t 49,ki 0]] [])
 (.cond (.t 50)
 (.reg false [
 oo 51 (.ld true 3) [.t 5],
 ou (.st 3) [.t 3,.t 51]] [])
 .skip))))
 (.reg false [oo 30 .mv [.t 4],oo 31 (.bin .sub) [.t 30,ki 1],oo 4 .mv [.t 31]] []))))))
 (.seq (.reg false [oo 52 (.ld true 3) [.t 3],ou (.st 3) [.t 2,.t 52]] [])
 .ret))))))⟩
def ziw : AFun:=⟨20,[(4,none)],
 (.seq (.reg false [oo 4 .mv [kn]] [])
 (.seq (.reg false [oo 5 .mv [kn]] [])
 (.seq (.seq
 (.reg false [oo 6 .mv [ki 0]] [])
 (.block 0 (.loop
 (.seq (.seq
 (.reg false [oo 7 .mv [.t 6],oo 8 .mv [.t 1],oo 9 (.bin .lss) [.t 7,.t 8]] [])
 (.cond (.t 9)
 .skip
 (.exit 0)))
 (.seq (.block 1 (.seq (.reg false [oo 12 .mv [.t 0],oo 13 .call [.f zax,.t 12,ki 3],oo 14 (.bin .eql) [.t 13,ki 0]] [])
 (.cond (.t 14)
 (.reg false [
 oo 15 .mv [.t 5],
 oo 16 .mv [.t 6],
 oo 17 (.bsl 1 1 [v0] [0]) [.t 16],
 oo 18 (.app 1 8) [.t 15,.t 17],
 oo 5 .mv [.t 18]] [])
 .skip)))
 (.reg false [oo 10 .mv [.t 6],oo 11 (.bin .add) [.t 10,ki 1],oo 6 .mv [.t 11]] []))))))
 (.seq (.reg false [oo 19 .mv [.t 5],oo 4 .mv [.t 19]] [])
 .ret))))⟩
def zne : AFun:=⟨12,[(2,some (true,3))],
 (.seq (.reg false [oo 1 (.box 3) [.t 0],oo 2 (.alloc [v0,vn,vn]) []] [])
 (.seq (.reg true [oo 3 (.fad 0) [.t 1],oo 4 (.ld false 1) [.t 3],oo 5 (.fad 1) [.t 1],oo 6 (.ld false 1) [.t 5],oo 7 (.app 3 24) [kn,.t 6],oo 8 (.fad 2) [.t 1],oo 9 (.ld false 1) [.t 8],oo 10 (.app 1 8) [kn,.t 9],oo 11 (.build [v0,vn,vn] [(0,1),(1,1),(2,1)]) [.t 4,.t 7,.t 10],ou (.st 3) [.t 2,.t 11]] [[],[0],[],[2],[3],[],[5],[6,4],[1,4,7],[8,7,0,1,2,3,4,5,6,7,8]])
 .ret))⟩
def zle : AFun:=⟨12,[(4,none)],
 (.seq (.reg false [oo 4 .mv [ki 0]] [])
 (.seq (.reg false [oo 5 .mv [.t 1],oo 6 .mv [.t 0],oo 7 .mv [.t 1],oo 8 .len [.t 7],oo 9 .call [.f zax,.t 6,.t 8],oo 10 (.iad 1) [.t 5,.t 9],oo 11 (.ld false 1) [.t 10],oo 4 .mv [.t 11]] [])
 .ret))⟩
def ziQ : AFun:=⟨35,[(4,none)],
 (.seq (.reg false [oo 4 .mv [ki 0]] [])
 (.seq (.seq
 (.reg true [oo 5 .mv [.t 0],oo 6 .nil [.t 5],oo 7 (.fad 1) [.t 6],oo 8 (.ld false 1) [.t 7],oo 9 .mv [.t 0],oo 10 .nil [.t 9],oo 11 (.fad 0) [.t 10],oo 12 (.ld false 1) [.t 11],oo 13 .len [.t 12],oo 14 (.bin .geq) [.t 8,.t 13]] [[],[0],[1],[2],[],[4],[5],[6],[7],[3,8]])
 (.cond (.t 14)
 (.seq (.reg false [
 oo 4 .mv [ki 0]] [])
 .ret)
 .skip))
 (.seq (.reg false [oo 15 .mv [.t 0],oo 16 .nil [.t 15],oo 17 (.fad 1) [.t 16],oo 18 (.ld false 1) [.t 17],oo 19 (.bin .add) [.t 18,ki 1],oo 20 .nil [.t 15],oo 21 (.fad 1) [.t 20],ou (.st 1) [.t 21,.t 19]] [])
 (.seq (.reg true [oo 22 .mv [.t 0],oo 23 .nil [.t 22],oo 24 (.fad 0) [.t 23],oo 25 (.ld false 1) [.t 24],oo 26 .mv [.t 0],oo 27 .nil [.t 26],oo 28 (.fad 1) [.t 27],oo 29 (.ld false 1) [.t 28],oo 30 (.bin .sub) [.t 29,ki 1],oo 31 (.iad 1) [.t 25,.t 30],oo 32 (.ld false 1) [.t 31],oo 33 .mv [.t 1],oo 34 .call [.f zjb,.t 32,.t 33],oo 4 .mv [.t 34]] [[],[0],[1],[2],[],[4],[5],[6],[7],[3,8],[9],[],[10,11],[12,12,0,1,2,3,4,5,6,7,8,9,10,11,12]])
 .ret))))⟩
def zqh : AFun:=⟨16,[(4,none)],
 (.seq (.reg false [oo 4 .mv [ki 0]] [])
 (.seq (.seq
 (.reg false [oo 5 .mv [.t 1],oo 6 (.bin .lss) [.t 5,ki 1]] [])
 (.cond (.t 6)
 (.seq (.reg false [
 oo 4 .mv [ki 0]] [])
 .ret)
 .skip))
 (.seq (.reg false [oo 7 .mv [.t 0],oo 8 .mv [.t 1],oo 9 (.bin .rem) [.t 7,.t 8],oo 0 .mv [.t 9]] [])
 (.seq (.seq
 (.reg false [oo 10 .mv [.t 0],oo 11 (.bin .lss) [.t 10,ki 0]] [])
 (.cond (.t 11)
 (.reg false [
 oo 12 .mv [.t 0],
 oo 13 .mv [.t 1],
 oo 14 (.bin .add) [.t 12,.t 13],
 oo 0 .mv [.t 14]] [])
 .skip))
 (.seq (.reg false [oo 15 .mv [.t 0],oo 4 .mv [.t 15]] [])
 .ret)))))⟩
def znJ : AFun:=⟨103,[(4,some (true,3)),(5,none)],
 (.seq (.reg false [oo 2 (.box 3) [.t 0],oo 3 (.box 3) [.t 1],oo 4 (.alloc [v0,vn,vn]) [],oo 5 .mv [ki 0]] [])
 (.seq (.seq
 (.reg false [oo 9 (.ld true 3) [.t 2],oo 10 .call [.f zeN,.t 9],oo 11 (.bin .neq) [.t 10,ki 0]] [])
 (.cond (.t 11)
 (.seq (.reg false [
 oo 12 (.build [v0,vn,vn] []) [],
 ou (.st 3) [.t 4,.t 12],
 oo 5 .mv [ki 14]] [])
 .ret)
 .skip))
 (.seq (.reg false [oo 14 (.ld true 3) [.t 2],oo 15 (.fad 0) [.t 3],oo 16 (.ld false 1) [.t 15],oo 17 (.fad 1) [.t 3],oo 18 (.ld false 1) [.t 17],oo 19 .call [.f ze5,.t 14,.t 16,.t 18],oo 13 .mv [.t 19],oo 20 (.ext 0) [.t 13],oo 21 (.ext 1) [.t 13],oo 6 .mv [.t 20],oo 7 .mv [.t 21]] [])
 (.seq (.block 0 (.seq (.reg false [oo 23 (.fad 0) [.t 3],oo 24 (.ld false 1) [.t 23],oo 25 (.bin .lss) [.t 24,ki 0],oo 26 .mv [.t 25],oh 27 (.fad 0) [.t 3] 26,oh 28 (.ld false 1) [.t 27] 26,oh 29 (.fad 0) [.t 2] 26,oh 30 (.ld false 1) [.t 29] 26,oh 31 (.bin .geq) [.t 28,.t 30] 26,oo 32 .pick [.t 26,.c (.bool true),.t 31],oo 33 .mv [.t 32],oh 34 (.fad 1) [.t 3] 33,oh 35 (.ld false 1) [.t 34] 33,oh 36 (.bin .lss) [.t 35,ki 0] 33,oo 37 .pick [.t 33,.c (.bool true),.t 36],oo 38 .mv [.t 37],oh 39 (.fad 1) [.t 3] 38,oh 40 (.ld false 1) [.t 39] 38,oh 41 (.fad 0) [.t 2] 38,oh 42 (.ld false 1) [.t 41] 38,oh 43 (.bin .geq) [.t 40,.t 42] 38,oo 44 .pick [.t 38,.c (.bool true),.t 43],oo 45 .mv [.t 44],oh 46 (.fad 0) [.t 3] 45,oh 47 (.ld false 1) [.t 46] 45,oh 48 (.fad 1) [.t 3] 45,oh 49 (.ld false 1) [.t 48] 45,oh 50 (.bin .eql) [.t 47,.t 49] 45,oo 51 .pick [.t 45,.c (.bool true),.t 50],oo 52 .mv [.t 51],oh 53 (.fad 2) [.t 2] 52,oh 54 (.ld false 1) [.t 53] 52,oh 55 (.fad 0) [.t 3] 52,oh 56 (.ld false 1) [.t 55] 52,oh 57 .call [.f zaJ,.t 54,.t 56] 52,oo 58 .pick [.t 52,.c (.bool true),.t 57],oo 59 .mv [.t 58],oh 60 (.fad 2) [.t 2] 59,oh 61 (.ld false 1) [.t 60] 59,oh 62 (.fad 1) [.t 3] 59,oh 63 (.ld false 1) [.t 62] 59,oh 64 .call [.f zaJ,.t 61,.t 63] 59,oo 65 .pick [.t 59,.c (.bool true),.t 64],oo 22 .mv [.t 65]] [])
 (.cond (.t 22)
 (.seq (.reg false [
 oo 66 (.build [v0,vn,vn] []) [],
 ou (.st 3) [.t 4,.t 66],
 oo 5 .mv [ki 4]] [])
 .ret)
 (.seq (.reg false [
 oo 68 (.fad 2) [.t 3],
 oo 69 (.ld false 1) [.t 68],
 oo 70 (.bin .lss) [.t 69,ki 1],
 oo 71 .mv [.t 70],
 oh 72 (.fad 2) [.t 3] 71,
 oh 73 (.ld false 1) [.t 72] 71,
 oh 74 (.bin .gtr) [.t 73,ki 3] 71,
 oo 75 .pick [.t 71,.c (.bool true),.t 74],
 oo 67 .mv [.t 75]] [])
 (.cond (.t 67)
 (.seq (.reg false [
 oo 76 (.build [v0,vn,vn] []) [],
 ou (.st 3) [.t 4,.t 76],
 oo 5 .mv [ki 2]] [])
 .ret)
 (.seq (.reg false [
 oo 78 .mv [.t 7],
 oo 77 .mv [.t 78]] [])
 (.cond (.t 77)
 (.seq (.reg false [
 oo 79 (.build [v0,vn,vn] []) [],
 ou (.st 3) [.t 4,.t 79],
 oo 5 .mv [ki 19]] [])
 .ret)
 (.seq (.reg false [
 oo 81 (.fad 1) [.t 2],
 oo 82 (.ld false 1) [.t 81],
 oo 83 .len [.t 82],
 oo 84 (.bin .eql) [.t 83,ki 500],
 oo 80 .mv [.t 84]] [])
 (.cond (.t 80)
 (.seq (.reg false [
 oo 85 (.build [v0,vn,vn] []) [],
 ou (.st 3) [.t 4,.t 85],
 oo 5 .mv [ki 3]] [])
 .ret)
 .skip)))))))))
 (.seq (.reg false [oo 86 (.ld true 3) [.t 2],oo 87 .call [.f zcE,.t 86],oo 8 (.alloc [v0,vn,vn]) [],ou (.st 3) [.t 8,.t 87]] [])
 (.seq (.reg true [oo 88 (.fad 1) [.t 2],oo 89 (.ld false 1) [.t 88],oo 90 .mv [.t 6],oo 91 (.slc 3 false true false) [.t 89,.t 90],oo 92 (.app 3 24) [kn,.t 91],oo 93 (.ld true 3) [.t 3],oo 94 (.bsl 3 1 [v0,v0,v0] [0]) [.t 93],oo 95 (.app 3 24) [.t 92,.t 94],oo 96 (.fad 1) [.t 2],oo 97 (.ld false 1) [.t 96],oo 98 .mv [.t 6],oo 99 (.slc 3 true false false) [.t 97,.t 98],oo 100 (.app 3 24) [.t 95,.t 99],oo 101 (.fad 1) [.t 8],ou (.st 1) [.t 101,.t 100]] [[],[0],[],[1,2],[3],[],[5],[4,6,4],[],[8],[],[9,10],[7,11,7],[0,1,2,3,4,5,6,7,8,9,10,11,12],[13,12,12,0,1,2,3,4,5,6,7,8,9,10,11,12]])
 (.seq (.reg false [oo 102 (.ld true 3) [.t 8],ou (.st 3) [.t 4,.t 102],oo 5 .mv [ki 0]] [])
 .ret)))))))⟩
def zke : AFun:=⟨18,[(4,none)],
 (.seq (.reg false [oo 4 .mv [.c (.bool false)]] [])
 (.seq (.seq
 (.reg false [oo 5 .mv [ki 0]] [])
 (.block 0 (.loop
 (.seq (.seq
 (.reg false [oo 6 .mv [.t 5],oo 7 .mv [.t 0],oo 8 .len [.t 7],oo 9 (.bin .lss) [.t 6,.t 8]] [])
 (.cond (.t 9)
 .skip
 (.exit 0)))
 (.seq (.block 1 (.seq (.reg false [oo 12 .mv [.t 0],oo 13 .mv [.t 5],oo 14 (.iad 1) [.t 12,.t 13],oo 15 (.ld false 1) [.t 14],oo 16 .mv [.t 1],oo 17 (.bin .eql) [.t 15,.t 16]] [])
 (.cond (.t 17)
 (.seq (.reg false [
 oo 4 .mv [.c (.bool true)]] [])
 .ret)
 .skip)))
 (.reg false [oo 10 .mv [.t 5],oo 11 (.bin .add) [.t 10,ki 1],oo 5 .mv [.t 11]] []))))))
 (.seq (.reg false [oo 4 .mv [.c (.bool false)]] [])
 .ret)))⟩
def zmf : AFun:=⟨35,[(4,none)],
 (.seq (.reg false [oo 2 (.box 3) [.t 0],oo 4 .mv [kn]] [])
 (.seq (.reg false [oo 9 (.ld true 3) [.t 2],oo 10 .mv [.t 1],oo 11 .call [.f zfi,.t 9,.t 10],oo 5 .mv [.t 11]] [])
 (.seq (.reg false [oo 6 .mv [kn]] [])
 (.seq (.seq
 (.reg false [oo 7 .mv [ki 0]] [])
 (.block 0 (.loop
 (.seq (.seq
 (.reg false [oo 12 .mv [.t 7],oo 13 (.fad 0) [.t 2],oo 14 (.ld false 1) [.t 13],oo 15 (.bin .lss) [.t 12,.t 14]] [])
 (.cond (.t 15)
 .skip
 (.exit 0)))
 (.seq (.block 1 (.seq (.reg false [oo 8 .mv [ki 0]] [])
 (.block 2 (.loop
 (.seq (.seq
 (.reg false [oo 18 .mv [.t 8],oo 19 (.fad 0) [.t 2],oo 20 (.ld false 1) [.t 19],oo 21 (.bin .lss) [.t 18,.t 20]] [])
 (.cond (.t 21)
 .skip
 (.exit 2)))
 (.seq (.block 3 (.seq (.reg false [oo 24 .mv [.t 5],oo 25 .mv [.t 8],oo 26 (.iad 1) [.t 24,.t 25],oo 27 (.ld false 1) [.t 26],oo 28 .mv [.t 7],oo 29 (.bin .eql) [.t 27,.t 28]] [])
 (.cond (.t 29)
 (.reg false [
 oo 30 .mv [.t 6],
 oo 31 .mv [.t 8],
 oo 32 (.bsl 1 1 [v0] [0]) [.t 31],
 oo 33 (.app 1 8) [.t 30,.t 32],
 oo 6 .mv [.t 33]] [])
 .skip)))
 (.reg false [oo 22 .mv [.t 8],oo 23 (.bin .add) [.t 22,ki 1],oo 8 .mv [.t 23]] [])))))))
 (.reg false [oo 16 .mv [.t 7],oo 17 (.bin .add) [.t 16,ki 1],oo 7 .mv [.t 17]] []))))))
 (.seq (.reg false [oo 34 .mv [.t 6],oo 4 .mv [.t 34]] [])
 .ret)))))⟩
def zlN : AFun:=⟨36,[(4,some (true,3))],
 (.seq (.reg false [oo 2 (.box 3) [.t 0],oo 4 (.alloc [v0,vn,vn]) []] [])
 (.seq (.reg false [oo 7 (.ld true 3) [.t 2],oo 8 .call [.f zcE,.t 7],oo 5 (.alloc [v0,vn,vn]) [],ou (.st 3) [.t 5,.t 8]] [])
 (.seq (.reg false [oo 9 (.fad 1) [.t 5],ou (.st 1) [.t 9,kn]] [])
 (.seq (.seq
 (.reg false [oo 6 .mv [ki 0]] [])
 (.block 0 (.loop
 (.seq (.seq
 (.reg false [oo 10 .mv [.t 6],oo 11 (.fad 1) [.t 2],oo 12 (.ld false 1) [.t 11],oo 13 .len [.t 12],oo 14 (.bin .lss) [.t 10,.t 13]] [])
 (.cond (.t 14)
 .skip
 (.exit 0)))
 (.seq (.block 1 (.seq (.reg false [oo 17 (.fad 1) [.t 2],oo 18 (.ld false 1) [.t 17],oo 19 .mv [.t 6],oo 20 (.iad 3) [.t 18,.t 19],oo 21 (.fad 2) [.t 20],oo 22 (.ld false 1) [.t 21],oo 23 .mv [.t 1],oo 24 (.bin .geq) [.t 22,.t 23]] [])
 (.cond (.t 24)
 (.reg true [
 oo 25 (.fad 1) [.t 5],
 oo 26 (.ld false 1) [.t 25],
 oo 27 (.fad 1) [.t 2],
 oo 28 (.ld false 1) [.t 27],
 oo 29 .mv [.t 6],
 oo 30 (.iad 3) [.t 28,.t 29],
 oo 31 (.ld true 3) [.t 30],
 oo 32 (.bsl 3 1 [v0,v0,v0] [0]) [.t 31],
 oo 33 (.app 3 24) [.t 26,.t 32],
 oo 34 (.fad 1) [.t 5],
 ou (.st 1) [.t 34,.t 33]] [[],[0],[],[2],[],[3,4],[5],[6],[1,7],[0,1,2,3,4,5,6,7,8],[9,8,8,0,1,2,3,4,5,6,7,8]])
 .skip)))
 (.reg false [oo 15 .mv [.t 6],oo 16 (.bin .add) [.t 15,ki 1],oo 6 .mv [.t 16]] []))))))
 (.seq (.reg false [oo 35 (.ld true 3) [.t 5],ou (.st 3) [.t 4,.t 35]] [])
 .ret)))))⟩
def zoI : AFun:=⟨45,[(4,none)],
 (.seq (.reg false [oo 4 .mv [kn]] [])
 (.seq (.reg false [oo 5 .mv [ki 0]] [])
 (.seq (.block 0 (.loop
 (.seq (.seq
 (.reg false [oo 6 .mv [.t 5],oo 7 .mv [.t 0],oo 8 .len [.t 7],oo 9 (.bin .lss) [.t 6,.t 8],oo 10 .mv [.t 9],og 11 .mv [.t 0] 10,og 12 .mv [.t 5] 10,og 13 (.iad 1) [.t 11,.t 12] 10,og 14 (.ld false 1) [.t 13] 10,og 15 .mv [.t 1] 10,og 16 (.bin .lss) [.t 14,.t 15] 10,oo 17 .pick [.t 10,.t 16,.c (.bool false)]] [])
 (.cond (.t 17)
 .skip
 (.exit 0)))
 (.block 1 (.reg false [oo 18 .mv [.t 5],oo 19 (.bin .add) [.t 18,ki 1],oo 5 .mv [.t 19]] [])))))
 (.seq (.seq
 (.reg false [oo 20 .mv [.t 5],oo 21 .mv [.t 0],oo 22 .len [.t 21],oo 23 (.bin .lss) [.t 20,.t 22],oo 24 .mv [.t 23],og 25 .mv [.t 0] 24,og 26 .mv [.t 5] 24,og 27 (.iad 1) [.t 25,.t 26] 24,og 28 (.ld false 1) [.t 27] 24,og 29 .mv [.t 1] 24,og 30 (.bin .eql) [.t 28,.t 29] 24,oo 31 .pick [.t 24,.t 30,.c (.bool false)]] [])
 (.cond (.t 31)
 (.seq (.reg false [
 oo 32 .mv [.t 0],
 oo 33 (.app 1 8) [kn,.t 32],
 oo 4 .mv [.t 33]] [])
 .ret)
 .skip))
 (.seq (.reg true [oo 34 .mv [.t 0],oo 35 .mv [.t 5],oo 36 (.slc 1 false true false) [.t 34,.t 35],oo 37 (.app 1 8) [kn,.t 36],oo 38 .mv [.t 1],oo 39 (.bsl 1 1 [v0] [0]) [.t 38],oo 40 (.app 1 8) [.t 37,.t 39],oo 41 .mv [.t 0],oo 42 .mv [.t 5],oo 43 (.slc 1 true false false) [.t 41,.t 42],oo 44 (.app 1 8) [.t 40,.t 43],oo 4 .mv [.t 44]] [[],[],[0,1],[2],[],[4],[3,5,3],[],[],[7,8],[6,9,6],[10,10,0,1,2,3,4,5,6,7,8,9,10]])
 .ret)))))⟩
def zik : AFun:=⟨26,[(4,none)],
 (.seq (.reg false [oo 4 .mv [.c (.bool false)]] [])
 (.seq (.seq
 (.reg false [oo 6 .mv [.t 0],oo 7 .len [.t 6],oo 8 .mv [.t 1],oo 9 .len [.t 8],oo 10 (.bin .neq) [.t 7,.t 9]] [])
 (.cond (.t 10)
 (.seq (.reg false [
 oo 4 .mv [.c (.bool false)]] [])
 .ret)
 .skip))
 (.seq (.seq
 (.reg false [oo 5 .mv [ki 0]] [])
 (.block 0 (.loop
 (.seq (.seq
 (.reg false [oo 11 .mv [.t 5],oo 12 .mv [.t 0],oo 13 .len [.t 12],oo 14 (.bin .lss) [.t 11,.t 13]] [])
 (.cond (.t 14)
 .skip
 (.exit 0)))
 (.seq (.block 1 (.seq (.reg true [oo 17 .mv [.t 0],oo 18 .mv [.t 5],oo 19 (.iad 1) [.t 17,.t 18],oo 20 (.ld false 1) [.t 19],oo 21 .mv [.t 1],oo 22 .mv [.t 5],oo 23 (.iad 1) [.t 21,.t 22],oo 24 (.ld false 1) [.t 23],oo 25 (.bin .neq) [.t 20,.t 24]] [[],[],[0,1],[2],[],[],[4,5],[6],[3,7]])
 (.cond (.t 25)
 (.seq (.reg false [
 oo 4 .mv [.c (.bool false)]] [])
 .ret)
 .skip)))
 (.reg false [oo 15 .mv [.t 5],oo 16 (.bin .add) [.t 15,ki 1],oo 5 .mv [.t 16]] []))))))
 (.seq (.reg false [oo 4 .mv [.c (.bool true)]] [])
 .ret))))⟩
def zjy : AFun:=⟨11,[(4,none)],
 (.seq (.reg false [oo 4 .mv [.c (.bool false)]] [])
 (.seq (.reg false [oo 5 .mv [.t 0],oo 6 .mv [.t 1],oo 7 .call [.f zax,.t 5,.t 6],oo 8 .mv [.t 1],oo 9 (.bin .sub) [.t 8,ki 1],oo 10 (.bin .eql) [.t 7,.t 9],oo 4 .mv [.t 10]] [])
 .ret))⟩
def zoJ : AFun:=⟨72,[(4,none)],
 (.seq (.reg false [oo 2 (.box 3) [.t 0],oo 4 .mv [kn]] [])
 (.seq (.reg false [oo 5 .mv [kn]] [])
 (.seq (.seq
 (.reg false [oo 6 .mv [ki 0]] [])
 (.block 0 (.loop
 (.seq (.seq
 (.reg false [oo 10 .mv [.t 6],oo 11 (.fad 0) [.t 2],oo 12 (.ld false 1) [.t 11],oo 13 (.bin .lss) [.t 10,.t 12]] [])
 (.cond (.t 13)
 .skip
 (.exit 0)))
 (.seq (.block 1 (.seq (.reg false [oo 16 .mv [.t 5],oo 17 (.bsl 1 1 [v0] [0]) [ki (-1)],oo 18 (.app 1 8) [.t 16,.t 17],oo 5 .mv [.t 18]] [])
 (.seq (.reg false [oo 19 .mv [.t 1],oo 20 .mv [.t 6],oo 21 .call [.f zaJ,.t 19,.t 20],oo 22 .mv [.t 21],og 23 (.fad 2) [.t 2] 22,og 24 (.ld false 1) [.t 23] 22,og 25 .mv [.t 6] 22,og 26 .call [.f zaJ,.t 24,.t 25] 22,og 27 (.un .not) [.t 26] 22,oo 28 .pick [.t 22,.t 27,.c (.bool false)]] [])
 (.cond (.t 28)
 (.reg false [
 oo 29 .mv [.t 5],
 oo 30 .mv [.t 6],
 oo 31 (.iad 1) [.t 29,.t 30],
 ou (.st 1) [.t 31,ki 0]] [])
 .skip))))
 (.reg false [oo 14 .mv [.t 6],oo 15 (.bin .add) [.t 14,ki 1],oo 6 .mv [.t 15]] []))))))
 (.seq (.seq
 (.reg false [oo 7 .mv [ki 0]] [])
 (.block 2 (.loop
 (.seq (.seq
 (.reg false [oo 32 .mv [.t 7],oo 33 (.fad 0) [.t 2],oo 34 (.ld false 1) [.t 33],oo 35 (.bin .lss) [.t 32,.t 34]] [])
 (.cond (.t 35)
 .skip
 (.exit 2)))
 (.seq (.block 3 (.seq (.reg false [oo 8 .mv [ki 0]] [])
 (.block 4 (.loop
 (.seq (.seq
 (.reg false [oo 38 .mv [.t 8],oo 39 (.fad 1) [.t 2],oo 40 (.ld false 1) [.t 39],oo 41 .len [.t 40],oo 42 (.bin .lss) [.t 38,.t 41]] [])
 (.cond (.t 42)
 .skip
 (.exit 4)))
 (.seq (.block 5 (.seq (.reg false [oo 45 (.fad 1) [.t 2],oo 46 (.ld false 1) [.t 45],oo 47 .mv [.t 8],oo 48 (.iad 3) [.t 46,.t 47],oo 49 (.ld true 3) [.t 48],oo 9 (.alloc [v0,v0,v0]) [],ou (.st 3) [.t 9,.t 49]] [])
 (.seq (.reg false [oo 50 .mv [.t 5],oo 51 (.fad 0) [.t 9],oo 52 (.ld false 1) [.t 51],oo 53 (.iad 1) [.t 50,.t 52],oo 54 (.ld false 1) [.t 53],oo 55 .mv [.t 7],oo 56 (.bin .eql) [.t 54,.t 55],oo 57 .mv [.t 56],og 58 .mv [.t 5] 57,og 59 (.fad 1) [.t 9] 57,og 60 (.ld false 1) [.t 59] 57,og 61 (.iad 1) [.t 58,.t 60] 57,og 62 (.ld false 1) [.t 61] 57,og 63 (.bin .eql) [.t 62,ki (-1)] 57,oo 64 .pick [.t 57,.t 63,.c (.bool false)]] [])
 (.cond (.t 64)
 (.reg false [
 oo 65 .mv [.t 5],
 oo 66 (.fad 1) [.t 9],
 oo 67 (.ld false 1) [.t 66],
 oo 68 .mv [.t 7],
 oo 69 (.bin .add) [.t 68,ki 1],
 oo 70 (.iad 1) [.t 65,.t 67],
 ou (.st 1) [.t 70,.t 69]] [])
 .skip))))
 (.reg false [oo 43 .mv [.t 8],oo 44 (.bin .add) [.t 43,ki 1],oo 8 .mv [.t 44]] [])))))))
 (.reg false [oo 36 .mv [.t 7],oo 37 (.bin .add) [.t 36,ki 1],oo 7 .mv [.t 37]] []))))))
 (.seq (.reg false [oo 71 .mv [.t 5],oo 4 .mv [.t 71]] [])
 .ret)))))⟩
def zdT : AFun:=⟨9,[(4,none)],
 (.seq (.reg false [oo 4 .mv [.c (.bool false)]] [])
 (.seq (.reg false [oo 5 .mv [.t 0],oo 6 .mv [.t 1],oo 7 .call [.f zbI,.t 5,.t 6],oo 8 (.bin .geq) [.t 7,ki 0],oo 4 .mv [.t 8]] [])
 .ret))⟩
def zlf : AFun:=⟨38,[(6,none)],
 (.seq (.reg false [oo 6 .mv [.c (.bool false)]] [])
 (.seq (.seq
 (.reg false [oo 9 .mv [.t 0],oo 10 .len [.t 9],oo 11 .mv [ki 0]] [])
 (.block 0 (.loop
 (.seq (.reg false [oo 12 (.bin .lss) [.t 11,.t 10]] [])
 (.seq (.cond (.t 12)
 .skip
 (.exit 0))
 (.seq (.block 1 (.seq (.reg false [oo 13 .mv [.t 11],oo 14 (.iad 1) [.t 9,.t 11],oo 15 (.ld false 1) [.t 14],oo 7 .mv [.t 13],oo 8 .mv [.t 15]] [])
 (.seq (.reg false [oo 16 .mv [.t 8],oo 17 .mv [.t 1],oo 18 (.bin .lss) [.t 16,.t 17],oo 19 .mv [.t 18],oh 20 .mv [.t 8] 19,oh 21 .mv [.t 2] 19,oh 22 (.bin .gtr) [.t 20,.t 21] 19,oo 23 .pick [.t 19,.c (.bool true),.t 22],oo 24 .mv [.t 23],oh 25 .mv [.t 7] 24,oh 26 (.bin .gtr) [.t 25,ki 0] 24,oh 27 .mv [.t 26] 24,og 28 .mv [.t 8] 27,og 29 .mv [.t 0] 27,og 30 .mv [.t 7] 27,og 31 (.bin .sub) [.t 30,ki 1] 27,og 32 (.iad 1) [.t 29,.t 31] 27,og 33 (.ld false 1) [.t 32] 27,og 34 (.bin .leq) [.t 28,.t 33] 27,oh 35 .pick [.t 27,.t 34,.c (.bool false)] 24,oo 36 .pick [.t 24,.c (.bool true),.t 35]] [])
 (.cond (.t 36)
 (.seq (.reg false [
 oo 6 .mv [.c (.bool false)]] [])
 .ret)
 .skip))))
 (.reg false [oo 37 (.bin .add) [.t 11,ki 1],oo 11 .mv [.t 37]] [])))))))
 (.seq (.reg false [oo 6 .mv [.c (.bool true)]] [])
 .ret)))⟩
def zc2 : AFun:=⟨9,[(4,none)],
 (.seq (.reg false [oo 4 .mv [.c (.bool false)]] [])
 (.seq (.reg false [oo 5 .mv [.t 0],oo 6 .mv [.t 1],oo 7 .call [.f zaV,.t 5,.t 6],oo 8 (.bin .geq) [.t 7,ki 0],oo 4 .mv [.t 8]] [])
 .ret))⟩
def zo7 : AFun:=⟨41,[(4,none)],
 (.seq (.reg false [oo 4 .mv [.c (.bool false)]] [])
 (.seq (.seq
 (.reg false [oo 5 .mv [ki 0]] [])
 (.block 0 (.loop
 (.seq (.seq
 (.reg false [oo 6 .mv [.t 5],oo 7 .mv [.t 0],oo 8 .len [.t 7],oo 9 (.bin .lss) [.t 6,.t 8]] [])
 (.cond (.t 9)
 .skip
 (.exit 0)))
 (.seq (.block 1 (.seq (.reg true [oo 12 .mv [.t 0],oo 13 .mv [.t 5],oo 14 (.iad 1) [.t 12,.t 13],oo 15 (.ld false 1) [.t 14],oo 16 (.bin .lss) [.t 15,ki 0],oo 17 .mv [.t 16],oh 18 .mv [.t 0] 17,oh 19 .mv [.t 5] 17,oh 20 (.iad 1) [.t 18,.t 19] 17,oh 21 (.ld false 1) [.t 20] 17,oh 22 .mv [.t 1] 17,oh 23 (.bin .geq) [.t 21,.t 22] 17,oo 24 .pick [.t 17,.c (.bool true),.t 23],oo 25 .mv [.t 24],oh 26 .mv [.t 5] 25,oh 27 (.bin .gtr) [.t 26,ki 0] 25,oh 28 .mv [.t 27] 25,og 29 .mv [.t 0] 28,og 30 .mv [.t 5] 28,og 31 (.iad 1) [.t 29,.t 30] 28,og 32 (.ld false 1) [.t 31] 28,og 33 .mv [.t 0] 28,og 34 .mv [.t 5] 28,og 35 (.bin .sub) [.t 34,ki 1] 28,og 36 (.iad 1) [.t 33,.t 35] 28,og 37 (.ld false 1) [.t 36] 28,og 38 (.bin .leq) [.t 32,.t 37] 28,oh 39 .pick [.t 28,.t 38,.c (.bool false)] 25,oo 40 .pick [.t 25,.c (.bool true),.t 39]] [[],[],[0,1],[2],[3],[4],[5],[5],[6,7,5],[8,5],[5],[9,10,5],[5,11],[12,5],[13],[14,13],[15,13,13],[16],[16],[17,18,16],[19,16],[16],[16],[22,16],[21,23,16],[24,16],[20,25,16],[16,26,13],[13,27]])
 (.cond (.t 40)
 (.seq (.reg false [
 oo 4 .mv [.c (.bool false)]] [])
 .ret)
 .skip)))
 (.reg false [oo 10 .mv [.t 5],oo 11 (.bin .add) [.t 10,ki 1],oo 5 .mv [.t 11]] []))))))
 (.seq (.reg false [oo 4 .mv [.c (.bool true)]] [])
 .ret)))⟩
def zmC : AFun:=⟨105,[(2,none)],
 (.seq (.reg false [oo 1 (.box 3) [.t 0],oo 2 .mv [ki 0]] [])
 (.seq (.seq
 (.reg false [oo 5 (.fad 0) [.t 1],oo 6 (.ld false 1) [.t 5],oo 7 (.bin .lss) [.t 6,ki 0],oo 8 .mv [.t 7],oh 9 (.fad 0) [.t 1] 8,oh 10 (.ld false 1) [.t 9] 8,oh 11 (.bin .gtr) [.t 10,ki 64] 8,oo 12 .pick [.t 8,.c (.bool true),.t 11],oo 13 .mv [.t 12],oh 14 (.fad 1) [.t 1] 13,oh 15 (.ld false 1) [.t 14] 13,oh 16 .len [.t 15] 13,oh 17 (.bin .gtr) [.t 16,ki 500] 13,oo 18 .pick [.t 13,.c (.bool true),.t 17],oo 19 .mv [.t 18],oh 20 (.fad 2) [.t 1] 19,oh 21 (.ld false 1) [.t 20] 19,oh 22 (.fad 0) [.t 1] 19,oh 23 (.ld false 1) [.t 22] 19,oh 24 .call [.f zfl,.t 21,.t 23] 19,oh 25 (.un .not) [.t 24] 19,oo 26 .pick [.t 19,.c (.bool true),.t 25]] [])
 (.cond (.t 26)
 (.seq (.reg false [
 oo 2 .mv [ki 14]] [])
 .ret)
 .skip))
 (.seq (.seq
 (.reg false [oo 3 .mv [ki 0]] [])
 (.block 0 (.loop
 (.seq (.seq
 (.reg false [oo 27 .mv [.t 3],oo 28 (.fad 1) [.t 1],oo 29 (.ld false 1) [.t 28],oo 30 .len [.t 29],oo 31 (.bin .lss) [.t 27,.t 30]] [])
 (.cond (.t 31)
 .skip
 (.exit 0)))
 (.seq (.block 1 (.seq (.reg false [oo 34 (.fad 1) [.t 1],oo 35 (.ld false 1) [.t 34],oo 36 .mv [.t 3],oo 37 (.iad 3) [.t 35,.t 36],oo 38 (.ld true 3) [.t 37],oo 4 (.alloc [v0,v0,v0]) [],ou (.st 3) [.t 4,.t 38]] [])
 (.seq (.seq
 (.reg false [oo 39 (.fad 0) [.t 4],oo 40 (.ld false 1) [.t 39],oo 41 (.bin .lss) [.t 40,ki 0],oo 42 .mv [.t 41],oh 43 (.fad 0) [.t 4] 42,oh 44 (.ld false 1) [.t 43] 42,oh 45 (.fad 0) [.t 1] 42,oh 46 (.ld false 1) [.t 45] 42,oh 47 (.bin .geq) [.t 44,.t 46] 42,oo 48 .pick [.t 42,.c (.bool true),.t 47],oo 49 .mv [.t 48],oh 50 (.fad 1) [.t 4] 49,oh 51 (.ld false 1) [.t 50] 49,oh 52 (.bin .lss) [.t 51,ki 0] 49,oo 53 .pick [.t 49,.c (.bool true),.t 52],oo 54 .mv [.t 53],oh 55 (.fad 1) [.t 4] 54,oh 56 (.ld false 1) [.t 55] 54,oh 57 (.fad 0) [.t 1] 54,oh 58 (.ld false 1) [.t 57] 54,oh 59 (.bin .geq) [.t 56,.t 58] 54,oo 60 .pick [.t 54,.c (.bool true),.t 59],oo 61 .mv [.t 60],oh 62 (.fad 0) [.t 4] 61,oh 63 (.ld false 1) [.t 62] 61,oh 64 (.fad 1) [.t 4] 61,oh 65 (.ld false 1) [.t 64] 61,oh 66 (.bin .eql) [.t 63,.t 65] 61,oo 67 .pick [.t 61,.c (.bool true),.t 66],oo 68 .mv [.t 67],oh 69 (.fad 2) [.t 4] 68,oh 70 (.ld false 1) [.t 69] 68,oh 71 (.bin .lss) [.t 70,ki 1] 68,oo 72 .pick [.t 68,.c (.bool true),.t 71],oo 73 .mv [.t 72],oh 74 (.fad 2) [.t 4] 73,oh 75 (.ld false 1) [.t 74] 73,oh 76 (.bin .gtr) [.t 75,ki 3] 73,oo 77 .pick [.t 73,.c (.bool true),.t 76]] [])
 (.cond (.t 77)
 (.seq (.reg false [
 oo 2 .mv [ki 14]] [])
 .ret)
 .skip))
 (.seq (.reg true [oo 78 .mv [.t 3],oo 79 (.bin .gtr) [.t 78,ki 0],oo 80 .mv [.t 79],og 81 (.fad 1) [.t 1] 80,og 82 (.ld false 1) [.t 81] 80,og 83 .mv [.t 3] 80,og 84 (.bin .sub) [.t 83,ki 1] 80,og 85 (.iad 3) [.t 82,.t 84] 80,og 86 (.ld true 3) [.t 85] 80,og 87 (.ld true 3) [.t 4] 80,og 88 .call [.f zb0,.t 86,.t 87] 80,og 89 (.un .not) [.t 88] 80,oo 90 .pick [.t 80,.t 89,.c (.bool false)],oo 91 .mv [.t 90],oh 92 (.fad 2) [.t 1] 91,oh 93 (.ld false 1) [.t 92] 91,oh 94 (.fad 0) [.t 4] 91,oh 95 (.ld false 1) [.t 94] 91,oh 96 .call [.f zaJ,.t 93,.t 95] 91,oo 97 .pick [.t 91,.c (.bool true),.t 96],oo 98 .mv [.t 97],oh 99 (.fad 2) [.t 1] 98,oh 100 (.ld false 1) [.t 99] 98,oh 101 (.fad 1) [.t 4] 98,oh 102 (.ld false 1) [.t 101] 98,oh 103 .call [.f zaJ,.t 100,.t 102] 98,oo 104 .pick [.t 98,.c (.bool true),.t 103]] [[],[0],[1],[2],[3,2],[2],[5,2],[4,6,2],[7,2],[2],[8,9,2,2],[10,2],[2,11],[12,10],[13],[14,13],[13],[16,13],[15,17,13,13],[13,18],[19,18],[20],[21,20],[20],[23,20],[22,24,20,20],[20,25]])
 (.cond (.t 104)
 (.seq (.reg false [
 oo 2 .mv [ki 14]] [])
 .ret)
 .skip)))))
 (.reg false [oo 32 .mv [.t 3],oo 33 (.bin .add) [.t 32,ki 1],oo 3 .mv [.t 33]] []))))))
 (.seq (.reg false [oo 2 .mv [ki 0]] [])
 .ret))))⟩
def zl1 : AFun:=⟨53,[(6,none),(7,none)],
 (.seq (.reg false [oo 3 (.box 3) [.t 0],oo 6 .mv [ki 0],oo 7 .mv [.c (.bool false)]] [])
 (.seq (.reg false [oo 8 .mv [ki 0]] [])
 (.seq (.block 0 (.loop
 (.seq (.seq
 (.reg false [oo 9 .mv [.t 8],oo 10 (.fad 1) [.t 3],oo 11 (.ld false 1) [.t 10],oo 12 .len [.t 11],oo 13 (.bin .lss) [.t 9,.t 12],oo 14 .mv [.t 13],og 15 (.fad 1) [.t 3] 14,og 16 (.ld false 1) [.t 15] 14,og 17 .mv [.t 8] 14,og 18 (.iad 3) [.t 16,.t 17] 14,og 19 (.ld true 3) [.t 18] 14,og 20 .mv [.t 1] 14,og 21 .mv [.t 2] 14,og 22 (.build [v0,v0,v0] [(0,1),(1,1)]) [.t 20,.t 21] 14,og 23 .call [.f zb0,.t 19,.t 22] 14,oo 24 .pick [.t 14,.t 23,.c (.bool false)]] [])
 (.cond (.t 24)
 .skip
 (.exit 0)))
 (.block 1 (.reg false [oo 25 .mv [.t 8],oo 26 (.bin .add) [.t 25,ki 1],oo 8 .mv [.t 26]] [])))))
 (.seq (.reg true [oo 27 .mv [.t 8],oo 28 .mv [.t 8],oo 29 (.fad 1) [.t 3],oo 30 (.ld false 1) [.t 29],oo 31 .len [.t 30],oo 32 (.bin .lss) [.t 28,.t 31],oo 33 .mv [.t 32],og 34 (.fad 1) [.t 3] 33,og 35 (.ld false 1) [.t 34] 33,og 36 .mv [.t 8] 33,og 37 (.iad 3) [.t 35,.t 36] 33,og 38 (.fad 0) [.t 37] 33,og 39 (.ld false 1) [.t 38] 33,og 40 .mv [.t 1] 33,og 41 (.bin .eql) [.t 39,.t 40] 33,oo 42 .pick [.t 33,.t 41,.c (.bool false)],oo 43 .mv [.t 42],og 44 (.fad 1) [.t 3] 43,og 45 (.ld false 1) [.t 44] 43,og 46 .mv [.t 8] 43,og 47 (.iad 3) [.t 45,.t 46] 43,og 48 (.fad 1) [.t 47] 43,og 49 (.ld false 1) [.t 48] 43,og 50 .mv [.t 2] 43,og 51 (.bin .eql) [.t 49,.t 50] 43,oo 52 .pick [.t 43,.t 51,.c (.bool false)],oo 6 .mv [.t 27],oo 7 .mv [.t 52]] [[],[],[],[2],[3],[1,4],[5],[6],[7,6],[6],[8,9,6],[10,6],[11,6],[6],[12,13,6],[6,14],[15,6],[16],[17,16],[16],[18,19,16],[20,16],[21,16],[16],[22,23,16],[16,24],[0,16,0],[25,26,0,1,2,3,4,5,6,7,8,9,10,11,12,13,14,15,16,17,18,19,20,21,22,23,24,25,26]])
 .ret))))⟩
def zl7 : AFun:=⟨58,[(2,none)],
 (.seq (.reg false [oo 1 (.box 3) [.t 0],oo 2 .mv [ki 0]] [])
 (.seq (.seq
 (.reg false [oo 5 (.fad 0) [.t 1],oo 6 (.ld false 1) [.t 5],oo 7 .call [.f zaL,.t 6,ki 0,ki 64],oo 8 (.un .not) [.t 7],oo 9 .mv [.t 8],oh 10 (.fad 1) [.t 1] 9,oh 11 (.ld false 1) [.t 10] 9,oh 12 .len [.t 11] 9,oh 13 (.bin .gtr) [.t 12,ki 500] 9,oo 14 .pick [.t 9,.c (.bool true),.t 13],oo 15 .mv [.t 14],oh 16 (.fad 2) [.t 1] 15,oh 17 (.ld false 1) [.t 16] 15,oh 18 (.fad 0) [.t 1] 15,oh 19 (.ld false 1) [.t 18] 15,oh 20 (.bin .sub) [.t 19,ki 1] 15,oh 21 .call [.f za7,.t 17,ki 0,.t 20] 15,oh 22 (.un .not) [.t 21] 15,oo 23 .pick [.t 15,.c (.bool true),.t 22]] [])
 (.cond (.t 23)
 (.seq (.reg false [
 oo 2 .mv [ki 14]] [])
 .ret)
 .skip))
 (.seq (.seq
 (.reg false [oo 24 (.fad 1) [.t 1],oo 25 (.ld false 1) [.t 24],oo 26 .len [.t 25],oo 27 .mv [ki 0]] [])
 (.block 0 (.loop
 (.seq (.reg false [oo 28 (.bin .lss) [.t 27,.t 26]] [])
 (.seq (.cond (.t 28)
 .skip
 (.exit 0))
 (.seq (.block 1 (.seq (.reg false [oo 29 .mv [.t 27],oo 30 (.iad 3) [.t 25,.t 27],oo 31 (.ld true 3) [.t 30],oo 4 (.alloc [v0,v0,v0]) [],oo 3 .mv [.t 29],ou (.st 3) [.t 4,.t 31]] [])
 (.seq (.reg true [oo 32 (.ld true 3) [.t 1],oo 33 (.ld true 3) [.t 4],oo 34 .call [.f zea,.t 32,.t 33],oo 35 (.un .not) [.t 34],oo 36 .mv [.t 35],oh 37 (.fad 2) [.t 4] 36,oh 38 (.ld false 1) [.t 37] 36,oh 39 .call [.f zaL,.t 38,ki 1,ki 3] 36,oh 40 (.un .not) [.t 39] 36,oo 41 .pick [.t 36,.c (.bool true),.t 40],oo 42 .mv [.t 41],oh 43 .mv [.t 3] 42,oh 44 (.bin .gtr) [.t 43,ki 0] 42,oh 45 .mv [.t 44] 42,og 46 (.fad 1) [.t 1] 45,og 47 (.ld false 1) [.t 46] 45,og 48 .mv [.t 3] 45,og 49 (.bin .sub) [.t 48,ki 1] 45,og 50 (.iad 3) [.t 47,.t 49] 45,og 51 (.ld true 3) [.t 50] 45,og 52 (.ld true 3) [.t 4] 45,og 53 .call [.f zcT,.t 51,.t 52] 45,og 54 (.bin .geq) [.t 53,ki 0] 45,oh 55 .pick [.t 45,.t 54,.c (.bool false)] 42,oo 56 .pick [.t 42,.c (.bool true),.t 55]] [[],[],[0,1],[2],[3,2],[4],[5,4],[6,4,4],[7,4],[4,8],[9,7],[10],[11,10],[12,10,10],[13],[14,13],[13],[16,13],[15,17,13],[18,13],[13],[19,20,13,13],[21,13],[13,22,10],[10,23]])
 (.cond (.t 56)
 (.seq (.reg false [
 oo 2 .mv [ki 14]] [])
 .ret)
 .skip))))
 (.reg false [oo 57 (.bin .add) [.t 27,ki 1],oo 27 .mv [.t 57]] [])))))))
 (.seq (.reg false [oo 2 .mv [ki 0]] [])
 .ret))))⟩
def zp2 : AFun:=⟨15,[(6,none)],
 (.seq (.reg false [oo 6 .mv [.c (.bool false)]] [])
 (.seq (.reg false [oo 7 .mv [.t 0],oo 8 .mv [.t 1],oo 9 (.bin .geq) [.t 7,.t 8],oo 10 .mv [.t 9],og 11 .mv [.t 0] 10,og 12 .mv [.t 2] 10,og 13 (.bin .leq) [.t 11,.t 12] 10,oo 14 .pick [.t 10,.t 13,.c (.bool false)],oo 6 .mv [.t 14]] [])
 .ret))⟩
def zjg : AFun:=⟨18,[(4,none)],
 (.seq (.reg false [oo 2 (.box 3) [.t 0],oo 4 .mv [kn]] [])
 (.seq (.reg false [oo 7 (.ld true 3) [.t 2],oo 8 .mv [.t 1],oo 9 .call [.f zdd,.t 7,.t 8],oo 5 (.alloc [vn]) [],ou (.st 1) [.t 5,.t 9]] [])
 (.seq (.reg false [oo 10 (.ld false 1) [.t 5],oo 11 .len [.t 10],oo 12 (.mkf zbn) [.t 5],oo 13 .call [.f zbT,.t 11,.t 12],oo 6 .mv [.t 13]] [])
 (.seq (.reg false [oo 14 .mv [.t 6],oo 15 (.mkf zbL) [.t 5],oo 16 .call [.f zaY,.t 14,.t 15]] [])
 (.seq (.reg false [oo 17 .mv [.t 6],oo 4 .mv [.t 17]] [])
 .ret)))))⟩
def zmx : AFun:=⟨14,[(4,some (true,3))],
 (.seq (.reg false [oo 2 (.box 3) [.t 0],oo 3 (.box 1) [.t 1],oo 4 (.alloc [v0,vn,vn]) []] [])
 (.seq (.reg false [oo 6 (.ld true 3) [.t 2],oo 7 .call [.f zd9,.t 6],oo 5 (.alloc [v0,vn,vn]) [],ou (.st 3) [.t 5,.t 7]] [])
 (.seq (.reg false [oo 8 (.fad 1) [.t 5],oo 9 (.ld false 1) [.t 8],oo 10 (.mkf zct) [.t 3],oo 11 .call [.f zaO,.t 9,.t 10],oo 12 (.fad 1) [.t 5],ou (.st 1) [.t 12,.t 11]] [])
 (.seq (.reg false [oo 13 (.ld true 3) [.t 5],ou (.st 3) [.t 4,.t 13]] [])
 .ret))))⟩
def zmL : AFun:=⟨20,[(4,none)],
 (.seq (.reg false [oo 4 .mv [kn]] [])
 (.seq (.reg false [oo 5 .mv [kn]] [])
 (.seq (.seq
 (.reg false [oo 7 .mv [.t 0],oo 8 .mv [ki 0]] [])
 (.block 0 (.loop
 (.seq (.reg false [oo 9 (.bin .lss) [.t 8,.t 7]] [])
 (.seq (.cond (.t 9)
 .skip
 (.exit 0))
 (.seq (.block 1 (.seq (.reg false [oo 10 .mv [.t 8],oo 6 .mv [.t 10]] [])
 (.seq (.reg false [oo 11 .mv [.t 1],oo 12 .mv [.t 6],oo 13 .call [.t 11,.t 12]] [])
 (.cond (.t 13)
 (.reg false [
 oo 14 .mv [.t 5],
 oo 15 .mv [.t 6],
 oo 16 (.bsl 1 1 [v0] [0]) [.t 15],
 oo 17 (.app 1 8) [.t 14,.t 16],
 oo 5 .mv [.t 17]] [])
 .skip))))
 (.reg false [oo 18 (.bin .add) [.t 8,ki 1],oo 8 .mv [.t 18]] [])))))))
 (.seq (.reg false [oo 19 .mv [.t 5],oo 4 .mv [.t 19]] [])
 .ret))))⟩
def zeJ : AFun:=⟨19,[(4,none)],
 (.seq (.reg false [oo 4 .mv [ki 0]] [])
 (.seq (.seq
 (.reg false [oo 6 .mv [.t 0],oo 7 .len [.t 6],oo 8 .mv [ki 0]] [])
 (.block 0 (.loop
 (.seq (.reg false [oo 9 (.bin .lss) [.t 8,.t 7]] [])
 (.seq (.cond (.t 9)
 .skip
 (.exit 0))
 (.seq (.block 1 (.seq (.reg false [oo 10 .mv [.t 8],oo 5 .mv [.t 10]] [])
 (.seq (.reg false [oo 11 .mv [.t 1],oo 12 .mv [.t 0],oo 13 .mv [.t 5],oo 14 (.iad 1) [.t 12,.t 13],oo 15 (.ld false 1) [.t 14],oo 16 (.bin .eql) [.t 11,.t 15]] [])
 (.cond (.t 16)
 (.seq (.reg false [
 oo 17 .mv [.t 5],
 oo 4 .mv [.t 17]] [])
 .ret)
 .skip))))
 (.reg false [oo 18 (.bin .add) [.t 8,ki 1],oo 8 .mv [.t 18]] [])))))))
 (.seq (.reg false [oo 4 .mv [ki (-1)]] [])
 .ret)))⟩
def zlp : AFun:=⟨50,[(4,none)],
 (.seq (.reg false [oo 2 (.box 3) [.t 0],oo 3 (.box 1) [.t 1],oo 4 .mv [kn]] [])
 (.seq (.reg false [oo 11 (.bsl 1 1 [v0] [0]) [ki (-1)],oo 12 (.fad 0) [.t 2],oo 13 (.ld false 1) [.t 12],oo 14 .mx2 [ki 0,.t 13],oo 15 .call [.f zbC,.t 11,.t 14],oo 5 (.alloc [vn]) [],ou (.st 1) [.t 5,.t 15]] [])
 (.seq (.reg false [oo 16 (.fad 0) [.t 2],oo 17 (.ld false 1) [.t 16],oo 18 (.mkf zcd) [.t 2,.t 3],oo 19 .call [.f zbT,.t 17,.t 18],oo 6 .mv [.t 19]] [])
 (.seq (.seq
 (.reg false [oo 7 .mv [ki 0]] [])
 (.block 0 (.loop
 (.seq (.seq
 (.reg false [oo 20 .mv [.t 6],oo 21 .len [.t 20],oo 22 (.bin .gtr) [.t 21,ki 0]] [])
 (.cond (.t 22)
 .skip
 (.exit 0)))
 (.seq (.block 1 (.seq (.reg false [oo 8 .mv [kn]] [])
 (.seq (.seq
 (.reg false [oo 25 .mv [.t 6],oo 26 .len [.t 25],oo 27 .mv [ki 0]] [])
 (.block 2 (.loop
 (.seq (.reg false [oo 28 (.bin .lss) [.t 27,.t 26]] [])
 (.seq (.cond (.t 28)
 .skip
 (.exit 2))
 (.seq (.block 3 (.seq (.reg false [oo 29 (.iad 1) [.t 25,.t 27],oo 30 (.ld false 1) [.t 29],oo 10 .mv [.t 30]] [])
 (.seq (.seq
 (.reg false [oo 31 (.ld false 1) [.t 5],oo 32 .mv [.t 10],oo 33 (.iad 1) [.t 31,.t 32],oo 34 (.ld false 1) [.t 33],oo 35 (.bin .geq) [.t 34,ki 0]] [])
 (.cond (.t 35)
 (.exit 3)
 .skip))
 (.seq (.reg false [oo 36 (.ld false 1) [.t 5],oo 37 .mv [.t 10],oo 38 .mv [.t 7],oo 39 (.iad 1) [.t 36,.t 37],ou (.st 1) [.t 39,.t 38]] [])
 (.reg false [oo 40 .mv [.t 8],oo 41 (.ld true 3) [.t 2],oo 42 .mv [.t 10],oo 43 .call [.f zg8,.t 41,.t 42],oo 44 (.app 1 8) [.t 40,.t 43],oo 8 .mv [.t 44]] [])))))
 (.reg false [oo 45 (.bin .add) [.t 27,ki 1],oo 27 .mv [.t 45]] [])))))))
 (.reg false [oo 46 .mv [.t 8],oo 47 (.mkf zca) [.t 5],oo 48 .call [.f zbc,.t 46,.t 47],oo 6 .mv [.t 48]] []))))
 (.reg false [oo 23 .mv [.t 7],oo 24 (.bin .add) [.t 23,ki 1],oo 7 .mv [.t 24]] []))))))
 (.seq (.reg false [oo 49 (.ld false 1) [.t 5],oo 4 .mv [.t 49]] [])
 .ret)))))⟩
def zdx : AFun:=⟨19,[(4,none)],
 (.seq (.reg false [oo 4 .mv [ki 0]] [])
 (.seq (.seq
 (.reg false [oo 6 .mv [.t 0],oo 7 .len [.t 6],oo 8 .mv [ki 0]] [])
 (.block 0 (.loop
 (.seq (.reg false [oo 9 (.bin .lss) [.t 8,.t 7]] [])
 (.seq (.cond (.t 9)
 .skip
 (.exit 0))
 (.seq (.block 1 (.seq (.reg false [oo 10 .mv [.t 8],oo 5 .mv [.t 10]] [])
 (.seq (.reg false [oo 11 .mv [.t 1],oo 12 .mv [.t 0],oo 13 .mv [.t 5],oo 14 (.iad 1) [.t 12,.t 13],oo 15 (.ld false 1) [.t 14],oo 16 .call [.t 11,.t 15]] [])
 (.cond (.t 16)
 (.seq (.reg false [
 oo 17 .mv [.t 5],
 oo 4 .mv [.t 17]] [])
 .ret)
 .skip))))
 (.reg false [oo 18 (.bin .add) [.t 8,ki 1],oo 8 .mv [.t 18]] [])))))))
 (.seq (.reg false [oo 4 .mv [ki (-1)]] [])
 .ret)))⟩
def zlo : AFun:=⟨24,[(4,none)],
 (.seq (.reg false [oo 2 (.box 3) [.t 0],oo 3 (.box 3) [.t 1],oo 4 .mv [.c (.bool false)]] [])
 (.seq (.reg false [oo 5 (.fad 0) [.t 2],oo 6 (.ld false 1) [.t 5],oo 7 (.fad 0) [.t 3],oo 8 (.ld false 1) [.t 7],oo 9 (.bin .lss) [.t 6,.t 8],oo 10 .mv [.t 9],oh 11 (.fad 0) [.t 2] 10,oh 12 (.ld false 1) [.t 11] 10,oh 13 (.fad 0) [.t 3] 10,oh 14 (.ld false 1) [.t 13] 10,oh 15 (.bin .eql) [.t 12,.t 14] 10,oh 16 .mv [.t 15] 10,og 17 (.fad 1) [.t 2] 16,og 18 (.ld false 1) [.t 17] 16,og 19 (.fad 1) [.t 3] 16,og 20 (.ld false 1) [.t 19] 16,og 21 (.bin .lss) [.t 18,.t 20] 16,oh 22 .pick [.t 16,.t 21,.c (.bool false)] 10,oo 23 .pick [.t 10,.c (.bool true),.t 22],oo 4 .mv [.t 23]] [])
 .ret))⟩
def zeG : AFun:=⟨8,[(2,none)],
 (.seq (.reg false [oo 2 .mv [kn]] [])
 (.seq (.seq
 (.reg false [oo 3 .mv [.t 0],oo 4 (.snil false) [.t 3]] [])
 (.cond (.t 4)
 (.seq (.reg false [
 oo 2 .mv [kn]] [])
 .ret)
 .skip))
 (.seq (.reg false [oo 5 (.bsl 1 0 [v0] []) [],oo 6 .mv [.t 0],oo 7 (.app 1 8) [.t 5,.t 6],oo 2 .mv [.t 7]] [])
 .ret)))⟩
def znu : AFun:=⟨42,[(4,none)],
 (.seq (.reg false [oo 2 (.box 3) [.t 0],oo 3 (.box 3) [.t 1],oo 4 .mv [.c (.bool false)]] [])
 (.seq (.reg false [oo 5 (.fad 0) [.t 3],oo 6 (.ld false 1) [.t 5],oo 7 (.fad 0) [.t 2],oo 8 (.ld false 1) [.t 7],oo 9 (.bin .sub) [.t 8,ki 1],oo 10 .call [.f zaL,.t 6,ki 0,.t 9],oo 11 .mv [.t 10],og 12 (.fad 1) [.t 3] 11,og 13 (.ld false 1) [.t 12] 11,og 14 (.fad 0) [.t 2] 11,og 15 (.ld false 1) [.t 14] 11,og 16 (.bin .sub) [.t 15,ki 1] 11,og 17 .call [.f zaL,.t 13,ki 0,.t 16] 11,oo 18 .pick [.t 11,.t 17,.c (.bool false)],oo 19 .mv [.t 18],og 20 (.fad 0) [.t 3] 19,og 21 (.ld false 1) [.t 20] 19,og 22 (.fad 1) [.t 3] 19,og 23 (.ld false 1) [.t 22] 19,og 24 (.bin .neq) [.t 21,.t 23] 19,oo 25 .pick [.t 19,.t 24,.c (.bool false)],oo 26 .mv [.t 25],og 27 (.fad 2) [.t 2] 26,og 28 (.ld false 1) [.t 27] 26,og 29 (.fad 0) [.t 3] 26,og 30 (.ld false 1) [.t 29] 26,og 31 .call [.f zas,.t 28,.t 30] 26,og 32 (.un .not) [.t 31] 26,oo 33 .pick [.t 26,.t 32,.c (.bool false)],oo 34 .mv [.t 33],og 35 (.fad 2) [.t 2] 34,og 36 (.ld false 1) [.t 35] 34,og 37 (.fad 1) [.t 3] 34,og 38 (.ld false 1) [.t 37] 34,og 39 .call [.f zas,.t 36,.t 38] 34,og 40 (.un .not) [.t 39] 34,oo 41 .pick [.t 34,.t 40,.c (.bool false)],oo 4 .mv [.t 41]] [])
 .ret))⟩
def zjt : AFun:=⟨17,[(4,none)],
 (.seq (.reg false [oo 2 (.box 3) [.t 0],oo 3 (.box 3) [.t 1],oo 4 .mv [ki 0]] [])
 (.seq (.reg true [oo 5 (.fad 0) [.t 2],oo 6 (.ld false 1) [.t 5],oo 7 (.fad 0) [.t 3],oo 8 (.ld false 1) [.t 7],oo 9 .call [.f zbD,.t 6,.t 8],oo 10 (.fad 1) [.t 2],oo 11 (.ld false 1) [.t 10],oo 12 (.fad 1) [.t 3],oo 13 (.ld false 1) [.t 12],oo 14 .call [.f zbD,.t 11,.t 13],oo 15 (.bsl 1 2 [v0] [0,1]) [.t 9,.t 14],oo 16 .call [.f zfT,.t 15],oo 4 .mv [.t 16]] [[],[0],[],[2],[1,3],[],[5],[],[7],[6,8,4],[4,9],[10,9],[11,11,0,1,2,3,4,5,6,7,8,9,10,11]])
 .ret))⟩
def zgn : AFun:=⟨9,[(3,none)],
 (.seq (.reg false [oo 3 .mv [.c (.bool false)]] [])
 (.seq (.reg false [oo 4 (.ld false 1) [.t 1],oo 5 .mv [.t 0],oo 6 (.iad 1) [.t 4,.t 5],oo 7 (.ld false 1) [.t 6],oo 8 (.bin .geq) [.t 7,ki 0],oo 3 .mv [.t 8]] [])
 .ret))⟩
def zcO : AFun:=⟨9,[],
 (.reg false [oo 4 .mv [.t 0],oo 5 .mv [.t 0],oo 6 .len [.t 5],oo 7 .mv [.t 1],oo 8 .call [.f zbp,.t 4,.t 6,.t 7]] [])⟩
def zgD : AFun:=⟨15,[(5,none)],
 (.seq (.reg false [oo 5 .mv [ki 0]] [])
 (.seq (.reg true [oo 6 (.ld false 1) [.t 2],oo 7 .mv [.t 0],oo 8 (.iad 1) [.t 6,.t 7],oo 9 (.ld false 1) [.t 8],oo 10 (.ld false 1) [.t 2],oo 11 .mv [.t 1],oo 12 (.iad 1) [.t 10,.t 11],oo 13 (.ld false 1) [.t 12],oo 14 .call [.f zbD,.t 9,.t 13],oo 5 .mv [.t 14]] [[],[],[0,1],[2],[],[],[4,5],[6],[3,7],[8,8,0,1,2,3,4,5,6,7,8]])
 .ret))⟩
def zhU : AFun:=⟨20,[(4,none)],
 (.seq (.reg false [oo 4 .mv [ki 0]] [])
 (.seq (.reg false [oo 7 .mv [.t 0],oo 8 .call [.f zcS,.t 7],oo 5 .mv [.t 8]] [])
 (.seq (.reg false [oo 9 .mv [.t 1],oo 10 .call [.f zcS,.t 9],oo 6 .mv [.t 10]] [])
 (.seq (.seq
 (.reg false [oo 11 .mv [.t 5]] [])
 (.cond (.t 11)
 (.seq (.seq
 (.reg false [
 oo 12 .mv [.t 6]] [])
 (.cond (.t 12)
 (.seq (.reg false [
 oo 4 .mv [ki 0]] [])
 .ret)
 .skip))
 (.seq (.reg false [
 oo 4 .mv [ki (-1)]] [])
 .ret))
 .skip))
 (.seq (.seq
 (.reg false [oo 13 .mv [.t 6]] [])
 (.cond (.t 13)
 (.seq (.reg false [
 oo 4 .mv [ki 1]] [])
 .ret)
 .skip))
 (.seq (.seq
 (.reg false [oo 14 .mv [.t 0],oo 15 .mv [.t 1],oo 16 (.bin .lss) [.t 14,.t 15]] [])
 (.cond (.t 16)
 (.seq (.reg false [
 oo 4 .mv [ki (-1)]] [])
 .ret)
 .skip))
 (.seq (.seq
 (.reg false [oo 17 .mv [.t 0],oo 18 .mv [.t 1],oo 19 (.bin .gtr) [.t 17,.t 18]] [])
 (.cond (.t 19)
 (.seq (.reg false [
 oo 4 .mv [ki 1]] [])
 .ret)
 .skip))
 (.seq (.reg false [oo 4 .mv [ki 0]] [])
 .ret))))))))⟩
def zlq : AFun:=⟨12,[(2,some (true,3))],
 (.seq (.reg false [oo 1 (.box 3) [.t 0],oo 2 (.alloc [v0,vn,vn]) []] [])
 (.seq (.reg true [oo 3 (.fad 0) [.t 1],oo 4 (.ld false 1) [.t 3],oo 5 (.fad 1) [.t 1],oo 6 (.ld false 1) [.t 5],oo 7 .call [.f zaU,.t 6],oo 8 (.fad 2) [.t 1],oo 9 (.ld false 1) [.t 8],oo 10 .call [.f zbg,.t 9],oo 11 (.build [v0,vn,vn] [(0,1),(1,1),(2,1)]) [.t 4,.t 7,.t 10],ou (.st 3) [.t 2,.t 11]] [[],[0],[],[2],[3],[],[5],[6,4],[1,4,7],[8,7,0,1,2,3,4,5,6,7,8]])
 .ret))⟩
def zb5 : AFun:=⟨42,[(4,none)],
 (.seq (.reg false [oo 4 .mv [kn]] [])
 (.seq (.reg false [oo 8 .mv [.t 0],oo 9 .mv [.t 1],oo 10 .call [.f zaP,.t 8,.t 9],oo 5 .mv [.t 10]] [])
 (.seq (.seq
 (.reg false [oo 11 .mv [.t 5],oo 12 (.bin .eql) [.t 11,ki (-1)]] [])
 (.cond (.t 12)
 (.seq (.reg false [
 oo 13 .mv [.t 0],
 oo 4 .mv [.t 13]] [])
 .ret)
 .skip))
 (.seq (.seq
 (.reg false [oo 14 .mv [.t 5],oo 15 (.bin .add) [.t 14,ki 1],oo 6 .mv [.t 15]] [])
 (.block 0 (.loop
 (.seq (.seq
 (.reg false [oo 16 .mv [.t 6],oo 17 .mv [.t 0],oo 18 .len [.t 17],oo 19 (.bin .lss) [.t 16,.t 18]] [])
 (.cond (.t 19)
 .skip
 (.exit 0)))
 (.seq (.block 1 (.seq (.reg false [oo 22 .mv [.t 0],oo 23 .mv [.t 6],oo 24 (.iad 3) [.t 22,.t 23],oo 25 (.ld true 3) [.t 24],oo 7 (.alloc [v0,v0,v0]) [],ou (.st 3) [.t 7,.t 25]] [])
 (.seq (.reg false [oo 26 .mv [.t 1],oo 27 (.ld true 3) [.t 7],oo 28 .call [.t 26,.t 27],oo 29 (.un .not) [.t 28]] [])
 (.cond (.t 29)
 (.seq (.reg false [
 oo 30 .mv [.t 0],
 oo 31 .mv [.t 5],
 oo 32 (.ld true 3) [.t 7],
 oo 33 (.iad 3) [.t 30,.t 31],
 ou (.st 3) [.t 33,.t 32]] [])
 (.reg false [
 oo 34 .mv [.t 5],
 oo 35 (.bin .add) [.t 34,ki 1],
 oo 5 .mv [.t 35]] []))
 .skip))))
 (.reg false [oo 20 .mv [.t 6],oo 21 (.bin .add) [.t 20,ki 1],oo 6 .mv [.t 21]] []))))))
 (.seq (.reg false [oo 36 .mv [.t 0],oo 37 .mv [.t 5],oo 38 (.slc 3 true false false) [.t 36,.t 37],ou (.clr 3 [v0,v0,v0]) [.t 38]] [])
 (.seq (.reg false [oo 39 .mv [.t 0],oo 40 .mv [.t 5],oo 41 (.slc 3 false true false) [.t 39,.t 40],oo 4 .mv [.t 41]] [])
 .ret))))))⟩
def zjh : AFun:=⟨8,[(3,none)],
 (.seq (.reg false [oo 2 (.box 3) [.t 0],oo 3 .mv [.c (.bool false)]] [])
 (.seq (.reg false [oo 4 (.fad 2) [.t 2],oo 5 (.ld false 1) [.t 4],oo 6 (.ld false 1) [.t 1],oo 7 (.bin .lss) [.t 5,.t 6],oo 3 .mv [.t 7]] [])
 .ret))⟩
def zew : AFun:=⟨48,[(4,none)],
 (.seq (.reg false [oo 4 .mv [kn]] [])
 (.seq (.seq
 (.reg false [oo 9 .mv [.t 1],oo 10 (.bin .lss) [.t 9,ki 0]] [])
 (.cond (.t 10)
 (.reg false [
 oo 11 .bad [],
 ou .bad []] [])
 .skip))
 (.seq (.reg false [oo 13 .mv [.t 0],oo 14 .len [.t 13],oo 15 (.cvt .u64) [.t 14],oo 16 .mv [.t 1],oo 17 (.cvt .u64) [.t 16],oo 18 .call [.f zdW,.t 15,.t 17],oo 12 .mv [.t 18],oo 19 (.ext 0) [.t 12],oo 20 (.ext 1) [.t 12],oo 5 .mv [.t 19],oo 6 .mv [.t 20]] [])
 (.seq (.seq
 (.reg false [oo 21 .mv [.t 5],oo 22 (.bin .gtr) [.t 21,(.c (.int .u64 0))],oo 23 .mv [.t 22],oh 24 .mv [.t 6] 23,oh 25 (.bin .gtr) [.t 24,(.c (.int .u64 9223372036854775807))] 23,oo 26 .pick [.t 23,.c (.bool true),.t 25]] [])
 (.cond (.t 26)
 (.reg false [
 oo 27 .bad [],
 ou .bad []] [])
 .skip))
 (.seq (.reg false [oo 28 .mv [.t 6],oo 29 (.cvt .i64) [.t 28],oo 30 (.mks 1 8 [v0]) [.t 29,.t 29],oo 7 .mv [.t 30]] [])
 (.seq (.reg false [oo 31 .mv [.t 7],oo 32 .mv [.t 0],oo 33 (.cpy 1) [.t 31,.t 32],oo 8 .mv [.t 33]] [])
 (.seq (.block 0 (.loop
 (.seq (.seq
 (.reg false [oo 34 .mv [.t 8],oo 35 .mv [.t 7],oo 36 .len [.t 35],oo 37 (.bin .lss) [.t 34,.t 36]] [])
 (.cond (.t 37)
 .skip
 (.exit 0)))
 (.block 1 (.reg true [oo 38 .mv [.t 8],oo 39 .mv [.t 7],oo 40 .mv [.t 8],oo 41 (.slc 1 true false false) [.t 39,.t 40],oo 42 .mv [.t 7],oo 43 .mv [.t 8],oo 44 (.slc 1 false true false) [.t 42,.t 43],oo 45 (.cpy 1) [.t 41,.t 44],oo 46 (.bin .add) [.t 38,.t 45],oo 8 .mv [.t 46]] [[],[],[],[1,2],[],[],[4,5],[3,6],[0,7],[8,7,0,1,2,3,4,5,6,7,8]])))))
 (.seq (.reg false [oo 47 .mv [.t 7],oo 4 .mv [.t 47]] [])
 .ret))))))))⟩
def zhR : AFun:=⟨9,[(4,none)],
 (.seq (.reg false [oo 4 .mv [.c (.bool false)]] [])
 (.seq (.reg false [oo 5 (.ld true 3) [.t 1],oo 6 (.ld false 1) [.t 2],oo 7 .mv [.t 0],oo 8 .call [.f zdq,.t 5,.t 6,.t 7],oo 4 .mv [.t 8]] [])
 .ret))⟩
def ziC : AFun:=⟨17,[(6,none)],
 (.seq (.reg false [oo 3 (.box 3) [.t 0],oo 6 .mv [.c (.bool false)]] [])
 (.seq (.reg false [oo 7 .mv [.t 1],oo 8 .mv [.t 2],oo 9 .call [.f zas,.t 7,.t 8],oo 10 .mv [.t 9],og 11 (.fad 2) [.t 3] 10,og 12 (.ld false 1) [.t 11] 10,og 13 .mv [.t 2] 10,og 14 .call [.f zas,.t 12,.t 13] 10,og 15 (.un .not) [.t 14] 10,oo 16 .pick [.t 10,.t 15,.c (.bool false)],oo 6 .mv [.t 16]] [])
 .ret))⟩
def zo8 : AFun:=⟨28,[(4,none)],
 (.seq (.reg false [oo 2 (.box 3) [.t 0],oo 4 .mv [kn]] [])
 (.seq (.reg false [oo 5 .mv [kn]] [])
 (.seq (.seq
 (.reg false [oo 8 (.fad 1) [.t 2],oo 9 (.ld false 1) [.t 8],oo 10 .len [.t 9],oo 11 .mv [ki 0]] [])
 (.block 0 (.loop
 (.seq (.reg false [oo 12 (.bin .lss) [.t 11,.t 10]] [])
 (.seq (.cond (.t 12)
 .skip
 (.exit 0))
 (.seq (.block 1 (.seq (.reg false [oo 13 (.iad 3) [.t 9,.t 11],oo 14 (.ld true 3) [.t 13],oo 7 (.alloc [v0,v0,v0]) [],ou (.st 3) [.t 7,.t 14]] [])
 (.seq (.reg false [oo 15 (.fad 0) [.t 7],oo 16 (.ld false 1) [.t 15],oo 17 .mv [.t 1],oo 18 (.bin .eql) [.t 16,.t 17]] [])
 (.cond (.t 18)
 (.reg false [
 oo 19 .mv [.t 5],
 oo 20 (.fad 1) [.t 7],
 oo 21 (.ld false 1) [.t 20],
 oo 22 (.bsl 1 1 [v0] [0]) [.t 21],
 oo 23 (.app 1 8) [.t 19,.t 22],
 oo 5 .mv [.t 23]] [])
 .skip))))
 (.reg false [oo 24 (.bin .add) [.t 11,ki 1],oo 11 .mv [.t 24]] [])))))))
 (.seq (.reg false [oo 25 .mv [.t 5],oo 26 .call [.f za0,.t 25]] [])
 (.seq (.reg false [oo 27 .mv [.t 5],oo 4 .mv [.t 27]] [])
 .ret)))))⟩
def zdu : AFun:=⟨42,[(4,none)],
 (.seq (.reg false [oo 4 .mv [kn]] [])
 (.seq (.reg false [oo 8 .mv [.t 0],oo 9 .mv [.t 1],oo 10 .call [.f zaV,.t 8,.t 9],oo 5 .mv [.t 10]] [])
 (.seq (.seq
 (.reg false [oo 11 .mv [.t 5],oo 12 (.bin .eql) [.t 11,ki (-1)]] [])
 (.cond (.t 12)
 (.seq (.reg false [
 oo 13 .mv [.t 0],
 oo 4 .mv [.t 13]] [])
 .ret)
 .skip))
 (.seq (.seq
 (.reg false [oo 14 .mv [.t 5],oo 15 (.bin .add) [.t 14,ki 1],oo 6 .mv [.t 15]] [])
 (.block 0 (.loop
 (.seq (.seq
 (.reg false [oo 16 .mv [.t 6],oo 17 .mv [.t 0],oo 18 .len [.t 17],oo 19 (.bin .lss) [.t 16,.t 18]] [])
 (.cond (.t 19)
 .skip
 (.exit 0)))
 (.seq (.block 1 (.seq (.reg false [oo 22 .mv [.t 0],oo 23 .mv [.t 6],oo 24 (.iad 1) [.t 22,.t 23],oo 25 (.ld false 1) [.t 24],oo 7 .mv [.t 25]] [])
 (.seq (.reg false [oo 26 .mv [.t 1],oo 27 .mv [.t 7],oo 28 .call [.t 26,.t 27],oo 29 (.un .not) [.t 28]] [])
 (.cond (.t 29)
 (.seq (.reg false [
 oo 30 .mv [.t 0],
 oo 31 .mv [.t 5],
 oo 32 .mv [.t 7],
 oo 33 (.iad 1) [.t 30,.t 31],
 ou (.st 1) [.t 33,.t 32]] [])
 (.reg false [
 oo 34 .mv [.t 5],
 oo 35 (.bin .add) [.t 34,ki 1],
 oo 5 .mv [.t 35]] []))
 .skip))))
 (.reg false [oo 20 .mv [.t 6],oo 21 (.bin .add) [.t 20,ki 1],oo 6 .mv [.t 21]] []))))))
 (.seq (.reg false [oo 36 .mv [.t 0],oo 37 .mv [.t 5],oo 38 (.slc 1 true false false) [.t 36,.t 37],ou (.clr 1 [v0]) [.t 38]] [])
 (.seq (.reg false [oo 39 .mv [.t 0],oo 40 .mv [.t 5],oo 41 (.slc 1 false true false) [.t 39,.t 40],oo 4 .mv [.t 41]] [])
 .ret))))))⟩
def zhK : AFun:=⟨17,[(3,none)],
 (.seq (.reg false [oo 3 .mv [.c (.bool false)]] [])
 (.seq (.reg false [oo 4 .mv [.t 0],oo 5 (.ld false 1) [.t 1],oo 6 .len [.t 5],oo 7 (.bin .sub) [.t 6,ki 1],oo 8 .call [.f zaL,.t 4,ki 0,.t 7],oo 9 (.un .not) [.t 8],oo 10 .mv [.t 9],oh 11 (.ld false 1) [.t 1] 10,oh 12 .mv [.t 0] 10,oh 13 (.iad 1) [.t 11,.t 12] 10,oh 14 (.ld false 1) [.t 13] 10,oh 15 (.bin .geq) [.t 14,ki 0] 10,oo 16 .pick [.t 10,.c (.bool true),.t 15],oo 3 .mv [.t 16]] [])
 .ret))⟩
def zm0 : AFun:=⟨18,[(2,none)],
 (.seq (.reg false [oo 2 .mv [ki 0]] [])
 (.seq (.reg false [oo 3 .mv [ki 0]] [])
 (.seq (.seq
 (.reg false [oo 6 .mv [.t 0],oo 7 .len [.t 6],oo 8 .mv [ki 0]] [])
 (.block 0 (.loop
 (.seq (.reg false [oo 9 (.bin .lss) [.t 8,.t 7]] [])
 (.seq (.cond (.t 9)
 .skip
 (.exit 0))
 (.seq (.block 1 (.seq (.reg false [oo 10 (.iad 1) [.t 6,.t 8],oo 11 (.ld false 1) [.t 10],oo 5 .mv [.t 11]] [])
 (.seq (.reg false [oo 12 .mv [.t 5],oo 13 .mv [.t 3],oo 14 (.bin .neq) [.t 12,.t 13]] [])
 (.cond (.t 14)
 (.seq (.reg false [
 oo 15 .mv [.t 5],
 oo 2 .mv [.t 15]] [])
 .ret)
 .skip))))
 (.reg false [oo 16 (.bin .add) [.t 8,ki 1],oo 8 .mv [.t 16]] [])))))))
 (.seq (.reg false [oo 17 .mv [.t 3],oo 2 .mv [.t 17]] [])
 .ret))))⟩
def zdP : AFun:=⟨63,[],
 (.seq (.reg false [oo 6 .mv [ki 20]] [])
 (.seq (.reg false [oo 10 .mv [.t 6],oo 7 .mv [ki 0],oo 8 .mv [.t 10]] [])
 (.seq (.block 0 (.loop
 (.seq (.seq
 (.reg false [oo 11 .mv [.t 8],oo 12 .mv [.t 1],oo 13 (.bin .leq) [.t 11,.t 12]] [])
 (.cond (.t 13)
 .skip
 (.exit 0)))
 (.block 1 (.seq (.reg false [oo 14 .mv [.t 0],oo 15 .mv [.t 7],oo 16 .mv [.t 8],oo 17 .mv [.t 2],oo 18 .call [.f zaK,.t 14,.t 15,.t 16,.t 17]] [])
 (.seq (.reg false [oo 19 .mv [.t 8],oo 7 .mv [.t 19]] [])
 (.reg false [oo 20 .mv [.t 8],oo 21 .mv [.t 6],oo 22 (.bin .add) [.t 20,.t 21],oo 8 .mv [.t 22]] [])))))))
 (.seq (.reg false [oo 23 .mv [.t 0],oo 24 .mv [.t 7],oo 25 .mv [.t 1],oo 26 .mv [.t 2],oo 27 .call [.f zaK,.t 23,.t 24,.t 25,.t 26]] [])
 (.block 2 (.loop
 (.seq (.seq
 (.reg false [oo 28 .mv [.t 6],oo 29 .mv [.t 1],oo 30 (.bin .lss) [.t 28,.t 29]] [])
 (.cond (.t 30)
 .skip
 (.exit 2)))
 (.block 3 (.seq (.reg false [oo 31 .mv [.t 6],oo 32 (.bin .mul) [ki 2,.t 31],oo 7 .mv [ki 0],oo 8 .mv [.t 32]] [])
 (.seq (.block 4 (.loop
 (.seq (.seq
 (.reg false [oo 33 .mv [.t 8],oo 34 .mv [.t 1],oo 35 (.bin .leq) [.t 33,.t 34]] [])
 (.cond (.t 35)
 .skip
 (.exit 4)))
 (.block 5 (.seq (.reg false [oo 36 .mv [.t 0],oo 37 .mv [.t 7],oo 38 .mv [.t 7],oo 39 .mv [.t 6],oo 40 (.bin .add) [.t 38,.t 39],oo 41 .mv [.t 8],oo 42 .mv [.t 2],oo 43 .call [.f zbU,.t 36,.t 37,.t 40,.t 41,.t 42]] [])
 (.seq (.reg false [oo 44 .mv [.t 8],oo 7 .mv [.t 44]] [])
 (.reg false [oo 45 .mv [.t 8],oo 46 .mv [.t 6],oo 47 (.bin .mul) [ki 2,.t 46],oo 48 (.bin .add) [.t 45,.t 47],oo 8 .mv [.t 48]] [])))))))
 (.seq (.seq
 (.reg false [oo 49 .mv [.t 7],oo 50 .mv [.t 6],oo 51 (.bin .add) [.t 49,.t 50],oo 9 .mv [.t 51]] [])
 (.seq (.reg false [oo 52 .mv [.t 9],oo 53 .mv [.t 1],oo 54 (.bin .lss) [.t 52,.t 53]] [])
 (.cond (.t 54)
 (.reg false [
 oo 55 .mv [.t 0],
 oo 56 .mv [.t 7],
 oo 57 .mv [.t 9],
 oo 58 .mv [.t 1],
 oo 59 .mv [.t 2],
 oo 60 .call [.f zbU,.t 55,.t 56,.t 57,.t 58,.t 59]] [])
 .skip)))
 (.reg false [oo 61 .mv [.t 6],oo 62 (.bin .mul) [.t 61,ki 2],oo 6 .mv [.t 62]] []))))))))))))⟩
def zjJ : AFun:=⟨6,[(2,none)],
 (.seq (.reg false [oo 2 .mv [.c (.bool false)]] [])
 (.seq (.reg false [oo 3 .mv [.t 0],oo 4 .mv [.t 0],oo 5 (.bin .neq) [.t 3,.t 4],oo 2 .mv [.t 5]] [])
 .ret))⟩
def zcz : AFun:=⟨8,[(2,none)],
 (.seq (.reg false [oo 2 .mv [kn]] [])
 (.seq (.seq
 (.reg false [oo 3 .mv [.t 0],oo 4 (.snil false) [.t 3]] [])
 (.cond (.t 4)
 (.seq (.reg false [
 oo 2 .mv [kn]] [])
 .ret)
 .skip))
 (.seq (.reg false [oo 5 (.bsl 3 0 [v0,v0,v0] []) [],oo 6 .mv [.t 0],oo 7 (.app 3 24) [.t 5,.t 6],oo 2 .mv [.t 7]] [])
 .ret)))⟩
def zb8 : AFun:=⟨19,[(4,none)],
 (.seq (.reg false [oo 4 .mv [ki 0]] [])
 (.seq (.seq
 (.reg false [oo 6 .mv [.t 0],oo 7 .len [.t 6],oo 8 .mv [ki 0]] [])
 (.block 0 (.loop
 (.seq (.reg false [oo 9 (.bin .lss) [.t 8,.t 7]] [])
 (.seq (.cond (.t 9)
 .skip
 (.exit 0))
 (.seq (.block 1 (.seq (.reg false [oo 10 .mv [.t 8],oo 5 .mv [.t 10]] [])
 (.seq (.reg false [oo 11 .mv [.t 1],oo 12 .mv [.t 0],oo 13 .mv [.t 5],oo 14 (.iad 3) [.t 12,.t 13],oo 15 (.ld true 3) [.t 14],oo 16 .call [.t 11,.t 15]] [])
 (.cond (.t 16)
 (.seq (.reg false [
 oo 17 .mv [.t 5],
 oo 4 .mv [.t 17]] [])
 .ret)
 .skip))))
 (.reg false [oo 18 (.bin .add) [.t 8,ki 1],oo 8 .mv [.t 18]] [])))))))
 (.seq (.reg false [oo 4 .mv [ki (-1)]] [])
 .ret)))⟩
def zeV : AFun:=⟨11,[],
 (.seq (.reg false [oo 3 .mv [.t 0],oo 4 .len [.t 3],oo 2 .mv [.t 4]] [])
 (.reg false [oo 5 .mv [.t 0],oo 6 .mv [.t 2],oo 7 .mv [.t 2],oo 8 (.cvt .u64) [.t 7],oo 9 .call [.f zjD,.t 8],oo 10 .call [.f zdB,.t 5,ki 0,.t 6,.t 9]] []))⟩
def zjr : AFun:=⟨30,[(4,none),(5,none)],
 (.seq (.reg false [oo 4 .mv [(.c (.int .u64 0))],oo 5 .mv [(.c (.int .u64 0))]] [])
 (.seq (.cond (.c (.bool false))
 (.seq (.reg false [
 oo 11 .mv [.t 0],
 oo 12 (.cvt .u32) [.t 11],
 oo 13 .mv [.t 1],
 oo 14 (.cvt .u32) [.t 13],
 oo 15 .call [.f zhX,.t 12,.t 14],
 oo 10 .mv [.t 15],
 oo 16 (.ext 0) [.t 10],
 oo 17 (.ext 1) [.t 10],
 oo 6 .mv [.t 16],
 oo 7 .mv [.t 17]] [])
 (.seq (.reg false [
 oo 18 .mv [.t 6],
 oo 19 (.cvt .u64) [.t 18],
 oo 20 .mv [.t 7],
 oo 21 (.cvt .u64) [.t 20],
 oo 4 .mv [.t 19],
 oo 5 .mv [.t 21]] [])
 .ret))
 .skip)
 (.seq (.reg false [oo 23 .mv [.t 0],oo 24 .mv [.t 1],oo 25 .call [.f zc1,.t 23,.t 24],oo 22 .mv [.t 25],oo 26 (.ext 0) [.t 22],oo 27 (.ext 1) [.t 22],oo 8 .mv [.t 26],oo 9 .mv [.t 27]] [])
 (.seq (.reg false [oo 28 .mv [.t 8],oo 29 .mv [.t 9],oo 4 .mv [.t 28],oo 5 .mv [.t 29]] [])
 .ret))))⟩
def zcA : AFun:=⟨53,[],
 (.seq (.reg false [oo 10 .mv [.t 1],oo 11 (.bin .add) [.t 10,ki 1],oo 8 .mv [.t 11]] [])
 (.block 0 (.loop
 (.seq (.seq
 (.reg false [oo 12 .mv [.t 8],oo 13 .mv [.t 2],oo 14 (.bin .lss) [.t 12,.t 13]] [])
 (.cond (.t 14)
 .skip
 (.exit 0)))
 (.seq (.block 1 (.seq (.reg false [oo 17 .mv [.t 8],oo 9 .mv [.t 17]] [])
 (.block 2 (.loop
 (.seq (.seq
 (.reg true [oo 18 .mv [.t 9],oo 19 .mv [.t 1],oo 20 (.bin .gtr) [.t 18,.t 19],oo 21 .mv [.t 20],og 22 .mv [.t 3] 21,og 23 .mv [.t 0] 21,og 24 .mv [.t 9] 21,og 25 (.iad 1) [.t 23,.t 24] 21,og 26 (.ld false 1) [.t 25] 21,og 27 .mv [.t 0] 21,og 28 .mv [.t 9] 21,og 29 (.bin .sub) [.t 28,ki 1] 21,og 30 (.iad 1) [.t 27,.t 29] 21,og 31 (.ld false 1) [.t 30] 21,og 32 .call [.t 22,.t 26,.t 31] 21,og 33 (.bin .lss) [.t 32,ki 0] 21,oo 34 .pick [.t 21,.t 33,.c (.bool false)]] [[],[],[0,1],[2],[3],[3],[3],[5,6,3],[7,3],[3],[3],[10,3],[9,11,3],[12,3],[4,8,13,3,3],[14,3],[3,15]])
 (.cond (.t 34)
 .skip
 (.exit 2)))
 (.seq (.block 3 (.reg true [oo 37 .mv [.t 0],oo 38 .mv [.t 9],oo 39 .mv [.t 0],oo 40 .mv [.t 9],oo 41 (.bin .sub) [.t 40,ki 1],oo 42 .mv [.t 0],oo 43 .mv [.t 9],oo 44 (.bin .sub) [.t 43,ki 1],oo 45 (.iad 1) [.t 42,.t 44],oo 46 (.ld false 1) [.t 45],oo 47 .mv [.t 0],oo 48 .mv [.t 9],oo 49 (.iad 1) [.t 47,.t 48],oo 50 (.ld false 1) [.t 49],oo 51 (.iad 1) [.t 37,.t 38],ou (.st 1) [.t 51,.t 46],oo 52 (.iad 1) [.t 39,.t 41],ou (.st 1) [.t 52,.t 50]] [[],[],[],[],[3],[],[],[6],[5,7],[8],[],[],[10,11],[12],[0,1,0,1,5,6,7,8,9,13],[14,9,0,1,5,6,7,8,9,13],[2,4,0,1,2,3,4,5,6,7,8,9,10,11,12,13,14,15],[16,13,15,0,1,2,3,4,5,6,7,8,9,10,11,12,13,14,15]]))
 (.reg false [oo 35 .mv [.t 9],oo 36 (.bin .sub) [.t 35,ki 1],oo 9 .mv [.t 36]] [])))))))
 (.reg false [oo 15 .mv [.t 8],oo 16 (.bin .add) [.t 15,ki 1],oo 8 .mv [.t 16]] []))))))⟩
def zhN : AFun:=⟨51,[(4,none),(5,none)],
 (.seq (.reg false [oo 4 .mv [(.c (.int .u64 0))],oo 5 .mv [(.c (.int .u64 0))]] [])
 (.seq (.reg false [oo 14 .mv [.t 0],oo 15 (.bin .and) [.t 14,(.c (.int .u64 4294967295))],oo 6 .mv [.t 15]] [])
 (.seq (.reg false [oo 16 .mv [.t 0],oo 17 (.bin .shr) [.t 16,(.c (.int .u64 32))],oo 7 .mv [.t 17]] [])
 (.seq (.reg false [oo 18 .mv [.t 1],oo 19 (.bin .and) [.t 18,(.c (.int .u64 4294967295))],oo 8 .mv [.t 19]] [])
 (.seq (.reg false [oo 20 .mv [.t 1],oo 21 (.bin .shr) [.t 20,(.c (.int .u64 32))],oo 9 .mv [.t 21]] [])
 (.seq (.reg false [oo 22 .mv [.t 6],oo 23 .mv [.t 8],oo 24 (.bin .mul) [.t 22,.t 23],oo 10 .mv [.t 24]] [])
 (.seq (.reg false [oo 25 .mv [.t 7],oo 26 .mv [.t 8],oo 27 (.bin .mul) [.t 25,.t 26],oo 28 .mv [.t 10],oo 29 (.bin .shr) [.t 28,(.c (.int .u64 32))],oo 30 (.bin .add) [.t 27,.t 29],oo 11 .mv [.t 30]] [])
 (.seq (.reg false [oo 31 .mv [.t 11],oo 32 (.bin .and) [.t 31,(.c (.int .u64 4294967295))],oo 12 .mv [.t 32]] [])
 (.seq (.reg false [oo 33 .mv [.t 11],oo 34 (.bin .shr) [.t 33,(.c (.int .u64 32))],oo 13 .mv [.t 34]] [])
 (.seq (.reg false [oo 35 .mv [.t 12],oo 36 .mv [.t 6],oo 37 .mv [.t 9],oo 38 (.bin .mul) [.t 36,.t 37],oo 39 (.bin .add) [.t 35,.t 38],oo 12 .mv [.t 39]] [])
 (.seq (.reg false [oo 40 .mv [.t 7],oo 41 .mv [.t 9],oo 42 (.bin .mul) [.t 40,.t 41],oo 43 .mv [.t 13],oo 44 (.bin .add) [.t 42,.t 43],oo 45 .mv [.t 12],oo 46 (.bin .shr) [.t 45,(.c (.int .u64 32))],oo 47 (.bin .add) [.t 44,.t 46],oo 4 .mv [.t 47]] [])
 (.seq (.reg false [oo 48 .mv [.t 0],oo 49 .mv [.t 1],oo 50 (.bin .mul) [.t 48,.t 49],oo 5 .mv [.t 50]] [])
 .ret))))))))))))⟩
theorem mixed : Tryz.prog.follows .mixedOrders = true:=by kernel_rfl
theorem znt : Src Tryz.prog zdh znc:=⟨mixed,Tryz.f19,by kernel_rfl,by kernel_rfl,by decide⟩
theorem zo6 : Src Tryz.prog zdY zoR:=⟨mixed,Tryz.f21,by kernel_rfl,by kernel_rfl,by decide⟩
theorem zhZ : Src Tryz.prog zbk zhQ:=⟨mixed,Tryz.f22,by kernel_rfl,by kernel_rfl,by decide⟩
theorem zjl : Src Tryz.prog zcx ziw:=⟨mixed,Tryz.f26,by kernel_rfl,by kernel_rfl,by decide⟩
theorem zmX : Src Tryz.prog zcE zne:=⟨mixed,Tryz.f32,by kernel_rfl,by kernel_rfl,by decide⟩
theorem zkJ : Src Tryz.prog zcu zle:=⟨mixed,Tryz.f33,by kernel_rfl,by kernel_rfl,by decide⟩
theorem zic : Src Tryz.prog zax ziQ:=⟨mixed,Tryz.f37,by kernel_rfl,by kernel_rfl,by decide⟩
theorem zq0 : Src Tryz.prog zjb zqh:=⟨mixed,Tryz.f38,by kernel_rfl,by kernel_rfl,by decide⟩
theorem znF : Src Tryz.prog zex znJ:=⟨mixed,Tryz.f39,by kernel_rfl,by kernel_rfl,by decide⟩
theorem zo4 : Src Tryz.prog zaJ zke:=⟨mixed,Tryz.f41,by kernel_rfl,by kernel_rfl,by decide⟩
theorem zl4 : Src Tryz.prog zfd zmf:=⟨mixed,Tryz.f43,by kernel_rfl,by kernel_rfl,by decide⟩
theorem zlR : Src Tryz.prog zdI zlN:=⟨mixed,Tryz.f44,by kernel_rfl,by kernel_rfl,by decide⟩
theorem zoG : Src Tryz.prog zhg zoI:=⟨mixed,Tryz.f45,by kernel_rfl,by kernel_rfl,by decide⟩
theorem zi9 : Src Tryz.prog zdw zik:=⟨mixed,Tryz.f51,by kernel_rfl,by kernel_rfl,by decide⟩
theorem zjv : Src Tryz.prog zb7 zjy:=⟨mixed,Tryz.f53,by kernel_rfl,by kernel_rfl,by decide⟩
theorem zoV : Src Tryz.prog zfi zoJ:=⟨mixed,Tryz.f54,by kernel_rfl,by kernel_rfl,by decide⟩
theorem zdN : Src Tryz.prog zas zdT:=⟨mixed,Tryz.f78,by kernel_rfl,by kernel_rfl,by decide⟩
theorem zkx : Src Tryz.prog za7 zlf:=⟨mixed,Tryz.f79,by kernel_rfl,by kernel_rfl,by decide⟩
theorem zc3 : Src Tryz.prog zaR zc2:=⟨mixed,Tryz.f81,by kernel_rfl,by kernel_rfl,by decide⟩
theorem zow : Src Tryz.prog zfl zo7:=⟨mixed,Tryz.f83,by kernel_rfl,by kernel_rfl,by decide⟩
theorem zlM : Src Tryz.prog zeN zmC:=⟨mixed,Tryz.f93,by kernel_rfl,by kernel_rfl,by decide⟩
theorem zmz : Src Tryz.prog ze5 zl1:=⟨mixed,Tryz.f94,by kernel_rfl,by kernel_rfl,by decide⟩
theorem zlO : Src Tryz.prog zeZ zl7:=⟨mixed,Tryz.f111,by kernel_rfl,by kernel_rfl,by decide⟩
theorem zp4 : Src Tryz.prog zaL zp2:=⟨mixed,Tryz.f112,by kernel_rfl,by kernel_rfl,by decide⟩
theorem zi5 : Src Tryz.prog zdk zjg:=⟨mixed,Tryz.f113,by kernel_rfl,by kernel_rfl,by decide⟩
theorem zl2 : Src Tryz.prog zcY zmx:=⟨mixed,Tryz.f114,by kernel_rfl,by kernel_rfl,by decide⟩
theorem zhC : Src Tryz.prog zbT zmL:=⟨mixed,Tryz.f120,by kernel_rfl,by kernel_rfl,by decide⟩
theorem zeH : Src Tryz.prog zbI zeJ:=⟨mixed,Tryz.f123,by kernel_rfl,by kernel_rfl,by decide⟩
theorem zlm : Src Tryz.prog zdd zlp:=⟨mixed,Tryz.f124,by kernel_rfl,by kernel_rfl,by decide⟩
theorem zdA : Src Tryz.prog zaV zdx:=⟨mixed,Tryz.f126,by kernel_rfl,by kernel_rfl,by decide⟩
theorem zkz : Src Tryz.prog zb0 zlo:=⟨mixed,Tryz.f132,by kernel_rfl,by kernel_rfl,by decide⟩
theorem zcD : Src Tryz.prog zbg zeG:=⟨mixed,Tryz.f135,by kernel_rfl,by kernel_rfl,by decide⟩
theorem znn : Src Tryz.prog zea znu:=⟨mixed,Tryz.f139,by kernel_rfl,by kernel_rfl,by decide⟩
theorem zjC : Src Tryz.prog zcT zjt:=⟨mixed,Tryz.f140,by kernel_rfl,by kernel_rfl,by decide⟩
theorem zgE : Src Tryz.prog zbn zgn:=⟨mixed,Tryz.f141,by kernel_rfl,by kernel_rfl,by decide⟩
theorem zcN : Src Tryz.prog zaY zcO:=⟨mixed,Tryz.f142,by kernel_rfl,by kernel_rfl,by decide⟩
theorem zgy : Src Tryz.prog zbL zgD:=⟨mixed,Tryz.f143,by kernel_rfl,by kernel_rfl,by decide⟩
theorem zhL : Src Tryz.prog zbD zhU:=⟨mixed,Tryz.f144,by kernel_rfl,by kernel_rfl,by decide⟩
theorem zly : Src Tryz.prog zd9 zlq:=⟨mixed,Tryz.f145,by kernel_rfl,by kernel_rfl,by decide⟩
theorem zb4 : Src Tryz.prog zaO zb5:=⟨mixed,Tryz.f146,by kernel_rfl,by kernel_rfl,by decide⟩
theorem zir : Src Tryz.prog zct zjh:=⟨mixed,Tryz.f147,by kernel_rfl,by kernel_rfl,by decide⟩
theorem zes : Src Tryz.prog zbC zew:=⟨mixed,Tryz.f154,by kernel_rfl,by kernel_rfl,by decide⟩
theorem zhV : Src Tryz.prog zcd zhR:=⟨mixed,Tryz.f155,by kernel_rfl,by kernel_rfl,by decide⟩
theorem ziR : Src Tryz.prog zdq ziC:=⟨mixed,Tryz.f156,by kernel_rfl,by kernel_rfl,by decide⟩
theorem zo2 : Src Tryz.prog zg8 zo8:=⟨mixed,Tryz.f157,by kernel_rfl,by kernel_rfl,by decide⟩
theorem zdj : Src Tryz.prog zbc zdu:=⟨mixed,Tryz.f158,by kernel_rfl,by kernel_rfl,by decide⟩
theorem zhF : Src Tryz.prog zca zhK:=⟨mixed,Tryz.f159,by kernel_rfl,by kernel_rfl,by decide⟩
theorem zmT : Src Tryz.prog zfT zm0:=⟨mixed,Tryz.f166,by kernel_rfl,by kernel_rfl,by decide⟩
theorem zdR : Src Tryz.prog zbp zdP:=⟨mixed,Tryz.f167,by kernel_rfl,by kernel_rfl,by decide⟩
theorem zjB : Src Tryz.prog zcS zjJ:=⟨mixed,Tryz.f168,by kernel_rfl,by kernel_rfl,by decide⟩
theorem zbr : Src Tryz.prog zaU zcz:=⟨mixed,Tryz.f169,by kernel_rfl,by kernel_rfl,by decide⟩
theorem zb6 : Src Tryz.prog zaP zb8:=⟨mixed,Tryz.f170,by kernel_rfl,by kernel_rfl,by decide⟩
theorem zcX : Src Tryz.prog za0 zeV:=⟨mixed,Tryz.f172,by kernel_rfl,by kernel_rfl,by decide⟩
theorem zjL : Src Tryz.prog zdW zjr:=⟨mixed,Tryz.f175,by kernel_rfl,by kernel_rfl,by decide⟩
theorem zcy : Src Tryz.prog zaK zcA:=⟨mixed,Tryz.f178,by kernel_rfl,by kernel_rfl,by decide⟩
theorem zh0 : Src Tryz.prog zc1 zhN:=⟨mixed,Tryz.f184,by kernel_rfl,by kernel_rfl,by decide⟩
abbrev ints (l : List Int) : AV:=.vs 1 false (l.map fun n=>[AV.I n])
theorem zf2 (l : List Int) (n : Int) (hl : l.length ≤ 140737488355328) : zaj Tryz.prog zaJ [ints l,.I n] [] (.B (l.contains n)) []:=by
 refine zo4.acalls (by simp [zke]) (by simp) (by simp) ?_
 show awp _ 0 _ _ ⟨18,[(0,ints l),(1,.I n)],[],16⟩
 refine zaa (zac (s:=?s1) rfl ?o1 ?q1)
 case o1=>simp; rfl
 refine zaa (zaa (zac (s:=?s2) rfl ?o2 ?q2))
 case o2=>simp; rfl
 refine zaf ?_
 refine zap (ι:=Nat) (fun k=>{ sz:=18,t:=[(0,ints l),(1,.I n),(5,.I k)],h:=[],n:=16 }) (fun k=>k ≤ l.length ∧ n ∉ l.take k) (fun k=>l.length - k) 0 (by simp) ?_ ?_
 ·refine Le.slots rfl rfl ?_
  simp [ints]
 ·rintro k ⟨hk,hn⟩
  refine zaa (zaa (zac (s:=?s3) rfl ?o3 ?q3))
  case o3=>simp; rfl
  refine zad _ rfl ?_ ?_
  ·intro hlt
   simp only [decide_eq_true_eq,Int.ofNat_lt] at hlt
   show awp _ _ _ _ _
   refine zaa (zaf (zaa (zac (s:=?s4) rfl ?o4 ?q4)))
   case o4=>simp [hlt]; rfl
   refine zad _ rfl ?_ ?_
   ·intro heq
    refine zaa (zac (s:=?s5) rfl ?o5 ?q5)
    case o5=>simp; rfl
    refine ⟨.inr rfl,zan.one ?_⟩
    have : n ∈ l:=by simp at heq; simp [← heq]
    simp [this]
   ·intro hne
    refine zae (zac (s:=?s6) rfl ?o6 ?q6)
    case o6=>simp; rfl
    refine ⟨k + 1,⟨by omega,?_⟩,by omega,Le.slots rfl rfl ?_⟩
    ·intro hm
     simp at hne
     rw [List.take_succ_eq_append_getElem hlt] at hm
     rcases List.mem_append.1 hm with h | h
     ·exact hn h
     ·exact hne (List.mem_singleton.1 h).symm
    ·have hw : IntKind.i64.wrap ((k : Int) + 1) = ((k + 1 : Nat) : Int):=w64 (by omega) (by omega)
     simp [Wk.refl,hw]
  ·intro hge
   refine zao (hit ?_)
   refine zaa (zac (s:=?s7) rfl ?o7 ?q7)
   case o7=>simp; rfl
   refine zag ⟨.inr rfl,zan.one ?_⟩
   simp at hge
   have : n ∉ l:=by
    have : l.take k = l:=List.take_of_length_le hge
    rw [this] at hn
    exact hn
   simp [this]
theorem zof (x : Int) : zaj Tryz.prog zcS [.I x] [] (.B false) []:=by
 refine zjB.acalls (Nat.le_of_ble_eq_true rfl) (Nat.le_of_ble_eq_true rfl) (Nat.le_refl _) ?_
 show awp _ 0 _ _ ⟨6,[(0,.I x)],[],16⟩
 refine zaa (zac (s:=?s1) rfl ?o1 ?q1)
 case o1=>simp; rfl
 refine zaa (zac (s:=?s2) rfl ?o2 ?q2)
 case o2=>simp; rfl
 exact zag ⟨.inr rfl,zan.one (by simp)⟩
theorem zbq (n lo hi : Int) : zaj Tryz.prog zaL [.I n,.I lo,.I hi] [] (.B (decide (lo ≤ n) && decide (n ≤ hi))) []:=by
 refine zp4.acalls (Nat.le_of_ble_eq_true rfl) (Nat.le_of_ble_eq_true rfl) (Nat.le_refl _) ?_
 show awp _ 0 _ _ ⟨15,[(0,.I n),(1,.I lo),(2,.I hi)],[],16⟩
 refine zaa (zac (s:=?s1) rfl ?o1 ?q1)
 case o1=>simp; rfl
 by_cases h : lo ≤ n
 ·refine zaa (zac (s:=?s2) rfl ?o2 ?q2)
  case o2=>simp [h]; rfl
  exact zag ⟨.inr rfl,zan.one (by simp [h])⟩
 ·refine zaa (zac (s:=?s3) rfl ?o3 ?q3)
  case o3=>simp [h]; rfl
  exact zag ⟨.inr rfl,zan.one (by simp [h])⟩
def cmpI (x y : Int) : Int:=if x < y then -1 else if x > y then 1 else 0
theorem zhm (x y : Int) : zaj Tryz.prog zbD [.I x,.I y] [] (.I (cmpI x y)) []:=by
 refine zhL.acalls (Nat.le_of_ble_eq_true rfl) (Nat.le_of_ble_eq_true rfl) (Nat.le_refl _) ?_
 show awp _ 0 _ _ ⟨20,[(0,.I x),(1,.I y)],[],16⟩
 refine zaa (zac (s:=?s1) rfl ?o1 ?q1)
 case o1=>simp; rfl
 refine zaa (zac (s:=?s2) rfl ?o2 ?q2)
 case o2=>simp; refine zam (zof _) rfl ?_; simp; rfl
 refine zaa (zac (s:=?s3) rfl ?o3 ?q3)
 case o3=>simp; refine zam (zof _) rfl ?_; simp; rfl
 refine zaa (zaa (zac (s:=?s4) rfl ?o4 ?q4))
 case o4=>simp; rfl
 refine zad _ rfl (fun h=>by cases h) fun _=>zae ?_
 refine zaa (zaa (zac (s:=?s5) rfl ?o5 ?q5))
 case o5=>simp; rfl
 refine zad _ rfl (fun h=>by cases h) fun _=>zae ?_
 refine zaa (zaa (zac (s:=?s6) rfl ?o6 ?q6))
 case o6=>simp; rfl
 refine zad _ rfl (fun h=>?_) fun h1=>zae ?_
 ·refine zaa (zac (s:=?s7) rfl ?o7 ?q7)
  case o7=>simp; rfl
  exact zag ⟨.inr rfl,zan.one (by simp at h; simp [cmpI,h])⟩
 refine zaa (zaa (zac (s:=?s8) rfl ?o8 ?q8))
 case o8=>simp; rfl
 refine zad _ rfl (fun h=>?_) fun h2=>zae ?_
 ·refine zaa (zac (s:=?s9) rfl ?o9 ?q9)
  case o9=>simp; rfl
  exact zag ⟨.inr rfl,zan.one (by simp at h h1; simp [cmpI,h,Int.not_lt.2 h1])⟩
 refine zaa (zac (s:=?s10) rfl ?o10 ?q10)
 case o10=>simp; rfl
 exact zag ⟨.inr rfl,zan.one (by simp at h1 h2; simp [cmpI,Int.not_lt.2 h1,Int.not_lt.2 h2])⟩
theorem zug (l : List Int) (hl : l.length ≤ 140737488355328) : zaj Tryz.prog zfT [ints l] [] (.I ((l.find? (· != 0)).getD 0)) []:=by
 refine zmT.acalls (Nat.le_of_ble_eq_true rfl) (Nat.le_of_ble_eq_true rfl) (Nat.le_refl _) ?_
 show awp _ 0 _ _ ⟨18,[(0,ints l)],[],16⟩
 refine zaa ?_
 refine zac (s:=?s1) rfl ?o1 ?q1
 case o1=>simp; rfl
 refine zaa ?_
 refine zac (s:=?s2) rfl ?o2 ?q2
 case o2=>simp; rfl
 refine zaa ?_
 refine zaa ?_
 refine zac (s:=?s3) rfl ?o3 ?q3
 case o3=>simp; rfl
 refine zaf ?_
 refine zap (ι:=Nat) (fun k=>⟨18,[(3,.I 0),(6,ints l),(7,.I l.length),(8,.I k)],[],16⟩) (fun k=>k ≤ l.length ∧ l.find? (· != 0) = (l.drop k).find? (· != 0)) (fun k=>l.length - k) 0 ?_ (Le.slots rfl rfl ?_) ?_
 ·simp
 ·simp
 rintro k ⟨hk,hf⟩
 refine zaa ?_
 refine zac (s:=?s4) rfl ?o4 ?q4
 case o4=>simp; rfl
 refine zaa ?_
 refine zad _ rfl (fun h5=>?_) fun h5=>?_
 ·simp at h5
  rw [List.drop_eq_getElem_cons h5,List.find?_cons] at hf
  refine zae ?_
  refine zaa ?_
  refine zaf ?_
  refine zaa ?_
  refine zac (s:=?s6) rfl ?o6 ?q6
  case o6=>simp [h5]; rfl
  refine zaa ?_
  refine zac (s:=?s7) rfl ?o7 ?q7
  case o7=>simp; rfl
  refine zad _ rfl (fun h8=>?_) fun h8=>?_
  ·refine zaa ?_
   refine zac (s:=?s9) rfl ?o9 ?q9
   case o9=>simp; rfl
   refine zag ?_
   rw [h8] at hf
   exact ⟨.inr rfl,zan.one (by simp [hf])⟩
  refine zae ?_
  refine zac (s:=?s10) rfl ?o10 ?q10
  case o10=>simp; rfl
  rw [h8] at hf
  have hw : IntKind.i64.wrap ((k : Int) + 1) = (k : Int) + 1:=w64 (by omega) (by omega)
  refine ⟨k + 1,⟨h5,hf⟩,by omega,Le.slots rfl rfl ?_⟩
  simp [hw]
 simp at h5
 rw [List.drop_eq_nil_of_le h5] at hf
 refine zao ?_
 refine hit ?_
 refine zaa ?_
 refine zac (s:=?s11) rfl ?o11 ?q11
 case o11=>simp; rfl
 refine zag ?_
 exact ⟨.inr rfl,zan.one (by simp [hf])⟩
structure Ed where
 f : Int
 t : Int
 v : Int
 deriving DecidableEq,Inhabited
abbrev Ed.row (e : Ed) : List AV:=[.I e.f,.I e.t,.I e.v]
abbrev eE (e : Ed) : AV:=.agg [.I e.f,.I e.t,.I e.v]
abbrev eEs (l : List Ed) : AV:=.vs 3 false (l.map fun e=>[.I e.f,.I e.t,.I e.v])
def cmpE (a b : Ed) : Int:=([cmpI a.f b.f,cmpI a.t b.t].find? (· != 0)).getD 0
theorem zhJ (a b : Ed) : zaj Tryz.prog zcT [eE a,eE b] [] (.I (cmpE a b)) []:=by
 refine zjC.acalls (Nat.le_of_ble_eq_true rfl) (Nat.le_of_ble_eq_true rfl) (Nat.le_refl _) ?_
 show awp _ 0 _ _ ⟨17,[(0,eE a),(1,eE b)],[],16⟩
 refine zaa ?_
 refine zac (s:=?s1) rfl ?o1 ?q1
 case o1=>simp; rfl
 refine zaa ?_
 refine zdK (s:=?s2) (tr:=?t2) rfl ?o2 ?r2 ?q2
 case o2 =>
  simp; refine zam (zhm ..) rfl ?_; simp; refine zam (zhm ..) rfl ?_; simp [zhM]
  refine zhE [120] (zug [cmpI a.f b.f,cmpI a.t b.t] (by simp)) (by simp) (.sc _) ?_; simp; constructor <;> rfl
 case r2=>rfl
 refine zag ?_
 exact ⟨.inr rfl,zan.one (by simp; exact .refl _)⟩
def idxI (l : List Int) (x : Int) : Int:=if x ∈ l then (l.idxOf x : Int) else -1
theorem zd3 (l : List Int) (x : Int) (hl : l.length ≤ 140737488355328) : zaj Tryz.prog zbI [ints l,.I x] [] (.I (idxI l x)) []:=by
 refine zeH.acalls (Nat.le_of_ble_eq_true rfl) (Nat.le_of_ble_eq_true rfl) (Nat.le_refl _) ?_
 show awp _ 0 _ _ ⟨19,[(0,ints l),(1,.I x)],[],16⟩
 refine zaa ?_
 refine zac (s:=?s1) rfl ?o1 ?q1
 case o1=>simp; rfl
 refine zaa ?_
 refine zaa ?_
 refine zac (s:=?s2) rfl ?o2 ?q2
 case o2=>simp; rfl
 refine zaf ?_
 refine zap (ι:=Nat) (fun k=>⟨19,[(0,ints l),(1,.I x),(6,ints l),(7,.I l.length),(8,.I k)],[],16⟩) (fun k=>k ≤ l.length ∧ x ∉ l.take k) (fun k=>l.length - k) 0 ?_ (Le.slots rfl rfl ?_) ?_
 ·simp
 ·simp
 rintro k ⟨hk,hn⟩
 refine zaa ?_
 refine zac (s:=?s3) rfl ?o3 ?q3
 case o3=>simp; rfl
 refine zaa ?_
 refine zad _ rfl (fun h4=>?_) fun h4=>?_
 ·simp at h4
  refine zae ?_
  refine zaa ?_
  refine zaf ?_
  refine zaa ?_
  refine zac (s:=?s5) rfl ?o5 ?q5
  case o5=>simp; rfl
  refine zaa ?_
  refine zac (s:=?s6) rfl ?o6 ?q6
  case o6=>simp [h4]; rfl
  refine zad _ rfl (fun h7=>?_) fun h7=>?_
  ·refine zaa ?_
   refine zac (s:=?s8) rfl ?o8 ?q8
   case o8=>simp; rfl
   refine zag ?_
   have hm : x ∈ l:=by simp at h7; rw [h7]; exact List.getElem_mem h4
   have hi : l.idxOf x = k:=by
    simp at h7
    have h1 : l = l.take k ++ x :: l.drop (k + 1):=by rw [h7,← List.drop_eq_getElem_cons h4,List.take_append_drop]
    rw [h1,List.idxOf_append,if_neg hn,List.idxOf_cons_self]
    simp
    omega
   exact ⟨.inr rfl,zan.one (by simp [idxI,hm,hi])⟩
  refine zae ?_
  refine zac (s:=?s9) rfl ?o9 ?q9
  case o9=>simp; rfl
  have hw : IntKind.i64.wrap ((k : Int) + 1) = (k : Int) + 1:=w64 (by omega) (by omega)
  refine ⟨k + 1,⟨h4,?_⟩,by omega,Le.slots rfl rfl ?_⟩
  ·intro hm
   simp at h7
   rw [List.take_succ_eq_append_getElem h4] at hm
   rcases List.mem_append.1 hm with h | h
   ·exact hn h
   ·exact h7 (List.mem_singleton.1 h)
  ·simp [hw]
 simp at h4
 refine zao ?_
 refine hit ?_
 refine zaa ?_
 refine zac (s:=?s10) rfl ?o10 ?q10
 case o10=>simp; rfl
 refine zag ?_
 rw [List.take_of_length_le h4] at hn
 exact ⟨.inr rfl,zan.one (by simp [idxI,hn])⟩
theorem zcJ (l : List Int) (x : Int) (hl : l.length ≤ 140737488355328) : zaj Tryz.prog zas [ints l,.I x] [] (.B (decide (x ∈ l))) []:=by
 refine zdN.acalls (Nat.le_of_ble_eq_true rfl) (Nat.le_of_ble_eq_true rfl) (Nat.le_refl _) ?_
 show awp _ 0 _ _ ⟨9,[(0,ints l),(1,.I x)],[],16⟩
 refine zaa ?_
 refine zac (s:=?s1) rfl ?o1 ?q1
 case o1=>simp; rfl
 refine zaa ?_
 refine zac (s:=?s2) rfl ?o2 ?q2
 case o2=>simp; refine zam (zd3 l x hl) rfl ?_; simp; rfl
 refine zag ?_
 have : decide (0 ≤ idxI l x) = decide (x ∈ l):=by
  unfold idxI
  by_cases h : x ∈ l
  ·simp [h]
  ·simp [h]
 exact ⟨.inr rfl,zan.one (by simp [this])⟩
def zkq (l : List Int) (lo hi : Int) (i : Nat) : Prop:=∀ h : i < l.length,lo ≤ l[i] ∧ l[i] ≤ hi ∧ (0 < i → l[i - 1] < l[i])
def Rise (l : List Int) (lo hi : Int) : Prop:=∀ i,zkq l lo hi i
open Classical in
theorem zbQ (l : List Int) (lo hi : Int) (hl : l.length ≤ 140737488355328) : zaj Tryz.prog za7 [ints l,.I lo,.I hi] [] (.B (decide (Rise l lo hi))) []:=by
 refine zkx.acalls (Nat.le_of_ble_eq_true rfl) (Nat.le_of_ble_eq_true rfl) (Nat.le_refl _) ?_
 show awp _ 0 _ _ ⟨38,[(0,ints l),(1,.I lo),(2,.I hi)],[],16⟩
 refine zaa ?_
 refine zac (s:=?s1) rfl ?o1 ?q1
 case o1=>simp; rfl
 refine zaa ?_
 refine zaa ?_
 refine zac (s:=?s2) rfl ?o2 ?q2
 case o2=>simp; rfl
 refine zaf ?_
 refine zap (ι:=Nat) (fun k=>⟨38,[(0,ints l),(1,.I lo),(2,.I hi),(9,ints l),(10,.I l.length),(11,.I k)],[],16⟩) (fun k=>k ≤ l.length ∧ ∀ i,i < k → zkq l lo hi i) (fun k=>l.length - k) 0 ?_ (Le.slots rfl rfl ?_) ?_
 ·simp
 ·simp
 rintro k ⟨hk,hp⟩
 refine zaa ?_
 refine zac (s:=?s3) rfl ?o3 ?q3
 case o3=>simp; rfl
 refine zaa ?_
 refine zad _ rfl (fun h4=>?_) fun h4=>?_
 ·simp at h4
  have hw : IntKind.i64.wrap ((k : Int) + 1) = (k : Int) + 1:=w64 (by omega) (by omega)
  refine zae ?_
  refine zaa ?_
  refine zaf ?_
  refine zaa ?_
  refine zac (s:=?s5) rfl ?o5 ?q5
  case o5=>simp [h4]; rfl
  refine zaa ?_
  by_cases a1 : l[k] < lo
  ·refine zac (s:=?s21) rfl ?o21 ?q21
   case o21=>simp [a1]; rfl
   refine zad _ rfl (fun _=>?_) fun h=>by cases h
   refine zaa ?_
   refine zac (s:=?s21b) rfl ?o21b ?q21b
   case o21b=>simp; rfl
   refine zag ?_
   have hn : ¬ Rise l lo hi:=fun h=>by have:=h k h4; omega
   exact ⟨.inr rfl,zan.one (by simp [hn])⟩
  by_cases a2 : hi < l[k]
  ·refine zac (s:=?s22) rfl ?o22 ?q22
   case o22=>simp [a1,a2]; rfl
   refine zad _ rfl (fun _=>?_) fun h=>by cases h
   refine zaa ?_
   refine zac (s:=?s22b) rfl ?o22b ?q22b
   case o22b=>simp; rfl
   refine zag ?_
   have hn : ¬ Rise l lo hi:=fun h=>by have:=h k h4; omega
   exact ⟨.inr rfl,zan.one (by simp [hn])⟩
  by_cases a3 : 0 < k
  ·have hw1 : IntKind.i64.wrap ((k : Int) - 1) = ((k - 1 : Nat) : Int):=by rw [w64 (by omega) (by omega)]; omega
   have h5 : k - 1 < l.length:=by omega
   by_cases a4 : l[k] ≤ l[k - 1]
   ·refine zac (s:=?s23) rfl ?o23 ?q23
    case o23=>simp [a1,a2,a3,a4,hw1,h5]; rfl
    refine zad _ rfl (fun _=>?_) fun h=>by cases h
    refine zaa ?_
    refine zac (s:=?s23b) rfl ?o23b ?q23b
    case o23b=>simp; rfl
    refine zag ?_
    have hn : ¬ Rise l lo hi:=fun h=>by have:=h k h4; have:=this.2.2 a3; omega
    exact ⟨.inr rfl,zan.one (by simp [hn])⟩
   ·refine zac (s:=?s24) rfl ?o24 ?q24
    case o24=>simp [a1,a2,a3,a4,hw1,h5]; rfl
    refine zad _ rfl (fun h=>by cases h) fun _=>zae ?_
    refine zac (s:=?s24b) rfl ?o24b ?q24b
    case o24b=>simp; rfl
    refine ⟨k + 1,⟨h4,fun i hi=>?_⟩,by omega,Le.slots rfl rfl ?_⟩
    ·rcases Nat.lt_succ_iff_lt_or_eq.1 hi with h | rfl
     ·exact hp i h
     ·intro _; exact ⟨by omega,by omega,fun _=>by omega⟩
    ·simp [hw]
  ·refine zac (s:=?s25) rfl ?o25 ?q25
   case o25=>simp [a1,a2,a3]; rfl
   refine zad _ rfl (fun h=>by cases h) fun _=>zae ?_
   refine zac (s:=?s25b) rfl ?o25b ?q25b
   case o25b=>simp; rfl
   refine ⟨k + 1,⟨h4,fun i hi=>?_⟩,by omega,Le.slots rfl rfl ?_⟩
   ·rcases Nat.lt_succ_iff_lt_or_eq.1 hi with h | rfl
    ·exact hp i h
    ·intro _; exact ⟨by omega,by omega,fun h=>absurd h a3⟩
   ·simp [hw]
 simp at h4
 refine zao ?_
 refine hit ?_
 refine zaa ?_
 refine zac (s:=?s10) rfl ?o10 ?q10
 case o10=>simp; rfl
 refine zag ?_
 have hy : Rise l lo hi:=fun i hi=>hp i (by omega) hi
 exact ⟨.inr rfl,zan.one (by simp [hy])⟩
structure Gr where
 size : Int
 edges : List Ed
 gone : List Int
abbrev gC (g : Gr) : List AV:=[.I g.size,eEs g.edges,ints g.gone]
abbrev eG (g : Gr) : AV:=.agg (gC g)
abbrev eC (e : Ed) : List AV:=[.I e.f,.I e.t,.I e.v]
def Fits (g : Gr) (e : Ed) : Prop:=0 ≤ e.f ∧ e.f ≤ g.size - 1 ∧ 0 ≤ e.t ∧ e.t ≤ g.size - 1 ∧ e.f ≠ e.t ∧ e.f ∉ g.gone ∧ e.t ∉ g.gone
instance (g : Gr) (e : Ed) : Decidable (Fits g e):=by unfold Fits; infer_instance
theorem zk7 (g : Gr) (e : Ed) (hs : 0 ≤ g.size) (hs' : g.size ≤ 64) (hl : g.gone.length ≤ 140737488355328) : zaj Tryz.prog zea [eG g,eE e] [] (.B (decide (Fits g e))) []:=by
 refine znn.acalls (Nat.le_of_ble_eq_true rfl) (Nat.le_of_ble_eq_true rfl) (Nat.le_refl _) ?_
 show awp _ 0 _ _ ⟨42,[(0,eG g),(1,eE e)],[],16⟩
 refine zab ⟨42,[(2,.pv (gC g)),(3,.pv (eC e)),(4,.B false)],[],16⟩ rfl ?_ ?_
 ·simp -implicitDefEqProofs
  exact Le.snap [16,24] rfl rfl (by simp)
 have hw : IntKind.i64.wrap (g.size - 1) = g.size - 1:=w64 (by omega) (by omega)
 refine zab ⟨42,[(4,.B (decide (Fits g e)))],[],16⟩ rfl ?_ ?_
 ·simp [hw]
  repeat' first
   | (refine zdU zaL rfl ?_; refine zam (zbq ..) rfl ?_; simp [hw])
   | (refine zdU zas rfl ?_; refine zam (zcJ _ _ hl) rfl ?_; simp [hw])
   | (refine zdC (fun hb=>?_) (fun hb=>?_) <;> (try rw [hb]) <;> simp [hw])
  all_goals exact Le.snap [] rfl rfl (by simp; exact wkB (by simp at *; grind [Fits]))
 refine zag ?_
 exact ⟨.inr rfl,zan.one (by simp)⟩
def znC (g : Gr) : Prop:=0 ≤ g.size ∧ g.size ≤ 64 ∧ g.edges.length ≤ 500 ∧ Rise g.gone 0 (g.size - 1)
def EdAt (g : Gr) (i : Nat) : Prop:=∀ h : i < g.edges.length,Fits g g.edges[i] ∧ 1 ≤ g.edges[i].v ∧ g.edges[i].v ≤ 3 ∧ (0 < i → cmpE g.edges[i - 1] g.edges[i] < 0)
def GrOk (g : Gr) : Prop:=znC g ∧ ∀ i,EdAt g i
open Classical in
theorem zjx (g : Gr) (hl : g.edges.length ≤ 140737488355328) (hl2 : g.gone.length ≤ 140737488355328) : zaj Tryz.prog zeZ [eG g] [] (.I (if GrOk g then 0 else 14)) []:=by
 refine zlO.acalls (Nat.le_of_ble_eq_true rfl) (Nat.le_of_ble_eq_true rfl) (Nat.le_refl _) ?_
 show awp _ 0 _ _ ⟨58,[(0,eG g)],[],16⟩
 refine zab ⟨58,[(1,.pv (gC g))],[],16⟩ rfl ?_ ?_
 ·simp
  exact Le.snap [16] rfl rfl (by simp)
 refine zaa ?_
 refine zab ⟨58,[(1,.pv (gC g)),(23,.B (decide (¬ znC g)))],[],16⟩ rfl ?_ ?_
 ·simp
  repeat' first
   | (refine zdU zaL rfl ?_; refine zam (zbq ..) rfl ?_; simp)
   | (refine zdU za7 rfl ?_; have hw : IntKind.i64.wrap (g.size - 1) = g.size - 1:=w64 (by omega) (by omega); rw [hw]; refine zam (zbQ _ _ _ hl2) rfl ?_; simp)
   | (refine zdC (fun hb=>?_) (fun hb=>?_) <;> (try rw [hb]) <;> (try simp at hb) <;> simp [hb])
  all_goals exact Le.snap [] rfl rfl (by simp; exact wkB (by (try simp at *); grind [znC]))
 refine zad _ rfl (fun h1=>?_) fun h1=>?_
 ·refine zaa ?_
  refine zac (s:=?s2) rfl ?o2 ?q2
  case o2=>simp; rfl
  refine zag ?_
  simp at h1
  exact ⟨.inr rfl,zan.one (by simp [GrOk,h1])⟩
 simp at h1
 have hs:=h1.1
 have hs2:=h1.2.1
 refine zae ?_
 refine zaa ?_
 refine zaa ?_
 refine zac (s:=?s3) rfl ?o3 ?q3
 case o3=>simp; rfl
 refine zaf ?_
 refine zap (ι:=Nat) (fun k=>⟨58,[(1,.pv (gC g)),(25,eEs g.edges),(26,.I g.edges.length),(27,.I k)],[],16⟩) (fun k=>k ≤ g.edges.length ∧ ∀ i,i < k → EdAt g i) (fun k=>g.edges.length - k) (0) ?_ (Le.snap [] rfl rfl (by simp)) ?_
 ·simp
 rintro k ⟨hk,hp⟩
 refine zaa ?_
 refine zac (s:=?s4) rfl ?o4 ?q4
 case o4=>simp; rfl
 refine zaa ?_
 refine zad _ rfl (fun h5=>?_) fun h5=>?_
 ·simp at h5
  have hw2 : IntKind.i64.wrap ((k : Int) + 1) = (k : Int) + 1:=w64 (by omega) (by omega)
  have hwp : 0 < k → IntKind.i64.wrap ((k : Int) - 1) = ((k - 1 : Nat) : Int):=fun h=>by rw [w64 (by omega) (by omega)]; omega
  have h5' : k - 1 < g.edges.length:=by omega
  refine zae ?_
  refine zaa ?_
  refine zaf ?_
  refine zab ⟨58,[(1,.pv (gC g)),(3,.I k),(4,.pv (eC g.edges[k])),(25,eEs g.edges),(26,.I g.edges.length),(27,.I k)],[],16⟩ rfl ?_ ?_
  ·simp [h5]
   exact Le.snap [48] rfl rfl (by simp)
  refine zaF ⟨58,[(1,.pv (gC g)),(25,eEs g.edges),(26,.I g.edges.length),(27,.I k),(56,.B (decide (¬ EdAt g k)))],[],16⟩ rfl ?_ ?_
  ·simp
   repeat' first
    | (refine zdU zea rfl ?_; refine zam (zk7 g _ hs hs2 hl2) rfl ?_; simp)
    | (refine zdU zaL rfl ?_; refine zam (zbq ..) rfl ?_; simp)
    | (refine zdU zcT rfl ?_; refine zam (zhJ ..) rfl ?_; simp)
    | (refine zdC (fun hb=>?_) (fun hb=>?_) <;> (try rw [hb]) <;> (try simp at hb) <;> simp [hb,h5,h5',hwp])
   all_goals exact ⟨rfl,Le.snap [] rfl rfl (by simp; exact wkB (by (try simp at *); grind [EdAt]))⟩
  refine zad _ rfl (fun h6=>?_) fun h6=>?_
  ·refine zaa ?_
   refine zac (s:=?s7) rfl ?o7 ?q7
   case o7=>simp; rfl
   refine zag ?_
   have hn : ¬ GrOk g:=fun h=>by simp at h6; exact h6 (h.2 k)
   exact ⟨.inr rfl,zan.one (by simp [hn])⟩
  simp at h6
  refine zae ?_
  refine zac (s:=?s8) rfl ?o8 ?q8
  case o8=>simp; rfl
  refine ⟨k + 1,⟨h5,fun i hi=>?_⟩,?_,Le.snap [] rfl rfl (by simp [hw2])⟩
  ·rcases Nat.lt_succ_iff_lt_or_eq.1 hi with h | rfl
   ·exact hp i h
   ·exact h6
  ·omega
 simp at h5
 have hy : GrOk g:=⟨h1,fun i hi=>hp i (by omega) hi⟩
 refine zao ?_
 refine hit ?_
 refine zaa ?_
 refine zac (s:=?s9) rfl ?o9 ?q9
 case o9=>simp; rfl
 refine zag ?_
 exact ⟨.inr rfl,zan.one (by simp [hy])⟩
def Bef (a b : Ed) : Prop:=a.f < b.f ∨ a.f = b.f ∧ a.t < b.t
instance (a b : Ed) : Decidable (Bef a b):=by unfold Bef; infer_instance
theorem zg0 {a b : Ed} : cmpE a b < 0 ↔ Bef a b:=by
 simp only [cmpE,cmpI,Bef]
 grind
theorem zeW (a b : Ed) : zaj Tryz.prog zb0 [eE a,eE b] [] (.B (decide (Bef a b))) []:=by
 refine zkz.acalls (Nat.le_of_ble_eq_true rfl) (Nat.le_of_ble_eq_true rfl) (Nat.le_refl _) ?_
 show awp _ 0 _ _ ⟨24,[(0,eE a),(1,eE b)],[],16⟩
 refine zab ⟨24,[(2,.pv (eC a)),(3,.pv (eC b))],[],16⟩ rfl ?_ ?_
 ·simp
  exact Le.snap [16,24] rfl rfl (by simp)
 refine zab ⟨24,[(4,.B (decide (Bef a b)))],[],16⟩ rfl ?_ ?_
 ·simp
  repeat' first
   | (refine zdC (fun hb=>?_) (fun hb=>?_) <;> (try rw [hb]) <;> (try simp at hb) <;> simp [hb])
  all_goals exact Le.snap [] rfl rfl (by simp; exact wkB (by (try simp at *); grind [Bef]))
 refine zag ?_
 exact ⟨.inr rfl,zan.one (by simp)⟩
open Classical in
theorem zlW (l : List Int) (n : Int) (hl : l.length ≤ 140737488355328) : zaj Tryz.prog zfl [ints l,.I n] [] (.B (decide (Rise l 0 (n - 1)))) []:=by
 refine zow.acalls (Nat.le_of_ble_eq_true rfl) (Nat.le_of_ble_eq_true rfl) (Nat.le_refl _) ?_
 show awp _ 0 _ _ ⟨41,[(0,ints l),(1,.I n)],[],16⟩
 refine zaa ?_
 refine zac (s:=?s1) rfl ?o1 ?q1
 case o1=>simp; rfl
 refine zaa ?_
 refine zaa ?_
 refine zac (s:=?s2) rfl ?o2 ?q2
 case o2=>simp; rfl
 refine zaf ?_
 refine zap (ι:=Nat) (fun k=>⟨41,[(0,ints l),(1,.I n),(5,.I k)],[],16⟩) (fun k=>k ≤ l.length ∧ ∀ i,i < k → zkq l 0 (n - 1) i) (fun k=>l.length - k) (0) ?_ (Le.snap [] rfl rfl (by simp)) ?_
 ·simp
 rintro k ⟨hk,hp⟩
 refine zaa ?_
 refine zaa ?_
 refine zac (s:=?s3) rfl ?o3 ?q3
 case o3=>simp; rfl
 refine zad _ rfl (fun h4=>?_) fun h4=>?_
 ·try simp at h4
  have hw2 : IntKind.i64.wrap ((k : Int) + 1) = (k : Int) + 1:=w64 (by omega) (by omega)
  have hwp : 0 < k → IntKind.i64.wrap ((k : Int) - 1) = ((k - 1 : Nat) : Int):=fun h=>by rw [w64 (by omega) (by omega)]; omega
  have hkp : k - 1 < l.length:=by omega
  refine zae ?_
  refine zaa ?_
  refine zaf ?_
  refine zaF ⟨41,[(0,ints l),(1,.I n),(5,.I k),(40,.B (decide (¬ zkq l 0 (n - 1) k)))],[],16⟩ rfl ?_ ?_
  ·simp [h4,hw2,hwp,hkp]
   repeat' first
    | (refine zdC (fun hb=>?_) (fun hb=>?_) <;> (try rw [hb]) <;> (try simp at hb) <;> simp [hb,h4,hw2,hwp,hkp])
   all_goals exact ⟨rfl,Le.snap [] rfl rfl (by simp; exact wkB (by (try simp at *); grind [zkq]))⟩
  refine zad _ rfl (fun h5=>?_) fun h5=>?_
  ·try simp at h5
   refine zaa ?_
   refine zac (s:=?s6) rfl ?o6 ?q6
   case o6=>simp [h4,hw2,hwp,hkp]; rfl
   refine zag ?_
   have hn : ¬ Rise l 0 (n - 1):=fun h=>h5 (h k)
   exact ⟨.inr rfl,zan.one (by simp [hn])⟩
  try simp at h5
  refine zae ?_
  refine zac (s:=?s7) rfl ?o7 ?q7
  case o7=>simp [h4,hw2,hwp,hkp]; rfl
  refine ⟨k + 1,⟨h4,fun i hi=>?_⟩,by omega,Le.snap [] rfl rfl (by simp [h4,hw2,hwp,hkp])⟩
  rcases Nat.lt_succ_iff_lt_or_eq.1 hi with h | rfl
  ·exact hp i h
  ·exact h5
 try simp at h4
 have hall : ∀ i,i < l.length → zkq l 0 (n - 1) i:=fun i hi=>hp i (by omega)
 refine zao ?_
 refine hit ?_
 refine zaa ?_
 refine zac (s:=?s8) rfl ?o8 ?q8
 case o8=>simp; rfl
 refine zag ?_
 have hy : Rise l 0 (n - 1):=fun i hi=>hall i hi hi
 exact ⟨.inr rfl,zan.one (by simp [hy])⟩
def EdA (g : Gr) (e : Ed) : Prop:=0 ≤ e.f ∧ e.f < g.size ∧ 0 ≤ e.t ∧ e.t < g.size ∧ e.f ≠ e.t ∧ 1 ≤ e.v ∧ e.v ≤ 3
instance (g : Gr) (e : Ed) : Decidable (EdA g e):=by unfold EdA; infer_instance
def EdB (g : Gr) (k : Nat) : Prop:=∀ h : k < g.edges.length,(0 < k → Bef g.edges[k - 1] g.edges[k]) ∧ g.edges[k].f ∉ g.gone ∧ g.edges[k].t ∉ g.gone
theorem zkH (g : Gr) (k : Nat) (h : k < g.edges.length) : EdAt g k ↔ EdA g g.edges[k] ∧ EdB g k:=by
 simp only [EdAt,EdA,EdB,Fits,zg0]
 grind
open Classical in
theorem zjF (g : Gr) (hl : g.edges.length ≤ 140737488355328) (hl2 : g.gone.length ≤ 140737488355328) : zaj Tryz.prog zeN [eG g] [] (.I (if GrOk g then 0 else 14)) []:=by
 refine zlM.acalls (Nat.le_of_ble_eq_true rfl) (Nat.le_of_ble_eq_true rfl) (Nat.le_refl _) ?_
 show awp _ 0 _ _ ⟨105,[(0,eG g)],[],16⟩
 refine zab ⟨105,[(1,.pv (gC g))],[],16⟩ rfl ?_ ?_
 ·simp
  exact Le.snap [16] rfl rfl (by simp)
 refine zaa ?_
 refine zab ⟨105,[(1,.pv (gC g)),(26,.B (decide (¬ znC g)))],[],16⟩ rfl ?_ ?_
 ·simp
  repeat' first
   | (refine zdU zfl rfl ?_; refine zam (zlW _ _ hl2) rfl ?_; simp)
   | (refine zdC (fun hb=>?_) (fun hb=>?_) <;> (try rw [hb]) <;> (try simp at hb) <;> simp [hb])
  all_goals exact Le.snap [] rfl rfl (by simp; exact wkB (by (try simp at *); grind [znC,EdA,EdB]))
 refine zad _ rfl (fun h1=>?_) fun h1=>?_
 ·try simp at h1
  refine zaa ?_
  refine zac (s:=?s2) rfl ?o2 ?q2
  case o2=>simp; rfl
  refine zag ?_
  exact ⟨.inr rfl,zan.one (by simp [GrOk,h1])⟩
 try simp at h1
 refine zae ?_
 refine zaa ?_
 refine zaa ?_
 refine zac (s:=?s3) rfl ?o3 ?q3
 case o3=>simp; rfl
 refine zaf ?_
 refine zap (ι:=Nat) (fun k=>⟨105,[(1,.pv (gC g)),(3,.I k)],[],16⟩) (fun k=>k ≤ g.edges.length ∧ ∀ i,i < k → EdAt g i) (fun k=>g.edges.length - k) (0) ?_ (Le.snap [] rfl rfl (by simp)) ?_
 ·simp
 rintro k ⟨hk,hp⟩
 refine zaa ?_
 refine zaa ?_
 refine zac (s:=?s4) rfl ?o4 ?q4
 case o4=>simp; rfl
 refine zad _ rfl (fun h5=>?_) fun h5=>?_
 ·try simp at h5
  have hw2 : IntKind.i64.wrap ((k : Int) + 1) = (k : Int) + 1:=w64 (by omega) (by omega)
  have hwp : 0 < k → IntKind.i64.wrap ((k : Int) - 1) = ((k - 1 : Nat) : Int):=fun h=>by rw [w64 (by omega) (by omega)]; omega
  have hkp : k - 1 < g.edges.length:=by omega
  refine zae ?_
  refine zaa ?_
  refine zaf ?_
  refine zab ⟨105,[(1,.pv (gC g)),(3,.I k),(4,.pv (eC g.edges[k]))],[],16⟩ rfl ?_ ?_
  ·simp [h5,hw2,hwp,hkp]
   exact Le.snap [96] rfl rfl (by simp [h5,hw2,hwp,hkp])
  refine zaa ?_
  refine zab ⟨105,[(1,.pv (gC g)),(3,.I k),(4,.pv (eC g.edges[k])),(77,.B (decide (¬ EdA g g.edges[k])))],[],16⟩ rfl ?_ ?_
  ·simp [h5,hw2,hwp,hkp]
   repeat' first
    | (refine zdC (fun hb=>?_) (fun hb=>?_) <;> (try rw [hb]) <;> (try simp at hb) <;> simp [hb,h5,hw2,hwp,hkp])
   all_goals exact Le.snap [] rfl rfl (by simp; exact wkB (by (try simp at *); grind [znC,EdA,EdB]))
  refine zad _ rfl (fun h6=>?_) fun h6=>?_
  ·try simp at h6
   refine zaa ?_
   refine zac (s:=?s7) rfl ?o7 ?q7
   case o7=>simp [h5,hw2,hwp,hkp]; rfl
   refine zag ?_
   have hn : ¬ GrOk g:=fun h=>by have h2:=(zkH g k h5).1 (h.2 k); simp_all
   exact ⟨.inr rfl,zan.one (by simp [hn])⟩
  try simp at h6
  refine zae ?_
  refine zaF ⟨105,[(1,.pv (gC g)),(3,.I k),(104,.B (decide (¬ EdB g k)))],[],16⟩ rfl ?_ ?_
  ·simp [h5,hw2,hwp,hkp]
   repeat' first
    | (refine zdU zb0 rfl ?_; refine zam (zeW ..) rfl ?_; simp [h5,hw2,hwp,hkp])
    | (refine zdU zaJ rfl ?_; refine zam (zf2 _ _ hl2) rfl ?_; simp [h5,hw2,hwp,hkp])
    | (refine zdC (fun hb=>?_) (fun hb=>?_) <;> (try rw [hb]) <;> (try simp at hb) <;> simp [hb,h5,hw2,hwp,hkp])
   all_goals exact ⟨rfl,Le.snap [] rfl rfl (by simp; exact wkB (by (try simp at *); grind [znC,EdA,EdB]))⟩
  refine zad _ rfl (fun h8=>?_) fun h8=>?_
  ·try simp at h8
   refine zaa ?_
   refine zac (s:=?s9) rfl ?o9 ?q9
   case o9=>simp [h5,hw2,hwp,hkp]; rfl
   refine zag ?_
   have hn : ¬ GrOk g:=fun h=>by have h2:=(zkH g k h5).1 (h.2 k); simp_all
   exact ⟨.inr rfl,zan.one (by simp [hn])⟩
  try simp at h8
  refine zae ?_
  refine zac (s:=?s10) rfl ?o10 ?q10
  case o10=>simp [h5,hw2,hwp,hkp]; rfl
  refine ⟨k + 1,⟨h5,fun i hi=>?_⟩,by omega,Le.snap [] rfl rfl (by simp [h5,hw2,hwp,hkp])⟩
  rcases Nat.lt_succ_iff_lt_or_eq.1 hi with h | rfl
  ·exact hp i h
  ·exact (zkH g i h5).2 ⟨h6,h8⟩
 try simp at h5
 have hall : ∀ i,i < g.edges.length → EdAt g i:=fun i hi=>hp i (by omega)
 refine zao ?_
 refine hit ?_
 refine zaa ?_
 refine zac (s:=?s11) rfl ?o11 ?q11
 case o11=>simp; rfl
 refine zag ?_
 have hy : GrOk g:=⟨h1,fun i hi=>hall i hi hi⟩
 exact ⟨.inr rfl,zan.one (by simp [hy])⟩
theorem zmv (l : List Int) (hl : l.length * 8 ≤ 140737488355328) : zaj Tryz.prog zbg [ints l] [] (.rs 0 0 l.length) [some ⟨1,l.map fun n=>[AV.I n],0⟩]:=by
 cases l with
 | nil =>
   refine zme fun ad c=>?_
   refine zcD.acalls (Nat.le_of_ble_eq_true rfl) (Nat.le_of_ble_eq_true rfl) (Nat.zero_le _) ?_
   show awp _ 0 _ _ ⟨8,[(0,.sc (.slice ad 0 c))],[],16⟩
   refine zaa ?_
   refine zac (s:=?s1) rfl ?o1 ?q1
   case o1=>simp; rfl
   refine zaI (ι:=Unit) (fun _=>⟨8,[(0,.vs 1 false [])],[],40⟩) (fun _=>True) ?_ fun _ _=>?_
   ·refine zaa ?_
    refine zac (s:=?s2) rfl ?o2 ?q2
    case o2=>simp; rfl
    refine zad _ rfl (fun h3=>?_) fun h3=>?_
    ·refine zab ⟨8,[(2,.rs 40 0 0)],[(40,some ⟨1,[],0⟩)],48⟩ rfl ?_ ?_
     ·simp
      exact Le.lst [] [] [(40,1)] rfl (by simp) (by simp) (by simp) (by simp) (by simp) (by simp) (by simp) (by simp [Up]) (by simp)
     refine zag ?_
     exact ⟨.inr rfl,zan.out [40] [] rfl (by simp) (by simp) (by simp) (by simp)⟩
    refine zae ?_
    exact ⟨(),trivial,Le.slots rfl rfl (by simp; exact .mt _ _ _)⟩
   refine zaa ?_
   refine zac (s:=?s5) rfl ?o5 ?q5
   case o5=>simp [List.replicate]; rfl
   refine zag ?_
   exact ⟨.inr rfl,zan.out [56] [] rfl (by simp) (by simp) (by simp) (by simp)⟩
 | cons x l =>
   refine zcD.acalls (Nat.le_of_ble_eq_true rfl) (Nat.le_of_ble_eq_true rfl) (Nat.zero_le _) ?_
   show awp _ 0 _ _ ⟨8,[(0,ints (x :: l))],[],16⟩
   refine zaa ?_
   refine zac (s:=?t1) rfl ?p1 ?r1
   case p1=>simp; rfl
   refine zaa ?_
   refine zaa ?_
   refine zac (s:=?t2) rfl ?p2 ?r2
   case p2=>simp; rfl
   refine zad _ rfl (fun h3=>by cases h3) fun h3=>?_
   refine zae ?_
   refine zaa ?_
   refine zac (s:=?t4) rfl ?p4 ?r4
   case p4=>simp [List.replicate]; refine ⟨by simpa using hl,by simp at hl; omega,?_⟩; rfl
   refine zag ?_
   exact ⟨.inr rfl,zan.out [56] [] rfl (by simp) (by simp) (by simp) (by simp [fcd])⟩
theorem zp5 (l : List Ed) (hl : l.length * 24 ≤ 140737488355328) : zaj Tryz.prog zaU [eEs l] [] (.rs 0 0 l.length) [some ⟨3,l.map fun e=>[AV.I e.f,AV.I e.t,AV.I e.v],0⟩]:=by
 cases l with
 | nil =>
   refine zme fun ad c=>?_
   refine zbr.acalls (Nat.le_of_ble_eq_true rfl) (Nat.le_of_ble_eq_true rfl) (Nat.zero_le _) ?_
   show awp _ 0 _ _ ⟨8,[(0,.sc (.slice ad 0 c))],[],16⟩
   refine zaa ?_
   refine zac (s:=?s1) rfl ?o1 ?q1
   case o1=>simp; rfl
   refine zaI (ι:=Unit) (fun _=>⟨8,[(0,.vs 3 false [])],[],40⟩) (fun _=>True) ?_ fun _ _=>?_
   ·refine zaa ?_
    refine zac (s:=?s2) rfl ?o2 ?q2
    case o2=>simp; rfl
    refine zad _ rfl (fun h3=>?_) fun h3=>?_
    ·refine zab ⟨8,[(2,.rs 40 0 0)],[(40,some ⟨3,[],0⟩)],48⟩ rfl ?_ ?_
     ·simp
      exact Le.lst [] [] [(40,3)] rfl (by simp) (by simp) (by simp) (by simp) (by simp) (by simp) (by simp) (by simp [Up]) (by simp)
     refine zag ?_
     exact ⟨.inr rfl,zan.out [40] [] rfl (by simp) (by simp) (by simp) (by simp)⟩
    refine zae ?_
    exact ⟨(),trivial,Le.slots rfl rfl (by simp; exact .mt _ _ _)⟩
   refine zaa ?_
   refine zac (s:=?s5) rfl ?o5 ?q5
   case o5=>simp [List.replicate]; rfl
   refine zag ?_
   exact ⟨.inr rfl,zan.out [56] [] rfl (by simp) (by simp) (by simp) (by simp)⟩
 | cons x l =>
   refine zbr.acalls (Nat.le_of_ble_eq_true rfl) (Nat.le_of_ble_eq_true rfl) (Nat.zero_le _) ?_
   show awp _ 0 _ _ ⟨8,[(0,eEs (x :: l))],[],16⟩
   refine zaa ?_
   refine zac (s:=?t1) rfl ?p1 ?r1
   case p1=>simp; rfl
   refine zaa ?_
   refine zaa ?_
   refine zac (s:=?t2) rfl ?p2 ?r2
   case p2=>simp; rfl
   refine zad _ rfl (fun h3=>by cases h3) fun h3=>?_
   refine zae ?_
   refine zaa ?_
   refine zac (s:=?t4) rfl ?p4 ?r4
   case p4=>simp [List.replicate]; refine ⟨by simpa using hl,by simp at hl; omega,?_⟩; rfl
   refine zag ?_
   exact ⟨.inr rfl,zan.out [56] [] rfl (by simp) (by simp) (by simp) (by simp [fcd])⟩
def idxE (l : List Ed) (e : Ed) : Nat:=l.findIdx fun x=>!decide (Bef x e)
def AtE (l : List Ed) (k : Nat) (f t : Int) : Prop:=∃ h : k < l.length,l[k].f = f ∧ l[k].t = t
instance (l : List Ed) (k : Nat) (f t : Int) : Decidable (AtE l k f t):=by unfold AtE; infer_instance
def zs3 (l : List Ed) (e : Ed) (k : Nat) : Prop:=∀ h : k < l.length,Bef l[k] e
theorem zpA (l : List Ed) (e : Ed) : idxE l e ≤ l.length:=List.findIdx_le_length
theorem zsj {l : List Ed} {e : Ed} {k : Nat} (hk : k ≤ l.length) (h1 : ∀ i,i < k → zs3 l e i) (h2 : ∀ h : k < l.length,¬ Bef l[k] e) : idxE l e = k:=by
 unfold idxE
 rcases Nat.lt_or_ge k l.length with h | h
 ·rw [List.findIdx_eq h]
  refine ⟨by simpa using h2 h,fun j hj=>?_⟩
  simpa using h1 j hj (by omega)
 ·obtain rfl : k = l.length:=by omega
  rw [List.findIdx_eq_length]
  intro x hx
  obtain ⟨i,hi,rfl⟩:=List.mem_iff_getElem.1 hx
  simpa using h1 i hi hi
theorem zjM (g : Gr) (f t : Int) (hl : g.edges.length ≤ 140737488355328) : zaj Tryz.prog ze5 [eG g,.I f,.I t] [] (.tup [.I (idxE g.edges ⟨f,t,0⟩),.B (decide (AtE g.edges (idxE g.edges ⟨f,t,0⟩) f t))]) []:=by
 refine zmz.acalls (Nat.le_of_ble_eq_true rfl) (Nat.le_of_ble_eq_true rfl) (Nat.le_refl _) ?_
 show awp _ 0 _ _ ⟨53,[(0,eG g),(1,.I f),(2,.I t)],[],16⟩
 refine zab ⟨53,[(1,.I f),(2,.I t),(3,.pv (gC g))],[],16⟩ rfl ?_ ?_
 ·simp
  exact Le.snap [16] rfl rfl (by simp)
 refine zaa ?_
 refine zac (s:=?s1) rfl ?o1 ?q1
 case o1=>simp; rfl
 refine zaa ?_
 refine zaf ?_
 refine zap (ι:=Nat) (fun k=>⟨53,[(1,.I f),(2,.I t),(3,.pv (gC g)),(8,.I k)],[],16⟩) (fun k=>k ≤ g.edges.length ∧ ∀ i,i < k → zs3 g.edges ⟨f,t,0⟩ i) (fun k=>g.edges.length - k) (0) ?_ (Le.snap [] rfl rfl (by simp)) ?_
 ·simp
 rintro k ⟨hk,hp⟩
 refine zaa ?_
 refine zab ⟨53,[(1,.I f),(2,.I t),(3,.pv (gC g)),(8,.I k),(24,.B (decide (∃ h : k < g.edges.length,Bef g.edges[k] ⟨f,t,0⟩)))],[],16⟩ rfl ?_ ?_
 ·simp
  repeat' first
   | (refine zdU zb0 rfl ?_; refine zam (zeW _ ⟨f,t,0⟩) rfl ?_; simp)
   | (refine zdC (fun hb=>?_) (fun hb=>?_) <;> (try rw [hb]) <;> (try simp at hb) <;> simp [*])
  all_goals exact Le.snap [] rfl rfl (by simp <;> exact wkB (by (try simp at *); grind))
 refine zad _ rfl (fun h2=>?_) fun h2=>?_
 ·try simp at h2
  obtain ⟨h2,h2b⟩:=h2
  have hw2 : IntKind.i64.wrap ((k : Int) + 1) = (k : Int) + 1:=w64 (by omega) (by omega)
  have hwp : 0 < k → IntKind.i64.wrap ((k : Int) - 1) = ((k - 1 : Nat) : Int):=fun h=>by rw [w64 (by omega) (by omega)]; omega
  have hkp : k - 1 < g.edges.length:=by omega
  refine zae ?_
  refine zaf ?_
  refine zac (s:=?s3) rfl ?o3 ?q3
  case o3=>simp [h2,hw2,hwp,hkp]; rfl
  refine ⟨k + 1,⟨h2,fun i hi=>?_⟩,by omega,Le.snap [] rfl rfl (by simp [h2,hw2,hwp,hkp])⟩
  rcases Nat.lt_succ_iff_lt_or_eq.1 hi with h | rfl
  ·exact hp i h
  ·exact fun _=>h2b
 try simp at h2
 rw [zsj hk hp h2]
 refine zao ?_
 refine hit ?_
 refine zaF ⟨53,[(6,.I k),(7,.B (decide (AtE g.edges k f t)))],[],16⟩ rfl ?_ ?_
 ·simp
  repeat' first
   | (refine zdC (fun hb=>?_) (fun hb=>?_) <;> (try rw [hb]) <;> (try simp at hb) <;> simp [*])
  all_goals exact ⟨rfl,Le.snap [] rfl rfl (by simp <;> exact wkB (by (try simp at *); grind [AtE]))⟩
 refine zag ?_
 exact ⟨.inr rfl,zan.out [] [] rfl (by simp) (by simp) (by simp) (by simp)⟩
end Go.Proofs.YteiabadhhhckfaaGreat
