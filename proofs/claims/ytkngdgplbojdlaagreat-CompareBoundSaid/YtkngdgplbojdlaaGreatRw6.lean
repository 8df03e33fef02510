/- Texts of this claim,merged. -/
import Derived.Test.YtkngdgplbojdlaaGreatRw5
import Derived.Test.YtkngdgplbojdlaaGreatProg
import Derived.KernelRfl
import Derived.Test.YtkngdgplbojdlaaGreatRows
set_option linter.unusedSimpArgs false
set_option linter.unusedVariables false
set_option linter.unusedSectionVars false
namespace Go.Proofs.YtkngdgplbojdlaaGreat
open Go
set_option maxRecDepth 100000
def zrT : AFun:=⟨6,[(2,none)],
 (sr [oo 2 .mv [.c (.bool false)]]
 (sr [ma 3 0,oo 4 .len [.t 3],oo 5 (.bin .leq) [.t 4,ki 400],ma 2 5]
 .ret))⟩
def zul : AFun:=⟨6,[(2,none)],
 (sr [oo 2 .mv [(.c (.pointer none))]]
 (sr [ma 3 0,oo 4 (.build [vn,v0] [(0,1)]) [.t 3],oo 5 (.box 2) [.t 4],ma 2 5]
 .ret))⟩
def zlL : AFun:=⟨53,[(2,some (true,3))],
 (sr [oo 2 (.alloc [v0,vn,vn]) []]
 (sr [ma 7 0,ca 8 zaC [.t 7,ki 8],oo 9 (.bin .add) [ki 2,.t 8],oo 10 (.build [v0,vn,vn] [(0,1)]) [.t 9],oo 3 (.alloc [v0,vn,vn]) [],ou (.st 3) [.t 3,.t 10]]
 (.seq (.seq
 (rg [ma 11 0,oo 12 .nil [.t 11],fa 13 0 12,la 14 13,oo 15 .len [.t 14],oo 16 (.bin .eql) [.t 15,ki 0]])
 (.cond (.t 16)
 (rg [fa 17 0 3,ou (.st 1) [.t 17,ki 4]])
 .skip))
 (.seq (.seq
 (rg [ma 18 0,ca 19 zdQ [.t 18,ki 8]])
 (.cond (.t 19)
 (rg [ma 20 0,fa 21 0 3,la 22 21,ca 23 zaC [.t 20,.t 22],oo 24 (.bsl 1 1 [v0] [0]) [.t 23],fa 25 2 3,ou (.st 1) [.t 25,.t 24]])
 .skip))
 (.seq (.seq
 (rg [ma 26 0,ca 27 zaC [.t 26,ki 23],ma 4 27])
 (.block 0 (.loop
 (.seq (.seq
 (rg [ma 28 4,oo 29 (.bin .gtr) [.t 28,ki 0]])
 (.cond (.t 29)
 .skip
 (.exit 0)))
 (.seq (.block 1 (.seq (.reg true [oo 33 (.ld true 3) [.t 3],ma 34 0,fa 35 0 3,la 36 35,ca 37 zaC [.t 34,.t 36],ma 38 0,fa 39 0 3,la 40 39,ca 41 zaC [.t 38,.t 40],ma 42 0,ca 43 zaC [.t 42,ki 3],oo 44 (.bin .add) [ki 1,.t 43],oo 45 (.build [v0,v0,v0] [(0,1),(1,1),(2,1)]) [.t 37,.t 41,.t 44],ca 46 zjj [.t 33,.t 45],ma 32 46,oo 47 (.ext 0) [.t 32],oo 48 (.ext 1) [.t 32],oo 5 (.alloc [v0,vn,vn]) [],ou (.st 3) [.t 5,.t 47],ma 6 48] [[],[],[],[2],[1,3],[],[],[6],[5,7,4],[],[9,8],[10],[4,8,11],[0,12,10],[13],[14],[14],[],[17,15,13,0,1,2,3,4,5,6,7,8,9,10,11,12,13,14,15,17],[16,18,0,1,2,3,4,5,6,7,8,9,10,11,12,13,14,15,16,17,18]])
 (sr [ma 49 6,oo 50 (.bin .eql) [.t 49,ki 0]]
 (.cond (.t 50)
 (rg [oo 51 (.ld true 3) [.t 5],ou (.st 3) [.t 3,.t 51]])
 .skip))))
 (rg [ma 30 4,oo 31 (.bin .sub) [.t 30,ki 1],ma 4 31]))))))
 (sr [oo 52 (.ld true 3) [.t 3],ou (.st 3) [.t 2,.t 52]]
 .ret))))))⟩
def zmH : AFun:=⟨35,[(4,none)],
 (sr [oo 4 .mv [ki 0]]
 (.seq (.seq
 (.reg true [ma 5 0,oo 6 .nil [.t 5],fa 7 1 6,la 8 7,ma 9 0,oo 10 .nil [.t 9],fa 11 0 10,la 12 11,oo 13 .len [.t 12],oo 14 (.bin .geq) [.t 8,.t 13]] [[],[0],[1],[2],[],[4],[5],[6],[7],[3,8]])
 (.cond (.t 14)
 (sr [oo 4 .mv [ki 0]]
 .ret)
 .skip))
 (sr [ma 15 0,oo 16 .nil [.t 15],fa 17 1 16,la 18 17,oo 19 (.bin .add) [.t 18,ki 1],oo 20 .nil [.t 15],fa 21 1 20,ou (.st 1) [.t 21,.t 19]]
 (.seq (.reg true [ma 22 0,oo 23 .nil [.t 22],fa 24 0 23,la 25 24,ma 26 0,oo 27 .nil [.t 26],fa 28 1 27,la 29 28,oo 30 (.bin .sub) [.t 29,ki 1],oo 31 (.iad 1) [.t 25,.t 30],la 32 31,ma 33 1,ca 34 znl [.t 32,.t 33],ma 4 34] [[],[0],[1],[2],[],[4],[5],[6],[7],[3,8],[9],[],[10,11],[12,12,0,1,2,3,4,5,6,7,8,9,10,11,12]])
 .ret))))⟩
def zoD : AFun:=⟨12,[(4,none)],
 (sr [oo 4 .mv [ki 0]]
 (sr [ma 5 1,ma 6 0,ma 7 1,oo 8 .len [.t 7],ca 9 zaC [.t 6,.t 8],oo 10 (.iad 1) [.t 5,.t 9],la 11 10,ma 4 11]
 .ret))⟩
def zv1 : AFun:=⟨16,[(4,none)],
 (sr [oo 4 .mv [ki 0]]
 (.seq (.seq
 (rg [ma 5 1,oo 6 (.bin .lss) [.t 5,ki 1]])
 (.cond (.t 6)
 (sr [oo 4 .mv [ki 0]]
 .ret)
 .skip))
 (sr [ma 7 0,ma 8 1,oo 9 (.bin .rem) [.t 7,.t 8],ma 0 9]
 (.seq (.seq
 (rg [ma 10 0,oo 11 (.bin .lss) [.t 10,ki 0]])
 (.cond (.t 11)
 (rg [ma 12 0,ma 13 1,oo 14 (.bin .add) [.t 12,.t 13],ma 0 14])
 .skip))
 (sr [ma 15 0,ma 4 15]
 .ret)))))⟩
def znU : AFun:=⟨18,[(4,none)],
 (sr [oo 4 .mv [.c (.bool false)]]
 (.seq (.seq
 (rg [oo 5 .mv [ki 0]])
 (.block 0 (.loop
 (.seq (.seq
 (rg [ma 6 5,ma 7 0,oo 8 .len [.t 7],oo 9 (.bin .lss) [.t 6,.t 8]])
 (.cond (.t 9)
 .skip
 (.exit 0)))
 (.seq (.block 1 (sr [ma 12 0,ma 13 5,oo 14 (.iad 1) [.t 12,.t 13],la 15 14,ma 16 1,oo 17 (.bin .eql) [.t 15,.t 16]]
 (.cond (.t 17)
 (sr [oo 4 .mv [.c (.bool true)]]
 .ret)
 .skip)))
 (rg [ma 10 5,oo 11 (.bin .add) [.t 10,ki 1],ma 5 11]))))))
 (sr [oo 4 .mv [.c (.bool false)]]
 .ret)))⟩
def zqS : AFun:=⟨36,[(4,some (true,3))],
 (sr [oo 2 (.box 3) [.t 0],oo 4 (.alloc [v0,vn,vn]) []]
 (sr [oo 7 (.ld true 3) [.t 2],ca 8 zhk [.t 7],oo 5 (.alloc [v0,vn,vn]) [],ou (.st 3) [.t 5,.t 8]]
 (sr [fa 9 1 5,ou (.st 1) [.t 9,kn]]
 (.seq (.seq
 (rg [oo 6 .mv [ki 0]])
 (.block 0 (.loop
 (.seq (.seq
 (rg [ma 10 6,fa 11 1 2,la 12 11,oo 13 .len [.t 12],oo 14 (.bin .lss) [.t 10,.t 13]])
 (.cond (.t 14)
 .skip
 (.exit 0)))
 (.seq (.block 1 (sr [fa 17 1 2,la 18 17,ma 19 6,oo 20 (.iad 3) [.t 18,.t 19],fa 21 2 20,la 22 21,ma 23 1,oo 24 (.bin .geq) [.t 22,.t 23]]
 (.cond (.t 24)
 (.reg true [fa 25 1 5,la 26 25,fa 27 1 2,la 28 27,ma 29 6,oo 30 (.iad 3) [.t 28,.t 29],oo 31 (.ld true 3) [.t 30],oo 32 (.bsl 3 1 [v0,v0,v0] [0]) [.t 31],oo 33 (.app 3 24) [.t 26,.t 32],fa 34 1 5,ou (.st 1) [.t 34,.t 33]] [[],[0],[],[2],[],[3,4],[5],[6],[1,7],[0,1,2,3,4,5,6,7,8],[9,8,8,0,1,2,3,4,5,6,7,8]])
 .skip)))
 (rg [ma 15 6,oo 16 (.bin .add) [.t 15,ki 1],ma 6 16]))))))
 (sr [oo 35 (.ld true 3) [.t 5],ou (.st 3) [.t 4,.t 35]]
 .ret)))))⟩
def zqZ : AFun:=⟨35,[(4,none)],
 (sr [oo 2 (.box 3) [.t 0],oo 4 .mv [kn]]
 (sr [oo 9 (.ld true 3) [.t 2],ma 10 1,ca 11 zgV [.t 9,.t 10],ma 5 11]
 (sr [oo 6 .mv [kn]]
 (.seq (.seq
 (rg [oo 7 .mv [ki 0]])
 (.block 0 (.loop
 (.seq (.seq
 (rg [ma 12 7,fa 13 0 2,la 14 13,oo 15 (.bin .lss) [.t 12,.t 14]])
 (.cond (.t 15)
 .skip
 (.exit 0)))
 (.seq (.block 1 (sr [oo 8 .mv [ki 0]]
 (.block 2 (.loop
 (.seq (.seq
 (rg [ma 18 8,fa 19 0 2,la 20 19,oo 21 (.bin .lss) [.t 18,.t 20]])
 (.cond (.t 21)
 .skip
 (.exit 2)))
 (.seq (.block 3 (sr [ma 24 5,ma 25 8,oo 26 (.iad 1) [.t 24,.t 25],la 27 26,ma 28 7,oo 29 (.bin .eql) [.t 27,.t 28]]
 (.cond (.t 29)
 (rg [ma 30 6,ma 31 8,oo 32 (.bsl 1 1 [v0] [0]) [.t 31],oo 33 (.app 1 8) [.t 30,.t 32],ma 6 33])
 .skip)))
 (rg [ma 22 8,oo 23 (.bin .add) [.t 22,ki 1],ma 8 23])))))))
 (rg [ma 16 7,oo 17 (.bin .add) [.t 16,ki 1],ma 7 17]))))))
 (sr [ma 34 6,ma 4 34]
 .ret)))))⟩
def zuh : AFun:=⟨72,[(4,none)],
 (sr [oo 2 (.box 3) [.t 0],oo 4 .mv [kn]]
 (sr [oo 5 .mv [kn]]
 (.seq (.seq
 (rg [oo 6 .mv [ki 0]])
 (.block 0 (.loop
 (.seq (.seq
 (rg [ma 10 6,fa 11 0 2,la 12 11,oo 13 (.bin .lss) [.t 10,.t 12]])
 (.cond (.t 13)
 .skip
 (.exit 0)))
 (.seq (.block 1 (sr [ma 16 5,oo 17 (.bsl 1 1 [v0] [0]) [ki (-1)],oo 18 (.app 1 8) [.t 16,.t 17],ma 5 18]
 (sr [ma 19 1,ma 20 6,ca 21 zcg [.t 19,.t 20],ma 22 21,fg 23 2 2 22,lg 24 23 22,mg 25 6 22,og 26 .call [.f zcg,.t 24,.t 25] 22,og 27 (.un .not) [.t 26] 22,oo 28 .pick [.t 22,.t 27,.c (.bool false)]]
 (.cond (.t 28)
 (rg [ma 29 5,ma 30 6,oo 31 (.iad 1) [.t 29,.t 30],ou (.st 1) [.t 31,ki 0]])
 .skip))))
 (rg [ma 14 6,oo 15 (.bin .add) [.t 14,ki 1],ma 6 15]))))))
 (.seq (.seq
 (rg [oo 7 .mv [ki 0]])
 (.block 2 (.loop
 (.seq (.seq
 (rg [ma 32 7,fa 33 0 2,la 34 33,oo 35 (.bin .lss) [.t 32,.t 34]])
 (.cond (.t 35)
 .skip
 (.exit 2)))
 (.seq (.block 3 (sr [oo 8 .mv [ki 0]]
 (.block 4 (.loop
 (.seq (.seq
 (rg [ma 38 8,fa 39 1 2,la 40 39,oo 41 .len [.t 40],oo 42 (.bin .lss) [.t 38,.t 41]])
 (.cond (.t 42)
 .skip
 (.exit 4)))
 (.seq (.block 5 (sr [fa 45 1 2,la 46 45,ma 47 8,oo 48 (.iad 3) [.t 46,.t 47],oo 49 (.ld true 3) [.t 48],oo 9 (.alloc [v0,v0,v0]) [],ou (.st 3) [.t 9,.t 49]]
 (sr [ma 50 5,fa 51 0 9,la 52 51,oo 53 (.iad 1) [.t 50,.t 52],la 54 53,ma 55 7,oo 56 (.bin .eql) [.t 54,.t 55],ma 57 56,mg 58 5 57,fg 59 1 9 57,lg 60 59 57,og 61 (.iad 1) [.t 58,.t 60] 57,lg 62 61 57,og 63 (.bin .eql) [.t 62,ki (-1)] 57,oo 64 .pick [.t 57,.t 63,.c (.bool false)]]
 (.cond (.t 64)
 (rg [ma 65 5,fa 66 1 9,la 67 66,ma 68 7,oo 69 (.bin .add) [.t 68,ki 1],oo 70 (.iad 1) [.t 65,.t 67],ou (.st 1) [.t 70,.t 69]])
 .skip))))
 (rg [ma 43 8,oo 44 (.bin .add) [.t 43,ki 1],ma 8 44])))))))
 (rg [ma 36 7,oo 37 (.bin .add) [.t 36,ki 1],ma 7 37]))))))
 (sr [ma 71 5,ma 4 71]
 .ret)))))⟩
def znB : AFun:=⟨11,[(4,none)],
 (sr [oo 4 .mv [.c (.bool false)]]
 (sr [ma 5 0,ma 6 1,ca 7 zaC [.t 5,.t 6],ma 8 1,oo 9 (.bin .sub) [.t 8,ki 1],oo 10 (.bin .eql) [.t 7,.t 9],ma 4 10]
 .ret))⟩
def zrn : AFun:=⟨103,[(4,some (true,3)),(5,none)],
 (sr [oo 2 (.box 3) [.t 0],oo 3 (.box 3) [.t 1],oo 4 (.alloc [v0,vn,vn]) [],oo 5 .mv [ki 0]]
 (.seq (.seq
 (rg [oo 9 (.ld true 3) [.t 2],ca 10 zgs [.t 9],oo 11 (.bin .neq) [.t 10,ki 0]])
 (.cond (.t 11)
 (sr [oo 12 (.build [v0,vn,vn] []) [],ou (.st 3) [.t 4,.t 12],oo 5 .mv [ki 14]]
 .ret)
 .skip))
 (sr [oo 14 (.ld true 3) [.t 2],fa 15 0 3,la 16 15,fa 17 1 3,la 18 17,ca 19 zih [.t 14,.t 16,.t 18],ma 13 19,oo 20 (.ext 0) [.t 13],oo 21 (.ext 1) [.t 13],ma 6 20,ma 7 21]
 (.seq (.block 0 (sr [fa 23 0 3,la 24 23,oo 25 (.bin .lss) [.t 24,ki 0],ma 26 25,fh 27 0 3 26,lh 28 27 26,fh 29 0 2 26,lh 30 29 26,oh 31 (.bin .geq) [.t 28,.t 30] 26,oo 32 .pick [.t 26,.c (.bool true),.t 31],ma 33 32,fh 34 1 3 33,lh 35 34 33,oh 36 (.bin .lss) [.t 35,ki 0] 33,oo 37 .pick [.t 33,.c (.bool true),.t 36],ma 38 37,fh 39 1 3 38,lh 40 39 38,fh 41 0 2 38,lh 42 41 38,oh 43 (.bin .geq) [.t 40,.t 42] 38,oo 44 .pick [.t 38,.c (.bool true),.t 43],ma 45 44,fh 46 0 3 45,lh 47 46 45,fh 48 1 3 45,lh 49 48 45,oh 50 (.bin .eql) [.t 47,.t 49] 45,oo 51 .pick [.t 45,.c (.bool true),.t 50],ma 52 51,fh 53 2 2 52,lh 54 53 52,fh 55 0 3 52,lh 56 55 52,oh 57 .call [.f zcg,.t 54,.t 56] 52,oo 58 .pick [.t 52,.c (.bool true),.t 57],ma 59 58,fh 60 2 2 59,lh 61 60 59,fh 62 1 3 59,lh 63 62 59,oh 64 .call [.f zcg,.t 61,.t 63] 59,oo 65 .pick [.t 59,.c (.bool true),.t 64],ma 22 65]
 (.cond (.t 22)
 (sr [oo 66 (.build [v0,vn,vn] []) [],ou (.st 3) [.t 4,.t 66],oo 5 .mv [ki 4]]
 .ret)
 (sr [fa 68 2 3,la 69 68,oo 70 (.bin .lss) [.t 69,ki 1],ma 71 70,fh 72 2 3 71,lh 73 72 71,oh 74 (.bin .gtr) [.t 73,ki 3] 71,oo 75 .pick [.t 71,.c (.bool true),.t 74],ma 67 75]
 (.cond (.t 67)
 (sr [oo 76 (.build [v0,vn,vn] []) [],ou (.st 3) [.t 4,.t 76],oo 5 .mv [ki 2]]
 .ret)
 (sr [ma 78 7,ma 77 78]
 (.cond (.t 77)
 (sr [oo 79 (.build [v0,vn,vn] []) [],ou (.st 3) [.t 4,.t 79],oo 5 .mv [ki 19]]
 .ret)
 (sr [fa 81 1 2,la 82 81,oo 83 .len [.t 82],oo 84 (.bin .eql) [.t 83,ki 500],ma 80 84]
 (.cond (.t 80)
 (sr [oo 85 (.build [v0,vn,vn] []) [],ou (.st 3) [.t 4,.t 85],oo 5 .mv [ki 3]]
 .ret)
 .skip)))))))))
 (sr [oo 86 (.ld true 3) [.t 2],ca 87 zhk [.t 86],oo 8 (.alloc [v0,vn,vn]) [],ou (.st 3) [.t 8,.t 87]]
 (.seq (.reg true [fa 88 1 2,la 89 88,ma 90 6,oo 91 (.slc 3 false true false) [.t 89,.t 90],oo 92 (.app 3 24) [kn,.t 91],oo 93 (.ld true 3) [.t 3],oo 94 (.bsl 3 1 [v0,v0,v0] [0]) [.t 93],oo 95 (.app 3 24) [.t 92,.t 94],fa 96 1 2,la 97 96,ma 98 6,oo 99 (.slc 3 true false false) [.t 97,.t 98],oo 100 (.app 3 24) [.t 95,.t 99],fa 101 1 8,ou (.st 1) [.t 101,.t 100]] [[],[0],[],[1,2],[3],[],[5],[4,6,4],[],[8],[],[9,10],[7,11,7],[0,1,2,3,4,5,6,7,8,9,10,11,12],[13,12,12,0,1,2,3,4,5,6,7,8,9,10,11,12]])
 (sr [oo 102 (.ld true 3) [.t 8],ou (.st 3) [.t 4,.t 102],oo 5 .mv [ki 0]]
 .ret)))))))⟩
def zt1 : AFun:=⟨45,[(4,none)],
 (sr [oo 4 .mv [kn]]
 (sr [oo 5 .mv [ki 0]]
 (.seq (.block 0 (.loop
 (.seq (.seq
 (rg [ma 6 5,ma 7 0,oo 8 .len [.t 7],oo 9 (.bin .lss) [.t 6,.t 8],ma 10 9,mg 11 0 10,mg 12 5 10,og 13 (.iad 1) [.t 11,.t 12] 10,lg 14 13 10,mg 15 1 10,og 16 (.bin .lss) [.t 14,.t 15] 10,oo 17 .pick [.t 10,.t 16,.c (.bool false)]])
 (.cond (.t 17)
 .skip
 (.exit 0)))
 (.block 1 (rg [ma 18 5,oo 19 (.bin .add) [.t 18,ki 1],ma 5 19])))))
 (.seq (.seq
 (rg [ma 20 5,ma 21 0,oo 22 .len [.t 21],oo 23 (.bin .lss) [.t 20,.t 22],ma 24 23,mg 25 0 24,mg 26 5 24,og 27 (.iad 1) [.t 25,.t 26] 24,lg 28 27 24,mg 29 1 24,og 30 (.bin .eql) [.t 28,.t 29] 24,oo 31 .pick [.t 24,.t 30,.c (.bool false)]])
 (.cond (.t 31)
 (sr [ma 32 0,oo 33 (.app 1 8) [kn,.t 32],ma 4 33]
 .ret)
 .skip))
 (.seq (.reg true [ma 34 0,ma 35 5,oo 36 (.slc 1 false true false) [.t 34,.t 35],oo 37 (.app 1 8) [kn,.t 36],ma 38 1,oo 39 (.bsl 1 1 [v0] [0]) [.t 38],oo 40 (.app 1 8) [.t 37,.t 39],ma 41 0,ma 42 5,oo 43 (.slc 1 true false false) [.t 41,.t 42],oo 44 (.app 1 8) [.t 40,.t 43],ma 4 44] [[],[],[0,1],[2],[],[4],[3,5,3],[],[],[7,8],[6,9,6],[10,10,0,1,2,3,4,5,6,7,8,9,10]])
 .ret)))))⟩
def ziD : AFun:=⟨15,[(6,none)],
 (sr [oo 6 .mv [.c (.bool false)]]
 (sr [ma 7 0,ma 8 1,oo 9 (.bin .geq) [.t 7,.t 8],ma 10 9,mg 11 0 10,mg 12 2 10,og 13 (.bin .leq) [.t 11,.t 12] 10,oo 14 .pick [.t 10,.t 13,.c (.bool false)],ma 6 14]
 .ret))⟩
def ziu : AFun:=⟨14,[(4,some (true,3))],
 (sr [oo 2 (.box 3) [.t 0],oo 3 (.box 1) [.t 1],oo 4 (.alloc [v0,vn,vn]) []]
 (sr [oo 6 (.ld true 3) [.t 2],ca 7 zet [.t 6],oo 5 (.alloc [v0,vn,vn]) [],ou (.st 3) [.t 5,.t 7]]
 (sr [fa 8 1 5,la 9 8,oo 10 (.mkf zcm) [.t 3],ca 11 zaL [.t 9,.t 10],fa 12 1 5,ou (.st 1) [.t 12,.t 11]]
 (sr [oo 13 (.ld true 3) [.t 5],ou (.st 3) [.t 4,.t 13]]
 .ret))))⟩
def zhq : AFun:=⟨50,[(4,none)],
 (sr [oo 2 (.box 3) [.t 0],oo 3 (.box 1) [.t 1],oo 4 .mv [kn]]
 (sr [oo 11 (.bsl 1 1 [v0] [0]) [ki (-1)],fa 12 0 2,la 13 12,oo 14 .mx2 [ki 0,.t 13],ca 15 zbu [.t 11,.t 14],oo 5 (.alloc [vn]) [],ou (.st 1) [.t 5,.t 15]]
 (sr [fa 16 0 2,la 17 16,oo 18 (.mkf zcB) [.t 2,.t 3],ca 19 zbt [.t 17,.t 18],ma 6 19]
 (.seq (.seq
 (rg [oo 7 .mv [ki 0]])
 (.block 0 (.loop
 (.seq (.seq
 (rg [ma 20 6,oo 21 .len [.t 20],oo 22 (.bin .gtr) [.t 21,ki 0]])
 (.cond (.t 22)
 .skip
 (.exit 0)))
 (.seq (.block 1 (sr [oo 8 .mv [kn]]
 (.seq (.seq
 (rg [ma 25 6,oo 26 .len [.t 25],oo 27 .mv [ki 0]])
 (.block 2 (.loop
 (sr [oo 28 (.bin .lss) [.t 27,.t 26]]
 (.seq (.cond (.t 28)
 .skip
 (.exit 2))
 (.seq (.block 3 (sr [oo 29 (.iad 1) [.t 25,.t 27],la 30 29,ma 10 30]
 (.seq (.seq
 (rg [la 31 5,ma 32 10,oo 33 (.iad 1) [.t 31,.t 32],la 34 33,oo 35 (.bin .geq) [.t 34,ki 0]])
 (.cond (.t 35)
 (.exit 3)
 .skip))
 (sr [la 36 5,ma 37 10,ma 38 7,oo 39 (.iad 1) [.t 36,.t 37],ou (.st 1) [.t 39,.t 38]]
 (rg [ma 40 8,oo 41 (.ld true 3) [.t 2],ma 42 10,ca 43 zeW [.t 41,.t 42],oo 44 (.app 1 8) [.t 40,.t 43],ma 8 44])))))
 (rg [oo 45 (.bin .add) [.t 27,ki 1],ma 27 45])))))))
 (rg [ma 46 8,oo 47 (.mkf zcC) [.t 5],ca 48 zbd [.t 46,.t 47],ma 6 48]))))
 (rg [ma 23 7,oo 24 (.bin .add) [.t 23,ki 1],ma 7 24]))))))
 (sr [la 49 5,ma 4 49]
 .ret)))))⟩
def ziq : AFun:=⟨20,[(4,none)],
 (sr [oo 4 .mv [kn]]
 (sr [oo 5 .mv [kn]]
 (.seq (.seq
 (rg [ma 7 0,oo 8 .mv [ki 0]])
 (.block 0 (.loop
 (sr [oo 9 (.bin .lss) [.t 8,.t 7]]
 (.seq (.cond (.t 9)
 .skip
 (.exit 0))
 (.seq (.block 1 (sr [ma 10 8,ma 6 10]
 (sr [ma 11 1,ma 12 6,oo 13 .call [.t 11,.t 12]]
 (.cond (.t 13)
 (rg [ma 14 5,ma 15 6,oo 16 (.bsl 1 1 [v0] [0]) [.t 15],oo 17 (.app 1 8) [.t 14,.t 16],ma 5 17])
 .skip))))
 (rg [oo 18 (.bin .add) [.t 8,ki 1],ma 8 18])))))))
 (sr [ma 19 5,ma 4 19]
 .ret))))⟩
def zf9 : AFun:=⟨18,[(4,none)],
 (sr [oo 2 (.box 3) [.t 0],oo 4 .mv [kn]]
 (sr [oo 7 (.ld true 3) [.t 2],ma 8 1,ca 9 zcU [.t 7,.t 8],oo 5 (.alloc [vn]) [],ou (.st 1) [.t 5,.t 9]]
 (sr [la 10 5,oo 11 .len [.t 10],oo 12 (.mkf zbv) [.t 5],ca 13 zbt [.t 11,.t 12],ma 6 13]
 (sr [ma 14 6,oo 15 (.mkf zbW) [.t 5],ca 16 za4 [.t 14,.t 15]]
 (sr [ma 17 6,ma 4 17]
 .ret)))))⟩
def zbN : AFun:=⟨9,[(4,none)],
 (sr [oo 4 .mv [.c (.bool false)]]
 (sr [ma 5 0,ma 6 1,ca 7 za1 [.t 5,.t 6],oo 8 (.bin .geq) [.t 7,ki 0],ma 4 8]
 .ret))⟩
def zmh : AFun:=⟨18,[(2,none)],
 (sr [oo 2 .mv [ki 0]]
 (sr [oo 3 .mv [ki 0]]
 (.seq (.seq
 (rg [ma 6 0,oo 7 .len [.t 6],oo 8 .mv [ki 0]])
 (.block 0 (.loop
 (sr [oo 9 (.bin .lss) [.t 8,.t 7]]
 (.seq (.cond (.t 9)
 .skip
 (.exit 0))
 (.seq (.block 1 (sr [oo 10 (.iad 1) [.t 6,.t 8],la 11 10,ma 5 11]
 (sr [ma 12 5,ma 13 3,oo 14 (.bin .neq) [.t 12,.t 13]]
 (.cond (.t 14)
 (sr [ma 15 5,ma 2 15]
 .ret)
 .skip))))
 (rg [oo 16 (.bin .add) [.t 8,ki 1],ma 8 16])))))))
 (sr [ma 17 3,ma 2 17]
 .ret))))⟩
def zfs : AFun:=⟨20,[(4,none)],
 (sr [oo 4 .mv [ki 0]]
 (sr [ma 7 0,ca 8 zcf [.t 7],ma 5 8]
 (sr [ma 9 1,ca 10 zcf [.t 9],ma 6 10]
 (.seq (.seq
 (rg [ma 11 5])
 (.cond (.t 11)
 (.seq (.seq
 (rg [ma 12 6])
 (.cond (.t 12)
 (sr [oo 4 .mv [ki 0]]
 .ret)
 .skip))
 (sr [oo 4 .mv [ki (-1)]]
 .ret))
 .skip))
 (.seq (.seq
 (rg [ma 13 6])
 (.cond (.t 13)
 (sr [oo 4 .mv [ki 1]]
 .ret)
 .skip))
 (.seq (.seq
 (rg [ma 14 0,ma 15 1,oo 16 (.bin .lss) [.t 14,.t 15]])
 (.cond (.t 16)
 (sr [oo 4 .mv [ki (-1)]]
 .ret)
 .skip))
 (.seq (.seq
 (rg [ma 17 0,ma 18 1,oo 19 (.bin .gtr) [.t 17,.t 18]])
 (.cond (.t 19)
 (sr [oo 4 .mv [ki 1]]
 .ret)
 .skip))
 (sr [oo 4 .mv [ki 0]]
 .ret))))))))⟩
def zrU : AFun:=⟨12,[(2,some (true,3))],
 (sr [oo 1 (.box 3) [.t 0],oo 2 (.alloc [v0,vn,vn]) []]
 (.seq (.reg true [fa 3 0 1,la 4 3,fa 5 1 1,la 6 5,oo 7 (.app 3 24) [kn,.t 6],fa 8 2 1,la 9 8,oo 10 (.app 1 8) [kn,.t 9],oo 11 (.build [v0,vn,vn] [(0,1),(1,1),(2,1)]) [.t 4,.t 7,.t 10],ou (.st 3) [.t 2,.t 11]] [[],[0],[],[2],[3],[],[5],[6,4],[1,4,7],[8,7,0,1,2,3,4,5,6,7,8]])
 .ret))⟩
def zqP : AFun:=⟨105,[(2,none)],
 (sr [oo 1 (.box 3) [.t 0],oo 2 .mv [ki 0]]
 (.seq (.seq
 (rg [fa 5 0 1,la 6 5,oo 7 (.bin .lss) [.t 6,ki 0],ma 8 7,fh 9 0 1 8,lh 10 9 8,oh 11 (.bin .gtr) [.t 10,ki 64] 8,oo 12 .pick [.t 8,.c (.bool true),.t 11],ma 13 12,fh 14 1 1 13,lh 15 14 13,oh 16 .len [.t 15] 13,oh 17 (.bin .gtr) [.t 16,ki 500] 13,oo 18 .pick [.t 13,.c (.bool true),.t 17],ma 19 18,fh 20 2 1 19,lh 21 20 19,fh 22 0 1 19,lh 23 22 19,oh 24 .call [.f zeO,.t 21,.t 23] 19,oh 25 (.un .not) [.t 24] 19,oo 26 .pick [.t 19,.c (.bool true),.t 25]])
 (.cond (.t 26)
 (sr [oo 2 .mv [ki 14]]
 .ret)
 .skip))
 (.seq (.seq
 (rg [oo 3 .mv [ki 0]])
 (.block 0 (.loop
 (.seq (.seq
 (rg [ma 27 3,fa 28 1 1,la 29 28,oo 30 .len [.t 29],oo 31 (.bin .lss) [.t 27,.t 30]])
 (.cond (.t 31)
 .skip
 (.exit 0)))
 (.seq (.block 1 (sr [fa 34 1 1,la 35 34,ma 36 3,oo 37 (.iad 3) [.t 35,.t 36],oo 38 (.ld true 3) [.t 37],oo 4 (.alloc [v0,v0,v0]) [],ou (.st 3) [.t 4,.t 38]]
 (.seq (.seq
 (rg [fa 39 0 4,la 40 39,oo 41 (.bin .lss) [.t 40,ki 0],ma 42 41,fh 43 0 4 42,lh 44 43 42,fh 45 0 1 42,lh 46 45 42,oh 47 (.bin .geq) [.t 44,.t 46] 42,oo 48 .pick [.t 42,.c (.bool true),.t 47],ma 49 48,fh 50 1 4 49,lh 51 50 49,oh 52 (.bin .lss) [.t 51,ki 0] 49,oo 53 .pick [.t 49,.c (.bool true),.t 52],ma 54 53,fh 55 1 4 54,lh 56 55 54,fh 57 0 1 54,lh 58 57 54,oh 59 (.bin .geq) [.t 56,.t 58] 54,oo 60 .pick [.t 54,.c (.bool true),.t 59],ma 61 60,fh 62 0 4 61,lh 63 62 61,fh 64 1 4 61,lh 65 64 61,oh 66 (.bin .eql) [.t 63,.t 65] 61,oo 67 .pick [.t 61,.c (.bool true),.t 66],ma 68 67,fh 69 2 4 68,lh 70 69 68,oh 71 (.bin .lss) [.t 70,ki 1] 68,oo 72 .pick [.t 68,.c (.bool true),.t 71],ma 73 72,fh 74 2 4 73,lh 75 74 73,oh 76 (.bin .gtr) [.t 75,ki 3] 73,oo 77 .pick [.t 73,.c (.bool true),.t 76]])
 (.cond (.t 77)
 (sr [oo 2 .mv [ki 14]]
 .ret)
 .skip))
 (.seq (.reg true [ma 78 3,oo 79 (.bin .gtr) [.t 78,ki 0],ma 80 79,fg 81 1 1 80,lg 82 81 80,mg 83 3 80,og 84 (.bin .sub) [.t 83,ki 1] 80,og 85 (.iad 3) [.t 82,.t 84] 80,og 86 (.ld true 3) [.t 85] 80,og 87 (.ld true 3) [.t 4] 80,og 88 .call [.f zdv,.t 86,.t 87] 80,og 89 (.un .not) [.t 88] 80,oo 90 .pick [.t 80,.t 89,.c (.bool false)],ma 91 90,fh 92 2 1 91,lh 93 92 91,fh 94 0 4 91,lh 95 94 91,oh 96 .call [.f zcg,.t 93,.t 95] 91,oo 97 .pick [.t 91,.c (.bool true),.t 96],ma 98 97,fh 99 2 1 98,lh 100 99 98,fh 101 1 4 98,lh 102 101 98,oh 103 .call [.f zcg,.t 100,.t 102] 98,oo 104 .pick [.t 98,.c (.bool true),.t 103]] [[],[0],[1],[2],[3,2],[2],[5,2],[4,6,2],[7,2],[2],[8,9,2,2],[10,2],[2,11],[12,10],[13],[14,13],[13],[16,13],[15,17,13,13],[13,18],[19,18],[20],[21,20],[20],[23,20],[22,24,20,20],[20,25]])
 (.cond (.t 104)
 (sr [oo 2 .mv [ki 14]]
 .ret)
 .skip)))))
 (rg [ma 32 3,oo 33 (.bin .add) [.t 32,ki 1],ma 3 33]))))))
 (sr [oo 2 .mv [ki 0]]
 .ret))))⟩
def zpX : AFun:=⟨53,[(6,none),(7,none)],
 (sr [oo 3 (.box 3) [.t 0],oo 6 .mv [ki 0],oo 7 .mv [.c (.bool false)]]
 (sr [oo 8 .mv [ki 0]]
 (.seq (.block 0 (.loop
 (.seq (.seq
 (rg [ma 9 8,fa 10 1 3,la 11 10,oo 12 .len [.t 11],oo 13 (.bin .lss) [.t 9,.t 12],ma 14 13,fg 15 1 3 14,lg 16 15 14,mg 17 8 14,og 18 (.iad 3) [.t 16,.t 17] 14,og 19 (.ld true 3) [.t 18] 14,mg 20 1 14,mg 21 2 14,og 22 (.build [v0,v0,v0] [(0,1),(1,1)]) [.t 20,.t 21] 14,og 23 .call [.f zdv,.t 19,.t 22] 14,oo 24 .pick [.t 14,.t 23,.c (.bool false)]])
 (.cond (.t 24)
 .skip
 (.exit 0)))
 (.block 1 (rg [ma 25 8,oo 26 (.bin .add) [.t 25,ki 1],ma 8 26])))))
 (.seq (.reg true [ma 27 8,ma 28 8,fa 29 1 3,la 30 29,oo 31 .len [.t 30],oo 32 (.bin .lss) [.t 28,.t 31],ma 33 32,fg 34 1 3 33,lg 35 34 33,mg 36 8 33,og 37 (.iad 3) [.t 35,.t 36] 33,fg 38 0 37 33,lg 39 38 33,mg 40 1 33,og 41 (.bin .eql) [.t 39,.t 40] 33,oo 42 .pick [.t 33,.t 41,.c (.bool false)],ma 43 42,fg 44 1 3 43,lg 45 44 43,mg 46 8 43,og 47 (.iad 3) [.t 45,.t 46] 43,fg 48 1 47 43,lg 49 48 43,mg 50 2 43,og 51 (.bin .eql) [.t 49,.t 50] 43,oo 52 .pick [.t 43,.t 51,.c (.bool false)],ma 6 27,ma 7 52] [[],[],[],[2],[3],[1,4],[5],[6],[7,6],[6],[8,9,6],[10,6],[11,6],[6],[12,13,6],[6,14],[15,6],[16],[17,16],[16],[18,19,16],[20,16],[21,16],[16],[22,23,16],[16,24],[0,16,0],[25,26,0,1,2,3,4,5,6,7,8,9,10,11,12,13,14,15,16,17,18,19,20,21,22,23,24,25,26]])
 .ret))))⟩
def zhL : AFun:=⟨12,[(2,some (true,3))],
 (sr [oo 1 (.box 3) [.t 0],oo 2 (.alloc [v0,vn,vn]) []]
 (.seq (.reg true [fa 3 0 1,la 4 3,fa 5 1 1,la 6 5,ca 7 zaM [.t 6],fa 8 2 1,la 9 8,ca 10 za0 [.t 9],oo 11 (.build [v0,vn,vn] [(0,1),(1,1),(2,1)]) [.t 4,.t 7,.t 10],ou (.st 3) [.t 2,.t 11]] [[],[0],[],[2],[3],[],[5],[6,4],[1,4,7],[8,7,0,1,2,3,4,5,6,7,8]])
 .ret))⟩
def zbh : AFun:=⟨42,[(4,none)],
 (sr [oo 4 .mv [kn]]
 (sr [ma 8 0,ma 9 1,ca 10 zaB [.t 8,.t 9],ma 5 10]
 (.seq (.seq
 (rg [ma 11 5,oo 12 (.bin .eql) [.t 11,ki (-1)]])
 (.cond (.t 12)
 (sr [ma 13 0,ma 4 13]
 .ret)
 .skip))
 (.seq (.seq
 (rg [ma 14 5,oo 15 (.bin .add) [.t 14,ki 1],ma 6 15])
 (.block 0 (.loop
 (.seq (.seq
 (rg [ma 16 6,ma 17 0,oo 18 .len [.t 17],oo 19 (.bin .lss) [.t 16,.t 18]])
 (.cond (.t 19)
 .skip
 (.exit 0)))
 (.seq (.block 1 (sr [ma 22 0,ma 23 6,oo 24 (.iad 3) [.t 22,.t 23],oo 25 (.ld true 3) [.t 24],oo 7 (.alloc [v0,v0,v0]) [],ou (.st 3) [.t 7,.t 25]]
 (sr [ma 26 1,oo 27 (.ld true 3) [.t 7],oo 28 .call [.t 26,.t 27],oo 29 (.un .not) [.t 28]]
 (.cond (.t 29)
 (sr [ma 30 0,ma 31 5,oo 32 (.ld true 3) [.t 7],oo 33 (.iad 3) [.t 30,.t 31],ou (.st 3) [.t 33,.t 32]]
 (rg [ma 34 5,oo 35 (.bin .add) [.t 34,ki 1],ma 5 35]))
 .skip))))
 (rg [ma 20 6,oo 21 (.bin .add) [.t 20,ki 1],ma 6 21]))))))
 (sr [ma 36 0,ma 37 5,oo 38 (.slc 3 true false false) [.t 36,.t 37],ou (.clr 3 [v0,v0,v0]) [.t 38]]
 (sr [ma 39 0,ma 40 5,oo 41 (.slc 3 false true false) [.t 39,.t 40],ma 4 41]
 .ret))))))⟩
def zgc : AFun:=⟨8,[(3,none)],
 (sr [oo 2 (.box 3) [.t 0],oo 3 .mv [.c (.bool false)]]
 (sr [fa 4 2 2,la 5 4,la 6 1,oo 7 (.bin .lss) [.t 5,.t 6],ma 3 7]
 .ret))⟩
def zc1 : AFun:=⟨48,[(4,none)],
 (sr [oo 4 .mv [kn]]
 (.seq (.seq
 (rg [ma 9 1,oo 10 (.bin .lss) [.t 9,ki 0]])
 (.cond (.t 10)
 (rg [oo 11 .bad [],ou .bad []])
 .skip))
 (sr [ma 13 0,oo 14 .len [.t 13],oo 15 (.cvt .u64) [.t 14],ma 16 1,oo 17 (.cvt .u64) [.t 16],ca 18 zdF [.t 15,.t 17],ma 12 18,oo 19 (.ext 0) [.t 12],oo 20 (.ext 1) [.t 12],ma 5 19,ma 6 20]
 (.seq (.seq
 (rg [ma 21 5,oo 22 (.bin .gtr) [.t 21,(.c (.int .u64 0))],ma 23 22,mh 24 6 23,oh 25 (.bin .gtr) [.t 24,(.c (.int .u64 9223372036854775807))] 23,oo 26 .pick [.t 23,.c (.bool true),.t 25]])
 (.cond (.t 26)
 (rg [oo 27 .bad [],ou .bad []])
 .skip))
 (sr [ma 28 6,oo 29 (.cvt .i64) [.t 28],oo 30 (.mks 1 8 [v0]) [.t 29,.t 29],ma 7 30]
 (sr [ma 31 7,ma 32 0,oo 33 (.cpy 1) [.t 31,.t 32],ma 8 33]
 (.seq (.block 0 (.loop
 (.seq (.seq
 (rg [ma 34 8,ma 35 7,oo 36 .len [.t 35],oo 37 (.bin .lss) [.t 34,.t 36]])
 (.cond (.t 37)
 .skip
 (.exit 0)))
 (.block 1 (.reg true [ma 38 8,ma 39 7,ma 40 8,oo 41 (.slc 1 true false false) [.t 39,.t 40],ma 42 7,ma 43 8,oo 44 (.slc 1 false true false) [.t 42,.t 43],oo 45 (.cpy 1) [.t 41,.t 44],oo 46 (.bin .add) [.t 38,.t 45],ma 8 46] [[],[],[],[1,2],[],[],[4,5],[3,6],[0,7],[8,7,0,1,2,3,4,5,6,7,8]])))))
 (sr [ma 47 7,ma 4 47]
 .ret))))))))⟩
def zfp : AFun:=⟨9,[(4,none)],
 (sr [oo 4 .mv [.c (.bool false)]]
 (sr [oo 5 (.ld true 3) [.t 1],la 6 2,ma 7 0,ca 8 zdl [.t 5,.t 6,.t 7],ma 4 8]
 .ret))⟩
def zga : AFun:=⟨17,[(6,none)],
 (sr [oo 3 (.box 3) [.t 0],oo 6 .mv [.c (.bool false)]]
 (sr [ma 7 1,ma 8 2,ca 9 zam [.t 7,.t 8],ma 10 9,fg 11 2 3 10,lg 12 11 10,mg 13 2 10,og 14 .call [.f zam,.t 12,.t 13] 10,og 15 (.un .not) [.t 14] 10,oo 16 .pick [.t 10,.t 15,.c (.bool false)],ma 6 16]
 .ret))⟩
def ziP : AFun:=⟨28,[(4,none)],
 (sr [oo 2 (.box 3) [.t 0],oo 4 .mv [kn]]
 (sr [oo 5 .mv [kn]]
 (.seq (.seq
 (rg [fa 8 1 2,la 9 8,oo 10 .len [.t 9],oo 11 .mv [ki 0]])
 (.block 0 (.loop
 (sr [oo 12 (.bin .lss) [.t 11,.t 10]]
 (.seq (.cond (.t 12)
 .skip
 (.exit 0))
 (.seq (.block 1 (sr [oo 13 (.iad 3) [.t 9,.t 11],oo 14 (.ld true 3) [.t 13],oo 7 (.alloc [v0,v0,v0]) [],ou (.st 3) [.t 7,.t 14]]
 (sr [fa 15 0 7,la 16 15,ma 17 1,oo 18 (.bin .eql) [.t 16,.t 17]]
 (.cond (.t 18)
 (rg [ma 19 5,fa 20 1 7,la 21 20,oo 22 (.bsl 1 1 [v0] [0]) [.t 21],oo 23 (.app 1 8) [.t 19,.t 22],ma 5 23])
 .skip))))
 (rg [oo 24 (.bin .add) [.t 11,ki 1],ma 11 24])))))))
 (sr [ma 25 5,ca 26 zaX [.t 25]]
 (sr [ma 27 5,ma 4 27]
 .ret)))))⟩
def zcj : AFun:=⟨42,[(4,none)],
 (sr [oo 4 .mv [kn]]
 (sr [ma 8 0,ma 9 1,ca 10 zaI [.t 8,.t 9],ma 5 10]
 (.seq (.seq
 (rg [ma 11 5,oo 12 (.bin .eql) [.t 11,ki (-1)]])
 (.cond (.t 12)
 (sr [ma 13 0,ma 4 13]
 .ret)
 .skip))
 (.seq (.seq
 (rg [ma 14 5,oo 15 (.bin .add) [.t 14,ki 1],ma 6 15])
 (.block 0 (.loop
 (.seq (.seq
 (rg [ma 16 6,ma 17 0,oo 18 .len [.t 17],oo 19 (.bin .lss) [.t 16,.t 18]])
 (.cond (.t 19)
 .skip
 (.exit 0)))
 (.seq (.block 1 (sr [ma 22 0,ma 23 6,oo 24 (.iad 1) [.t 22,.t 23],la 25 24,ma 7 25]
 (sr [ma 26 1,ma 27 7,oo 28 .call [.t 26,.t 27],oo 29 (.un .not) [.t 28]]
 (.cond (.t 29)
 (sr [ma 30 0,ma 31 5,ma 32 7,oo 33 (.iad 1) [.t 30,.t 31],ou (.st 1) [.t 33,.t 32]]
 (rg [ma 34 5,oo 35 (.bin .add) [.t 34,ki 1],ma 5 35]))
 .skip))))
 (rg [ma 20 6,oo 21 (.bin .add) [.t 20,ki 1],ma 6 21]))))))
 (sr [ma 36 0,ma 37 5,oo 38 (.slc 1 true false false) [.t 36,.t 37],ou (.clr 1 [v0]) [.t 38]]
 (sr [ma 39 0,ma 40 5,oo 41 (.slc 1 false true false) [.t 39,.t 40],ma 4 41]
 .ret))))))⟩
def zfw : AFun:=⟨17,[(3,none)],
 (sr [oo 3 .mv [.c (.bool false)]]
 (sr [ma 4 0,la 5 1,oo 6 .len [.t 5],oo 7 (.bin .sub) [.t 6,ki 1],ca 8 zaF [.t 4,ki 0,.t 7],oo 9 (.un .not) [.t 8],ma 10 9,lh 11 1 10,mh 12 0 10,oh 13 (.iad 1) [.t 11,.t 12] 10,lh 14 13 10,oh 15 (.bin .geq) [.t 14,ki 0] 10,oo 16 .pick [.t 10,.c (.bool true),.t 15],ma 3 16]
 .ret))⟩
def zez : AFun:=⟨9,[(3,none)],
 (sr [oo 3 .mv [.c (.bool false)]]
 (sr [la 4 1,ma 5 0,oo 6 (.iad 1) [.t 4,.t 5],la 7 6,oo 8 (.bin .geq) [.t 7,ki 0],ma 3 8]
 .ret))⟩
def zbL : AFun:=⟨9,[],
 (rg [ma 4 0,ma 5 0,oo 6 .len [.t 5],ma 7 1,ca 8 zbk [.t 4,.t 6,.t 7]])⟩
def zeA : AFun:=⟨15,[(5,none)],
 (sr [oo 5 .mv [ki 0]]
 (.seq (.reg true [la 6 2,ma 7 0,oo 8 (.iad 1) [.t 6,.t 7],la 9 8,la 10 2,ma 11 1,oo 12 (.iad 1) [.t 10,.t 11],la 13 12,ca 14 zby [.t 9,.t 13],ma 5 14] [[],[],[0,1],[2],[],[],[4,5],[6],[3,7],[8,8,0,1,2,3,4,5,6,7,8]])
 .ret))⟩
def zb6 : AFun:=⟨9,[(4,none)],
 (sr [oo 4 .mv [.c (.bool false)]]
 (sr [ma 5 0,ma 6 1,ca 7 zaI [.t 5,.t 6],oo 8 (.bin .geq) [.t 7,ki 0],ma 4 8]
 .ret))⟩
def zlq : AFun:=⟨58,[(2,none)],
 (sr [oo 1 (.box 3) [.t 0],oo 2 .mv [ki 0]]
 (.seq (.seq
 (rg [fa 5 0 1,la 6 5,ca 7 zaF [.t 6,ki 0,ki 64],oo 8 (.un .not) [.t 7],ma 9 8,fh 10 1 1 9,lh 11 10 9,oh 12 .len [.t 11] 9,oh 13 (.bin .gtr) [.t 12,ki 500] 9,oo 14 .pick [.t 9,.c (.bool true),.t 13],ma 15 14,fh 16 2 1 15,lh 17 16 15,fh 18 0 1 15,lh 19 18 15,oh 20 (.bin .sub) [.t 19,ki 1] 15,oh 21 .call [.f zcd,.t 17,ki 0,.t 20] 15,oh 22 (.un .not) [.t 21] 15,oo 23 .pick [.t 15,.c (.bool true),.t 22]])
 (.cond (.t 23)
 (sr [oo 2 .mv [ki 14]]
 .ret)
 .skip))
 (.seq (.seq
 (rg [fa 24 1 1,la 25 24,oo 26 .len [.t 25],oo 27 .mv [ki 0]])
 (.block 0 (.loop
 (sr [oo 28 (.bin .lss) [.t 27,.t 26]]
 (.seq (.cond (.t 28)
 .skip
 (.exit 0))
 (.seq (.block 1 (sr [ma 29 27,oo 30 (.iad 3) [.t 25,.t 27],oo 31 (.ld true 3) [.t 30],oo 4 (.alloc [v0,v0,v0]) [],ma 3 29,ou (.st 3) [.t 4,.t 31]]
 (.seq (.reg true [oo 32 (.ld true 3) [.t 1],oo 33 (.ld true 3) [.t 4],ca 34 zf6 [.t 32,.t 33],oo 35 (.un .not) [.t 34],ma 36 35,fh 37 2 4 36,lh 38 37 36,oh 39 .call [.f zaF,.t 38,ki 1,ki 3] 36,oh 40 (.un .not) [.t 39] 36,oo 41 .pick [.t 36,.c (.bool true),.t 40],ma 42 41,mh 43 3 42,oh 44 (.bin .gtr) [.t 43,ki 0] 42,mh 45 44 42,fg 46 1 1 45,lg 47 46 45,mg 48 3 45,og 49 (.bin .sub) [.t 48,ki 1] 45,og 50 (.iad 3) [.t 47,.t 49] 45,og 51 (.ld true 3) [.t 50] 45,og 52 (.ld true 3) [.t 4] 45,og 53 .call [.f zdG,.t 51,.t 52] 45,og 54 (.bin .geq) [.t 53,ki 0] 45,oh 55 .pick [.t 45,.t 54,.c (.bool false)] 42,oo 56 .pick [.t 42,.c (.bool true),.t 55]] [[],[],[0,1],[2],[3,2],[4],[5,4],[6,4,4],[7,4],[4,8],[9,7],[10],[11,10],[12,10,10],[13],[14,13],[13],[16,13],[15,17,13],[18,13],[13],[19,20,13,13],[21,13],[13,22,10],[10,23]])
 (.cond (.t 56)
 (sr [oo 2 .mv [ki 14]]
 .ret)
 .skip))))
 (rg [oo 57 (.bin .add) [.t 27,ki 1],ma 27 57])))))))
 (sr [oo 2 .mv [ki 0]]
 .ret))))⟩
def zku : AFun:=⟨38,[(6,none)],
 (sr [oo 6 .mv [.c (.bool false)]]
 (.seq (.seq
 (rg [ma 9 0,oo 10 .len [.t 9],oo 11 .mv [ki 0]])
 (.block 0 (.loop
 (sr [oo 12 (.bin .lss) [.t 11,.t 10]]
 (.seq (.cond (.t 12)
 .skip
 (.exit 0))
 (.seq (.block 1 (sr [ma 13 11,oo 14 (.iad 1) [.t 9,.t 11],la 15 14,ma 7 13,ma 8 15]
 (sr [ma 16 8,ma 17 1,oo 18 (.bin .lss) [.t 16,.t 17],ma 19 18,mh 20 8 19,mh 21 2 19,oh 22 (.bin .gtr) [.t 20,.t 21] 19,oo 23 .pick [.t 19,.c (.bool true),.t 22],ma 24 23,mh 25 7 24,oh 26 (.bin .gtr) [.t 25,ki 0] 24,mh 27 26 24,mg 28 8 27,mg 29 0 27,mg 30 7 27,og 31 (.bin .sub) [.t 30,ki 1] 27,og 32 (.iad 1) [.t 29,.t 31] 27,lg 33 32 27,og 34 (.bin .leq) [.t 28,.t 33] 27,oh 35 .pick [.t 27,.t 34,.c (.bool false)] 24,oo 36 .pick [.t 24,.c (.bool true),.t 35]]
 (.cond (.t 36)
 (sr [oo 6 .mv [.c (.bool false)]]
 .ret)
 .skip))))
 (rg [oo 37 (.bin .add) [.t 11,ki 1],ma 11 37])))))))
 (sr [oo 6 .mv [.c (.bool true)]]
 .ret)))⟩
def zcu : AFun:=⟨19,[(4,none)],
 (sr [oo 4 .mv [ki 0]]
 (.seq (.seq
 (rg [ma 6 0,oo 7 .len [.t 6],oo 8 .mv [ki 0]])
 (.block 0 (.loop
 (sr [oo 9 (.bin .lss) [.t 8,.t 7]]
 (.seq (.cond (.t 9)
 .skip
 (.exit 0))
 (.seq (.block 1 (sr [ma 10 8,ma 5 10]
 (sr [ma 11 1,ma 12 0,ma 13 5,oo 14 (.iad 1) [.t 12,.t 13],la 15 14,oo 16 (.bin .eql) [.t 11,.t 15]]
 (.cond (.t 16)
 (sr [ma 17 5,ma 4 17]
 .ret)
 .skip))))
 (rg [oo 18 (.bin .add) [.t 8,ki 1],ma 8 18])))))))
 (sr [oo 4 .mv [ki (-1)]]
 .ret)))⟩
def zfa : AFun:=⟨8,[(2,none)],
 (sr [oo 2 .mv [ki 0]]
 (.seq (.cond (.c (.bool false))
 (sr [ma 3 0,oo 4 (.cvt .u32) [.t 3],ca 5 zlH [.t 4],ma 2 5]
 .ret)
 .skip)
 (sr [ma 6 0,ca 7 zbZ [.t 6],ma 2 7]
 .ret)))⟩
def ze9 : AFun:=⟨6,[(2,none)],
 (sr [oo 2 .mv [.c (.bool false)]]
 (sr [ma 3 0,ma 4 0,oo 5 (.bin .neq) [.t 3,.t 4],ma 2 5]
 .ret))⟩
def zue : AFun:=⟨41,[(4,none)],
 (sr [oo 4 .mv [.c (.bool false)]]
 (.seq (.seq
 (rg [oo 5 .mv [ki 0]])
 (.block 0 (.loop
 (.seq (.seq
 (rg [ma 6 5,ma 7 0,oo 8 .len [.t 7],oo 9 (.bin .lss) [.t 6,.t 8]])
 (.cond (.t 9)
 .skip
 (.exit 0)))
 (.seq (.block 1 (.seq (.reg true [ma 12 0,ma 13 5,oo 14 (.iad 1) [.t 12,.t 13],la 15 14,oo 16 (.bin .lss) [.t 15,ki 0],ma 17 16,mh 18 0 17,mh 19 5 17,oh 20 (.iad 1) [.t 18,.t 19] 17,lh 21 20 17,mh 22 1 17,oh 23 (.bin .geq) [.t 21,.t 22] 17,oo 24 .pick [.t 17,.c (.bool true),.t 23],ma 25 24,mh 26 5 25,oh 27 (.bin .gtr) [.t 26,ki 0] 25,mh 28 27 25,mg 29 0 28,mg 30 5 28,og 31 (.iad 1) [.t 29,.t 30] 28,lg 32 31 28,mg 33 0 28,mg 34 5 28,og 35 (.bin .sub) [.t 34,ki 1] 28,og 36 (.iad 1) [.t 33,.t 35] 28,lg 37 36 28,og 38 (.bin .leq) [.t 32,.t 37] 28,oh 39 .pick [.t 28,.t 38,.c (.bool false)] 25,oo 40 .pick [.t 25,.c (.bool true),.t 39]] [[],[],[0,1],[2],[3],[4],[5],[5],[6,7,5],[8,5],[5],[9,10,5],[5,11],[12,5],[13],[14,13],[15,13,13],[16],[16],[17,18,16],[19,16],[16],[16],[22,16],[21,23,16],[24,16],[20,25,16],[16,26,13],[13,27]])
 (.cond (.t 40)
 (sr [oo 4 .mv [.c (.bool false)]]
 .ret)
 .skip)))
 (rg [ma 10 5,oo 11 (.bin .add) [.t 10,ki 1],ma 5 11]))))))
 (sr [oo 4 .mv [.c (.bool true)]]
 .ret)))⟩
def zpi : AFun:=⟨24,[(4,none)],
 (sr [oo 2 (.box 3) [.t 0],oo 3 (.box 3) [.t 1],oo 4 .mv [.c (.bool false)]]
 (sr [fa 5 0 2,la 6 5,fa 7 0 3,la 8 7,oo 9 (.bin .lss) [.t 6,.t 8],ma 10 9,fh 11 0 2 10,lh 12 11 10,fh 13 0 3 10,lh 14 13 10,oh 15 (.bin .eql) [.t 12,.t 14] 10,mh 16 15 10,fg 17 1 2 16,lg 18 17 16,fg 19 1 3 16,lg 20 19 16,og 21 (.bin .lss) [.t 18,.t 20] 16,oh 22 .pick [.t 16,.t 21,.c (.bool false)] 10,oo 23 .pick [.t 10,.c (.bool true),.t 22],ma 4 23]
 .ret))⟩
def zbB : AFun:=⟨8,[(2,none)],
 (sr [oo 2 .mv [kn]]
 (.seq (.seq
 (rg [ma 3 0,oo 4 (.snil false) [.t 3]])
 (.cond (.t 4)
 (sr [oo 2 .mv [kn]]
 .ret)
 .skip))
 (sr [oo 5 (.bsl 3 0 [v0,v0,v0] []) [],ma 6 0,oo 7 (.app 3 24) [.t 5,.t 6],ma 2 7]
 .ret)))⟩
def zcs : AFun:=⟨8,[(2,none)],
 (sr [oo 2 .mv [kn]]
 (.seq (.seq
 (rg [ma 3 0,oo 4 (.snil false) [.t 3]])
 (.cond (.t 4)
 (sr [oo 2 .mv [kn]]
 .ret)
 .skip))
 (sr [oo 5 (.bsl 1 0 [v0] []) [],ma 6 0,oo 7 (.app 1 8) [.t 5,.t 6],ma 2 7]
 .ret)))⟩
def zbl : AFun:=⟨19,[(4,none)],
 (sr [oo 4 .mv [ki 0]]
 (.seq (.seq
 (rg [ma 6 0,oo 7 .len [.t 6],oo 8 .mv [ki 0]])
 (.block 0 (.loop
 (sr [oo 9 (.bin .lss) [.t 8,.t 7]]
 (.seq (.cond (.t 9)
 .skip
 (.exit 0))
 (.seq (.block 1 (sr [ma 10 8,ma 5 10]
 (sr [ma 11 1,ma 12 0,ma 13 5,oo 14 (.iad 3) [.t 12,.t 13],oo 15 (.ld true 3) [.t 14],oo 16 .call [.t 11,.t 15]]
 (.cond (.t 16)
 (sr [ma 17 5,ma 4 17]
 .ret)
 .skip))))
 (rg [oo 18 (.bin .add) [.t 8,ki 1],ma 8 18])))))))
 (sr [oo 4 .mv [ki (-1)]]
 .ret)))⟩
def zgF : AFun:=⟨30,[(4,none),(5,none)],
 (sr [oo 4 .mv [(.c (.int .u64 0))],oo 5 .mv [(.c (.int .u64 0))]]
 (.seq (.cond (.c (.bool false))
 (sr [ma 11 0,oo 12 (.cvt .u32) [.t 11],ma 13 1,oo 14 (.cvt .u32) [.t 13],ca 15 zdY [.t 12,.t 14],ma 10 15,oo 16 (.ext 0) [.t 10],oo 17 (.ext 1) [.t 10],ma 6 16,ma 7 17]
 (sr [ma 18 6,oo 19 (.cvt .u64) [.t 18],ma 20 7,oo 21 (.cvt .u64) [.t 20],ma 4 19,ma 5 21]
 .ret))
 .skip)
 (sr [ma 23 0,ma 24 1,ca 25 zb4 [.t 23,.t 24],ma 22 25,oo 26 (.ext 0) [.t 22],oo 27 (.ext 1) [.t 22],ma 8 26,ma 9 27]
 (sr [ma 28 8,ma 29 9,ma 4 28,ma 5 29]
 .ret))))⟩
def zcF : AFun:=⟨11,[],
 (sr [ma 3 0,oo 4 .len [.t 3],ma 2 4]
 (rg [ma 5 0,ma 6 2,ma 7 2,oo 8 (.cvt .u64) [.t 7],ca 9 zcK [.t 8],ca 10 zaU [.t 5,ki 0,.t 6,.t 9]]))⟩
def zbf : AFun:=⟨19,[(4,none)],
 (sr [oo 4 .mv [ki 0]]
 (.seq (.seq
 (rg [ma 6 0,oo 7 .len [.t 6],oo 8 .mv [ki 0]])
 (.block 0 (.loop
 (sr [oo 9 (.bin .lss) [.t 8,.t 7]]
 (.seq (.cond (.t 9)
 .skip
 (.exit 0))
 (.seq (.block 1 (sr [ma 10 8,ma 5 10]
 (sr [ma 11 1,ma 12 0,ma 13 5,oo 14 (.iad 1) [.t 12,.t 13],la 15 14,oo 16 .call [.t 11,.t 15]]
 (.cond (.t 16)
 (sr [ma 17 5,ma 4 17]
 .ret)
 .skip))))
 (rg [oo 18 (.bin .add) [.t 8,ki 1],ma 8 18])))))))
 (sr [oo 4 .mv [ki (-1)]]
 .ret)))⟩
def zcM : AFun:=⟨63,[],
 (sr [oo 6 .mv [ki 20]]
 (sr [ma 10 6,oo 7 .mv [ki 0],ma 8 10]
 (.seq (.block 0 (.loop
 (.seq (.seq
 (rg [ma 11 8,ma 12 1,oo 13 (.bin .leq) [.t 11,.t 12]])
 (.cond (.t 13)
 .skip
 (.exit 0)))
 (.block 1 (sr [ma 14 0,ma 15 7,ma 16 8,ma 17 2,ca 18 zaN [.t 14,.t 15,.t 16,.t 17]]
 (sr [ma 19 8,ma 7 19]
 (rg [ma 20 8,ma 21 6,oo 22 (.bin .add) [.t 20,.t 21],ma 8 22])))))))
 (sr [ma 23 0,ma 24 7,ma 25 1,ma 26 2,ca 27 zaN [.t 23,.t 24,.t 25,.t 26]]
 (.block 2 (.loop
 (.seq (.seq
 (rg [ma 28 6,ma 29 1,oo 30 (.bin .lss) [.t 28,.t 29]])
 (.cond (.t 30)
 .skip
 (.exit 2)))
 (.block 3 (sr [ma 31 6,oo 32 (.bin .mul) [ki 2,.t 31],oo 7 .mv [ki 0],ma 8 32]
 (.seq (.block 4 (.loop
 (.seq (.seq
 (rg [ma 33 8,ma 34 1,oo 35 (.bin .leq) [.t 33,.t 34]])
 (.cond (.t 35)
 .skip
 (.exit 4)))
 (.block 5 (sr [ma 36 0,ma 37 7,ma 38 7,ma 39 6,oo 40 (.bin .add) [.t 38,.t 39],ma 41 8,ma 42 2,ca 43 zaR [.t 36,.t 37,.t 40,.t 41,.t 42]]
 (sr [ma 44 8,ma 7 44]
 (rg [ma 45 8,ma 46 6,oo 47 (.bin .mul) [ki 2,.t 46],oo 48 (.bin .add) [.t 45,.t 47],ma 8 48])))))))
 (.seq (.seq
 (rg [ma 49 7,ma 50 6,oo 51 (.bin .add) [.t 49,.t 50],ma 9 51])
 (sr [ma 52 9,ma 53 1,oo 54 (.bin .lss) [.t 52,.t 53]]
 (.cond (.t 54)
 (rg [ma 55 0,ma 56 7,ma 57 9,ma 58 1,ma 59 2,ca 60 zaR [.t 55,.t 56,.t 57,.t 58,.t 59]])
 .skip)))
 (rg [ma 61 6,oo 62 (.bin .mul) [.t 61,ki 2],ma 6 62]))))))))))))⟩
def zmr : AFun:=⟨42,[(4,none)],
 (sr [oo 2 (.box 3) [.t 0],oo 3 (.box 3) [.t 1],oo 4 .mv [.c (.bool false)]]
 (sr [fa 5 0 3,la 6 5,fa 7 0 2,la 8 7,oo 9 (.bin .sub) [.t 8,ki 1],ca 10 zaF [.t 6,ki 0,.t 9],ma 11 10,fg 12 1 3 11,lg 13 12 11,fg 14 0 2 11,lg 15 14 11,og 16 (.bin .sub) [.t 15,ki 1] 11,og 17 .call [.f zaF,.t 13,ki 0,.t 16] 11,oo 18 .pick [.t 11,.t 17,.c (.bool false)],ma 19 18,fg 20 0 3 19,lg 21 20 19,fg 22 1 3 19,lg 23 22 19,og 24 (.bin .neq) [.t 21,.t 23] 19,oo 25 .pick [.t 19,.t 24,.c (.bool false)],ma 26 25,fg 27 2 2 26,lg 28 27 26,fg 29 0 3 26,lg 30 29 26,og 31 .call [.f zam,.t 28,.t 30] 26,og 32 (.un .not) [.t 31] 26,oo 33 .pick [.t 26,.t 32,.c (.bool false)],ma 34 33,fg 35 2 2 34,lg 36 35 34,fg 37 1 3 34,lg 38 37 34,og 39 .call [.f zam,.t 36,.t 38] 34,og 40 (.un .not) [.t 39] 34,oo 41 .pick [.t 34,.t 40,.c (.bool false)],ma 4 41]
 .ret))⟩
def zi3 : AFun:=⟨17,[(4,none)],
 (sr [oo 2 (.box 3) [.t 0],oo 3 (.box 3) [.t 1],oo 4 .mv [ki 0]]
 (.seq (.reg true [fa 5 0 2,la 6 5,fa 7 0 3,la 8 7,ca 9 zby [.t 6,.t 8],fa 10 1 2,la 11 10,fa 12 1 3,la 13 12,ca 14 zby [.t 11,.t 13],oo 15 (.bsl 1 2 [v0] [0,1]) [.t 9,.t 14],ca 16 zeZ [.t 15],ma 4 16] [[],[0],[],[2],[1,3],[],[5],[],[7],[6,8,4],[4,9],[10,9],[11,11,0,1,2,3,4,5,6,7,8,9,10,11]])
 .ret))⟩
def zc8 : AFun:=⟨25,[(2,none)],
 (sr [oo 2 .mv [ki 0]]
 (.seq (.seq
 (rg [ma 3 0,oo 4 (.bin .geq) [.t 3,(.c (.int .u64 4294967296))]])
 (.cond (.t 4)
 (sr [ma 5 0,oo 6 (.bin .shr) [.t 5,(.c (.int .u64 32))],ma 0 6]
 (rg [oo 2 .mv [ki 32]]))
 .skip))
 (.seq (.seq
 (rg [ma 7 0,oo 8 (.bin .geq) [.t 7,(.c (.int .u64 65536))]])
 (.cond (.t 8)
 (sr [ma 9 0,oo 10 (.bin .shr) [.t 9,(.c (.int .u64 16))],ma 0 10]
 (rg [ma 11 2,oo 12 (.bin .add) [.t 11,ki 16],ma 2 12]))
 .skip))
 (.seq (.seq
 (rg [ma 13 0,oo 14 (.bin .geq) [.t 13,(.c (.int .u64 256))]])
 (.cond (.t 14)
 (sr [ma 15 0,oo 16 (.bin .shr) [.t 15,(.c (.int .u64 8))],ma 0 16]
 (rg [ma 17 2,oo 18 (.bin .add) [.t 17,ki 8],ma 2 18]))
 .skip))
 (sr [ma 19 2,ma 20 0,oo 21 (.cvt .u8) [.t 20],oo 22 .ixs [(.c (.string ⟨#[0,1,2,2,3,3,3,3,4,4,4,4,4,4,4,4,5,5,5,5,5,5,5,5,5,5,5,5,5,5,5,5,6,6,6,6,6,6,6,6,6,6,6,6,6,6,6,6,6,6,6,6,6,6,6,6,6,6,6,6,6,6,6,6,7,7,7,7,7,7,7,7,7,7,7,7,7,7,7,7,7,7,7,7,7,7,7,7,7,7,7,7,7,7,7,7,7,7,7,7,7,7,7,7,7,7,7,7,7,7,7,7,7,7,7,7,7,7,7,7,7,7,7,7,7,7,7,7,8,8,8,8,8,8,8,8,8,8,8,8,8,8,8,8,8,8,8,8,8,8,8,8,8,8,8,8,8,8,8,8,8,8,8,8,8,8,8,8,8,8,8,8,8,8,8,8,8,8,8,8,8,8,8,8,8,8,8,8,8,8,8,8,8,8,8,8,8,8,8,8,8,8,8,8,8,8,8,8,8,8,8,8,8,8,8,8,8,8,8,8,8,8,8,8,8,8,8,8,8,8,8,8,8,8,8,8,8,8,8,8,8,8,8,8,8,8,8,8,8,8,8,8,8,8,8,8]⟩)),.t 21],oo 23 (.cvt .i64) [.t 22],oo 24 (.bin .add) [.t 19,.t 23],ma 2 24]
 .ret)))))⟩
def zfu : AFun:=⟨17,[(4,none),(5,none)],
 (sr [oo 4 .mv [(.c (.int .u32 0))],oo 5 .mv [(.c (.int .u32 0))]]
 (sr [ma 7 0,oo 8 (.cvt .u64) [.t 7],ma 9 1,oo 10 (.cvt .u64) [.t 9],oo 11 (.bin .mul) [.t 8,.t 10],ma 6 11]
 (sr [ma 12 6,oo 13 (.bin .shr) [.t 12,(.c (.int .u64 32))],oo 14 (.cvt .u32) [.t 13],ma 15 6,oo 16 (.cvt .u32) [.t 15],ma 4 14,ma 5 16]
 .ret)))⟩
def zdZ : AFun:=⟨51,[(4,none),(5,none)],
 (sr [oo 4 .mv [(.c (.int .u64 0))],oo 5 .mv [(.c (.int .u64 0))]]
 (sr [ma 14 0,oo 15 (.bin .and) [.t 14,(.c (.int .u64 4294967295))],ma 6 15]
 (sr [ma 16 0,oo 17 (.bin .shr) [.t 16,(.c (.int .u64 32))],ma 7 17]
 (sr [ma 18 1,oo 19 (.bin .and) [.t 18,(.c (.int .u64 4294967295))],ma 8 19]
 (sr [ma 20 1,oo 21 (.bin .shr) [.t 20,(.c (.int .u64 32))],ma 9 21]
 (sr [ma 22 6,ma 23 8,oo 24 (.bin .mul) [.t 22,.t 23],ma 10 24]
 (sr [ma 25 7,ma 26 8,oo 27 (.bin .mul) [.t 25,.t 26],ma 28 10,oo 29 (.bin .shr) [.t 28,(.c (.int .u64 32))],oo 30 (.bin .add) [.t 27,.t 29],ma 11 30]
 (sr [ma 31 11,oo 32 (.bin .and) [.t 31,(.c (.int .u64 4294967295))],ma 12 32]
 (sr [ma 33 11,oo 34 (.bin .shr) [.t 33,(.c (.int .u64 32))],ma 13 34]
 (sr [ma 35 12,ma 36 6,ma 37 9,oo 38 (.bin .mul) [.t 36,.t 37],oo 39 (.bin .add) [.t 35,.t 38],ma 12 39]
 (sr [ma 40 7,ma 41 9,oo 42 (.bin .mul) [.t 40,.t 41],ma 43 13,oo 44 (.bin .add) [.t 42,.t 43],ma 45 12,oo 46 (.bin .shr) [.t 45,(.c (.int .u64 32))],oo 47 (.bin .add) [.t 44,.t 46],ma 4 47]
 (sr [ma 48 0,ma 49 1,oo 50 (.bin .mul) [.t 48,.t 49],ma 5 50]
 .ret))))))))))))⟩
def zbE : AFun:=⟨134,[],
 (sr [oo 8 .mv [.c (.bool true)]]
 (sr [oo 9 .mv [.c (.bool true)]]
 (.block 0 (.loop
 (.block 1 (sr [ma 19 2,ma 20 1,oo 21 (.bin .sub) [.t 19,.t 20],ma 10 21]
 (.seq (.seq
 (rg [ma 22 10,oo 23 (.bin .leq) [.t 22,ki 12]])
 (.cond (.t 23)
 (sr [ma 24 0,ma 25 1,ma 26 2,ca 27 zaZ [.t 24,.t 25,.t 26]]
 .ret)
 .skip))
 (.seq (.seq
 (rg [ma 28 3,oo 29 (.bin .eql) [.t 28,ki 0]])
 (.cond (.t 29)
 (sr [ma 30 0,ma 31 1,ma 32 2,ca 33 zgb [.t 30,.t 31,.t 32]]
 .ret)
 .skip))
 (.seq (.seq
 (rg [ma 34 8,oo 35 (.un .not) [.t 34]])
 (.cond (.t 35)
 (sr [ma 36 0,ma 37 1,ma 38 2,ca 39 zeK [.t 36,.t 37,.t 38]]
 (rg [ma 40 3,oo 41 (.bin .sub) [.t 40,ki 1],ma 3 41]))
 .skip))
 (sr [ma 43 0,ma 44 1,ma 45 2,ca 46 zfm [.t 43,.t 44,.t 45],ma 42 46,oo 47 (.ext 0) [.t 42],oo 48 (.ext 1) [.t 42],ma 11 47,ma 12 48]
 (.seq (.seq
 (rg [ma 49 12,oo 50 (.bin .eql) [.t 49,ki 2]])
 (.cond (.t 50)
 (sr [ma 51 0,ma 52 1,ma 53 2,ca 54 zeR [.t 51,.t 52,.t 53]]
 (sr [ma 55 2,oo 56 (.bin .sub) [.t 55,ki 1],ma 57 11,ma 58 1,oo 59 (.bin .sub) [.t 57,.t 58],oo 60 (.bin .sub) [.t 56,.t 59],ma 11 60]
 (rg [oo 12 .mv [ki 1]])))
 .skip))
 (.seq (.seq
 (rg [ma 61 8,ma 62 61,mg 63 9 62,oo 64 .pick [.t 62,.t 63,.c (.bool false)],ma 65 64,mg 66 12 65,og 67 (.bin .eql) [.t 66,ki 1] 65,oo 68 .pick [.t 65,.t 67,.c (.bool false)]])
 (.cond (.t 68)
 (sr [ma 69 0,ma 70 1,ma 71 2,ca 72 zdr [.t 69,.t 70,.t 71]]
 (.cond (.t 72)
 .ret
 .skip))
 .skip))
 (.seq (.seq
 (.reg true [ma 73 1,oo 74 (.bin .gtr) [.t 73,ki 0],ma 75 74,mg 76 0 75,mg 77 1 75,og 78 (.bin .sub) [.t 77,ki 1] 75,og 79 (.iad 1) [.t 76,.t 78] 75,lg 80 79 75,mg 81 0 75,mg 82 11 75,og 83 (.iad 1) [.t 81,.t 82] 75,lg 84 83 75,og 85 .call [.f zkn,.t 80,.t 84] 75,og 86 (.un .not) [.t 85] 75,oo 87 .pick [.t 75,.t 86,.c (.bool false)]] [[],[0],[1],[2],[2],[4,2],[3,5,2],[6,2],[2],[2],[8,9,2],[10,2],[7,11,2,2],[12,2],[2,13]])
 (.cond (.t 87)
 (sr [ma 88 0,ma 89 1,ma 90 2,ma 91 11,ca 92 zeB [.t 88,.t 89,.t 90,.t 91],ma 13 92]
 (sr [ma 93 13,ma 1 93]
 (.exit 1)))
 .skip))
 (sr [ma 95 0,ma 96 1,ma 97 2,ma 98 11,ca 99 zfE [.t 95,.t 96,.t 97,.t 98],ma 94 99,oo 100 (.ext 0) [.t 94],oo 101 (.ext 1) [.t 94],ma 14 100,ma 15 101]
 (sr [ma 102 15,ma 9 102]
 (sr [ma 103 14,ma 104 1,oo 105 (.bin .sub) [.t 103,.t 104],ma 106 2,ma 107 14,oo 108 (.bin .sub) [.t 106,.t 107],ma 16 105,ma 17 108]
 (sr [ma 109 10,oo 110 (.bin .quo) [.t 109,ki 8],ma 18 110]
 (sr [ma 111 16,ma 112 17,oo 113 (.bin .lss) [.t 111,.t 112]]
 (.cond (.t 113)
 (sr [ma 114 16,ma 115 18,oo 116 (.bin .geq) [.t 114,.t 115],ma 8 116]
 (sr [ma 117 0,ma 118 1,ma 119 14,ma 120 3,ca 121 zaU [.t 117,.t 118,.t 119,.t 120]]
 (rg [ma 122 14,oo 123 (.bin .add) [.t 122,ki 1],ma 1 123])))
 (sr [ma 124 17,ma 125 18,oo 126 (.bin .geq) [.t 124,.t 125],ma 8 126]
 (sr [ma 127 0,ma 128 14,oo 129 (.bin .add) [.t 128,ki 1],ma 130 2,ma 131 3,ca 132 zaU [.t 127,.t 129,.t 130,.t 131]]
 (rg [ma 133 14,ma 2 133]))))))))))))))))))))))⟩
def zbD : AFun:=⟨53,[],
 (sr [ma 10 1,oo 11 (.bin .add) [.t 10,ki 1],ma 8 11]
 (.block 0 (.loop
 (.seq (.seq
 (rg [ma 12 8,ma 13 2,oo 14 (.bin .lss) [.t 12,.t 13]])
 (.cond (.t 14)
 .skip
 (.exit 0)))
 (.seq (.block 1 (sr [ma 17 8,ma 9 17]
 (.block 2 (.loop
 (.seq (.seq
 (.reg true [ma 18 9,ma 19 1,oo 20 (.bin .gtr) [.t 18,.t 19],ma 21 20,mg 22 3 21,mg 23 0 21,mg 24 9 21,og 25 (.iad 1) [.t 23,.t 24] 21,lg 26 25 21,mg 27 0 21,mg 28 9 21,og 29 (.bin .sub) [.t 28,ki 1] 21,og 30 (.iad 1) [.t 27,.t 29] 21,lg 31 30 21,og 32 .call [.t 22,.t 26,.t 31] 21,og 33 (.bin .lss) [.t 32,ki 0] 21,oo 34 .pick [.t 21,.t 33,.c (.bool false)]] [[],[],[0,1],[2],[3],[3],[3],[5,6,3],[7,3],[3],[3],[10,3],[9,11,3],[12,3],[4,8,13,3,3],[14,3],[3,15]])
 (.cond (.t 34)
 .skip
 (.exit 2)))
 (.seq (.block 3 (.reg true [ma 37 0,ma 38 9,ma 39 0,ma 40 9,oo 41 (.bin .sub) [.t 40,ki 1],ma 42 0,ma 43 9,oo 44 (.bin .sub) [.t 43,ki 1],oo 45 (.iad 1) [.t 42,.t 44],la 46 45,ma 47 0,ma 48 9,oo 49 (.iad 1) [.t 47,.t 48],la 50 49,oo 51 (.iad 1) [.t 37,.t 38],ou (.st 1) [.t 51,.t 46],oo 52 (.iad 1) [.t 39,.t 41],ou (.st 1) [.t 52,.t 50]] [[],[],[],[],[3],[],[],[6],[5,7],[8],[],[],[10,11],[12],[0,1,0,1,5,6,7,8,9,13],[14,9,0,1,5,6,7,8,9,13],[2,4,0,1,2,3,4,5,6,7,8,9,10,11,12,13,14,15],[16,13,15,0,1,2,3,4,5,6,7,8,9,10,11,12,13,14,15]]))
 (rg [ma 35 9,oo 36 (.bin .sub) [.t 35,ki 1],ma 9 36])))))))
 (rg [ma 15 8,oo 16 (.bin .add) [.t 15,ki 1],ma 8 16]))))))⟩
def zcn : AFun:=⟨220,[],
 (.seq (.seq
 (rg [ma 25 2,ma 26 1,oo 27 (.bin .sub) [.t 25,.t 26],oo 28 (.bin .eql) [.t 27,ki 1]])
 (.cond (.t 28)
 (sr [ma 29 2,ma 10 29]
 (sr [ma 30 3,ma 11 30]
 (.seq (.block 0 (.loop
 (.seq (.seq
 (rg [ma 31 10,ma 32 11,oo 33 (.bin .lss) [.t 31,.t 32]])
 (.cond (.t 33)
 .skip
 (.exit 0)))
 (.block 1 (sr [ma 34 10,ma 35 11,oo 36 (.bin .add) [.t 34,.t 35],oo 37 (.cvt .u64) [.t 36],oo 38 (.bin .shr) [.t 37,(.c (.int .u64 1))],oo 39 (.cvt .i64) [.t 38],ma 12 39]
 (.seq (.reg true [ma 40 4,ma 41 0,ma 42 12,oo 43 (.iad 1) [.t 41,.t 42],la 44 43,ma 45 0,ma 46 1,oo 47 (.iad 1) [.t 45,.t 46],la 48 47,oo 49 .call [.t 40,.t 44,.t 48],oo 50 (.bin .lss) [.t 49,ki 0]] [[],[],[],[1,2],[3],[],[],[5,6],[7],[0,4,8],[9]])
 (.cond (.t 50)
 (rg [ma 51 12,oo 52 (.bin .add) [.t 51,ki 1],ma 10 52])
 (rg [ma 53 12,ma 11 53]))))))))
 (.seq (.seq
 (rg [ma 54 1,ma 13 54])
 (.block 2 (.loop
 (.seq (.seq
 (rg [ma 55 13,ma 56 10,oo 57 (.bin .sub) [.t 56,ki 1],oo 58 (.bin .lss) [.t 55,.t 57]])
 (.cond (.t 58)
 .skip
 (.exit 2)))
 (.seq (.block 3 (.reg true [ma 61 0,ma 62 13,ma 63 0,ma 64 13,oo 65 (.bin .add) [.t 64,ki 1],ma 66 0,ma 67 13,oo 68 (.bin .add) [.t 67,ki 1],oo 69 (.iad 1) [.t 66,.t 68],la 70 69,ma 71 0,ma 72 13,oo 73 (.iad 1) [.t 71,.t 72],la 74 73,oo 75 (.iad 1) [.t 61,.t 62],ou (.st 1) [.t 75,.t 70],oo 76 (.iad 1) [.t 63,.t 65],ou (.st 1) [.t 76,.t 74]] [[],[],[],[],[3],[],[],[6],[5,7],[8],[],[],[10,11],[12],[0,1,0,1,5,6,7,8,9,13],[14,9,0,1,5,6,7,8,9,13],[2,4,0,1,2,3,4,5,6,7,8,9,10,11,12,13,14,15],[16,13,15,0,1,2,3,4,5,6,7,8,9,10,11,12,13,14,15]]))
 (rg [ma 59 13,oo 60 (.bin .add) [.t 59,ki 1],ma 13 60]))))))
 .ret))))
 .skip))
 (.seq (.seq
 (rg [ma 77 3,ma 78 2,oo 79 (.bin .sub) [.t 77,.t 78],oo 80 (.bin .eql) [.t 79,ki 1]])
 (.cond (.t 80)
 (sr [ma 81 1,ma 14 81]
 (sr [ma 82 2,ma 15 82]
 (.seq (.block 4 (.loop
 (.seq (.seq
 (rg [ma 83 14,ma 84 15,oo 85 (.bin .lss) [.t 83,.t 84]])
 (.cond (.t 85)
 .skip
 (.exit 4)))
 (.block 5 (sr [ma 86 14,ma 87 15,oo 88 (.bin .add) [.t 86,.t 87],oo 89 (.cvt .u64) [.t 88],oo 90 (.bin .shr) [.t 89,(.c (.int .u64 1))],oo 91 (.cvt .i64) [.t 90],ma 16 91]
 (.seq (.reg true [ma 92 4,ma 93 0,ma 94 2,oo 95 (.iad 1) [.t 93,.t 94],la 96 95,ma 97 0,ma 98 16,oo 99 (.iad 1) [.t 97,.t 98],la 100 99,oo 101 .call [.t 92,.t 96,.t 100],oo 102 (.bin .lss) [.t 101,ki 0],oo 103 (.un .not) [.t 102]] [[],[],[],[1,2],[3],[],[],[5,6],[7],[0,4,8],[9],[10]])
 (.cond (.t 103)
 (rg [ma 104 16,oo 105 (.bin .add) [.t 104,ki 1],ma 14 105])
 (rg [ma 106 16,ma 15 106]))))))))
 (.seq (.seq
 (rg [ma 107 2,ma 17 107])
 (.block 6 (.loop
 (.seq (.seq
 (rg [ma 108 17,ma 109 14,oo 110 (.bin .gtr) [.t 108,.t 109]])
 (.cond (.t 110)
 .skip
 (.exit 6)))
 (.seq (.block 7 (.reg true [ma 113 0,ma 114 17,ma 115 0,ma 116 17,oo 117 (.bin .sub) [.t 116,ki 1],ma 118 0,ma 119 17,oo 120 (.bin .sub) [.t 119,ki 1],oo 121 (.iad 1) [.t 118,.t 120],la 122 121,ma 123 0,ma 124 17,oo 125 (.iad 1) [.t 123,.t 124],la 126 125,oo 127 (.iad 1) [.t 113,.t 114],ou (.st 1) [.t 127,.t 122],oo 128 (.iad 1) [.t 115,.t 117],ou (.st 1) [.t 128,.t 126]] [[],[],[],[],[3],[],[],[6],[5,7],[8],[],[],[10,11],[12],[0,1,0,1,5,6,7,8,9,13],[14,9,0,1,5,6,7,8,9,13],[2,4,0,1,2,3,4,5,6,7,8,9,10,11,12,13,14,15],[16,13,15,0,1,2,3,4,5,6,7,8,9,10,11,12,13,14,15]]))
 (rg [ma 111 17,oo 112 (.bin .sub) [.t 111,ki 1],ma 17 112]))))))
 .ret))))
 .skip))
 (sr [ma 129 1,ma 130 3,oo 131 (.bin .add) [.t 129,.t 130],oo 132 (.cvt .u64) [.t 131],oo 133 (.bin .shr) [.t 132,(.c (.int .u64 1))],oo 134 (.cvt .i64) [.t 133],ma 18 134]
 (sr [ma 135 18,ma 136 2,oo 137 (.bin .add) [.t 135,.t 136],ma 19 137]
 (sr [oo 20 .mv [ki 0],oo 21 .mv [ki 0]]
 (.seq (.seq
 (rg [ma 138 2,ma 139 18,oo 140 (.bin .gtr) [.t 138,.t 139]])
 (.cond (.t 140)
 (sr [ma 141 19,ma 142 3,oo 143 (.bin .sub) [.t 141,.t 142],ma 20 143]
 (rg [ma 144 18,ma 21 144]))
 (sr [ma 145 1,ma 20 145]
 (rg [ma 146 2,ma 21 146]))))
 (sr [ma 147 19,oo 148 (.bin .sub) [.t 147,ki 1],ma 22 148]
 (.seq (.block 8 (.loop
 (.seq (.seq
 (rg [ma 149 20,ma 150 21,oo 151 (.bin .lss) [.t 149,.t 150]])
 (.cond (.t 151)
 .skip
 (.exit 8)))
 (.block 9 (sr [ma 152 20,ma 153 21,oo 154 (.bin .add) [.t 152,.t 153],oo 155 (.cvt .u64) [.t 154],oo 156 (.bin .shr) [.t 155,(.c (.int .u64 1))],oo 157 (.cvt .i64) [.t 156],ma 23 157]
 (.seq (.reg true [ma 158 4,ma 159 0,ma 160 22,ma 161 23,oo 162 (.bin .sub) [.t 160,.t 161],oo 163 (.iad 1) [.t 159,.t 162],la 164 163,ma 165 0,ma 166 23,oo 167 (.iad 1) [.t 165,.t 166],la 168 167,oo 169 .call [.t 158,.t 164,.t 168],oo 170 (.bin .lss) [.t 169,ki 0],oo 171 (.un .not) [.t 170]] [[],[],[],[],[2,3],[1,4],[5],[],[],[7,8],[9],[0,6,10],[11],[12]])
 (.cond (.t 171)
 (rg [ma 172 23,oo 173 (.bin .add) [.t 172,ki 1],ma 20 173])
 (rg [ma 174 23,ma 21 174]))))))))
 (sr [ma 175 19,ma 176 20,oo 177 (.bin .sub) [.t 175,.t 176],ma 24 177]
 (.seq (.seq
 (rg [ma 178 20,ma 179 2,oo 180 (.bin .lss) [.t 178,.t 179],ma 181 180,mg 182 2 181,mg 183 24 181,og 184 (.bin .lss) [.t 182,.t 183] 181,oo 185 .pick [.t 181,.t 184,.c (.bool false)]])
 (.cond (.t 185)
 (rg [ma 186 0,ma 187 20,ma 188 2,ma 189 24,ma 190 4,ca 191 zbO [.t 186,.t 187,.t 188,.t 189,.t 190]])
 .skip))
 (.seq (.seq
 (rg [ma 192 1,ma 193 20,oo 194 (.bin .lss) [.t 192,.t 193],ma 195 194,mg 196 20 195,mg 197 18 195,og 198 (.bin .lss) [.t 196,.t 197] 195,oo 199 .pick [.t 195,.t 198,.c (.bool false)]])
 (.cond (.t 199)
 (rg [ma 200 0,ma 201 1,ma 202 20,ma 203 18,ma 204 4,ca 205 zaR [.t 200,.t 201,.t 202,.t 203,.t 204]])
 .skip))
 (sr [ma 206 18,ma 207 24,oo 208 (.bin .lss) [.t 206,.t 207],ma 209 208,mg 210 24 209,mg 211 3 209,og 212 (.bin .lss) [.t 210,.t 211] 209,oo 213 .pick [.t 209,.t 212,.c (.bool false)]]
 (.cond (.t 213)
 (rg [ma 214 0,ma 215 18,ma 216 24,ma 217 3,ma 218 4,ca 219 zaR [.t 214,.t 215,.t 216,.t 217,.t 218]])
 .skip)))))))))))))⟩
def zei : AFun:=⟨61,[(2,none)],
 (sr [oo 2 .mv [kn]]
 (.seq (.seq
 (rg [ma 6 0,oo 7 .len [.t 6],oo 8 (.bin .lss) [.t 7,ki 2]])
 (.cond (.t 8)
 (sr [ma 9 0,ma 2 9]
 .ret)
 .skip))
 (.seq (.seq
 (rg [oo 3 .mv [ki 1]])
 (.block 0 (.loop
 (.seq (.seq
 (rg [ma 10 3,ma 11 0,oo 12 .len [.t 11],oo 13 (.bin .lss) [.t 10,.t 12]])
 (.cond (.t 13)
 .skip
 (.exit 0)))
 (.seq (.block 1 (.seq (.reg true [ma 16 0,ma 17 3,oo 18 (.iad 1) [.t 16,.t 17],la 19 18,ma 20 0,ma 21 3,oo 22 (.bin .sub) [.t 21,ki 1],oo 23 (.iad 1) [.t 20,.t 22],la 24 23,oo 25 (.bin .eql) [.t 19,.t 24]] [[],[],[0,1],[2],[],[],[5],[4,6],[7],[3,8]])
 (.cond (.t 25)
 (sr [ma 26 0,ma 27 3,oo 28 (.slc 1 true false false) [.t 26,.t 27],ma 4 28]
 (.seq (.seq
 (rg [oo 5 .mv [ki 1]])
 (.block 2 (.loop
 (.seq (.seq
 (rg [ma 29 5,ma 30 4,oo 31 .len [.t 30],oo 32 (.bin .lss) [.t 29,.t 31]])
 (.cond (.t 32)
 .skip
 (.exit 2)))
 (.seq (.block 3 (.seq (.reg true [ma 35 4,ma 36 5,oo 37 (.iad 1) [.t 35,.t 36],la 38 37,ma 39 4,ma 40 5,oo 41 (.bin .sub) [.t 40,ki 1],oo 42 (.iad 1) [.t 39,.t 41],la 43 42,oo 44 (.bin .neq) [.t 38,.t 43]] [[],[],[0,1],[2],[],[],[5],[4,6],[7],[3,8]])
 (.cond (.t 44)
 (sr [ma 45 0,ma 46 3,ma 47 4,ma 48 5,oo 49 (.iad 1) [.t 47,.t 48],la 50 49,oo 51 (.iad 1) [.t 45,.t 46],ou (.st 1) [.t 51,.t 50]]
 (rg [ma 52 3,oo 53 (.bin .add) [.t 52,ki 1],ma 3 53]))
 .skip)))
 (rg [ma 33 5,oo 34 (.bin .add) [.t 33,ki 1],ma 5 34]))))))
 (sr [ma 54 0,ma 55 3,oo 56 (.slc 1 true false false) [.t 54,.t 55],ou (.clr 1 [v0]) [.t 56]]
 (sr [ma 57 0,ma 58 3,oo 59 (.slc 1 false true false) [.t 57,.t 58],ma 2 59]
 .ret))))
 .skip)))
 (rg [ma 14 3,oo 15 (.bin .add) [.t 14,ki 1],ma 3 15]))))))
 (sr [ma 60 0,ma 2 60]
 .ret))))⟩
def zqb : AFun:=⟨28,[(4,none)],
 (sr [oo 2 (.box 3) [.t 0],oo 4 .mv [kn]]
 (sr [oo 5 .mv [kn]]
 (.seq (.seq
 (rg [fa 8 1 2,la 9 8,oo 10 .len [.t 9],oo 11 .mv [ki 0]])
 (.block 0 (.loop
 (sr [oo 12 (.bin .lss) [.t 11,.t 10]]
 (.seq (.cond (.t 12)
 .skip
 (.exit 0))
 (.seq (.block 1 (sr [oo 13 (.iad 3) [.t 9,.t 11],oo 14 (.ld true 3) [.t 13],oo 7 (.alloc [v0,v0,v0]) [],ou (.st 3) [.t 7,.t 14]]
 (sr [fa 15 1 7,la 16 15,ma 17 1,oo 18 (.bin .eql) [.t 16,.t 17]]
 (.cond (.t 18)
 (rg [ma 19 5,fa 20 0 7,la 21 20,oo 22 (.bsl 1 1 [v0] [0]) [.t 21],oo 23 (.app 1 8) [.t 19,.t 22],ma 5 23])
 .skip))))
 (rg [oo 24 (.bin .add) [.t 11,ki 1],ma 11 24])))))))
 (sr [ma 25 5,ca 26 zaX [.t 25]]
 (sr [ma 27 5,ma 4 27]
 .ret)))))⟩
def zbb : AFun:=⟨49,[],
 (sr [ma 8 1,oo 9 (.bin .add) [.t 8,ki 1],ma 6 9]
 (.block 0 (.loop
 (.seq (.seq
 (rg [ma 10 6,ma 11 2,oo 12 (.bin .lss) [.t 10,.t 11]])
 (.cond (.t 12)
 .skip
 (.exit 0)))
 (.seq (.block 1 (sr [ma 15 6,ma 7 15]
 (.block 2 (.loop
 (.seq (.seq
 (.reg true [ma 16 7,ma 17 1,oo 18 (.bin .gtr) [.t 16,.t 17],ma 19 18,mg 20 0 19,mg 21 7 19,og 22 (.iad 1) [.t 20,.t 21] 19,lg 23 22 19,mg 24 0 19,mg 25 7 19,og 26 (.bin .sub) [.t 25,ki 1] 19,og 27 (.iad 1) [.t 24,.t 26] 19,lg 28 27 19,og 29 .call [.f zkn,.t 23,.t 28] 19,oo 30 .pick [.t 19,.t 29,.c (.bool false)]] [[],[],[0,1],[2],[3],[3],[4,5,3],[6,3],[3],[3],[9,3],[8,10,3],[11,3],[7,12,3,3],[3,13]])
 (.cond (.t 30)
 .skip
 (.exit 2)))
 (.seq (.block 3 (.reg true [ma 33 0,ma 34 7,ma 35 0,ma 36 7,oo 37 (.bin .sub) [.t 36,ki 1],ma 38 0,ma 39 7,oo 40 (.bin .sub) [.t 39,ki 1],oo 41 (.iad 1) [.t 38,.t 40],la 42 41,ma 43 0,ma 44 7,oo 45 (.iad 1) [.t 43,.t 44],la 46 45,oo 47 (.iad 1) [.t 33,.t 34],ou (.st 1) [.t 47,.t 42],oo 48 (.iad 1) [.t 35,.t 37],ou (.st 1) [.t 48,.t 46]] [[],[],[],[],[3],[],[],[6],[5,7],[8],[],[],[10,11],[12],[0,1,0,1,5,6,7,8,9,13],[14,9,0,1,5,6,7,8,9,13],[2,4,0,1,2,3,4,5,6,7,8,9,10,11,12,13,14,15],[16,13,15,0,1,2,3,4,5,6,7,8,9,10,11,12,13,14,15]]))
 (rg [ma 31 7,oo 32 (.bin .sub) [.t 31,ki 1],ma 7 32])))))))
 (rg [ma 13 6,oo 14 (.bin .add) [.t 13,ki 1],ma 6 14]))))))⟩
def zcL : AFun:=⟨58,[],
 (sr [ma 12 2,ma 13 1,oo 14 (.bin .sub) [.t 12,.t 13],ma 10 14]
 (sr [ma 15 3,ma 16 2,oo 17 (.bin .sub) [.t 15,.t 16],ma 11 17]
 (.seq (.block 0 (.loop
 (.seq (.seq
 (rg [ma 18 10,ma 19 11,oo 20 (.bin .neq) [.t 18,.t 19]])
 (.cond (.t 20)
 .skip
 (.exit 0)))
 (.block 1 (sr [ma 21 10,ma 22 11,oo 23 (.bin .gtr) [.t 21,.t 22]]
 (.cond (.t 23)
 (sr [ma 24 0,ma 25 2,ma 26 10,oo 27 (.bin .sub) [.t 25,.t 26],ma 28 2,ma 29 11,ma 30 4,ca 31 zaY [.t 24,.t 27,.t 28,.t 29,.t 30]]
 (rg [ma 32 10,ma 33 11,oo 34 (.bin .sub) [.t 32,.t 33],ma 10 34]))
 (sr [ma 35 0,ma 36 2,ma 37 10,oo 38 (.bin .sub) [.t 36,.t 37],ma 39 2,ma 40 11,oo 41 (.bin .add) [.t 39,.t 40],ma 42 10,oo 43 (.bin .sub) [.t 41,.t 42],ma 44 10,ma 45 4,ca 46 zaY [.t 35,.t 38,.t 43,.t 44,.t 45]]
 (rg [ma 47 11,ma 48 10,oo 49 (.bin .sub) [.t 47,.t 48],ma 11 49]))))))))
 (rg [ma 50 0,ma 51 2,ma 52 10,oo 53 (.bin .sub) [.t 51,.t 52],ma 54 2,ma 55 10,ma 56 4,ca 57 zaY [.t 50,.t 53,.t 54,.t 55,.t 56]]))))⟩
def zcb : AFun:=⟨38,[],
 (sr [oo 10 .mv [ki 0]]
 (.block 0 (.loop
 (.seq (.seq
 (rg [ma 11 10,ma 12 3,oo 13 (.bin .lss) [.t 11,.t 12]])
 (.cond (.t 13)
 .skip
 (.exit 0)))
 (.seq (.block 1 (.reg true [ma 16 0,ma 17 1,ma 18 10,oo 19 (.bin .add) [.t 17,.t 18],ma 20 0,ma 21 2,ma 22 10,oo 23 (.bin .add) [.t 21,.t 22],ma 24 0,ma 25 2,ma 26 10,oo 27 (.bin .add) [.t 25,.t 26],oo 28 (.iad 1) [.t 24,.t 27],la 29 28,ma 30 0,ma 31 1,ma 32 10,oo 33 (.bin .add) [.t 31,.t 32],oo 34 (.iad 1) [.t 30,.t 33],la 35 34,oo 36 (.iad 1) [.t 16,.t 19],ou (.st 1) [.t 36,.t 29],oo 37 (.iad 1) [.t 20,.t 23],ou (.st 1) [.t 37,.t 35]] [[],[],[],[1,2],[],[],[],[5,6],[],[],[],[9,10],[8,11],[12],[],[],[],[15,16],[14,17],[18],[0,3,0,1,2,3,8,9,10,11,12,13,19],[20,13,0,1,2,3,8,9,10,11,12,13,19],[4,7,0,1,2,3,4,5,6,7,8,9,10,11,12,13,14,15,16,17,18,19,20,21],[22,19,21,0,1,2,3,4,5,6,7,8,9,10,11,12,13,14,15,16,17,18,19,20,21]]))
 (rg [ma 14 10,oo 15 (.bin .add) [.t 14,ki 1],ma 10 15]))))))⟩
theorem mixed : Tryz.prog.follows .mixedOrders=true:=by kernel_rfl
theorem mkS {f : FuncId} {af : AFun} (fn : Func) (hf : Tryz.prog.funcs[f]? = some fn:=by kernel_rfl) (hc : zvq Tryz.prog fn=some af:=by kernel_rfl) (hn : fn.name ≠ "runtime.NumGoroutine":=by decide) : Src Tryz.prog f af:=⟨mixed,fn,hf,hc,hn⟩
theorem zr5 : Src Tryz.prog zjC zrT:=mkS Tryz.f8
theorem ztA : Src Tryz.prog zkQ zul:=mkS Tryz.f10
theorem zlu : Src Tryz.prog zdW zlL:=mkS Tryz.f11
theorem zm2 : Src Tryz.prog zaC zmH:=mkS Tryz.f13
theorem zpA : Src Tryz.prog zeq zoD:=mkS Tryz.f16
theorem zuG : Src Tryz.prog znl zv1:=mkS Tryz.f17
theorem ztC : Src Tryz.prog zcg znU:=mkS Tryz.f26
theorem zqm : Src Tryz.prog zee zqS:=mkS Tryz.f29
theorem zqG : Src Tryz.prog ziw zqZ:=mkS Tryz.f30
theorem ztK : Src Tryz.prog zgV zuh:=mkS Tryz.f31
theorem znJ : Src Tryz.prog zdQ znB:=mkS Tryz.f33
theorem zrr : Src Tryz.prog zjj zrn:=mkS Tryz.f34
theorem ztZ : Src Tryz.prog zg4 zt1:=mkS Tryz.f35
theorem ziv : Src Tryz.prog zaF ziD:=mkS Tryz.f37
theorem zgt : Src Tryz.prog zbR ziu:=mkS Tryz.f38
theorem zhE : Src Tryz.prog zcU zhq:=mkS Tryz.f39
theorem zgr : Src Tryz.prog zbt ziq:=mkS Tryz.f41
theorem zf7 : Src Tryz.prog zcq zf9:=mkS Tryz.f44
theorem zbP : Src Tryz.prog zam zbN:=mkS Tryz.f51
theorem zmd : Src Tryz.prog zeZ zmh:=mkS Tryz.f57
theorem zfv : Src Tryz.prog zby zfs:=mkS Tryz.f58
theorem zsm : Src Tryz.prog zhk zrU:=mkS Tryz.f59
theorem zrm : Src Tryz.prog zgs zqP:=mkS Tryz.f68
theorem zqn : Src Tryz.prog zih zpX:=mkS Tryz.f69
theorem zhJ : Src Tryz.prog zet zhL:=mkS Tryz.f75
theorem zbi : Src Tryz.prog zaL zbh:=mkS Tryz.f76
theorem zge : Src Tryz.prog zcm zgc:=mkS Tryz.f77
theorem zc4 : Src Tryz.prog zbu zc1:=mkS Tryz.f78
theorem zfo : Src Tryz.prog zcB zfp:=mkS Tryz.f79
theorem zgd : Src Tryz.prog zdl zga:=mkS Tryz.f80
theorem ziV : Src Tryz.prog zeW ziP:=mkS Tryz.f81
theorem zch : Src Tryz.prog zbd zcj:=mkS Tryz.f82
theorem zfn : Src Tryz.prog zcC zfw:=mkS Tryz.f83
theorem zeG : Src Tryz.prog zbv zez:=mkS Tryz.f88
theorem zbK : Src Tryz.prog za4 zbL:=mkS Tryz.f89
theorem zew : Src Tryz.prog zbW zeA:=mkS Tryz.f90
theorem zb0 : Src Tryz.prog zaV zb6:=mkS Tryz.f94
theorem zls : Src Tryz.prog zgm zlq:=mkS Tryz.f107
theorem zkc : Src Tryz.prog zcd zku:=mkS Tryz.f108
theorem zct : Src Tryz.prog za1 zcu:=mkS Tryz.f109
theorem zgG : Src Tryz.prog zcK zfa:=mkS Tryz.f113
theorem ze6 : Src Tryz.prog zcf ze9:=mkS Tryz.f114
theorem zud : Src Tryz.prog zeO zue:=mkS Tryz.f119
theorem zpD : Src Tryz.prog zdv zpi:=mkS Tryz.f120
theorem zba : Src Tryz.prog zaM zbB:=mkS Tryz.f126
theorem zbG : Src Tryz.prog za0 zcs:=mkS Tryz.f127
theorem zbm : Src Tryz.prog zaB zbl:=mkS Tryz.f128
theorem zgK : Src Tryz.prog zdF zgF:=mkS Tryz.f129
theorem zbU : Src Tryz.prog zaX zcF:=mkS Tryz.f130
theorem zbg : Src Tryz.prog zaI zbf:=mkS Tryz.f131
theorem zcN : Src Tryz.prog zbk zcM:=mkS Tryz.f134
theorem zl5 : Src Tryz.prog zf6 zmr:=mkS Tryz.f144
theorem zi5 : Src Tryz.prog zdG zi3:=mkS Tryz.f145
theorem zdU : Src Tryz.prog zbZ zc8:=mkS Tryz.f155
theorem zhP : Src Tryz.prog zdY zfu:=mkS Tryz.f165
theorem zdT : Src Tryz.prog zb4 zdZ:=mkS Tryz.f166
theorem zcz : Src Tryz.prog zaU zbE:=mkS Tryz.f167
theorem zbC : Src Tryz.prog zaN zbD:=mkS Tryz.f169
theorem zdu : Src Tryz.prog zaR zcn:=mkS Tryz.f170
theorem zg2 : Src Tryz.prog zcR zei:=mkS Tryz.f172
theorem zuL : Src Tryz.prog zmg zqb:=mkS Tryz.f174
theorem zbz : Src Tryz.prog zaZ zbb:=mkS Tryz.f188
theorem zdN : Src Tryz.prog zbO zcL:=mkS Tryz.f198
theorem zdj : Src Tryz.prog zaY zcb:=mkS Tryz.f208
abbrev ints (l : List Int) : AV:=.vs 1 false (l.map λ n=>[AV.I n])
theorem zp7 (l : List Int) (n : Int) (hl : l.length<=140737488355328) : zaj Tryz.prog zcg [ints l,.I n] [] (.B (l.contains n)) []:=by
 refine ztC.acalls (by simp [znU]) (by simp) (by simp) ?_
 show awp _ 0 _ _ ⟨18,[(0,ints l),(1,.I n)],[],16⟩;refine zab (zap (s:=?s1) rfl ?o1 ?q1)
 case o1=>simp; rfl
 refine zab (zab (zap (s:=?s2) rfl ?o2 ?q2))
 case o2=>simp; rfl
 refine zae ?_;refine zat (ι:=Nat) (λ k=>{ sz:=18,t:=[(0,ints l),(1,.I n),(5,.I k)],h:=[],n:=16 }) (λ k=>k<=l.length/\n∉l.take k) (λ k=>l.length - k) 0 (by simp) ?_ ?_
 .refine Le.slots rfl rfl ?_
  simp [ints]
 .rintro k ⟨hk,hn⟩
  refine zab (zab (zap (s:=?s3) rfl ?o3 ?q3))
  case o3=>simp; rfl
  refine zac _ rfl ?_ ?_
  .intro hlt
   simp only [decide_eq_true_eq,Int.ofNat_lt] at hlt;show awp _ _ _ _ _;refine zab (zae (zab (zap (s:=?s4) rfl ?o4 ?q4)))
   case o4=>simp [hlt]; rfl
   refine zac _ rfl ?_ ?_
   .intro heq
    refine zab (zap (s:=?s5) rfl ?o5 ?q5)
    case o5=>simp; rfl
    refine ⟨.inr rfl,zao.one ?_⟩;have : n∈l:=by simp at heq; simp [<- heq]
    simp [this]
   .intro hne
    refine zad (zap (s:=?s6) rfl ?o6 ?q6)
    case o6=>simp; rfl
    refine ⟨k+1,⟨by omega,?_⟩,by omega,Le.slots rfl rfl ?_⟩
    .intro hm
     simp at hne;rw [List.take_succ_eq_append_getElem hlt] at hm;rcases List.mem_append.1 hm with h | h
     .exact hn h
     .exact hne (List.mem_singleton.1 h).symm
    .have hw : IntKind.i64.wrap ((k : Int)+1)=((k+1 : Nat) : Int):=w6
     simp [Wk.refl,hw]
  .intro hge
   refine zar (hit ?_);refine zab (zap (s:=?s7) rfl ?o7 ?q7)
   case o7=>simp; rfl
   refine zah ⟨.inr rfl,zao.one ?_⟩;simp at hge
   have : n∉l:=by
    have : l.take k=l:=List.take_of_length_le hge;rw [this] at hn;exact hn
   simp [this]
theorem zsB (x : Int) : zaj Tryz.prog zcf [.I x] [] (.B false) []:=by
 refine ze6.ac ?_;show awp _ 0 _ _ ⟨6,[(0,.I x)],[],16⟩;refine zab (zap (s:=?s1) rfl ?o1 ?q1)
 case o1=>simp; rfl
 refine zab (zap (s:=?s2) rfl ?o2 ?q2)
 case o2=>simp; rfl
 exact zah ⟨.inr rfl,zao.one (by simp)⟩
theorem zcp (n lo hi : Int) : zaj Tryz.prog zaF [.I n,.I lo,.I hi] [] (.B (decide (lo<=n) && decide (n<=hi))) []:=by
 refine ziv.ac ?_;show awp _ 0 _ _ ⟨15,[(0,.I n),(1,.I lo),(2,.I hi)],[],16⟩;refine zab (zap (s:=?s1) rfl ?o1 ?q1)
 case o1=>simp; rfl
 by_cases h : lo<=n
 .refine zab (zap (s:=?s2) rfl ?o2 ?q2)
  case o2=>simp [h]; rfl
  exact zah ⟨.inr rfl,zao.one (by simp [h])⟩
 .refine zab (zap (s:=?s3) rfl ?o3 ?q3)
  case o3=>simp [h]; rfl
  exact zah ⟨.inr rfl,zao.one (by simp [h])⟩
def cmpI (x y : Int) : Int:=if x<y then -1 else if x > y then 1 else 0
theorem zkD (x y : Int) : zaj Tryz.prog zby [.I x,.I y] [] (.I (cmpI x y)) []:=by
 refine zfv.ac ?_;show awp _ 0 _ _ ⟨20,[(0,.I x),(1,.I y)],[],16⟩;refine zab (zap (s:=?s1) rfl ?o1 ?q1)
 case o1=>simp; rfl
 refine zab (zap (s:=?s2) rfl ?o2 ?q2)
 case o2=>simp; refine zaq (zsB _) rfl ?_; simp; rfl
 refine zab (zap (s:=?s3) rfl ?o3 ?q3)
 case o3=>simp; refine zaq (zsB _) rfl ?_; simp; rfl
 refine zab (zab (zap (s:=?s4) rfl ?o4 ?q4))
 case o4=>simp; rfl
 refine zac _ rfl (λ h=>by cases h) λ _=>zad ?_
 refine zab (zab (zap (s:=?s5) rfl ?o5 ?q5))
 case o5=>simp; rfl
 refine zac _ rfl (λ h=>by cases h) λ _=>zad ?_
 refine zab (zab (zap (s:=?s6) rfl ?o6 ?q6))
 case o6=>simp; rfl
 refine zac _ rfl (λ h=>?_) λ h1=>zad ?_
 .refine zab (zap (s:=?s7) rfl ?o7 ?q7)
  case o7=>simp; rfl
  exact zah ⟨.inr rfl,zao.one (by simp at h; simp [cmpI,h])⟩
 refine zab (zab (zap (s:=?s8) rfl ?o8 ?q8))
 case o8=>simp; rfl
 refine zac _ rfl (λ h=>?_) λ h2=>zad ?_
 .refine zab (zap (s:=?s9) rfl ?o9 ?q9)
  case o9=>simp; rfl
  exact zah ⟨.inr rfl,zao.one (by simp at h h1; simp [cmpI,h,Int.not_lt.2 h1])⟩
 refine zab (zap (s:=?s10) rfl ?o10 ?q10)
 case o10=>simp; rfl
 exact zah ⟨.inr rfl,zao.one (by simp at h1 h2; simp [cmpI,Int.not_lt.2 h1,Int.not_lt.2 h2])⟩
theorem zA7 (l : List Int) (hl : l.length<=140737488355328) : zaj Tryz.prog zeZ [ints l] [] (.I ((l.find? (· != 0)).getD 0)) []:=by
 refine zmd.ac ?_;show awp _ 0 _ _ ⟨18,[(0,ints l)],[],16⟩;refine zab ?_;refine zan ?_;refine zab ?_;refine zan ?_;refine zab ?_;refine zab ?_;refine zan ?_;refine zae ?_;refine zat (ι:=Nat) (λ k=>⟨18,[(3,.I 0),(6,ints l),(7,.I l.length),(8,.I k)],[],16⟩) (λ k=>k<=l.length/\l.find? (· != 0)=(l.drop k).find? (· != 0)) (λ k=>l.length - k) 0 ?_ (Le.slots rfl rfl ?_) ?_
 .simp
 .simp
 rintro k ⟨hk,hf⟩
 refine zab ?_;refine zan ?_;refine zab ?_;refine zac _ rfl (λ h5=>?_) λ h5=>?_
 .simp at h5
  rw [List.drop_eq_getElem_cons h5,List.find?_cons] at hf;refine zad ?_;refine zab ?_;refine zae ?_;refine zab ?_;refine zap (s:=?s6) rfl ?o6 ?q6
  case o6=>simp [h5]; rfl
  refine zab ?_;refine zan ?_;refine zac _ rfl (λ h8=>?_) λ h8=>?_
  .refine zab ?_
   refine zan ?_;refine zah ?_;rw [h8] at hf;exact ⟨.inr rfl,zao.one (by simp [hf])⟩
  refine zad ?_;refine zan ?_;rw [h8] at hf;have hw : IntKind.i64.wrap ((k : Int)+1)=(k : Int)+1:=w6;refine ⟨k+1,⟨h5,hf⟩,by omega,Le.slots rfl rfl ?_⟩
  simp [hw]
 simp at h5;rw [List.drop_eq_nil_of_le h5] at hf;refine zar ?_;refine hit ?_;refine zab ?_;refine zan ?_;refine zah ?_;exact ⟨.inr rfl,zao.one (by simp [hf])⟩
structure Ed where
 f : Int
 t : Int
 v : Int
 deriving DecidableEq,Inhabited
abbrev Ed.row (e : Ed) : List AV:=[.I e.f,.I e.t,.I e.v]
abbrev eE (e : Ed) : AV:=.agg [.I e.f,.I e.t,.I e.v]
abbrev eEs (l : List Ed) : AV:=.vs 3 false (l.map λ e=>[.I e.f,.I e.t,.I e.v])
def cmpE (a b : Ed) : Int:=([cmpI a.f b.f,cmpI a.t b.t].find? (· != 0)).getD 0
theorem zlR (a b : Ed) : zaj Tryz.prog zdG [eE a,eE b] [] (.I (cmpE a b)) []:=by
 refine zi5.ac ?_;show awp _ 0 _ _ ⟨17,[(0,eE a),(1,eE b)],[],16⟩;refine zab ?_;refine zan ?_;refine zab ?_;refine zhs (s:=?s2) (tr:=?t2) rfl ?o2 ?r2 ?q2
 case o2 =>
  simp; refine zaq (zkD ..) rfl ?_; simp; refine zaq (zkD ..) rfl ?_; simp [zjt];refine zll [120] (zA7 [cmpI a.f b.f,cmpI a.t b.t] (by simp)) (by simp) (.sc _) ?_; simp; constructor <;> rfl
 case r2=>rfl
 refine zah ?_;exact ⟨.inr rfl,zao.one (by simp; exact .refl _)⟩
def idxI (l : List Int) (x : Int) : Int:=if x∈l then (l.idxOf x : Int) else -1
theorem zgB (l : List Int) (x : Int) (hl : l.length<=9223372036854775807) : zaj Tryz.prog za1 [ints l,.I x] [] (.I (idxI l x)) []:=by
 refine zct.ac ?_;show awp _ 0 _ _ ⟨19,[(0,ints l),(1,.I x)],[],16⟩;refine zab ?_;refine zan ?_;refine zab ?_;refine zab ?_;refine zan ?_;refine zae ?_;refine zat (ι:=Nat) (λ k=>⟨19,[(0,ints l),(1,.I x),(6,ints l),(7,.I l.length),(8,.I k)],[],16⟩) (λ k=>k<=l.length/\x∉l.take k) (λ k=>l.length - k) 0 ?_ (Le.slots rfl rfl ?_) ?_
 .simp
 .simp
 rintro k ⟨hk,hn⟩
 refine zab ?_;refine zan ?_;refine zab ?_;refine zac _ rfl (λ h4=>?_) λ h4=>?_
 .simp at h4
  refine zad ?_;refine zab ?_;refine zae ?_;refine zab ?_;refine zan ?_;refine zab ?_;refine zap (s:=?s6) rfl ?o6 ?q6
  case o6=>simp [h4]; rfl
  refine zac _ rfl (λ h7=>?_) λ h7=>?_
  .refine zab ?_
   refine zan ?_;refine zah ?_;have hm : x∈l:=by simp at h7; rw [h7]; exact List.getElem_mem h4
   have hi : l.idxOf x=k:=by
    simp at h7;have h1 : l=l.take k++x::l.drop (k+1):=by rw [h7,<- List.drop_eq_getElem_cons h4,List.take_append_drop]
    rw [h1,List.idxOf_append,if_neg hn,List.idxOf_cons_self];simp;omega
   exact ⟨.inr rfl,zao.one (by simp [idxI,hm,hi])⟩
  refine zad ?_;refine zan ?_;have hw : IntKind.i64.wrap ((k : Int)+1)=(k : Int)+1:=w6;refine ⟨k+1,⟨h4,?_⟩,by omega,Le.slots rfl rfl ?_⟩
  .intro hm
   simp at h7;rw [List.take_succ_eq_append_getElem h4] at hm;rcases List.mem_append.1 hm with h | h
   .exact hn h
   .exact h7 (List.mem_singleton.1 h)
  .simp [hw]
 simp at h4;refine zar ?_;refine hit ?_;refine zab ?_;refine zan ?_;refine zah ?_;rw [List.take_of_length_le h4] at hn;exact ⟨.inr rfl,zao.one (by simp [idxI,hn])⟩
theorem zpT (l : List Int) (x : Int) (hl : l.length<=9223372036854775807) : zaj Tryz.prog zam [ints l,.I x] [] (.B (decide (x∈l))) []:=by
 refine zbP.ac ?_;show awp _ 0 _ _ ⟨9,[(0,ints l),(1,.I x)],[],16⟩;refine zab ?_;refine zan ?_;refine zab ?_;refine zap (s:=?s2) rfl ?o2 ?q2
 case o2=>simp; refine zaq (zgB l x hl) rfl ?_; simp; rfl
 refine zah ?_
 have : decide (0<=idxI l x)=decide (x∈l):=by
  unfold idxI
  by_cases h : x∈l
  .simp [h]
  .simp [h]
 exact ⟨.inr rfl,zao.one (by simp [this])⟩
theorem zdn (l : List Int) (x : Int) (hl : l.length<=140737488355328) : zaj Tryz.prog zam [ints l,.I x] [] (.B (decide (x∈l))) [] :=
 zpT l x (by omega)
def znS (l : List Int) (lo hi : Int) (i : Nat) : Prop:=∀ h : i<l.length,lo<=l[i]/\l[i]<=hi/\(0<i->l[i - 1]<l[i])
def Rise (l : List Int) (lo hi : Int) : Prop:=∀ i,znS l lo hi i
open Classical in
theorem zlA (l : List Int) (lo hi : Int) (hl : l.length<=9223372036854775807) : zaj Tryz.prog zcd [ints l,.I lo,.I hi] [] (.B (decide (Rise l lo hi))) []:=by
 refine zkc.ac ?_;show awp _ 0 _ _ ⟨38,[(0,ints l),(1,.I lo),(2,.I hi)],[],16⟩;refine zab ?_;refine zan ?_;refine zab ?_;refine zab ?_;refine zan ?_;refine zae ?_;refine zat (ι:=Nat) (λ k=>⟨38,[(0,ints l),(1,.I lo),(2,.I hi),(9,ints l),(10,.I l.length),(11,.I k)],[],16⟩) (λ k=>k<=l.length /\ ∀ i,i<k->znS l lo hi i) (λ k=>l.length - k) 0 ?_ (Le.slots rfl rfl ?_) ?_
 .simp
 .simp
 rintro k ⟨hk,hp⟩
 refine zab ?_;refine zan ?_;refine zab ?_;refine zac _ rfl (λ h4=>?_) λ h4=>?_
 .simp at h4
  have hw : IntKind.i64.wrap ((k : Int)+1)=(k : Int)+1:=w6;refine zad ?_;refine zab ?_;refine zae ?_;refine zab ?_;refine zap (s:=?s5) rfl ?o5 ?q5
  case o5=>simp [h4]; rfl
  refine zab ?_
  by_cases a1 : l[k]<lo
  .refine zap (s:=?s21) rfl ?o21 ?q21
   case o21=>simp [a1]; rfl
   refine zac _ rfl (λ _=>?_) λ h=>by cases h
   refine zab ?_;refine zan ?_;refine zah ?_;have hn : ¬ Rise l lo hi:=λ h=>by have:=h k h4; omega
   exact ⟨.inr rfl,zao.one (by simp [hn])⟩
  by_cases a2 : hi<l[k]
  .refine zap (s:=?s22) rfl ?o22 ?q22
   case o22=>simp [a1,a2]; rfl
   refine zac _ rfl (λ _=>?_) λ h=>by cases h
   refine zab ?_;refine zan ?_;refine zah ?_;have hn : ¬ Rise l lo hi:=λ h=>by have:=h k h4; omega
   exact ⟨.inr rfl,zao.one (by simp [hn])⟩
  by_cases a3 : 0<k
  .have hw1 : IntKind.i64.wrap ((k : Int) - 1)=((k - 1 : Nat) : Int):=by rw [w6]; omega
   have h5 : k - 1<l.length:=by omega
   by_cases a4 : l[k]<=l[k - 1]
   .refine zap (s:=?s23) rfl ?o23 ?q23
    case o23=>simp [a1,a2,a3,a4,hw1,h5]; rfl
    refine zac _ rfl (λ _=>?_) λ h=>by cases h
    refine zab ?_;refine zan ?_;refine zah ?_;have hn : ¬ Rise l lo hi:=λ h=>by have:=h k h4; have:=this.2.2 a3; omega
    exact ⟨.inr rfl,zao.one (by simp [hn])⟩
   .refine zap (s:=?s24) rfl ?o24 ?q24
    case o24=>simp [a1,a2,a3,a4,hw1,h5]; rfl
    refine zac _ rfl (λ h=>by cases h) λ _=>zad ?_
    refine zan ?_;refine ⟨k+1,⟨h4,λ i hi=>?_⟩,by omega,Le.slots rfl rfl ?_⟩
    .rcases Nat.lt_succ_iff_lt_or_eq.1 hi with h | rfl
     .exact hp i h
     .intro _; exact ⟨by omega,by omega,λ _=>by omega⟩
    .simp [hw]
  .refine zap (s:=?s25) rfl ?o25 ?q25
   case o25=>simp [a1,a2,a3]; rfl
   refine zac _ rfl (λ h=>by cases h) λ _=>zad ?_
   refine zan ?_;refine ⟨k+1,⟨h4,λ i hi=>?_⟩,by omega,Le.slots rfl rfl ?_⟩
   .rcases Nat.lt_succ_iff_lt_or_eq.1 hi with h | rfl
    .exact hp i h
    .intro _; exact ⟨by omega,by omega,λ h=>absurd h a3⟩
   .simp [hw]
 simp at h4;refine zar ?_;refine hit ?_;refine zab ?_;refine zan ?_;refine zah ?_;have hy : Rise l lo hi:=λ i hi=>hp i (by omega) hi
 exact ⟨.inr rfl,zao.one (by simp [hy])⟩
open Classical in
theorem zf5 (l : List Int) (lo hi : Int) (hl : l.length<=140737488355328) : zaj Tryz.prog zcd [ints l,.I lo,.I hi] [] (.B (decide (Rise l lo hi))) [] :=
 zlA l lo hi (by omega)
structure Gr where
 size : Int
 edges : List Ed
 gone : List Int
abbrev gC (g : Gr) : List AV:=[.I g.size,eEs g.edges,ints g.gone]
abbrev eG (g : Gr) : AV:=.agg (gC g)
abbrev eC (e : Ed) : List AV:=[.I e.f,.I e.t,.I e.v]
def Fits (g : Gr) (e : Ed) : Prop:=0<=e.f/\e.f<=g.size - 1/\0<=e.t/\e.t<=g.size - 1/\e.f≠e.t/\e.f∉g.gone/\e.t∉g.gone
instance (g : Gr) (e : Ed) : Decidable (Fits g e):=by unfold Fits; infer_instance
theorem zoE (g : Gr) (e : Ed) (hs : 0<=g.size) (hs' : g.size<=64) (hl : g.gone.length<=140737488355328) : zaj Tryz.prog zf6 [eG g,eE e] [] (.B (decide (Fits g e))) []:=by
 refine zl5.ac ?_;show awp _ 0 _ _ ⟨42,[(0,eG g),(1,eE e)],[],16⟩;refine zaa ⟨42,[(2,.pv (gC g)),(3,.pv (eC e)),(4,.B false)],[],16⟩ rfl ?_ ?_
 .simp -implicitDefEqProofs
  exact Le.snap [16,24] rfl rfl (by simp)
 have hw : IntKind.i64.wrap (g.size - 1)=g.size - 1:=w6;refine zaa ⟨42,[(4,.B (decide (Fits g e)))],[],16⟩ rfl ?_ ?_
 .simp [hw]
  repeat' first
   | (refine zgh zaF rfl ?_; refine zaq (zcp ..) rfl ?_; simp [hw])
   | (refine zgh zam rfl ?_; refine zaq (zdn _ _ hl) rfl ?_; simp [hw])
   | (refine zen (λ hb=>?_) (λ hb=>?_) <;> (try rw [hb]) <;> simp [hw])
  all_goals exact Le.snap [] rfl rfl (by simp; exact wkB (by simp at *; grind [Fits]))
 refine zah ?_;exact ⟨.inr rfl,zao.one (by simp)⟩
def zsh (g : Gr) : Prop:=0<=g.size/\g.size<=64/\g.edges.length<=500/\Rise g.gone 0 (g.size - 1)
def EdAt (g : Gr) (i : Nat) : Prop:=∀ h : i<g.edges.length,Fits g g.edges[i]/\1<=g.edges[i].v/\g.edges[i].v<=3/\(0<i->cmpE g.edges[i - 1] g.edges[i]<0)
def GrOk (g : Gr) : Prop:=zsh g /\ ∀ i,EdAt g i
open Classical in
theorem znu (g : Gr) (hl : g.edges.length<=140737488355328) (hl2 : g.gone.length<=140737488355328) : zaj Tryz.prog zgm [eG g] [] (.I (if GrOk g then 0 else 14)) []:=by
 refine zls.ac ?_;show awp _ 0 _ _ ⟨58,[(0,eG g)],[],16⟩;refine zaa ⟨58,[(1,.pv (gC g))],[],16⟩ rfl ?_ ?_
 .simp
  exact Le.snap [16] rfl rfl (by simp)
 refine zab ?_;refine zaa ⟨58,[(1,.pv (gC g)),(23,.B (decide (¬ zsh g)))],[],16⟩ rfl ?_ ?_
 .simp
  repeat' first
   | (refine zgh zaF rfl ?_; refine zaq (zcp ..) rfl ?_; simp)
   | (refine zgh zcd rfl ?_; have hw : IntKind.i64.wrap (g.size - 1)=g.size - 1:=w6; rw [hw]; refine zaq (zf5 _ _ _ hl2) rfl ?_; simp)
   | (refine zen (λ hb=>?_) (λ hb=>?_) <;> (try rw [hb]) <;> (try simp at hb) <;> simp [hb])
  all_goals exact Le.snap [] rfl rfl (by simp; exact wkB (by (try simp at *); grind [zsh]))
 refine zac _ rfl (λ h1=>?_) λ h1=>?_
 .refine zab ?_
  refine zan ?_;refine zah ?_;simp at h1;exact ⟨.inr rfl,zao.one (by simp [GrOk,h1])⟩
 simp at h1;have hs:=h1.1;have hs2:=h1.2.1;refine zad ?_;refine zab ?_;refine zab ?_;refine zan ?_;refine zae ?_;refine zat (ι:=Nat) (λ k=>⟨58,[(1,.pv (gC g)),(25,eEs g.edges),(26,.I g.edges.length),(27,.I k)],[],16⟩) (λ k=>k<=g.edges.length /\ ∀ i,i<k->EdAt g i) (λ k=>g.edges.length - k) (0) ?_ (Le.snap [] rfl rfl (by simp)) ?_
 .simp
 rintro k ⟨hk,hp⟩
 refine zab ?_;refine zan ?_;refine zab ?_;refine zac _ rfl (λ h5=>?_) λ h5=>?_
 .simp at h5
  have hw2 : IntKind.i64.wrap ((k : Int)+1)=(k : Int)+1:=w6;have hwp : 0<k->IntKind.i64.wrap ((k : Int) - 1)=((k - 1 : Nat) : Int):=λ h=>by rw [w6]; omega
  have h5' : k - 1<g.edges.length:=by omega
  refine zad ?_;refine zab ?_;refine zae ?_;refine zaa ⟨58,[(1,.pv (gC g)),(3,.I k),(4,.pv (eC g.edges[k])),(25,eEs g.edges),(26,.I g.edges.length),(27,.I k)],[],16⟩ rfl ?_ ?_
  .simp [h5]
   exact Le.snap [48] rfl rfl (by simp)
  refine zaE ⟨58,[(1,.pv (gC g)),(25,eEs g.edges),(26,.I g.edges.length),(27,.I k),(56,.B (decide (¬ EdAt g k)))],[],16⟩ rfl ?_ ?_
  .simp
   repeat' first
    | (refine zgh zf6 rfl ?_; refine zaq (zoE g _ hs hs2 hl2) rfl ?_; simp)
    | (refine zgh zaF rfl ?_; refine zaq (zcp ..) rfl ?_; simp)
    | (refine zgh zdG rfl ?_; refine zaq (zlR ..) rfl ?_; simp)
    | (refine zen (λ hb=>?_) (λ hb=>?_) <;> (try rw [hb]) <;> (try simp at hb) <;> simp [hb,h5,h5',hwp])
   all_goals exact ⟨rfl,Le.snap [] rfl rfl (by simp; exact wkB (by (try simp at *); grind [EdAt]))⟩
  refine zac _ rfl (λ h6=>?_) λ h6=>?_
  .refine zab ?_
   refine zan ?_;refine zah ?_;have hn : ¬ GrOk g:=λ h=>by simp at h6; exact h6 (h.2 k)
   exact ⟨.inr rfl,zao.one (by simp [hn])⟩
  simp at h6;refine zad ?_;refine zan ?_;refine ⟨k+1,⟨h5,λ i hi=>?_⟩,?_,Le.snap [] rfl rfl (by simp [hw2])⟩
  .rcases Nat.lt_succ_iff_lt_or_eq.1 hi with h | rfl
   .exact hp i h
   .exact h6
  .omega
 simp at h5;have hy : GrOk g:=⟨h1,λ i hi=>hp i (by omega) hi⟩
 refine zar ?_;refine hit ?_;refine zab ?_;refine zan ?_;refine zah ?_;exact ⟨.inr rfl,zao.one (by simp [hy])⟩
def Bef (a b : Ed) : Prop:=a.f<b.f∨a.f=b.f/\a.t<b.t
instance (a b : Ed) : Decidable (Bef a b):=by unfold Bef; infer_instance
theorem zk1 {a b : Ed} : cmpE a b<0↔Bef a b:=by
 simp only [cmpE,cmpI,Bef]
 grind
theorem zik (a b : Ed) : zaj Tryz.prog zdv [eE a,eE b] [] (.B (decide (Bef a b))) []:=by
 refine zpD.ac ?_;show awp _ 0 _ _ ⟨24,[(0,eE a),(1,eE b)],[],16⟩;refine zaa ⟨24,[(2,.pv (eC a)),(3,.pv (eC b))],[],16⟩ rfl ?_ ?_
 .simp
  exact Le.snap [16,24] rfl rfl (by simp)
 refine zaa ⟨24,[(4,.B (decide (Bef a b)))],[],16⟩ rfl ?_ ?_
 .simp
  repeat' first
   | (refine zen (λ hb=>?_) (λ hb=>?_) <;> (try rw [hb]) <;> (try simp at hb) <;> simp [hb])
  all_goals exact Le.snap [] rfl rfl (by simp; exact wkB (by (try simp at *); grind [Bef]))
 refine zah ?_;exact ⟨.inr rfl,zao.one (by simp)⟩
open Classical in
theorem zid (l : List Int) (n : Int) (hl : l.length<=140737488355328) : zaj Tryz.prog zeO [ints l,.I n] [] (.B (decide (Rise l 0 (n - 1)))) []:=by
 refine zud.ac ?_;show awp _ 0 _ _ ⟨41,[(0,ints l),(1,.I n)],[],16⟩;refine zab ?_;refine zan ?_;refine zab ?_;refine zab ?_;refine zan ?_;refine zae ?_;refine zat (ι:=Nat) (λ k=>⟨41,[(0,ints l),(1,.I n),(5,.I k)],[],16⟩) (λ k=>k<=l.length /\ ∀ i,i<k->znS l 0 (n - 1) i) (λ k=>l.length - k) (0) ?_ (Le.snap [] rfl rfl (by simp)) ?_
 .simp
 rintro k ⟨hk,hp⟩
 refine zab ?_;refine zab ?_;refine zan ?_;refine zac _ rfl (λ h4=>?_) λ h4=>?_
 .try simp at h4
  have hw2 : IntKind.i64.wrap ((k : Int)+1)=(k : Int)+1:=w6;have hwp : 0<k->IntKind.i64.wrap ((k : Int) - 1)=((k - 1 : Nat) : Int):=λ h=>by rw [w6]; omega
  have hkp : k - 1<l.length:=by omega
  refine zad ?_;refine zab ?_;refine zae ?_;refine zaE ⟨41,[(0,ints l),(1,.I n),(5,.I k),(40,.B (decide (¬ znS l 0 (n - 1) k)))],[],16⟩ rfl ?_ ?_
  .simp [h4,hw2,hwp,hkp]
   repeat' first
    | (refine zen (λ hb=>?_) (λ hb=>?_) <;> (try rw [hb]) <;> (try simp at hb) <;> simp [hb,h4,hw2,hwp,hkp])
   all_goals exact ⟨rfl,Le.snap [] rfl rfl (by simp; exact wkB (by (try simp at *); grind [znS]))⟩
  refine zac _ rfl (λ h5=>?_) λ h5=>?_
  .try simp at h5
   refine zab ?_;refine zap (s:=?s6) rfl ?o6 ?q6
   case o6=>simp [h4,hw2,hwp,hkp]; rfl
   refine zah ?_;have hn : ¬ Rise l 0 (n - 1):=λ h=>h5 (h k);exact ⟨.inr rfl,zao.one (by simp [hn])⟩
  try simp at h5
  refine zad ?_;refine zap (s:=?s7) rfl ?o7 ?q7
  case o7=>simp [h4,hw2,hwp,hkp]; rfl
  refine ⟨k+1,⟨h4,λ i hi=>?_⟩,by omega,Le.snap [] rfl rfl (by simp [h4,hw2,hwp,hkp])⟩
  rcases Nat.lt_succ_iff_lt_or_eq.1 hi with h | rfl
  .exact hp i h
  .exact h5
 try simp at h4
 have hall : ∀ i,i<l.length->znS l 0 (n - 1) i:=λ i hi=>hp i (by omega)
 refine zar ?_;refine hit ?_;refine zab ?_;refine zan ?_;refine zah ?_;have hy : Rise l 0 (n - 1):=λ i hi=>hall i hi hi;exact ⟨.inr rfl,zao.one (by simp [hy])⟩
def EdA (g : Gr) (e : Ed) : Prop:=0<=e.f/\e.f<g.size/\0<=e.t/\e.t<g.size/\e.f≠e.t/\1<=e.v/\e.v<=3
instance (g : Gr) (e : Ed) : Decidable (EdA g e):=by unfold EdA; infer_instance
def EdB (g : Gr) (k : Nat) : Prop:=∀ h : k<g.edges.length,(0<k->Bef g.edges[k - 1] g.edges[k])/\g.edges[k].f∉g.gone/\g.edges[k].t∉g.gone
theorem zpl (g : Gr) (k : Nat) (h : k<g.edges.length) : EdAt g k↔EdA g g.edges[k]/\EdB g k:=by
 simp only [EdAt,EdA,EdB,Fits,zk1]
 grind
open Classical in
theorem zi8 (g : Gr) (hl : g.edges.length<=140737488355328) (hl2 : g.gone.length<=140737488355328) : zaj Tryz.prog zgs [eG g] [] (.I (if GrOk g then 0 else 14)) []:=by
 refine zrm.ac ?_;show awp _ 0 _ _ ⟨105,[(0,eG g)],[],16⟩;refine zaa ⟨105,[(1,.pv (gC g))],[],16⟩ rfl ?_ ?_
 .simp
  exact Le.snap [16] rfl rfl (by simp)
 refine zab ?_;refine zaa ⟨105,[(1,.pv (gC g)),(26,.B (decide (¬ zsh g)))],[],16⟩ rfl ?_ ?_
 .simp
  repeat' first
   | (refine zgh zeO rfl ?_; refine zaq (zid _ _ hl2) rfl ?_; simp)
   | (refine zen (λ hb=>?_) (λ hb=>?_) <;> (try rw [hb]) <;> (try simp at hb) <;> simp [hb])
  all_goals exact Le.snap [] rfl rfl (by simp; exact wkB (by (try simp at *); grind [zsh,EdA,EdB]))
 refine zac _ rfl (λ h1=>?_) λ h1=>?_
 .try simp at h1
  refine zab ?_;refine zan ?_;refine zah ?_;exact ⟨.inr rfl,zao.one (by simp [GrOk,h1])⟩
 try simp at h1
 refine zad ?_;refine zab ?_;refine zab ?_;refine zan ?_;refine zae ?_;refine zat (ι:=Nat) (λ k=>⟨105,[(1,.pv (gC g)),(3,.I k)],[],16⟩) (λ k=>k<=g.edges.length /\ ∀ i,i<k->EdAt g i) (λ k=>g.edges.length - k) (0) ?_ (Le.snap [] rfl rfl (by simp)) ?_
 .simp
 rintro k ⟨hk,hp⟩
 refine zab ?_;refine zab ?_;refine zan ?_;refine zac _ rfl (λ h5=>?_) λ h5=>?_
 .try simp at h5
  have hw2 : IntKind.i64.wrap ((k : Int)+1)=(k : Int)+1:=w6;have hwp : 0<k->IntKind.i64.wrap ((k : Int) - 1)=((k - 1 : Nat) : Int):=λ h=>by rw [w6]; omega
  have hkp : k - 1<g.edges.length:=by omega
  refine zad ?_;refine zab ?_;refine zae ?_;refine zaa ⟨105,[(1,.pv (gC g)),(3,.I k),(4,.pv (eC g.edges[k]))],[],16⟩ rfl ?_ ?_
  .simp [h5,hw2,hwp,hkp]
   exact Le.snap [96] rfl rfl (by simp [h5,hw2,hwp,hkp])
  refine zab ?_;refine zaa ⟨105,[(1,.pv (gC g)),(3,.I k),(4,.pv (eC g.edges[k])),(77,.B (decide (¬ EdA g g.edges[k])))],[],16⟩ rfl ?_ ?_
  .simp [h5,hw2,hwp,hkp]
   repeat' first
    | (refine zen (λ hb=>?_) (λ hb=>?_) <;> (try rw [hb]) <;> (try simp at hb) <;> simp [hb,h5,hw2,hwp,hkp])
   all_goals exact Le.snap [] rfl rfl (by simp; exact wkB (by (try simp at *); grind [zsh,EdA,EdB]))
  refine zac _ rfl (λ h6=>?_) λ h6=>?_
  .try simp at h6
   refine zab ?_;refine zap (s:=?s7) rfl ?o7 ?q7
   case o7=>simp [h5,hw2,hwp,hkp]; rfl
   refine zah ?_;have hn : ¬ GrOk g:=λ h=>by have h2:=(zpl g k h5).1 (h.2 k); simp_all
   exact ⟨.inr rfl,zao.one (by simp [hn])⟩
  try simp at h6
  refine zad ?_;refine zaE ⟨105,[(1,.pv (gC g)),(3,.I k),(104,.B (decide (¬ EdB g k)))],[],16⟩ rfl ?_ ?_
  .simp [h5,hw2,hwp,hkp]
   repeat' first
    | (refine zgh zdv rfl ?_; refine zaq (zik ..) rfl ?_; simp [h5,hw2,hwp,hkp])
    | (refine zgh zcg rfl ?_; refine zaq (zp7 _ _ hl2) rfl ?_; simp [h5,hw2,hwp,hkp])
    | (refine zen (λ hb=>?_) (λ hb=>?_) <;> (try rw [hb]) <;> (try simp at hb) <;> simp [hb,h5,hw2,hwp,hkp])
   all_goals exact ⟨rfl,Le.snap [] rfl rfl (by simp; exact wkB (by (try simp at *); grind [zsh,EdA,EdB]))⟩
  refine zac _ rfl (λ h8=>?_) λ h8=>?_
  .try simp at h8
   refine zab ?_;refine zap (s:=?s9) rfl ?o9 ?q9
   case o9=>simp [h5,hw2,hwp,hkp]; rfl
   refine zah ?_;have hn : ¬ GrOk g:=λ h=>by have h2:=(zpl g k h5).1 (h.2 k); simp_all
   exact ⟨.inr rfl,zao.one (by simp [hn])⟩
  try simp at h8
  refine zad ?_;refine zap (s:=?s10) rfl ?o10 ?q10
  case o10=>simp [h5,hw2,hwp,hkp]; rfl
  refine ⟨k+1,⟨h5,λ i hi=>?_⟩,by omega,Le.snap [] rfl rfl (by simp [h5,hw2,hwp,hkp])⟩
  rcases Nat.lt_succ_iff_lt_or_eq.1 hi with h | rfl
  .exact hp i h
  .exact (zpl g i h5).2 ⟨h6,h8⟩
 try simp at h5
 have hall : ∀ i,i<g.edges.length->EdAt g i:=λ i hi=>hp i (by omega)
 refine zar ?_;refine hit ?_;refine zab ?_;refine zan ?_;refine zah ?_;have hy : GrOk g:=⟨h1,λ i hi=>hall i hi hi⟩;exact ⟨.inr rfl,zao.one (by simp [hy])⟩
theorem zqx (l : List Int) (hl : l.length*8<=140737488355328) : zaj Tryz.prog za0 [ints l] [] (.rs 0 0 l.length) [some ⟨1,l.map λ n=>[AV.I n],0⟩]:=by
 cases l with
 | nil =>
   refine zqj λ ad c=>?_;refine zbG.ac ?_;show awp _ 0 _ _ ⟨8,[(0,.sc (.slice ad 0 c))],[],16⟩;refine zab ?_;refine zan ?_;refine zaT (ι:=Unit) (λ _=>⟨8,[(0,.vs 1 false [])],[],40⟩) (λ _=>True) ?_ λ _ _=>?_
   .refine zab ?_
    refine zan ?_;refine zac _ rfl (λ h3=>?_) λ h3=>?_
    .refine zaa ⟨8,[(2,.rs 40 0 0)],[(40,some ⟨1,[],0⟩)],48⟩ rfl ?_ ?_
     .simp
      exact Le.lst [] [] [(40,1)] rfl (by simp) (by simp) (by simp) (by simp) (by simp) (by simp) (by simp) (by simp [Up]) (by simp)
     refine zah ?_;exact ⟨.inr rfl,zao.out [40] [] rfl (by simp) (by simp) (by simp) (by simp)⟩
    refine zad ?_;exact ⟨(),trivial,Le.slots rfl rfl (by simp; exact .mt _ _ _)⟩
   refine zab ?_;refine zap (s:=?s5) rfl ?o5 ?q5
   case o5=>simp [List.replicate]; rfl
   refine zah ?_;exact ⟨.inr rfl,zao.out [56] [] rfl (by simp) (by simp) (by simp) (by simp)⟩
 | cons x l =>
   refine zbG.ac ?_;show awp _ 0 _ _ ⟨8,[(0,ints (x::l))],[],16⟩;refine zab ?_;refine zan ?_;refine zab ?_;refine zab ?_;refine zan ?_;refine zac _ rfl (λ h3=>by cases h3) λ h3=>?_
   refine zad ?_;refine zab ?_;refine zap (s:=?t4) rfl ?p4 ?r4
   case p4=>simp [List.replicate]; refine ⟨by simpa using hl,by simp at hl; omega,?_⟩; rfl
   refine zah ?_;exact ⟨.inr rfl,zao.out [56] [] rfl (by simp) (by simp) (by simp) (by simp [fcd])⟩
theorem zuX (l : List Ed) (hl : l.length*24<=140737488355328) : zaj Tryz.prog zaM [eEs l] [] (.rs 0 0 l.length) [some ⟨3,l.map λ e=>[AV.I e.f,AV.I e.t,AV.I e.v],0⟩]:=by
 cases l with
 | nil =>
   refine zqj λ ad c=>?_;refine zba.ac ?_;show awp _ 0 _ _ ⟨8,[(0,.sc (.slice ad 0 c))],[],16⟩;refine zab ?_;refine zan ?_;refine zaT (ι:=Unit) (λ _=>⟨8,[(0,.vs 3 false [])],[],40⟩) (λ _=>True) ?_ λ _ _=>?_
   .refine zab ?_
    refine zan ?_;refine zac _ rfl (λ h3=>?_) λ h3=>?_
    .refine zaa ⟨8,[(2,.rs 40 0 0)],[(40,some ⟨3,[],0⟩)],48⟩ rfl ?_ ?_
     .simp
      exact Le.lst [] [] [(40,3)] rfl (by simp) (by simp) (by simp) (by simp) (by simp) (by simp) (by simp) (by simp [Up]) (by simp)
     refine zah ?_;exact ⟨.inr rfl,zao.out [40] [] rfl (by simp) (by simp) (by simp) (by simp)⟩
    refine zad ?_;exact ⟨(),trivial,Le.slots rfl rfl (by simp; exact .mt _ _ _)⟩
   refine zab ?_;refine zap (s:=?s5) rfl ?o5 ?q5
   case o5=>simp [List.replicate]; rfl
   refine zah ?_;exact ⟨.inr rfl,zao.out [56] [] rfl (by simp) (by simp) (by simp) (by simp)⟩
 | cons x l =>
   refine zba.ac ?_;show awp _ 0 _ _ ⟨8,[(0,eEs (x::l))],[],16⟩;refine zab ?_;refine zan ?_;refine zab ?_;refine zab ?_;refine zan ?_;refine zac _ rfl (λ h3=>by cases h3) λ h3=>?_
   refine zad ?_;refine zab ?_;refine zap (s:=?t4) rfl ?p4 ?r4
   case p4=>simp [List.replicate]; refine ⟨by simpa using hl,by simp at hl; omega,?_⟩; rfl
   refine zah ?_;exact ⟨.inr rfl,zao.out [56] [] rfl (by simp) (by simp) (by simp) (by simp [fcd])⟩
def idxE (l : List Ed) (e : Ed) : Nat:=l.findIdx λ x=>!decide (Bef x e)
def AtE (l : List Ed) (k : Nat) (f t : Int) : Prop:=∃ h : k<l.length,l[k].f=f/\l[k].t=t
instance (l : List Ed) (k : Nat) (f t : Int) : Decidable (AtE l k f t):=by unfold AtE; infer_instance
def zAJ (l : List Ed) (e : Ed) (k : Nat) : Prop:=∀ h : k<l.length,Bef l[k] e
theorem zuI (l : List Ed) (e : Ed) : idxE l e<=l.length:=List.findIdx_le_length
theorem zys {l : List Ed} {e : Ed} {k : Nat} (hk : k<=l.length) (h1 : ∀ i,i<k->zAJ l e i) (h2 : ∀ h : k<l.length,¬ Bef l[k] e) : idxE l e=k:=by
 unfold idxE;rcases Nat.lt_or_ge k l.length with h | h
 .rw [List.findIdx_eq h]
  refine ⟨by simpa using h2 h,λ j hj=>?_⟩
  simpa using h1 j hj (by omega)
 .obtain rfl : k=l.length:=by omega
  rw [List.findIdx_eq_length];intro x hx;obtain ⟨i,hi,rfl⟩:=List.mem_iff_getElem.1 hx
  simpa using h1 i hi hi
theorem znv (g : Gr) (f t : Int) (hl : g.edges.length<=140737488355328) : zaj Tryz.prog zih [eG g,.I f,.I t] [] (.tup [.I (idxE g.edges ⟨f,t,0⟩),.B (decide (AtE g.edges (idxE g.edges ⟨f,t,0⟩) f t))]) []:=by
 refine zqn.ac ?_;show awp _ 0 _ _ ⟨53,[(0,eG g),(1,.I f),(2,.I t)],[],16⟩;refine zaa ⟨53,[(1,.I f),(2,.I t),(3,.pv (gC g))],[],16⟩ rfl ?_ ?_
 .simp
  exact Le.snap [16] rfl rfl (by simp)
 refine zab ?_;refine zan ?_;refine zab ?_;refine zae ?_;refine zat (ι:=Nat) (λ k=>⟨53,[(1,.I f),(2,.I t),(3,.pv (gC g)),(8,.I k)],[],16⟩) (λ k=>k<=g.edges.length /\ ∀ i,i<k->zAJ g.edges ⟨f,t,0⟩ i) (λ k=>g.edges.length - k) (0) ?_ (Le.snap [] rfl rfl (by simp)) ?_
 .simp
 rintro k ⟨hk,hp⟩
 refine zab ?_;refine zaa ⟨53,[(1,.I f),(2,.I t),(3,.pv (gC g)),(8,.I k),(24,.B (decide (∃ h : k<g.edges.length,Bef g.edges[k] ⟨f,t,0⟩)))],[],16⟩ rfl ?_ ?_
 .simp
  repeat' first
   | (refine zgh zdv rfl ?_; refine zaq (zik _ ⟨f,t,0⟩) rfl ?_; simp)
   | (refine zen (λ hb=>?_) (λ hb=>?_) <;> (try rw [hb]) <;> (try simp at hb) <;> simp [*])
  all_goals exact Le.snap [] rfl rfl (by simp <;> exact wkB (by (try simp at *); grind))
 refine zac _ rfl (λ h2=>?_) λ h2=>?_
 .try simp at h2
  obtain ⟨h2,h2b⟩:=h2;have hw2 : IntKind.i64.wrap ((k : Int)+1)=(k : Int)+1:=w6;have hwp : 0<k->IntKind.i64.wrap ((k : Int) - 1)=((k - 1 : Nat) : Int):=λ h=>by rw [w6]; omega
  have hkp : k - 1<g.edges.length:=by omega
  refine zad ?_;refine zae ?_;refine zap (s:=?s3) rfl ?o3 ?q3
  case o3=>simp [h2,hw2,hwp,hkp]; rfl
  refine ⟨k+1,⟨h2,λ i hi=>?_⟩,by omega,Le.snap [] rfl rfl (by simp [h2,hw2,hwp,hkp])⟩
  rcases Nat.lt_succ_iff_lt_or_eq.1 hi with h | rfl
  .exact hp i h
  .exact λ _=>h2b
 try simp at h2
 rw [zys hk hp h2];refine zar ?_;refine hit ?_;refine zaE ⟨53,[(6,.I k),(7,.B (decide (AtE g.edges k f t)))],[],16⟩ rfl ?_ ?_
 .simp
  repeat' first
   | (refine zen (λ hb=>?_) (λ hb=>?_) <;> (try rw [hb]) <;> (try simp at hb) <;> simp [*])
  all_goals exact ⟨rfl,Le.snap [] rfl rfl (by simp <;> exact wkB (by (try simp at *); grind [AtE]))⟩
 refine zah ?_;exact ⟨.inr rfl,zao.out [] [] rfl (by simp) (by simp) (by simp) (by simp)⟩
theorem zj3 (g : Gr) (hl : g.edges.length*24<=140737488355328) (hl2 : g.gone.length*8<=140737488355328) : zaj Tryz.prog zhk [eG g] [] (.agg [.I g.size,.rs 0 0 g.edges.length,.rs 1 0 g.gone.length]) [some ⟨3,g.edges.map λ e=>[AV.I e.f,AV.I e.t,AV.I e.v],0⟩,some ⟨1,g.gone.map λ n=>[AV.I n],0⟩]:=by
 refine zsm.ac ?_;show awp _ 0 _ _ ⟨12,[(0,eG g)],[],16⟩;have hl3 : g.edges.length<=140737488355328:=by omega
 have hl4 : g.gone.length<=140737488355328:=by omega
 refine zab ?_;refine zan ?_;refine zab ?_;refine zhs (s:=?s1) (tr:=?t1) rfl ?o1 ?r1 ?q1
 case o1=>simp [hl,hl2,hl3,hl4]; constructor <;> rfl
 case r1=>rfl
 refine zah ?_;refine ⟨.inr rfl,?_⟩;show zao [(2,some (true,3))] 0 _ _ _;exact zao.out (vs:=[.agg [.I g.size,.rs 64 0 g.edges.length,.rs 88 0 g.gone.length]]) [64,88] [] (by simp) (by simp) (by simp) (by simp) (by simp [fcd])
theorem zh9 (g : Gr) (hl : g.edges.length*24<=140737488355328) (hl2 : g.gone.length*8<=140737488355328) : zaj Tryz.prog zet [eG g] [] (.agg [.I g.size,.rs 0 0 g.edges.length,.rs 1 0 g.gone.length]) [some ⟨3,g.edges.map λ e=>[AV.I e.f,AV.I e.t,AV.I e.v],0⟩,some ⟨1,g.gone.map λ n=>[AV.I n],0⟩]:=by
 refine zhJ.ac ?_;show awp _ 0 _ _ ⟨12,[(0,eG g)],[],16⟩;have hl3 : g.edges.length<=140737488355328:=by omega
 have hl4 : g.gone.length<=140737488355328:=by omega
 refine zab ?_;refine zan ?_;refine zab ?_;refine zhs (s:=?s1) (tr:=?t1) rfl ?o1 ?r1 ?q1
 case o1=>simp; refine zbx (zuX _ hl) rfl ?_; simp; refine zbx (zqx _ hl2) rfl ?_; simp [fcd]; constructor <;> rfl
 case r1=>rfl
 refine zah ?_;refine ⟨.inr rfl,?_⟩;show zao [(2,some (true,3))] 0 _ _ _;exact zao.out (vs:=[.agg [.I g.size,.rs 64 0 g.edges.length,.rs 88 0 g.gone.length]]) [64,88] [] (by simp) (by simp) (by simp) (by simp) (by simp [fcd])
def EqG (a b : Gr) : Prop:=a.size=b.size/\a.edges=b.edges/\a.gone=b.gone
instance (a b : Gr) : Decidable (EqG a b):=by unfold EqG; infer_instance
theorem zvY {P : Program} {f : FuncId} {xs ys : List AV} {hs : List Ent} {res : AV} {hs' : List (Option Ent)} (hl : xs.length=ys.length) (hw : ∀ i,i<ys.length->Wk (xs.getD i .dead) (ys.getD i .dead)) (h : zaj P f ys hs res hs') : zaj P f xs hs res hs' :=
 ⟨h.1,h.2.1,λ T M w vs h1 h2 h3 hr=>h.2.2 T M w vs h1 h2 h3 ⟨hr.1.trans hl,λ i hi=>(hw i hi).rep (hr.2 i (hl ▸ hi))⟩⟩
section
variable {H : Type}
def Fit (x : Int) : Prop:=-9223372036854775808<=x/\x<=9223372036854775807
variable {P : Program} {tI tE tEs tIs tG : TypeId}
theorem zAE {n : Nat} (hI : P.underlying tI=some (.int .i64)) {d : DataW H} {cs : List AV} (h : avs P (n+1) tI d=some cs) : ∃ x,cs=[.I x]/\Fit x:=by
 cases d <;> simp [avs,hI] at h
 rename_i l
 cases l <;> simp at h
 obtain ⟨⟨rfl,hw⟩,rfl⟩:=h;refine ⟨_,rfl,?_⟩;unfold Fit
 simpa [Lit.wf,IntKind.min,IntKind.max,IntKind.signed,IntKind.bits] using hw
theorem zuC {α : Type} {f : DataW H->Option (List AV)} (Q : α->List AV) : ∀ {ds : List (DataW H)} {rows : List (List AV)},(∀ d row,f d=some row -> ∃ a,row=Q a)->ds.mapM f=some rows -> ∃ l : List α,rows=l.map Q
 | [],rows,_,h=>by simp at h; subst h; exact ⟨[],rfl⟩
 | d::ds,rows,hf,h=>by
   simp only [List.mapM_cons] at h
   cases h1 : f d with
   | none=>simp [h1] at h
   | some row =>
     cases h2 : ds.mapM f with
     | none=>simp [h1,h2] at h
     | some rows' =>
       simp [h1,h2] at h;subst h;obtain ⟨a,rfl⟩:=hf d row h1;obtain ⟨l,rfl⟩:=zuC Q hf h2;exact ⟨a::l,rfl⟩
theorem zwC {α : Type} {n : Nat} {t e : TypeId} (ht : P.underlying t=some (.slice e)) (Q : α->List AV) (hf : ∀ (d : DataW H) row,avs P n e d=some row -> ∃ a,row=Q a) {d : DataW H} {cs : List AV} (h : avs P (n+1) t d=some cs) :
  ∃ (l : List α) (x : AV),cs=[x]/\Wk x (.vs (P.cellsOf e) false (l.map Q)):=by
 cases d <;> simp [avs,ht] at h
 .subst h; exact ⟨[],_,rfl,.nil _ _⟩
 .obtain ⟨_,rows,h,rfl⟩:=h
  obtain ⟨l,rfl⟩:=zuC Q hf h;exact ⟨l,_,rfl,.refl _⟩
end
theorem ownK : ownKnob Tryz.prog.godebug=none:=by kernel_rfl
theorem zBv : laidOutB Tryz.prog=true:=by kernel_rfl
section
variable {H : Type} {P : Program} {tI tIs : TypeId}
theorem zup {n : Nat} (hI : P.underlying tI=some (.int .i64)) (hIs : P.underlying tIs=some (.slice tI)) (cI : P.cellsOf tI=1) {d : DataW H} {x : AV} (h : znE P (n+2) tIs d=some x) : ∃ l : List Int,Wk x (ints l):=by
 simp only [znE,hIs,Option.bind_eq_some_iff] at h;obtain ⟨cs,h1,h2⟩:=h;obtain ⟨l,y,rfl,hw⟩:=zwC hIs (λ x : Int=>[AV.I x]) (λ d row h=>by obtain ⟨x,h,_⟩:=zAE hI h; exact ⟨x,h⟩) h1
 rw [cI] at hw;simp at h2;subst h2;exact ⟨l,hw⟩
theorem zBf {n : Nat} {a : TypeId} {ds : List (DataW H)} {xs : List AV} (h : zmA P n [a] ds=some xs) : ∃ (d1 : DataW H) (x1 : AV),ds=[d1]/\xs=[x1]/\znE P n a d1=some x1:=by
 match ds,h with
 | [],h=>cases h
 | _::_::_,h=>simp only [zmA] at h; split at h <;> simp_all
 | [d1],h =>
   simp only [zmA] at h
   cases h1 : znE P n a d1 with
   | none=>simp [h1] at h
   | some x1 =>
     simp [h1] at h;exact ⟨d1,x1,rfl,h.symm,h1⟩
end
end Go.Proofs.YtkngdgplbojdlaaGreat
