/- Texts of this claim,merged. -/
import Derived.Test.YtkngdgplbojdlaaGreatRx5
set_option linter.unusedSimpArgs false
set_option linter.unusedVariables false
set_option linter.unusedSectionVars false
namespace Go.Proofs.YtkngdgplbojdlaaGreat
open Go
set_option maxRecDepth 100000
def zrV : AFun:=⟨6,[(2,none)],
 (sr [oo 2 .mv [.c (.bool false)]]
 (sr [ma 3 0,oo 4 .len [.t 3],oo 5 (.bin .leq) [.t 4,ki 400],ma 2 5]
 .ret))⟩
def zti : AFun:=⟨6,[(2,none)],
 (sr [oo 2 .mv [(.c (.pointer none))]]
 (sr [ma 3 0,oo 4 (.build [vn,v0] [(0,1)]) [.t 3],oo 5 (.box 2) [.t 4],ma 2 5]
 .ret))⟩
def zlC : AFun:=⟨53,[(2,some (true,3))],
 (sr [oo 2 (.alloc [v0,vn,vn]) []]
 (sr [ma 7 0,ca 8 zaz [.t 7,ki 8],oo 9 (.bin .add) [ki 2,.t 8],oo 10 (.build [v0,vn,vn] [(0,1)]) [.t 9],oo 3 (.alloc [v0,vn,vn]) [],ou (.st 3) [.t 3,.t 10]]
 (.seq (.seq
 (rg [ma 11 0,oo 12 .nil [.t 11],fa 13 0 12,la 14 13,oo 15 .len [.t 14],oo 16 (.bin .eql) [.t 15,ki 0]])
 (.cond (.t 16)
 (rg [fa 17 0 3,ou (.st 1) [.t 17,ki 4]])
 .skip))
 (.seq (.seq
 (rg [ma 18 0,ca 19 zdG [.t 18,ki 8]])
 (.cond (.t 19)
 (rg [ma 20 0,fa 21 0 3,la 22 21,ca 23 zaz [.t 20,.t 22],oo 24 (.bsl 1 1 [v0] [0]) [.t 23],fa 25 2 3,ou (.st 1) [.t 25,.t 24]])
 .skip))
 (.seq (.seq
 (rg [ma 26 0,ca 27 zaz [.t 26,ki 23],ma 4 27])
 (.block 0 (.loop
 (.seq (.seq
 (rg [ma 28 4,oo 29 (.bin .gtr) [.t 28,ki 0]])
 (.cond (.t 29)
 .skip
 (.exit 0)))
 (.seq (.block 1 (.seq (.reg true [oo 33 (.ld true 3) [.t 3],ma 34 0,fa 35 0 3,la 36 35,ca 37 zaz [.t 34,.t 36],ma 38 0,fa 39 0 3,la 40 39,ca 41 zaz [.t 38,.t 40],ma 42 0,ca 43 zaz [.t 42,ki 3],oo 44 (.bin .add) [ki 1,.t 43],oo 45 (.build [v0,v0,v0] [(0,1),(1,1),(2,1)]) [.t 37,.t 41,.t 44],ca 46 zhA [.t 33,.t 45],ma 32 46,oo 47 (.ext 0) [.t 32],oo 48 (.ext 1) [.t 32],oo 5 (.alloc [v0,vn,vn]) [],ou (.st 3) [.t 5,.t 47],ma 6 48] [[],[],[],[2],[1,3],[],[],[6],[5,7,4],[],[9,8],[10],[4,8,11],[0,12,10],[13],[14],[14],[],[17,15,13,0,1,2,3,4,5,6,7,8,9,10,11,12,13,14,15,17],[16,18,0,1,2,3,4,5,6,7,8,9,10,11,12,13,14,15,16,17,18]])
 (sr [ma 49 6,oo 50 (.bin .eql) [.t 49,ki 0]]
 (.cond (.t 50)
 (rg [oo 51 (.ld true 3) [.t 5],ou (.st 3) [.t 3,.t 51]])
 .skip))))
 (rg [ma 30 4,oo 31 (.bin .sub) [.t 30,ki 1],ma 4 31]))))))
 (sr [oo 52 (.ld true 3) [.t 3],ou (.st 3) [.t 2,.t 52]]
 .ret))))))⟩
def zmZ : AFun:=⟨35,[(4,none)],
 (sr [oo 4 .mv [ki 0]]
 (.seq (.seq
 (.reg true [ma 5 0,oo 6 .nil [.t 5],fa 7 1 6,la 8 7,ma 9 0,oo 10 .nil [.t 9],fa 11 0 10,la 12 11,oo 13 .len [.t 12],oo 14 (.bin .geq) [.t 8,.t 13]] [[],[0],[1],[2],[],[4],[5],[6],[7],[3,8]])
 (.cond (.t 14)
 (sr [oo 4 .mv [ki 0]]
 .ret)
 .skip))
 (sr [ma 15 0,oo 16 .nil [.t 15],fa 17 1 16,la 18 17,oo 19 (.bin .add) [.t 18,ki 1],oo 20 .nil [.t 15],fa 21 1 20,ou (.st 1) [.t 21,.t 19]]
 (.seq (.reg true [ma 22 0,oo 23 .nil [.t 22],fa 24 0 23,la 25 24,ma 26 0,oo 27 .nil [.t 26],fa 28 1 27,la 29 28,oo 30 (.bin .sub) [.t 29,ki 1],oo 31 (.iad 1) [.t 25,.t 30],la 32 31,ma 33 1,ca 34 zio [.t 32,.t 33],ma 4 34] [[],[0],[1],[2],[],[4],[5],[6],[7],[3,8],[9],[],[10,11],[12,12,0,1,2,3,4,5,6,7,8,9,10,11,12]])
 .ret))))⟩
def zpK : AFun:=⟨12,[(4,none)],
 (sr [oo 4 .mv [ki 0]]
 (sr [ma 5 1,ma 6 0,ma 7 1,oo 8 .len [.t 7],ca 9 zaz [.t 6,.t 8],oo 10 (.iad 1) [.t 5,.t 9],la 11 10,ma 4 11]
 .ret))⟩
def zu9 : AFun:=⟨16,[(4,none)],
 (sr [oo 4 .mv [ki 0]]
 (.seq (.seq
 (rg [ma 5 1,oo 6 (.bin .lss) [.t 5,ki 1]])
 (.cond (.t 6)
 (sr [oo 4 .mv [ki 0]]
 .ret)
 .skip))
 (sr [ma 7 0,ma 8 1,oo 9 (.bin .rem) [.t 7,.t 8],ma 0 9]
 (.seq (.seq
 (rg [ma 10 0,oo 11 (.bin .lss) [.t 10,ki 0]])
 (.cond (.t 11)
 (rg [ma 12 0,ma 13 1,oo 14 (.bin .add) [.t 12,.t 13],ma 0 14])
 .skip))
 (sr [ma 15 0,ma 4 15]
 .ret)))))⟩
def zrH : AFun:=⟨46,[(4,none)],
 (sr [oo 2 (.box 3) [.t 0],oo 3 (.box 3) [.t 1],oo 4 .mv [.c (.bool false)]]
 (.seq (.seq
 (rg [fa 6 0 2,la 7 6,fa 8 0 3,la 9 8,oo 10 (.bin .neq) [.t 7,.t 9],ma 11 10,fh 12 1 2 11,lh 13 12 11,oh 14 .len [.t 13] 11,fh 15 1 3 11,lh 16 15 11,oh 17 .len [.t 16] 11,oh 18 (.bin .neq) [.t 14,.t 17] 11,oo 19 .pick [.t 11,.c (.bool true),.t 18],ma 20 19,fh 21 2 2 20,lh 22 21 20,fh 23 2 3 20,lh 24 23 20,oh 25 .call [.f zdl,.t 22,.t 24] 20,oh 26 (.un .not) [.t 25] 20,oo 27 .pick [.t 20,.c (.bool true),.t 26]])
 (.cond (.t 27)
 (sr [oo 4 .mv [.c (.bool false)]]
 .ret)
 .skip))
 (.seq (.seq
 (rg [oo 5 .mv [ki 0]])
 (.block 0 (.loop
 (.seq (.seq
 (rg [ma 28 5,fa 29 1 2,la 30 29,oo 31 .len [.t 30],oo 32 (.bin .lss) [.t 28,.t 31]])
 (.cond (.t 32)
 .skip
 (.exit 0)))
 (.seq (.block 1 (.seq (.reg true [fa 35 1 2,la 36 35,ma 37 5,oo 38 (.iad 3) [.t 36,.t 37],oo 39 (.ld true 3) [.t 38],fa 40 1 3,la 41 40,ma 42 5,oo 43 (.iad 3) [.t 41,.t 42],oo 44 (.ld true 3) [.t 43],oo 45 (.aeq true [0,0,0]) [.t 39,.t 44]] [[],[0],[],[1,2],[3],[],[5],[],[6,7],[8],[4,9]])
 (.cond (.t 45)
 (sr [oo 4 .mv [.c (.bool false)]]
 .ret)
 .skip)))
 (rg [ma 33 5,oo 34 (.bin .add) [.t 33,ki 1],ma 5 34]))))))
 (sr [oo 4 .mv [.c (.bool true)]]
 .ret))))⟩
def zmF : AFun:=⟨26,[(4,none)],
 (sr [oo 4 .mv [.c (.bool false)]]
 (.seq (.seq
 (rg [ma 6 0,oo 7 .len [.t 6],ma 8 1,oo 9 .len [.t 8],oo 10 (.bin .neq) [.t 7,.t 9]])
 (.cond (.t 10)
 (sr [oo 4 .mv [.c (.bool false)]]
 .ret)
 .skip))
 (.seq (.seq
 (rg [oo 5 .mv [ki 0]])
 (.block 0 (.loop
 (.seq (.seq
 (rg [ma 11 5,ma 12 0,oo 13 .len [.t 12],oo 14 (.bin .lss) [.t 11,.t 13]])
 (.cond (.t 14)
 .skip
 (.exit 0)))
 (.seq (.block 1 (.seq (.reg true [ma 17 0,ma 18 5,oo 19 (.iad 1) [.t 17,.t 18],la 20 19,ma 21 1,ma 22 5,oo 23 (.iad 1) [.t 21,.t 22],la 24 23,oo 25 (.bin .neq) [.t 20,.t 24]] [[],[],[0,1],[2],[],[],[4,5],[6],[3,7]])
 (.cond (.t 25)
 (sr [oo 4 .mv [.c (.bool false)]]
 .ret)
 .skip)))
 (rg [ma 15 5,oo 16 (.bin .add) [.t 15,ki 1],ma 5 16]))))))
 (sr [oo 4 .mv [.c (.bool true)]]
 .ret))))⟩
def znR : AFun:=⟨18,[(4,none)],
 (sr [oo 4 .mv [.c (.bool false)]]
 (.seq (.seq
 (rg [oo 5 .mv [ki 0]])
 (.block 0 (.loop
 (.seq (.seq
 (rg [ma 6 5,ma 7 0,oo 8 .len [.t 7],oo 9 (.bin .lss) [.t 6,.t 8]])
 (.cond (.t 9)
 .skip
 (.exit 0)))
 (.seq (.block 1 (sr [ma 12 0,ma 13 5,oo 14 (.iad 1) [.t 12,.t 13],la 15 14,ma 16 1,oo 17 (.bin .eql) [.t 15,.t 16]]
 (.cond (.t 17)
 (sr [oo 4 .mv [.c (.bool true)]]
 .ret)
 .skip)))
 (rg [ma 10 5,oo 11 (.bin .add) [.t 10,ki 1],ma 5 11]))))))
 (sr [oo 4 .mv [.c (.bool false)]]
 .ret)))⟩
def zq1 : AFun:=⟨36,[(4,some (true,3))],
 (sr [oo 2 (.box 3) [.t 0],oo 4 (.alloc [v0,vn,vn]) []]
 (sr [oo 7 (.ld true 3) [.t 2],ca 8 zfT [.t 7],oo 5 (.alloc [v0,vn,vn]) [],ou (.st 3) [.t 5,.t 8]]
 (sr [fa 9 1 5,ou (.st 1) [.t 9,kn]]
 (.seq (.seq
 (rg [oo 6 .mv [ki 0]])
 (.block 0 (.loop
 (.seq (.seq
 (rg [ma 10 6,fa 11 1 2,la 12 11,oo 13 .len [.t 12],oo 14 (.bin .lss) [.t 10,.t 13]])
 (.cond (.t 14)
 .skip
 (.exit 0)))
 (.seq (.block 1 (sr [fa 17 1 2,la 18 17,ma 19 6,oo 20 (.iad 3) [.t 18,.t 19],fa 21 2 20,la 22 21,ma 23 1,oo 24 (.bin .geq) [.t 22,.t 23]]
 (.cond (.t 24)
 (.reg true [fa 25 1 5,la 26 25,fa 27 1 2,la 28 27,ma 29 6,oo 30 (.iad 3) [.t 28,.t 29],oo 31 (.ld true 3) [.t 30],oo 32 (.bsl 3 1 [v0,v0,v0] [0]) [.t 31],oo 33 (.app 3 24) [.t 26,.t 32],fa 34 1 5,ou (.st 1) [.t 34,.t 33]] [[],[0],[],[2],[],[3,4],[5],[6],[1,7],[0,1,2,3,4,5,6,7,8],[9,8,8,0,1,2,3,4,5,6,7,8]])
 .skip)))
 (rg [ma 15 6,oo 16 (.bin .add) [.t 15,ki 1],ma 6 16]))))))
 (sr [oo 35 (.ld true 3) [.t 5],ou (.st 3) [.t 4,.t 35]]
 .ret)))))⟩
def zqQ : AFun:=⟨35,[(4,none)],
 (sr [oo 2 (.box 3) [.t 0],oo 4 .mv [kn]]
 (sr [oo 9 (.ld true 3) [.t 2],ma 10 1,ca 11 zg4 [.t 9,.t 10],ma 5 11]
 (sr [oo 6 .mv [kn]]
 (.seq (.seq
 (rg [oo 7 .mv [ki 0]])
 (.block 0 (.loop
 (.seq (.seq
 (rg [ma 12 7,fa 13 0 2,la 14 13,oo 15 (.bin .lss) [.t 12,.t 14]])
 (.cond (.t 15)
 .skip
 (.exit 0)))
 (.seq (.block 1 (sr [oo 8 .mv [ki 0]]
 (.block 2 (.loop
 (.seq (.seq
 (rg [ma 18 8,fa 19 0 2,la 20 19,oo 21 (.bin .lss) [.t 18,.t 20]])
 (.cond (.t 21)
 .skip
 (.exit 2)))
 (.seq (.block 3 (sr [ma 24 5,ma 25 8,oo 26 (.iad 1) [.t 24,.t 25],la 27 26,ma 28 7,oo 29 (.bin .eql) [.t 27,.t 28]]
 (.cond (.t 29)
 (rg [ma 30 6,ma 31 8,oo 32 (.bsl 1 1 [v0] [0]) [.t 31],oo 33 (.app 1 8) [.t 30,.t 32],ma 6 33])
 .skip)))
 (rg [ma 22 8,oo 23 (.bin .add) [.t 22,ki 1],ma 8 23])))))))
 (rg [ma 16 7,oo 17 (.bin .add) [.t 16,ki 1],ma 7 17]))))))
 (sr [ma 34 6,ma 4 34]
 .ret)))))⟩
def zt7 : AFun:=⟨72,[(4,none)],
 (sr [oo 2 (.box 3) [.t 0],oo 4 .mv [kn]]
 (sr [oo 5 .mv [kn]]
 (.seq (.seq
 (rg [oo 6 .mv [ki 0]])
 (.block 0 (.loop
 (.seq (.seq
 (rg [ma 10 6,fa 11 0 2,la 12 11,oo 13 (.bin .lss) [.t 10,.t 12]])
 (.cond (.t 13)
 .skip
 (.exit 0)))
 (.seq (.block 1 (sr [ma 16 5,oo 17 (.bsl 1 1 [v0] [0]) [ki (-1)],oo 18 (.app 1 8) [.t 16,.t 17],ma 5 18]
 (sr [ma 19 1,ma 20 6,ca 21 zbs [.t 19,.t 20],ma 22 21,fg 23 2 2 22,lg 24 23 22,mg 25 6 22,og 26 .call [.f zbs,.t 24,.t 25] 22,og 27 (.un .not) [.t 26] 22,oo 28 .pick [.t 22,.t 27,.c (.bool false)]]
 (.cond (.t 28)
 (rg [ma 29 5,ma 30 6,oo 31 (.iad 1) [.t 29,.t 30],ou (.st 1) [.t 31,ki 0]])
 .skip))))
 (rg [ma 14 6,oo 15 (.bin .add) [.t 14,ki 1],ma 6 15]))))))
 (.seq (.seq
 (rg [oo 7 .mv [ki 0]])
 (.block 2 (.loop
 (.seq (.seq
 (rg [ma 32 7,fa 33 0 2,la 34 33,oo 35 (.bin .lss) [.t 32,.t 34]])
 (.cond (.t 35)
 .skip
 (.exit 2)))
 (.seq (.block 3 (sr [oo 8 .mv [ki 0]]
 (.block 4 (.loop
 (.seq (.seq
 (rg [ma 38 8,fa 39 1 2,la 40 39,oo 41 .len [.t 40],oo 42 (.bin .lss) [.t 38,.t 41]])
 (.cond (.t 42)
 .skip
 (.exit 4)))
 (.seq (.block 5 (sr [fa 45 1 2,la 46 45,ma 47 8,oo 48 (.iad 3) [.t 46,.t 47],oo 49 (.ld true 3) [.t 48],oo 9 (.alloc [v0,v0,v0]) [],ou (.st 3) [.t 9,.t 49]]
 (sr [ma 50 5,fa 51 0 9,la 52 51,oo 53 (.iad 1) [.t 50,.t 52],la 54 53,ma 55 7,oo 56 (.bin .eql) [.t 54,.t 55],ma 57 56,mg 58 5 57,fg 59 1 9 57,lg 60 59 57,og 61 (.iad 1) [.t 58,.t 60] 57,lg 62 61 57,og 63 (.bin .eql) [.t 62,ki (-1)] 57,oo 64 .pick [.t 57,.t 63,.c (.bool false)]]
 (.cond (.t 64)
 (rg [ma 65 5,fa 66 1 9,la 67 66,ma 68 7,oo 69 (.bin .add) [.t 68,ki 1],oo 70 (.iad 1) [.t 65,.t 67],ou (.st 1) [.t 70,.t 69]])
 .skip))))
 (rg [ma 43 8,oo 44 (.bin .add) [.t 43,ki 1],ma 8 44])))))))
 (rg [ma 36 7,oo 37 (.bin .add) [.t 36,ki 1],ma 7 37]))))))
 (sr [ma 71 5,ma 4 71]
 .ret)))))⟩
def znC : AFun:=⟨11,[(4,none)],
 (sr [oo 4 .mv [.c (.bool false)]]
 (sr [ma 5 0,ma 6 1,ca 7 zaz [.t 5,.t 6],ma 8 1,oo 9 (.bin .sub) [.t 8,ki 1],oo 10 (.bin .eql) [.t 7,.t 9],ma 4 10]
 .ret))⟩
def zr9 : AFun:=⟨103,[(4,some (true,3)),(5,none)],
 (sr [oo 2 (.box 3) [.t 0],oo 3 (.box 3) [.t 1],oo 4 (.alloc [v0,vn,vn]) [],oo 5 .mv [ki 0]]
 (.seq (.seq
 (rg [oo 9 (.ld true 3) [.t 2],ca 10 zgt [.t 9],oo 11 (.bin .neq) [.t 10,ki 0]])
 (.cond (.t 11)
 (sr [oo 12 (.build [v0,vn,vn] []) [],ou (.st 3) [.t 4,.t 12],oo 5 .mv [ki 14]]
 .ret)
 .skip))
 (sr [oo 14 (.ld true 3) [.t 2],fa 15 0 3,la 16 15,fa 17 1 3,la 18 17,ca 19 zia [.t 14,.t 16,.t 18],ma 13 19,oo 20 (.ext 0) [.t 13],oo 21 (.ext 1) [.t 13],ma 6 20,ma 7 21]
 (.seq (.block 0 (sr [fa 23 0 3,la 24 23,oo 25 (.bin .lss) [.t 24,ki 0],ma 26 25,fh 27 0 3 26,lh 28 27 26,fh 29 0 2 26,lh 30 29 26,oh 31 (.bin .geq) [.t 28,.t 30] 26,oo 32 .pick [.t 26,.c (.bool true),.t 31],ma 33 32,fh 34 1 3 33,lh 35 34 33,oh 36 (.bin .lss) [.t 35,ki 0] 33,oo 37 .pick [.t 33,.c (.bool true),.t 36],ma 38 37,fh 39 1 3 38,lh 40 39 38,fh 41 0 2 38,lh 42 41 38,oh 43 (.bin .geq) [.t 40,.t 42] 38,oo 44 .pick [.t 38,.c (.bool true),.t 43],ma 45 44,fh 46 0 3 45,lh 47 46 45,fh 48 1 3 45,lh 49 48 45,oh 50 (.bin .eql) [.t 47,.t 49] 45,oo 51 .pick [.t 45,.c (.bool true),.t 50],ma 52 51,fh 53 2 2 52,lh 54 53 52,fh 55 0 3 52,lh 56 55 52,oh 57 .call [.f zbs,.t 54,.t 56] 52,oo 58 .pick [.t 52,.c (.bool true),.t 57],ma 59 58,fh 60 2 2 59,lh 61 60 59,fh 62 1 3 59,lh 63 62 59,oh 64 .call [.f zbs,.t 61,.t 63] 59,oo 65 .pick [.t 59,.c (.bool true),.t 64],ma 22 65]
 (.cond (.t 22)
 (sr [oo 66 (.build [v0,vn,vn] []) [],ou (.st 3) [.t 4,.t 66],oo 5 .mv [ki 4]]
 .ret)
 (sr [fa 68 2 3,la 69 68,oo 70 (.bin .lss) [.t 69,ki 1],ma 71 70,fh 72 2 3 71,lh 73 72 71,oh 74 (.bin .gtr) [.t 73,ki 3] 71,oo 75 .pick [.t 71,.c (.bool true),.t 74],ma 67 75]
 (.cond (.t 67)
 (sr [oo 76 (.build [v0,vn,vn] []) [],ou (.st 3) [.t 4,.t 76],oo 5 .mv [ki 2]]
 .ret)
 (sr [ma 78 7,ma 77 78]
 (.cond (.t 77)
 (sr [oo 79 (.build [v0,vn,vn] []) [],ou (.st 3) [.t 4,.t 79],oo 5 .mv [ki 19]]
 .ret)
 (sr [fa 81 1 2,la 82 81,oo 83 .len [.t 82],oo 84 (.bin .eql) [.t 83,ki 500],ma 80 84]
 (.cond (.t 80)
 (sr [oo 85 (.build [v0,vn,vn] []) [],ou (.st 3) [.t 4,.t 85],oo 5 .mv [ki 3]]
 .ret)
 .skip)))))))))
 (sr [oo 86 (.ld true 3) [.t 2],ca 87 zfT [.t 86],oo 8 (.alloc [v0,vn,vn]) [],ou (.st 3) [.t 8,.t 87]]
 (.seq (.reg true [fa 88 1 2,la 89 88,ma 90 6,oo 91 (.slc 3 false true false) [.t 89,.t 90],oo 92 (.app 3 24) [kn,.t 91],oo 93 (.ld true 3) [.t 3],oo 94 (.bsl 3 1 [v0,v0,v0] [0]) [.t 93],oo 95 (.app 3 24) [.t 92,.t 94],fa 96 1 2,la 97 96,ma 98 6,oo 99 (.slc 3 true false false) [.t 97,.t 98],oo 100 (.app 3 24) [.t 95,.t 99],fa 101 1 8,ou (.st 1) [.t 101,.t 100]] [[],[0],[],[1,2],[3],[],[5],[4,6,4],[],[8],[],[9,10],[7,11,7],[0,1,2,3,4,5,6,7,8,9,10,11,12],[13,12,12,0,1,2,3,4,5,6,7,8,9,10,11,12]])
 (sr [oo 102 (.ld true 3) [.t 8],ou (.st 3) [.t 4,.t 102],oo 5 .mv [ki 0]]
 .ret)))))))⟩
def ztW : AFun:=⟨45,[(4,none)],
 (sr [oo 4 .mv [kn]]
 (sr [oo 5 .mv [ki 0]]
 (.seq (.block 0 (.loop
 (.seq (.seq
 (rg [ma 6 5,ma 7 0,oo 8 .len [.t 7],oo 9 (.bin .lss) [.t 6,.t 8],ma 10 9,mg 11 0 10,mg 12 5 10,og 13 (.iad 1) [.t 11,.t 12] 10,lg 14 13 10,mg 15 1 10,og 16 (.bin .lss) [.t 14,.t 15] 10,oo 17 .pick [.t 10,.t 16,.c (.bool false)]])
 (.cond (.t 17)
 .skip
 (.exit 0)))
 (.block 1 (rg [ma 18 5,oo 19 (.bin .add) [.t 18,ki 1],ma 5 19])))))
 (.seq (.seq
 (rg [ma 20 5,ma 21 0,oo 22 .len [.t 21],oo 23 (.bin .lss) [.t 20,.t 22],ma 24 23,mg 25 0 24,mg 26 5 24,og 27 (.iad 1) [.t 25,.t 26] 24,lg 28 27 24,mg 29 1 24,og 30 (.bin .eql) [.t 28,.t 29] 24,oo 31 .pick [.t 24,.t 30,.c (.bool false)]])
 (.cond (.t 31)
 (sr [ma 32 0,oo 33 (.app 1 8) [kn,.t 32],ma 4 33]
 .ret)
 .skip))
 (.seq (.reg true [ma 34 0,ma 35 5,oo 36 (.slc 1 false true false) [.t 34,.t 35],oo 37 (.app 1 8) [kn,.t 36],ma 38 1,oo 39 (.bsl 1 1 [v0] [0]) [.t 38],oo 40 (.app 1 8) [.t 37,.t 39],ma 41 0,ma 42 5,oo 43 (.slc 1 true false false) [.t 41,.t 42],oo 44 (.app 1 8) [.t 40,.t 43],ma 4 44] [[],[],[0,1],[2],[],[4],[3,5,3],[],[],[7,8],[6,9,6],[10,10,0,1,2,3,4,5,6,7,8,9,10]])
 .ret)))))⟩
def zhP : AFun:=⟨15,[(6,none)],
 (sr [oo 6 .mv [.c (.bool false)]]
 (sr [ma 7 0,ma 8 1,oo 9 (.bin .geq) [.t 7,.t 8],ma 10 9,mg 11 0 10,mg 12 2 10,og 13 (.bin .leq) [.t 11,.t 12] 10,oo 14 .pick [.t 10,.t 13,.c (.bool false)],ma 6 14]
 .ret))⟩
def zh1 : AFun:=⟨14,[(4,some (true,3))],
 (sr [oo 2 (.box 3) [.t 0],oo 3 (.box 1) [.t 1],oo 4 (.alloc [v0,vn,vn]) []]
 (sr [oo 6 (.ld true 3) [.t 2],ca 7 zez [.t 6],oo 5 (.alloc [v0,vn,vn]) [],ou (.st 3) [.t 5,.t 7]]
 (sr [fa 8 1 5,la 9 8,oo 10 (.mkf zcf) [.t 3],ca 11 zaI [.t 9,.t 10],fa 12 1 5,ou (.st 1) [.t 12,.t 11]]
 (sr [oo 13 (.ld true 3) [.t 5],ou (.st 3) [.t 4,.t 13]]
 .ret))))⟩
def zhz : AFun:=⟨50,[(4,none)],
 (sr [oo 2 (.box 3) [.t 0],oo 3 (.box 1) [.t 1],oo 4 .mv [kn]]
 (sr [oo 11 (.bsl 1 1 [v0] [0]) [ki (-1)],fa 12 0 2,la 13 12,oo 14 .mx2 [ki 0,.t 13],ca 15 zbx [.t 11,.t 14],oo 5 (.alloc [vn]) [],ou (.st 1) [.t 5,.t 15]]
 (sr [fa 16 0 2,la 17 16,oo 18 (.mkf zcw) [.t 2,.t 3],ca 19 zbt [.t 17,.t 18],ma 6 19]
 (.seq (.seq
 (rg [oo 7 .mv [ki 0]])
 (.block 0 (.loop
 (.seq (.seq
 (rg [ma 20 6,oo 21 .len [.t 20],oo 22 (.bin .gtr) [.t 21,ki 0]])
 (.cond (.t 22)
 .skip
 (.exit 0)))
 (.seq (.block 1 (sr [oo 8 .mv [kn]]
 (.seq (.seq
 (rg [ma 25 6,oo 26 .len [.t 25],oo 27 .mv [ki 0]])
 (.block 2 (.loop
 (sr [oo 28 (.bin .lss) [.t 27,.t 26]]
 (.seq (.cond (.t 28)
 .skip
 (.exit 2))
 (.seq (.block 3 (sr [oo 29 (.iad 1) [.t 25,.t 27],la 30 29,ma 10 30]
 (.seq (.seq
 (rg [la 31 5,ma 32 10,oo 33 (.iad 1) [.t 31,.t 32],la 34 33,oo 35 (.bin .geq) [.t 34,ki 0]])
 (.cond (.t 35)
 (.exit 3)
 .skip))
 (sr [la 36 5,ma 37 10,ma 38 7,oo 39 (.iad 1) [.t 36,.t 37],ou (.st 1) [.t 39,.t 38]]
 (rg [ma 40 8,oo 41 (.ld true 3) [.t 2],ma 42 10,ca 43 zeP [.t 41,.t 42],oo 44 (.app 1 8) [.t 40,.t 43],ma 8 44])))))
 (rg [oo 45 (.bin .add) [.t 27,ki 1],ma 27 45])))))))
 (rg [ma 46 8,oo 47 (.mkf zcx) [.t 5],ca 48 zbd [.t 46,.t 47],ma 6 48]))))
 (rg [ma 23 7,oo 24 (.bin .add) [.t 23,ki 1],ma 7 24]))))))
 (sr [la 49 5,ma 4 49]
 .ret)))))⟩
def zhX : AFun:=⟨20,[(4,none)],
 (sr [oo 4 .mv [kn]]
 (sr [oo 5 .mv [kn]]
 (.seq (.seq
 (rg [ma 7 0,oo 8 .mv [ki 0]])
 (.block 0 (.loop
 (sr [oo 9 (.bin .lss) [.t 8,.t 7]]
 (.seq (.cond (.t 9)
 .skip
 (.exit 0))
 (.seq (.block 1 (sr [ma 10 8,ma 6 10]
 (sr [ma 11 1,ma 12 6,oo 13 .call [.t 11,.t 12]]
 (.cond (.t 13)
 (rg [ma 14 5,ma 15 6,oo 16 (.bsl 1 1 [v0] [0]) [.t 15],oo 17 (.app 1 8) [.t 14,.t 16],ma 5 17])
 .skip))))
 (rg [oo 18 (.bin .add) [.t 8,ki 1],ma 8 18])))))))
 (sr [ma 19 5,ma 4 19]
 .ret))))⟩
def zga : AFun:=⟨18,[(4,none)],
 (sr [oo 2 (.box 3) [.t 0],oo 4 .mv [kn]]
 (sr [oo 7 (.ld true 3) [.t 2],ma 8 1,ca 9 zcU [.t 7,.t 8],oo 5 (.alloc [vn]) [],ou (.st 1) [.t 5,.t 9]]
 (sr [la 10 5,oo 11 .len [.t 10],oo 12 (.mkf zbv) [.t 5],ca 13 zbt [.t 11,.t 12],ma 6 13]
 (sr [ma 14 6,oo 15 (.mkf zbY) [.t 5],ca 16 za4 [.t 14,.t 15]]
 (sr [ma 17 6,ma 4 17]
 .ret)))))⟩
def zbQ : AFun:=⟨9,[(4,none)],
 (sr [oo 4 .mv [.c (.bool false)]]
 (sr [ma 5 0,ma 6 1,ca 7 za0 [.t 5,.t 6],oo 8 (.bin .geq) [.t 7,ki 0],ma 4 8]
 .ret))⟩
def zmo : AFun:=⟨18,[(2,none)],
 (sr [oo 2 .mv [ki 0]]
 (sr [oo 3 .mv [ki 0]]
 (.seq (.seq
 (rg [ma 6 0,oo 7 .len [.t 6],oo 8 .mv [ki 0]])
 (.block 0 (.loop
 (sr [oo 9 (.bin .lss) [.t 8,.t 7]]
 (.seq (.cond (.t 9)
 .skip
 (.exit 0))
 (.seq (.block 1 (sr [oo 10 (.iad 1) [.t 6,.t 8],la 11 10,ma 5 11]
 (sr [ma 12 5,ma 13 3,oo 14 (.bin .neq) [.t 12,.t 13]]
 (.cond (.t 14)
 (sr [ma 15 5,ma 2 15]
 .ret)
 .skip))))
 (rg [oo 16 (.bin .add) [.t 8,ki 1],ma 8 16])))))))
 (sr [ma 17 3,ma 2 17]
 .ret))))⟩
def zfv : AFun:=⟨20,[(4,none)],
 (sr [oo 4 .mv [ki 0]]
 (sr [ma 7 0,ca 8 zcd [.t 7],ma 5 8]
 (sr [ma 9 1,ca 10 zcd [.t 9],ma 6 10]
 (.seq (.seq
 (rg [ma 11 5])
 (.cond (.t 11)
 (.seq (.seq
 (rg [ma 12 6])
 (.cond (.t 12)
 (sr [oo 4 .mv [ki 0]]
 .ret)
 .skip))
 (sr [oo 4 .mv [ki (-1)]]
 .ret))
 .skip))
 (.seq (.seq
 (rg [ma 13 6])
 (.cond (.t 13)
 (sr [oo 4 .mv [ki 1]]
 .ret)
 .skip))
 (.seq (.seq
 (rg [ma 14 0,ma 15 1,oo 16 (.bin .lss) [.t 14,.t 15]])
 (.cond (.t 16)
 (sr [oo 4 .mv [ki (-1)]]
 .ret)
 .skip))
 (.seq (.seq
 (rg [ma 17 0,ma 18 1,oo 19 (.bin .gtr) [.t 17,.t 18]])
 (.cond (.t 19)
 (sr [oo 4 .mv [ki 1]]
 .ret)
 .skip))
 (sr [oo 4 .mv [ki 0]]
 .ret))))))))⟩
def zr4 : AFun:=⟨12,[(2,some (true,3))],
 (sr [oo 1 (.box 3) [.t 0],oo 2 (.alloc [v0,vn,vn]) []]
 (.seq (.reg true [fa 3 0 1,la 4 3,fa 5 1 1,la 6 5,oo 7 (.app 3 24) [kn,.t 6],fa 8 2 1,la 9 8,oo 10 (.app 1 8) [kn,.t 9],oo 11 (.build [v0,vn,vn] [(0,1),(1,1),(2,1)]) [.t 4,.t 7,.t 10],ou (.st 3) [.t 2,.t 11]] [[],[0],[],[2],[3],[],[5],[6,4],[1,4,7],[8,7,0,1,2,3,4,5,6,7,8]])
 .ret))⟩
def zqn : AFun:=⟨105,[(2,none)],
 (sr [oo 1 (.box 3) [.t 0],oo 2 .mv [ki 0]]
 (.seq (.seq
 (rg [fa 5 0 1,la 6 5,oo 7 (.bin .lss) [.t 6,ki 0],ma 8 7,fh 9 0 1 8,lh 10 9 8,oh 11 (.bin .gtr) [.t 10,ki 64] 8,oo 12 .pick [.t 8,.c (.bool true),.t 11],ma 13 12,fh 14 1 1 13,lh 15 14 13,oh 16 .len [.t 15] 13,oh 17 (.bin .gtr) [.t 16,ki 500] 13,oo 18 .pick [.t 13,.c (.bool true),.t 17],ma 19 18,fh 20 2 1 19,lh 21 20 19,fh 22 0 1 19,lh 23 22 19,oh 24 .call [.f zeK,.t 21,.t 23] 19,oh 25 (.un .not) [.t 24] 19,oo 26 .pick [.t 19,.c (.bool true),.t 25]])
 (.cond (.t 26)
 (sr [oo 2 .mv [ki 14]]
 .ret)
 .skip))
 (.seq (.seq
 (rg [oo 3 .mv [ki 0]])
 (.block 0 (.loop
 (.seq (.seq
 (rg [ma 27 3,fa 28 1 1,la 29 28,oo 30 .len [.t 29],oo 31 (.bin .lss) [.t 27,.t 30]])
 (.cond (.t 31)
 .skip
 (.exit 0)))
 (.seq (.block 1 (sr [fa 34 1 1,la 35 34,ma 36 3,oo 37 (.iad 3) [.t 35,.t 36],oo 38 (.ld true 3) [.t 37],oo 4 (.alloc [v0,v0,v0]) [],ou (.st 3) [.t 4,.t 38]]
 (.seq (.seq
 (rg [fa 39 0 4,la 40 39,oo 41 (.bin .lss) [.t 40,ki 0],ma 42 41,fh 43 0 4 42,lh 44 43 42,fh 45 0 1 42,lh 46 45 42,oh 47 (.bin .geq) [.t 44,.t 46] 42,oo 48 .pick [.t 42,.c (.bool true),.t 47],ma 49 48,fh 50 1 4 49,lh 51 50 49,oh 52 (.bin .lss) [.t 51,ki 0] 49,oo 53 .pick [.t 49,.c (.bool true),.t 52],ma 54 53,fh 55 1 4 54,lh 56 55 54,fh 57 0 1 54,lh 58 57 54,oh 59 (.bin .geq) [.t 56,.t 58] 54,oo 60 .pick [.t 54,.c (.bool true),.t 59],ma 61 60,fh 62 0 4 61,lh 63 62 61,fh 64 1 4 61,lh 65 64 61,oh 66 (.bin .eql) [.t 63,.t 65] 61,oo 67 .pick [.t 61,.c (.bool true),.t 66],ma 68 67,fh 69 2 4 68,lh 70 69 68,oh 71 (.bin .lss) [.t 70,ki 1] 68,oo 72 .pick [.t 68,.c (.bool true),.t 71],ma 73 72,fh 74 2 4 73,lh 75 74 73,oh 76 (.bin .gtr) [.t 75,ki 3] 73,oo 77 .pick [.t 73,.c (.bool true),.t 76]])
 (.cond (.t 77)
 (sr [oo 2 .mv [ki 14]]
 .ret)
 .skip))
 (.seq (.reg true [ma 78 3,oo 79 (.bin .gtr) [.t 78,ki 0],ma 80 79,fg 81 1 1 80,lg 82 81 80,mg 83 3 80,og 84 (.bin .sub) [.t 83,ki 1] 80,og 85 (.iad 3) [.t 82,.t 84] 80,og 86 (.ld true 3) [.t 85] 80,og 87 (.ld true 3) [.t 4] 80,og 88 .call [.f zds,.t 86,.t 87] 80,og 89 (.un .not) [.t 88] 80,oo 90 .pick [.t 80,.t 89,.c (.bool false)],ma 91 90,fh 92 2 1 91,lh 93 92 91,fh 94 0 4 91,lh 95 94 91,oh 96 .call [.f zbs,.t 93,.t 95] 91,oo 97 .pick [.t 91,.c (.bool true),.t 96],ma 98 97,fh 99 2 1 98,lh 100 99 98,fh 101 1 4 98,lh 102 101 98,oh 103 .call [.f zbs,.t 100,.t 102] 98,oo 104 .pick [.t 98,.c (.bool true),.t 103]] [[],[0],[1],[2],[3,2],[2],[5,2],[4,6,2],[7,2],[2],[8,9,2,2],[10,2],[2,11],[12,10],[13],[14,13],[13],[16,13],[15,17,13,13],[13,18],[19,18],[20],[21,20],[20],[23,20],[22,24,20,20],[20,25]])
 (.cond (.t 104)
 (sr [oo 2 .mv [ki 14]]
 .ret)
 .skip)))))
 (rg [ma 32 3,oo 33 (.bin .add) [.t 32,ki 1],ma 3 33]))))))
 (sr [oo 2 .mv [ki 0]]
 .ret))))⟩
def zqm : AFun:=⟨53,[(6,none),(7,none)],
 (sr [oo 3 (.box 3) [.t 0],oo 6 .mv [ki 0],oo 7 .mv [.c (.bool false)]]
 (sr [oo 8 .mv [ki 0]]
 (.seq (.block 0 (.loop
 (.seq (.seq
 (rg [ma 9 8,fa 10 1 3,la 11 10,oo 12 .len [.t 11],oo 13 (.bin .lss) [.t 9,.t 12],ma 14 13,fg 15 1 3 14,lg 16 15 14,mg 17 8 14,og 18 (.iad 3) [.t 16,.t 17] 14,og 19 (.ld true 3) [.t 18] 14,mg 20 1 14,mg 21 2 14,og 22 (.build [v0,v0,v0] [(0,1),(1,1)]) [.t 20,.t 21] 14,og 23 .call [.f zds,.t 19,.t 22] 14,oo 24 .pick [.t 14,.t 23,.c (.bool false)]])
 (.cond (.t 24)
 .skip
 (.exit 0)))
 (.block 1 (rg [ma 25 8,oo 26 (.bin .add) [.t 25,ki 1],ma 8 26])))))
 (.seq (.reg true [ma 27 8,ma 28 8,fa 29 1 3,la 30 29,oo 31 .len [.t 30],oo 32 (.bin .lss) [.t 28,.t 31],ma 33 32,fg 34 1 3 33,lg 35 34 33,mg 36 8 33,og 37 (.iad 3) [.t 35,.t 36] 33,fg 38 0 37 33,lg 39 38 33,mg 40 1 33,og 41 (.bin .eql) [.t 39,.t 40] 33,oo 42 .pick [.t 33,.t 41,.c (.bool false)],ma 43 42,fg 44 1 3 43,lg 45 44 43,mg 46 8 43,og 47 (.iad 3) [.t 45,.t 46] 43,fg 48 1 47 43,lg 49 48 43,mg 50 2 43,og 51 (.bin .eql) [.t 49,.t 50] 43,oo 52 .pick [.t 43,.t 51,.c (.bool false)],ma 6 27,ma 7 52] [[],[],[],[2],[3],[1,4],[5],[6],[7,6],[6],[8,9,6],[10,6],[11,6],[6],[12,13,6],[6,14],[15,6],[16],[17,16],[16],[18,19,16],[20,16],[21,16],[16],[22,23,16],[16,24],[0,16,0],[25,26,0,1,2,3,4,5,6,7,8,9,10,11,12,13,14,15,16,17,18,19,20,21,22,23,24,25,26]])
 .ret))))⟩
def zhr : AFun:=⟨12,[(2,some (true,3))],
 (sr [oo 1 (.box 3) [.t 0],oo 2 (.alloc [v0,vn,vn]) []]
 (.seq (.reg true [fa 3 0 1,la 4 3,fa 5 1 1,la 6 5,ca 7 zaL [.t 6],fa 8 2 1,la 9 8,ca 10 za1 [.t 9],oo 11 (.build [v0,vn,vn] [(0,1),(1,1),(2,1)]) [.t 4,.t 7,.t 10],ou (.st 3) [.t 2,.t 11]] [[],[0],[],[2],[3],[],[5],[6,4],[1,4,7],[8,7,0,1,2,3,4,5,6,7,8]])
 .ret))⟩
def zbh : AFun:=⟨42,[(4,none)],
 (sr [oo 4 .mv [kn]]
 (sr [ma 8 0,ma 9 1,ca 10 zaD [.t 8,.t 9],ma 5 10]
 (.seq (.seq
 (rg [ma 11 5,oo 12 (.bin .eql) [.t 11,ki (-1)]])
 (.cond (.t 12)
 (sr [ma 13 0,ma 4 13]
 .ret)
 .skip))
 (.seq (.seq
 (rg [ma 14 5,oo 15 (.bin .add) [.t 14,ki 1],ma 6 15])
 (.block 0 (.loop
 (.seq (.seq
 (rg [ma 16 6,ma 17 0,oo 18 .len [.t 17],oo 19 (.bin .lss) [.t 16,.t 18]])
 (.cond (.t 19)
 .skip
 (.exit 0)))
 (.seq (.block 1 (sr [ma 22 0,ma 23 6,oo 24 (.iad 3) [.t 22,.t 23],oo 25 (.ld true 3) [.t 24],oo 7 (.alloc [v0,v0,v0]) [],ou (.st 3) [.t 7,.t 25]]
 (sr [ma 26 1,oo 27 (.ld true 3) [.t 7],oo 28 .call [.t 26,.t 27],oo 29 (.un .not) [.t 28]]
 (.cond (.t 29)
 (sr [ma 30 0,ma 31 5,oo 32 (.ld true 3) [.t 7],oo 33 (.iad 3) [.t 30,.t 31],ou (.st 3) [.t 33,.t 32]]
 (rg [ma 34 5,oo 35 (.bin .add) [.t 34,ki 1],ma 5 35]))
 .skip))))
 (rg [ma 20 6,oo 21 (.bin .add) [.t 20,ki 1],ma 6 21]))))))
 (sr [ma 36 0,ma 37 5,oo 38 (.slc 3 true false false) [.t 36,.t 37],ou (.clr 3 [v0,v0,v0]) [.t 38]]
 (sr [ma 39 0,ma 40 5,oo 41 (.slc 3 false true false) [.t 39,.t 40],ma 4 41]
 .ret))))))⟩
def zfY : AFun:=⟨8,[(3,none)],
 (sr [oo 2 (.box 3) [.t 0],oo 3 .mv [.c (.bool false)]]
 (sr [fa 4 2 2,la 5 4,la 6 1,oo 7 (.bin .lss) [.t 5,.t 6],ma 3 7]
 .ret))⟩
def zc1 : AFun:=⟨48,[(4,none)],
 (sr [oo 4 .mv [kn]]
 (.seq (.seq
 (rg [ma 9 1,oo 10 (.bin .lss) [.t 9,ki 0]])
 (.cond (.t 10)
 (rg [oo 11 .bad [],ou .bad []])
 .skip))
 (sr [ma 13 0,oo 14 .len [.t 13],oo 15 (.cvt .u64) [.t 14],ma 16 1,oo 17 (.cvt .u64) [.t 16],ca 18 zdO [.t 15,.t 17],ma 12 18,oo 19 (.ext 0) [.t 12],oo 20 (.ext 1) [.t 12],ma 5 19,ma 6 20]
 (.seq (.seq
 (rg [ma 21 5,oo 22 (.bin .gtr) [.t 21,(.c (.int .u64 0))],ma 23 22,mh 24 6 23,oh 25 (.bin .gtr) [.t 24,(.c (.int .u64 9223372036854775807))] 23,oo 26 .pick [.t 23,.c (.bool true),.t 25]])
 (.cond (.t 26)
 (rg [oo 27 .bad [],ou .bad []])
 .skip))
 (sr [ma 28 6,oo 29 (.cvt .i64) [.t 28],oo 30 (.mks 1 8 [v0]) [.t 29,.t 29],ma 7 30]
 (sr [ma 31 7,ma 32 0,oo 33 (.cpy 1) [.t 31,.t 32],ma 8 33]
 (.seq (.block 0 (.loop
 (.seq (.seq
 (rg [ma 34 8,ma 35 7,oo 36 .len [.t 35],oo 37 (.bin .lss) [.t 34,.t 36]])
 (.cond (.t 37)
 .skip
 (.exit 0)))
 (.block 1 (.reg true [ma 38 8,ma 39 7,ma 40 8,oo 41 (.slc 1 true false false) [.t 39,.t 40],ma 42 7,ma 43 8,oo 44 (.slc 1 false true false) [.t 42,.t 43],oo 45 (.cpy 1) [.t 41,.t 44],oo 46 (.bin .add) [.t 38,.t 45],ma 8 46] [[],[],[],[1,2],[],[],[4,5],[3,6],[0,7],[8,7,0,1,2,3,4,5,6,7,8]])))))
 (sr [ma 47 7,ma 4 47]
 .ret))))))))⟩
def zfs : AFun:=⟨9,[(4,none)],
 (sr [oo 4 .mv [.c (.bool false)]]
 (sr [oo 5 (.ld true 3) [.t 1],la 6 2,ma 7 0,ca 8 zdi [.t 5,.t 6,.t 7],ma 4 8]
 .ret))⟩
def zf5 : AFun:=⟨17,[(6,none)],
 (sr [oo 3 (.box 3) [.t 0],oo 6 .mv [.c (.bool false)]]
 (sr [ma 7 1,ma 8 2,ca 9 zam [.t 7,.t 8],ma 10 9,fg 11 2 3 10,lg 12 11 10,mg 13 2 10,og 14 .call [.f zam,.t 12,.t 13] 10,og 15 (.un .not) [.t 14] 10,oo 16 .pick [.t 10,.t 15,.c (.bool false)],ma 6 16]
 .ret))⟩
def ziQ : AFun:=⟨28,[(4,none)],
 (sr [oo 2 (.box 3) [.t 0],oo 4 .mv [kn]]
 (sr [oo 5 .mv [kn]]
 (.seq (.seq
 (rg [fa 8 1 2,la 9 8,oo 10 .len [.t 9],oo 11 .mv [ki 0]])
 (.block 0 (.loop
 (sr [oo 12 (.bin .lss) [.t 11,.t 10]]
 (.seq (.cond (.t 12)
 .skip
 (.exit 0))
 (.seq (.block 1 (sr [oo 13 (.iad 3) [.t 9,.t 11],oo 14 (.ld true 3) [.t 13],oo 7 (.alloc [v0,v0,v0]) [],ou (.st 3) [.t 7,.t 14]]
 (sr [fa 15 0 7,la 16 15,ma 17 1,oo 18 (.bin .eql) [.t 16,.t 17]]
 (.cond (.t 18)
 (rg [ma 19 5,fa 20 1 7,la 21 20,oo 22 (.bsl 1 1 [v0] [0]) [.t 21],oo 23 (.app 1 8) [.t 19,.t 22],ma 5 23])
 .skip))))
 (rg [oo 24 (.bin .add) [.t 11,ki 1],ma 11 24])))))))
 (sr [ma 25 5,ca 26 zaX [.t 25]]
 (sr [ma 27 5,ma 4 27]
 .ret)))))⟩
def zcn : AFun:=⟨42,[(4,none)],
 (sr [oo 4 .mv [kn]]
 (sr [ma 8 0,ma 9 1,ca 10 zaH [.t 8,.t 9],ma 5 10]
 (.seq (.seq
 (rg [ma 11 5,oo 12 (.bin .eql) [.t 11,ki (-1)]])
 (.cond (.t 12)
 (sr [ma 13 0,ma 4 13]
 .ret)
 .skip))
 (.seq (.seq
 (rg [ma 14 5,oo 15 (.bin .add) [.t 14,ki 1],ma 6 15])
 (.block 0 (.loop
 (.seq (.seq
 (rg [ma 16 6,ma 17 0,oo 18 .len [.t 17],oo 19 (.bin .lss) [.t 16,.t 18]])
 (.cond (.t 19)
 .skip
 (.exit 0)))
 (.seq (.block 1 (sr [ma 22 0,ma 23 6,oo 24 (.iad 1) [.t 22,.t 23],la 25 24,ma 7 25]
 (sr [ma 26 1,ma 27 7,oo 28 .call [.t 26,.t 27],oo 29 (.un .not) [.t 28]]
 (.cond (.t 29)
 (sr [ma 30 0,ma 31 5,ma 32 7,oo 33 (.iad 1) [.t 30,.t 31],ou (.st 1) [.t 33,.t 32]]
 (rg [ma 34 5,oo 35 (.bin .add) [.t 34,ki 1],ma 5 35]))
 .skip))))
 (rg [ma 20 6,oo 21 (.bin .add) [.t 20,ki 1],ma 6 21]))))))
 (sr [ma 36 0,ma 37 5,oo 38 (.slc 1 true false false) [.t 36,.t 37],ou (.clr 1 [v0]) [.t 38]]
 (sr [ma 39 0,ma 40 5,oo 41 (.slc 1 false true false) [.t 39,.t 40],ma 4 41]
 .ret))))))⟩
def zfu : AFun:=⟨17,[(3,none)],
 (sr [oo 3 .mv [.c (.bool false)]]
 (sr [ma 4 0,la 5 1,oo 6 .len [.t 5],oo 7 (.bin .sub) [.t 6,ki 1],ca 8 zaF [.t 4,ki 0,.t 7],oo 9 (.un .not) [.t 8],ma 10 9,lh 11 1 10,mh 12 0 10,oh 13 (.iad 1) [.t 11,.t 12] 10,lh 14 13 10,oh 15 (.bin .geq) [.t 14,ki 0] 10,oo 16 .pick [.t 10,.c (.bool true),.t 15],ma 3 16]
 .ret))⟩
def zeA : AFun:=⟨9,[(3,none)],
 (sr [oo 3 .mv [.c (.bool false)]]
 (sr [la 4 1,ma 5 0,oo 6 (.iad 1) [.t 4,.t 5],la 7 6,oo 8 (.bin .geq) [.t 7,ki 0],ma 3 8]
 .ret))⟩
def zbI : AFun:=⟨9,[],
 (rg [ma 4 0,ma 5 0,oo 6 .len [.t 5],ma 7 1,ca 8 zbk [.t 4,.t 6,.t 7]])⟩
def zex : AFun:=⟨15,[(5,none)],
 (sr [oo 5 .mv [ki 0]]
 (.seq (.reg true [la 6 2,ma 7 0,oo 8 (.iad 1) [.t 6,.t 7],la 9 8,la 10 2,ma 11 1,oo 12 (.iad 1) [.t 10,.t 11],la 13 12,ca 14 zby [.t 9,.t 13],ma 5 14] [[],[],[0,1],[2],[],[],[4,5],[6],[3,7],[8,8,0,1,2,3,4,5,6,7,8]])
 .ret))⟩
def zb5 : AFun:=⟨9,[(4,none)],
 (sr [oo 4 .mv [.c (.bool false)]]
 (sr [ma 5 0,ma 6 1,ca 7 zaH [.t 5,.t 6],oo 8 (.bin .geq) [.t 7,ki 0],ma 4 8]
 .ret))⟩
def zlj : AFun:=⟨58,[(2,none)],
 (sr [oo 1 (.box 3) [.t 0],oo 2 .mv [ki 0]]
 (.seq (.seq
 (rg [fa 5 0 1,la 6 5,ca 7 zaF [.t 6,ki 0,ki 64],oo 8 (.un .not) [.t 7],ma 9 8,fh 10 1 1 9,lh 11 10 9,oh 12 .len [.t 11] 9,oh 13 (.bin .gtr) [.t 12,ki 500] 9,oo 14 .pick [.t 9,.c (.bool true),.t 13],ma 15 14,fh 16 2 1 15,lh 17 16 15,fh 18 0 1 15,lh 19 18 15,oh 20 (.bin .sub) [.t 19,ki 1] 15,oh 21 .call [.f zcc,.t 17,ki 0,.t 20] 15,oh 22 (.un .not) [.t 21] 15,oo 23 .pick [.t 15,.c (.bool true),.t 22]])
 (.cond (.t 23)
 (sr [oo 2 .mv [ki 14]]
 .ret)
 .skip))
 (.seq (.seq
 (rg [fa 24 1 1,la 25 24,oo 26 .len [.t 25],oo 27 .mv [ki 0]])
 (.block 0 (.loop
 (sr [oo 28 (.bin .lss) [.t 27,.t 26]]
 (.seq (.cond (.t 28)
 .skip
 (.exit 0))
 (.seq (.block 1 (sr [ma 29 27,oo 30 (.iad 3) [.t 25,.t 27],oo 31 (.ld true 3) [.t 30],oo 4 (.alloc [v0,v0,v0]) [],ma 3 29,ou (.st 3) [.t 4,.t 31]]
 (.seq (.reg true [oo 32 (.ld true 3) [.t 1],oo 33 (.ld true 3) [.t 4],ca 34 zfN [.t 32,.t 33],oo 35 (.un .not) [.t 34],ma 36 35,fh 37 2 4 36,lh 38 37 36,oh 39 .call [.f zaF,.t 38,ki 1,ki 3] 36,oh 40 (.un .not) [.t 39] 36,oo 41 .pick [.t 36,.c (.bool true),.t 40],ma 42 41,mh 43 3 42,oh 44 (.bin .gtr) [.t 43,ki 0] 42,mh 45 44 42,fg 46 1 1 45,lg 47 46 45,mg 48 3 45,og 49 (.bin .sub) [.t 48,ki 1] 45,og 50 (.iad 3) [.t 47,.t 49] 45,og 51 (.ld true 3) [.t 50] 45,og 52 (.ld true 3) [.t 4] 45,og 53 .call [.f zdL,.t 51,.t 52] 45,og 54 (.bin .geq) [.t 53,ki 0] 45,oh 55 .pick [.t 45,.t 54,.c (.bool false)] 42,oo 56 .pick [.t 42,.c (.bool true),.t 55]] [[],[],[0,1],[2],[3,2],[4],[5,4],[6,4,4],[7,4],[4,8],[9,7],[10],[11,10],[12,10,10],[13],[14,13],[13],[16,13],[15,17,13],[18,13],[13],[19,20,13,13],[21,13],[13,22,10],[10,23]])
 (.cond (.t 56)
 (sr [oo 2 .mv [ki 14]]
 .ret)
 .skip))))
 (rg [oo 57 (.bin .add) [.t 27,ki 1],ma 27 57])))))))
 (sr [oo 2 .mv [ki 0]]
 .ret))))⟩
def zku : AFun:=⟨38,[(6,none)],
 (sr [oo 6 .mv [.c (.bool false)]]
 (.seq (.seq
 (rg [ma 9 0,oo 10 .len [.t 9],oo 11 .mv [ki 0]])
 (.block 0 (.loop
 (sr [oo 12 (.bin .lss) [.t 11,.t 10]]
 (.seq (.cond (.t 12)
 .skip
 (.exit 0))
 (.seq (.block 1 (sr [ma 13 11,oo 14 (.iad 1) [.t 9,.t 11],la 15 14,ma 7 13,ma 8 15]
 (sr [ma 16 8,ma 17 1,oo 18 (.bin .lss) [.t 16,.t 17],ma 19 18,mh 20 8 19,mh 21 2 19,oh 22 (.bin .gtr) [.t 20,.t 21] 19,oo 23 .pick [.t 19,.c (.bool true),.t 22],ma 24 23,mh 25 7 24,oh 26 (.bin .gtr) [.t 25,ki 0] 24,mh 27 26 24,mg 28 8 27,mg 29 0 27,mg 30 7 27,og 31 (.bin .sub) [.t 30,ki 1] 27,og 32 (.iad 1) [.t 29,.t 31] 27,lg 33 32 27,og 34 (.bin .leq) [.t 28,.t 33] 27,oh 35 .pick [.t 27,.t 34,.c (.bool false)] 24,oo 36 .pick [.t 24,.c (.bool true),.t 35]]
 (.cond (.t 36)
 (sr [oo 6 .mv [.c (.bool false)]]
 .ret)
 .skip))))
 (rg [oo 37 (.bin .add) [.t 11,ki 1],ma 11 37])))))))
 (sr [oo 6 .mv [.c (.bool true)]]
 .ret)))⟩
def zco : AFun:=⟨19,[(4,none)],
 (sr [oo 4 .mv [ki 0]]
 (.seq (.seq
 (rg [ma 6 0,oo 7 .len [.t 6],oo 8 .mv [ki 0]])
 (.block 0 (.loop
 (sr [oo 9 (.bin .lss) [.t 8,.t 7]]
 (.seq (.cond (.t 9)
 .skip
 (.exit 0))
 (.seq (.block 1 (sr [ma 10 8,ma 5 10]
 (sr [ma 11 1,ma 12 0,ma 13 5,oo 14 (.iad 1) [.t 12,.t 13],la 15 14,oo 16 (.bin .eql) [.t 11,.t 15]]
 (.cond (.t 16)
 (sr [ma 17 5,ma 4 17]
 .ret)
 .skip))))
 (rg [oo 18 (.bin .add) [.t 8,ki 1],ma 8 18])))))))
 (sr [oo 4 .mv [ki (-1)]]
 .ret)))⟩
def ze5 : AFun:=⟨8,[(2,none)],
 (sr [oo 2 .mv [ki 0]]
 (.seq (.cond (.c (.bool false))
 (sr [ma 3 0,oo 4 (.cvt .u32) [.t 3],ca 5 zlv [.t 4],ma 2 5]
 .ret)
 .skip)
 (sr [ma 6 0,ca 7 zb4 [.t 6],ma 2 7]
 .ret)))⟩
def ze6 : AFun:=⟨6,[(2,none)],
 (sr [oo 2 .mv [.c (.bool false)]]
 (sr [ma 3 0,ma 4 0,oo 5 (.bin .neq) [.t 3,.t 4],ma 2 5]
 .ret))⟩
def ztI : AFun:=⟨41,[(4,none)],
 (sr [oo 4 .mv [.c (.bool false)]]
 (.seq (.seq
 (rg [oo 5 .mv [ki 0]])
 (.block 0 (.loop
 (.seq (.seq
 (rg [ma 6 5,ma 7 0,oo 8 .len [.t 7],oo 9 (.bin .lss) [.t 6,.t 8]])
 (.cond (.t 9)
 .skip
 (.exit 0)))
 (.seq (.block 1 (.seq (.reg true [ma 12 0,ma 13 5,oo 14 (.iad 1) [.t 12,.t 13],la 15 14,oo 16 (.bin .lss) [.t 15,ki 0],ma 17 16,mh 18 0 17,mh 19 5 17,oh 20 (.iad 1) [.t 18,.t 19] 17,lh 21 20 17,mh 22 1 17,oh 23 (.bin .geq) [.t 21,.t 22] 17,oo 24 .pick [.t 17,.c (.bool true),.t 23],ma 25 24,mh 26 5 25,oh 27 (.bin .gtr) [.t 26,ki 0] 25,mh 28 27 25,mg 29 0 28,mg 30 5 28,og 31 (.iad 1) [.t 29,.t 30] 28,lg 32 31 28,mg 33 0 28,mg 34 5 28,og 35 (.bin .sub) [.t 34,ki 1] 28,og 36 (.iad 1) [.t 33,.t 35] 28,lg 37 36 28,og 38 (.bin .leq) [.t 32,.t 37] 28,oh 39 .pick [.t 28,.t 38,.c (.bool false)] 25,oo 40 .pick [.t 25,.c (.bool true),.t 39]] [[],[],[0,1],[2],[3],[4],[5],[5],[6,7,5],[8,5],[5],[9,10,5],[5,11],[12,5],[13],[14,13],[15,13,13],[16],[16],[17,18,16],[19,16],[16],[16],[22,16],[21,23,16],[24,16],[20,25,16],[16,26,13],[13,27]])
 (.cond (.t 40)
 (sr [oo 4 .mv [.c (.bool false)]]
 .ret)
 .skip)))
 (rg [ma 10 5,oo 11 (.bin .add) [.t 10,ki 1],ma 5 11]))))))
 (sr [oo 4 .mv [.c (.bool true)]]
 .ret)))⟩
def zpu : AFun:=⟨24,[(4,none)],
 (sr [oo 2 (.box 3) [.t 0],oo 3 (.box 3) [.t 1],oo 4 .mv [.c (.bool false)]]
 (sr [fa 5 0 2,la 6 5,fa 7 0 3,la 8 7,oo 9 (.bin .lss) [.t 6,.t 8],ma 10 9,fh 11 0 2 10,lh 12 11 10,fh 13 0 3 10,lh 14 13 10,oh 15 (.bin .eql) [.t 12,.t 14] 10,mh 16 15 10,fg 17 1 2 16,lg 18 17 16,fg 19 1 3 16,lg 20 19 16,og 21 (.bin .lss) [.t 18,.t 20] 16,oh 22 .pick [.t 16,.t 21,.c (.bool false)] 10,oo 23 .pick [.t 10,.c (.bool true),.t 22],ma 4 23]
 .ret))⟩
def zbD : AFun:=⟨8,[(2,none)],
 (sr [oo 2 .mv [kn]]
 (.seq (.seq
 (rg [ma 3 0,oo 4 (.snil false) [.t 3]])
 (.cond (.t 4)
 (sr [oo 2 .mv [kn]]
 .ret)
 .skip))
 (sr [oo 5 (.bsl 3 0 [v0,v0,v0] []) [],ma 6 0,oo 7 (.app 3 24) [.t 5,.t 6],ma 2 7]
 .ret)))⟩
def zcp : AFun:=⟨8,[(2,none)],
 (sr [oo 2 .mv [kn]]
 (.seq (.seq
 (rg [ma 3 0,oo 4 (.snil false) [.t 3]])
 (.cond (.t 4)
 (sr [oo 2 .mv [kn]]
 .ret)
 .skip))
 (sr [oo 5 (.bsl 1 0 [v0] []) [],ma 6 0,oo 7 (.app 1 8) [.t 5,.t 6],ma 2 7]
 .ret)))⟩
def zbl : AFun:=⟨19,[(4,none)],
 (sr [oo 4 .mv [ki 0]]
 (.seq (.seq
 (rg [ma 6 0,oo 7 .len [.t 6],oo 8 .mv [ki 0]])
 (.block 0 (.loop
 (sr [oo 9 (.bin .lss) [.t 8,.t 7]]
 (.seq (.cond (.t 9)
 .skip
 (.exit 0))
 (.seq (.block 1 (sr [ma 10 8,ma 5 10]
 (sr [ma 11 1,ma 12 0,ma 13 5,oo 14 (.iad 3) [.t 12,.t 13],oo 15 (.ld true 3) [.t 14],oo 16 .call [.t 11,.t 15]]
 (.cond (.t 16)
 (sr [ma 17 5,ma 4 17]
 .ret)
 .skip))))
 (rg [oo 18 (.bin .add) [.t 8,ki 1],ma 8 18])))))))
 (sr [oo 4 .mv [ki (-1)]]
 .ret)))⟩
def zgK : AFun:=⟨30,[(4,none),(5,none)],
 (sr [oo 4 .mv [(.c (.int .u64 0))],oo 5 .mv [(.c (.int .u64 0))]]
 (.seq (.cond (.c (.bool false))
 (sr [ma 11 0,oo 12 (.cvt .u32) [.t 11],ma 13 1,oo 14 (.cvt .u32) [.t 13],ca 15 zdX [.t 12,.t 14],ma 10 15,oo 16 (.ext 0) [.t 10],oo 17 (.ext 1) [.t 10],ma 6 16,ma 7 17]
 (sr [ma 18 6,oo 19 (.cvt .u64) [.t 18],ma 20 7,oo 21 (.cvt .u64) [.t 20],ma 4 19,ma 5 21]
 .ret))
 .skip)
 (sr [ma 23 0,ma 24 1,ca 25 zb6 [.t 23,.t 24],ma 22 25,oo 26 (.ext 0) [.t 22],oo 27 (.ext 1) [.t 22],ma 8 26,ma 9 27]
 (sr [ma 28 8,ma 29 9,ma 4 28,ma 5 29]
 .ret))))⟩
def zcC : AFun:=⟨11,[],
 (sr [ma 3 0,oo 4 .len [.t 3],ma 2 4]
 (rg [ma 5 0,ma 6 2,ma 7 2,oo 8 (.cvt .u64) [.t 7],ca 9 zcF [.t 8],ca 10 zaU [.t 5,ki 0,.t 6,.t 9]]))⟩
def zbe : AFun:=⟨19,[(4,none)],
 (sr [oo 4 .mv [ki 0]]
 (.seq (.seq
 (rg [ma 6 0,oo 7 .len [.t 6],oo 8 .mv [ki 0]])
 (.block 0 (.loop
 (sr [oo 9 (.bin .lss) [.t 8,.t 7]]
 (.seq (.cond (.t 9)
 .skip
 (.exit 0))
 (.seq (.block 1 (sr [ma 10 8,ma 5 10]
 (sr [ma 11 1,ma 12 0,ma 13 5,oo 14 (.iad 1) [.t 12,.t 13],la 15 14,oo 16 .call [.t 11,.t 15]]
 (.cond (.t 16)
 (sr [ma 17 5,ma 4 17]
 .ret)
 .skip))))
 (rg [oo 18 (.bin .add) [.t 8,ki 1],ma 8 18])))))))
 (sr [oo 4 .mv [ki (-1)]]
 .ret)))⟩
def zcG : AFun:=⟨63,[],
 (sr [oo 6 .mv [ki 20]]
 (sr [ma 10 6,oo 7 .mv [ki 0],ma 8 10]
 (.seq (.block 0 (.loop
 (.seq (.seq
 (rg [ma 11 8,ma 12 1,oo 13 (.bin .leq) [.t 11,.t 12]])
 (.cond (.t 13)
 .skip
 (.exit 0)))
 (.block 1 (sr [ma 14 0,ma 15 7,ma 16 8,ma 17 2,ca 18 zaK [.t 14,.t 15,.t 16,.t 17]]
 (sr [ma 19 8,ma 7 19]
 (rg [ma 20 8,ma 21 6,oo 22 (.bin .add) [.t 20,.t 21],ma 8 22])))))))
 (sr [ma 23 0,ma 24 7,ma 25 1,ma 26 2,ca 27 zaK [.t 23,.t 24,.t 25,.t 26]]
 (.block 2 (.loop
 (.seq (.seq
 (rg [ma 28 6,ma 29 1,oo 30 (.bin .lss) [.t 28,.t 29]])
 (.cond (.t 30)
 .skip
 (.exit 2)))
 (.block 3 (sr [ma 31 6,oo 32 (.bin .mul) [ki 2,.t 31],oo 7 .mv [ki 0],ma 8 32]
 (.seq (.block 4 (.loop
 (.seq (.seq
 (rg [ma 33 8,ma 34 1,oo 35 (.bin .leq) [.t 33,.t 34]])
 (.cond (.t 35)
 .skip
 (.exit 4)))
 (.block 5 (sr [ma 36 0,ma 37 7,ma 38 7,ma 39 6,oo 40 (.bin .add) [.t 38,.t 39],ma 41 8,ma 42 2,ca 43 zaS [.t 36,.t 37,.t 40,.t 41,.t 42]]
 (sr [ma 44 8,ma 7 44]
 (rg [ma 45 8,ma 46 6,oo 47 (.bin .mul) [ki 2,.t 46],oo 48 (.bin .add) [.t 45,.t 47],ma 8 48])))))))
 (.seq (.seq
 (rg [ma 49 7,ma 50 6,oo 51 (.bin .add) [.t 49,.t 50],ma 9 51])
 (sr [ma 52 9,ma 53 1,oo 54 (.bin .lss) [.t 52,.t 53]]
 (.cond (.t 54)
 (rg [ma 55 0,ma 56 7,ma 57 9,ma 58 1,ma 59 2,ca 60 zaS [.t 55,.t 56,.t 57,.t 58,.t 59]])
 .skip)))
 (rg [ma 61 6,oo 62 (.bin .mul) [.t 61,ki 2],ma 6 62]))))))))))))⟩
def znb : AFun:=⟨42,[(4,none)],
 (sr [oo 2 (.box 3) [.t 0],oo 3 (.box 3) [.t 1],oo 4 .mv [.c (.bool false)]]
 (sr [fa 5 0 3,la 6 5,fa 7 0 2,la 8 7,oo 9 (.bin .sub) [.t 8,ki 1],ca 10 zaF [.t 6,ki 0,.t 9],ma 11 10,fg 12 1 3 11,lg 13 12 11,fg 14 0 2 11,lg 15 14 11,og 16 (.bin .sub) [.t 15,ki 1] 11,og 17 .call [.f zaF,.t 13,ki 0,.t 16] 11,oo 18 .pick [.t 11,.t 17,.c (.bool false)],ma 19 18,fg 20 0 3 19,lg 21 20 19,fg 22 1 3 19,lg 23 22 19,og 24 (.bin .neq) [.t 21,.t 23] 19,oo 25 .pick [.t 19,.t 24,.c (.bool false)],ma 26 25,fg 27 2 2 26,lg 28 27 26,fg 29 0 3 26,lg 30 29 26,og 31 .call [.f zam,.t 28,.t 30] 26,og 32 (.un .not) [.t 31] 26,oo 33 .pick [.t 26,.t 32,.c (.bool false)],ma 34 33,fg 35 2 2 34,lg 36 35 34,fg 37 1 3 34,lg 38 37 34,og 39 .call [.f zam,.t 36,.t 38] 34,og 40 (.un .not) [.t 39] 34,oo 41 .pick [.t 34,.t 40,.c (.bool false)],ma 4 41]
 .ret))⟩
def zjb : AFun:=⟨17,[(4,none)],
 (sr [oo 2 (.box 3) [.t 0],oo 3 (.box 3) [.t 1],oo 4 .mv [ki 0]]
 (.seq (.reg true [fa 5 0 2,la 6 5,fa 7 0 3,la 8 7,ca 9 zby [.t 6,.t 8],fa 10 1 2,la 11 10,fa 12 1 3,la 13 12,ca 14 zby [.t 11,.t 13],oo 15 (.bsl 1 2 [v0] [0,1]) [.t 9,.t 14],ca 16 zeT [.t 15],ma 4 16] [[],[0],[],[2],[1,3],[],[5],[],[7],[6,8,4],[4,9],[10,9],[11,11,0,1,2,3,4,5,6,7,8,9,10,11]])
 .ret))⟩
def zc5 : AFun:=⟨25,[(2,none)],
 (sr [oo 2 .mv [ki 0]]
 (.seq (.seq
 (rg [ma 3 0,oo 4 (.bin .geq) [.t 3,(.c (.int .u64 4294967296))]])
 (.cond (.t 4)
 (sr [ma 5 0,oo 6 (.bin .shr) [.t 5,(.c (.int .u64 32))],ma 0 6]
 (rg [oo 2 .mv [ki 32]]))
 .skip))
 (.seq (.seq
 (rg [ma 7 0,oo 8 (.bin .geq) [.t 7,(.c (.int .u64 65536))]])
 (.cond (.t 8)
 (sr [ma 9 0,oo 10 (.bin .shr) [.t 9,(.c (.int .u64 16))],ma 0 10]
 (rg [ma 11 2,oo 12 (.bin .add) [.t 11,ki 16],ma 2 12]))
 .skip))
 (.seq (.seq
 (rg [ma 13 0,oo 14 (.bin .geq) [.t 13,(.c (.int .u64 256))]])
 (.cond (.t 14)
 (sr [ma 15 0,oo 16 (.bin .shr) [.t 15,(.c (.int .u64 8))],ma 0 16]
 (rg [ma 17 2,oo 18 (.bin .add) [.t 17,ki 8],ma 2 18]))
 .skip))
 (sr [ma 19 2,ma 20 0,oo 21 (.cvt .u8) [.t 20],oo 22 .ixs [(.c (.string ⟨#[0,1,2,2,3,3,3,3,4,4,4,4,4,4,4,4,5,5,5,5,5,5,5,5,5,5,5,5,5,5,5,5,6,6,6,6,6,6,6,6,6,6,6,6,6,6,6,6,6,6,6,6,6,6,6,6,6,6,6,6,6,6,6,6,7,7,7,7,7,7,7,7,7,7,7,7,7,7,7,7,7,7,7,7,7,7,7,7,7,7,7,7,7,7,7,7,7,7,7,7,7,7,7,7,7,7,7,7,7,7,7,7,7,7,7,7,7,7,7,7,7,7,7,7,7,7,7,7,8,8,8,8,8,8,8,8,8,8,8,8,8,8,8,8,8,8,8,8,8,8,8,8,8,8,8,8,8,8,8,8,8,8,8,8,8,8,8,8,8,8,8,8,8,8,8,8,8,8,8,8,8,8,8,8,8,8,8,8,8,8,8,8,8,8,8,8,8,8,8,8,8,8,8,8,8,8,8,8,8,8,8,8,8,8,8,8,8,8,8,8,8,8,8,8,8,8,8,8,8,8,8,8,8,8,8,8,8,8,8,8,8,8,8,8,8,8,8,8,8,8,8,8,8,8,8,8]⟩)),.t 21],oo 23 (.cvt .i64) [.t 22],oo 24 (.bin .add) [.t 19,.t 23],ma 2 24]
 .ret)))))⟩
def zfm : AFun:=⟨17,[(4,none),(5,none)],
 (sr [oo 4 .mv [(.c (.int .u32 0))],oo 5 .mv [(.c (.int .u32 0))]]
 (sr [ma 7 0,oo 8 (.cvt .u64) [.t 7],ma 9 1,oo 10 (.cvt .u64) [.t 9],oo 11 (.bin .mul) [.t 8,.t 10],ma 6 11]
 (sr [ma 12 6,oo 13 (.bin .shr) [.t 12,(.c (.int .u64 32))],oo 14 (.cvt .u32) [.t 13],ma 15 6,oo 16 (.cvt .u32) [.t 15],ma 4 14,ma 5 16]
 .ret)))⟩
def zdV : AFun:=⟨51,[(4,none),(5,none)],
 (sr [oo 4 .mv [(.c (.int .u64 0))],oo 5 .mv [(.c (.int .u64 0))]]
 (sr [ma 14 0,oo 15 (.bin .and) [.t 14,(.c (.int .u64 4294967295))],ma 6 15]
 (sr [ma 16 0,oo 17 (.bin .shr) [.t 16,(.c (.int .u64 32))],ma 7 17]
 (sr [ma 18 1,oo 19 (.bin .and) [.t 18,(.c (.int .u64 4294967295))],ma 8 19]
 (sr [ma 20 1,oo 21 (.bin .shr) [.t 20,(.c (.int .u64 32))],ma 9 21]
 (sr [ma 22 6,ma 23 8,oo 24 (.bin .mul) [.t 22,.t 23],ma 10 24]
 (sr [ma 25 7,ma 26 8,oo 27 (.bin .mul) [.t 25,.t 26],ma 28 10,oo 29 (.bin .shr) [.t 28,(.c (.int .u64 32))],oo 30 (.bin .add) [.t 27,.t 29],ma 11 30]
 (sr [ma 31 11,oo 32 (.bin .and) [.t 31,(.c (.int .u64 4294967295))],ma 12 32]
 (sr [ma 33 11,oo 34 (.bin .shr) [.t 33,(.c (.int .u64 32))],ma 13 34]
 (sr [ma 35 12,ma 36 6,ma 37 9,oo 38 (.bin .mul) [.t 36,.t 37],oo 39 (.bin .add) [.t 35,.t 38],ma 12 39]
 (sr [ma 40 7,ma 41 9,oo 42 (.bin .mul) [.t 40,.t 41],ma 43 13,oo 44 (.bin .add) [.t 42,.t 43],ma 45 12,oo 46 (.bin .shr) [.t 45,(.c (.int .u64 32))],oo 47 (.bin .add) [.t 44,.t 46],ma 4 47]
 (sr [ma 48 0,ma 49 1,oo 50 (.bin .mul) [.t 48,.t 49],ma 5 50]
 .ret))))))))))))⟩
def zbE : AFun:=⟨134,[],
 (sr [oo 8 .mv [.c (.bool true)]]
 (sr [oo 9 .mv [.c (.bool true)]]
 (.block 0 (.loop
 (.block 1 (sr [ma 19 2,ma 20 1,oo 21 (.bin .sub) [.t 19,.t 20],ma 10 21]
 (.seq (.seq
 (rg [ma 22 10,oo 23 (.bin .leq) [.t 22,ki 12]])
 (.cond (.t 23)
 (sr [ma 24 0,ma 25 1,ma 26 2,ca 27 zaZ [.t 24,.t 25,.t 26]]
 .ret)
 .skip))
 (.seq (.seq
 (rg [ma 28 3,oo 29 (.bin .eql) [.t 28,ki 0]])
 (.cond (.t 29)
 (sr [ma 30 0,ma 31 1,ma 32 2,ca 33 zf7 [.t 30,.t 31,.t 32]]
 .ret)
 .skip))
 (.seq (.seq
 (rg [ma 34 8,oo 35 (.un .not) [.t 34]])
 (.cond (.t 35)
 (sr [ma 36 0,ma 37 1,ma 38 2,ca 39 zeG [.t 36,.t 37,.t 38]]
 (rg [ma 40 3,oo 41 (.bin .sub) [.t 40,ki 1],ma 3 41]))
 .skip))
 (sr [ma 43 0,ma 44 1,ma 45 2,ca 46 zfe [.t 43,.t 44,.t 45],ma 42 46,oo 47 (.ext 0) [.t 42],oo 48 (.ext 1) [.t 42],ma 11 47,ma 12 48]
 (.seq (.seq
 (rg [ma 49 12,oo 50 (.bin .eql) [.t 49,ki 2]])
 (.cond (.t 50)
 (sr [ma 51 0,ma 52 1,ma 53 2,ca 54 zeN [.t 51,.t 52,.t 53]]
 (sr [ma 55 2,oo 56 (.bin .sub) [.t 55,ki 1],ma 57 11,ma 58 1,oo 59 (.bin .sub) [.t 57,.t 58],oo 60 (.bin .sub) [.t 56,.t 59],ma 11 60]
 (rg [oo 12 .mv [ki 1]])))
 .skip))
 (.seq (.seq
 (rg [ma 61 8,ma 62 61,mg 63 9 62,oo 64 .pick [.t 62,.t 63,.c (.bool false)],ma 65 64,mg 66 12 65,og 67 (.bin .eql) [.t 66,ki 1] 65,oo 68 .pick [.t 65,.t 67,.c (.bool false)]])
 (.cond (.t 68)
 (sr [ma 69 0,ma 70 1,ma 71 2,ca 72 zdn [.t 69,.t 70,.t 71]]
 (.cond (.t 72)
 .ret
 .skip))
 .skip))
 (.seq (.seq
 (.reg true [ma 73 1,oo 74 (.bin .gtr) [.t 73,ki 0],ma 75 74,mg 76 0 75,mg 77 1 75,og 78 (.bin .sub) [.t 77,ki 1] 75,og 79 (.iad 1) [.t 76,.t 78] 75,lg 80 79 75,mg 81 0 75,mg 82 11 75,og 83 (.iad 1) [.t 81,.t 82] 75,lg 84 83 75,og 85 .call [.f zkr,.t 80,.t 84] 75,og 86 (.un .not) [.t 85] 75,oo 87 .pick [.t 75,.t 86,.c (.bool false)]] [[],[0],[1],[2],[2],[4,2],[3,5,2],[6,2],[2],[2],[8,9,2],[10,2],[7,11,2,2],[12,2],[2,13]])
 (.cond (.t 87)
 (sr [ma 88 0,ma 89 1,ma 90 2,ma 91 11,ca 92 zeq [.t 88,.t 89,.t 90,.t 91],ma 13 92]
 (sr [ma 93 13,ma 1 93]
 (.exit 1)))
 .skip))
 (sr [ma 95 0,ma 96 1,ma 97 2,ma 98 11,ca 99 zfC [.t 95,.t 96,.t 97,.t 98],ma 94 99,oo 100 (.ext 0) [.t 94],oo 101 (.ext 1) [.t 94],ma 14 100,ma 15 101]
 (sr [ma 102 15,ma 9 102]
 (sr [ma 103 14,ma 104 1,oo 105 (.bin .sub) [.t 103,.t 104],ma 106 2,ma 107 14,oo 108 (.bin .sub) [.t 106,.t 107],ma 16 105,ma 17 108]
 (sr [ma 109 10,oo 110 (.bin .quo) [.t 109,ki 8],ma 18 110]
 (sr [ma 111 16,ma 112 17,oo 113 (.bin .lss) [.t 111,.t 112]]
 (.cond (.t 113)
 (sr [ma 114 16,ma 115 18,oo 116 (.bin .geq) [.t 114,.t 115],ma 8 116]
 (sr [ma 117 0,ma 118 1,ma 119 14,ma 120 3,ca 121 zaU [.t 117,.t 118,.t 119,.t 120]]
 (rg [ma 122 14,oo 123 (.bin .add) [.t 122,ki 1],ma 1 123])))
 (sr [ma 124 17,ma 125 18,oo 126 (.bin .geq) [.t 124,.t 125],ma 8 126]
 (sr [ma 127 0,ma 128 14,oo 129 (.bin .add) [.t 128,ki 1],ma 130 2,ma 131 3,ca 132 zaU [.t 127,.t 129,.t 130,.t 131]]
 (rg [ma 133 14,ma 2 133]))))))))))))))))))))))⟩
def zbC : AFun:=⟨53,[],
 (sr [ma 10 1,oo 11 (.bin .add) [.t 10,ki 1],ma 8 11]
 (.block 0 (.loop
 (.seq (.seq
 (rg [ma 12 8,ma 13 2,oo 14 (.bin .lss) [.t 12,.t 13]])
 (.cond (.t 14)
 .skip
 (.exit 0)))
 (.seq (.block 1 (sr [ma 17 8,ma 9 17]
 (.block 2 (.loop
 (.seq (.seq
 (.reg true [ma 18 9,ma 19 1,oo 20 (.bin .gtr) [.t 18,.t 19],ma 21 20,mg 22 3 21,mg 23 0 21,mg 24 9 21,og 25 (.iad 1) [.t 23,.t 24] 21,lg 26 25 21,mg 27 0 21,mg 28 9 21,og 29 (.bin .sub) [.t 28,ki 1] 21,og 30 (.iad 1) [.t 27,.t 29] 21,lg 31 30 21,og 32 .call [.t 22,.t 26,.t 31] 21,og 33 (.bin .lss) [.t 32,ki 0] 21,oo 34 .pick [.t 21,.t 33,.c (.bool false)]] [[],[],[0,1],[2],[3],[3],[3],[5,6,3],[7,3],[3],[3],[10,3],[9,11,3],[12,3],[4,8,13,3,3],[14,3],[3,15]])
 (.cond (.t 34)
 .skip
 (.exit 2)))
 (.seq (.block 3 (.reg true [ma 37 0,ma 38 9,ma 39 0,ma 40 9,oo 41 (.bin .sub) [.t 40,ki 1],ma 42 0,ma 43 9,oo 44 (.bin .sub) [.t 43,ki 1],oo 45 (.iad 1) [.t 42,.t 44],la 46 45,ma 47 0,ma 48 9,oo 49 (.iad 1) [.t 47,.t 48],la 50 49,oo 51 (.iad 1) [.t 37,.t 38],ou (.st 1) [.t 51,.t 46],oo 52 (.iad 1) [.t 39,.t 41],ou (.st 1) [.t 52,.t 50]] [[],[],[],[],[3],[],[],[6],[5,7],[8],[],[],[10,11],[12],[0,1,0,1,5,6,7,8,9,13],[14,9,0,1,5,6,7,8,9,13],[2,4,0,1,2,3,4,5,6,7,8,9,10,11,12,13,14,15],[16,13,15,0,1,2,3,4,5,6,7,8,9,10,11,12,13,14,15]]))
 (rg [ma 35 9,oo 36 (.bin .sub) [.t 35,ki 1],ma 9 36])))))))
 (rg [ma 15 8,oo 16 (.bin .add) [.t 15,ki 1],ma 8 16]))))))⟩
def zck : AFun:=⟨220,[],
 (.seq (.seq
 (rg [ma 25 2,ma 26 1,oo 27 (.bin .sub) [.t 25,.t 26],oo 28 (.bin .eql) [.t 27,ki 1]])
 (.cond (.t 28)
 (sr [ma 29 2,ma 10 29]
 (sr [ma 30 3,ma 11 30]
 (.seq (.block 0 (.loop
 (.seq (.seq
 (rg [ma 31 10,ma 32 11,oo 33 (.bin .lss) [.t 31,.t 32]])
 (.cond (.t 33)
 .skip
 (.exit 0)))
 (.block 1 (sr [ma 34 10,ma 35 11,oo 36 (.bin .add) [.t 34,.t 35],oo 37 (.cvt .u64) [.t 36],oo 38 (.bin .shr) [.t 37,(.c (.int .u64 1))],oo 39 (.cvt .i64) [.t 38],ma 12 39]
 (.seq (.reg true [ma 40 4,ma 41 0,ma 42 12,oo 43 (.iad 1) [.t 41,.t 42],la 44 43,ma 45 0,ma 46 1,oo 47 (.iad 1) [.t 45,.t 46],la 48 47,oo 49 .call [.t 40,.t 44,.t 48],oo 50 (.bin .lss) [.t 49,ki 0]] [[],[],[],[1,2],[3],[],[],[5,6],[7],[0,4,8],[9]])
 (.cond (.t 50)
 (rg [ma 51 12,oo 52 (.bin .add) [.t 51,ki 1],ma 10 52])
 (rg [ma 53 12,ma 11 53]))))))))
 (.seq (.seq
 (rg [ma 54 1,ma 13 54])
 (.block 2 (.loop
 (.seq (.seq
 (rg [ma 55 13,ma 56 10,oo 57 (.bin .sub) [.t 56,ki 1],oo 58 (.bin .lss) [.t 55,.t 57]])
 (.cond (.t 58)
 .skip
 (.exit 2)))
 (.seq (.block 3 (.reg true [ma 61 0,ma 62 13,ma 63 0,ma 64 13,oo 65 (.bin .add) [.t 64,ki 1],ma 66 0,ma 67 13,oo 68 (.bin .add) [.t 67,ki 1],oo 69 (.iad 1) [.t 66,.t 68],la 70 69,ma 71 0,ma 72 13,oo 73 (.iad 1) [.t 71,.t 72],la 74 73,oo 75 (.iad 1) [.t 61,.t 62],ou (.st 1) [.t 75,.t 70],oo 76 (.iad 1) [.t 63,.t 65],ou (.st 1) [.t 76,.t 74]] [[],[],[],[],[3],[],[],[6],[5,7],[8],[],[],[10,11],[12],[0,1,0,1,5,6,7,8,9,13],[14,9,0,1,5,6,7,8,9,13],[2,4,0,1,2,3,4,5,6,7,8,9,10,11,12,13,14,15],[16,13,15,0,1,2,3,4,5,6,7,8,9,10,11,12,13,14,15]]))
 (rg [ma 59 13,oo 60 (.bin .add) [.t 59,ki 1],ma 13 60]))))))
 .ret))))
 .skip))
 (.seq (.seq
 (rg [ma 77 3,ma 78 2,oo 79 (.bin .sub) [.t 77,.t 78],oo 80 (.bin .eql) [.t 79,ki 1]])
 (.cond (.t 80)
 (sr [ma 81 1,ma 14 81]
 (sr [ma 82 2,ma 15 82]
 (.seq (.block 4 (.loop
 (.seq (.seq
 (rg [ma 83 14,ma 84 15,oo 85 (.bin .lss) [.t 83,.t 84]])
 (.cond (.t 85)
 .skip
 (.exit 4)))
 (.block 5 (sr [ma 86 14,ma 87 15,oo 88 (.bin .add) [.t 86,.t 87],oo 89 (.cvt .u64) [.t 88],oo 90 (.bin .shr) [.t 89,(.c (.int .u64 1))],oo 91 (.cvt .i64) [.t 90],ma 16 91]
 (.seq (.reg true [ma 92 4,ma 93 0,ma 94 2,oo 95 (.iad 1) [.t 93,.t 94],la 96 95,ma 97 0,ma 98 16,oo 99 (.iad 1) [.t 97,.t 98],la 100 99,oo 101 .call [.t 92,.t 96,.t 100],oo 102 (.bin .lss) [.t 101,ki 0],oo 103 (.un .not) [.t 102]] [[],[],[],[1,2],[3],[],[],[5,6],[7],[0,4,8],[9],[10]])
 (.cond (.t 103)
 (rg [ma 104 16,oo 105 (.bin .add) [.t 104,ki 1],ma 14 105])
 (rg [ma 106 16,ma 15 106]))))))))
 (.seq (.seq
 (rg [ma 107 2,ma 17 107])
 (.block 6 (.loop
 (.seq (.seq
 (rg [ma 108 17,ma 109 14,oo 110 (.bin .gtr) [.t 108,.t 109]])
 (.cond (.t 110)
 .skip
 (.exit 6)))
 (.seq (.block 7 (.reg true [ma 113 0,ma 114 17,ma 115 0,ma 116 17,oo 117 (.bin .sub) [.t 116,ki 1],ma 118 0,ma 119 17,oo 120 (.bin .sub) [.t 119,ki 1],oo 121 (.iad 1) [.t 118,.t 120],la 122 121,ma 123 0,ma 124 17,oo 125 (.iad 1) [.t 123,.t 124],la 126 125,oo 127 (.iad 1) [.t 113,.t 114],ou (.st 1) [.t 127,.t 122],oo 128 (.iad 1) [.t 115,.t 117],ou (.st 1) [.t 128,.t 126]] [[],[],[],[],[3],[],[],[6],[5,7],[8],[],[],[10,11],[12],[0,1,0,1,5,6,7,8,9,13],[14,9,0,1,5,6,7,8,9,13],[2,4,0,1,2,3,4,5,6,7,8,9,10,11,12,13,14,15],[16,13,15,0,1,2,3,4,5,6,7,8,9,10,11,12,13,14,15]]))
 (rg [ma 111 17,oo 112 (.bin .sub) [.t 111,ki 1],ma 17 112]))))))
 .ret))))
 .skip))
 (sr [ma 129 1,ma 130 3,oo 131 (.bin .add) [.t 129,.t 130],oo 132 (.cvt .u64) [.t 131],oo 133 (.bin .shr) [.t 132,(.c (.int .u64 1))],oo 134 (.cvt .i64) [.t 133],ma 18 134]
 (sr [ma 135 18,ma 136 2,oo 137 (.bin .add) [.t 135,.t 136],ma 19 137]
 (sr [oo 20 .mv [ki 0],oo 21 .mv [ki 0]]
 (.seq (.seq
 (rg [ma 138 2,ma 139 18,oo 140 (.bin .gtr) [.t 138,.t 139]])
 (.cond (.t 140)
 (sr [ma 141 19,ma 142 3,oo 143 (.bin .sub) [.t 141,.t 142],ma 20 143]
 (rg [ma 144 18,ma 21 144]))
 (sr [ma 145 1,ma 20 145]
 (rg [ma 146 2,ma 21 146]))))
 (sr [ma 147 19,oo 148 (.bin .sub) [.t 147,ki 1],ma 22 148]
 (.seq (.block 8 (.loop
 (.seq (.seq
 (rg [ma 149 20,ma 150 21,oo 151 (.bin .lss) [.t 149,.t 150]])
 (.cond (.t 151)
 .skip
 (.exit 8)))
 (.block 9 (sr [ma 152 20,ma 153 21,oo 154 (.bin .add) [.t 152,.t 153],oo 155 (.cvt .u64) [.t 154],oo 156 (.bin .shr) [.t 155,(.c (.int .u64 1))],oo 157 (.cvt .i64) [.t 156],ma 23 157]
 (.seq (.reg true [ma 158 4,ma 159 0,ma 160 22,ma 161 23,oo 162 (.bin .sub) [.t 160,.t 161],oo 163 (.iad 1) [.t 159,.t 162],la 164 163,ma 165 0,ma 166 23,oo 167 (.iad 1) [.t 165,.t 166],la 168 167,oo 169 .call [.t 158,.t 164,.t 168],oo 170 (.bin .lss) [.t 169,ki 0],oo 171 (.un .not) [.t 170]] [[],[],[],[],[2,3],[1,4],[5],[],[],[7,8],[9],[0,6,10],[11],[12]])
 (.cond (.t 171)
 (rg [ma 172 23,oo 173 (.bin .add) [.t 172,ki 1],ma 20 173])
 (rg [ma 174 23,ma 21 174]))))))))
 (sr [ma 175 19,ma 176 20,oo 177 (.bin .sub) [.t 175,.t 176],ma 24 177]
 (.seq (.seq
 (rg [ma 178 20,ma 179 2,oo 180 (.bin .lss) [.t 178,.t 179],ma 181 180,mg 182 2 181,mg 183 24 181,og 184 (.bin .lss) [.t 182,.t 183] 181,oo 185 .pick [.t 181,.t 184,.c (.bool false)]])
 (.cond (.t 185)
 (rg [ma 186 0,ma 187 20,ma 188 2,ma 189 24,ma 190 4,ca 191 zbP [.t 186,.t 187,.t 188,.t 189,.t 190]])
 .skip))
 (.seq (.seq
 (rg [ma 192 1,ma 193 20,oo 194 (.bin .lss) [.t 192,.t 193],ma 195 194,mg 196 20 195,mg 197 18 195,og 198 (.bin .lss) [.t 196,.t 197] 195,oo 199 .pick [.t 195,.t 198,.c (.bool false)]])
 (.cond (.t 199)
 (rg [ma 200 0,ma 201 1,ma 202 20,ma 203 18,ma 204 4,ca 205 zaS [.t 200,.t 201,.t 202,.t 203,.t 204]])
 .skip))
 (sr [ma 206 18,ma 207 24,oo 208 (.bin .lss) [.t 206,.t 207],ma 209 208,mg 210 24 209,mg 211 3 209,og 212 (.bin .lss) [.t 210,.t 211] 209,oo 213 .pick [.t 209,.t 212,.c (.bool false)]]
 (.cond (.t 213)
 (rg [ma 214 0,ma 215 18,ma 216 24,ma 217 3,ma 218 4,ca 219 zaS [.t 214,.t 215,.t 216,.t 217,.t 218]])
 .skip)))))))))))))⟩
def zed : AFun:=⟨61,[(2,none)],
 (sr [oo 2 .mv [kn]]
 (.seq (.seq
 (rg [ma 6 0,oo 7 .len [.t 6],oo 8 (.bin .lss) [.t 7,ki 2]])
 (.cond (.t 8)
 (sr [ma 9 0,ma 2 9]
 .ret)
 .skip))
 (.seq (.seq
 (rg [oo 3 .mv [ki 1]])
 (.block 0 (.loop
 (.seq (.seq
 (rg [ma 10 3,ma 11 0,oo 12 .len [.t 11],oo 13 (.bin .lss) [.t 10,.t 12]])
 (.cond (.t 13)
 .skip
 (.exit 0)))
 (.seq (.block 1 (.seq (.reg true [ma 16 0,ma 17 3,oo 18 (.iad 1) [.t 16,.t 17],la 19 18,ma 20 0,ma 21 3,oo 22 (.bin .sub) [.t 21,ki 1],oo 23 (.iad 1) [.t 20,.t 22],la 24 23,oo 25 (.bin .eql) [.t 19,.t 24]] [[],[],[0,1],[2],[],[],[5],[4,6],[7],[3,8]])
 (.cond (.t 25)
 (sr [ma 26 0,ma 27 3,oo 28 (.slc 1 true false false) [.t 26,.t 27],ma 4 28]
 (.seq (.seq
 (rg [oo 5 .mv [ki 1]])
 (.block 2 (.loop
 (.seq (.seq
 (rg [ma 29 5,ma 30 4,oo 31 .len [.t 30],oo 32 (.bin .lss) [.t 29,.t 31]])
 (.cond (.t 32)
 .skip
 (.exit 2)))
 (.seq (.block 3 (.seq (.reg true [ma 35 4,ma 36 5,oo 37 (.iad 1) [.t 35,.t 36],la 38 37,ma 39 4,ma 40 5,oo 41 (.bin .sub) [.t 40,ki 1],oo 42 (.iad 1) [.t 39,.t 41],la 43 42,oo 44 (.bin .neq) [.t 38,.t 43]] [[],[],[0,1],[2],[],[],[5],[4,6],[7],[3,8]])
 (.cond (.t 44)
 (sr [ma 45 0,ma 46 3,ma 47 4,ma 48 5,oo 49 (.iad 1) [.t 47,.t 48],la 50 49,oo 51 (.iad 1) [.t 45,.t 46],ou (.st 1) [.t 51,.t 50]]
 (rg [ma 52 3,oo 53 (.bin .add) [.t 52,ki 1],ma 3 53]))
 .skip)))
 (rg [ma 33 5,oo 34 (.bin .add) [.t 33,ki 1],ma 5 34]))))))
 (sr [ma 54 0,ma 55 3,oo 56 (.slc 1 true false false) [.t 54,.t 55],ou (.clr 1 [v0]) [.t 56]]
 (sr [ma 57 0,ma 58 3,oo 59 (.slc 1 false true false) [.t 57,.t 58],ma 2 59]
 .ret))))
 .skip)))
 (rg [ma 14 3,oo 15 (.bin .add) [.t 14,ki 1],ma 3 15]))))))
 (sr [ma 60 0,ma 2 60]
 .ret))))⟩
def zp4 : AFun:=⟨28,[(4,none)],
 (sr [oo 2 (.box 3) [.t 0],oo 4 .mv [kn]]
 (sr [oo 5 .mv [kn]]
 (.seq (.seq
 (rg [fa 8 1 2,la 9 8,oo 10 .len [.t 9],oo 11 .mv [ki 0]])
 (.block 0 (.loop
 (sr [oo 12 (.bin .lss) [.t 11,.t 10]]
 (.seq (.cond (.t 12)
 .skip
 (.exit 0))
 (.seq (.block 1 (sr [oo 13 (.iad 3) [.t 9,.t 11],oo 14 (.ld true 3) [.t 13],oo 7 (.alloc [v0,v0,v0]) [],ou (.st 3) [.t 7,.t 14]]
 (sr [fa 15 1 7,la 16 15,ma 17 1,oo 18 (.bin .eql) [.t 16,.t 17]]
 (.cond (.t 18)
 (rg [ma 19 5,fa 20 0 7,la 21 20,oo 22 (.bsl 1 1 [v0] [0]) [.t 21],oo 23 (.app 1 8) [.t 19,.t 22],ma 5 23])
 .skip))))
 (rg [oo 24 (.bin .add) [.t 11,ki 1],ma 11 24])))))))
 (sr [ma 25 5,ca 26 zaX [.t 25]]
 (sr [ma 27 5,ma 4 27]
 .ret)))))⟩
def zbb : AFun:=⟨49,[],
 (sr [ma 8 1,oo 9 (.bin .add) [.t 8,ki 1],ma 6 9]
 (.block 0 (.loop
 (.seq (.seq
 (rg [ma 10 6,ma 11 2,oo 12 (.bin .lss) [.t 10,.t 11]])
 (.cond (.t 12)
 .skip
 (.exit 0)))
 (.seq (.block 1 (sr [ma 15 6,ma 7 15]
 (.block 2 (.loop
 (.seq (.seq
 (.reg true [ma 16 7,ma 17 1,oo 18 (.bin .gtr) [.t 16,.t 17],ma 19 18,mg 20 0 19,mg 21 7 19,og 22 (.iad 1) [.t 20,.t 21] 19,lg 23 22 19,mg 24 0 19,mg 25 7 19,og 26 (.bin .sub) [.t 25,ki 1] 19,og 27 (.iad 1) [.t 24,.t 26] 19,lg 28 27 19,og 29 .call [.f zkr,.t 23,.t 28] 19,oo 30 .pick [.t 19,.t 29,.c (.bool false)]] [[],[],[0,1],[2],[3],[3],[4,5,3],[6,3],[3],[3],[9,3],[8,10,3],[11,3],[7,12,3,3],[3,13]])
 (.cond (.t 30)
 .skip
 (.exit 2)))
 (.seq (.block 3 (.reg true [ma 33 0,ma 34 7,ma 35 0,ma 36 7,oo 37 (.bin .sub) [.t 36,ki 1],ma 38 0,ma 39 7,oo 40 (.bin .sub) [.t 39,ki 1],oo 41 (.iad 1) [.t 38,.t 40],la 42 41,ma 43 0,ma 44 7,oo 45 (.iad 1) [.t 43,.t 44],la 46 45,oo 47 (.iad 1) [.t 33,.t 34],ou (.st 1) [.t 47,.t 42],oo 48 (.iad 1) [.t 35,.t 37],ou (.st 1) [.t 48,.t 46]] [[],[],[],[],[3],[],[],[6],[5,7],[8],[],[],[10,11],[12],[0,1,0,1,5,6,7,8,9,13],[14,9,0,1,5,6,7,8,9,13],[2,4,0,1,2,3,4,5,6,7,8,9,10,11,12,13,14,15],[16,13,15,0,1,2,3,4,5,6,7,8,9,10,11,12,13,14,15]]))
 (rg [ma 31 7,oo 32 (.bin .sub) [.t 31,ki 1],ma 7 32])))))))
 (rg [ma 13 6,oo 14 (.bin .add) [.t 13,ki 1],ma 6 14]))))))⟩
def zcJ : AFun:=⟨58,[],
 (sr [ma 12 2,ma 13 1,oo 14 (.bin .sub) [.t 12,.t 13],ma 10 14]
 (sr [ma 15 3,ma 16 2,oo 17 (.bin .sub) [.t 15,.t 16],ma 11 17]
 (.seq (.block 0 (.loop
 (.seq (.seq
 (rg [ma 18 10,ma 19 11,oo 20 (.bin .neq) [.t 18,.t 19]])
 (.cond (.t 20)
 .skip
 (.exit 0)))
 (.block 1 (sr [ma 21 10,ma 22 11,oo 23 (.bin .gtr) [.t 21,.t 22]]
 (.cond (.t 23)
 (sr [ma 24 0,ma 25 2,ma 26 10,oo 27 (.bin .sub) [.t 25,.t 26],ma 28 2,ma 29 11,ma 30 4,ca 31 zaY [.t 24,.t 27,.t 28,.t 29,.t 30]]
 (rg [ma 32 10,ma 33 11,oo 34 (.bin .sub) [.t 32,.t 33],ma 10 34]))
 (sr [ma 35 0,ma 36 2,ma 37 10,oo 38 (.bin .sub) [.t 36,.t 37],ma 39 2,ma 40 11,oo 41 (.bin .add) [.t 39,.t 40],ma 42 10,oo 43 (.bin .sub) [.t 41,.t 42],ma 44 10,ma 45 4,ca 46 zaY [.t 35,.t 38,.t 43,.t 44,.t 45]]
 (rg [ma 47 11,ma 48 10,oo 49 (.bin .sub) [.t 47,.t 48],ma 11 49]))))))))
 (rg [ma 50 0,ma 51 2,ma 52 10,oo 53 (.bin .sub) [.t 51,.t 52],ma 54 2,ma 55 10,ma 56 4,ca 57 zaY [.t 50,.t 53,.t 54,.t 55,.t 56]]))))⟩
def zcb : AFun:=⟨38,[],
 (sr [oo 10 .mv [ki 0]]
 (.block 0 (.loop
 (.seq (.seq
 (rg [ma 11 10,ma 12 3,oo 13 (.bin .lss) [.t 11,.t 12]])
 (.cond (.t 13)
 .skip
 (.exit 0)))
 (.seq (.block 1 (.reg true [ma 16 0,ma 17 1,ma 18 10,oo 19 (.bin .add) [.t 17,.t 18],ma 20 0,ma 21 2,ma 22 10,oo 23 (.bin .add) [.t 21,.t 22],ma 24 0,ma 25 2,ma 26 10,oo 27 (.bin .add) [.t 25,.t 26],oo 28 (.iad 1) [.t 24,.t 27],la 29 28,ma 30 0,ma 31 1,ma 32 10,oo 33 (.bin .add) [.t 31,.t 32],oo 34 (.iad 1) [.t 30,.t 33],la 35 34,oo 36 (.iad 1) [.t 16,.t 19],ou (.st 1) [.t 36,.t 29],oo 37 (.iad 1) [.t 20,.t 23],ou (.st 1) [.t 37,.t 35]] [[],[],[],[1,2],[],[],[],[5,6],[],[],[],[9,10],[8,11],[12],[],[],[],[15,16],[14,17],[18],[0,3,0,1,2,3,8,9,10,11,12,13,19],[20,13,0,1,2,3,8,9,10,11,12,13,19],[4,7,0,1,2,3,4,5,6,7,8,9,10,11,12,13,14,15,16,17,18,19,20,21],[22,19,21,0,1,2,3,4,5,6,7,8,9,10,11,12,13,14,15,16,17,18,19,20,21]]))
 (rg [ma 14 10,oo 15 (.bin .add) [.t 14,ki 1],ma 10 15]))))))⟩
end Go.Proofs.YtkngdgplbojdlaaGreat
