/- Texts of this claim,merged. -/
import Derived.Test.YtfdbhehkkobfgaaGreatRu5
import Derived.Test.YtfdbhehkkobfgaaGreatProg
import Derived.KernelRfl
import Derived.Test.YtfdbhehkkobfgaaGreatRows
set_option linter.unusedSimpArgs false
set_option linter.unusedVariables false
set_option linter.unusedSectionVars false
namespace Go.Proofs.YtfdbhehkkobfgaaGreat
open Go
set_option maxRecDepth 100000
def zlS : AFun:=⟨6,[(2,none)],
 (sr [oo 2 .mv [.c (.bool false)]]
 (sr [ma 3 0,oo 4 .len [.t 3],oo 5 (.bin .leq) [.t 4,ki 400],ma 2 5]
 .ret))⟩
def znE : AFun:=⟨6,[(2,none)],
 (sr [oo 2 .mv [(.c (.pointer none))]]
 (sr [ma 3 0,oo 4 (.build [vn,v0] [(0,1)]) [.t 3],oo 5 (.box 2) [.t 4],ma 2 5]
 .ret))⟩
def zgV : AFun:=⟨53,[(2,some (true,3))],
 (sr [oo 2 (.alloc [v0,vn,vn]) []]
 (sr [ma 7 0,ca 8 zau [.t 7,ki 8],oo 9 (.bin .add) [ki 2,.t 8],oo 10 (.build [v0,vn,vn] [(0,1)]) [.t 9],oo 3 (.alloc [v0,vn,vn]) [],ou (.st 3) [.t 3,.t 10]]
 (.seq (.seq
 (rg [ma 11 0,oo 12 .nil [.t 11],fa 13 0 12,la 14 13,oo 15 .len [.t 14],oo 16 (.bin .eql) [.t 15,ki 0]])
 (.cond (.t 16)
 (rg [fa 17 0 3,ou (.st 1) [.t 17,ki 4]])
 .skip))
 (.seq (.seq
 (rg [ma 18 0,ca 19 zbX [.t 18,ki 8]])
 (.cond (.t 19)
 (rg [ma 20 0,fa 21 0 3,la 22 21,ca 23 zau [.t 20,.t 22],oo 24 (.bsl 1 1 [v0] [0]) [.t 23],fa 25 2 3,ou (.st 1) [.t 25,.t 24]])
 .skip))
 (.seq (.seq
 (rg [ma 26 0,ca 27 zau [.t 26,ki 23],ma 4 27])
 (.block 0 (.loop
 (.seq (.seq
 (rg [ma 28 4,oo 29 (.bin .gtr) [.t 28,ki 0]])
 (.cond (.t 29)
 .skip
 (.exit 0)))
 (.seq (.block 1 (.seq (.reg true [oo 33 (.ld true 3) [.t 3],ma 34 0,fa 35 0 3,la 36 35,ca 37 zau [.t 34,.t 36],ma 38 0,fa 39 0 3,la 40 39,ca 41 zau [.t 38,.t 40],ma 42 0,ca 43 zau [.t 42,ki 3],oo 44 (.bin .add) [ki 1,.t 43],oo 45 (.build [v0,v0,v0] [(0,1),(1,1),(2,1)]) [.t 37,.t 41,.t 44],ca 46 zdU [.t 33,.t 45],ma 32 46,oo 47 (.ext 0) [.t 32],oo 48 (.ext 1) [.t 32],oo 5 (.alloc [v0,vn,vn]) [],ou (.st 3) [.t 5,.t 47],ma 6 48] [[],[],[],[2],[1,3],[],[],[6],[5,7,4],[],[9,8],[10],[4,8,11],[0,12,10],[13],[14],[14],[],[17,15,13,0,1,2,3,4,5,6,7,8,9,10,11,12,13,14,15,17],[16,18,0,1,2,3,4,5,6,7,8,9,10,11,12,13,14,15,16,17,18]])
 (sr [ma 49 6,oo 50 (.bin .eql) [.t 49,ki 0]]
 (.cond (.t 50)
 (rg [oo 51 (.ld true 3) [.t 5],ou (.st 3) [.t 3,.t 51]])
 .skip))))
 (rg [ma 30 4,oo 31 (.bin .sub) [.t 30,ki 1],ma 4 31]))))))
 (sr [oo 52 (.ld true 3) [.t 3],ou (.st 3) [.t 2,.t 52]]
 .ret))))))⟩
def zhz : AFun:=⟨35,[(4,none)],
 (sr [oo 4 .mv [ki 0]]
 (.seq (.seq
 (.reg true [ma 5 0,oo 6 .nil [.t 5],fa 7 1 6,la 8 7,ma 9 0,oo 10 .nil [.t 9],fa 11 0 10,la 12 11,oo 13 .len [.t 12],oo 14 (.bin .geq) [.t 8,.t 13]] [[],[0],[1],[2],[],[4],[5],[6],[7],[3,8]])
 (.cond (.t 14)
 (sr [oo 4 .mv [ki 0]]
 .ret)
 .skip))
 (sr [ma 15 0,oo 16 .nil [.t 15],fa 17 1 16,la 18 17,oo 19 (.bin .add) [.t 18,ki 1],oo 20 .nil [.t 15],fa 21 1 20,ou (.st 1) [.t 21,.t 19]]
 (.seq (.reg true [ma 22 0,oo 23 .nil [.t 22],fa 24 0 23,la 25 24,ma 26 0,oo 27 .nil [.t 26],fa 28 1 27,la 29 28,oo 30 (.bin .sub) [.t 29,ki 1],oo 31 (.iad 1) [.t 25,.t 30],la 32 31,ma 33 1,ca 34 zeP [.t 32,.t 33],ma 4 34] [[],[0],[1],[2],[],[4],[5],[6],[7],[3,8],[9],[],[10,11],[12,12,0,1,2,3,4,5,6,7,8,9,10,11,12]])
 .ret))))⟩
def zoj : AFun:=⟨16,[(4,none)],
 (sr [oo 4 .mv [ki 0]]
 (.seq (.seq
 (rg [ma 5 1,oo 6 (.bin .lss) [.t 5,ki 1]])
 (.cond (.t 6)
 (sr [oo 4 .mv [ki 0]]
 .ret)
 .skip))
 (sr [ma 7 0,ma 8 1,oo 9 (.bin .rem) [.t 7,.t 8],ma 0 9]
 (.seq (.seq
 (rg [ma 10 0,oo 11 (.bin .lss) [.t 10,ki 0]])
 (.cond (.t 11)
 (rg [ma 12 0,ma 13 1,oo 14 (.bin .add) [.t 12,.t 13],ma 0 14])
 .skip))
 (sr [ma 15 0,ma 4 15]
 .ret)))))⟩
def zlU : AFun:=⟨103,[(4,some (true,3)),(5,none)],
 (sr [oo 2 (.box 3) [.t 0],oo 3 (.box 3) [.t 1],oo 4 (.alloc [v0,vn,vn]) [],oo 5 .mv [ki 0]]
 (.seq (.seq
 (rg [oo 9 (.ld true 3) [.t 2],ca 10 zdm [.t 9],oo 11 (.bin .neq) [.t 10,ki 0]])
 (.cond (.t 11)
 (sr [oo 12 (.build [v0,vn,vn] []) [],ou (.st 3) [.t 4,.t 12],oo 5 .mv [ki 14]]
 .ret)
 .skip))
 (sr [oo 14 (.ld true 3) [.t 2],fa 15 0 3,la 16 15,fa 17 1 3,la 18 17,ca 19 zeE [.t 14,.t 16,.t 18],ma 13 19,oo 20 (.ext 0) [.t 13],oo 21 (.ext 1) [.t 13],ma 6 20,ma 7 21]
 (.seq (.block 0 (sr [fa 23 0 3,la 24 23,oo 25 (.bin .lss) [.t 24,ki 0],ma 26 25,fh 27 0 3 26,lh 28 27 26,fh 29 0 2 26,lh 30 29 26,oh 31 (.bin .geq) [.t 28,.t 30] 26,oo 32 .pick [.t 26,.c (.bool true),.t 31],ma 33 32,fh 34 1 3 33,lh 35 34 33,oh 36 (.bin .lss) [.t 35,ki 0] 33,oo 37 .pick [.t 33,.c (.bool true),.t 36],ma 38 37,fh 39 1 3 38,lh 40 39 38,fh 41 0 2 38,lh 42 41 38,oh 43 (.bin .geq) [.t 40,.t 42] 38,oo 44 .pick [.t 38,.c (.bool true),.t 43],ma 45 44,fh 46 0 3 45,lh 47 46 45,fh 48 1 3 45,lh 49 48 45,oh 50 (.bin .eql) [.t 47,.t 49] 45,oo 51 .pick [.t 45,.c (.bool true),.t 50],ma 52 51,fh 53 2 2 52,lh 54 53 52,fh 55 0 3 52,lh 56 55 52,oh 57 .call [.f zaZ,.t 54,.t 56] 52,oo 58 .pick [.t 52,.c (.bool true),.t 57],ma 59 58,fh 60 2 2 59,lh 61 60 59,fh 62 1 3 59,lh 63 62 59,oh 64 .call [.f zaZ,.t 61,.t 63] 59,oo 65 .pick [.t 59,.c (.bool true),.t 64],ma 22 65]
 (.cond (.t 22)
 (sr [oo 66 (.build [v0,vn,vn] []) [],ou (.st 3) [.t 4,.t 66],oo 5 .mv [ki 4]]
 .ret)
 (sr [fa 68 2 3,la 69 68,oo 70 (.bin .lss) [.t 69,ki 1],ma 71 70,fh 72 2 3 71,lh 73 72 71,oh 74 (.bin .gtr) [.t 73,ki 3] 71,oo 75 .pick [.t 71,.c (.bool true),.t 74],ma 67 75]
 (.cond (.t 67)
 (sr [oo 76 (.build [v0,vn,vn] []) [],ou (.st 3) [.t 4,.t 76],oo 5 .mv [ki 2]]
 .ret)
 (sr [ma 78 7,ma 77 78]
 (.cond (.t 77)
 (sr [oo 79 (.build [v0,vn,vn] []) [],ou (.st 3) [.t 4,.t 79],oo 5 .mv [ki 19]]
 .ret)
 (sr [fa 81 1 2,la 82 81,oo 83 .len [.t 82],oo 84 (.bin .eql) [.t 83,ki 500],ma 80 84]
 (.cond (.t 80)
 (sr [oo 85 (.build [v0,vn,vn] []) [],ou (.st 3) [.t 4,.t 85],oo 5 .mv [ki 3]]
 .ret)
 .skip)))))))))
 (sr [oo 86 (.ld true 3) [.t 2],ca 87 zei [.t 86],oo 8 (.alloc [v0,vn,vn]) [],ou (.st 3) [.t 8,.t 87]]
 (.seq (.reg true [fa 88 1 2,la 89 88,ma 90 6,oo 91 (.slc 3 false true false) [.t 89,.t 90],oo 92 (.app 3 24) [kn,.t 91],oo 93 (.ld true 3) [.t 3],oo 94 (.bsl 3 1 [v0,v0,v0] [0]) [.t 93],oo 95 (.app 3 24) [.t 92,.t 94],fa 96 1 2,la 97 96,ma 98 6,oo 99 (.slc 3 true false false) [.t 97,.t 98],oo 100 (.app 3 24) [.t 95,.t 99],fa 101 1 8,ou (.st 1) [.t 101,.t 100]] [[],[0],[],[1,2],[3],[],[5],[4,6,4],[],[8],[],[9,10],[7,11,7],[0,1,2,3,4,5,6,7,8,9,10,11,12],[13,12,12,0,1,2,3,4,5,6,7,8,9,10,11,12]])
 (sr [oo 102 (.ld true 3) [.t 8],ou (.st 3) [.t 4,.t 102],oo 5 .mv [ki 0]]
 .ret)))))))⟩
def zjm : AFun:=⟨12,[(4,none)],
 (sr [oo 4 .mv [ki 0]]
 (sr [ma 5 1,ma 6 0,ma 7 1,oo 8 .len [.t 7],ca 9 zau [.t 6,.t 8],oo 10 (.iad 1) [.t 5,.t 9],la 11 10,ma 4 11]
 .ret))⟩
def zho : AFun:=⟨26,[(4,none)],
 (sr [oo 4 .mv [.c (.bool false)]]
 (.seq (.seq
 (rg [ma 6 0,oo 7 .len [.t 6],ma 8 1,oo 9 .len [.t 8],oo 10 (.bin .neq) [.t 7,.t 9]])
 (.cond (.t 10)
 (sr [oo 4 .mv [.c (.bool false)]]
 .ret)
 .skip))
 (.seq (.seq
 (rg [oo 5 .mv [ki 0]])
 (.block 0 (.loop
 (.seq (.seq
 (rg [ma 11 5,ma 12 0,oo 13 .len [.t 12],oo 14 (.bin .lss) [.t 11,.t 13]])
 (.cond (.t 14)
 .skip
 (.exit 0)))
 (.seq (.block 1 (.seq (.reg true [ma 17 0,ma 18 5,oo 19 (.iad 1) [.t 17,.t 18],la 20 19,ma 21 1,ma 22 5,oo 23 (.iad 1) [.t 21,.t 22],la 24 23,oo 25 (.bin .neq) [.t 20,.t 24]] [[],[],[0,1],[2],[],[],[4,5],[6],[3,7]])
 (.cond (.t 25)
 (sr [oo 4 .mv [.c (.bool false)]]
 .ret)
 .skip)))
 (rg [ma 15 5,oo 16 (.bin .add) [.t 15,ki 1],ma 5 16]))))))
 (sr [oo 4 .mv [.c (.bool true)]]
 .ret))))⟩
def ziW : AFun:=⟨18,[(4,none)],
 (sr [oo 4 .mv [.c (.bool false)]]
 (.seq (.seq
 (rg [oo 5 .mv [ki 0]])
 (.block 0 (.loop
 (.seq (.seq
 (rg [ma 6 5,ma 7 0,oo 8 .len [.t 7],oo 9 (.bin .lss) [.t 6,.t 8]])
 (.cond (.t 9)
 .skip
 (.exit 0)))
 (.seq (.block 1 (sr [ma 12 0,ma 13 5,oo 14 (.iad 1) [.t 12,.t 13],la 15 14,ma 16 1,oo 17 (.bin .eql) [.t 15,.t 16]]
 (.cond (.t 17)
 (sr [oo 4 .mv [.c (.bool true)]]
 .ret)
 .skip)))
 (rg [ma 10 5,oo 11 (.bin .add) [.t 10,ki 1],ma 5 11]))))))
 (sr [oo 4 .mv [.c (.bool false)]]
 .ret)))⟩
def zkl : AFun:=⟨36,[(4,some (true,3))],
 (sr [oo 2 (.box 3) [.t 0],oo 4 (.alloc [v0,vn,vn]) []]
 (sr [oo 7 (.ld true 3) [.t 2],ca 8 zei [.t 7],oo 5 (.alloc [v0,vn,vn]) [],ou (.st 3) [.t 5,.t 8]]
 (sr [fa 9 1 5,ou (.st 1) [.t 9,kn]]
 (.seq (.seq
 (rg [oo 6 .mv [ki 0]])
 (.block 0 (.loop
 (.seq (.seq
 (rg [ma 10 6,fa 11 1 2,la 12 11,oo 13 .len [.t 12],oo 14 (.bin .lss) [.t 10,.t 13]])
 (.cond (.t 14)
 .skip
 (.exit 0)))
 (.seq (.block 1 (sr [fa 17 1 2,la 18 17,ma 19 6,oo 20 (.iad 3) [.t 18,.t 19],fa 21 2 20,la 22 21,ma 23 1,oo 24 (.bin .geq) [.t 22,.t 23]]
 (.cond (.t 24)
 (.reg true [fa 25 1 5,la 26 25,fa 27 1 2,la 28 27,ma 29 6,oo 30 (.iad 3) [.t 28,.t 29],oo 31 (.ld true 3) [.t 30],oo 32 (.bsl 3 1 [v0,v0,v0] [0]) [.t 31],oo 33 (.app 3 24) [.t 26,.t 32],fa 34 1 5,ou (.st 1) [.t 34,.t 33]] [[],[0],[],[2],[],[3,4],[5],[6],[1,7],[0,1,2,3,4,5,6,7,8],[9,8,8,0,1,2,3,4,5,6,7,8]])
 .skip)))
 (rg [ma 15 6,oo 16 (.bin .add) [.t 15,ki 1],ma 6 16]))))))
 (sr [oo 35 (.ld true 3) [.t 5],ou (.st 3) [.t 4,.t 35]]
 .ret)))))⟩
def znA : AFun:=⟨72,[(4,none)],
 (sr [oo 2 (.box 3) [.t 0],oo 4 .mv [kn]]
 (sr [oo 5 .mv [kn]]
 (.seq (.seq
 (rg [oo 6 .mv [ki 0]])
 (.block 0 (.loop
 (.seq (.seq
 (rg [ma 10 6,fa 11 0 2,la 12 11,oo 13 (.bin .lss) [.t 10,.t 12]])
 (.cond (.t 13)
 .skip
 (.exit 0)))
 (.seq (.block 1 (sr [ma 16 5,oo 17 (.bsl 1 1 [v0] [0]) [ki (-1)],oo 18 (.app 1 8) [.t 16,.t 17],ma 5 18]
 (sr [ma 19 1,ma 20 6,ca 21 zaZ [.t 19,.t 20],ma 22 21,fg 23 2 2 22,lg 24 23 22,mg 25 6 22,og 26 .call [.f zaZ,.t 24,.t 25] 22,og 27 (.un .not) [.t 26] 22,oo 28 .pick [.t 22,.t 27,.c (.bool false)]]
 (.cond (.t 28)
 (rg [ma 29 5,ma 30 6,oo 31 (.iad 1) [.t 29,.t 30],ou (.st 1) [.t 31,ki 0]])
 .skip))))
 (rg [ma 14 6,oo 15 (.bin .add) [.t 14,ki 1],ma 6 15]))))))
 (.seq (.seq
 (rg [oo 7 .mv [ki 0]])
 (.block 2 (.loop
 (.seq (.seq
 (rg [ma 32 7,fa 33 0 2,la 34 33,oo 35 (.bin .lss) [.t 32,.t 34]])
 (.cond (.t 35)
 .skip
 (.exit 2)))
 (.seq (.block 3 (sr [oo 8 .mv [ki 0]]
 (.block 4 (.loop
 (.seq (.seq
 (rg [ma 38 8,fa 39 1 2,la 40 39,oo 41 .len [.t 40],oo 42 (.bin .lss) [.t 38,.t 41]])
 (.cond (.t 42)
 .skip
 (.exit 4)))
 (.seq (.block 5 (sr [fa 45 1 2,la 46 45,ma 47 8,oo 48 (.iad 3) [.t 46,.t 47],oo 49 (.ld true 3) [.t 48],oo 9 (.alloc [v0,v0,v0]) [],ou (.st 3) [.t 9,.t 49]]
 (sr [ma 50 5,fa 51 0 9,la 52 51,oo 53 (.iad 1) [.t 50,.t 52],la 54 53,ma 55 7,oo 56 (.bin .eql) [.t 54,.t 55],ma 57 56,mg 58 5 57,fg 59 1 9 57,lg 60 59 57,og 61 (.iad 1) [.t 58,.t 60] 57,lg 62 61 57,og 63 (.bin .eql) [.t 62,ki (-1)] 57,oo 64 .pick [.t 57,.t 63,.c (.bool false)]]
 (.cond (.t 64)
 (rg [ma 65 5,fa 66 1 9,la 67 66,ma 68 7,oo 69 (.bin .add) [.t 68,ki 1],oo 70 (.iad 1) [.t 65,.t 67],ou (.st 1) [.t 70,.t 69]])
 .skip))))
 (rg [ma 43 8,oo 44 (.bin .add) [.t 43,ki 1],ma 8 44])))))))
 (rg [ma 36 7,oo 37 (.bin .add) [.t 36,ki 1],ma 7 37]))))))
 (sr [ma 71 5,ma 4 71]
 .ret)))))⟩
def ziv : AFun:=⟨11,[(4,none)],
 (sr [oo 4 .mv [.c (.bool false)]]
 (sr [ma 5 0,ma 6 1,ca 7 zau [.t 5,.t 6],ma 8 1,oo 9 (.bin .sub) [.t 8,ki 1],oo 10 (.bin .eql) [.t 7,.t 9],ma 4 10]
 .ret))⟩
def zob : AFun:=⟨45,[(4,none)],
 (sr [oo 4 .mv [kn]]
 (sr [oo 5 .mv [ki 0]]
 (.seq (.block 0 (.loop
 (.seq (.seq
 (rg [ma 6 5,ma 7 0,oo 8 .len [.t 7],oo 9 (.bin .lss) [.t 6,.t 8],ma 10 9,mg 11 0 10,mg 12 5 10,og 13 (.iad 1) [.t 11,.t 12] 10,lg 14 13 10,mg 15 1 10,og 16 (.bin .lss) [.t 14,.t 15] 10,oo 17 .pick [.t 10,.t 16,.c (.bool false)]])
 (.cond (.t 17)
 .skip
 (.exit 0)))
 (.block 1 (rg [ma 18 5,oo 19 (.bin .add) [.t 18,ki 1],ma 5 19])))))
 (.seq (.seq
 (rg [ma 20 5,ma 21 0,oo 22 .len [.t 21],oo 23 (.bin .lss) [.t 20,.t 22],ma 24 23,mg 25 0 24,mg 26 5 24,og 27 (.iad 1) [.t 25,.t 26] 24,lg 28 27 24,mg 29 1 24,og 30 (.bin .eql) [.t 28,.t 29] 24,oo 31 .pick [.t 24,.t 30,.c (.bool false)]])
 (.cond (.t 31)
 (sr [ma 32 0,oo 33 (.app 1 8) [kn,.t 32],ma 4 33]
 .ret)
 .skip))
 (.seq (.reg true [ma 34 0,ma 35 5,oo 36 (.slc 1 false true false) [.t 34,.t 35],oo 37 (.app 1 8) [kn,.t 36],ma 38 1,oo 39 (.bsl 1 1 [v0] [0]) [.t 38],oo 40 (.app 1 8) [.t 37,.t 39],ma 41 0,ma 42 5,oo 43 (.slc 1 true false false) [.t 41,.t 42],oo 44 (.app 1 8) [.t 40,.t 43],ma 4 44] [[],[],[0,1],[2],[],[4],[3,5,3],[],[],[7,8],[6,9,6],[10,10,0,1,2,3,4,5,6,7,8,9,10]])
 .ret)))))⟩
def zke : AFun:=⟨105,[(2,none)],
 (sr [oo 1 (.box 3) [.t 0],oo 2 .mv [ki 0]]
 (.seq (.seq
 (rg [fa 5 0 1,la 6 5,oo 7 (.bin .lss) [.t 6,ki 0],ma 8 7,fh 9 0 1 8,lh 10 9 8,oh 11 (.bin .gtr) [.t 10,ki 64] 8,oo 12 .pick [.t 8,.c (.bool true),.t 11],ma 13 12,fh 14 1 1 13,lh 15 14 13,oh 16 .len [.t 15] 13,oh 17 (.bin .gtr) [.t 16,ki 500] 13,oo 18 .pick [.t 13,.c (.bool true),.t 17],ma 19 18,fh 20 2 1 19,lh 21 20 19,fh 22 0 1 19,lh 23 22 19,oh 24 .call [.f zcX,.t 21,.t 23] 19,oh 25 (.un .not) [.t 24] 19,oo 26 .pick [.t 19,.c (.bool true),.t 25]])
 (.cond (.t 26)
 (sr [oo 2 .mv [ki 14]]
 .ret)
 .skip))
 (.seq (.seq
 (rg [oo 3 .mv [ki 0]])
 (.block 0 (.loop
 (.seq (.seq
 (rg [ma 27 3,fa 28 1 1,la 29 28,oo 30 .len [.t 29],oo 31 (.bin .lss) [.t 27,.t 30]])
 (.cond (.t 31)
 .skip
 (.exit 0)))
 (.seq (.block 1 (sr [fa 34 1 1,la 35 34,ma 36 3,oo 37 (.iad 3) [.t 35,.t 36],oo 38 (.ld true 3) [.t 37],oo 4 (.alloc [v0,v0,v0]) [],ou (.st 3) [.t 4,.t 38]]
 (.seq (.seq
 (rg [fa 39 0 4,la 40 39,oo 41 (.bin .lss) [.t 40,ki 0],ma 42 41,fh 43 0 4 42,lh 44 43 42,fh 45 0 1 42,lh 46 45 42,oh 47 (.bin .geq) [.t 44,.t 46] 42,oo 48 .pick [.t 42,.c (.bool true),.t 47],ma 49 48,fh 50 1 4 49,lh 51 50 49,oh 52 (.bin .lss) [.t 51,ki 0] 49,oo 53 .pick [.t 49,.c (.bool true),.t 52],ma 54 53,fh 55 1 4 54,lh 56 55 54,fh 57 0 1 54,lh 58 57 54,oh 59 (.bin .geq) [.t 56,.t 58] 54,oo 60 .pick [.t 54,.c (.bool true),.t 59],ma 61 60,fh 62 0 4 61,lh 63 62 61,fh 64 1 4 61,lh 65 64 61,oh 66 (.bin .eql) [.t 63,.t 65] 61,oo 67 .pick [.t 61,.c (.bool true),.t 66],ma 68 67,fh 69 2 4 68,lh 70 69 68,oh 71 (.bin .lss) [.t 70,ki 1] 68,oo 72 .pick [.t 68,.c (.bool true),.t 71],ma 73 72,fh 74 2 4 73,lh 75 74 73,oh 76 (.bin .gtr) [.t 75,ki 3] 73,oo 77 .pick [.t 73,.c (.bool true),.t 76]])
 (.cond (.t 77)
 (sr [oo 2 .mv [ki 14]]
 .ret)
 .skip))
 (.seq (.reg true [ma 78 3,oo 79 (.bin .gtr) [.t 78,ki 0],ma 80 79,fg 81 1 1 80,lg 82 81 80,mg 83 3 80,og 84 (.bin .sub) [.t 83,ki 1] 80,og 85 (.iad 3) [.t 82,.t 84] 80,og 86 (.ld true 3) [.t 85] 80,og 87 (.ld true 3) [.t 4] 80,og 88 .call [.f zbL,.t 86,.t 87] 80,og 89 (.un .not) [.t 88] 80,oo 90 .pick [.t 80,.t 89,.c (.bool false)],ma 91 90,fh 92 2 1 91,lh 93 92 91,fh 94 0 4 91,lh 95 94 91,oh 96 .call [.f zaZ,.t 93,.t 95] 91,oo 97 .pick [.t 91,.c (.bool true),.t 96],ma 98 97,fh 99 2 1 98,lh 100 99 98,fh 101 1 4 98,lh 102 101 98,oh 103 .call [.f zaZ,.t 100,.t 102] 98,oo 104 .pick [.t 98,.c (.bool true),.t 103]] [[],[0],[1],[2],[3,2],[2],[5,2],[4,6,2],[7,2],[2],[8,9,2,2],[10,2],[2,11],[12,10],[13],[14,13],[13],[16,13],[15,17,13,13],[13,18],[19,18],[20],[21,20],[20],[23,20],[22,24,20,20],[20,25]])
 (.cond (.t 104)
 (sr [oo 2 .mv [ki 14]]
 .ret)
 .skip)))))
 (rg [ma 32 3,oo 33 (.bin .add) [.t 32,ki 1],ma 3 33]))))))
 (sr [oo 2 .mv [ki 0]]
 .ret))))⟩
def zlp : AFun:=⟨53,[(6,none),(7,none)],
 (sr [oo 3 (.box 3) [.t 0],oo 6 .mv [ki 0],oo 7 .mv [.c (.bool false)]]
 (sr [oo 8 .mv [ki 0]]
 (.seq (.block 0 (.loop
 (.seq (.seq
 (rg [ma 9 8,fa 10 1 3,la 11 10,oo 12 .len [.t 11],oo 13 (.bin .lss) [.t 9,.t 12],ma 14 13,fg 15 1 3 14,lg 16 15 14,mg 17 8 14,og 18 (.iad 3) [.t 16,.t 17] 14,og 19 (.ld true 3) [.t 18] 14,mg 20 1 14,mg 21 2 14,og 22 (.build [v0,v0,v0] [(0,1),(1,1)]) [.t 20,.t 21] 14,og 23 .call [.f zbL,.t 19,.t 22] 14,oo 24 .pick [.t 14,.t 23,.c (.bool false)]])
 (.cond (.t 24)
 .skip
 (.exit 0)))
 (.block 1 (rg [ma 25 8,oo 26 (.bin .add) [.t 25,ki 1],ma 8 26])))))
 (.seq (.reg true [ma 27 8,ma 28 8,fa 29 1 3,la 30 29,oo 31 .len [.t 30],oo 32 (.bin .lss) [.t 28,.t 31],ma 33 32,fg 34 1 3 33,lg 35 34 33,mg 36 8 33,og 37 (.iad 3) [.t 35,.t 36] 33,fg 38 0 37 33,lg 39 38 33,mg 40 1 33,og 41 (.bin .eql) [.t 39,.t 40] 33,oo 42 .pick [.t 33,.t 41,.c (.bool false)],ma 43 42,fg 44 1 3 43,lg 45 44 43,mg 46 8 43,og 47 (.iad 3) [.t 45,.t 46] 43,fg 48 1 47 43,lg 49 48 43,mg 50 2 43,og 51 (.bin .eql) [.t 49,.t 50] 43,oo 52 .pick [.t 43,.t 51,.c (.bool false)],ma 6 27,ma 7 52] [[],[],[],[2],[3],[1,4],[5],[6],[7,6],[6],[8,9,6],[10,6],[11,6],[6],[12,13,6],[6,14],[15,6],[16],[17,16],[16],[18,19,16],[20,16],[21,16],[16],[22,23,16],[16,24],[0,16,0],[25,26,0,1,2,3,4,5,6,7,8,9,10,11,12,13,14,15,16,17,18,19,20,21,22,23,24,25,26]])
 .ret))))⟩
def zlO : AFun:=⟨12,[(2,some (true,3))],
 (sr [oo 1 (.box 3) [.t 0],oo 2 (.alloc [v0,vn,vn]) []]
 (.seq (.reg true [fa 3 0 1,la 4 3,fa 5 1 1,la 6 5,oo 7 (.app 3 24) [kn,.t 6],fa 8 2 1,la 9 8,oo 10 (.app 1 8) [kn,.t 9],oo 11 (.build [v0,vn,vn] [(0,1),(1,1),(2,1)]) [.t 4,.t 7,.t 10],ou (.st 3) [.t 2,.t 11]] [[],[0],[],[2],[3],[],[5],[6,4],[1,4,7],[8,7,0,1,2,3,4,5,6,7,8]])
 .ret))⟩
def zpB : AFun:=⟨15,[(6,none)],
 (sr [oo 6 .mv [.c (.bool false)]]
 (sr [ma 7 0,ma 8 1,oo 9 (.bin .geq) [.t 7,.t 8],ma 10 9,mg 11 0 10,mg 12 2 10,og 13 (.bin .leq) [.t 11,.t 12] 10,oo 14 .pick [.t 10,.t 13,.c (.bool false)],ma 6 14]
 .ret))⟩
def zlq : AFun:=⟨14,[(4,some (true,3))],
 (sr [oo 2 (.box 3) [.t 0],oo 3 (.box 1) [.t 1],oo 4 (.alloc [v0,vn,vn]) []]
 (sr [oo 6 (.ld true 3) [.t 2],ca 7 zd9 [.t 6],oo 5 (.alloc [v0,vn,vn]) [],ou (.st 3) [.t 5,.t 7]]
 (sr [fa 8 1 5,la 9 8,oo 10 (.mkf zcg) [.t 3],ca 11 zaH [.t 9,.t 10],fa 12 1 5,ou (.st 1) [.t 12,.t 11]]
 (sr [oo 13 (.ld true 3) [.t 5],ou (.st 3) [.t 4,.t 13]]
 .ret))))⟩
def zj1 : AFun:=⟨50,[(4,none)],
 (sr [oo 2 (.box 3) [.t 0],oo 3 (.box 1) [.t 1],oo 4 .mv [kn]]
 (sr [oo 11 (.bsl 1 1 [v0] [0]) [ki (-1)],fa 12 0 2,la 13 12,oo 14 .mx2 [ki 0,.t 13],ca 15 zbq [.t 11,.t 14],oo 5 (.alloc [vn]) [],ou (.st 1) [.t 5,.t 15]]
 (sr [fa 16 0 2,la 17 16,oo 18 (.mkf zb2) [.t 2,.t 3],ca 19 zcJ [.t 17,.t 18],ma 6 19]
 (.seq (.seq
 (rg [oo 7 .mv [ki 0]])
 (.block 0 (.loop
 (.seq (.seq
 (rg [ma 20 6,oo 21 .len [.t 20],oo 22 (.bin .gtr) [.t 21,ki 0]])
 (.cond (.t 22)
 .skip
 (.exit 0)))
 (.seq (.block 1 (sr [oo 8 .mv [kn]]
 (.seq (.seq
 (rg [ma 25 6,oo 26 .len [.t 25],oo 27 .mv [ki 0]])
 (.block 2 (.loop
 (sr [oo 28 (.bin .lss) [.t 27,.t 26]]
 (.seq (.cond (.t 28)
 .skip
 (.exit 2))
 (.seq (.block 3 (sr [oo 29 (.iad 1) [.t 25,.t 27],la 30 29,ma 10 30]
 (.seq (.seq
 (rg [la 31 5,ma 32 10,oo 33 (.iad 1) [.t 31,.t 32],la 34 33,oo 35 (.bin .geq) [.t 34,ki 0]])
 (.cond (.t 35)
 (.exit 3)
 .skip))
 (sr [la 36 5,ma 37 10,ma 38 7,oo 39 (.iad 1) [.t 36,.t 37],ou (.st 1) [.t 39,.t 38]]
 (rg [ma 40 8,oo 41 (.ld true 3) [.t 2],ma 42 10,ca 43 zgp [.t 41,.t 42],oo 44 (.app 1 8) [.t 40,.t 43],ma 8 44])))))
 (rg [oo 45 (.bin .add) [.t 27,ki 1],ma 27 45])))))))
 (rg [ma 46 8,oo 47 (.mkf zb1) [.t 5],ca 48 za3 [.t 46,.t 47],ma 6 48]))))
 (rg [ma 23 7,oo 24 (.bin .add) [.t 23,ki 1],ma 7 24]))))))
 (sr [la 49 5,ma 4 49]
 .ret)))))⟩
def zlb : AFun:=⟨20,[(4,none)],
 (sr [oo 4 .mv [kn]]
 (sr [oo 5 .mv [kn]]
 (.seq (.seq
 (rg [ma 7 0,oo 8 .mv [ki 0]])
 (.block 0 (.loop
 (sr [oo 9 (.bin .lss) [.t 8,.t 7]]
 (.seq (.cond (.t 9)
 .skip
 (.exit 0))
 (.seq (.block 1 (sr [ma 10 8,ma 6 10]
 (sr [ma 11 1,ma 12 6,oo 13 .call [.t 11,.t 12]]
 (.cond (.t 13)
 (rg [ma 14 5,ma 15 6,oo 16 (.bsl 1 1 [v0] [0]) [.t 15],oo 17 (.app 1 8) [.t 14,.t 16],ma 5 17])
 .skip))))
 (rg [oo 18 (.bin .add) [.t 8,ki 1],ma 8 18])))))))
 (sr [ma 19 5,ma 4 19]
 .ret))))⟩
def zhY : AFun:=⟨18,[(4,none)],
 (sr [oo 2 (.box 3) [.t 0],oo 4 .mv [kn]]
 (sr [oo 7 (.ld true 3) [.t 2],ma 8 1,ca 9 zd0 [.t 7,.t 8],oo 5 (.alloc [vn]) [],ou (.st 1) [.t 5,.t 9]]
 (sr [la 10 5,oo 11 .len [.t 10],oo 12 (.mkf zbe) [.t 5],ca 13 zcJ [.t 11,.t 12],ma 6 13]
 (sr [ma 14 6,oo 15 (.mkf zbD) [.t 5],ca 16 zaR [.t 14,.t 15]]
 (sr [ma 17 6,ma 4 17]
 .ret)))))⟩
def zdA : AFun:=⟨9,[(4,none)],
 (sr [oo 4 .mv [.c (.bool false)]]
 (sr [ma 5 0,ma 6 1,ca 7 zaJ [.t 5,.t 6],oo 8 (.bin .geq) [.t 7,ki 0],ma 4 8]
 .ret))⟩
def zlQ : AFun:=⟨18,[(2,none)],
 (sr [oo 2 .mv [ki 0]]
 (sr [oo 3 .mv [ki 0]]
 (.seq (.seq
 (rg [ma 6 0,oo 7 .len [.t 6],oo 8 .mv [ki 0]])
 (.block 0 (.loop
 (sr [oo 9 (.bin .lss) [.t 8,.t 7]]
 (.seq (.cond (.t 9)
 .skip
 (.exit 0))
 (.seq (.block 1 (sr [oo 10 (.iad 1) [.t 6,.t 8],la 11 10,ma 5 11]
 (sr [ma 12 5,ma 13 3,oo 14 (.bin .neq) [.t 12,.t 13]]
 (.cond (.t 14)
 (sr [ma 15 5,ma 2 15]
 .ret)
 .skip))))
 (rg [oo 16 (.bin .add) [.t 8,ki 1],ma 8 16])))))))
 (sr [ma 17 3,ma 2 17]
 .ret))))⟩
def zg5 : AFun:=⟨20,[(4,none)],
 (sr [oo 4 .mv [ki 0]]
 (sr [ma 7 0,ca 8 zcF [.t 7],ma 5 8]
 (sr [ma 9 1,ca 10 zcF [.t 9],ma 6 10]
 (.seq (.seq
 (rg [ma 11 5])
 (.cond (.t 11)
 (.seq (.seq
 (rg [ma 12 6])
 (.cond (.t 12)
 (sr [oo 4 .mv [ki 0]]
 .ret)
 .skip))
 (sr [oo 4 .mv [ki (-1)]]
 .ret))
 .skip))
 (.seq (.seq
 (rg [ma 13 6])
 (.cond (.t 13)
 (sr [oo 4 .mv [ki 1]]
 .ret)
 .skip))
 (.seq (.seq
 (rg [ma 14 0,ma 15 1,oo 16 (.bin .lss) [.t 14,.t 15]])
 (.cond (.t 16)
 (sr [oo 4 .mv [ki (-1)]]
 .ret)
 .skip))
 (.seq (.seq
 (rg [ma 17 0,ma 18 1,oo 19 (.bin .gtr) [.t 17,.t 18]])
 (.cond (.t 19)
 (sr [oo 4 .mv [ki 1]]
 .ret)
 .skip))
 (sr [oo 4 .mv [ki 0]]
 .ret))))))))⟩
def zer : AFun:=⟨19,[(4,none)],
 (sr [oo 4 .mv [ki 0]]
 (.seq (.seq
 (rg [ma 6 0,oo 7 .len [.t 6],oo 8 .mv [ki 0]])
 (.block 0 (.loop
 (sr [oo 9 (.bin .lss) [.t 8,.t 7]]
 (.seq (.cond (.t 9)
 .skip
 (.exit 0))
 (.seq (.block 1 (sr [ma 10 8,ma 5 10]
 (sr [ma 11 1,ma 12 0,ma 13 5,oo 14 (.iad 1) [.t 12,.t 13],la 15 14,oo 16 (.bin .eql) [.t 11,.t 15]]
 (.cond (.t 16)
 (sr [ma 17 5,ma 4 17]
 .ret)
 .skip))))
 (rg [oo 18 (.bin .add) [.t 8,ki 1],ma 8 18])))))))
 (sr [oo 4 .mv [ki (-1)]]
 .ret)))⟩
def zev : AFun:=⟨26,[(4,none)],
 (sr [oo 4 .mv [.c (.bool false)]]
 (.seq (.seq
 (rg [ma 6 0,oo 7 .len [.t 6],ma 8 1,oo 9 .len [.t 8],oo 10 (.bin .neq) [.t 7,.t 9]])
 (.cond (.t 10)
 (sr [oo 4 .mv [.c (.bool false)]]
 .ret)
 .skip))
 (.seq (.seq
 (rg [ma 11 0,oo 12 .len [.t 11],oo 13 .mv [ki 0]])
 (.block 0 (.loop
 (sr [oo 14 (.bin .lss) [.t 13,.t 12]]
 (.seq (.cond (.t 14)
 .skip
 (.exit 0))
 (.seq (.block 1 (sr [ma 15 13,ma 5 15]
 (.seq (.reg true [ma 16 0,ma 17 5,oo 18 (.iad 1) [.t 16,.t 17],la 19 18,ma 20 1,ma 21 5,oo 22 (.iad 1) [.t 20,.t 21],la 23 22,oo 24 (.bin .neq) [.t 19,.t 23]] [[],[],[0,1],[2],[],[],[4,5],[6],[3,7]])
 (.cond (.t 24)
 (sr [oo 4 .mv [.c (.bool false)]]
 .ret)
 .skip))))
 (rg [oo 25 (.bin .add) [.t 13,ki 1],ma 13 25])))))))
 (sr [oo 4 .mv [.c (.bool true)]]
 .ret))))⟩
def zn5 : AFun:=⟨41,[(4,none)],
 (sr [oo 4 .mv [.c (.bool false)]]
 (.seq (.seq
 (rg [oo 5 .mv [ki 0]])
 (.block 0 (.loop
 (.seq (.seq
 (rg [ma 6 5,ma 7 0,oo 8 .len [.t 7],oo 9 (.bin .lss) [.t 6,.t 8]])
 (.cond (.t 9)
 .skip
 (.exit 0)))
 (.seq (.block 1 (.seq (.reg true [ma 12 0,ma 13 5,oo 14 (.iad 1) [.t 12,.t 13],la 15 14,oo 16 (.bin .lss) [.t 15,ki 0],ma 17 16,mh 18 0 17,mh 19 5 17,oh 20 (.iad 1) [.t 18,.t 19] 17,lh 21 20 17,mh 22 1 17,oh 23 (.bin .geq) [.t 21,.t 22] 17,oo 24 .pick [.t 17,.c (.bool true),.t 23],ma 25 24,mh 26 5 25,oh 27 (.bin .gtr) [.t 26,ki 0] 25,mh 28 27 25,mg 29 0 28,mg 30 5 28,og 31 (.iad 1) [.t 29,.t 30] 28,lg 32 31 28,mg 33 0 28,mg 34 5 28,og 35 (.bin .sub) [.t 34,ki 1] 28,og 36 (.iad 1) [.t 33,.t 35] 28,lg 37 36 28,og 38 (.bin .leq) [.t 32,.t 37] 28,oh 39 .pick [.t 28,.t 38,.c (.bool false)] 25,oo 40 .pick [.t 25,.c (.bool true),.t 39]] [[],[],[0,1],[2],[3],[4],[5],[5],[6,7,5],[8,5],[5],[9,10,5],[5,11],[12,5],[13],[14,13],[15,13,13],[16],[16],[17,18,16],[19,16],[16],[16],[22,16],[21,23,16],[24,16],[20,25,16],[16,26,13],[13,27]])
 (.cond (.t 40)
 (sr [oo 4 .mv [.c (.bool false)]]
 .ret)
 .skip)))
 (rg [ma 10 5,oo 11 (.bin .add) [.t 10,ki 1],ma 5 11]))))))
 (sr [oo 4 .mv [.c (.bool true)]]
 .ret)))⟩
def zj0 : AFun:=⟨24,[(4,none)],
 (sr [oo 2 (.box 3) [.t 0],oo 3 (.box 3) [.t 1],oo 4 .mv [.c (.bool false)]]
 (sr [fa 5 0 2,la 6 5,fa 7 0 3,la 8 7,oo 9 (.bin .lss) [.t 6,.t 8],ma 10 9,fh 11 0 2 10,lh 12 11 10,fh 13 0 3 10,lh 14 13 10,oh 15 (.bin .eql) [.t 12,.t 14] 10,mh 16 15 10,fg 17 1 2 16,lg 18 17 16,fg 19 1 3 16,lg 20 19 16,og 21 (.bin .lss) [.t 18,.t 20] 16,oh 22 .pick [.t 16,.t 21,.c (.bool false)] 10,oo 23 .pick [.t 10,.c (.bool true),.t 22],ma 4 23]
 .ret))⟩
def zjU : AFun:=⟨12,[(2,some (true,3))],
 (sr [oo 1 (.box 3) [.t 0],oo 2 (.alloc [v0,vn,vn]) []]
 (.seq (.reg true [fa 3 0 1,la 4 3,fa 5 1 1,la 6 5,ca 7 zaQ [.t 6],fa 8 2 1,la 9 8,ca 10 zbA [.t 9],oo 11 (.build [v0,vn,vn] [(0,1),(1,1),(2,1)]) [.t 4,.t 7,.t 10],ou (.st 3) [.t 2,.t 11]] [[],[0],[],[2],[3],[],[5],[6,4],[1,4,7],[8,7,0,1,2,3,4,5,6,7,8]])
 .ret))⟩
def zbU : AFun:=⟨42,[(4,none)],
 (sr [oo 4 .mv [kn]]
 (sr [ma 8 0,ma 9 1,ca 10 zaK [.t 8,.t 9],ma 5 10]
 (.seq (.seq
 (rg [ma 11 5,oo 12 (.bin .eql) [.t 11,ki (-1)]])
 (.cond (.t 12)
 (sr [ma 13 0,ma 4 13]
 .ret)
 .skip))
 (.seq (.seq
 (rg [ma 14 5,oo 15 (.bin .add) [.t 14,ki 1],ma 6 15])
 (.block 0 (.loop
 (.seq (.seq
 (rg [ma 16 6,ma 17 0,oo 18 .len [.t 17],oo 19 (.bin .lss) [.t 16,.t 18]])
 (.cond (.t 19)
 .skip
 (.exit 0)))
 (.seq (.block 1 (sr [ma 22 0,ma 23 6,oo 24 (.iad 3) [.t 22,.t 23],oo 25 (.ld true 3) [.t 24],oo 7 (.alloc [v0,v0,v0]) [],ou (.st 3) [.t 7,.t 25]]
 (sr [ma 26 1,oo 27 (.ld true 3) [.t 7],oo 28 .call [.t 26,.t 27],oo 29 (.un .not) [.t 28]]
 (.cond (.t 29)
 (sr [ma 30 0,ma 31 5,oo 32 (.ld true 3) [.t 7],oo 33 (.iad 3) [.t 30,.t 31],ou (.st 3) [.t 33,.t 32]]
 (rg [ma 34 5,oo 35 (.bin .add) [.t 34,ki 1],ma 5 35]))
 .skip))))
 (rg [ma 20 6,oo 21 (.bin .add) [.t 20,ki 1],ma 6 21]))))))
 (sr [ma 36 0,ma 37 5,oo 38 (.slc 3 true false false) [.t 36,.t 37],ou (.clr 3 [v0,v0,v0]) [.t 38]]
 (sr [ma 39 0,ma 40 5,oo 41 (.slc 3 false true false) [.t 39,.t 40],ma 4 41]
 .ret))))))⟩
def zhZ : AFun:=⟨8,[(3,none)],
 (sr [oo 2 (.box 3) [.t 0],oo 3 .mv [.c (.bool false)]]
 (sr [fa 4 2 2,la 5 4,la 6 1,oo 7 (.bin .lss) [.t 5,.t 6],ma 3 7]
 .ret))⟩
def zeh : AFun:=⟨48,[(4,none)],
 (sr [oo 4 .mv [kn]]
 (.seq (.seq
 (rg [ma 9 1,oo 10 (.bin .lss) [.t 9,ki 0]])
 (.cond (.t 10)
 (rg [oo 11 .bad [],ou .bad []])
 .skip))
 (sr [ma 13 0,oo 14 .len [.t 13],oo 15 (.cvt .u64) [.t 14],ma 16 1,oo 17 (.cvt .u64) [.t 16],ca 18 zdx [.t 15,.t 17],ma 12 18,oo 19 (.ext 0) [.t 12],oo 20 (.ext 1) [.t 12],ma 5 19,ma 6 20]
 (.seq (.seq
 (rg [ma 21 5,oo 22 (.bin .gtr) [.t 21,(.c (.int .u64 0))],ma 23 22,mh 24 6 23,oh 25 (.bin .gtr) [.t 24,(.c (.int .u64 9223372036854775807))] 23,oo 26 .pick [.t 23,.c (.bool true),.t 25]])
 (.cond (.t 26)
 (rg [oo 27 .bad [],ou .bad []])
 .skip))
 (sr [ma 28 6,oo 29 (.cvt .i64) [.t 28],oo 30 (.mks 1 8 [v0]) [.t 29,.t 29],ma 7 30]
 (sr [ma 31 7,ma 32 0,oo 33 (.cpy 1) [.t 31,.t 32],ma 8 33]
 (.seq (.block 0 (.loop
 (.seq (.seq
 (rg [ma 34 8,ma 35 7,oo 36 .len [.t 35],oo 37 (.bin .lss) [.t 34,.t 36]])
 (.cond (.t 37)
 .skip
 (.exit 0)))
 (.block 1 (.reg true [ma 38 8,ma 39 7,ma 40 8,oo 41 (.slc 1 true false false) [.t 39,.t 40],ma 42 7,ma 43 8,oo 44 (.slc 1 false true false) [.t 42,.t 43],oo 45 (.cpy 1) [.t 41,.t 44],oo 46 (.bin .add) [.t 38,.t 45],ma 8 46] [[],[],[],[1,2],[],[],[4,5],[3,6],[0,7],[8,7,0,1,2,3,4,5,6,7,8]])))))
 (sr [ma 47 7,ma 4 47]
 .ret))))))))⟩
def zgS : AFun:=⟨9,[(4,none)],
 (sr [oo 4 .mv [.c (.bool false)]]
 (sr [oo 5 (.ld true 3) [.t 1],la 6 2,ma 7 0,ca 8 zcY [.t 5,.t 6,.t 7],ma 4 8]
 .ret))⟩
def zhG : AFun:=⟨17,[(6,none)],
 (sr [oo 3 (.box 3) [.t 0],oo 6 .mv [.c (.bool false)]]
 (sr [ma 7 1,ma 8 2,ca 9 zaq [.t 7,.t 8],ma 10 9,fg 11 2 3 10,lg 12 11 10,mg 13 2 10,og 14 .call [.f zaq,.t 12,.t 13] 10,og 15 (.un .not) [.t 14] 10,oo 16 .pick [.t 10,.t 15,.c (.bool false)],ma 6 16]
 .ret))⟩
def znP : AFun:=⟨28,[(4,none)],
 (sr [oo 2 (.box 3) [.t 0],oo 4 .mv [kn]]
 (sr [oo 5 .mv [kn]]
 (.seq (.seq
 (rg [fa 8 1 2,la 9 8,oo 10 .len [.t 9],oo 11 .mv [ki 0]])
 (.block 0 (.loop
 (sr [oo 12 (.bin .lss) [.t 11,.t 10]]
 (.seq (.cond (.t 12)
 .skip
 (.exit 0))
 (.seq (.block 1 (sr [oo 13 (.iad 3) [.t 9,.t 11],oo 14 (.ld true 3) [.t 13],oo 7 (.alloc [v0,v0,v0]) [],ou (.st 3) [.t 7,.t 14]]
 (sr [fa 15 0 7,la 16 15,ma 17 1,oo 18 (.bin .eql) [.t 16,.t 17]]
 (.cond (.t 18)
 (rg [ma 19 5,fa 20 1 7,la 21 20,oo 22 (.bsl 1 1 [v0] [0]) [.t 21],oo 23 (.app 1 8) [.t 19,.t 22],ma 5 23])
 .skip))))
 (rg [oo 24 (.bin .add) [.t 11,ki 1],ma 11 24])))))))
 (sr [ma 25 5,ca 26 zaT [.t 25]]
 (sr [ma 27 5,ma 4 27]
 .ret)))))⟩
def zc8 : AFun:=⟨42,[(4,none)],
 (sr [oo 4 .mv [kn]]
 (sr [ma 8 0,ma 9 1,ca 10 za9 [.t 8,.t 9],ma 5 10]
 (.seq (.seq
 (rg [ma 11 5,oo 12 (.bin .eql) [.t 11,ki (-1)]])
 (.cond (.t 12)
 (sr [ma 13 0,ma 4 13]
 .ret)
 .skip))
 (.seq (.seq
 (rg [ma 14 5,oo 15 (.bin .add) [.t 14,ki 1],ma 6 15])
 (.block 0 (.loop
 (.seq (.seq
 (rg [ma 16 6,ma 17 0,oo 18 .len [.t 17],oo 19 (.bin .lss) [.t 16,.t 18]])
 (.cond (.t 19)
 .skip
 (.exit 0)))
 (.seq (.block 1 (sr [ma 22 0,ma 23 6,oo 24 (.iad 1) [.t 22,.t 23],la 25 24,ma 7 25]
 (sr [ma 26 1,ma 27 7,oo 28 .call [.t 26,.t 27],oo 29 (.un .not) [.t 28]]
 (.cond (.t 29)
 (sr [ma 30 0,ma 31 5,ma 32 7,oo 33 (.iad 1) [.t 30,.t 31],ou (.st 1) [.t 33,.t 32]]
 (rg [ma 34 5,oo 35 (.bin .add) [.t 34,ki 1],ma 5 35]))
 .skip))))
 (rg [ma 20 6,oo 21 (.bin .add) [.t 20,ki 1],ma 6 21]))))))
 (sr [ma 36 0,ma 37 5,oo 38 (.slc 1 true false false) [.t 36,.t 37],ou (.clr 1 [v0]) [.t 38]]
 (sr [ma 39 0,ma 40 5,oo 41 (.slc 1 false true false) [.t 39,.t 40],ma 4 41]
 .ret))))))⟩
def zgU : AFun:=⟨17,[(3,none)],
 (sr [oo 3 .mv [.c (.bool false)]]
 (sr [ma 4 0,la 5 1,oo 6 .len [.t 5],oo 7 (.bin .sub) [.t 6,ki 1],ca 8 zaU [.t 4,ki 0,.t 7],oo 9 (.un .not) [.t 8],ma 10 9,lh 11 1 10,mh 12 0 10,oh 13 (.iad 1) [.t 11,.t 12] 10,lh 14 13 10,oh 15 (.bin .geq) [.t 14,ki 0] 10,oo 16 .pick [.t 10,.c (.bool true),.t 15],ma 3 16]
 .ret))⟩
def zfP : AFun:=⟨9,[(3,none)],
 (sr [oo 3 .mv [.c (.bool false)]]
 (sr [la 4 1,ma 5 0,oo 6 (.iad 1) [.t 4,.t 5],la 7 6,oo 8 (.bin .geq) [.t 7,ki 0],ma 3 8]
 .ret))⟩
def zcD : AFun:=⟨9,[],
 (rg [ma 4 0,ma 5 0,oo 6 .len [.t 5],ma 7 1,ca 8 zbg [.t 4,.t 6,.t 7]])⟩
def zfw : AFun:=⟨15,[(5,none)],
 (sr [oo 5 .mv [ki 0]]
 (.seq (.reg true [la 6 2,ma 7 0,oo 8 (.iad 1) [.t 6,.t 7],la 9 8,la 10 2,ma 11 1,oo 12 (.iad 1) [.t 10,.t 11],la 13 12,ca 14 zbz [.t 9,.t 13],ma 5 14] [[],[],[0,1],[2],[],[],[4,5],[6],[3,7],[8,8,0,1,2,3,4,5,6,7,8]])
 .ret))⟩
def zkD : AFun:=⟨58,[(2,none)],
 (sr [oo 1 (.box 3) [.t 0],oo 2 .mv [ki 0]]
 (.seq (.seq
 (rg [fa 5 0 1,la 6 5,ca 7 zaU [.t 6,ki 0,ki 64],oo 8 (.un .not) [.t 7],ma 9 8,fh 10 1 1 9,lh 11 10 9,oh 12 .len [.t 11] 9,oh 13 (.bin .gtr) [.t 12,ki 500] 9,oo 14 .pick [.t 9,.c (.bool true),.t 13],ma 15 14,fh 16 2 1 15,lh 17 16 15,fh 18 0 1 15,lh 19 18 15,oh 20 (.bin .sub) [.t 19,ki 1] 15,oh 21 .call [.f zbr,.t 17,ki 0,.t 20] 15,oh 22 (.un .not) [.t 21] 15,oo 23 .pick [.t 15,.c (.bool true),.t 22]])
 (.cond (.t 23)
 (sr [oo 2 .mv [ki 14]]
 .ret)
 .skip))
 (.seq (.seq
 (rg [fa 24 1 1,la 25 24,oo 26 .len [.t 25],oo 27 .mv [ki 0]])
 (.block 0 (.loop
 (sr [oo 28 (.bin .lss) [.t 27,.t 26]]
 (.seq (.cond (.t 28)
 .skip
 (.exit 0))
 (.seq (.block 1 (sr [ma 29 27,oo 30 (.iad 3) [.t 25,.t 27],oo 31 (.ld true 3) [.t 30],oo 4 (.alloc [v0,v0,v0]) [],ma 3 29,ou (.st 3) [.t 4,.t 31]]
 (.seq (.reg true [oo 32 (.ld true 3) [.t 1],oo 33 (.ld true 3) [.t 4],ca 34 zdZ [.t 32,.t 33],oo 35 (.un .not) [.t 34],ma 36 35,fh 37 2 4 36,lh 38 37 36,oh 39 .call [.f zaU,.t 38,ki 1,ki 3] 36,oh 40 (.un .not) [.t 39] 36,oo 41 .pick [.t 36,.c (.bool true),.t 40],ma 42 41,mh 43 3 42,oh 44 (.bin .gtr) [.t 43,ki 0] 42,mh 45 44 42,fg 46 1 1 45,lg 47 46 45,mg 48 3 45,og 49 (.bin .sub) [.t 48,ki 1] 45,og 50 (.iad 3) [.t 47,.t 49] 45,og 51 (.ld true 3) [.t 50] 45,og 52 (.ld true 3) [.t 4] 45,og 53 .call [.f zcE,.t 51,.t 52] 45,og 54 (.bin .geq) [.t 53,ki 0] 45,oh 55 .pick [.t 45,.t 54,.c (.bool false)] 42,oo 56 .pick [.t 42,.c (.bool true),.t 55]] [[],[],[0,1],[2],[3,2],[4],[5,4],[6,4,4],[7,4],[4,8],[9,7],[10],[11,10],[12,10,10],[13],[14,13],[13],[16,13],[15,17,13],[18,13],[13],[19,20,13,13],[21,13],[13,22,10],[10,23]])
 (.cond (.t 56)
 (sr [oo 2 .mv [ki 14]]
 .ret)
 .skip))))
 (rg [oo 57 (.bin .add) [.t 27,ki 1],ma 27 57])))))))
 (sr [oo 2 .mv [ki 0]]
 .ret))))⟩
def zjk : AFun:=⟨38,[(6,none)],
 (sr [oo 6 .mv [.c (.bool false)]]
 (.seq (.seq
 (rg [ma 9 0,oo 10 .len [.t 9],oo 11 .mv [ki 0]])
 (.block 0 (.loop
 (sr [oo 12 (.bin .lss) [.t 11,.t 10]]
 (.seq (.cond (.t 12)
 .skip
 (.exit 0))
 (.seq (.block 1 (sr [ma 13 11,oo 14 (.iad 1) [.t 9,.t 11],la 15 14,ma 7 13,ma 8 15]
 (sr [ma 16 8,ma 17 1,oo 18 (.bin .lss) [.t 16,.t 17],ma 19 18,mh 20 8 19,mh 21 2 19,oh 22 (.bin .gtr) [.t 20,.t 21] 19,oo 23 .pick [.t 19,.c (.bool true),.t 22],ma 24 23,mh 25 7 24,oh 26 (.bin .gtr) [.t 25,ki 0] 24,mh 27 26 24,mg 28 8 27,mg 29 0 27,mg 30 7 27,og 31 (.bin .sub) [.t 30,ki 1] 27,og 32 (.iad 1) [.t 29,.t 31] 27,lg 33 32 27,og 34 (.bin .leq) [.t 28,.t 33] 27,oh 35 .pick [.t 27,.t 34,.c (.bool false)] 24,oo 36 .pick [.t 24,.c (.bool true),.t 35]]
 (.cond (.t 36)
 (sr [oo 6 .mv [.c (.bool false)]]
 .ret)
 .skip))))
 (rg [oo 37 (.bin .add) [.t 11,ki 1],ma 11 37])))))))
 (sr [oo 6 .mv [.c (.bool true)]]
 .ret)))⟩
def zil : AFun:=⟨6,[(2,none)],
 (sr [oo 2 .mv [.c (.bool false)]]
 (sr [ma 3 0,ma 4 0,oo 5 (.bin .neq) [.t 3,.t 4],ma 2 5]
 .ret))⟩
def zcq : AFun:=⟨8,[(2,none)],
 (sr [oo 2 .mv [kn]]
 (.seq (.seq
 (rg [ma 3 0,oo 4 (.snil false) [.t 3]])
 (.cond (.t 4)
 (sr [oo 2 .mv [kn]]
 .ret)
 .skip))
 (sr [oo 5 (.bsl 3 0 [v0,v0,v0] []) [],ma 6 0,oo 7 (.app 3 24) [.t 5,.t 6],ma 2 7]
 .ret)))⟩
def zet : AFun:=⟨8,[(2,none)],
 (sr [oo 2 .mv [kn]]
 (.seq (.seq
 (rg [ma 3 0,oo 4 (.snil false) [.t 3]])
 (.cond (.t 4)
 (sr [oo 2 .mv [kn]]
 .ret)
 .skip))
 (sr [oo 5 (.bsl 1 0 [v0] []) [],ma 6 0,oo 7 (.app 1 8) [.t 5,.t 6],ma 2 7]
 .ret)))⟩
def zbY : AFun:=⟨19,[(4,none)],
 (sr [oo 4 .mv [ki 0]]
 (.seq (.seq
 (rg [ma 6 0,oo 7 .len [.t 6],oo 8 .mv [ki 0]])
 (.block 0 (.loop
 (sr [oo 9 (.bin .lss) [.t 8,.t 7]]
 (.seq (.cond (.t 9)
 .skip
 (.exit 0))
 (.seq (.block 1 (sr [ma 10 8,ma 5 10]
 (sr [ma 11 1,ma 12 0,ma 13 5,oo 14 (.iad 3) [.t 12,.t 13],oo 15 (.ld true 3) [.t 14],oo 16 .call [.t 11,.t 15]]
 (.cond (.t 16)
 (sr [ma 17 5,ma 4 17]
 .ret)
 .skip))))
 (rg [oo 18 (.bin .add) [.t 8,ki 1],ma 8 18])))))))
 (sr [oo 4 .mv [ki (-1)]]
 .ret)))⟩
def ziu : AFun:=⟨30,[(4,none),(5,none)],
 (sr [oo 4 .mv [(.c (.int .u64 0))],oo 5 .mv [(.c (.int .u64 0))]]
 (.seq (.cond (.c (.bool false))
 (sr [ma 11 0,oo 12 (.cvt .u32) [.t 11],ma 13 1,oo 14 (.cvt .u32) [.t 13],ca 15 zgK [.t 12,.t 14],ma 10 15,oo 16 (.ext 0) [.t 10],oo 17 (.ext 1) [.t 10],ma 6 16,ma 7 17]
 (sr [ma 18 6,oo 19 (.cvt .u64) [.t 18],ma 20 7,oo 21 (.cvt .u64) [.t 20],ma 4 19,ma 5 21]
 .ret))
 .skip)
 (sr [ma 23 0,ma 24 1,ca 25 zbu [.t 23,.t 24],ma 22 25,oo 26 (.ext 0) [.t 22],oo 27 (.ext 1) [.t 22],ma 8 26,ma 9 27]
 (sr [ma 28 8,ma 29 9,ma 4 28,ma 5 29]
 .ret))))⟩
def zeX : AFun:=⟨11,[],
 (sr [ma 3 0,oo 4 .len [.t 3],ma 2 4]
 (rg [ma 5 0,ma 6 2,ma 7 2,oo 8 (.cvt .u64) [.t 7],ca 9 zik [.t 8],ca 10 zde [.t 5,ki 0,.t 6,.t 9]]))⟩
def zdj : AFun:=⟨19,[(4,none)],
 (sr [oo 4 .mv [ki 0]]
 (.seq (.seq
 (rg [ma 6 0,oo 7 .len [.t 6],oo 8 .mv [ki 0]])
 (.block 0 (.loop
 (sr [oo 9 (.bin .lss) [.t 8,.t 7]]
 (.seq (.cond (.t 9)
 .skip
 (.exit 0))
 (.seq (.block 1 (sr [ma 10 8,ma 5 10]
 (sr [ma 11 1,ma 12 0,ma 13 5,oo 14 (.iad 1) [.t 12,.t 13],la 15 14,oo 16 .call [.t 11,.t 15]]
 (.cond (.t 16)
 (sr [ma 17 5,ma 4 17]
 .ret)
 .skip))))
 (rg [oo 18 (.bin .add) [.t 8,ki 1],ma 8 18])))))))
 (sr [oo 4 .mv [ki (-1)]]
 .ret)))⟩
def zdy : AFun:=⟨63,[],
 (sr [oo 6 .mv [ki 20]]
 (sr [ma 10 6,oo 7 .mv [ki 0],ma 8 10]
 (.seq (.block 0 (.loop
 (.seq (.seq
 (rg [ma 11 8,ma 12 1,oo 13 (.bin .leq) [.t 11,.t 12]])
 (.cond (.t 13)
 .skip
 (.exit 0)))
 (.block 1 (sr [ma 14 0,ma 15 7,ma 16 8,ma 17 2,ca 18 zaE [.t 14,.t 15,.t 16,.t 17]]
 (sr [ma 19 8,ma 7 19]
 (rg [ma 20 8,ma 21 6,oo 22 (.bin .add) [.t 20,.t 21],ma 8 22])))))))
 (sr [ma 23 0,ma 24 7,ma 25 1,ma 26 2,ca 27 zaE [.t 23,.t 24,.t 25,.t 26]]
 (.block 2 (.loop
 (.seq (.seq
 (rg [ma 28 6,ma 29 1,oo 30 (.bin .lss) [.t 28,.t 29]])
 (.cond (.t 30)
 .skip
 (.exit 2)))
 (.block 3 (sr [ma 31 6,oo 32 (.bin .mul) [ki 2,.t 31],oo 7 .mv [ki 0],ma 8 32]
 (.seq (.block 4 (.loop
 (.seq (.seq
 (rg [ma 33 8,ma 34 1,oo 35 (.bin .leq) [.t 33,.t 34]])
 (.cond (.t 35)
 .skip
 (.exit 4)))
 (.block 5 (sr [ma 36 0,ma 37 7,ma 38 7,ma 39 6,oo 40 (.bin .add) [.t 38,.t 39],ma 41 8,ma 42 2,ca 43 zbJ [.t 36,.t 37,.t 40,.t 41,.t 42]]
 (sr [ma 44 8,ma 7 44]
 (rg [ma 45 8,ma 46 6,oo 47 (.bin .mul) [ki 2,.t 46],oo 48 (.bin .add) [.t 45,.t 47],ma 8 48])))))))
 (.seq (.seq
 (rg [ma 49 7,ma 50 6,oo 51 (.bin .add) [.t 49,.t 50],ma 9 51])
 (sr [ma 52 9,ma 53 1,oo 54 (.bin .lss) [.t 52,.t 53]]
 (.cond (.t 54)
 (rg [ma 55 0,ma 56 7,ma 57 9,ma 58 1,ma 59 2,ca 60 zbJ [.t 55,.t 56,.t 57,.t 58,.t 59]])
 .skip)))
 (rg [ma 61 6,oo 62 (.bin .mul) [.t 61,ki 2],ma 6 62]))))))))))))⟩
def zlD : AFun:=⟨42,[(4,none)],
 (sr [oo 2 (.box 3) [.t 0],oo 3 (.box 3) [.t 1],oo 4 .mv [.c (.bool false)]]
 (sr [fa 5 0 3,la 6 5,fa 7 0 2,la 8 7,oo 9 (.bin .sub) [.t 8,ki 1],ca 10 zaU [.t 6,ki 0,.t 9],ma 11 10,fg 12 1 3 11,lg 13 12 11,fg 14 0 2 11,lg 15 14 11,og 16 (.bin .sub) [.t 15,ki 1] 11,og 17 .call [.f zaU,.t 13,ki 0,.t 16] 11,oo 18 .pick [.t 11,.t 17,.c (.bool false)],ma 19 18,fg 20 0 3 19,lg 21 20 19,fg 22 1 3 19,lg 23 22 19,og 24 (.bin .neq) [.t 21,.t 23] 19,oo 25 .pick [.t 19,.t 24,.c (.bool false)],ma 26 25,fg 27 2 2 26,lg 28 27 26,fg 29 0 3 26,lg 30 29 26,og 31 .call [.f zaq,.t 28,.t 30] 26,og 32 (.un .not) [.t 31] 26,oo 33 .pick [.t 26,.t 32,.c (.bool false)],ma 34 33,fg 35 2 2 34,lg 36 35 34,fg 37 1 3 34,lg 38 37 34,og 39 .call [.f zaq,.t 36,.t 38] 34,og 40 (.un .not) [.t 39] 34,oo 41 .pick [.t 34,.t 40,.c (.bool false)],ma 4 41]
 .ret))⟩
def zir : AFun:=⟨17,[(4,none)],
 (sr [oo 2 (.box 3) [.t 0],oo 3 (.box 3) [.t 1],oo 4 .mv [ki 0]]
 (.seq (.reg true [fa 5 0 2,la 6 5,fa 7 0 3,la 8 7,ca 9 zbz [.t 6,.t 8],fa 10 1 2,la 11 10,fa 12 1 3,la 13 12,ca 14 zbz [.t 11,.t 13],oo 15 (.bsl 1 2 [v0] [0,1]) [.t 9,.t 14],ca 16 zfj [.t 15],ma 4 16] [[],[0],[],[2],[1,3],[],[5],[],[7],[6,8,4],[4,9],[10,9],[11,11,0,1,2,3,4,5,6,7,8,9,10,11]])
 .ret))⟩
def zgM : AFun:=⟨25,[(2,none)],
 (sr [oo 2 .mv [ki 0]]
 (.seq (.seq
 (rg [ma 3 0,oo 4 (.bin .geq) [.t 3,(.c (.int .u64 4294967296))]])
 (.cond (.t 4)
 (sr [ma 5 0,oo 6 (.bin .shr) [.t 5,(.c (.int .u64 32))],ma 0 6]
 (rg [oo 2 .mv [ki 32]]))
 .skip))
 (.seq (.seq
 (rg [ma 7 0,oo 8 (.bin .geq) [.t 7,(.c (.int .u64 65536))]])
 (.cond (.t 8)
 (sr [ma 9 0,oo 10 (.bin .shr) [.t 9,(.c (.int .u64 16))],ma 0 10]
 (rg [ma 11 2,oo 12 (.bin .add) [.t 11,ki 16],ma 2 12]))
 .skip))
 (.seq (.seq
 (rg [ma 13 0,oo 14 (.bin .geq) [.t 13,(.c (.int .u64 256))]])
 (.cond (.t 14)
 (sr [ma 15 0,oo 16 (.bin .shr) [.t 15,(.c (.int .u64 8))],ma 0 16]
 (rg [ma 17 2,oo 18 (.bin .add) [.t 17,ki 8],ma 2 18]))
 .skip))
 (sr [ma 19 2,ma 20 0,oo 21 (.cvt .u8) [.t 20],oo 22 .ixs [(.c (.string ⟨#[0,1,2,2,3,3,3,3,4,4,4,4,4,4,4,4,5,5,5,5,5,5,5,5,5,5,5,5,5,5,5,5,6,6,6,6,6,6,6,6,6,6,6,6,6,6,6,6,6,6,6,6,6,6,6,6,6,6,6,6,6,6,6,6,7,7,7,7,7,7,7,7,7,7,7,7,7,7,7,7,7,7,7,7,7,7,7,7,7,7,7,7,7,7,7,7,7,7,7,7,7,7,7,7,7,7,7,7,7,7,7,7,7,7,7,7,7,7,7,7,7,7,7,7,7,7,7,7,8,8,8,8,8,8,8,8,8,8,8,8,8,8,8,8,8,8,8,8,8,8,8,8,8,8,8,8,8,8,8,8,8,8,8,8,8,8,8,8,8,8,8,8,8,8,8,8,8,8,8,8,8,8,8,8,8,8,8,8,8,8,8,8,8,8,8,8,8,8,8,8,8,8,8,8,8,8,8,8,8,8,8,8,8,8,8,8,8,8,8,8,8,8,8,8,8,8,8,8,8,8,8,8,8,8,8,8,8,8,8,8,8,8,8,8,8,8,8,8,8,8,8,8,8,8,8,8]⟩)),.t 21],oo 23 (.cvt .i64) [.t 22],oo 24 (.bin .add) [.t 19,.t 23],ma 2 24]
 .ret)))))⟩
def zgP : AFun:=⟨51,[(4,none),(5,none)],
 (sr [oo 4 .mv [(.c (.int .u64 0))],oo 5 .mv [(.c (.int .u64 0))]]
 (sr [ma 14 0,oo 15 (.bin .and) [.t 14,(.c (.int .u64 4294967295))],ma 6 15]
 (sr [ma 16 0,oo 17 (.bin .shr) [.t 16,(.c (.int .u64 32))],ma 7 17]
 (sr [ma 18 1,oo 19 (.bin .and) [.t 18,(.c (.int .u64 4294967295))],ma 8 19]
 (sr [ma 20 1,oo 21 (.bin .shr) [.t 20,(.c (.int .u64 32))],ma 9 21]
 (sr [ma 22 6,ma 23 8,oo 24 (.bin .mul) [.t 22,.t 23],ma 10 24]
 (sr [ma 25 7,ma 26 8,oo 27 (.bin .mul) [.t 25,.t 26],ma 28 10,oo 29 (.bin .shr) [.t 28,(.c (.int .u64 32))],oo 30 (.bin .add) [.t 27,.t 29],ma 11 30]
 (sr [ma 31 11,oo 32 (.bin .and) [.t 31,(.c (.int .u64 4294967295))],ma 12 32]
 (sr [ma 33 11,oo 34 (.bin .shr) [.t 33,(.c (.int .u64 32))],ma 13 34]
 (sr [ma 35 12,ma 36 6,ma 37 9,oo 38 (.bin .mul) [.t 36,.t 37],oo 39 (.bin .add) [.t 35,.t 38],ma 12 39]
 (sr [ma 40 7,ma 41 9,oo 42 (.bin .mul) [.t 40,.t 41],ma 43 13,oo 44 (.bin .add) [.t 42,.t 43],ma 45 12,oo 46 (.bin .shr) [.t 45,(.c (.int .u64 32))],oo 47 (.bin .add) [.t 44,.t 46],ma 4 47]
 (sr [ma 48 0,ma 49 1,oo 50 (.bin .mul) [.t 48,.t 49],ma 5 50]
 .ret))))))))))))⟩
def zco : AFun:=⟨53,[],
 (sr [ma 10 1,oo 11 (.bin .add) [.t 10,ki 1],ma 8 11]
 (.block 0 (.loop
 (.seq (.seq
 (rg [ma 12 8,ma 13 2,oo 14 (.bin .lss) [.t 12,.t 13]])
 (.cond (.t 14)
 .skip
 (.exit 0)))
 (.seq (.block 1 (sr [ma 17 8,ma 9 17]
 (.block 2 (.loop
 (.seq (.seq
 (.reg true [ma 18 9,ma 19 1,oo 20 (.bin .gtr) [.t 18,.t 19],ma 21 20,mg 22 3 21,mg 23 0 21,mg 24 9 21,og 25 (.iad 1) [.t 23,.t 24] 21,lg 26 25 21,mg 27 0 21,mg 28 9 21,og 29 (.bin .sub) [.t 28,ki 1] 21,og 30 (.iad 1) [.t 27,.t 29] 21,lg 31 30 21,og 32 .call [.t 22,.t 26,.t 31] 21,og 33 (.bin .lss) [.t 32,ki 0] 21,oo 34 .pick [.t 21,.t 33,.c (.bool false)]] [[],[],[0,1],[2],[3],[3],[3],[5,6,3],[7,3],[3],[3],[10,3],[9,11,3],[12,3],[4,8,13,3,3],[14,3],[3,15]])
 (.cond (.t 34)
 .skip
 (.exit 2)))
 (.seq (.block 3 (.reg true [ma 37 0,ma 38 9,ma 39 0,ma 40 9,oo 41 (.bin .sub) [.t 40,ki 1],ma 42 0,ma 43 9,oo 44 (.bin .sub) [.t 43,ki 1],oo 45 (.iad 1) [.t 42,.t 44],la 46 45,ma 47 0,ma 48 9,oo 49 (.iad 1) [.t 47,.t 48],la 50 49,oo 51 (.iad 1) [.t 37,.t 38],ou (.st 1) [.t 51,.t 46],oo 52 (.iad 1) [.t 39,.t 41],ou (.st 1) [.t 52,.t 50]] [[],[],[],[],[3],[],[],[6],[5,7],[8],[],[],[10,11],[12],[0,1,0,1,5,6,7,8,9,13],[14,9,0,1,5,6,7,8,9,13],[2,4,0,1,2,3,4,5,6,7,8,9,10,11,12,13,14,15],[16,13,15,0,1,2,3,4,5,6,7,8,9,10,11,12,13,14,15]]))
 (rg [ma 35 9,oo 36 (.bin .sub) [.t 35,ki 1],ma 9 36])))))))
 (rg [ma 15 8,oo 16 (.bin .add) [.t 15,ki 1],ma 8 16]))))))⟩
theorem mixed : Tryz.prog.follows .mixedOrders = true:=by kernel_rfl
theorem mkS {f : FuncId} {af : AFun} (fn : Func) (hf : Tryz.prog.funcs[f]? = some fn:=by kernel_rfl) (hc : zpF Tryz.prog fn = some af:=by kernel_rfl) (hn : fn.name ≠ "runtime.NumGoroutine":=by decide) : Src Tryz.prog f af:=⟨mixed,fn,hf,hc,hn⟩
theorem zlz : Src Tryz.prog zdR zlS:=mkS Tryz.f10
theorem znS : Src Tryz.prog ze4 znE:=mkS Tryz.f12
theorem zg3 : Src Tryz.prog zbv zgV:=mkS Tryz.f13
theorem zhH : Src Tryz.prog zau zhz:=mkS Tryz.f15
theorem zoN : Src Tryz.prog zeP zoj:=mkS Tryz.f17
theorem zlW : Src Tryz.prog zdU zlU:=mkS Tryz.f18
theorem zjA : Src Tryz.prog zbP zjm:=mkS Tryz.f20
theorem zhE : Src Tryz.prog zda zho:=mkS Tryz.f30
theorem zn2 : Src Tryz.prog zaZ ziW:=mkS Tryz.f32
theorem zj6 : Src Tryz.prog zeG zkl:=mkS Tryz.f35
theorem znD : Src Tryz.prog zge znA:=mkS Tryz.f37
theorem zij : Src Tryz.prog zbX ziv:=mkS Tryz.f41
theorem zof : Src Tryz.prog zgA zob:=mkS Tryz.f42
theorem zkE : Src Tryz.prog zdm zke:=mkS Tryz.f48
theorem zk9 : Src Tryz.prog zeE zlp:=mkS Tryz.f49
theorem zma : Src Tryz.prog zei zlO:=mkS Tryz.f50
theorem zoZ : Src Tryz.prog zaU zpB:=mkS Tryz.f55
theorem zlk : Src Tryz.prog zeB zlq:=mkS Tryz.f56
theorem zjE : Src Tryz.prog zd0 zj1:=mkS Tryz.f57
theorem zk7 : Src Tryz.prog zcJ zlb:=mkS Tryz.f58
theorem zh5 : Src Tryz.prog zc0 zhY:=mkS Tryz.f61
theorem zdv : Src Tryz.prog zaq zdA:=mkS Tryz.f66
theorem zlH : Src Tryz.prog zfj zlQ:=mkS Tryz.f72
theorem zgN : Src Tryz.prog zbz zg5:=mkS Tryz.f73
theorem zeu : Src Tryz.prog zaJ zer:=mkS Tryz.f86
theorem zew : Src Tryz.prog zbC zev:=mkS Tryz.f87
theorem znF : Src Tryz.prog zcX zn5:=mkS Tryz.f90
theorem zi7 : Src Tryz.prog zbL zj0:=mkS Tryz.f91
theorem zjw : Src Tryz.prog zd9 zjU:=mkS Tryz.f97
theorem zbT : Src Tryz.prog zaH zbU:=mkS Tryz.f98
theorem zhW : Src Tryz.prog zcg zhZ:=mkS Tryz.f99
theorem zdW : Src Tryz.prog zbq zeh:=mkS Tryz.f100
theorem zgL : Src Tryz.prog zb2 zgS:=mkS Tryz.f101
theorem zib : Src Tryz.prog zcY zhG:=mkS Tryz.f102
theorem znL : Src Tryz.prog zgp znP:=mkS Tryz.f103
theorem zc2 : Src Tryz.prog za3 zc8:=mkS Tryz.f104
theorem zgW : Src Tryz.prog zb1 zgU:=mkS Tryz.f105
theorem zfU : Src Tryz.prog zbe zfP:=mkS Tryz.f106
theorem zcy : Src Tryz.prog zaR zcD:=mkS Tryz.f107
theorem zfL : Src Tryz.prog zbD zfw:=mkS Tryz.f108
theorem zkj : Src Tryz.prog zeR zkD:=mkS Tryz.f120
theorem zjo : Src Tryz.prog zbr zjk:=mkS Tryz.f121
theorem ziy : Src Tryz.prog zcF zil:=mkS Tryz.f126
theorem zbk : Src Tryz.prog zaQ zcq:=mkS Tryz.f138
theorem zcs : Src Tryz.prog zbA zet:=mkS Tryz.f139
theorem zbZ : Src Tryz.prog zaK zbY:=mkS Tryz.f140
theorem zit : Src Tryz.prog zdx ziu:=mkS Tryz.f141
theorem zcH : Src Tryz.prog zaT zeX:=mkS Tryz.f142
theorem zdf : Src Tryz.prog za9 zdj:=mkS Tryz.f143
theorem zdz : Src Tryz.prog zbg zdy:=mkS Tryz.f144
theorem zl7 : Src Tryz.prog zdZ zlD:=mkS Tryz.f153
theorem ziq : Src Tryz.prog zcE zir:=mkS Tryz.f154
theorem zgQ : Src Tryz.prog zcN zgM:=mkS Tryz.f164
theorem zem : Src Tryz.prog zbu zgP:=mkS Tryz.f169
theorem zcn : Src Tryz.prog zaE zco:=mkS Tryz.f178
abbrev ints (l : List Int) : AV:=.vs 1 false (l.map fun n=>[AV.I n])
theorem zkT (l : List Int) (n : Int) (hl : l.length ≤ 140737488355328) : zaj Tryz.prog zaZ [ints l,.I n] [] (.B (l.contains n)) []:=by
 refine zn2.acalls (by simp [ziW]) (by simp) (by simp) ?_
 show awp _ 0 _ _ ⟨18,[(0,ints l),(1,.I n)],[],16⟩
 refine zaa (zac (s:=?s1) rfl ?o1 ?q1)
 case o1=>simp; rfl
 refine zaa (zaa (zac (s:=?s2) rfl ?o2 ?q2))
 case o2=>simp; rfl
 refine zaf ?_
 refine zan (ι:=Nat) (fun k=>{ sz:=18,t:=[(0,ints l),(1,.I n),(5,.I k)],h:=[],n:=16 }) (fun k=>k ≤ l.length ∧ n ∉ l.take k) (fun k=>l.length - k) 0 (by simp) ?_ ?_
 ·refine Le.slots rfl rfl ?_
  simp [ints]
 ·rintro k ⟨hk,hn⟩
  refine zaa (zaa (zac (s:=?s3) rfl ?o3 ?q3))
  case o3=>simp; rfl
  refine zad _ rfl ?_ ?_
  ·intro hlt
   simp only [decide_eq_true_eq,Int.ofNat_lt] at hlt
   show awp _ _ _ _ _
   refine zaa (zaf (zaa (zac (s:=?s4) rfl ?o4 ?q4)))
   case o4=>simp [hlt]; rfl
   refine zad _ rfl ?_ ?_
   ·intro heq
    refine zaa (zac (s:=?s5) rfl ?o5 ?q5)
    case o5=>simp; rfl
    refine ⟨.inr rfl,zam.one ?_⟩
    have : n ∈ l:=by simp at heq; simp [← heq]
    simp [this]
   ·intro hne
    refine zae (zac (s:=?s6) rfl ?o6 ?q6)
    case o6=>simp; rfl
    refine ⟨k + 1,⟨by omega,?_⟩,by omega,Le.slots rfl rfl ?_⟩
    ·intro hm
     simp at hne
     rw [List.take_succ_eq_append_getElem hlt] at hm
     rcases List.mem_append.1 hm with h | h
     ·exact hn h
     ·exact hne (List.mem_singleton.1 h).symm
    ·have hw : IntKind.i64.wrap ((k : Int) + 1) = ((k + 1 : Nat) : Int):=w64 (by omega) (by omega)
     simp [Wk.refl,hw]
  ·intro hge
   refine zak (hit ?_)
   refine zaa (zac (s:=?s7) rfl ?o7 ?q7)
   case o7=>simp; rfl
   refine zag ⟨.inr rfl,zam.one ?_⟩
   simp at hge
   have : n ∉ l:=by
    have : l.take k = l:=List.take_of_length_le hge
    rw [this] at hn
    exact hn
   simp [this]
theorem zm2 (x : Int) : zaj Tryz.prog zcF [.I x] [] (.B false) []:=by
 refine ziy.acalls (nbz rfl) (nbz rfl) (Nat.le_refl _) ?_
 show awp _ 0 _ _ ⟨6,[(0,.I x)],[],16⟩
 refine zaa (zac (s:=?s1) rfl ?o1 ?q1)
 case o1=>simp; rfl
 refine zaa (zac (s:=?s2) rfl ?o2 ?q2)
 case o2=>simp; rfl
 exact zag ⟨.inr rfl,zam.one (by simp)⟩
theorem zbK (n lo hi : Int) : zaj Tryz.prog zaU [.I n,.I lo,.I hi] [] (.B (decide (lo ≤ n) && decide (n ≤ hi))) []:=by
 refine zoZ.acalls (nbz rfl) (nbz rfl) (Nat.le_refl _) ?_
 show awp _ 0 _ _ ⟨15,[(0,.I n),(1,.I lo),(2,.I hi)],[],16⟩
 refine zaa (zac (s:=?s1) rfl ?o1 ?q1)
 case o1=>simp; rfl
 by_cases h : lo ≤ n
 ·refine zaa (zac (s:=?s2) rfl ?o2 ?q2)
  case o2=>simp [h]; rfl
  exact zag ⟨.inr rfl,zam.one (by simp [h])⟩
 ·refine zaa (zac (s:=?s3) rfl ?o3 ?q3)
  case o3=>simp [h]; rfl
  exact zag ⟨.inr rfl,zam.one (by simp [h])⟩
def cmpI (x y : Int) : Int:=if x < y then -1 else if x > y then 1 else 0
theorem zga (x y : Int) : zaj Tryz.prog zbz [.I x,.I y] [] (.I (cmpI x y)) []:=by
 refine zgN.acalls (nbz rfl) (nbz rfl) (Nat.le_refl _) ?_
 show awp _ 0 _ _ ⟨20,[(0,.I x),(1,.I y)],[],16⟩
 refine zaa (zac (s:=?s1) rfl ?o1 ?q1)
 case o1=>simp; rfl
 refine zaa (zac (s:=?s2) rfl ?o2 ?q2)
 case o2=>simp; refine zal (zm2 _) rfl ?_; simp; rfl
 refine zaa (zac (s:=?s3) rfl ?o3 ?q3)
 case o3=>simp; refine zal (zm2 _) rfl ?_; simp; rfl
 refine zaa (zaa (zac (s:=?s4) rfl ?o4 ?q4))
 case o4=>simp; rfl
 refine zad _ rfl (fun h=>by cases h) fun _=>zae ?_
 refine zaa (zaa (zac (s:=?s5) rfl ?o5 ?q5))
 case o5=>simp; rfl
 refine zad _ rfl (fun h=>by cases h) fun _=>zae ?_
 refine zaa (zaa (zac (s:=?s6) rfl ?o6 ?q6))
 case o6=>simp; rfl
 refine zad _ rfl (fun h=>?_) fun h1=>zae ?_
 ·refine zaa (zac (s:=?s7) rfl ?o7 ?q7)
  case o7=>simp; rfl
  exact zag ⟨.inr rfl,zam.one (by simp at h; simp [cmpI,h])⟩
 refine zaa (zaa (zac (s:=?s8) rfl ?o8 ?q8))
 case o8=>simp; rfl
 refine zad _ rfl (fun h=>?_) fun h2=>zae ?_
 ·refine zaa (zac (s:=?s9) rfl ?o9 ?q9)
  case o9=>simp; rfl
  exact zag ⟨.inr rfl,zam.one (by simp at h h1; simp [cmpI,h,Int.not_lt.2 h1])⟩
 refine zaa (zac (s:=?s10) rfl ?o10 ?q10)
 case o10=>simp; rfl
 exact zag ⟨.inr rfl,zam.one (by simp at h1 h2; simp [cmpI,Int.not_lt.2 h1,Int.not_lt.2 h2])⟩
theorem zuH (l : List Int) (hl : l.length ≤ 140737488355328) : zaj Tryz.prog zfj [ints l] [] (.I ((l.find? (· != 0)).getD 0)) []:=by
 refine zlH.acalls (nbz rfl) (nbz rfl) (Nat.le_refl _) ?_
 show awp _ 0 _ _ ⟨18,[(0,ints l)],[],16⟩
 refine zaa ?_
 refine zac (s:=?s1) rfl ?o1 ?q1
 case o1=>simp; rfl
 refine zaa ?_
 refine zac (s:=?s2) rfl ?o2 ?q2
 case o2=>simp; rfl
 refine zaa ?_
 refine zaa ?_
 refine zac (s:=?s3) rfl ?o3 ?q3
 case o3=>simp; rfl
 refine zaf ?_
 refine zan (ι:=Nat) (fun k=>⟨18,[(3,.I 0),(6,ints l),(7,.I l.length),(8,.I k)],[],16⟩) (fun k=>k ≤ l.length ∧ l.find? (· != 0) = (l.drop k).find? (· != 0)) (fun k=>l.length - k) 0 ?_ (Le.slots rfl rfl ?_) ?_
 ·simp
 ·simp
 rintro k ⟨hk,hf⟩
 refine zaa ?_
 refine zac (s:=?s4) rfl ?o4 ?q4
 case o4=>simp; rfl
 refine zaa ?_
 refine zad _ rfl (fun h5=>?_) fun h5=>?_
 ·simp at h5
  rw [List.drop_eq_getElem_cons h5,List.find?_cons] at hf
  refine zae ?_
  refine zaa ?_
  refine zaf ?_
  refine zaa ?_
  refine zac (s:=?s6) rfl ?o6 ?q6
  case o6=>simp [h5]; rfl
  refine zaa ?_
  refine zac (s:=?s7) rfl ?o7 ?q7
  case o7=>simp; rfl
  refine zad _ rfl (fun h8=>?_) fun h8=>?_
  ·refine zaa ?_
   refine zac (s:=?s9) rfl ?o9 ?q9
   case o9=>simp; rfl
   refine zag ?_
   rw [h8] at hf
   exact ⟨.inr rfl,zam.one (by simp [hf])⟩
  refine zae ?_
  refine zac (s:=?s10) rfl ?o10 ?q10
  case o10=>simp; rfl
  rw [h8] at hf
  have hw : IntKind.i64.wrap ((k : Int) + 1) = (k : Int) + 1:=w64 (by omega) (by omega)
  refine ⟨k + 1,⟨h5,hf⟩,by omega,Le.slots rfl rfl ?_⟩
  simp [hw]
 simp at h5
 rw [List.drop_eq_nil_of_le h5] at hf
 refine zak ?_
 refine hit ?_
 refine zaa ?_
 refine zac (s:=?s11) rfl ?o11 ?q11
 case o11=>simp; rfl
 refine zag ?_
 exact ⟨.inr rfl,zam.one (by simp [hf])⟩
structure Ed where
 f : Int
 t : Int
 v : Int
 deriving DecidableEq,Inhabited
abbrev Ed.row (e : Ed) : List AV:=[.I e.f,.I e.t,.I e.v]
abbrev eE (e : Ed) : AV:=.agg [.I e.f,.I e.t,.I e.v]
abbrev eEs (l : List Ed) : AV:=.vs 3 false (l.map fun e=>[.I e.f,.I e.t,.I e.v])
def cmpE (a b : Ed) : Int:=([cmpI a.f b.f,cmpI a.t b.t].find? (· != 0)).getD 0
theorem zgO (a b : Ed) : zaj Tryz.prog zcE [eE a,eE b] [] (.I (cmpE a b)) []:=by
 refine ziq.acalls (nbz rfl) (nbz rfl) (Nat.le_refl _) ?_
 show awp _ 0 _ _ ⟨17,[(0,eE a),(1,eE b)],[],16⟩
 refine zaa ?_
 refine zac (s:=?s1) rfl ?o1 ?q1
 case o1=>simp; rfl
 refine zaa ?_
 refine zcU (s:=?s2) (tr:=?t2) rfl ?o2 ?r2 ?q2
 case o2 =>
  simp; refine zal (zga ..) rfl ?_; simp; refine zal (zga ..) rfl ?_; simp [zeN]
  refine ziE [120] (zuH [cmpI a.f b.f,cmpI a.t b.t] (by simp)) (by simp) (.sc _) ?_; simp; constructor <;> rfl
 case r2=>rfl
 refine zag ?_
 exact ⟨.inr rfl,zam.one (by simp; exact .refl _)⟩
def idxI (l : List Int) (x : Int) : Int:=if x ∈ l then (l.idxOf x : Int) else -1
theorem zbV (l : List Int) (x : Int) (hl : l.length ≤ 9223372036854775807) : zaj Tryz.prog zaJ [ints l,.I x] [] (.I (idxI l x)) []:=by
 refine zeu.acalls (nbz rfl) (nbz rfl) (Nat.le_refl _) ?_
 show awp _ 0 _ _ ⟨19,[(0,ints l),(1,.I x)],[],16⟩
 refine zaa ?_
 refine zac (s:=?s1) rfl ?o1 ?q1
 case o1=>simp; rfl
 refine zaa ?_
 refine zaa ?_
 refine zac (s:=?s2) rfl ?o2 ?q2
 case o2=>simp; rfl
 refine zaf ?_
 refine zan (ι:=Nat) (fun k=>⟨19,[(0,ints l),(1,.I x),(6,ints l),(7,.I l.length),(8,.I k)],[],16⟩) (fun k=>k ≤ l.length ∧ x ∉ l.take k) (fun k=>l.length - k) 0 ?_ (Le.slots rfl rfl ?_) ?_
 ·simp
 ·simp
 rintro k ⟨hk,hn⟩
 refine zaa ?_
 refine zac (s:=?s3) rfl ?o3 ?q3
 case o3=>simp; rfl
 refine zaa ?_
 refine zad _ rfl (fun h4=>?_) fun h4=>?_
 ·simp at h4
  refine zae ?_
  refine zaa ?_
  refine zaf ?_
  refine zaa ?_
  refine zac (s:=?s5) rfl ?o5 ?q5
  case o5=>simp; rfl
  refine zaa ?_
  refine zac (s:=?s6) rfl ?o6 ?q6
  case o6=>simp [h4]; rfl
  refine zad _ rfl (fun h7=>?_) fun h7=>?_
  ·refine zaa ?_
   refine zac (s:=?s8) rfl ?o8 ?q8
   case o8=>simp; rfl
   refine zag ?_
   have hm : x ∈ l:=by simp at h7; rw [h7]; exact List.getElem_mem h4
   have hi : l.idxOf x = k:=by
    simp at h7
    have h1 : l = l.take k ++ x :: l.drop (k + 1):=by rw [h7,← List.drop_eq_getElem_cons h4,List.take_append_drop]
    rw [h1,List.idxOf_append,if_neg hn,List.idxOf_cons_self]
    simp
    omega
   exact ⟨.inr rfl,zam.one (by simp [idxI,hm,hi])⟩
  refine zae ?_
  refine zac (s:=?s9) rfl ?o9 ?q9
  case o9=>simp; rfl
  have hw : IntKind.i64.wrap ((k : Int) + 1) = (k : Int) + 1:=w64 (by omega) (by omega)
  refine ⟨k + 1,⟨h4,?_⟩,by omega,Le.slots rfl rfl ?_⟩
  ·intro hm
   simp at h7
   rw [List.take_succ_eq_append_getElem h4] at hm
   rcases List.mem_append.1 hm with h | h
   ·exact hn h
   ·exact h7 (List.mem_singleton.1 h)
  ·simp [hw]
 simp at h4
 refine zak ?_
 refine hit ?_
 refine zaa ?_
 refine zac (s:=?s10) rfl ?o10 ?q10
 case o10=>simp; rfl
 refine zag ?_
 rw [List.take_of_length_le h4] at hn
 exact ⟨.inr rfl,zam.one (by simp [idxI,hn])⟩
theorem zbl (l : List Int) (x : Int) (hl : l.length ≤ 140737488355328) : zaj Tryz.prog zaJ [ints l,.I x] [] (.I (idxI l x)) [] :=
 zbV l x (by omega)
theorem zkt (l : List Int) (x : Int) (hl : l.length ≤ 9223372036854775807) : zaj Tryz.prog zaq [ints l,.I x] [] (.B (decide (x ∈ l))) []:=by
 refine zdv.acalls (nbz rfl) (nbz rfl) (Nat.le_refl _) ?_
 show awp _ 0 _ _ ⟨9,[(0,ints l),(1,.I x)],[],16⟩
 refine zaa ?_
 refine zac (s:=?s1) rfl ?o1 ?q1
 case o1=>simp; rfl
 refine zaa ?_
 refine zac (s:=?s2) rfl ?o2 ?q2
 case o2=>simp; refine zal (zbV l x hl) rfl ?_; simp; rfl
 refine zag ?_
 have : decide (0 ≤ idxI l x) = decide (x ∈ l):=by
  unfold idxI
  by_cases h : x ∈ l
  ·simp [h]
  ·simp [h]
 exact ⟨.inr rfl,zam.one (by simp [this])⟩
theorem zdT (l : List Int) (x : Int) (hl : l.length ≤ 140737488355328) : zaj Tryz.prog zaq [ints l,.I x] [] (.B (decide (x ∈ l))) [] :=
 zkt l x (by omega)
def ziN (l : List Int) (lo hi : Int) (i : Nat) : Prop:=∀ h : i < l.length,lo ≤ l[i] ∧ l[i] ≤ hi ∧ (0 < i → l[i - 1] < l[i])
def Rise (l : List Int) (lo hi : Int) : Prop:=∀ i,ziN l lo hi i
open Classical in
theorem zgR (l : List Int) (lo hi : Int) (hl : l.length ≤ 9223372036854775807) : zaj Tryz.prog zbr [ints l,.I lo,.I hi] [] (.B (decide (Rise l lo hi))) []:=by
 refine zjo.acalls (nbz rfl) (nbz rfl) (Nat.le_refl _) ?_
 show awp _ 0 _ _ ⟨38,[(0,ints l),(1,.I lo),(2,.I hi)],[],16⟩
 refine zaa ?_
 refine zac (s:=?s1) rfl ?o1 ?q1
 case o1=>simp; rfl
 refine zaa ?_
 refine zaa ?_
 refine zac (s:=?s2) rfl ?o2 ?q2
 case o2=>simp; rfl
 refine zaf ?_
 refine zan (ι:=Nat) (fun k=>⟨38,[(0,ints l),(1,.I lo),(2,.I hi),(9,ints l),(10,.I l.length),(11,.I k)],[],16⟩) (fun k=>k ≤ l.length ∧ ∀ i,i < k → ziN l lo hi i) (fun k=>l.length - k) 0 ?_ (Le.slots rfl rfl ?_) ?_
 ·simp
 ·simp
 rintro k ⟨hk,hp⟩
 refine zaa ?_
 refine zac (s:=?s3) rfl ?o3 ?q3
 case o3=>simp; rfl
 refine zaa ?_
 refine zad _ rfl (fun h4=>?_) fun h4=>?_
 ·simp at h4
  have hw : IntKind.i64.wrap ((k : Int) + 1) = (k : Int) + 1:=w64 (by omega) (by omega)
  refine zae ?_
  refine zaa ?_
  refine zaf ?_
  refine zaa ?_
  refine zac (s:=?s5) rfl ?o5 ?q5
  case o5=>simp [h4]; rfl
  refine zaa ?_
  by_cases a1 : l[k] < lo
  ·refine zac (s:=?s21) rfl ?o21 ?q21
   case o21=>simp [a1]; rfl
   refine zad _ rfl (fun _=>?_) fun h=>by cases h
   refine zaa ?_
   refine zac (s:=?s21b) rfl ?o21b ?q21b
   case o21b=>simp; rfl
   refine zag ?_
   have hn : ¬ Rise l lo hi:=fun h=>by have:=h k h4; omega
   exact ⟨.inr rfl,zam.one (by simp [hn])⟩
  by_cases a2 : hi < l[k]
  ·refine zac (s:=?s22) rfl ?o22 ?q22
   case o22=>simp [a1,a2]; rfl
   refine zad _ rfl (fun _=>?_) fun h=>by cases h
   refine zaa ?_
   refine zac (s:=?s22b) rfl ?o22b ?q22b
   case o22b=>simp; rfl
   refine zag ?_
   have hn : ¬ Rise l lo hi:=fun h=>by have:=h k h4; omega
   exact ⟨.inr rfl,zam.one (by simp [hn])⟩
  by_cases a3 : 0 < k
  ·have hw1 : IntKind.i64.wrap ((k : Int) - 1) = ((k - 1 : Nat) : Int):=by rw [w64 (by omega) (by omega)]; omega
   have h5 : k - 1 < l.length:=by omega
   by_cases a4 : l[k] ≤ l[k - 1]
   ·refine zac (s:=?s23) rfl ?o23 ?q23
    case o23=>simp [a1,a2,a3,a4,hw1,h5]; rfl
    refine zad _ rfl (fun _=>?_) fun h=>by cases h
    refine zaa ?_
    refine zac (s:=?s23b) rfl ?o23b ?q23b
    case o23b=>simp; rfl
    refine zag ?_
    have hn : ¬ Rise l lo hi:=fun h=>by have:=h k h4; have:=this.2.2 a3; omega
    exact ⟨.inr rfl,zam.one (by simp [hn])⟩
   ·refine zac (s:=?s24) rfl ?o24 ?q24
    case o24=>simp [a1,a2,a3,a4,hw1,h5]; rfl
    refine zad _ rfl (fun h=>by cases h) fun _=>zae ?_
    refine zac (s:=?s24b) rfl ?o24b ?q24b
    case o24b=>simp; rfl
    refine ⟨k + 1,⟨h4,fun i hi=>?_⟩,by omega,Le.slots rfl rfl ?_⟩
    ·rcases Nat.lt_succ_iff_lt_or_eq.1 hi with h | rfl
     ·exact hp i h
     ·intro _; exact ⟨by omega,by omega,fun _=>by omega⟩
    ·simp [hw]
  ·refine zac (s:=?s25) rfl ?o25 ?q25
   case o25=>simp [a1,a2,a3]; rfl
   refine zad _ rfl (fun h=>by cases h) fun _=>zae ?_
   refine zac (s:=?s25b) rfl ?o25b ?q25b
   case o25b=>simp; rfl
   refine ⟨k + 1,⟨h4,fun i hi=>?_⟩,by omega,Le.slots rfl rfl ?_⟩
   ·rcases Nat.lt_succ_iff_lt_or_eq.1 hi with h | rfl
    ·exact hp i h
    ·intro _; exact ⟨by omega,by omega,fun h=>absurd h a3⟩
   ·simp [hw]
 simp at h4
 refine zak ?_
 refine hit ?_
 refine zaa ?_
 refine zac (s:=?s10) rfl ?o10 ?q10
 case o10=>simp; rfl
 refine zag ?_
 have hy : Rise l lo hi:=fun i hi=>hp i (by omega) hi
 exact ⟨.inr rfl,zam.one (by simp [hy])⟩
open Classical in
theorem zeT (l : List Int) (lo hi : Int) (hl : l.length ≤ 140737488355328) : zaj Tryz.prog zbr [ints l,.I lo,.I hi] [] (.B (decide (Rise l lo hi))) [] :=
 zgR l lo hi (by omega)
structure Gr where
 size : Int
 edges : List Ed
 gone : List Int
abbrev gC (g : Gr) : List AV:=[.I g.size,eEs g.edges,ints g.gone]
abbrev eG (g : Gr) : AV:=.agg (gC g)
abbrev eC (e : Ed) : List AV:=[.I e.f,.I e.t,.I e.v]
def Fits (g : Gr) (e : Ed) : Prop:=0 ≤ e.f ∧ e.f ≤ g.size - 1 ∧ 0 ≤ e.t ∧ e.t ≤ g.size - 1 ∧ e.f ≠ e.t ∧ e.f ∉ g.gone ∧ e.t ∉ g.gone
instance (g : Gr) (e : Ed) : Decidable (Fits g e):=by unfold Fits; infer_instance
theorem zjY (g : Gr) (e : Ed) (hs : 0 ≤ g.size) (hs' : g.size ≤ 64) (hl : g.gone.length ≤ 140737488355328) : zaj Tryz.prog zdZ [eG g,eE e] [] (.B (decide (Fits g e))) []:=by
 refine zl7.acalls (nbz rfl) (nbz rfl) (Nat.le_refl _) ?_
 show awp _ 0 _ _ ⟨42,[(0,eG g),(1,eE e)],[],16⟩
 refine zab ⟨42,[(2,.pv (gC g)),(3,.pv (eC e)),(4,.B false)],[],16⟩ rfl ?_ ?_
 ·simp -implicitDefEqProofs
  exact Le.snap [16,24] rfl rfl (by simp)
 have hw : IntKind.i64.wrap (g.size - 1) = g.size - 1:=w64 (by omega) (by omega)
 refine zab ⟨42,[(4,.B (decide (Fits g e)))],[],16⟩ rfl ?_ ?_
 ·simp [hw]
  repeat' first
   | (refine zdw zaU rfl ?_; refine zal (zbK ..) rfl ?_; simp [hw])
   | (refine zdw zaq rfl ?_; refine zal (zdT _ _ hl) rfl ?_; simp [hw])
   | (refine zd3 (fun hb=>?_) (fun hb=>?_) <;> (try rw [hb]) <;> simp [hw])
  all_goals exact Le.snap [] rfl rfl (by simp; exact wkB (by simp at *; grind [Fits]))
 refine zag ?_
 exact ⟨.inr rfl,zam.one (by simp)⟩
def zmh (g : Gr) : Prop:=0 ≤ g.size ∧ g.size ≤ 64 ∧ g.edges.length ≤ 500 ∧ Rise g.gone 0 (g.size - 1)
def EdAt (g : Gr) (i : Nat) : Prop:=∀ h : i < g.edges.length,Fits g g.edges[i] ∧ 1 ≤ g.edges[i].v ∧ g.edges[i].v ≤ 3 ∧ (0 < i → cmpE g.edges[i - 1] g.edges[i] < 0)
def GrOk (g : Gr) : Prop:=zmh g ∧ ∀ i,EdAt g i
open Classical in
theorem zif (g : Gr) (hl : g.edges.length ≤ 140737488355328) (hl2 : g.gone.length ≤ 140737488355328) : zaj Tryz.prog zeR [eG g] [] (.I (if GrOk g then 0 else 14)) []:=by
 refine zkj.acalls (nbz rfl) (nbz rfl) (Nat.le_refl _) ?_
 show awp _ 0 _ _ ⟨58,[(0,eG g)],[],16⟩
 refine zab ⟨58,[(1,.pv (gC g))],[],16⟩ rfl ?_ ?_
 ·simp
  exact Le.snap [16] rfl rfl (by simp)
 refine zaa ?_
 refine zab ⟨58,[(1,.pv (gC g)),(23,.B (decide (¬ zmh g)))],[],16⟩ rfl ?_ ?_
 ·simp
  repeat' first
   | (refine zdw zaU rfl ?_; refine zal (zbK ..) rfl ?_; simp)
   | (refine zdw zbr rfl ?_; have hw : IntKind.i64.wrap (g.size - 1) = g.size - 1:=w64 (by omega) (by omega); rw [hw]; refine zal (zeT _ _ _ hl2) rfl ?_; simp)
   | (refine zd3 (fun hb=>?_) (fun hb=>?_) <;> (try rw [hb]) <;> (try simp at hb) <;> simp [hb])
  all_goals exact Le.snap [] rfl rfl (by simp; exact wkB (by (try simp at *); grind [zmh]))
 refine zad _ rfl (fun h1=>?_) fun h1=>?_
 ·refine zaa ?_
  refine zac (s:=?s2) rfl ?o2 ?q2
  case o2=>simp; rfl
  refine zag ?_
  simp at h1
  exact ⟨.inr rfl,zam.one (by simp [GrOk,h1])⟩
 simp at h1
 have hs:=h1.1
 have hs2:=h1.2.1
 refine zae ?_
 refine zaa ?_
 refine zaa ?_
 refine zac (s:=?s3) rfl ?o3 ?q3
 case o3=>simp; rfl
 refine zaf ?_
 refine zan (ι:=Nat) (fun k=>⟨58,[(1,.pv (gC g)),(25,eEs g.edges),(26,.I g.edges.length),(27,.I k)],[],16⟩) (fun k=>k ≤ g.edges.length ∧ ∀ i,i < k → EdAt g i) (fun k=>g.edges.length - k) (0) ?_ (Le.snap [] rfl rfl (by simp)) ?_
 ·simp
 rintro k ⟨hk,hp⟩
 refine zaa ?_
 refine zac (s:=?s4) rfl ?o4 ?q4
 case o4=>simp; rfl
 refine zaa ?_
 refine zad _ rfl (fun h5=>?_) fun h5=>?_
 ·simp at h5
  have hw2 : IntKind.i64.wrap ((k : Int) + 1) = (k : Int) + 1:=w64 (by omega) (by omega)
  have hwp : 0 < k → IntKind.i64.wrap ((k : Int) - 1) = ((k - 1 : Nat) : Int):=fun h=>by rw [w64 (by omega) (by omega)]; omega
  have h5' : k - 1 < g.edges.length:=by omega
  refine zae ?_
  refine zaa ?_
  refine zaf ?_
  refine zab ⟨58,[(1,.pv (gC g)),(3,.I k),(4,.pv (eC g.edges[k])),(25,eEs g.edges),(26,.I g.edges.length),(27,.I k)],[],16⟩ rfl ?_ ?_
  ·simp [h5]
   exact Le.snap [48] rfl rfl (by simp)
  refine zaO ⟨58,[(1,.pv (gC g)),(25,eEs g.edges),(26,.I g.edges.length),(27,.I k),(56,.B (decide (¬ EdAt g k)))],[],16⟩ rfl ?_ ?_
  ·simp
   repeat' first
    | (refine zdw zdZ rfl ?_; refine zal (zjY g _ hs hs2 hl2) rfl ?_; simp)
    | (refine zdw zaU rfl ?_; refine zal (zbK ..) rfl ?_; simp)
    | (refine zdw zcE rfl ?_; refine zal (zgO ..) rfl ?_; simp)
    | (refine zd3 (fun hb=>?_) (fun hb=>?_) <;> (try rw [hb]) <;> (try simp at hb) <;> simp [hb,h5,h5',hwp])
   all_goals exact ⟨rfl,Le.snap [] rfl rfl (by simp; exact wkB (by (try simp at *); grind [EdAt]))⟩
  refine zad _ rfl (fun h6=>?_) fun h6=>?_
  ·refine zaa ?_
   refine zac (s:=?s7) rfl ?o7 ?q7
   case o7=>simp; rfl
   refine zag ?_
   have hn : ¬ GrOk g:=fun h=>by simp at h6; exact h6 (h.2 k)
   exact ⟨.inr rfl,zam.one (by simp [hn])⟩
  simp at h6
  refine zae ?_
  refine zac (s:=?s8) rfl ?o8 ?q8
  case o8=>simp; rfl
  refine ⟨k + 1,⟨h5,fun i hi=>?_⟩,?_,Le.snap [] rfl rfl (by simp [hw2])⟩
  ·rcases Nat.lt_succ_iff_lt_or_eq.1 hi with h | rfl
   ·exact hp i h
   ·exact h6
  ·omega
 simp at h5
 have hy : GrOk g:=⟨h1,fun i hi=>hp i (by omega) hi⟩
 refine zak ?_
 refine hit ?_
 refine zaa ?_
 refine zac (s:=?s9) rfl ?o9 ?q9
 case o9=>simp; rfl
 refine zag ?_
 exact ⟨.inr rfl,zam.one (by simp [hy])⟩
def Bef (a b : Ed) : Prop:=a.f < b.f ∨ a.f = b.f ∧ a.t < b.t
instance (a b : Ed) : Decidable (Bef a b):=by unfold Bef; infer_instance
theorem zhu {a b : Ed} : cmpE a b < 0 ↔ Bef a b:=by
 simp only [cmpE,cmpI,Bef]
 grind
theorem zeM (a b : Ed) : zaj Tryz.prog zbL [eE a,eE b] [] (.B (decide (Bef a b))) []:=by
 refine zi7.acalls (nbz rfl) (nbz rfl) (Nat.le_refl _) ?_
 show awp _ 0 _ _ ⟨24,[(0,eE a),(1,eE b)],[],16⟩
 refine zab ⟨24,[(2,.pv (eC a)),(3,.pv (eC b))],[],16⟩ rfl ?_ ?_
 ·simp
  exact Le.snap [16,24] rfl rfl (by simp)
 refine zab ⟨24,[(4,.B (decide (Bef a b)))],[],16⟩ rfl ?_ ?_
 ·simp
  repeat' first
   | (refine zd3 (fun hb=>?_) (fun hb=>?_) <;> (try rw [hb]) <;> (try simp at hb) <;> simp [hb])
  all_goals exact Le.snap [] rfl rfl (by simp; exact wkB (by (try simp at *); grind [Bef]))
 refine zag ?_
 exact ⟨.inr rfl,zam.one (by simp)⟩
open Classical in
theorem zgJ (l : List Int) (n : Int) (hl : l.length ≤ 140737488355328) : zaj Tryz.prog zcX [ints l,.I n] [] (.B (decide (Rise l 0 (n - 1)))) []:=by
 refine znF.acalls (nbz rfl) (nbz rfl) (Nat.le_refl _) ?_
 show awp _ 0 _ _ ⟨41,[(0,ints l),(1,.I n)],[],16⟩
 refine zaa ?_
 refine zac (s:=?s1) rfl ?o1 ?q1
 case o1=>simp; rfl
 refine zaa ?_
 refine zaa ?_
 refine zac (s:=?s2) rfl ?o2 ?q2
 case o2=>simp; rfl
 refine zaf ?_
 refine zan (ι:=Nat) (fun k=>⟨41,[(0,ints l),(1,.I n),(5,.I k)],[],16⟩) (fun k=>k ≤ l.length ∧ ∀ i,i < k → ziN l 0 (n - 1) i) (fun k=>l.length - k) (0) ?_ (Le.snap [] rfl rfl (by simp)) ?_
 ·simp
 rintro k ⟨hk,hp⟩
 refine zaa ?_
 refine zaa ?_
 refine zac (s:=?s3) rfl ?o3 ?q3
 case o3=>simp; rfl
 refine zad _ rfl (fun h4=>?_) fun h4=>?_
 ·try simp at h4
  have hw2 : IntKind.i64.wrap ((k : Int) + 1) = (k : Int) + 1:=w64 (by omega) (by omega)
  have hwp : 0 < k → IntKind.i64.wrap ((k : Int) - 1) = ((k - 1 : Nat) : Int):=fun h=>by rw [w64 (by omega) (by omega)]; omega
  have hkp : k - 1 < l.length:=by omega
  refine zae ?_
  refine zaa ?_
  refine zaf ?_
  refine zaO ⟨41,[(0,ints l),(1,.I n),(5,.I k),(40,.B (decide (¬ ziN l 0 (n - 1) k)))],[],16⟩ rfl ?_ ?_
  ·simp [h4,hw2,hwp,hkp]
   repeat' first
    | (refine zd3 (fun hb=>?_) (fun hb=>?_) <;> (try rw [hb]) <;> (try simp at hb) <;> simp [hb,h4,hw2,hwp,hkp])
   all_goals exact ⟨rfl,Le.snap [] rfl rfl (by simp; exact wkB (by (try simp at *); grind [ziN]))⟩
  refine zad _ rfl (fun h5=>?_) fun h5=>?_
  ·try simp at h5
   refine zaa ?_
   refine zac (s:=?s6) rfl ?o6 ?q6
   case o6=>simp [h4,hw2,hwp,hkp]; rfl
   refine zag ?_
   have hn : ¬ Rise l 0 (n - 1):=fun h=>h5 (h k)
   exact ⟨.inr rfl,zam.one (by simp [hn])⟩
  try simp at h5
  refine zae ?_
  refine zac (s:=?s7) rfl ?o7 ?q7
  case o7=>simp [h4,hw2,hwp,hkp]; rfl
  refine ⟨k + 1,⟨h4,fun i hi=>?_⟩,by omega,Le.snap [] rfl rfl (by simp [h4,hw2,hwp,hkp])⟩
  rcases Nat.lt_succ_iff_lt_or_eq.1 hi with h | rfl
  ·exact hp i h
  ·exact h5
 try simp at h4
 have hall : ∀ i,i < l.length → ziN l 0 (n - 1) i:=fun i hi=>hp i (by omega)
 refine zak ?_
 refine hit ?_
 refine zaa ?_
 refine zac (s:=?s8) rfl ?o8 ?q8
 case o8=>simp; rfl
 refine zag ?_
 have hy : Rise l 0 (n - 1):=fun i hi=>hall i hi hi
 exact ⟨.inr rfl,zam.one (by simp [hy])⟩
def EdA (g : Gr) (e : Ed) : Prop:=0 ≤ e.f ∧ e.f < g.size ∧ 0 ≤ e.t ∧ e.t < g.size ∧ e.f ≠ e.t ∧ 1 ≤ e.v ∧ e.v ≤ 3
instance (g : Gr) (e : Ed) : Decidable (EdA g e):=by unfold EdA; infer_instance
def EdB (g : Gr) (k : Nat) : Prop:=∀ h : k < g.edges.length,(0 < k → Bef g.edges[k - 1] g.edges[k]) ∧ g.edges[k].f ∉ g.gone ∧ g.edges[k].t ∉ g.gone
theorem zju (g : Gr) (k : Nat) (h : k < g.edges.length) : EdAt g k ↔ EdA g g.edges[k] ∧ EdB g k:=by
 simp only [EdAt,EdA,EdB,Fits,zhu]
 grind
open Classical in
theorem ze9 (g : Gr) (hl : g.edges.length ≤ 140737488355328) (hl2 : g.gone.length ≤ 140737488355328) : zaj Tryz.prog zdm [eG g] [] (.I (if GrOk g then 0 else 14)) []:=by
 refine zkE.acalls (nbz rfl) (nbz rfl) (Nat.le_refl _) ?_
 show awp _ 0 _ _ ⟨105,[(0,eG g)],[],16⟩
 refine zab ⟨105,[(1,.pv (gC g))],[],16⟩ rfl ?_ ?_
 ·simp
  exact Le.snap [16] rfl rfl (by simp)
 refine zaa ?_
 refine zab ⟨105,[(1,.pv (gC g)),(26,.B (decide (¬ zmh g)))],[],16⟩ rfl ?_ ?_
 ·simp
  repeat' first
   | (refine zdw zcX rfl ?_; refine zal (zgJ _ _ hl2) rfl ?_; simp)
   | (refine zd3 (fun hb=>?_) (fun hb=>?_) <;> (try rw [hb]) <;> (try simp at hb) <;> simp [hb])
  all_goals exact Le.snap [] rfl rfl (by simp; exact wkB (by (try simp at *); grind [zmh,EdA,EdB]))
 refine zad _ rfl (fun h1=>?_) fun h1=>?_
 ·try simp at h1
  refine zaa ?_
  refine zac (s:=?s2) rfl ?o2 ?q2
  case o2=>simp; rfl
  refine zag ?_
  exact ⟨.inr rfl,zam.one (by simp [GrOk,h1])⟩
 try simp at h1
 refine zae ?_
 refine zaa ?_
 refine zaa ?_
 refine zac (s:=?s3) rfl ?o3 ?q3
 case o3=>simp; rfl
 refine zaf ?_
 refine zan (ι:=Nat) (fun k=>⟨105,[(1,.pv (gC g)),(3,.I k)],[],16⟩) (fun k=>k ≤ g.edges.length ∧ ∀ i,i < k → EdAt g i) (fun k=>g.edges.length - k) (0) ?_ (Le.snap [] rfl rfl (by simp)) ?_
 ·simp
 rintro k ⟨hk,hp⟩
 refine zaa ?_
 refine zaa ?_
 refine zac (s:=?s4) rfl ?o4 ?q4
 case o4=>simp; rfl
 refine zad _ rfl (fun h5=>?_) fun h5=>?_
 ·try simp at h5
  have hw2 : IntKind.i64.wrap ((k : Int) + 1) = (k : Int) + 1:=w64 (by omega) (by omega)
  have hwp : 0 < k → IntKind.i64.wrap ((k : Int) - 1) = ((k - 1 : Nat) : Int):=fun h=>by rw [w64 (by omega) (by omega)]; omega
  have hkp : k - 1 < g.edges.length:=by omega
  refine zae ?_
  refine zaa ?_
  refine zaf ?_
  refine zab ⟨105,[(1,.pv (gC g)),(3,.I k),(4,.pv (eC g.edges[k]))],[],16⟩ rfl ?_ ?_
  ·simp [h5,hw2,hwp,hkp]
   exact Le.snap [96] rfl rfl (by simp [h5,hw2,hwp,hkp])
  refine zaa ?_
  refine zab ⟨105,[(1,.pv (gC g)),(3,.I k),(4,.pv (eC g.edges[k])),(77,.B (decide (¬ EdA g g.edges[k])))],[],16⟩ rfl ?_ ?_
  ·simp [h5,hw2,hwp,hkp]
   repeat' first
    | (refine zd3 (fun hb=>?_) (fun hb=>?_) <;> (try rw [hb]) <;> (try simp at hb) <;> simp [hb,h5,hw2,hwp,hkp])
   all_goals exact Le.snap [] rfl rfl (by simp; exact wkB (by (try simp at *); grind [zmh,EdA,EdB]))
  refine zad _ rfl (fun h6=>?_) fun h6=>?_
  ·try simp at h6
   refine zaa ?_
   refine zac (s:=?s7) rfl ?o7 ?q7
   case o7=>simp [h5,hw2,hwp,hkp]; rfl
   refine zag ?_
   have hn : ¬ GrOk g:=fun h=>by have h2:=(zju g k h5).1 (h.2 k); simp_all
   exact ⟨.inr rfl,zam.one (by simp [hn])⟩
  try simp at h6
  refine zae ?_
  refine zaO ⟨105,[(1,.pv (gC g)),(3,.I k),(104,.B (decide (¬ EdB g k)))],[],16⟩ rfl ?_ ?_
  ·simp [h5,hw2,hwp,hkp]
   repeat' first
    | (refine zdw zbL rfl ?_; refine zal (zeM ..) rfl ?_; simp [h5,hw2,hwp,hkp])
    | (refine zdw zaZ rfl ?_; refine zal (zkT _ _ hl2) rfl ?_; simp [h5,hw2,hwp,hkp])
    | (refine zd3 (fun hb=>?_) (fun hb=>?_) <;> (try rw [hb]) <;> (try simp at hb) <;> simp [hb,h5,hw2,hwp,hkp])
   all_goals exact ⟨rfl,Le.snap [] rfl rfl (by simp; exact wkB (by (try simp at *); grind [zmh,EdA,EdB]))⟩
  refine zad _ rfl (fun h8=>?_) fun h8=>?_
  ·try simp at h8
   refine zaa ?_
   refine zac (s:=?s9) rfl ?o9 ?q9
   case o9=>simp [h5,hw2,hwp,hkp]; rfl
   refine zag ?_
   have hn : ¬ GrOk g:=fun h=>by have h2:=(zju g k h5).1 (h.2 k); simp_all
   exact ⟨.inr rfl,zam.one (by simp [hn])⟩
  try simp at h8
  refine zae ?_
  refine zac (s:=?s10) rfl ?o10 ?q10
  case o10=>simp [h5,hw2,hwp,hkp]; rfl
  refine ⟨k + 1,⟨h5,fun i hi=>?_⟩,by omega,Le.snap [] rfl rfl (by simp [h5,hw2,hwp,hkp])⟩
  rcases Nat.lt_succ_iff_lt_or_eq.1 hi with h | rfl
  ·exact hp i h
  ·exact (zju g i h5).2 ⟨h6,h8⟩
 try simp at h5
 have hall : ∀ i,i < g.edges.length → EdAt g i:=fun i hi=>hp i (by omega)
 refine zak ?_
 refine hit ?_
 refine zaa ?_
 refine zac (s:=?s11) rfl ?o11 ?q11
 case o11=>simp; rfl
 refine zag ?_
 have hy : GrOk g:=⟨h1,fun i hi=>hall i hi hi⟩
 exact ⟨.inr rfl,zam.one (by simp [hy])⟩
theorem zpW (l : List Int) (hl : l.length * 8 ≤ 140737488355328) : zaj Tryz.prog zbA [ints l] [] (.rs 0 0 l.length) [some ⟨1,l.map fun n=>[AV.I n],0⟩]:=by
 cases l with
 | nil =>
   refine zlu fun ad c=>?_
   refine zcs.acalls (nbz rfl) (nbz rfl) (Nat.zero_le _) ?_
   show awp _ 0 _ _ ⟨8,[(0,.sc (.slice ad 0 c))],[],16⟩
   refine zaa ?_
   refine zac (s:=?s1) rfl ?o1 ?q1
   case o1=>simp; rfl
   refine zat (ι:=Unit) (fun _=>⟨8,[(0,.vs 1 false [])],[],40⟩) (fun _=>True) ?_ fun _ _=>?_
   ·refine zaa ?_
    refine zac (s:=?s2) rfl ?o2 ?q2
    case o2=>simp; rfl
    refine zad _ rfl (fun h3=>?_) fun h3=>?_
    ·refine zab ⟨8,[(2,.rs 40 0 0)],[(40,some ⟨1,[],0⟩)],48⟩ rfl ?_ ?_
     ·simp
      exact Le.lst [] [] [(40,1)] rfl (by simp) (by simp) (by simp) (by simp) (by simp) (by simp) (by simp) (by simp [Up]) (by simp)
     refine zag ?_
     exact ⟨.inr rfl,zam.out [40] [] rfl (by simp) (by simp) (by simp) (by simp)⟩
    refine zae ?_
    exact ⟨(),trivial,Le.slots rfl rfl (by simp; exact .mt _ _ _)⟩
   refine zaa ?_
   refine zac (s:=?s5) rfl ?o5 ?q5
   case o5=>simp [List.replicate]; rfl
   refine zag ?_
   exact ⟨.inr rfl,zam.out [56] [] rfl (by simp) (by simp) (by simp) (by simp)⟩
 | cons x l =>
   refine zcs.acalls (nbz rfl) (nbz rfl) (Nat.zero_le _) ?_
   show awp _ 0 _ _ ⟨8,[(0,ints (x :: l))],[],16⟩
   refine zaa ?_
   refine zac (s:=?t1) rfl ?p1 ?r1
   case p1=>simp; rfl
   refine zaa ?_
   refine zaa ?_
   refine zac (s:=?t2) rfl ?p2 ?r2
   case p2=>simp; rfl
   refine zad _ rfl (fun h3=>by cases h3) fun h3=>?_
   refine zae ?_
   refine zaa ?_
   refine zac (s:=?t4) rfl ?p4 ?r4
   case p4=>simp [List.replicate]; refine ⟨by simpa using hl,by simp at hl; omega,?_⟩; rfl
   refine zag ?_
   exact ⟨.inr rfl,zam.out [56] [] rfl (by simp) (by simp) (by simp) (by simp [fcd])⟩
theorem zo9 (l : List Ed) (hl : l.length * 24 ≤ 140737488355328) : zaj Tryz.prog zaQ [eEs l] [] (.rs 0 0 l.length) [some ⟨3,l.map fun e=>[AV.I e.f,AV.I e.t,AV.I e.v],0⟩]:=by
 cases l with
 | nil =>
   refine zlu fun ad c=>?_
   refine zbk.acalls (nbz rfl) (nbz rfl) (Nat.zero_le _) ?_
   show awp _ 0 _ _ ⟨8,[(0,.sc (.slice ad 0 c))],[],16⟩
   refine zaa ?_
   refine zac (s:=?s1) rfl ?o1 ?q1
   case o1=>simp; rfl
   refine zat (ι:=Unit) (fun _=>⟨8,[(0,.vs 3 false [])],[],40⟩) (fun _=>True) ?_ fun _ _=>?_
   ·refine zaa ?_
    refine zac (s:=?s2) rfl ?o2 ?q2
    case o2=>simp; rfl
    refine zad _ rfl (fun h3=>?_) fun h3=>?_
    ·refine zab ⟨8,[(2,.rs 40 0 0)],[(40,some ⟨3,[],0⟩)],48⟩ rfl ?_ ?_
     ·simp
      exact Le.lst [] [] [(40,3)] rfl (by simp) (by simp) (by simp) (by simp) (by simp) (by simp) (by simp) (by simp [Up]) (by simp)
     refine zag ?_
     exact ⟨.inr rfl,zam.out [40] [] rfl (by simp) (by simp) (by simp) (by simp)⟩
    refine zae ?_
    exact ⟨(),trivial,Le.slots rfl rfl (by simp; exact .mt _ _ _)⟩
   refine zaa ?_
   refine zac (s:=?s5) rfl ?o5 ?q5
   case o5=>simp [List.replicate]; rfl
   refine zag ?_
   exact ⟨.inr rfl,zam.out [56] [] rfl (by simp) (by simp) (by simp) (by simp)⟩
 | cons x l =>
   refine zbk.acalls (nbz rfl) (nbz rfl) (Nat.zero_le _) ?_
   show awp _ 0 _ _ ⟨8,[(0,eEs (x :: l))],[],16⟩
   refine zaa ?_
   refine zac (s:=?t1) rfl ?p1 ?r1
   case p1=>simp; rfl
   refine zaa ?_
   refine zaa ?_
   refine zac (s:=?t2) rfl ?p2 ?r2
   case p2=>simp; rfl
   refine zad _ rfl (fun h3=>by cases h3) fun h3=>?_
   refine zae ?_
   refine zaa ?_
   refine zac (s:=?t4) rfl ?p4 ?r4
   case p4=>simp [List.replicate]; refine ⟨by simpa using hl,by simp at hl; omega,?_⟩; rfl
   refine zag ?_
   exact ⟨.inr rfl,zam.out [56] [] rfl (by simp) (by simp) (by simp) (by simp [fcd])⟩
def idxE (l : List Ed) (e : Ed) : Nat:=l.findIdx fun x=>!decide (Bef x e)
def AtE (l : List Ed) (k : Nat) (f t : Int) : Prop:=∃ h : k < l.length,l[k].f = f ∧ l[k].t = t
instance (l : List Ed) (k : Nat) (f t : Int) : Decidable (AtE l k f t):=by unfold AtE; infer_instance
def ztl (l : List Ed) (e : Ed) (k : Nat) : Prop:=∀ h : k < l.length,Bef l[k] e
theorem zor (l : List Ed) (e : Ed) : idxE l e ≤ l.length:=List.findIdx_le_length
theorem zsy {l : List Ed} {e : Ed} {k : Nat} (hk : k ≤ l.length) (h1 : ∀ i,i < k → ztl l e i) (h2 : ∀ h : k < l.length,¬ Bef l[k] e) : idxE l e = k:=by
 unfold idxE
 rcases Nat.lt_or_ge k l.length with h | h
 ·rw [List.findIdx_eq h]
  refine ⟨by simpa using h2 h,fun j hj=>?_⟩
  simpa using h1 j hj (by omega)
 ·obtain rfl : k = l.length:=by omega
  rw [List.findIdx_eq_length]
  intro x hx
  obtain ⟨i,hi,rfl⟩:=List.mem_iff_getElem.1 hx
  simpa using h1 i hi hi
theorem zio (g : Gr) (f t : Int) (hl : g.edges.length ≤ 140737488355328) : zaj Tryz.prog zeE [eG g,.I f,.I t] [] (.tup [.I (idxE g.edges ⟨f,t,0⟩),.B (decide (AtE g.edges (idxE g.edges ⟨f,t,0⟩) f t))]) []:=by
 refine zk9.acalls (nbz rfl) (nbz rfl) (Nat.le_refl _) ?_
 show awp _ 0 _ _ ⟨53,[(0,eG g),(1,.I f),(2,.I t)],[],16⟩
 refine zab ⟨53,[(1,.I f),(2,.I t),(3,.pv (gC g))],[],16⟩ rfl ?_ ?_
 ·simp
  exact Le.snap [16] rfl rfl (by simp)
 refine zaa ?_
 refine zac (s:=?s1) rfl ?o1 ?q1
 case o1=>simp; rfl
 refine zaa ?_
 refine zaf ?_
 refine zan (ι:=Nat) (fun k=>⟨53,[(1,.I f),(2,.I t),(3,.pv (gC g)),(8,.I k)],[],16⟩) (fun k=>k ≤ g.edges.length ∧ ∀ i,i < k → ztl g.edges ⟨f,t,0⟩ i) (fun k=>g.edges.length - k) (0) ?_ (Le.snap [] rfl rfl (by simp)) ?_
 ·simp
 rintro k ⟨hk,hp⟩
 refine zaa ?_
 refine zab ⟨53,[(1,.I f),(2,.I t),(3,.pv (gC g)),(8,.I k),(24,.B (decide (∃ h : k < g.edges.length,Bef g.edges[k] ⟨f,t,0⟩)))],[],16⟩ rfl ?_ ?_
 ·simp
  repeat' first
   | (refine zdw zbL rfl ?_; refine zal (zeM _ ⟨f,t,0⟩) rfl ?_; simp)
   | (refine zd3 (fun hb=>?_) (fun hb=>?_) <;> (try rw [hb]) <;> (try simp at hb) <;> simp [*])
  all_goals exact Le.snap [] rfl rfl (by simp <;> exact wkB (by (try simp at *); grind))
 refine zad _ rfl (fun h2=>?_) fun h2=>?_
 ·try simp at h2
  obtain ⟨h2,h2b⟩:=h2
  have hw2 : IntKind.i64.wrap ((k : Int) + 1) = (k : Int) + 1:=w64 (by omega) (by omega)
  have hwp : 0 < k → IntKind.i64.wrap ((k : Int) - 1) = ((k - 1 : Nat) : Int):=fun h=>by rw [w64 (by omega) (by omega)]; omega
  have hkp : k - 1 < g.edges.length:=by omega
  refine zae ?_
  refine zaf ?_
  refine zac (s:=?s3) rfl ?o3 ?q3
  case o3=>simp [h2,hw2,hwp,hkp]; rfl
  refine ⟨k + 1,⟨h2,fun i hi=>?_⟩,by omega,Le.snap [] rfl rfl (by simp [h2,hw2,hwp,hkp])⟩
  rcases Nat.lt_succ_iff_lt_or_eq.1 hi with h | rfl
  ·exact hp i h
  ·exact fun _=>h2b
 try simp at h2
 rw [zsy hk hp h2]
 refine zak ?_
 refine hit ?_
 refine zaO ⟨53,[(6,.I k),(7,.B (decide (AtE g.edges k f t)))],[],16⟩ rfl ?_ ?_
 ·simp
  repeat' first
   | (refine zd3 (fun hb=>?_) (fun hb=>?_) <;> (try rw [hb]) <;> (try simp at hb) <;> simp [*])
  all_goals exact ⟨rfl,Le.snap [] rfl rfl (by simp <;> exact wkB (by (try simp at *); grind [AtE]))⟩
 refine zag ?_
 exact ⟨.inr rfl,zam.out [] [] rfl (by simp) (by simp) (by simp) (by simp)⟩
theorem zfy (g : Gr) (hl : g.edges.length * 24 ≤ 140737488355328) (hl2 : g.gone.length * 8 ≤ 140737488355328) : zaj Tryz.prog zei [eG g] [] (.agg [.I g.size,.rs 0 0 g.edges.length,.rs 1 0 g.gone.length]) [some ⟨3,g.edges.map fun e=>[AV.I e.f,AV.I e.t,AV.I e.v],0⟩,some ⟨1,g.gone.map fun n=>[AV.I n],0⟩]:=by
 refine zma.acalls (nbz rfl) (nbz rfl) (Nat.zero_le _) ?_
 show awp _ 0 _ _ ⟨12,[(0,eG g)],[],16⟩
 have hl3 : g.edges.length ≤ 140737488355328:=by omega
 have hl4 : g.gone.length ≤ 140737488355328:=by omega
 refine zaa ?_
 refine zac (s:=?s0) rfl ?o0 ?q0
 case o0=>simp; rfl
 refine zaa ?_
 refine zcU (s:=?s1) (tr:=?t1) rfl ?o1 ?r1 ?q1
 case o1=>simp [hl,hl2,hl3,hl4]; constructor <;> rfl
 case r1=>rfl
 refine zag ?_
 refine ⟨.inr rfl,?_⟩
 show zam [(2,some (true,3))] 0 _ _ _
 exact zam.out (vs:=[.agg [.I g.size,.rs 64 0 g.edges.length,.rs 88 0 g.gone.length]]) [64,88] [] (by simp) (by simp) (by simp) (by simp) (by simp [fcd])
theorem zhX (g : Gr) (hl : g.edges.length * 24 ≤ 140737488355328) (hl2 : g.gone.length * 8 ≤ 140737488355328) : zaj Tryz.prog zd9 [eG g] [] (.agg [.I g.size,.rs 0 0 g.edges.length,.rs 1 0 g.gone.length]) [some ⟨3,g.edges.map fun e=>[AV.I e.f,AV.I e.t,AV.I e.v],0⟩,some ⟨1,g.gone.map fun n=>[AV.I n],0⟩]:=by
 refine zjw.acalls (nbz rfl) (nbz rfl) (Nat.zero_le _) ?_
 show awp _ 0 _ _ ⟨12,[(0,eG g)],[],16⟩
 have hl3 : g.edges.length ≤ 140737488355328:=by omega
 have hl4 : g.gone.length ≤ 140737488355328:=by omega
 refine zaa ?_
 refine zac (s:=?s0) rfl ?o0 ?q0
 case o0=>simp; rfl
 refine zaa ?_
 refine zcU (s:=?s1) (tr:=?t1) rfl ?o1 ?r1 ?q1
 case o1=>simp; refine zdK (zo9 _ hl) rfl ?_; simp; refine zdK (zpW _ hl2) rfl ?_; simp [fcd]; constructor <;> rfl
 case r1=>rfl
 refine zag ?_
 refine ⟨.inr rfl,?_⟩
 show zam [(2,some (true,3))] 0 _ _ _
 exact zam.out (vs:=[.agg [.I g.size,.rs 64 0 g.edges.length,.rs 88 0 g.gone.length]]) [64,88] [] (by simp) (by simp) (by simp) (by simp) (by simp [fcd])
theorem zoL {α : Type} {a b : List α} (h : a.length = b.length) (hp : ∀ i,i < a.length → a[i]? = b[i]?) : a = b:=by
 apply List.ext_getElem?
 intro i
 rcases Nat.lt_or_ge i a.length with h1 | h1
 ·exact hp i h1
 ·rw [List.getElem?_eq_none h1,List.getElem?_eq_none (by omega)]
theorem zl6 (a b : List Int) (hl : a.length ≤ 140737488355328) : zaj Tryz.prog zda [ints a,ints b] [] (.B (decide (a = b))) []:=by
 refine zhE.acalls (nbz rfl) (nbz rfl) (Nat.le_refl _) ?_
 show awp _ 0 _ _ ⟨26,[(0,ints a),(1,ints b)],[],16⟩
 refine zaa ?_
 refine zac (s:=?s1) rfl ?o1 ?q1
 case o1=>simp; rfl
 refine zaa ?_
 refine zaa ?_
 refine zac (s:=?s2) rfl ?o2 ?q2
 case o2=>simp; rfl
 refine zad _ rfl (fun h3=>?_) fun h3=>?_
 ·try simp at h3
  refine zaa ?_
  refine zac (s:=?s4) rfl ?o4 ?q4
  case o4=>simp; rfl
  refine zag ?_
  have hn : a ≠ b:=fun h=>h3 (by rw [h])
  exact ⟨.inr rfl,zam.one (by simp [hn])⟩
 try simp at h3
 refine zae ?_
 refine zaa ?_
 refine zaa ?_
 refine zac (s:=?s5) rfl ?o5 ?q5
 case o5=>simp; rfl
 refine zaf ?_
 refine zan (ι:=Nat) (fun k=>⟨26,[(0,ints a),(1,ints b),(5,.I k)],[],16⟩) (fun k=>k ≤ a.length ∧ ∀ i,i < k → a[i]? = b[i]?) (fun k=>a.length - k) (0) ?_ (Le.snap [] rfl rfl (by simp)) ?_
 ·simp
 rintro k ⟨hk,hp⟩
 refine zaa ?_
 refine zaa ?_
 refine zac (s:=?s6) rfl ?o6 ?q6
 case o6=>simp; rfl
 refine zad _ rfl (fun h7=>?_) fun h7=>?_
 ·try simp at h7
  have hw2 : IntKind.i64.wrap ((k : Int) + 1) = (k : Int) + 1:=w64 (by omega) (by omega)
  have hwp : 0 < k → IntKind.i64.wrap ((k : Int) - 1) = ((k - 1 : Nat) : Int):=fun h=>by rw [w64 (by omega) (by omega)]; omega
  have hkp : k - 1 < a.length:=by omega
  have hkb : k < b.length:=by omega
  refine zae ?_
  refine zaa ?_
  refine zaf ?_
  refine zaa ?_
  refine zcU (s:=?s8) (tr:=?t8) rfl ?o8 ?r8 ?q8
  case o8=>simp [h7,hw2,hwp,hkp,hkb]; constructor <;> rfl
  case r8=>rfl
  refine zad _ rfl (fun h9=>?_) fun h9=>?_
  ·try simp at h9
   refine zaa ?_
   refine zac (s:=?s10) rfl ?o10 ?q10
   case o10=>simp [h7,hw2,hwp,hkp,hkb]; rfl
   refine zag ?_
   have hn : a ≠ b:=fun h=>h9 (by simp [h])
   exact ⟨.inr rfl,zam.one (by simp [hn])⟩
  try simp at h9
  refine zae ?_
  refine zac (s:=?s11) rfl ?o11 ?q11
  case o11=>simp [h7,hw2,hwp,hkp,hkb]; rfl
  refine ⟨k + 1,⟨h7,fun i hi=>?_⟩,by omega,Le.snap [] rfl rfl (by simp [h7,hw2,hwp,hkp,hkb])⟩
  rcases Nat.lt_succ_iff_lt_or_eq.1 hi with h | rfl
  ·exact hp i h
  ·simp [h7,hkb,h9]
 try simp at h7
 have hall : ∀ i,i < a.length → a[i]? = b[i]?:=fun i hi=>hp i (by omega)
 refine zak ?_
 refine hit ?_
 refine zaa ?_
 refine zac (s:=?s12) rfl ?o12 ?q12
 case o12=>simp; rfl
 refine zag ?_
 have hy : a = b:=zoL (by omega) hall
 exact ⟨.inr rfl,zam.one (by simp [hy])⟩
theorem zkF (a b : List Int) (hl : a.length ≤ 140737488355328) : zaj Tryz.prog zbC [ints a,ints b] [] (.B (decide (a = b))) []:=by
 refine zew.acalls (nbz rfl) (nbz rfl) (Nat.le_refl _) ?_
 show awp _ 0 _ _ ⟨26,[(0,ints a),(1,ints b)],[],16⟩
 refine zaa ?_
 refine zac (s:=?s1) rfl ?o1 ?q1
 case o1=>simp; rfl
 refine zaa ?_
 refine zaa ?_
 refine zac (s:=?s2) rfl ?o2 ?q2
 case o2=>simp; rfl
 refine zad _ rfl (fun h3=>?_) fun h3=>?_
 ·try simp at h3
  refine zaa ?_
  refine zac (s:=?s4) rfl ?o4 ?q4
  case o4=>simp; rfl
  refine zag ?_
  have hn : a ≠ b:=fun h=>h3 (by rw [h])
  exact ⟨.inr rfl,zam.one (by simp [hn])⟩
 try simp at h3
 refine zae ?_
 refine zaa ?_
 refine zaa ?_
 refine zac (s:=?s5) rfl ?o5 ?q5
 case o5=>simp; rfl
 refine zaf ?_
 refine zan (ι:=Nat) (fun k=>⟨26,[(0,ints a),(1,ints b),(12,.I a.length),(13,.I k)],[],16⟩) (fun k=>k ≤ a.length ∧ ∀ i,i < k → a[i]? = b[i]?) (fun k=>a.length - k) (0) ?_ (Le.snap [] rfl rfl (by simp)) ?_
 ·simp
 rintro k ⟨hk,hp⟩
 refine zaa ?_
 refine zac (s:=?s6) rfl ?o6 ?q6
 case o6=>simp; rfl
 refine zaa ?_
 refine zad _ rfl (fun h7=>?_) fun h7=>?_
 ·try simp at h7
  have hw2 : IntKind.i64.wrap ((k : Int) + 1) = (k : Int) + 1:=w64 (by omega) (by omega)
  have hwp : 0 < k → IntKind.i64.wrap ((k : Int) - 1) = ((k - 1 : Nat) : Int):=fun h=>by rw [w64 (by omega) (by omega)]; omega
  have hkp : k - 1 < a.length:=by omega
  have hkb : k < b.length:=by omega
  refine zae ?_
  refine zaa ?_
  refine zaf ?_
  refine zaa ?_
  refine zac (s:=?s8) rfl ?o8 ?q8
  case o8=>simp [h7,hw2,hwp,hkp,hkb]; rfl
  refine zaa ?_
  refine zcU (s:=?s9) (tr:=?t9) rfl ?o9 ?r9 ?q9
  case o9=>simp [h7,hw2,hwp,hkp,hkb]; constructor <;> rfl
  case r9=>rfl
  refine zad _ rfl (fun h10=>?_) fun h10=>?_
  ·try simp at h10
   refine zaa ?_
   refine zac (s:=?s11) rfl ?o11 ?q11
   case o11=>simp [h7,hw2,hwp,hkp,hkb]; rfl
   refine zag ?_
   have hn : a ≠ b:=fun h=>h10 (by simp [h])
   exact ⟨.inr rfl,zam.one (by simp [hn])⟩
  try simp at h10
  refine zae ?_
  refine zac (s:=?s12) rfl ?o12 ?q12
  case o12=>simp [h7,hw2,hwp,hkp,hkb]; rfl
  refine ⟨k + 1,⟨h7,fun i hi=>?_⟩,by omega,Le.snap [] rfl rfl (by simp [h7,hw2,hwp,hkp,hkb])⟩
  rcases Nat.lt_succ_iff_lt_or_eq.1 hi with h | rfl
  ·exact hp i h
  ·simp [h7,hkb,h10]
 try simp at h7
 have hall : ∀ i,i < a.length → a[i]? = b[i]?:=fun i hi=>hp i (by omega)
 refine zak ?_
 refine hit ?_
 refine zaa ?_
 refine zac (s:=?s13) rfl ?o13 ?q13
 case o13=>simp; rfl
 refine zag ?_
 have hy : a = b:=zoL (by omega) hall
 exact ⟨.inr rfl,zam.one (by simp [hy])⟩
def EqG (a b : Gr) : Prop:=a.size = b.size ∧ a.edges = b.edges ∧ a.gone = b.gone
instance (a b : Gr) : Decidable (EqG a b):=by unfold EqG; infer_instance
theorem zkp {P : Program} {f : FuncId} {xs ys : List AV} {hs : List Ent} {res : AV} {hs' : List (Option Ent)} (hl : xs.length = ys.length) (hw : ∀ i,i < ys.length → Wk (xs.getD i .dead) (ys.getD i .dead)) (h : zaj P f ys hs res hs') : zaj P f xs hs res hs' :=
 ⟨h.1,h.2.1,fun T M w vs h1 h2 h3 hr=>h.2.2 T M w vs h1 h2 h3 ⟨hr.1.trans hl,fun i hi=>(hw i hi).rep (hr.2 i (hl ▸ hi))⟩⟩
section
variable {H : Type}
def Fit (x : Int) : Prop:=-9223372036854775808 ≤ x ∧ x ≤ 9223372036854775807
variable {P : Program} {tI tE tEs tIs tG : TypeId}
def St3 (P : Program) (t a b c : TypeId) : Prop:=∃ f1 f2 f3 : Field,P.underlying t = some (.struct #[f1,f2,f3]) ∧ f1.type = a ∧ f2.type = b ∧ f3.type = c
theorem zna {n : Nat} (hI : P.underlying tI = some (.int .i64)) {d : DataW H} {cs : List AV} (h : avs P (n + 1) tI d = some cs) : ∃ x,cs = [.I x] ∧ Fit x:=by
 cases d <;> simp [avs,hI] at h
 rename_i l
 cases l <;> simp at h
 obtain ⟨⟨rfl,hw⟩,rfl⟩:=h
 refine ⟨_,rfl,?_⟩
 unfold Fit
 simpa [Lit.wf,IntKind.min,IntKind.max,IntKind.signed,IntKind.bits] using hw
theorem zqt {n : Nat} {t a b c : TypeId} (ht : St3 P t a b c) {d : DataW H} {cs : List AV} (h : avs P (n + 1) t d = some cs) : ∃ (d1 d2 d3 : DataW H) (c1 c2 c3 : List AV),avs P n a d1 = some c1 ∧ avs P n b d2 = some c2 ∧ avs P n c d3 = some c3 ∧ cs = c1 ++ (c2 ++ c3):=by
 obtain ⟨f1,f2,f3,hu,rfl,rfl,rfl⟩:=ht
 cases d <;> simp [avs,hu] at h
 rename_i ds
 obtain ⟨hl,l,h,rfl⟩:=h
 match ds,hl with
 | [d1,d2,d3],_ =>
   simp only [List.zip_cons_cons,List.zip_nil_right,List.zip_nil_left,List.mapM_cons,List.mapM_nil] at h
   cases h1 : avs P n f1.type d1 with
   | none=>simp [h1] at h
   | some c1 =>
     cases h2 : avs P n f2.type d2 with
     | none=>simp [h1,h2] at h
     | some c2 =>
       cases h3 : avs P n f3.type d3 with
       | none=>simp [h1,h2,h3] at h
       | some c3 =>
         simp [h1,h2,h3] at h
         subst h
         exact ⟨d1,d2,d3,c1,c2,c3,h1,h2,h3,by simp⟩
theorem zoK {α : Type} {f : DataW H → Option (List AV)} (Q : α → List AV) : ∀ {ds : List (DataW H)} {rows : List (List AV)},(∀ d row,f d = some row → ∃ a,row = Q a) → ds.mapM f = some rows → ∃ l : List α,rows = l.map Q
 | [],rows,_,h=>by simp at h; subst h; exact ⟨[],rfl⟩
 | d :: ds,rows,hf,h=>by
   simp only [List.mapM_cons] at h
   cases h1 : f d with
   | none=>simp [h1] at h
   | some row =>
     cases h2 : ds.mapM f with
     | none=>simp [h1,h2] at h
     | some rows' =>
       simp [h1,h2] at h
       subst h
       obtain ⟨a,rfl⟩:=hf d row h1
       obtain ⟨l,rfl⟩:=zoK Q hf h2
       exact ⟨a :: l,rfl⟩
theorem zm4 {α : Type} {n : Nat} {t e : TypeId} (ht : P.underlying t = some (.slice e)) (Q : α → List AV) (hf : ∀ (d : DataW H) row,avs P n e d = some row → ∃ a,row = Q a) {d : DataW H} {cs : List AV} (h : avs P (n + 1) t d = some cs) :
  ∃ (l : List α) (x : AV),cs = [x] ∧ Wk x (.vs (P.cellsOf e) false (l.map Q)):=by
 cases d <;> simp [avs,ht] at h
 ·subst h; exact ⟨[],_,rfl,.nil _ _⟩
 ·obtain ⟨_,rows,h,rfl⟩:=h
  obtain ⟨l,rfl⟩:=zoK Q hf h
  exact ⟨l,_,rfl,.refl _⟩
end
theorem ownK : ownKnob Tryz.prog.godebug = none:=by kernel_rfl
theorem ztJ : laidOutB Tryz.prog = true:=by kernel_rfl
section
variable {H : Type} {P : Program} {tI tIs : TypeId}
theorem zkP {n : Nat} (hI : P.underlying tI = some (.int .i64)) {d : DataW H} {x : AV} (h : zes P (n + 1) tI d = some x) : ∃ k : Int,x = .I k ∧ Fit k:=by
 simp only [zes,hI,Option.bind_eq_some_iff] at h
 obtain ⟨cs,h1,h2⟩:=h
 obtain ⟨k,rfl,hf⟩:=zna hI h1
 simp at h2
 exact ⟨k,h2.symm,hf⟩
theorem zgd {n : Nat} (hI : P.underlying tI = some (.int .i64)) (hIs : P.underlying tIs = some (.slice tI)) (cI : P.cellsOf tI = 1) {d : DataW H} {x : AV} (h : zes P (n + 2) tIs d = some x) : ∃ l : List Int,Wk x (ints l):=by
 simp only [zes,hIs,Option.bind_eq_some_iff] at h
 obtain ⟨cs,h1,h2⟩:=h
 obtain ⟨l,y,rfl,hw⟩:=zm4 hIs (fun x : Int=>[AV.I x]) (fun d row h=>by obtain ⟨x,h,_⟩:=zna hI h; exact ⟨x,h⟩) h1
 rw [cI] at hw
 simp at h2
 subst h2
 exact ⟨l,hw⟩
end
theorem zrK {H : Type} {P : Program} {n : Nat} {a b c : TypeId} {ds : List (DataW H)} {xs : List AV} (h : zf0 P n [a,b,c] ds = some xs) : ∃ (d1 d2 d3 : DataW H) (x1 x2 x3 : AV),ds = [d1,d2,d3] ∧ xs = [x1,x2,x3] ∧ zes P n a d1 = some x1 ∧ zes P n b d2 = some x2 ∧ zes P n c d3 = some x3:=by
 match ds,h with
 | [],h=>cases h
 | [_],h=>simp only [zf0] at h; split at h <;> simp_all
 | [_,_],h=>simp only [zf0] at h; split at h <;> simp_all
 | _ :: _ :: _ :: _ :: _,h=>simp only [zf0] at h; split at h <;> simp_all
 | [d1,d2,d3],h =>
   simp only [zf0] at h
   cases h1 : zes P n a d1 with
   | none=>simp [h1] at h
   | some x1 =>
     cases h2 : zes P n b d2 with
     | none=>simp [h1,h2] at h
     | some x2 =>
       cases h3 : zes P n c d3 with
       | none=>simp [h1,h2,h3] at h
       | some x3 =>
         simp [h1,h2,h3] at h
         exact ⟨d1,d2,d3,x1,x2,x3,rfl,h.symm,h1,h2,h3⟩
end Go.Proofs.YtfdbhehkkobfgaaGreat
