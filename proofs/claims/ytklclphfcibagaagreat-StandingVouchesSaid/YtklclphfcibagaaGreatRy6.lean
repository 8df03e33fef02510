/- Texts of this claim,merged. -/
import Derived.Test.YtklclphfcibagaaGreatRy5
set_option linter.unusedSimpArgs false
set_option linter.unusedVariables false
set_option linter.unusedSectionVars false
namespace Go.Proofs.YtklclphfcibagaaGreat
open Go
set_option maxRecDepth 100000
def zgT : AFun:=⟨17,[(2,none)],
 (sr [oo 1 (.box 1) [.t 0],oo 2 .mv [kn]]
 (sr [oo 3 .mv [kn]]
 (.seq (.seq
 (rg [oo 4 .mv [ki 0]])
 (.block 0 (.loop
 (.seq (.seq
 (rg [ma 5 4,oo 6 (.bin .lss) [.t 5,ki 64]])
 (.cond (.t 6)
 .skip
 (.exit 0)))
 (.seq (.block 1 (rg [ma 9 3,ma 10 4,oo 11 (.ld true 1) [.t 1],ma 12 4,ca 13 zfo [.t 11,.t 12],ca 14 zcp [.t 10,.t 13],oo 15 (.app 13 160) [.t 9,.t 14],ma 3 15]))
 (rg [ma 7 4,oo 8 (.bin .add) [.t 7,ki 1],ma 4 8]))))))
 (sr [ma 16 3,ma 2 16]
 .ret))))⟩
def ze2 : AFun:=⟨76,[(4,none)],
 (sr [oo 4 .mv [kn]]
 (sr [ma 9 0,ma 10 1,ca 11 zfq [.t 9,.t 10],ma 5 11]
 (sr [oo 6 .mv [kn]]
 (.seq (.seq
 (rg [oo 7 .mv [ki 0]])
 (.block 0 (.loop
 (.seq (.seq
 (rg [ma 12 7,ma 13 5,oo 14 .len [.t 13],oo 15 (.bin .lss) [.t 12,.t 14]])
 (.cond (.t 15)
 .skip
 (.exit 0)))
 (.seq (.block 1 (sr [ma 18 6,oo 19 .len [.t 18],ma 8 19]
 (.seq (.seq
 (rg [ma 20 5,ma 21 7,oo 22 (.iad 13) [.t 20,.t 21],fa 23 1 22,la 24 23,ma 25 8,oo 26 (.bin .neq) [.t 24,.t 25],ma 27 26,mh 28 7 27,oh 29 (.bin .add) [.t 28,ki 1] 27,mh 30 5 27,oh 31 .len [.t 30] 27,oh 32 (.bin .lss) [.t 29,.t 31] 27,mh 33 32 27,mg 34 5 33,mg 35 7 33,og 36 (.bin .add) [.t 35,ki 1] 33,og 37 (.iad 13) [.t 34,.t 36] 33,fg 38 1 37 33,lg 39 38 33,mg 40 8 33,og 41 (.bin .eql) [.t 39,.t 40] 33,oh 42 .pick [.t 33,.t 41,.c (.bool false)] 27,oo 43 .pick [.t 27,.c (.bool true),.t 42]])
 (.cond (.t 43)
 (.exit 0)
 .skip))
 (.seq (.seq
 (.reg true [ma 44 8,oo 45 (.bin .gtr) [.t 44,ki 0],ma 46 45,mg 47 6 46,mg 48 8 46,og 49 (.bin .sub) [.t 48,ki 1] 46,og 50 (.iad 13) [.t 47,.t 49] 46,og 51 (.ld true 13) [.t 50] 46,mg 52 5 46,mg 53 7 46,og 54 (.iad 13) [.t 52,.t 53] 46,og 55 (.ld true 13) [.t 54] 46,og 56 .call [.f zdO,.t 51,.t 55] 46,og 57 (.un .not) [.t 56] 46,mg 58 57 46,mh 59 6 58,mh 60 8 58,oh 61 (.bin .sub) [.t 60,ki 1] 58,oh 62 (.iad 13) [.t 59,.t 61] 58,fh 63 4 62 58,lh 64 63 58,oh 65 (.bin .eql) [.t 64,ki 3] 58,og 66 .pick [.t 58,.c (.bool true),.t 65] 46,oo 67 .pick [.t 46,.t 66,.c (.bool false)]] [[],[0],[1],[2],[2],[4,2],[3,5,2],[6,2],[2],[2],[8,9,2],[10,2],[7,11,2,2],[12,2],[13,12,2],[14],[14],[16,14],[15,17,14],[18,14],[19,14],[20,14],[14,21,2],[2,22]])
 (.cond (.t 67)
 (.exit 0)
 .skip))
 (rg [ma 68 6,ma 69 5,ma 70 7,oo 71 (.iad 13) [.t 69,.t 70],oo 72 (.ld true 13) [.t 71],oo 73 (.bsl 13 1 [v0,v0,ve,v0,v0,v0,v0,v0,vn,vn,ve,v0,ve] [0]) [.t 72],oo 74 (.app 13 160) [.t 68,.t 73],ma 6 74])))))
 (rg [ma 16 7,oo 17 (.bin .add) [.t 16,ki 1],ma 7 17]))))))
 (sr [ma 75 6,ma 4 75]
 .ret)))))⟩
def zkS : AFun:=⟨32,[(4,none)],
 (sr [oo 2 (.box 1) [.t 0],oo 4 .mv [kn]]
 (sr [oo 5 .mv [kn]]
 (.seq (.seq
 (rg [oo 6 .mv [ki 0]])
 (.block 0 (.loop
 (.seq (.seq
 (rg [ma 7 6,fa 8 0 2,la 9 8,oo 10 .len [.t 9],oo 11 (.bin .lss) [.t 7,.t 10]])
 (.cond (.t 11)
 .skip
 (.exit 0)))
 (.seq (.block 1 (sr [fa 14 0 2,la 15 14,ma 16 6,oo 17 (.iad 13) [.t 15,.t 16],fa 18 0 17,la 19 18,ma 20 1,oo 21 (.bin .eql) [.t 19,.t 20]]
 (.cond (.t 21)
 (rg [ma 22 5,fa 23 0 2,la 24 23,ma 25 6,oo 26 (.iad 13) [.t 24,.t 25],oo 27 (.ld true 13) [.t 26],ca 28 zcg [.t 27],oo 29 (.bsl 13 1 [v0,v0,ve,v0,v0,v0,v0,v0,vn,vn,ve,v0,ve] [0]) [.t 28],oo 30 (.app 13 160) [.t 22,.t 29],ma 5 30])
 .skip)))
 (rg [ma 12 6,oo 13 (.bin .add) [.t 12,ki 1],ma 6 13]))))))
 (sr [ma 31 5,ma 4 31]
 .ret))))⟩
def zg3 : AFun:=⟨87,[(4,none)],
 (sr [oo 2 (.box 13) [.t 0],oo 3 (.box 13) [.t 1],oo 4 .mv [.c (.bool false)]]
 (sr [fa 5 0 2,la 6 5,fa 7 0 3,la 8 7,oo 9 (.bin .eql) [.t 6,.t 8],ma 10 9,fg 11 1 2 10,lg 12 11 10,fg 13 1 3 10,lg 14 13 10,og 15 (.bin .eql) [.t 12,.t 14] 10,oo 16 .pick [.t 10,.t 15,.c (.bool false)],ma 17 16,fg 18 2 2 17,lg 19 18 17,fg 20 2 3 17,lg 21 20 17,og 22 (.bin .eql) [.t 19,.t 21] 17,oo 23 .pick [.t 17,.t 22,.c (.bool false)],ma 24 23,fg 25 3 2 24,lg 26 25 24,fg 27 3 3 24,lg 28 27 24,og 29 (.bin .eql) [.t 26,.t 28] 24,oo 30 .pick [.t 24,.t 29,.c (.bool false)],ma 31 30,fg 32 4 2 31,lg 33 32 31,fg 34 4 3 31,lg 35 34 31,og 36 (.bin .eql) [.t 33,.t 35] 31,oo 37 .pick [.t 31,.t 36,.c (.bool false)],ma 38 37,fg 39 5 2 38,lg 40 39 38,fg 41 5 3 38,lg 42 41 38,og 43 (.bin .eql) [.t 40,.t 42] 38,oo 44 .pick [.t 38,.t 43,.c (.bool false)],ma 45 44,fg 46 6 2 45,lg 47 46 45,fg 48 6 3 45,lg 49 48 45,og 50 (.bin .eql) [.t 47,.t 49] 45,oo 51 .pick [.t 45,.t 50,.c (.bool false)],ma 52 51,fg 53 7 2 52,lg 54 53 52,fg 55 7 3 52,lg 56 55 52,og 57 (.bin .eql) [.t 54,.t 56] 52,oo 58 .pick [.t 52,.t 57,.c (.bool false)],ma 59 58,fg 60 8 2 59,lg 61 60 59,fg 62 8 3 59,lg 63 62 59,og 64 .call [.f zdk,.t 61,.t 63] 59,oo 65 .pick [.t 59,.t 64,.c (.bool false)],ma 66 65,fg 67 9 2 66,lg 68 67 66,fg 69 9 3 66,lg 70 69 66,og 71 .call [.f zdq,.t 68,.t 70] 66,oo 72 .pick [.t 66,.t 71,.c (.bool false)],ma 73 72,fg 74 10 2 73,lg 75 74 73,fg 76 10 3 73,lg 77 76 73,og 78 (.bin .eql) [.t 75,.t 77] 73,oo 79 .pick [.t 73,.t 78,.c (.bool false)],ma 80 79,fg 81 11 2 80,og 82 (.ld true 2) [.t 81] 80,fg 83 11 3 80,og 84 (.ld true 2) [.t 83] 80,og 85 (.aeq false [0,2]) [.t 82,.t 84] 80,oo 86 .pick [.t 80,.t 85,.c (.bool false)],ma 4 86]
 .ret))⟩
def zes : AFun:=⟨26,[(4,none)],
 (sr [oo 4 .mv [.c (.bool false)]]
 (.seq (.seq
 (rg [ma 6 0,oo 7 .len [.t 6],ma 8 1,oo 9 .len [.t 8],oo 10 (.bin .neq) [.t 7,.t 9]])
 (.cond (.t 10)
 (sr [oo 4 .mv [.c (.bool false)]]
 .ret)
 .skip))
 (.seq (.seq
 (rg [oo 5 .mv [ki 0]])
 (.block 0 (.loop
 (.seq (.seq
 (rg [ma 11 5,ma 12 0,oo 13 .len [.t 12],oo 14 (.bin .lss) [.t 11,.t 13]])
 (.cond (.t 14)
 .skip
 (.exit 0)))
 (.seq (.block 1 (.seq (.reg true [ma 17 0,ma 18 5,oo 19 (.iad 1) [.t 17,.t 18],la 20 19,ma 21 1,ma 22 5,oo 23 (.iad 1) [.t 21,.t 22],la 24 23,oo 25 (.bin .neq) [.t 20,.t 24]] [[],[],[0,1],[2],[],[],[4,5],[6],[3,7]])
 (.cond (.t 25)
 (sr [oo 4 .mv [.c (.bool false)]]
 .ret)
 .skip)))
 (rg [ma 15 5,oo 16 (.bin .add) [.t 15,ki 1],ma 5 16]))))))
 (sr [oo 4 .mv [.c (.bool true)]]
 .ret))))⟩
def zgm : AFun:=⟨100,[(2,none)],
 (sr [oo 1 (.box 13) [.t 0],oo 2 .mv [ki 0]]
 (.seq (.block 0 (sr [fa 4 0 1,la 5 4,ca 6 zeo [.t 5],oo 7 (.un .not) [.t 6],ma 3 7]
 (.cond (.t 3)
 (sr [oo 2 .mv [ki 4]]
 .ret)
 (sr [fa 9 4 1,la 10 9,oo 11 (.bin .lss) [.t 10,ki 1],ma 12 11,fh 13 4 1 12,lh 14 13 12,oh 15 (.bin .gtr) [.t 14,ki 3] 12,mh 16 15 12,fg 17 4 1 16,lg 18 17 16,og 19 (.bin .lss) [.t 18,ki 10] 16,oh 20 .pick [.t 16,.t 19,.c (.bool false)] 12,oo 21 .pick [.t 12,.c (.bool true),.t 20],ma 22 21,fh 23 4 1 22,lh 24 23 22,oh 25 (.bin .gtr) [.t 24,ki 31] 22,oo 26 .pick [.t 22,.c (.bool true),.t 25],ma 8 26]
 (.cond (.t 8)
 (sr [oo 2 .mv [ki 5]]
 .ret)
 (sr [fa 28 3 1,la 29 28,ca 30 zcQ [.t 29,ki 2147483648],oo 31 (.un .not) [.t 30],ma 27 31]
 (.cond (.t 27)
 (sr [oo 2 .mv [ki 9]]
 .ret)
 (sr [oo 33 (.ld true 13) [.t 1],ca 34 zdS [.t 33],oo 35 (.un .not) [.t 34],ma 32 35]
 (.cond (.t 32)
 (sr [oo 2 .mv [ki 2]]
 .ret)
 (sr [fa 37 8 1,la 38 37,oo 39 .len [.t 38],oo 40 (.bin .gtr) [.t 39,ki 64],ma 41 40,fh 42 9 1 41,lh 43 42 41,oh 44 .len [.t 43] 41,oh 45 (.bin .gtr) [.t 44,ki 64] 41,oo 46 .pick [.t 41,.c (.bool true),.t 45],ma 47 46,fh 48 10 1 47,lh 49 48 47,oh 50 .lens [.t 49] 47,oh 51 (.bin .gtr) [.t 50,ki 4096] 47,oo 52 .pick [.t 47,.c (.bool true),.t 51],ma 36 52]
 (.cond (.t 36)
 (sr [oo 2 .mv [ki 3]]
 .ret)
 (sr [fa 54 1 1,la 55 54,oo 56 (.bin .eql) [.t 55,ki 0],ma 57 56,fg 58 2 1 57,lg 59 58 57,og 60 (.bin .neq) [.t 59,(.c ve)] 57,oo 61 .pick [.t 57,.t 60,.c (.bool false)],ma 62 61,fh 63 1 1 62,lh 64 63 62,oh 65 (.bin .gtr) [.t 64,ki 0] 62,mh 66 65 62,fg 67 2 1 66,lg 68 67 66,og 69 .lens [.t 68] 66,og 70 (.bin .neq) [.t 69,ki 32] 66,oh 71 .pick [.t 66,.t 70,.c (.bool false)] 62,oo 72 .pick [.t 62,.c (.bool true),.t 71],ma 73 72,fh 74 9 1 73,lh 75 74 73,oh 76 .call [.f zek,.t 75] 73,oh 77 (.un .not) [.t 76] 73,oo 78 .pick [.t 73,.c (.bool true),.t 77],ma 53 78]
 (.cond (.t 53)
 (sr [oo 2 .mv [ki 1]]
 .ret)
 (sr [fa 80 4 1,la 81 80,oo 82 (.bin .leq) [.t 81,ki 3],ma 83 82,fg 84 8 1 83,lg 85 84 83,og 86 .len [.t 85] 83,og 87 (.bin .gtr) [.t 86,ki 0] 83,mg 88 87 83,fh 89 9 1 88,lh 90 89 88,oh 91 .len [.t 90] 88,oh 92 (.bin .gtr) [.t 91,ki 0] 88,og 93 .pick [.t 88,.c (.bool true),.t 92] 83,mg 94 93 83,fh 95 10 1 94,lh 96 95 94,oh 97 (.bin .neq) [.t 96,(.c ve)] 94,og 98 .pick [.t 94,.c (.bool true),.t 97] 83,oo 99 .pick [.t 83,.t 98,.c (.bool false)],ma 79 99]
 (.cond (.t 79)
 (sr [oo 2 .mv [ki 1]]
 .ret)
 .skip)))))))))))))))
 (sr [oo 2 .mv [ki 0]]
 .ret)))⟩
def zfD : AFun:=⟨17,[(2,none)],
 (sr [oo 1 (.box 13) [.t 0],oo 2 .mv [.c (.bool false)]]
 (.seq (.reg true [fa 3 11 1,fa 4 0 3,la 5 4,fa 6 0 1,la 7 6,oo 8 (.bin .eql) [.t 5,.t 7],ma 9 8,fg 10 11 1 9,fg 11 1 10 9,lg 12 11 9,og 13 (.ld true 13) [.t 1] 9,og 14 .call [.f zag,.t 13] 9,og 15 (.bin .eql) [.t 12,.t 14] 9,oo 16 .pick [.t 9,.t 15,.c (.bool false)],ma 2 16] [[],[0],[1],[],[3],[2,4],[5],[6],[7,6],[8,6],[6],[10,6,6],[9,11,6],[6,12],[13,11,0,1,2,3,4,5,6,7,8,9,10,11,12,13]])
 .ret))⟩
def zlQ : AFun:=⟨46,[(4,none),(5,none)],
 (sr [oo 3 (.box 13) [.t 1],oo 4 .mv [kn],oo 5 .mv [.c (.bool false)]]
 (sr [oo 6 .mv [ki 0]]
 (.seq (.block 0 (.loop
 (.seq (.seq
 (.reg true [ma 7 6,ma 8 0,oo 9 .len [.t 8],oo 10 (.bin .lss) [.t 7,.t 9],ma 11 10,mg 12 0 11,mg 13 6 11,og 14 (.iad 13) [.t 12,.t 13] 11,og 15 (.ld true 13) [.t 14] 11,og 16 (.ld true 13) [.t 3] 11,og 17 .call [.f zed,.t 15,.t 16] 11,oo 18 .pick [.t 11,.t 17,.c (.bool false)]] [[],[],[1],[0,2],[3],[4],[4],[5,6,4],[7,4],[4],[8,9,4,4],[4,10]])
 (.cond (.t 18)
 .skip
 (.exit 0)))
 (.block 1 (rg [ma 19 6,oo 20 (.bin .add) [.t 19,ki 1],ma 6 20])))))
 (.seq (.seq
 (.reg true [ma 21 6,ma 22 0,oo 23 .len [.t 22],oo 24 (.bin .lss) [.t 21,.t 23],ma 25 24,mg 26 0 25,mg 27 6 25,og 28 (.iad 13) [.t 26,.t 27] 25,og 29 (.ld true 13) [.t 28] 25,og 30 (.ld true 13) [.t 3] 25,og 31 .call [.f zdD,.t 29,.t 30] 25,oo 32 .pick [.t 25,.t 31,.c (.bool false)]] [[],[],[1],[0,2],[3],[4],[4],[5,6,4],[7,4],[4],[8,9,4,4],[4,10]])
 (.cond (.t 32)
 (sr [ma 33 0,ma 4 33,oo 5 .mv [.c (.bool false)]]
 .ret)
 .skip))
 (.seq (.reg true [ma 34 0,ma 35 6,oo 36 (.slc 13 false true false) [.t 34,.t 35],oo 37 (.app 13 160) [kn,.t 36],oo 38 (.ld true 13) [.t 3],ca 39 zcg [.t 38],oo 40 (.bsl 13 1 [v0,v0,ve,v0,v0,v0,v0,v0,vn,vn,ve,v0,ve] [0]) [.t 39],oo 41 (.app 13 160) [.t 37,.t 40],ma 42 0,ma 43 6,oo 44 (.slc 13 true false false) [.t 42,.t 43],oo 45 (.app 13 160) [.t 41,.t 44],ma 4 45,oo 5 .mv [.c (.bool true)]] [[],[],[0,1],[2],[],[4,3],[5],[3,6,5],[],[],[8,9],[7,10,7],[11,11,0,1,2,3,4,5,6,7,8,9,10,11],[12,0,1,2,3,4,5,6,7,8,9,10,11,12]])
 .ret)))))⟩
def zkr : AFun:=⟨12,[(2,some (true,13))],
 (sr [oo 1 (.box 13) [.t 0],oo 2 (.alloc [v0,v0,ve,v0,v0,v0,v0,v0,vn,vn,ve,v0,ve]) []]
 (sr [oo 3 (.ld true 13) [.t 1],ca 4 zcg [.t 3],ou (.st 13) [.t 1,.t 4]]
 (.seq (.reg true [fa 5 0 1,la 6 5,oo 7 (.ld true 13) [.t 1],ca 8 zag [.t 7],oo 9 (.build [v0,ve] [(0,1),(1,1)]) [.t 6,.t 8],fa 10 11 1,ou (.st 2) [.t 10,.t 9]] [[],[0],[],[2],[1,3],[0,1,2,3,4],[5,4,3,0,1,2,3,4]])
 (sr [oo 11 (.ld true 13) [.t 1],ou (.st 13) [.t 2,.t 11]]
 .ret))))⟩
def ziA : AFun:=⟨96,[(4,none)],
 (sr [oo 4 .mv [kn]]
 (sr [oo 5 .mv [kn]]
 (.seq (.seq
 (rg [oo 6 .mv [ki 0]])
 (.block 0 (.loop
 (.seq (.seq
 (rg [ma 9 6,ma 10 1,oo 11 .len [.t 10],oo 12 (.bin .lss) [.t 9,.t 11]])
 (.cond (.t 12)
 .skip
 (.exit 0)))
 (.seq (.block 1 (sr [ma 15 1,ma 16 6,oo 17 (.iad 13) [.t 15,.t 16],oo 18 (.ld true 13) [.t 17],oo 7 (.alloc [v0,v0,ve,v0,v0,v0,v0,v0,vn,vn,ve,v0,ve]) [],ou (.st 13) [.t 7,.t 18]]
 (.seq (.seq
 (rg [fa 19 0 7,la 20 19,ma 21 0,oo 22 (.bin .neq) [.t 20,.t 21],ma 23 22,oh 24 (.ld true 13) [.t 7] 23,oh 25 .call [.f zcG,.t 24] 23,oh 26 (.bin .neq) [.t 25,ki 0] 23,oo 27 .pick [.t 23,.c (.bool true),.t 26],ma 28 27,oh 29 (.ld true 13) [.t 7] 28,oh 30 .call [.f zcI,.t 29] 28,oh 31 (.un .not) [.t 30] 28,oo 32 .pick [.t 28,.c (.bool true),.t 31]])
 (.cond (.t 32)
 (.exit 1)
 .skip))
 (sr [oo 8 .mv [ki 0]]
 (.seq (.block 2 (.loop
 (.seq (.seq
 (.reg true [ma 33 8,ma 34 5,oo 35 .len [.t 34],oo 36 (.bin .lss) [.t 33,.t 35],ma 37 36,mg 38 5 37,mg 39 8 37,og 40 (.iad 13) [.t 38,.t 39] 37,fg 41 1 40 37,lg 42 41 37,fg 43 1 7 37,lg 44 43 37,og 45 (.bin .lss) [.t 42,.t 44] 37,mg 46 45 37,mh 47 5 46,mh 48 8 46,oh 49 (.iad 13) [.t 47,.t 48] 46,fh 50 1 49 46,lh 51 50 46,fh 52 1 7 46,lh 53 52 46,oh 54 (.bin .eql) [.t 51,.t 53] 46,mh 55 54 46,mg 56 5 55,mg 57 8 55,og 58 (.iad 13) [.t 56,.t 57] 55,fg 59 11 58 55,fg 60 1 59 55,lg 61 60 55,fg 62 11 7 55,fg 63 1 62 55,lg 64 63 55,og 65 (.bin .lss) [.t 61,.t 64] 55,oh 66 .pick [.t 55,.t 65,.c (.bool false)] 46,og 67 .pick [.t 46,.c (.bool true),.t 66] 37,oo 68 .pick [.t 37,.t 67,.c (.bool false)]] [[],[],[1],[0,2],[3],[4],[4],[5,6,4],[7,4],[8,4],[4],[10,4],[9,11,4],[12,4,4],[13],[13],[14,15,13],[16,13],[17,13],[13],[19,13],[18,20,13],[21,13,13],[22],[22],[23,24,22],[25,22],[26,22],[27,22],[22],[29,22],[30,22],[28,31,22],[22,32,13],[13,33,4],[4,34]])
 (.cond (.t 68)
 .skip
 (.exit 2)))
 (.block 3 (rg [ma 69 8,oo 70 (.bin .add) [.t 69,ki 1],ma 8 70])))))
 (.seq (.seq
 (.reg true [ma 71 8,ma 72 5,oo 73 .len [.t 72],oo 74 (.bin .lss) [.t 71,.t 73],ma 75 74,mg 76 5 75,mg 77 8 75,og 78 (.iad 13) [.t 76,.t 77] 75,og 79 (.ld true 13) [.t 78] 75,og 80 (.ld true 13) [.t 7] 75,og 81 .call [.f zdD,.t 79,.t 80] 75,oo 82 .pick [.t 75,.t 81,.c (.bool false)]] [[],[],[1],[0,2],[3],[4],[4],[5,6,4],[7,4],[4],[8,9,4,4],[4,10]])
 (.cond (.t 82)
 (.exit 1)
 .skip))
 (.reg true [ma 83 5,ma 84 8,oo 85 (.slc 13 false true false) [.t 83,.t 84],oo 86 (.app 13 160) [kn,.t 85],oo 87 (.ld true 13) [.t 7],ca 88 zcg [.t 87],oo 89 (.bsl 13 1 [v0,v0,ve,v0,v0,v0,v0,v0,vn,vn,ve,v0,ve] [0]) [.t 88],oo 90 (.app 13 160) [.t 86,.t 89],ma 91 5,ma 92 8,oo 93 (.slc 13 true false false) [.t 91,.t 92],oo 94 (.app 13 160) [.t 90,.t 93],ma 5 94] [[],[],[0,1],[2],[],[4,3],[5],[3,6,5],[],[],[8,9],[7,10,7],[11,11,0,1,2,3,4,5,6,7,8,9,10,11]])))))))
 (rg [ma 13 6,oo 14 (.bin .add) [.t 13,ki 1],ma 6 14]))))))
 (sr [ma 95 5,ma 4 95]
 .ret))))⟩
def ze6 : AFun:=⟨39,[(4,none)],
 (sr [oo 2 (.box 13) [.t 0],oo 3 (.box 13) [.t 1],oo 4 .mv [.c (.bool false)]]
 (.seq (.reg true [fa 5 0 3,la 6 5,fa 7 0 2,la 8 7,oo 9 (.bin .eql) [.t 6,.t 8],ma 10 9,fg 11 1 3 10,lg 12 11 10,fg 13 1 2 10,lg 14 13 10,og 15 (.bin .gtr) [.t 12,.t 14] 10,oo 16 .pick [.t 10,.t 15,.c (.bool false)],ma 17 16,fg 18 1 3 17,lg 19 18 17,fg 20 1 2 17,lg 21 20 17,og 22 (.bin .add) [.t 21,ki 1] 17,og 23 (.bin .eql) [.t 19,.t 22] 17,oo 24 .pick [.t 17,.t 23,.c (.bool false)],ma 25 24,fg 26 2 3 25,lg 27 26 25,og 28 (.ld true 13) [.t 2] 25,og 29 .call [.f zag,.t 28] 25,og 30 (.bin .eql) [.t 27,.t 29] 25,oo 31 .pick [.t 25,.t 30,.c (.bool false)],ma 32 31,fg 33 3 3 32,lg 34 33 32,fg 35 3 2 32,lg 36 35 32,og 37 (.bin .geq) [.t 34,.t 36] 32,oo 38 .pick [.t 32,.t 37,.c (.bool false)],ma 4 38] [[],[0],[],[2],[1,3],[4],[5],[6,5],[5],[8,5],[7,9,5],[5,10],[11,5],[12],[13,12],[12],[15,12],[16,12],[14,17,12],[12,18],[19,12],[20],[21,20],[20],[23,20,20],[22,24,20],[20,25],[26,24],[27],[28,27],[27],[30,27],[29,31,27],[27,32],[33,27,0,1,2,3,4,5,6,7,8,9,10,11,12,13,14,15,16,17,18,19,20,21,22,23,24,25,26,27,28,29,30,31,32,33]])
 .ret))⟩
def zhc : AFun:=⟨12,[(2,some (true,13))],
 (sr [oo 1 (.box 13) [.t 0],oo 2 (.alloc [v0,v0,ve,v0,v0,v0,v0,v0,vn,vn,ve,v0,ve]) []]
 (sr [fa 3 8 1,la 4 3,oo 5 (.app 1 8) [kn,.t 4],fa 6 8 1,ou (.st 1) [.t 6,.t 5]]
 (sr [fa 7 9 1,la 8 7,oo 9 (.app 3 32) [kn,.t 8],fa 10 9 1,ou (.st 1) [.t 10,.t 9]]
 (sr [oo 11 (.ld true 13) [.t 1],ou (.st 13) [.t 2,.t 11]]
 .ret))))⟩
def zhG : AFun:=⟨15,[(6,none)],
 (sr [oo 6 .mv [.c (.bool false)]]
 (sr [ma 7 0,ma 8 1,oo 9 (.bin .geq) [.t 7,.t 8],ma 10 9,mg 11 0 10,mg 12 2 10,og 13 (.bin .leq) [.t 11,.t 12] 10,oo 14 .pick [.t 10,.t 13,.c (.bool false)],ma 6 14]
 .ret))⟩
def zg8 : AFun:=⟨33,[(4,none)],
 (sr [oo 4 .mv [kn]]
 (sr [oo 5 .mv [kn]]
 (.seq (.seq
 (rg [ma 8 0,oo 9 .len [.t 8],oo 10 .mv [ki 0]])
 (.block 0 (.loop
 (sr [oo 11 (.bin .lss) [.t 10,.t 9]]
 (.seq (.cond (.t 11)
 .skip
 (.exit 0))
 (.seq (.block 1 (sr [oo 12 (.iad 13) [.t 8,.t 10],oo 13 (.ld true 13) [.t 12],oo 7 (.alloc [v0,v0,ve,v0,v0,v0,v0,v0,vn,vn,ve,v0,ve]) [],ou (.st 13) [.t 7,.t 13]]
 (sr [fa 14 4 7,la 15 14,oo 16 (.bin .eql) [.t 15,ki 3],ma 17 16,fg 18 3 7 17,lg 19 18 17,mg 20 1 17,og 21 (.bin .leq) [.t 19,.t 20] 17,oo 22 .pick [.t 17,.t 21,.c (.bool false)]]
 (.cond (.t 22)
 (rg [ma 23 5,fa 24 0 7,la 25 24,oo 26 (.bsl 1 1 [v0] [0]) [.t 25],oo 27 (.app 1 8) [.t 23,.t 26],ma 5 27])
 .skip))))
 (rg [oo 28 (.bin .add) [.t 10,ki 1],ma 10 28])))))))
 (sr [ma 29 5,ca 30 zaZ [.t 29]]
 (sr [ma 31 5,ca 32 zbE [.t 31],ma 4 32]
 .ret)))))⟩
def zfM : AFun:=⟨63,[(4,none)],
 (sr [oo 4 .mv [kn]]
 (sr [ma 12 0,ca 13 zhT [.t 12],ma 14 0,ma 15 1,ca 16 zeL [.t 14,.t 15],ma 5 13,ma 6 16]
 (sr [oo 7 .mv [kn]]
 (.seq
 .skip
 (.seq (.seq
 (rg [ma 17 5,oo 18 .len [.t 17],oo 19 .mv [ki 0]])
 (.block 0 (.loop
 (sr [oo 20 (.bin .lss) [.t 19,.t 18]]
 (.seq (.cond (.t 20)
 .skip
 (.exit 0))
 (.seq (.block 1 (sr [ma 21 19,oo 22 (.iad 7) [.t 17,.t 19],oo 23 (.ld true 7) [.t 22],oo 9 (.alloc [v0,v0,v0,v0,v0,v0,v0]) [],ma 8 21,ou (.st 7) [.t 9,.t 23]]
 (.seq (.seq
 (rg [oo 24 (.ld true 7) [.t 9],ma 25 6,ma 26 1,ca 27 zeW [.t 24,.t 25,.t 26],oo 28 (.un .not) [.t 27]])
 (.cond (.t 28)
 (.exit 1)
 .skip))
 (.seq (.seq
 (rg [ma 29 5,ma 30 8,oo 31 (.bin .add) [.t 30,ki 1],oo 32 (.slc 7 true false false) [.t 29,.t 31],oo 33 .len [.t 32],oo 34 .mv [ki 0]])
 (.block 2 (.loop
 (sr [oo 35 (.bin .lss) [.t 34,.t 33]]
 (.seq (.cond (.t 35)
 .skip
 (.exit 2))
 (.seq (.block 3 (sr [oo 36 (.iad 7) [.t 32,.t 34],oo 37 (.ld true 7) [.t 36],oo 11 (.alloc [v0,v0,v0,v0,v0,v0,v0]) [],ou (.st 7) [.t 11,.t 37]]
 (sr [fa 38 0 11,la 39 38,fa 40 0 9,la 41 40,oo 42 (.bin .eql) [.t 39,.t 41],ma 43 42,fg 44 1 11 43,lg 45 44 43,fg 46 1 9 43,lg 47 46 43,og 48 (.bin .eql) [.t 45,.t 47] 43,oo 49 .pick [.t 43,.t 48,.c (.bool false)],ma 50 49,fg 51 4 11 50,lg 52 51 50,mg 53 1 50,og 54 (.bin .leq) [.t 52,.t 53] 50,oo 55 .pick [.t 50,.t 54,.c (.bool false)]]
 (.cond (.t 55)
 (.exit 1)
 .skip))))
 (rg [oo 56 (.bin .add) [.t 34,ki 1],ma 34 56])))))))
 (rg [ma 57 7,oo 58 (.ld true 7) [.t 9],oo 59 (.bsl 7 1 [v0,v0,v0,v0,v0,v0,v0] [0]) [.t 58],oo 60 (.app 7 56) [.t 57,.t 59],ma 7 60])))))
 (rg [oo 61 (.bin .add) [.t 19,ki 1],ma 19 61])))))))
 (sr [ma 62 7,ma 4 62]
 .ret))))))⟩
def zkt : AFun:=⟨62,[(6,some (true,13)),(7,none)],
 (sr [oo 5 (.box 13) [.t 2],oo 6 (.alloc [v0,v0,ve,v0,v0,v0,v0,v0,vn,vn,ve,v0,ve]) [],oo 7 .mv [ki 0]]
 (.seq (.seq
 (rg [ma 11 1,oo 12 .len [.t 11],oo 13 (.bin .gtr) [.t 12,ki 0],ma 14 13,mg 15 0 14,mg 16 1 14,og 17 .call [.f zcp,.t 15,.t 16] 14,mg 18 1 14,og 19 .call [.f zeM,.t 17,.t 18] 14,og 20 (.un .not) [.t 19] 14,oo 21 .pick [.t 14,.t 20,.c (.bool false)]])
 (.cond (.t 21)
 (sr [oo 22 (.build [v0,v0,ve,v0,v0,v0,v0,v0,vn,vn,ve,v0,ve] []) [],ou (.st 13) [.t 6,.t 22],oo 7 .mv [ki 1]]
 .ret)
 .skip))
 (sr [oo 23 (.ld true 13) [.t 5],ca 24 zcg [.t 23],ou (.st 13) [.t 5,.t 24]]
 (sr [ma 25 0,fa 26 0 5,ou (.st 1) [.t 26,.t 25],fa 27 1 5,ou (.st 1) [.t 27,ki 0],fa 28 2 5,ou (.st 1) [.t 28,(.c ve)]]
 (.seq (.seq
 (rg [ma 29 1,oo 30 .len [.t 29],ma 8 30])
 (sr [ma 31 8,oo 32 (.bin .gtr) [.t 31,ki 0]]
 (.cond (.t 32)
 (sr [ma 33 1,ma 34 8,oo 35 (.bin .sub) [.t 34,ki 1],oo 36 (.iad 13) [.t 33,.t 35],oo 37 (.ld true 13) [.t 36],oo 9 (.alloc [v0,v0,ve,v0,v0,v0,v0,v0,vn,vn,ve,v0,ve]) [],ou (.st 13) [.t 9,.t 37]]
 (.seq (.seq
 (rg [fa 38 3 5,la 39 38,fa 40 3 9,la 41 40,oo 42 (.bin .lss) [.t 39,.t 41]])
 (.cond (.t 42)
 (sr [oo 43 (.build [v0,v0,ve,v0,v0,v0,v0,v0,vn,vn,ve,v0,ve] []) [],ou (.st 13) [.t 6,.t 43],oo 7 .mv [ki 9]]
 .ret)
 .skip))
 (.seq (.seq
 (rg [fa 44 4 9,la 45 44,oo 46 (.bin .eql) [.t 45,ki 3]])
 (.cond (.t 46)
 (sr [oo 47 (.build [v0,v0,ve,v0,v0,v0,v0,v0,vn,vn,ve,v0,ve] []) [],ou (.st 13) [.t 6,.t 47],oo 7 .mv [ki 5]]
 .ret)
 .skip))
 (rg [ma 48 8,oo 49 (.ld true 13) [.t 9],ca 50 zag [.t 49],fa 51 1 5,ou (.st 1) [.t 51,.t 48],fa 52 2 5,ou (.st 1) [.t 52,.t 50]]))))
 .skip)))
 (sr [oo 53 (.ld true 13) [.t 5],ca 54 zg7 [.t 53],ou (.st 13) [.t 5,.t 54]]
 (.seq (.seq
 (rg [oo 55 (.ld true 13) [.t 5],ca 56 zcG [.t 55],ma 10 56])
 (sr [ma 57 10,oo 58 (.bin .neq) [.t 57,ki 0]]
 (.cond (.t 58)
 (sr [oo 59 (.build [v0,v0,ve,v0,v0,v0,v0,v0,vn,vn,ve,v0,ve] []) [],ma 60 10,ou (.st 13) [.t 6,.t 59],ma 7 60]
 .ret)
 .skip)))
 (sr [oo 61 (.ld true 13) [.t 5],ou (.st 13) [.t 6,.t 61],oo 7 .mv [ki 0]]
 .ret))))))))⟩
def zfQ : AFun:=⟨50,[(2,none)],
 (sr [oo 2 .mv [.c (.bool false)]]
 (.seq (.seq
 (rg [oo 3 .mv [ki 0]])
 (.block 0 (.loop
 (.seq (.seq
 (rg [ma 5 3,ma 6 0,oo 7 .len [.t 6],oo 8 (.bin .lss) [.t 5,.t 7]])
 (.cond (.t 8)
 .skip
 (.exit 0)))
 (.seq (.block 1 (sr [ma 11 0,ma 12 3,oo 13 (.iad 3) [.t 11,.t 12],oo 14 (.ld true 3) [.t 13],oo 4 (.alloc [v0,v0,ve]) [],ou (.st 3) [.t 4,.t 14]]
 (.seq (.reg true [fa 15 0 4,la 16 15,ca 17 zeo [.t 16],oo 18 (.un .not) [.t 17],ma 19 18,mh 20 3 19,oh 21 (.bin .gtr) [.t 20,ki 0] 19,mh 22 21 19,fg 23 0 4 22,lg 24 23 22,mg 25 0 22,mg 26 3 22,og 27 (.bin .sub) [.t 26,ki 1] 22,og 28 (.iad 3) [.t 25,.t 27] 22,fg 29 0 28 22,lg 30 29 22,og 31 (.bin .leq) [.t 24,.t 30] 22,oh 32 .pick [.t 22,.t 31,.c (.bool false)] 19,oo 33 .pick [.t 19,.c (.bool true),.t 32],ma 34 33,fh 35 1 4 34,lh 36 35 34,oh 37 (.bin .lss) [.t 36,ki 1] 34,oo 38 .pick [.t 34,.c (.bool true),.t 37],ma 39 38,fh 40 1 4 39,lh 41 40 39,oh 42 (.bin .gtr) [.t 41,ki 200] 39,oo 43 .pick [.t 39,.c (.bool true),.t 42],ma 44 43,fh 45 2 4 44,lh 46 45 44,oh 47 .lens [.t 46] 44,oh 48 (.bin .neq) [.t 47,ki 32] 44,oo 49 .pick [.t 44,.c (.bool true),.t 48]] [[],[0],[1],[2],[3,2],[4],[5,4],[6,4,4],[7],[8,7],[7],[7],[11,7],[10,12,7],[13,7],[14,7],[9,15,7],[7,16,4],[4,17],[18,7],[19],[20,19],[21,19],[19,22],[23,19],[24],[25,24],[26,24],[24,27],[28,24],[29],[30,29],[31,29],[32,29],[29,33]])
 (.cond (.t 49)
 (sr [oo 2 .mv [.c (.bool false)]]
 .ret)
 .skip))))
 (rg [ma 9 3,oo 10 (.bin .add) [.t 9,ki 1],ma 3 10]))))))
 (sr [oo 2 .mv [.c (.bool true)]]
 .ret)))⟩
def zeK : AFun:=⟨26,[(4,none)],
 (sr [oo 4 .mv [.c (.bool false)]]
 (.seq (.seq
 (rg [ma 6 0,oo 7 .len [.t 6],ma 8 1,oo 9 .len [.t 8],oo 10 (.bin .neq) [.t 7,.t 9]])
 (.cond (.t 10)
 (sr [oo 4 .mv [.c (.bool false)]]
 .ret)
 .skip))
 (.seq (.seq
 (rg [oo 5 .mv [ki 0]])
 (.block 0 (.loop
 (.seq (.seq
 (rg [ma 11 5,ma 12 0,oo 13 .len [.t 12],oo 14 (.bin .lss) [.t 11,.t 13]])
 (.cond (.t 14)
 .skip
 (.exit 0)))
 (.seq (.block 1 (.seq (.reg true [ma 17 0,ma 18 5,oo 19 (.iad 3) [.t 17,.t 18],oo 20 (.ld true 3) [.t 19],ma 21 1,ma 22 5,oo 23 (.iad 3) [.t 21,.t 22],oo 24 (.ld true 3) [.t 23],oo 25 (.aeq true [0,0,2]) [.t 20,.t 24]] [[],[],[0,1],[2],[],[],[4,5],[6],[3,7]])
 (.cond (.t 25)
 (sr [oo 4 .mv [.c (.bool false)]]
 .ret)
 .skip)))
 (rg [ma 15 5,oo 16 (.bin .add) [.t 15,ki 1],ma 5 16]))))))
 (sr [oo 4 .mv [.c (.bool true)]]
 .ret))))⟩
def znK : AFun:=⟨14,[(4,some (true,3))],
 (sr [oo 2 (.box 3) [.t 0],oo 3 (.box 1) [.t 1],oo 4 (.alloc [v0,vn,vn]) []]
 (sr [oo 6 (.ld true 3) [.t 2],ca 7 zfR [.t 6],oo 5 (.alloc [v0,vn,vn]) [],ou (.st 3) [.t 5,.t 7]]
 (sr [fa 8 1 5,la 9 8,oo 10 (.mkf zdh) [.t 3],ca 11 zbc [.t 9,.t 10],fa 12 1 5,ou (.st 1) [.t 12,.t 11]]
 (sr [oo 13 (.ld true 3) [.t 5],ou (.st 3) [.t 4,.t 13]]
 .ret))))⟩
def zbC : AFun:=⟨9,[(4,none)],
 (sr [oo 4 .mv [.c (.bool false)]]
 (sr [ma 5 0,ma 6 1,ca 7 zbe [.t 5,.t 6],oo 8 (.bin .geq) [.t 7,ki 0],ma 4 8]
 .ret))⟩
def zd6 : AFun:=⟨9,[(4,none)],
 (sr [oo 4 .mv [.c (.bool false)]]
 (sr [ma 5 0,ma 6 1,ca 7 zbr [.t 5,.t 6],oo 8 (.bin .geq) [.t 7,ki 0],ma 4 8]
 .ret))⟩
def zqZ : AFun:=⟨28,[(4,none)],
 (sr [oo 2 (.box 3) [.t 0],oo 4 .mv [kn]]
 (sr [oo 5 .mv [kn]]
 (.seq (.seq
 (rg [fa 8 1 2,la 9 8,oo 10 .len [.t 9],oo 11 .mv [ki 0]])
 (.block 0 (.loop
 (sr [oo 12 (.bin .lss) [.t 11,.t 10]]
 (.seq (.cond (.t 12)
 .skip
 (.exit 0))
 (.seq (.block 1 (sr [oo 13 (.iad 3) [.t 9,.t 11],oo 14 (.ld true 3) [.t 13],oo 7 (.alloc [v0,v0,v0]) [],ou (.st 3) [.t 7,.t 14]]
 (sr [fa 15 0 7,la 16 15,ma 17 1,oo 18 (.bin .eql) [.t 16,.t 17]]
 (.cond (.t 18)
 (rg [ma 19 5,fa 20 1 7,la 21 20,oo 22 (.bsl 1 1 [v0] [0]) [.t 21],oo 23 (.app 1 8) [.t 19,.t 22],ma 5 23])
 .skip))))
 (rg [oo 24 (.bin .add) [.t 11,ki 1],ma 11 24])))))))
 (sr [ma 25 5,ca 26 zaZ [.t 25]]
 (sr [ma 27 5,ma 4 27]
 .ret)))))⟩
def zgA : AFun:=⟨20,[(2,none)],
 (sr [oo 2 .mv [kn]]
 (sr [oo 3 .mv [kn]]
 (.seq (.seq
 (rg [oo 4 .mv [ki 0]])
 (.block 0 (.loop
 (.seq (.seq
 (rg [ma 5 4,ma 6 0,oo 7 .len [.t 6],oo 8 (.bin .lss) [.t 5,.t 7]])
 (.cond (.t 8)
 .skip
 (.exit 0)))
 (.seq (.block 1 (rg [ma 11 3,ma 12 0,ma 13 4,oo 14 (.iad 13) [.t 12,.t 13],oo 15 (.ld true 13) [.t 14],ca 16 zcg [.t 15],oo 17 (.bsl 13 1 [v0,v0,ve,v0,v0,v0,v0,v0,vn,vn,ve,v0,ve] [0]) [.t 16],oo 18 (.app 13 160) [.t 11,.t 17],ma 3 18]))
 (rg [ma 9 4,oo 10 (.bin .add) [.t 9,ki 1],ma 4 10]))))))
 (sr [ma 19 3,ma 2 19]
 .ret))))⟩
def zhA : AFun:=⟨32,[(4,none)],
 (sr [oo 2 (.box 13) [.t 0],oo 3 (.box 13) [.t 1],oo 4 .mv [.c (.bool false)]]
 (.seq (.seq
 (rg [fa 5 0 2,la 6 5,fa 7 0 3,la 8 7,oo 9 (.bin .neq) [.t 6,.t 8]])
 (.cond (.t 9)
 (sr [fa 10 0 2,la 11 10,fa 12 0 3,la 13 12,oo 14 (.bin .lss) [.t 11,.t 13],ma 4 14]
 .ret)
 .skip))
 (.seq (.seq
 (rg [fa 15 1 2,la 16 15,fa 17 1 3,la 18 17,oo 19 (.bin .neq) [.t 16,.t 18]])
 (.cond (.t 19)
 (sr [fa 20 1 2,la 21 20,fa 22 1 3,la 23 22,oo 24 (.bin .lss) [.t 21,.t 23],ma 4 24]
 .ret)
 .skip))
 (sr [fa 25 11 2,fa 26 1 25,la 27 26,fa 28 11 3,fa 29 1 28,la 30 29,oo 31 (.bin .lss) [.t 27,.t 30],ma 4 31]
 .ret))))⟩
def zi2 : AFun:=⟨9,[(2,none)],
 (sr [oo 2 .mv [.c (.bool false)]]
 (sr [ma 3 0,oo 4 (.bin .geq) [.t 3,ki 0],ma 5 4,mg 6 0 5,og 7 (.bin .lss) [.t 6,ki 64] 5,oo 8 .pick [.t 5,.t 7,.c (.bool false)],ma 2 8]
 .ret))⟩
def zkY : AFun:=⟨12,[(4,none)],
 (sr [oo 4 .mv [.c (.bool false)]]
 (sr [ma 5 0,oo 6 (.bin .geq) [.t 5,ki 0],ma 7 6,mg 8 0 7,mg 9 1 7,og 10 (.bin .leq) [.t 8,.t 9] 7,oo 11 .pick [.t 7,.t 10,.c (.bool false)],ma 4 11]
 .ret))⟩
def zfe : AFun:=⟨106,[(2,none)],
 (sr [oo 1 (.box 13) [.t 0],oo 2 .mv [.c (.bool false)]]
 (.seq (.seq
 (rg [fa 4 1 1,la 5 4,ca 6 zcQ [.t 5,ki 199],oo 7 (.un .not) [.t 6],ma 8 7,fh 9 5 1 8,lh 10 9 8,oh 11 .call [.f zcQ,.t 10,ki 1099511627776] 8,oh 12 (.un .not) [.t 11] 8,oo 13 .pick [.t 8,.c (.bool true),.t 12],ma 14 13,fh 15 6 1 14,lh 16 15 14,oh 17 .call [.f zcQ,.t 16,ki 1099511627776] 14,oh 18 (.un .not) [.t 17] 14,oo 19 .pick [.t 14,.c (.bool true),.t 18],ma 20 19,fh 21 7 1 20,lh 22 21 20,oh 23 .call [.f zcQ,.t 22,ki 1099511627776] 20,oh 24 (.un .not) [.t 23] 20,oo 25 .pick [.t 20,.c (.bool true),.t 24]])
 (.cond (.t 25)
 (sr [oo 2 .mv [.c (.bool false)]]
 .ret)
 .skip))
 (.seq (.seq
 (rg [oo 3 .mv [ki 0]])
 (.block 0 (.loop
 (.seq (.seq
 (rg [ma 26 3,fa 27 8 1,la 28 27,oo 29 .len [.t 28],oo 30 (.bin .lss) [.t 26,.t 29]])
 (.cond (.t 30)
 .skip
 (.exit 0)))
 (.seq (.block 1 (sr [fa 33 8 1,la 34 33,ma 35 3,oo 36 (.iad 1) [.t 34,.t 35],la 37 36,ca 38 zcQ [.t 37,ki 1099511627776],oo 39 (.un .not) [.t 38]]
 (.cond (.t 39)
 (sr [oo 2 .mv [.c (.bool false)]]
 .ret)
 .skip)))
 (rg [ma 31 3,oo 32 (.bin .add) [.t 31,ki 1],ma 3 32]))))))
 (.seq (.seq
 (rg [fa 40 4 1,la 41 40])
 (.block 2 (sr [oo 43 (.bin .eql) [.t 41,ki 1],ma 42 43]
 (.cond (.t 42)
 (sr [fa 44 5 1,la 45 44,ca 46 zeo [.t 45],ma 47 46,fg 48 5 1 47,lg 49 48 47,fg 50 0 1 47,lg 51 50 47,og 52 (.bin .neq) [.t 49,.t 51] 47,oo 53 .pick [.t 47,.t 52,.c (.bool false)],ma 54 53,fg 55 6 1 54,lg 56 55 54,og 57 (.bin .geq) [.t 56,ki 1] 54,oo 58 .pick [.t 54,.t 57,.c (.bool false)],ma 59 58,fg 60 6 1 59,lg 61 60 59,og 62 (.bin .leq) [.t 61,ki 3] 59,oo 63 .pick [.t 59,.t 62,.c (.bool false)],ma 64 63,fg 65 7 1 64,lg 66 65 64,fg 67 3 1 64,lg 68 67 64,og 69 (.bin .geq) [.t 66,.t 68] 64,oo 70 .pick [.t 64,.t 69,.c (.bool false)],ma 71 70,fg 72 7 1 71,lg 73 72 71,og 74 (.bin .leq) [.t 73,ki 2147483648] 71,oo 75 .pick [.t 71,.t 74,.c (.bool false)],ma 2 75]
 .ret)
 (sr [oo 77 (.bin .eql) [.t 41,ki 2],ma 76 77]
 (.cond (.t 76)
 (sr [fa 78 5 1,la 79 78,ca 80 zcQ [.t 79,ki 199],ma 81 80,fg 82 6 1 81,lg 83 82 81,og 84 (.bin .eql) [.t 83,ki 0] 81,oo 85 .pick [.t 81,.t 84,.c (.bool false)],ma 86 85,fg 87 7 1 86,lg 88 87 86,og 89 (.bin .eql) [.t 88,ki 0] 86,oo 90 .pick [.t 86,.t 89,.c (.bool false)],ma 2 90]
 .ret)
 (sr [oo 92 (.bin .eql) [.t 41,ki 3],ma 91 92]
 (.cond (.t 91)
 (sr [fa 93 5 1,la 94 93,oo 95 (.bin .eql) [.t 94,ki 0],ma 96 95,fg 97 6 1 96,lg 98 97 96,og 99 (.bin .eql) [.t 98,ki 0] 96,oo 100 .pick [.t 96,.t 99,.c (.bool false)],ma 101 100,fg 102 7 1 101,lg 103 102 101,og 104 (.bin .eql) [.t 103,ki 0] 101,oo 105 .pick [.t 101,.t 104,.c (.bool false)],ma 2 105]
 .ret)
 .skip))))))))
 (sr [oo 2 .mv [.c (.bool true)]]
 .ret)))))⟩
def zhD : AFun:=⟨6,[(2,none)],
 (sr [oo 1 (.box 13) [.t 0],oo 2 .mv [(.c ve)]]
 (sr [oo 3 (.ld true 13) [.t 1],ca 4 zf9 [.t 3],ca 5 zbu [.t 4],ma 2 5]
 .ret))⟩
def zcA : AFun:=⟨11,[],
 (sr [ma 3 0,oo 4 .len [.t 3],ma 2 4]
 (rg [ma 5 0,ma 6 2,ma 7 2,oo 8 (.cvt .u64) [.t 7],ca 9 zdV [.t 8],ca 10 za0 [.t 5,ki 0,.t 6,.t 9]]))⟩
def zcc : AFun:=⟨61,[(2,none)],
 (sr [oo 2 .mv [kn]]
 (.seq (.seq
 (rg [ma 6 0,oo 7 .len [.t 6],oo 8 (.bin .lss) [.t 7,ki 2]])
 (.cond (.t 8)
 (sr [ma 9 0,ma 2 9]
 .ret)
 .skip))
 (.seq (.seq
 (rg [oo 3 .mv [ki 1]])
 (.block 0 (.loop
 (.seq (.seq
 (rg [ma 10 3,ma 11 0,oo 12 .len [.t 11],oo 13 (.bin .lss) [.t 10,.t 12]])
 (.cond (.t 13)
 .skip
 (.exit 0)))
 (.seq (.block 1 (.seq (.reg true [ma 16 0,ma 17 3,oo 18 (.iad 1) [.t 16,.t 17],la 19 18,ma 20 0,ma 21 3,oo 22 (.bin .sub) [.t 21,ki 1],oo 23 (.iad 1) [.t 20,.t 22],la 24 23,oo 25 (.bin .eql) [.t 19,.t 24]] [[],[],[0,1],[2],[],[],[5],[4,6],[7],[3,8]])
 (.cond (.t 25)
 (sr [ma 26 0,ma 27 3,oo 28 (.slc 1 true false false) [.t 26,.t 27],ma 4 28]
 (.seq (.seq
 (rg [oo 5 .mv [ki 1]])
 (.block 2 (.loop
 (.seq (.seq
 (rg [ma 29 5,ma 30 4,oo 31 .len [.t 30],oo 32 (.bin .lss) [.t 29,.t 31]])
 (.cond (.t 32)
 .skip
 (.exit 2)))
 (.seq (.block 3 (.seq (.reg true [ma 35 4,ma 36 5,oo 37 (.iad 1) [.t 35,.t 36],la 38 37,ma 39 4,ma 40 5,oo 41 (.bin .sub) [.t 40,ki 1],oo 42 (.iad 1) [.t 39,.t 41],la 43 42,oo 44 (.bin .neq) [.t 38,.t 43]] [[],[],[0,1],[2],[],[],[5],[4,6],[7],[3,8]])
 (.cond (.t 44)
 (sr [ma 45 0,ma 46 3,ma 47 4,ma 48 5,oo 49 (.iad 1) [.t 47,.t 48],la 50 49,oo 51 (.iad 1) [.t 45,.t 46],ou (.st 1) [.t 51,.t 50]]
 (rg [ma 52 3,oo 53 (.bin .add) [.t 52,ki 1],ma 3 53]))
 .skip)))
 (rg [ma 33 5,oo 34 (.bin .add) [.t 33,ki 1],ma 5 34]))))))
 (sr [ma 54 0,ma 55 3,oo 56 (.slc 1 true false false) [.t 54,.t 55],ou (.clr 1 [v0]) [.t 56]]
 (sr [ma 57 0,ma 58 3,oo 59 (.slc 1 false true false) [.t 57,.t 58],ma 2 59]
 .ret))))
 .skip)))
 (rg [ma 14 3,oo 15 (.bin .add) [.t 14,ki 1],ma 3 15]))))))
 (sr [ma 60 0,ma 2 60]
 .ret))))⟩
def zkp : AFun:=⟨38,[(2,none)],
 (sr [oo 2 .mv [kn]]
 (sr [oo 3 .mv [kn]]
 (.seq (.seq
 (rg [ma 6 0,oo 7 .len [.t 6],oo 8 .mv [ki 0]])
 (.block 0 (.loop
 (sr [oo 9 (.bin .lss) [.t 8,.t 7]]
 (.seq (.cond (.t 9)
 .skip
 (.exit 0))
 (.seq (.block 1 (sr [oo 10 (.iad 13) [.t 6,.t 8],oo 11 (.ld true 13) [.t 10],oo 5 (.alloc [v0,v0,ve,v0,v0,v0,v0,v0,vn,vn,ve,v0,ve]) [],ou (.st 13) [.t 5,.t 11]]
 (sr [fa 12 4 5,la 13 12,oo 14 (.bin .eql) [.t 13,ki 1]]
 (.cond (.t 14)
 (.reg true [ma 15 3,fa 16 0 5,la 17 16,fa 18 5 5,la 19 18,fa 20 6 5,la 21 20,fa 22 1 5,la 23 22,fa 24 3 5,la 25 24,fa 26 7 5,la 27 26,ma 28 0,oo 29 (.ld true 13) [.t 5],ca 30 zdQ [.t 28,.t 29],oo 31 (.build [v0,v0,v0,v0,v0,v0,v0] [(0,1),(1,1),(2,1),(3,1),(4,1),(5,1),(6,1)]) [.t 17,.t 19,.t 21,.t 23,.t 25,.t 27,.t 30],oo 32 (.bsl 7 1 [v0,v0,v0,v0,v0,v0,v0] [0]) [.t 31],oo 33 (.app 7 56) [.t 15,.t 32],ma 3 33] [[],[],[1],[],[3],[],[5],[],[7],[],[9],[],[11],[],[],[13,14],[2,4,6,8,10,12,15],[16],[0,17,15],[18,18,0,1,2,3,4,5,6,7,8,9,10,11,12,13,14,15,16,17,18]])
 .skip))))
 (rg [oo 34 (.bin .add) [.t 8,ki 1],ma 8 34])))))))
 (sr [ma 35 3,ca 36 zaM [.t 35,(.f zeX)]]
 (sr [ma 37 3,ma 2 37]
 .ret)))))⟩
def zgC : AFun:=⟨42,[(6,none)],
 (sr [oo 3 (.box 7) [.t 0],oo 6 .mv [.c (.bool false)]]
 (sr [fa 7 4 3,la 8 7,ma 9 2,oo 10 (.bin .leq) [.t 8,.t 9],ma 11 10,mg 12 2 11,fg 13 5 3 11,lg 14 13 11,og 15 (.bin .lss) [.t 12,.t 14] 11,oo 16 .pick [.t 11,.t 15,.c (.bool false)],ma 17 16,fg 18 6 3 17,lg 19 18 17,og 20 (.bin .lss) [.t 19,ki 0] 17,mg 21 20 17,fh 22 6 3 21,lh 23 22 21,mh 24 2 21,oh 25 (.bin .gtr) [.t 23,.t 24] 21,og 26 .pick [.t 21,.c (.bool true),.t 25] 17,oo 27 .pick [.t 17,.t 26,.c (.bool false)],ma 28 27,mg 29 1 28,fg 30 0 3 28,lg 31 30 28,og 32 .call [.f zap,.t 29,.t 31] 28,og 33 (.un .not) [.t 32] 28,oo 34 .pick [.t 28,.t 33,.c (.bool false)],ma 35 34,mg 36 1 35,fg 37 1 3 35,lg 38 37 35,og 39 .call [.f zap,.t 36,.t 38] 35,og 40 (.un .not) [.t 39] 35,oo 41 .pick [.t 35,.t 40,.c (.bool false)],ma 6 41]
 .ret))⟩
def zge : AFun:=⟨58,[(2,none)],
 (sr [oo 1 (.box 3) [.t 0],oo 2 .mv [ki 0]]
 (.seq (.seq
 (rg [fa 5 0 1,la 6 5,ca 7 zaY [.t 6,ki 0,ki 64],oo 8 (.un .not) [.t 7],ma 9 8,fh 10 1 1 9,lh 11 10 9,oh 12 .len [.t 11] 9,oh 13 (.bin .gtr) [.t 12,ki 500] 9,oo 14 .pick [.t 9,.c (.bool true),.t 13],ma 15 14,fh 16 2 1 15,lh 17 16 15,fh 18 0 1 15,lh 19 18 15,oh 20 (.bin .sub) [.t 19,ki 1] 15,oh 21 .call [.f zbB,.t 17,ki 0,.t 20] 15,oh 22 (.un .not) [.t 21] 15,oo 23 .pick [.t 15,.c (.bool true),.t 22]])
 (.cond (.t 23)
 (sr [oo 2 .mv [ki 14]]
 .ret)
 .skip))
 (.seq (.seq
 (rg [fa 24 1 1,la 25 24,oo 26 .len [.t 25],oo 27 .mv [ki 0]])
 (.block 0 (.loop
 (sr [oo 28 (.bin .lss) [.t 27,.t 26]]
 (.seq (.cond (.t 28)
 .skip
 (.exit 0))
 (.seq (.block 1 (sr [ma 29 27,oo 30 (.iad 3) [.t 25,.t 27],oo 31 (.ld true 3) [.t 30],oo 4 (.alloc [v0,v0,v0]) [],ma 3 29,ou (.st 3) [.t 4,.t 31]]
 (.seq (.reg true [oo 32 (.ld true 3) [.t 1],oo 33 (.ld true 3) [.t 4],ca 34 zdK [.t 32,.t 33],oo 35 (.un .not) [.t 34],ma 36 35,fh 37 2 4 36,lh 38 37 36,oh 39 .call [.f zaY,.t 38,ki 1,ki 3] 36,oh 40 (.un .not) [.t 39] 36,oo 41 .pick [.t 36,.c (.bool true),.t 40],ma 42 41,mh 43 3 42,oh 44 (.bin .gtr) [.t 43,ki 0] 42,mh 45 44 42,fg 46 1 1 45,lg 47 46 45,mg 48 3 45,og 49 (.bin .sub) [.t 48,ki 1] 45,og 50 (.iad 3) [.t 47,.t 49] 45,og 51 (.ld true 3) [.t 50] 45,og 52 (.ld true 3) [.t 4] 45,og 53 .call [.f zcq,.t 51,.t 52] 45,og 54 (.bin .geq) [.t 53,ki 0] 45,oh 55 .pick [.t 45,.t 54,.c (.bool false)] 42,oo 56 .pick [.t 42,.c (.bool true),.t 55]] [[],[],[0,1],[2],[3,2],[4],[5,4],[6,4,4],[7,4],[4,8],[9,7],[10],[11,10],[12,10,10],[13],[14,13],[13],[16,13],[15,17,13],[18,13],[13],[19,20,13,13],[21,13],[13,22,10],[10,23]])
 (.cond (.t 56)
 (sr [oo 2 .mv [ki 14]]
 .ret)
 .skip))))
 (rg [oo 57 (.bin .add) [.t 27,ki 1],ma 27 57])))))))
 (sr [oo 2 .mv [ki 0]]
 .ret))))⟩
def zfN : AFun:=⟨38,[(6,none)],
 (sr [oo 6 .mv [.c (.bool false)]]
 (.seq (.seq
 (rg [ma 9 0,oo 10 .len [.t 9],oo 11 .mv [ki 0]])
 (.block 0 (.loop
 (sr [oo 12 (.bin .lss) [.t 11,.t 10]]
 (.seq (.cond (.t 12)
 .skip
 (.exit 0))
 (.seq (.block 1 (sr [ma 13 11,oo 14 (.iad 1) [.t 9,.t 11],la 15 14,ma 7 13,ma 8 15]
 (sr [ma 16 8,ma 17 1,oo 18 (.bin .lss) [.t 16,.t 17],ma 19 18,mh 20 8 19,mh 21 2 19,oh 22 (.bin .gtr) [.t 20,.t 21] 19,oo 23 .pick [.t 19,.c (.bool true),.t 22],ma 24 23,mh 25 7 24,oh 26 (.bin .gtr) [.t 25,ki 0] 24,mh 27 26 24,mg 28 8 27,mg 29 0 27,mg 30 7 27,og 31 (.bin .sub) [.t 30,ki 1] 27,og 32 (.iad 1) [.t 29,.t 31] 27,lg 33 32 27,og 34 (.bin .leq) [.t 28,.t 33] 27,oh 35 .pick [.t 27,.t 34,.c (.bool false)] 24,oo 36 .pick [.t 24,.c (.bool true),.t 35]]
 (.cond (.t 36)
 (sr [oo 6 .mv [.c (.bool false)]]
 .ret)
 .skip))))
 (rg [oo 37 (.bin .add) [.t 11,ki 1],ma 11 37])))))))
 (sr [oo 6 .mv [.c (.bool true)]]
 .ret)))⟩
def zk1 : AFun:=⟨18,[(4,none)],
 (sr [oo 2 (.box 3) [.t 0],oo 4 .mv [kn]]
 (sr [oo 7 (.ld true 3) [.t 2],ma 8 1,ca 9 zei [.t 7,.t 8],oo 5 (.alloc [vn]) [],ou (.st 1) [.t 5,.t 9]]
 (sr [la 10 5,oo 11 .len [.t 10],oo 12 (.mkf zb0) [.t 5],ca 13 zcC [.t 11,.t 12],ma 6 13]
 (sr [ma 14 6,oo 15 (.mkf zct) [.t 5],ca 16 zbx [.t 14,.t 15]]
 (sr [ma 17 6,ma 4 17]
 .ret)))))⟩
def zoy : AFun:=⟨20,[(4,none)],
 (sr [oo 4 .mv [kn]]
 (sr [oo 5 .mv [kn]]
 (.seq (.seq
 (rg [ma 7 0,oo 8 .mv [ki 0]])
 (.block 0 (.loop
 (sr [oo 9 (.bin .lss) [.t 8,.t 7]]
 (.seq (.cond (.t 9)
 .skip
 (.exit 0))
 (.seq (.block 1 (sr [ma 10 8,ma 6 10]
 (sr [ma 11 1,ma 12 6,oo 13 .call [.t 11,.t 12]]
 (.cond (.t 13)
 (rg [ma 14 5,ma 15 6,oo 16 (.bsl 1 1 [v0] [0]) [.t 15],oo 17 (.app 1 8) [.t 14,.t 16],ma 5 17])
 .skip))))
 (rg [oo 18 (.bin .add) [.t 8,ki 1],ma 8 18])))))))
 (sr [ma 19 5,ma 4 19]
 .ret))))⟩
def zgE : AFun:=⟨27,[(4,none)],
 (sr [oo 4 .mv [.c (.bool false)]]
 (.seq (.seq
 (rg [ma 6 0,oo 7 .len [.t 6],ma 8 1,oo 9 .len [.t 8],oo 10 (.bin .neq) [.t 7,.t 9]])
 (.cond (.t 10)
 (sr [oo 4 .mv [.c (.bool false)]]
 .ret)
 .skip))
 (.seq (.seq
 (rg [oo 5 .mv [ki 0]])
 (.block 0 (.loop
 (.seq (.seq
 (rg [ma 11 5,ma 12 0,oo 13 .len [.t 12],oo 14 (.bin .lss) [.t 11,.t 13]])
 (.cond (.t 14)
 .skip
 (.exit 0)))
 (.seq (.block 1 (.seq (.reg true [ma 17 0,ma 18 5,oo 19 (.iad 13) [.t 17,.t 18],oo 20 (.ld true 13) [.t 19],ma 21 1,ma 22 5,oo 23 (.iad 13) [.t 21,.t 22],oo 24 (.ld true 13) [.t 23],ca 25 zdD [.t 20,.t 24],oo 26 (.un .not) [.t 25]] [[],[],[0,1],[2],[],[],[4,5],[6],[3,7],[8]])
 (.cond (.t 26)
 (sr [oo 4 .mv [.c (.bool false)]]
 .ret)
 .skip)))
 (rg [ma 15 5,oo 16 (.bin .add) [.t 15,ki 1],ma 5 16]))))))
 (sr [oo 4 .mv [.c (.bool true)]]
 .ret))))⟩
def zmC : AFun:=⟨50,[(4,none)],
 (sr [oo 2 (.box 3) [.t 0],oo 3 (.box 1) [.t 1],oo 4 .mv [kn]]
 (sr [oo 11 (.bsl 1 1 [v0] [0]) [ki (-1)],fa 12 0 2,la 13 12,oo 14 .mx2 [ki 0,.t 13],ca 15 zcl [.t 11,.t 14],oo 5 (.alloc [vn]) [],ou (.st 1) [.t 5,.t 15]]
 (sr [fa 16 0 2,la 17 16,oo 18 (.mkf zcX) [.t 2,.t 3],ca 19 zcC [.t 17,.t 18],ma 6 19]
 (.seq (.seq
 (rg [oo 7 .mv [ki 0]])
 (.block 0 (.loop
 (.seq (.seq
 (rg [ma 20 6,oo 21 .len [.t 20],oo 22 (.bin .gtr) [.t 21,ki 0]])
 (.cond (.t 22)
 .skip
 (.exit 0)))
 (.seq (.block 1 (sr [oo 8 .mv [kn]]
 (.seq (.seq
 (rg [ma 25 6,oo 26 .len [.t 25],oo 27 .mv [ki 0]])
 (.block 2 (.loop
 (sr [oo 28 (.bin .lss) [.t 27,.t 26]]
 (.seq (.cond (.t 28)
 .skip
 (.exit 2))
 (.seq (.block 3 (sr [oo 29 (.iad 1) [.t 25,.t 27],la 30 29,ma 10 30]
 (.seq (.seq
 (rg [la 31 5,ma 32 10,oo 33 (.iad 1) [.t 31,.t 32],la 34 33,oo 35 (.bin .geq) [.t 34,ki 0]])
 (.cond (.t 35)
 (.exit 3)
 .skip))
 (sr [la 36 5,ma 37 10,ma 38 7,oo 39 (.iad 1) [.t 36,.t 37],ou (.st 1) [.t 39,.t 38]]
 (rg [ma 40 8,oo 41 (.ld true 3) [.t 2],ma 42 10,ca 43 ziM [.t 41,.t 42],oo 44 (.app 1 8) [.t 40,.t 43],ma 8 44])))))
 (rg [oo 45 (.bin .add) [.t 27,ki 1],ma 27 45])))))))
 (rg [ma 46 8,oo 47 (.mkf zcW) [.t 5],ca 48 zbO [.t 46,.t 47],ma 6 48]))))
 (rg [ma 23 7,oo 24 (.bin .add) [.t 23,ki 1],ma 7 24]))))))
 (sr [la 49 5,ma 4 49]
 .ret)))))⟩
def zmB : AFun:=⟨12,[(2,some (true,3))],
 (sr [oo 1 (.box 3) [.t 0],oo 2 (.alloc [v0,vn,vn]) []]
 (.seq (.reg true [fa 3 0 1,la 4 3,fa 5 1 1,la 6 5,ca 7 za6 [.t 6],fa 8 2 1,la 9 8,ca 10 zbs [.t 9],oo 11 (.build [v0,vn,vn] [(0,1),(1,1),(2,1)]) [.t 4,.t 7,.t 10],ou (.st 3) [.t 2,.t 11]] [[],[0],[],[2],[3],[],[5],[6,4],[1,4,7],[8,7,0,1,2,3,4,5,6,7,8]])
 .ret))⟩
def zcM : AFun:=⟨42,[(4,none)],
 (sr [oo 4 .mv [kn]]
 (sr [ma 8 0,ma 9 1,ca 10 zbf [.t 8,.t 9],ma 5 10]
 (.seq (.seq
 (rg [ma 11 5,oo 12 (.bin .eql) [.t 11,ki (-1)]])
 (.cond (.t 12)
 (sr [ma 13 0,ma 4 13]
 .ret)
 .skip))
 (.seq (.seq
 (rg [ma 14 5,oo 15 (.bin .add) [.t 14,ki 1],ma 6 15])
 (.block 0 (.loop
 (.seq (.seq
 (rg [ma 16 6,ma 17 0,oo 18 .len [.t 17],oo 19 (.bin .lss) [.t 16,.t 18]])
 (.cond (.t 19)
 .skip
 (.exit 0)))
 (.seq (.block 1 (sr [ma 22 0,ma 23 6,oo 24 (.iad 3) [.t 22,.t 23],oo 25 (.ld true 3) [.t 24],oo 7 (.alloc [v0,v0,v0]) [],ou (.st 3) [.t 7,.t 25]]
 (sr [ma 26 1,oo 27 (.ld true 3) [.t 7],oo 28 .call [.t 26,.t 27],oo 29 (.un .not) [.t 28]]
 (.cond (.t 29)
 (sr [ma 30 0,ma 31 5,oo 32 (.ld true 3) [.t 7],oo 33 (.iad 3) [.t 30,.t 31],ou (.st 3) [.t 33,.t 32]]
 (rg [ma 34 5,oo 35 (.bin .add) [.t 34,ki 1],ma 5 35]))
 .skip))))
 (rg [ma 20 6,oo 21 (.bin .add) [.t 20,ki 1],ma 6 21]))))))
 (sr [ma 36 0,ma 37 5,oo 38 (.slc 3 true false false) [.t 36,.t 37],ou (.clr 3 [v0,v0,v0]) [.t 38]]
 (sr [ma 39 0,ma 40 5,oo 41 (.slc 3 false true false) [.t 39,.t 40],ma 4 41]
 .ret))))))⟩
def zko : AFun:=⟨8,[(3,none)],
 (sr [oo 2 (.box 3) [.t 0],oo 3 .mv [.c (.bool false)]]
 (sr [fa 4 2 2,la 5 4,la 6 1,oo 7 (.bin .lss) [.t 5,.t 6],ma 3 7]
 .ret))⟩
def zbS : AFun:=⟨19,[(4,none)],
 (sr [oo 4 .mv [ki 0]]
 (.seq (.seq
 (rg [ma 6 0,oo 7 .len [.t 6],oo 8 .mv [ki 0]])
 (.block 0 (.loop
 (sr [oo 9 (.bin .lss) [.t 8,.t 7]]
 (.seq (.cond (.t 9)
 .skip
 (.exit 0))
 (.seq (.block 1 (sr [ma 10 8,ma 5 10]
 (sr [ma 11 1,ma 12 0,ma 13 5,oo 14 (.iad 1) [.t 12,.t 13],la 15 14,oo 16 (.bin .eql) [.t 11,.t 15]]
 (.cond (.t 16)
 (sr [ma 17 5,ma 4 17]
 .ret)
 .skip))))
 (rg [oo 18 (.bin .add) [.t 8,ki 1],ma 8 18])))))))
 (sr [oo 4 .mv [ki (-1)]]
 .ret)))⟩
def zeO : AFun:=⟨19,[(4,none)],
 (sr [oo 4 .mv [ki 0]]
 (.seq (.seq
 (rg [ma 6 0,oo 7 .len [.t 6],oo 8 .mv [ki 0]])
 (.block 0 (.loop
 (sr [oo 9 (.bin .lss) [.t 8,.t 7]]
 (.seq (.cond (.t 9)
 .skip
 (.exit 0))
 (.seq (.block 1 (sr [ma 10 8,ma 5 10]
 (sr [ma 11 1,ma 12 0,ma 13 5,oo 14 (.iad 1) [.t 12,.t 13],la 15 14,oo 16 .call [.t 11,.t 15]]
 (.cond (.t 16)
 (sr [ma 17 5,ma 4 17]
 .ret)
 .skip))))
 (rg [oo 18 (.bin .add) [.t 8,ki 1],ma 8 18])))))))
 (sr [oo 4 .mv [ki (-1)]]
 .ret)))⟩
def zrc : AFun:=⟨87,[(2,none)],
 (sr [oo 2 .mv [(.c ve)]]
 (sr [oo 11 (.bsl 1 8 [(.int .u32 0)] [0,1,2,3,4,5,6,7]) [(.c (.int .u32 1779033703)),(.c (.int .u32 3144134277)),(.c (.int .u32 1013904242)),(.c (.int .u32 2773480762)),(.c (.int .u32 1359893119)),(.c (.int .u32 2600822924)),(.c (.int .u32 528734635)),(.c (.int .u32 1541459225))],ma 3 11]
 (sr [ma 12 0,oo 13 (.app 1 1) [kn,.t 12],oo 14 (.bsl 1 1 [(.int .u8 0)] [0]) [(.c (.int .u8 128))],oo 15 (.app 1 1) [.t 13,.t 14],ma 4 15]
 (.seq (.block 0 (.loop
 (.seq (.seq
 (rg [ma 16 4,oo 17 .len [.t 16],oo 18 (.bin .rem) [.t 17,ki 64],oo 19 (.bin .neq) [.t 18,ki 56]])
 (.cond (.t 19)
 .skip
 (.exit 0)))
 (.block 1 (rg [ma 20 4,oo 21 (.bsl 1 1 [(.int .u8 0)] [0]) [(.c (.int .u8 0))],oo 22 (.app 1 1) [.t 20,.t 21],ma 4 22])))))
 (sr [ma 23 0,oo 24 .len [.t 23],oo 25 (.cvt .u64) [.t 24],oo 26 (.bin .mul) [.t 25,(.c (.int .u64 8))],ma 5 26]
 (.seq (.seq
 (rg [oo 6 .mv [ki 7]])
 (.block 2 (.loop
 (.seq (.seq
 (rg [ma 27 6,oo 28 (.bin .geq) [.t 27,ki 0]])
 (.cond (.t 28)
 .skip
 (.exit 2)))
 (.seq (.block 3 (rg [ma 31 4,ma 32 5,ma 33 6,oo 34 (.bin .mul) [ki 8,.t 33],oo 35 (.cvt .u64) [.t 34],oo 36 (.bin .shr) [.t 32,.t 35],oo 37 (.cvt .u8) [.t 36],oo 38 (.bsl 1 1 [(.int .u8 0)] [0]) [.t 37],oo 39 (.app 1 1) [.t 31,.t 38],ma 4 39]))
 (rg [ma 29 6,oo 30 (.bin .sub) [.t 29,ki 1],ma 6 30]))))))
 (sr [ca 40 zd2 [],ma 7 40]
 (.seq (.seq
 (rg [oo 8 .mv [ki 0]])
 (.block 4 (.loop
 (.seq (.seq
 (rg [ma 41 8,ma 42 4,oo 43 .len [.t 42],oo 44 (.bin .lss) [.t 41,.t 43]])
 (.cond (.t 44)
 .skip
 (.exit 4)))
 (.seq (.block 5 (rg [ma 47 3,ma 48 4,ma 49 8,ma 50 8,oo 51 (.bin .add) [.t 50,ki 64],oo 52 (.slc 1 true true false) [.t 48,.t 49,.t 51],ma 53 7,ca 54 zgf [.t 47,.t 52,.t 53],ma 3 54]))
 (rg [ma 45 8,oo 46 (.bin .add) [.t 45,ki 64],ma 8 46]))))))
 (sr [oo 9 .mv [kn]]
 (.seq (.seq
 (rg [oo 10 .mv [ki 0]])
 (.block 6 (.loop
 (.seq (.seq
 (rg [ma 55 10,oo 56 (.bin .lss) [.t 55,ki 8]])
 (.cond (.t 56)
 .skip
 (.exit 6)))
 (.seq (.block 7 (.reg true [ma 59 9,ma 60 3,ma 61 10,oo 62 (.iad 1) [.t 60,.t 61],la 63 62,oo 64 (.bin .shr) [.t 63,(.c (.int .u64 24))],oo 65 (.cvt .u8) [.t 64],ma 66 3,ma 67 10,oo 68 (.iad 1) [.t 66,.t 67],la 69 68,oo 70 (.bin .shr) [.t 69,(.c (.int .u64 16))],oo 71 (.cvt .u8) [.t 70],ma 72 3,ma 73 10,oo 74 (.iad 1) [.t 72,.t 73],la 75 74,oo 76 (.bin .shr) [.t 75,(.c (.int .u64 8))],oo 77 (.cvt .u8) [.t 76],ma 78 3,ma 79 10,oo 80 (.iad 1) [.t 78,.t 79],la 81 80,oo 82 (.cvt .u8) [.t 81],oo 83 (.bsl 1 4 [(.int .u8 0)] [0,1,2,3]) [.t 65,.t 71,.t 77,.t 82],oo 84 (.app 1 1) [.t 59,.t 83],ma 9 84] [[],[],[],[1,2],[3],[4],[5],[],[],[7,8],[9],[10],[11],[],[],[13,14],[15],[16],[17],[],[],[19,20],[21],[22],[6,12,18,23],[0,24],[25,25,0,1,2,3,4,5,6,7,8,9,10,11,12,13,14,15,16,17,18,19,20,21,22,23,24,25]]))
 (rg [ma 57 10,oo 58 (.bin .add) [.t 57,ki 1],ma 10 58]))))))
 (sr [ma 85 9,oo 86 .b2s [.t 85],ma 2 86]
 .ret)))))))))))⟩
def zjp : AFun:=⟨71,[(2,none)],
 (sr [oo 1 (.box 13) [.t 0],oo 2 .mv [kn]]
 (.seq (.reg true [fa 8 0 1,la 9 8,ca 10 zcd [kn,.t 9],fa 11 1 1,la 12 11,ca 13 zcd [.t 10,.t 12],fa 14 2 1,la 15 14,ca 16 zev [.t 13,.t 15],ma 3 16] [[],[0],[1],[],[3],[2,4,2],[],[6],[5,7,5],[8,8,0,1,2,3,4,5,6,7,8]])
 (.seq (.seq
 (rg [fa 17 3 1,la 18 17,fa 19 4 1,la 20 19,fa 21 5 1,la 22 21,fa 23 6 1,la 24 23,fa 25 7 1,la 26 25,oo 27 (.bsl 1 5 [v0] [0,1,2,3,4]) [.t 18,.t 20,.t 22,.t 24,.t 26],oo 28 .len [.t 27],oo 29 .mv [ki 0]])
 (.block 0 (.loop
 (sr [oo 30 (.bin .lss) [.t 29,.t 28]]
 (.seq (.cond (.t 30)
 .skip
 (.exit 0))
 (.seq (.block 1 (sr [oo 31 (.iad 1) [.t 27,.t 29],la 32 31,ma 5 32]
 (rg [ma 33 3,ma 34 5,ca 35 zcd [.t 33,.t 34],ma 3 35])))
 (rg [oo 36 (.bin .add) [.t 29,ki 1],ma 29 36])))))))
 (.seq (.reg true [ma 37 3,fa 38 8 1,la 39 38,ca 40 zg5 [.t 37,.t 39],fa 41 9 1,la 42 41,oo 43 .len [.t 42],ca 44 zcd [.t 40,.t 43],ma 3 44] [[],[],[1],[0,2],[],[4],[5],[3,6,3],[7,7,0,1,2,3,4,5,6,7]])
 (.seq (.seq
 (rg [oo 6 .mv [ki 0]])
 (.block 2 (.loop
 (.seq (.seq
 (rg [ma 45 6,fa 46 9 1,la 47 46,oo 48 .len [.t 47],oo 49 (.bin .lss) [.t 45,.t 48]])
 (.cond (.t 49)
 .skip
 (.exit 2)))
 (.seq (.block 3 (sr [fa 52 9 1,la 53 52,ma 54 6,oo 55 (.iad 3) [.t 53,.t 54],oo 56 (.ld true 3) [.t 55],oo 7 (.alloc [v0,v0,ve]) [],ou (.st 3) [.t 7,.t 56]]
 (.reg true [ma 57 3,fa 58 0 7,la 59 58,ca 60 zcd [.t 57,.t 59],fa 61 1 7,la 62 61,ca 63 zcd [.t 60,.t 62],fa 64 2 7,la 65 64,ca 66 zev [.t 63,.t 65],ma 3 66] [[],[],[1],[0,2],[],[4],[3,5,3],[],[7],[6,8,6],[9,9,0,1,2,3,4,5,6,7,8,9]])))
 (rg [ma 50 6,oo 51 (.bin .add) [.t 50,ki 1],ma 6 51]))))))
 (sr [ma 67 3,fa 68 10 1,la 69 68,ca 70 zev [.t 67,.t 69],ma 2 70]
 .ret))))))⟩
def zbW : AFun:=⟨134,[],
 (sr [oo 8 .mv [.c (.bool true)]]
 (sr [oo 9 .mv [.c (.bool true)]]
 (.block 0 (.loop
 (.block 1 (sr [ma 19 2,ma 20 1,oo 21 (.bin .sub) [.t 19,.t 20],ma 10 21]
 (.seq (.seq
 (rg [ma 22 10,oo 23 (.bin .leq) [.t 22,ki 12]])
 (.cond (.t 23)
 (sr [ma 24 0,ma 25 1,ma 26 2,ca 27 za5 [.t 24,.t 25,.t 26]]
 .ret)
 .skip))
 (.seq (.seq
 (rg [ma 28 3,oo 29 (.bin .eql) [.t 28,ki 0]])
 (.cond (.t 29)
 (sr [ma 30 0,ma 31 1,ma 32 2,ca 33 zet [.t 30,.t 31,.t 32]]
 .ret)
 .skip))
 (.seq (.seq
 (rg [ma 34 8,oo 35 (.un .not) [.t 34]])
 (.cond (.t 35)
 (sr [ma 36 0,ma 37 1,ma 38 2,ca 39 zdx [.t 36,.t 37,.t 38]]
 (rg [ma 40 3,oo 41 (.bin .sub) [.t 40,ki 1],ma 3 41]))
 .skip))
 (sr [ma 43 0,ma 44 1,ma 45 2,ca 46 zdW [.t 43,.t 44,.t 45],ma 42 46,oo 47 (.ext 0) [.t 42],oo 48 (.ext 1) [.t 42],ma 11 47,ma 12 48]
 (.seq (.seq
 (rg [ma 49 12,oo 50 (.bin .eql) [.t 49,ki 2]])
 (.cond (.t 50)
 (sr [ma 51 0,ma 52 1,ma 53 2,ca 54 zdI [.t 51,.t 52,.t 53]]
 (sr [ma 55 2,oo 56 (.bin .sub) [.t 55,ki 1],ma 57 11,ma 58 1,oo 59 (.bin .sub) [.t 57,.t 58],oo 60 (.bin .sub) [.t 56,.t 59],ma 11 60]
 (rg [oo 12 .mv [ki 1]])))
 .skip))
 (.seq (.seq
 (rg [ma 61 8,ma 62 61,mg 63 9 62,oo 64 .pick [.t 62,.t 63,.c (.bool false)],ma 65 64,mg 66 12 65,og 67 (.bin .eql) [.t 66,ki 1] 65,oo 68 .pick [.t 65,.t 67,.c (.bool false)]])
 (.cond (.t 68)
 (sr [ma 69 0,ma 70 1,ma 71 2,ca 72 zcE [.t 69,.t 70,.t 71]]
 (.cond (.t 72)
 .ret
 .skip))
 .skip))
 (.seq (.seq
 (.reg true [ma 73 1,oo 74 (.bin .gtr) [.t 73,ki 0],ma 75 74,mg 76 0 75,mg 77 1 75,og 78 (.bin .sub) [.t 77,ki 1] 75,og 79 (.iad 1) [.t 76,.t 78] 75,lg 80 79 75,mg 81 0 75,mg 82 11 75,og 83 (.iad 1) [.t 81,.t 82] 75,lg 84 83 75,og 85 .call [.f zhy,.t 80,.t 84] 75,og 86 (.un .not) [.t 85] 75,oo 87 .pick [.t 75,.t 86,.c (.bool false)]] [[],[0],[1],[2],[2],[4,2],[3,5,2],[6,2],[2],[2],[8,9,2],[10,2],[7,11,2,2],[12,2],[2,13]])
 (.cond (.t 87)
 (sr [ma 88 0,ma 89 1,ma 90 2,ma 91 11,ca 92 zdm [.t 88,.t 89,.t 90,.t 91],ma 13 92]
 (sr [ma 93 13,ma 1 93]
 (.exit 1)))
 .skip))
 (sr [ma 95 0,ma 96 1,ma 97 2,ma 98 11,ca 99 zec [.t 95,.t 96,.t 97,.t 98],ma 94 99,oo 100 (.ext 0) [.t 94],oo 101 (.ext 1) [.t 94],ma 14 100,ma 15 101]
 (sr [ma 102 15,ma 9 102]
 (sr [ma 103 14,ma 104 1,oo 105 (.bin .sub) [.t 103,.t 104],ma 106 2,ma 107 14,oo 108 (.bin .sub) [.t 106,.t 107],ma 16 105,ma 17 108]
 (sr [ma 109 10,oo 110 (.bin .quo) [.t 109,ki 8],ma 18 110]
 (sr [ma 111 16,ma 112 17,oo 113 (.bin .lss) [.t 111,.t 112]]
 (.cond (.t 113)
 (sr [ma 114 16,ma 115 18,oo 116 (.bin .geq) [.t 114,.t 115],ma 8 116]
 (sr [ma 117 0,ma 118 1,ma 119 14,ma 120 3,ca 121 za0 [.t 117,.t 118,.t 119,.t 120]]
 (rg [ma 122 14,oo 123 (.bin .add) [.t 122,ki 1],ma 1 123])))
 (sr [ma 124 17,ma 125 18,oo 126 (.bin .geq) [.t 124,.t 125],ma 8 126]
 (sr [ma 127 0,ma 128 14,oo 129 (.bin .add) [.t 128,ki 1],ma 130 2,ma 131 3,ca 132 za0 [.t 127,.t 129,.t 130,.t 131]]
 (rg [ma 133 14,ma 2 133]))))))))))))))))))))))⟩
def ze9 : AFun:=⟨8,[(2,none)],
 (sr [oo 2 .mv [ki 0]]
 (.seq (.cond (.c (.bool false))
 (sr [ma 3 0,oo 4 (.cvt .u32) [.t 3],ca 5 zjz [.t 4],ma 2 5]
 .ret)
 .skip)
 (sr [ma 6 0,ca 7 zc0 [.t 6],ma 2 7]
 .ret)))⟩
def zfb : AFun:=⟨55,[(4,none)],
 (sr [oo 3 (.box 13) [.t 1],oo 4 .mv [ki 0]]
 (sr [oo 5 .mv [ki (-1)],oo 6 .mv [ki (-1)]]
 (.seq (.seq
 (rg [ma 9 0,oo 10 .len [.t 9],oo 11 .mv [ki 0]])
 (.block 0 (.loop
 (sr [oo 12 (.bin .lss) [.t 11,.t 10]]
 (.seq (.cond (.t 12)
 .skip
 (.exit 0))
 (.seq (.block 1 (sr [oo 13 (.iad 13) [.t 9,.t 11],oo 14 (.ld true 13) [.t 13],oo 8 (.alloc [v0,v0,ve,v0,v0,v0,v0,v0,vn,vn,ve,v0,ve]) [],ou (.st 13) [.t 8,.t 14]]
 (sr [fa 15 0 8,la 16 15,fa 17 0 3,la 18 17,oo 19 (.bin .eql) [.t 16,.t 18],ma 20 19,fg 21 4 8 20,lg 22 21 20,og 23 (.bin .eql) [.t 22,ki 2] 20,oo 24 .pick [.t 20,.t 23,.c (.bool false)],ma 25 24,fg 26 5 8 25,lg 27 26 25,fg 28 1 3 25,lg 29 28 25,og 30 (.bin .eql) [.t 27,.t 29] 25,oo 31 .pick [.t 25,.t 30,.c (.bool false)],ma 32 31,fg 33 1 8 32,lg 34 33 32,fg 35 1 3 32,lg 36 35 32,og 37 (.bin .gtr) [.t 34,.t 36] 32,oo 38 .pick [.t 32,.t 37,.c (.bool false)],ma 39 38,mg 40 6 39,og 41 (.bin .lss) [.t 40,ki 0] 39,mg 42 41 39,fh 43 1 8 42,lh 44 43 42,mh 45 6 42,oh 46 (.bin .lss) [.t 44,.t 45] 42,og 47 .pick [.t 42,.c (.bool true),.t 46] 39,oo 48 .pick [.t 39,.t 47,.c (.bool false)]]
 (.cond (.t 48)
 (.reg true [fa 49 3 8,la 50 49,fa 51 1 8,la 52 51,ma 5 50,ma 6 52] [[],[0],[],[2],[1,0,1],[3,4,0,1,2,3,4]])
 .skip))))
 (rg [oo 53 (.bin .add) [.t 11,ki 1],ma 11 53])))))))
 (sr [ma 54 5,ma 4 54]
 .ret))))⟩
def za1 : AFun:=⟨9,[],
 (rg [ma 4 0,ma 5 0,oo 6 .len [.t 5],ma 7 1,ca 8 za8 [.t 4,.t 6,.t 7]])⟩
def zgz : AFun:=⟨22,[(4,none)],
 (sr [oo 2 (.box 7) [.t 0],oo 3 (.box 7) [.t 1],oo 4 .mv [ki 0]]
 (.seq (.reg true [fa 5 0 2,la 6 5,fa 7 0 3,la 8 7,ca 9 za2 [.t 6,.t 8],fa 10 1 2,la 11 10,fa 12 1 3,la 13 12,ca 14 za2 [.t 11,.t 13],fa 15 3 2,la 16 15,fa 17 3 3,la 18 17,ca 19 za2 [.t 16,.t 18],oo 20 (.bsl 1 3 [v0] [0,1,2]) [.t 9,.t 14,.t 19],ca 21 zc5 [.t 20],ma 4 21] [[],[0],[],[2],[1,3],[],[5],[],[7],[6,8,4],[],[10],[],[12],[11,13,9],[4,9,14],[15,14],[16,16,0,1,2,3,4,5,6,7,8,9,10,11,12,13,14,15,16]])
 .ret))⟩
def zfH : AFun:=⟨18,[(2,none)],
 (sr [oo 2 .mv [ki 0]]
 (sr [oo 3 .mv [ki 0]]
 (.seq (.seq
 (rg [ma 6 0,oo 7 .len [.t 6],oo 8 .mv [ki 0]])
 (.block 0 (.loop
 (sr [oo 9 (.bin .lss) [.t 8,.t 7]]
 (.seq (.cond (.t 9)
 .skip
 (.exit 0))
 (.seq (.block 1 (sr [oo 10 (.iad 1) [.t 6,.t 8],la 11 10,ma 5 11]
 (sr [ma 12 5,ma 13 3,oo 14 (.bin .neq) [.t 12,.t 13]]
 (.cond (.t 14)
 (sr [ma 15 5,ma 2 15]
 .ret)
 .skip))))
 (rg [oo 16 (.bin .add) [.t 8,ki 1],ma 8 16])))))))
 (sr [ma 17 3,ma 2 17]
 .ret))))⟩
def zc1 : AFun:=⟨20,[(4,none)],
 (sr [oo 4 .mv [ki 0]]
 (sr [ma 7 0,ca 8 zb7 [.t 7],ma 5 8]
 (sr [ma 9 1,ca 10 zb7 [.t 9],ma 6 10]
 (.seq (.seq
 (rg [ma 11 5])
 (.cond (.t 11)
 (.seq (.seq
 (rg [ma 12 6])
 (.cond (.t 12)
 (sr [oo 4 .mv [ki 0]]
 .ret)
 .skip))
 (sr [oo 4 .mv [ki (-1)]]
 .ret))
 .skip))
 (.seq (.seq
 (rg [ma 13 6])
 (.cond (.t 13)
 (sr [oo 4 .mv [ki 1]]
 .ret)
 .skip))
 (.seq (.seq
 (rg [ma 14 0,ma 15 1,oo 16 (.bin .lss) [.t 14,.t 15]])
 (.cond (.t 16)
 (sr [oo 4 .mv [ki (-1)]]
 .ret)
 .skip))
 (.seq (.seq
 (rg [ma 17 0,ma 18 1,oo 19 (.bin .gtr) [.t 17,.t 18]])
 (.cond (.t 19)
 (sr [oo 4 .mv [ki 1]]
 .ret)
 .skip))
 (sr [oo 4 .mv [ki 0]]
 .ret))))))))⟩
def zhn : AFun:=⟨42,[(4,none)],
 (sr [oo 2 (.box 3) [.t 0],oo 3 (.box 3) [.t 1],oo 4 .mv [.c (.bool false)]]
 (sr [fa 5 0 3,la 6 5,fa 7 0 2,la 8 7,oo 9 (.bin .sub) [.t 8,ki 1],ca 10 zaY [.t 6,ki 0,.t 9],ma 11 10,fg 12 1 3 11,lg 13 12 11,fg 14 0 2 11,lg 15 14 11,og 16 (.bin .sub) [.t 15,ki 1] 11,og 17 .call [.f zaY,.t 13,ki 0,.t 16] 11,oo 18 .pick [.t 11,.t 17,.c (.bool false)],ma 19 18,fg 20 0 3 19,lg 21 20 19,fg 22 1 3 19,lg 23 22 19,og 24 (.bin .neq) [.t 21,.t 23] 19,oo 25 .pick [.t 19,.t 24,.c (.bool false)],ma 26 25,fg 27 2 2 26,lg 28 27 26,fg 29 0 3 26,lg 30 29 26,og 31 .call [.f zap,.t 28,.t 30] 26,og 32 (.un .not) [.t 31] 26,oo 33 .pick [.t 26,.t 32,.c (.bool false)],ma 34 33,fg 35 2 2 34,lg 36 35 34,fg 37 1 3 34,lg 38 37 34,og 39 .call [.f zap,.t 36,.t 38] 34,og 40 (.un .not) [.t 39] 34,oo 41 .pick [.t 34,.t 40,.c (.bool false)],ma 4 41]
 .ret))⟩
def zfa : AFun:=⟨17,[(4,none)],
 (sr [oo 2 (.box 3) [.t 0],oo 3 (.box 3) [.t 1],oo 4 .mv [ki 0]]
 (.seq (.reg true [fa 5 0 2,la 6 5,fa 7 0 3,la 8 7,ca 9 za2 [.t 6,.t 8],fa 10 1 2,la 11 10,fa 12 1 3,la 13 12,ca 14 za2 [.t 11,.t 13],oo 15 (.bsl 1 2 [v0] [0,1]) [.t 9,.t 14],ca 16 zc5 [.t 15],ma 4 16] [[],[0],[],[2],[1,3],[],[5],[],[7],[6,8,4],[4,9],[10,9],[11,11,0,1,2,3,4,5,6,7,8,9,10,11]])
 .ret))⟩
def zhz : AFun:=⟨9,[(3,none)],
 (sr [oo 3 .mv [.c (.bool false)]]
 (sr [la 4 1,ma 5 0,oo 6 (.iad 1) [.t 4,.t 5],la 7 6,oo 8 (.bin .geq) [.t 7,ki 0],ma 3 8]
 .ret))⟩
def zdF : AFun:=⟨9,[],
 (rg [ma 4 0,ma 5 0,oo 6 .len [.t 5],ma 7 1,ca 8 zb5 [.t 4,.t 6,.t 7]])⟩
def zh6 : AFun:=⟨15,[(5,none)],
 (sr [oo 5 .mv [ki 0]]
 (.seq (.reg true [la 6 2,ma 7 0,oo 8 (.iad 1) [.t 6,.t 7],la 9 8,la 10 2,ma 11 1,oo 12 (.iad 1) [.t 10,.t 11],la 13 12,ca 14 za2 [.t 9,.t 13],ma 5 14] [[],[],[0,1],[2],[],[],[4,5],[6],[3,7],[8,8,0,1,2,3,4,5,6,7,8]])
 .ret))⟩
def zf5 : AFun:=⟨8,[(2,none)],
 (sr [oo 2 .mv [kn]]
 (.seq (.seq
 (rg [ma 3 0,oo 4 (.snil false) [.t 3]])
 (.cond (.t 4)
 (sr [oo 2 .mv [kn]]
 .ret)
 .skip))
 (sr [oo 5 (.bsl 1 0 [v0] []) [],ma 6 0,oo 7 (.app 1 8) [.t 5,.t 6],ma 2 7]
 .ret)))⟩
def zfK : AFun:=⟨48,[(4,none)],
 (sr [oo 4 .mv [kn]]
 (.seq (.seq
 (rg [ma 9 1,oo 10 (.bin .lss) [.t 9,ki 0]])
 (.cond (.t 10)
 (rg [oo 11 .bad [],ou .bad []])
 .skip))
 (sr [ma 13 0,oo 14 .len [.t 13],oo 15 (.cvt .u64) [.t 14],ma 16 1,oo 17 (.cvt .u64) [.t 16],ca 18 zff [.t 15,.t 17],ma 12 18,oo 19 (.ext 0) [.t 12],oo 20 (.ext 1) [.t 12],ma 5 19,ma 6 20]
 (.seq (.seq
 (rg [ma 21 5,oo 22 (.bin .gtr) [.t 21,(.c (.int .u64 0))],ma 23 22,mh 24 6 23,oh 25 (.bin .gtr) [.t 24,(.c (.int .u64 9223372036854775807))] 23,oo 26 .pick [.t 23,.c (.bool true),.t 25]])
 (.cond (.t 26)
 (rg [oo 27 .bad [],ou .bad []])
 .skip))
 (sr [ma 28 6,oo 29 (.cvt .i64) [.t 28],oo 30 (.mks 1 8 [v0]) [.t 29,.t 29],ma 7 30]
 (sr [ma 31 7,ma 32 0,oo 33 (.cpy 1) [.t 31,.t 32],ma 8 33]
 (.seq (.block 0 (.loop
 (.seq (.seq
 (rg [ma 34 8,ma 35 7,oo 36 .len [.t 35],oo 37 (.bin .lss) [.t 34,.t 36]])
 (.cond (.t 37)
 .skip
 (.exit 0)))
 (.block 1 (.reg true [ma 38 8,ma 39 7,ma 40 8,oo 41 (.slc 1 true false false) [.t 39,.t 40],ma 42 7,ma 43 8,oo 44 (.slc 1 false true false) [.t 42,.t 43],oo 45 (.cpy 1) [.t 41,.t 44],oo 46 (.bin .add) [.t 38,.t 45],ma 8 46] [[],[],[],[1,2],[],[],[4,5],[3,6],[0,7],[8,7,0,1,2,3,4,5,6,7,8]])))))
 (sr [ma 47 7,ma 4 47]
 .ret))))))))⟩
def zjE : AFun:=⟨9,[(4,none)],
 (sr [oo 4 .mv [.c (.bool false)]]
 (sr [oo 5 (.ld true 3) [.t 1],la 6 2,ma 7 0,ca 8 zew [.t 5,.t 6,.t 7],ma 4 8]
 .ret))⟩
def zkK : AFun:=⟨17,[(6,none)],
 (sr [oo 3 (.box 3) [.t 0],oo 6 .mv [.c (.bool false)]]
 (sr [ma 7 1,ma 8 2,ca 9 zap [.t 7,.t 8],ma 10 9,fg 11 2 3 10,lg 12 11 10,mg 13 2 10,og 14 .call [.f zap,.t 12,.t 13] 10,og 15 (.un .not) [.t 14] 10,oo 16 .pick [.t 10,.t 15,.c (.bool false)],ma 6 16]
 .ret))⟩
def zeB : AFun:=⟨42,[(4,none)],
 (sr [oo 4 .mv [kn]]
 (sr [ma 8 0,ma 9 1,ca 10 zbr [.t 8,.t 9],ma 5 10]
 (.seq (.seq
 (rg [ma 11 5,oo 12 (.bin .eql) [.t 11,ki (-1)]])
 (.cond (.t 12)
 (sr [ma 13 0,ma 4 13]
 .ret)
 .skip))
 (.seq (.seq
 (rg [ma 14 5,oo 15 (.bin .add) [.t 14,ki 1],ma 6 15])
 (.block 0 (.loop
 (.seq (.seq
 (rg [ma 16 6,ma 17 0,oo 18 .len [.t 17],oo 19 (.bin .lss) [.t 16,.t 18]])
 (.cond (.t 19)
 .skip
 (.exit 0)))
 (.seq (.block 1 (sr [ma 22 0,ma 23 6,oo 24 (.iad 1) [.t 22,.t 23],la 25 24,ma 7 25]
 (sr [ma 26 1,ma 27 7,oo 28 .call [.t 26,.t 27],oo 29 (.un .not) [.t 28]]
 (.cond (.t 29)
 (sr [ma 30 0,ma 31 5,ma 32 7,oo 33 (.iad 1) [.t 30,.t 31],ou (.st 1) [.t 33,.t 32]]
 (rg [ma 34 5,oo 35 (.bin .add) [.t 34,ki 1],ma 5 35]))
 .skip))))
 (rg [ma 20 6,oo 21 (.bin .add) [.t 20,ki 1],ma 6 21]))))))
 (sr [ma 36 0,ma 37 5,oo 38 (.slc 1 true false false) [.t 36,.t 37],ou (.clr 1 [v0]) [.t 38]]
 (sr [ma 39 0,ma 40 5,oo 41 (.slc 1 false true false) [.t 39,.t 40],ma 4 41]
 .ret))))))⟩
def zjO : AFun:=⟨17,[(3,none)],
 (sr [oo 3 .mv [.c (.bool false)]]
 (sr [ma 4 0,la 5 1,oo 6 .len [.t 5],oo 7 (.bin .sub) [.t 6,ki 1],ca 8 zaY [.t 4,ki 0,.t 7],oo 9 (.un .not) [.t 8],ma 10 9,lh 11 1 10,mh 12 0 10,oh 13 (.iad 1) [.t 11,.t 12] 10,lh 14 13 10,oh 15 (.bin .geq) [.t 14,ki 0] 10,oo 16 .pick [.t 10,.c (.bool true),.t 15],ma 3 16]
 .ret))⟩
def zdw : AFun:=⟨8,[(2,none)],
 (sr [oo 2 .mv [kn]]
 (.seq (.seq
 (rg [ma 3 0,oo 4 (.snil false) [.t 3]])
 (.cond (.t 4)
 (sr [oo 2 .mv [kn]]
 .ret)
 .skip))
 (sr [oo 5 (.bsl 3 0 [v0,v0,v0] []) [],ma 6 0,oo 7 (.app 3 24) [.t 5,.t 6],ma 2 7]
 .ret)))⟩
def zcT : AFun:=⟨19,[(4,none)],
 (sr [oo 4 .mv [ki 0]]
 (.seq (.seq
 (rg [ma 6 0,oo 7 .len [.t 6],oo 8 .mv [ki 0]])
 (.block 0 (.loop
 (sr [oo 9 (.bin .lss) [.t 8,.t 7]]
 (.seq (.cond (.t 9)
 .skip
 (.exit 0))
 (.seq (.block 1 (sr [ma 10 8,ma 5 10]
 (sr [ma 11 1,ma 12 0,ma 13 5,oo 14 (.iad 3) [.t 12,.t 13],oo 15 (.ld true 3) [.t 14],oo 16 .call [.t 11,.t 15]]
 (.cond (.t 16)
 (sr [ma 17 5,ma 4 17]
 .ret)
 .skip))))
 (rg [oo 18 (.bin .add) [.t 8,ki 1],ma 8 18])))))))
 (sr [oo 4 .mv [ki (-1)]]
 .ret)))⟩
def zjT : AFun:=⟨2,[(0,none)],
 (sr [oo 0 .mv [kn]]
 (sr [oo 1 (.bsl 1 64 [(.int .u32 0)] [0,1,2,3,4,5,6,7,8,9,10,11,12,13,14,15,16,17,18,19,20,21,22,23,24,25,26,27,28,29,30,31,32,33,34,35,36,37,38,39,40,41,42,43,44,45,46,47,48,49,50,51,52,53,54,55,56,57,58,59,60,61,62,63]) [(.c (.int .u32 1116352408)),(.c (.int .u32 1899447441)),(.c (.int .u32 3049323471)),(.c (.int .u32 3921009573)),(.c (.int .u32 961987163)),(.c (.int .u32 1508970993)),(.c (.int .u32 2453635748)),(.c (.int .u32 2870763221)),(.c (.int .u32 3624381080)),(.c (.int .u32 310598401)),(.c (.int .u32 607225278)),(.c (.int .u32 1426881987)),(.c (.int .u32 1925078388)),(.c (.int .u32 2162078206)),(.c (.int .u32 2614888103)),(.c (.int .u32 3248222580)),(.c (.int .u32 3835390401)),(.c (.int .u32 4022224774)),(.c (.int .u32 264347078)),(.c (.int .u32 604807628)),(.c (.int .u32 770255983)),(.c (.int .u32 1249150122)),(.c (.int .u32 1555081692)),(.c (.int .u32 1996064986)),(.c (.int .u32 2554220882)),(.c (.int .u32 2821834349)),(.c (.int .u32 2952996808)),(.c (.int .u32 3210313671)),(.c (.int .u32 3336571891)),(.c (.int .u32 3584528711)),(.c (.int .u32 113926993)),(.c (.int .u32 338241895)),(.c (.int .u32 666307205)),(.c (.int .u32 773529912)),(.c (.int .u32 1294757372)),(.c (.int .u32 1396182291)),(.c (.int .u32 1695183700)),(.c (.int .u32 1986661051)),(.c (.int .u32 2177026350)),(.c (.int .u32 2456956037)),(.c (.int .u32 2730485921)),(.c (.int .u32 2820302411)),(.c (.int .u32 3259730800)),(.c (.int .u32 3345764771)),(.c (.int .u32 3516065817)),(.c (.int .u32 3600352804)),(.c (.int .u32 4094571909)),(.c (.int .u32 275423344)),(.c (.int .u32 430227734)),(.c (.int .u32 506948616)),(.c (.int .u32 659060556)),(.c (.int .u32 883997877)),(.c (.int .u32 958139571)),(.c (.int .u32 1322822218)),(.c (.int .u32 1537002063)),(.c (.int .u32 1747873779)),(.c (.int .u32 1955562222)),(.c (.int .u32 2024104815)),(.c (.int .u32 2227730452)),(.c (.int .u32 2361852424)),(.c (.int .u32 2428436474)),(.c (.int .u32 2756734187)),(.c (.int .u32 3204031479)),(.c (.int .u32 3329325298))],ma 0 1]
 .ret))⟩
def zn9 : AFun:=⟨256,[(6,none)],
 (sr [oo 6 .mv [kn]]
 (sr [oo 19 (.mks 1 4 [(.int .u32 0)]) [ki 64,ki 64],ma 7 19]
 (.seq (.seq
 (rg [oo 8 .mv [ki 0]])
 (.block 0 (.loop
 (.seq (.seq
 (rg [ma 20 8,oo 21 (.bin .lss) [.t 20,ki 16]])
 (.cond (.t 21)
 .skip
 (.exit 0)))
 (.seq (.block 1 (.reg true [ma 24 7,ma 25 8,ma 26 1,ma 27 8,oo 28 (.bin .mul) [ki 4,.t 27],oo 29 (.iad 1) [.t 26,.t 28],la 30 29,oo 31 (.cvt .u32) [.t 30],oo 32 (.bin .shl) [.t 31,(.c (.int .u64 24))],ma 33 1,ma 34 8,oo 35 (.bin .mul) [ki 4,.t 34],oo 36 (.bin .add) [.t 35,ki 1],oo 37 (.iad 1) [.t 33,.t 36],la 38 37,oo 39 (.cvt .u32) [.t 38],oo 40 (.bin .shl) [.t 39,(.c (.int .u64 16))],oo 41 (.bin .or) [.t 32,.t 40],ma 42 1,ma 43 8,oo 44 (.bin .mul) [ki 4,.t 43],oo 45 (.bin .add) [.t 44,ki 2],oo 46 (.iad 1) [.t 42,.t 45],la 47 46,oo 48 (.cvt .u32) [.t 47],oo 49 (.bin .shl) [.t 48,(.c (.int .u64 8))],oo 50 (.bin .or) [.t 41,.t 49],ma 51 1,ma 52 8,oo 53 (.bin .mul) [ki 4,.t 52],oo 54 (.bin .add) [.t 53,ki 3],oo 55 (.iad 1) [.t 51,.t 54],la 56 55,oo 57 (.cvt .u32) [.t 56],oo 58 (.bin .or) [.t 50,.t 57],oo 59 (.iad 1) [.t 24,.t 25],ou (.st 1) [.t 59,.t 58]] [[],[],[],[],[3],[2,4],[5],[6],[7],[],[],[10],[11],[9,12],[13],[14],[15],[8,16],[],[],[19],[20],[18,21],[22],[23],[24],[17,25],[],[],[28],[29],[27,30],[31],[32],[26,33],[0,1,0,1,2,3,4,5,6,7,8,9,10,11,12,13,14,15,16,17,18,19,20,21,22,23,24,25,26,27,28,29,30,31,32,33,34],[35,34,0,1,2,3,4,5,6,7,8,9,10,11,12,13,14,15,16,17,18,19,20,21,22,23,24,25,26,27,28,29,30,31,32,33,34]]))
 (rg [ma 22 8,oo 23 (.bin .add) [.t 22,ki 1],ma 8 23]))))))
 (.seq (.seq
 (rg [oo 9 .mv [ki 16]])
 (.block 2 (.loop
 (.seq (.seq
 (rg [ma 60 9,oo 61 (.bin .lss) [.t 60,ki 64]])
 (.cond (.t 61)
 .skip
 (.exit 2)))
 (.seq (.block 3 (.seq (.reg true [ma 64 7,ma 65 9,oo 66 (.bin .sub) [.t 65,ki 15],oo 67 (.iad 1) [.t 64,.t 66],la 68 67,ca 69 zbJ [.t 68,(.c (.int .u64 7))],ma 70 7,ma 71 9,oo 72 (.bin .sub) [.t 71,ki 15],oo 73 (.iad 1) [.t 70,.t 72],la 74 73,ca 75 zbJ [.t 74,(.c (.int .u64 18))],oo 76 (.bin .xor) [.t 69,.t 75],ma 77 7,ma 78 9,oo 79 (.bin .sub) [.t 78,ki 15],oo 80 (.iad 1) [.t 77,.t 79],la 81 80,oo 82 (.bin .shr) [.t 81,(.c (.int .u64 3))],oo 83 (.bin .xor) [.t 76,.t 82],ma 10 83] [[],[],[1],[0,2],[3],[4],[],[],[7],[6,8],[9],[10,5],[5,11],[],[],[14],[13,15],[16],[17],[12,18],[19,11,0,1,2,3,4,5,6,7,8,9,10,11,12,13,14,15,16,17,18,19]])
 (.seq (.reg true [ma 84 7,ma 85 9,oo 86 (.bin .sub) [.t 85,ki 2],oo 87 (.iad 1) [.t 84,.t 86],la 88 87,ca 89 zbJ [.t 88,(.c (.int .u64 17))],ma 90 7,ma 91 9,oo 92 (.bin .sub) [.t 91,ki 2],oo 93 (.iad 1) [.t 90,.t 92],la 94 93,ca 95 zbJ [.t 94,(.c (.int .u64 19))],oo 96 (.bin .xor) [.t 89,.t 95],ma 97 7,ma 98 9,oo 99 (.bin .sub) [.t 98,ki 2],oo 100 (.iad 1) [.t 97,.t 99],la 101 100,oo 102 (.bin .shr) [.t 101,(.c (.int .u64 10))],oo 103 (.bin .xor) [.t 96,.t 102],ma 11 103] [[],[],[1],[0,2],[3],[4],[],[],[7],[6,8],[9],[10,5],[5,11],[],[],[14],[13,15],[16],[17],[12,18],[19,11,0,1,2,3,4,5,6,7,8,9,10,11,12,13,14,15,16,17,18,19]])
 (.reg true [ma 104 7,ma 105 9,ma 106 7,ma 107 9,oo 108 (.bin .sub) [.t 107,ki 16],oo 109 (.iad 1) [.t 106,.t 108],la 110 109,ma 111 10,oo 112 (.bin .add) [.t 110,.t 111],ma 113 7,ma 114 9,oo 115 (.bin .sub) [.t 114,ki 7],oo 116 (.iad 1) [.t 113,.t 115],la 117 116,oo 118 (.bin .add) [.t 112,.t 117],ma 119 11,oo 120 (.bin .add) [.t 118,.t 119],oo 121 (.iad 1) [.t 104,.t 105],ou (.st 1) [.t 121,.t 120]] [[],[],[],[],[3],[2,4],[5],[],[6,7],[],[],[10],[9,11],[12],[8,13],[],[14,15],[0,1,0,1,2,3,4,5,6,7,8,9,10,11,12,13,14,15,16],[17,16,0,1,2,3,4,5,6,7,8,9,10,11,12,13,14,15,16]]))))
 (rg [ma 62 9,oo 63 (.bin .add) [.t 62,ki 1],ma 9 63]))))))
 (sr [ma 122 0,oo 123 (.app 1 4) [kn,.t 122],ma 12 123]
 (.seq (.seq
 (rg [oo 13 .mv [ki 0]])
 (.block 4 (.loop
 (.seq (.seq
 (rg [ma 124 13,oo 125 (.bin .lss) [.t 124,ki 64]])
 (.cond (.t 125)
 .skip
 (.exit 4)))
 (.seq (.block 5 (.seq (.reg true [ma 128 12,oo 129 (.iad 1) [.t 128,ki 4],la 130 129,ca 131 zbJ [.t 130,(.c (.int .u64 6))],ma 132 12,oo 133 (.iad 1) [.t 132,ki 4],la 134 133,ca 135 zbJ [.t 134,(.c (.int .u64 11))],oo 136 (.bin .xor) [.t 131,.t 135],ma 137 12,oo 138 (.iad 1) [.t 137,ki 4],la 139 138,ca 140 zbJ [.t 139,(.c (.int .u64 25))],oo 141 (.bin .xor) [.t 136,.t 140],ma 14 141] [[],[0],[1],[2],[],[4],[5],[6,3],[3,7],[],[9],[10],[11,7],[8,12],[13,12,0,1,2,3,4,5,6,7,8,9,10,11,12,13]])
 (.seq (.reg true [ma 142 12,oo 143 (.iad 1) [.t 142,ki 4],la 144 143,ma 145 12,oo 146 (.iad 1) [.t 145,ki 5],la 147 146,oo 148 (.bin .and) [.t 144,.t 147],ma 149 12,oo 150 (.iad 1) [.t 149,ki 4],la 151 150,oo 152 (.un .xor) [.t 151],ma 153 12,oo 154 (.iad 1) [.t 153,ki 6],la 155 154,oo 156 (.bin .and) [.t 152,.t 155],oo 157 (.bin .xor) [.t 148,.t 156],ma 15 157] [[],[0],[1],[],[3],[4],[2,5],[],[7],[8],[9],[],[11],[12],[10,13],[6,14],[15,0,1,2,3,4,5,6,7,8,9,10,11,12,13,14,15]])
 (.seq (.reg true [ma 158 12,oo 159 (.iad 1) [.t 158,ki 7],la 160 159,ma 161 14,oo 162 (.bin .add) [.t 160,.t 161],ma 163 15,oo 164 (.bin .add) [.t 162,.t 163],ma 165 2,ma 166 13,oo 167 (.iad 1) [.t 165,.t 166],la 168 167,oo 169 (.bin .add) [.t 164,.t 168],ma 170 7,ma 171 13,oo 172 (.iad 1) [.t 170,.t 171],la 173 172,oo 174 (.bin .add) [.t 169,.t 173],ma 16 174] [[],[0],[1],[],[2,3],[],[4,5],[],[],[7,8],[9],[6,10],[],[],[12,13],[14],[11,15],[16,0,1,2,3,4,5,6,7,8,9,10,11,12,13,14,15,16]])
 (.seq (.reg true [ma 175 12,oo 176 (.iad 1) [.t 175,ki 0],la 177 176,ca 178 zbJ [.t 177,(.c (.int .u64 2))],ma 179 12,oo 180 (.iad 1) [.t 179,ki 0],la 181 180,ca 182 zbJ [.t 181,(.c (.int .u64 13))],oo 183 (.bin .xor) [.t 178,.t 182],ma 184 12,oo 185 (.iad 1) [.t 184,ki 0],la 186 185,ca 187 zbJ [.t 186,(.c (.int .u64 22))],oo 188 (.bin .xor) [.t 183,.t 187],ma 14 188] [[],[0],[1],[2],[],[4],[5],[6,3],[3,7],[],[9],[10],[11,7],[8,12],[13,12,0,1,2,3,4,5,6,7,8,9,10,11,12,13]])
 (.seq (.reg true [ma 189 12,oo 190 (.iad 1) [.t 189,ki 0],la 191 190,ma 192 12,oo 193 (.iad 1) [.t 192,ki 1],la 194 193,oo 195 (.bin .and) [.t 191,.t 194],ma 196 12,oo 197 (.iad 1) [.t 196,ki 0],la 198 197,ma 199 12,oo 200 (.iad 1) [.t 199,ki 2],la 201 200,oo 202 (.bin .and) [.t 198,.t 201],oo 203 (.bin .xor) [.t 195,.t 202],ma 204 12,oo 205 (.iad 1) [.t 204,ki 1],la 206 205,ma 207 12,oo 208 (.iad 1) [.t 207,ki 2],la 209 208,oo 210 (.bin .and) [.t 206,.t 209],oo 211 (.bin .xor) [.t 203,.t 210],ma 17 211] [[],[0],[1],[],[3],[4],[2,5],[],[7],[8],[],[10],[11],[9,12],[6,13],[],[15],[16],[],[18],[19],[17,20],[14,21],[22,0,1,2,3,4,5,6,7,8,9,10,11,12,13,14,15,16,17,18,19,20,21,22]])
 (.reg true [ma 212 16,ma 213 14,oo 214 (.bin .add) [.t 212,.t 213],ma 215 17,oo 216 (.bin .add) [.t 214,.t 215],ma 217 12,oo 218 (.iad 1) [.t 217,ki 0],la 219 218,ma 220 12,oo 221 (.iad 1) [.t 220,ki 1],la 222 221,ma 223 12,oo 224 (.iad 1) [.t 223,ki 2],la 225 224,ma 226 12,oo 227 (.iad 1) [.t 226,ki 3],la 228 227,ma 229 16,oo 230 (.bin .add) [.t 228,.t 229],ma 231 12,oo 232 (.iad 1) [.t 231,ki 4],la 233 232,ma 234 12,oo 235 (.iad 1) [.t 234,ki 5],la 236 235,ma 237 12,oo 238 (.iad 1) [.t 237,ki 6],la 239 238,oo 240 (.bsl 1 8 [(.int .u32 0)] [0,1,2,3,4,5,6,7]) [.t 216,.t 219,.t 222,.t 225,.t 230,.t 233,.t 236,.t 239],ma 12 240] [[],[],[0,1],[],[2,3],[],[5],[6],[],[8],[9],[],[11],[12],[],[14],[15],[],[16,17],[],[19],[20],[],[22],[23],[],[25],[26],[4,7,10,13,18,21,24,27],[28,0,1,2,3,4,5,6,7,8,9,10,11,12,13,14,15,16,17,18,19,20,21,22,23,24,25,26,27,28]])))))))
 (rg [ma 126 13,oo 127 (.bin .add) [.t 126,ki 1],ma 13 127]))))))
 (.seq (.seq
 (rg [oo 18 .mv [ki 0]])
 (.block 6 (.loop
 (.seq (.seq
 (rg [ma 241 18,oo 242 (.bin .lss) [.t 241,ki 8]])
 (.cond (.t 242)
 .skip
 (.exit 6)))
 (.seq (.block 7 (.reg true [ma 245 12,ma 246 18,oo 247 (.iad 1) [.t 245,.t 246],la 248 247,ma 249 0,ma 250 18,oo 251 (.iad 1) [.t 249,.t 250],la 252 251,oo 253 (.bin .add) [.t 248,.t 252],oo 254 (.iad 1) [.t 245,.t 246],ou (.st 1) [.t 254,.t 253]] [[],[],[0,1],[2],[],[],[4,5],[6],[3,7],[0,1,0,1,2,3,4,5,6,7,8],[9,8,0,1,2,3,4,5,6,7,8]]))
 (rg [ma 243 18,oo 244 (.bin .add) [.t 243,ki 1],ma 18 244]))))))
 (sr [ma 255 12,ma 6 255]
 .ret))))))))⟩
def zkQ : AFun:=⟨11,[(4,none)],
 (sr [oo 4 .mv [kn]]
 (sr [ma 5 0,ma 6 1,oo 7 .lens [.t 6],ca 8 zcd [.t 5,.t 7],ma 9 1,oo 10 .apps [.t 8,.t 9],ma 4 10]
 .ret))⟩
def zlK : AFun:=⟨23,[(4,none)],
 (sr [oo 4 .mv [kn]]
 (sr [ma 7 0,oo 8 (.app 1 1) [kn,.t 7],ma 5 8]
 (.seq (.seq
 (rg [oo 6 .mv [ki 7]])
 (.block 0 (.loop
 (.seq (.seq
 (rg [ma 9 6,oo 10 (.bin .geq) [.t 9,ki 0]])
 (.cond (.t 10)
 .skip
 (.exit 0)))
 (.seq (.block 1 (rg [ma 13 5,ma 14 1,ma 15 6,oo 16 (.bin .mul) [ki 8,.t 15],oo 17 (.cvt .u64) [.t 16],oo 18 (.bin .shr) [.t 14,.t 17],oo 19 (.cvt .u8) [.t 18],oo 20 (.bsl 1 1 [(.int .u8 0)] [0]) [.t 19],oo 21 (.app 1 1) [.t 13,.t 20],ma 5 21]))
 (rg [ma 11 6,oo 12 (.bin .sub) [.t 11,ki 1],ma 6 12]))))))
 (sr [ma 22 5,ma 4 22]
 .ret))))⟩
def zkg : AFun:=⟨24,[(4,none)],
 (sr [oo 4 .mv [kn]]
 (sr [ma 7 0,ma 8 1,oo 9 .len [.t 8],ca 10 zcd [.t 7,.t 9],ma 5 10]
 (.seq (.seq
 (rg [oo 6 .mv [ki 0]])
 (.block 0 (.loop
 (.seq (.seq
 (rg [ma 11 6,ma 12 1,oo 13 .len [.t 12],oo 14 (.bin .lss) [.t 11,.t 13]])
 (.cond (.t 14)
 .skip
 (.exit 0)))
 (.seq (.block 1 (rg [ma 17 5,ma 18 1,ma 19 6,oo 20 (.iad 1) [.t 18,.t 19],la 21 20,ca 22 zcd [.t 17,.t 21],ma 5 22]))
 (rg [ma 15 6,oo 16 (.bin .add) [.t 15,ki 1],ma 6 16]))))))
 (sr [ma 23 5,ma 4 23]
 .ret))))⟩
def zbq : AFun:=⟨49,[],
 (sr [ma 8 1,oo 9 (.bin .add) [.t 8,ki 1],ma 6 9]
 (.block 0 (.loop
 (.seq (.seq
 (rg [ma 10 6,ma 11 2,oo 12 (.bin .lss) [.t 10,.t 11]])
 (.cond (.t 12)
 .skip
 (.exit 0)))
 (.seq (.block 1 (sr [ma 15 6,ma 7 15]
 (.block 2 (.loop
 (.seq (.seq
 (.reg true [ma 16 7,ma 17 1,oo 18 (.bin .gtr) [.t 16,.t 17],ma 19 18,mg 20 0 19,mg 21 7 19,og 22 (.iad 1) [.t 20,.t 21] 19,lg 23 22 19,mg 24 0 19,mg 25 7 19,og 26 (.bin .sub) [.t 25,ki 1] 19,og 27 (.iad 1) [.t 24,.t 26] 19,lg 28 27 19,og 29 .call [.f zhy,.t 23,.t 28] 19,oo 30 .pick [.t 19,.t 29,.c (.bool false)]] [[],[],[0,1],[2],[3],[3],[4,5,3],[6,3],[3],[3],[9,3],[8,10,3],[11,3],[7,12,3,3],[3,13]])
 (.cond (.t 30)
 .skip
 (.exit 2)))
 (.seq (.block 3 (.reg true [ma 33 0,ma 34 7,ma 35 0,ma 36 7,oo 37 (.bin .sub) [.t 36,ki 1],ma 38 0,ma 39 7,oo 40 (.bin .sub) [.t 39,ki 1],oo 41 (.iad 1) [.t 38,.t 40],la 42 41,ma 43 0,ma 44 7,oo 45 (.iad 1) [.t 43,.t 44],la 46 45,oo 47 (.iad 1) [.t 33,.t 34],ou (.st 1) [.t 47,.t 42],oo 48 (.iad 1) [.t 35,.t 37],ou (.st 1) [.t 48,.t 46]] [[],[],[],[],[3],[],[],[6],[5,7],[8],[],[],[10,11],[12],[0,1,0,1,5,6,7,8,9,13],[14,9,0,1,5,6,7,8,9,13],[2,4,0,1,2,3,4,5,6,7,8,9,10,11,12,13,14,15],[16,13,15,0,1,2,3,4,5,6,7,8,9,10,11,12,13,14,15]]))
 (rg [ma 31 7,oo 32 (.bin .sub) [.t 31,ki 1],ma 7 32])))))))
 (rg [ma 13 6,oo 14 (.bin .add) [.t 13,ki 1],ma 6 14]))))))⟩
def zd4 : AFun:=⟨25,[(2,none)],
 (sr [oo 2 .mv [ki 0]]
 (.seq (.seq
 (rg [ma 3 0,oo 4 (.bin .geq) [.t 3,(.c (.int .u64 4294967296))]])
 (.cond (.t 4)
 (sr [ma 5 0,oo 6 (.bin .shr) [.t 5,(.c (.int .u64 32))],ma 0 6]
 (rg [oo 2 .mv [ki 32]]))
 .skip))
 (.seq (.seq
 (rg [ma 7 0,oo 8 (.bin .geq) [.t 7,(.c (.int .u64 65536))]])
 (.cond (.t 8)
 (sr [ma 9 0,oo 10 (.bin .shr) [.t 9,(.c (.int .u64 16))],ma 0 10]
 (rg [ma 11 2,oo 12 (.bin .add) [.t 11,ki 16],ma 2 12]))
 .skip))
 (.seq (.seq
 (rg [ma 13 0,oo 14 (.bin .geq) [.t 13,(.c (.int .u64 256))]])
 (.cond (.t 14)
 (sr [ma 15 0,oo 16 (.bin .shr) [.t 15,(.c (.int .u64 8))],ma 0 16]
 (rg [ma 17 2,oo 18 (.bin .add) [.t 17,ki 8],ma 2 18]))
 .skip))
 (sr [ma 19 2,ma 20 0,oo 21 (.cvt .u8) [.t 20],oo 22 .ixs [(.c (.string ⟨#[0,1,2,2,3,3,3,3,4,4,4,4,4,4,4,4,5,5,5,5,5,5,5,5,5,5,5,5,5,5,5,5,6,6,6,6,6,6,6,6,6,6,6,6,6,6,6,6,6,6,6,6,6,6,6,6,6,6,6,6,6,6,6,6,7,7,7,7,7,7,7,7,7,7,7,7,7,7,7,7,7,7,7,7,7,7,7,7,7,7,7,7,7,7,7,7,7,7,7,7,7,7,7,7,7,7,7,7,7,7,7,7,7,7,7,7,7,7,7,7,7,7,7,7,7,7,7,7,8,8,8,8,8,8,8,8,8,8,8,8,8,8,8,8,8,8,8,8,8,8,8,8,8,8,8,8,8,8,8,8,8,8,8,8,8,8,8,8,8,8,8,8,8,8,8,8,8,8,8,8,8,8,8,8,8,8,8,8,8,8,8,8,8,8,8,8,8,8,8,8,8,8,8,8,8,8,8,8,8,8,8,8,8,8,8,8,8,8,8,8,8,8,8,8,8,8,8,8,8,8,8,8,8,8,8,8,8,8,8,8,8,8,8,8,8,8,8,8,8,8,8,8,8,8,8,8]⟩)),.t 21],oo 23 (.cvt .i64) [.t 22],oo 24 (.bin .add) [.t 19,.t 23],ma 2 24]
 .ret)))))⟩
def zbv : AFun:=⟨63,[],
 (sr [oo 6 .mv [ki 20]]
 (sr [ma 10 6,oo 7 .mv [ki 0],ma 8 10]
 (.seq (.block 0 (.loop
 (.seq (.seq
 (rg [ma 11 8,ma 12 1,oo 13 (.bin .leq) [.t 11,.t 12]])
 (.cond (.t 13)
 .skip
 (.exit 0)))
 (.block 1 (sr [ma 14 0,ma 15 7,ma 16 8,ma 17 2,ca 18 zaK [.t 14,.t 15,.t 16,.t 17]]
 (sr [ma 19 8,ma 7 19]
 (rg [ma 20 8,ma 21 6,oo 22 (.bin .add) [.t 20,.t 21],ma 8 22])))))))
 (sr [ma 23 0,ma 24 7,ma 25 1,ma 26 2,ca 27 zaK [.t 23,.t 24,.t 25,.t 26]]
 (.block 2 (.loop
 (.seq (.seq
 (rg [ma 28 6,ma 29 1,oo 30 (.bin .lss) [.t 28,.t 29]])
 (.cond (.t 30)
 .skip
 (.exit 2)))
 (.block 3 (sr [ma 31 6,oo 32 (.bin .mul) [ki 2,.t 31],oo 7 .mv [ki 0],ma 8 32]
 (.seq (.block 4 (.loop
 (.seq (.seq
 (rg [ma 33 8,ma 34 1,oo 35 (.bin .leq) [.t 33,.t 34]])
 (.cond (.t 35)
 .skip
 (.exit 4)))
 (.block 5 (sr [ma 36 0,ma 37 7,ma 38 7,ma 39 6,oo 40 (.bin .add) [.t 38,.t 39],ma 41 8,ma 42 2,ca 43 zaA [.t 36,.t 37,.t 40,.t 41,.t 42]]
 (sr [ma 44 8,ma 7 44]
 (rg [ma 45 8,ma 46 6,oo 47 (.bin .mul) [ki 2,.t 46],oo 48 (.bin .add) [.t 45,.t 47],ma 8 48])))))))
 (.seq (.seq
 (rg [ma 49 7,ma 50 6,oo 51 (.bin .add) [.t 49,.t 50],ma 9 51])
 (sr [ma 52 9,ma 53 1,oo 54 (.bin .lss) [.t 52,.t 53]]
 (.cond (.t 54)
 (rg [ma 55 0,ma 56 7,ma 57 9,ma 58 1,ma 59 2,ca 60 zaA [.t 55,.t 56,.t 57,.t 58,.t 59]])
 .skip)))
 (rg [ma 61 6,oo 62 (.bin .mul) [.t 61,ki 2],ma 6 62]))))))))))))⟩
def zdP : AFun:=⟨6,[(2,none)],
 (sr [oo 2 .mv [.c (.bool false)]]
 (sr [ma 3 0,ma 4 0,oo 5 (.bin .neq) [.t 3,.t 4],ma 2 5]
 .ret))⟩
def ze3 : AFun:=⟨63,[],
 (sr [oo 6 .mv [ki 20]]
 (sr [ma 10 6,oo 7 .mv [ki 0],ma 8 10]
 (.seq (.block 0 (.loop
 (.seq (.seq
 (rg [ma 11 8,ma 12 1,oo 13 (.bin .leq) [.t 11,.t 12]])
 (.cond (.t 13)
 .skip
 (.exit 0)))
 (.block 1 (sr [ma 14 0,ma 15 7,ma 16 8,ma 17 2,ca 18 za4 [.t 14,.t 15,.t 16,.t 17]]
 (sr [ma 19 8,ma 7 19]
 (rg [ma 20 8,ma 21 6,oo 22 (.bin .add) [.t 20,.t 21],ma 8 22])))))))
 (sr [ma 23 0,ma 24 7,ma 25 1,ma 26 2,ca 27 za4 [.t 23,.t 24,.t 25,.t 26]]
 (.block 2 (.loop
 (.seq (.seq
 (rg [ma 28 6,ma 29 1,oo 30 (.bin .lss) [.t 28,.t 29]])
 (.cond (.t 30)
 .skip
 (.exit 2)))
 (.block 3 (sr [ma 31 6,oo 32 (.bin .mul) [ki 2,.t 31],oo 7 .mv [ki 0],ma 8 32]
 (.seq (.block 4 (.loop
 (.seq (.seq
 (rg [ma 33 8,ma 34 1,oo 35 (.bin .leq) [.t 33,.t 34]])
 (.cond (.t 35)
 .skip
 (.exit 4)))
 (.block 5 (sr [ma 36 0,ma 37 7,ma 38 7,ma 39 6,oo 40 (.bin .add) [.t 38,.t 39],ma 41 8,ma 42 2,ca 43 zcB [.t 36,.t 37,.t 40,.t 41,.t 42]]
 (sr [ma 44 8,ma 7 44]
 (rg [ma 45 8,ma 46 6,oo 47 (.bin .mul) [ki 2,.t 46],oo 48 (.bin .add) [.t 45,.t 47],ma 8 48])))))))
 (.seq (.seq
 (rg [ma 49 7,ma 50 6,oo 51 (.bin .add) [.t 49,.t 50],ma 9 51])
 (sr [ma 52 9,ma 53 1,oo 54 (.bin .lss) [.t 52,.t 53]]
 (.cond (.t 54)
 (rg [ma 55 0,ma 56 7,ma 57 9,ma 58 1,ma 59 2,ca 60 zcB [.t 55,.t 56,.t 57,.t 58,.t 59]])
 .skip)))
 (rg [ma 61 6,oo 62 (.bin .mul) [.t 61,ki 2],ma 6 62]))))))))))))⟩
def zlm : AFun:=⟨30,[(4,none),(5,none)],
 (sr [oo 4 .mv [(.c (.int .u64 0))],oo 5 .mv [(.c (.int .u64 0))]]
 (.seq (.cond (.c (.bool false))
 (sr [ma 11 0,oo 12 (.cvt .u32) [.t 11],ma 13 1,oo 14 (.cvt .u32) [.t 13],ca 15 zjM [.t 12,.t 14],ma 10 15,oo 16 (.ext 0) [.t 10],oo 17 (.ext 1) [.t 10],ma 6 16,ma 7 17]
 (sr [ma 18 6,oo 19 (.cvt .u64) [.t 18],ma 20 7,oo 21 (.cvt .u64) [.t 20],ma 4 19,ma 5 21]
 .ret))
 .skip)
 (sr [ma 23 0,ma 24 1,ca 25 zd5 [.t 23,.t 24],ma 22 25,oo 26 (.ext 0) [.t 22],oo 27 (.ext 1) [.t 22],ma 8 26,ma 9 27]
 (sr [ma 28 8,ma 29 9,ma 4 28,ma 5 29]
 .ret))))⟩
def zpf : AFun:=⟨13,[(4,none)],
 (sr [oo 4 .mv [(.c (.int .u32 0))]]
 (sr [ma 5 0,ma 6 1,oo 7 (.bin .shr) [.t 5,.t 6],ma 8 0,ma 9 1,oo 10 (.bin .sub) [(.c (.int .u64 32)),.t 9],oo 11 (.bin .shl) [.t 8,.t 10],oo 12 (.bin .or) [.t 7,.t 11],ma 4 12]
 .ret))⟩
def zbb : AFun:=⟨53,[],
 (sr [ma 10 1,oo 11 (.bin .add) [.t 10,ki 1],ma 8 11]
 (.block 0 (.loop
 (.seq (.seq
 (rg [ma 12 8,ma 13 2,oo 14 (.bin .lss) [.t 12,.t 13]])
 (.cond (.t 14)
 .skip
 (.exit 0)))
 (.seq (.block 1 (sr [ma 17 8,ma 9 17]
 (.block 2 (.loop
 (.seq (.seq
 (.reg true [ma 18 9,ma 19 1,oo 20 (.bin .gtr) [.t 18,.t 19],ma 21 20,mg 22 3 21,mg 23 0 21,mg 24 9 21,og 25 (.iad 7) [.t 23,.t 24] 21,og 26 (.ld true 7) [.t 25] 21,mg 27 0 21,mg 28 9 21,og 29 (.bin .sub) [.t 28,ki 1] 21,og 30 (.iad 7) [.t 27,.t 29] 21,og 31 (.ld true 7) [.t 30] 21,og 32 .call [.t 22,.t 26,.t 31] 21,og 33 (.bin .lss) [.t 32,ki 0] 21,oo 34 .pick [.t 21,.t 33,.c (.bool false)]] [[],[],[0,1],[2],[3],[3],[3],[5,6,3],[7,3],[3],[3],[10,3],[9,11,3],[12,3],[4,8,13,3,3],[14,3],[3,15]])
 (.cond (.t 34)
 .skip
 (.exit 2)))
 (.seq (.block 3 (.reg true [ma 37 0,ma 38 9,ma 39 0,ma 40 9,oo 41 (.bin .sub) [.t 40,ki 1],ma 42 0,ma 43 9,oo 44 (.bin .sub) [.t 43,ki 1],oo 45 (.iad 7) [.t 42,.t 44],oo 46 (.ld true 7) [.t 45],ma 47 0,ma 48 9,oo 49 (.iad 7) [.t 47,.t 48],oo 50 (.ld true 7) [.t 49],oo 51 (.iad 7) [.t 37,.t 38],ou (.st 7) [.t 51,.t 46],oo 52 (.iad 7) [.t 39,.t 41],ou (.st 7) [.t 52,.t 50]] [[],[],[],[],[3],[],[],[6],[5,7],[8],[],[],[10,11],[12],[0,1,0,1,5,6,7,8,9,13],[14,9,0,1,5,6,7,8,9,13],[2,4,0,1,2,3,4,5,6,7,8,9,10,11,12,13,14,15],[16,13,15,0,1,2,3,4,5,6,7,8,9,10,11,12,13,14,15]]))
 (rg [ma 35 9,oo 36 (.bin .sub) [.t 35,ki 1],ma 9 36])))))))
 (rg [ma 15 8,oo 16 (.bin .add) [.t 15,ki 1],ma 8 16]))))))⟩
def zbo : AFun:=⟨220,[],
 (.seq (.seq
 (rg [ma 25 2,ma 26 1,oo 27 (.bin .sub) [.t 25,.t 26],oo 28 (.bin .eql) [.t 27,ki 1]])
 (.cond (.t 28)
 (sr [ma 29 2,ma 10 29]
 (sr [ma 30 3,ma 11 30]
 (.seq (.block 0 (.loop
 (.seq (.seq
 (rg [ma 31 10,ma 32 11,oo 33 (.bin .lss) [.t 31,.t 32]])
 (.cond (.t 33)
 .skip
 (.exit 0)))
 (.block 1 (sr [ma 34 10,ma 35 11,oo 36 (.bin .add) [.t 34,.t 35],oo 37 (.cvt .u64) [.t 36],oo 38 (.bin .shr) [.t 37,(.c (.int .u64 1))],oo 39 (.cvt .i64) [.t 38],ma 12 39]
 (.seq (.reg true [ma 40 4,ma 41 0,ma 42 12,oo 43 (.iad 7) [.t 41,.t 42],oo 44 (.ld true 7) [.t 43],ma 45 0,ma 46 1,oo 47 (.iad 7) [.t 45,.t 46],oo 48 (.ld true 7) [.t 47],oo 49 .call [.t 40,.t 44,.t 48],oo 50 (.bin .lss) [.t 49,ki 0]] [[],[],[],[1,2],[3],[],[],[5,6],[7],[0,4,8],[9]])
 (.cond (.t 50)
 (rg [ma 51 12,oo 52 (.bin .add) [.t 51,ki 1],ma 10 52])
 (rg [ma 53 12,ma 11 53]))))))))
 (.seq (.seq
 (rg [ma 54 1,ma 13 54])
 (.block 2 (.loop
 (.seq (.seq
 (rg [ma 55 13,ma 56 10,oo 57 (.bin .sub) [.t 56,ki 1],oo 58 (.bin .lss) [.t 55,.t 57]])
 (.cond (.t 58)
 .skip
 (.exit 2)))
 (.seq (.block 3 (.reg true [ma 61 0,ma 62 13,ma 63 0,ma 64 13,oo 65 (.bin .add) [.t 64,ki 1],ma 66 0,ma 67 13,oo 68 (.bin .add) [.t 67,ki 1],oo 69 (.iad 7) [.t 66,.t 68],oo 70 (.ld true 7) [.t 69],ma 71 0,ma 72 13,oo 73 (.iad 7) [.t 71,.t 72],oo 74 (.ld true 7) [.t 73],oo 75 (.iad 7) [.t 61,.t 62],ou (.st 7) [.t 75,.t 70],oo 76 (.iad 7) [.t 63,.t 65],ou (.st 7) [.t 76,.t 74]] [[],[],[],[],[3],[],[],[6],[5,7],[8],[],[],[10,11],[12],[0,1,0,1,5,6,7,8,9,13],[14,9,0,1,5,6,7,8,9,13],[2,4,0,1,2,3,4,5,6,7,8,9,10,11,12,13,14,15],[16,13,15,0,1,2,3,4,5,6,7,8,9,10,11,12,13,14,15]]))
 (rg [ma 59 13,oo 60 (.bin .add) [.t 59,ki 1],ma 13 60]))))))
 .ret))))
 .skip))
 (.seq (.seq
 (rg [ma 77 3,ma 78 2,oo 79 (.bin .sub) [.t 77,.t 78],oo 80 (.bin .eql) [.t 79,ki 1]])
 (.cond (.t 80)
 (sr [ma 81 1,ma 14 81]
 (sr [ma 82 2,ma 15 82]
 (.seq (.block 4 (.loop
 (.seq (.seq
 (rg [ma 83 14,ma 84 15,oo 85 (.bin .lss) [.t 83,.t 84]])
 (.cond (.t 85)
 .skip
 (.exit 4)))
 (.block 5 (sr [ma 86 14,ma 87 15,oo 88 (.bin .add) [.t 86,.t 87],oo 89 (.cvt .u64) [.t 88],oo 90 (.bin .shr) [.t 89,(.c (.int .u64 1))],oo 91 (.cvt .i64) [.t 90],ma 16 91]
 (.seq (.reg true [ma 92 4,ma 93 0,ma 94 2,oo 95 (.iad 7) [.t 93,.t 94],oo 96 (.ld true 7) [.t 95],ma 97 0,ma 98 16,oo 99 (.iad 7) [.t 97,.t 98],oo 100 (.ld true 7) [.t 99],oo 101 .call [.t 92,.t 96,.t 100],oo 102 (.bin .lss) [.t 101,ki 0],oo 103 (.un .not) [.t 102]] [[],[],[],[1,2],[3],[],[],[5,6],[7],[0,4,8],[9],[10]])
 (.cond (.t 103)
 (rg [ma 104 16,oo 105 (.bin .add) [.t 104,ki 1],ma 14 105])
 (rg [ma 106 16,ma 15 106]))))))))
 (.seq (.seq
 (rg [ma 107 2,ma 17 107])
 (.block 6 (.loop
 (.seq (.seq
 (rg [ma 108 17,ma 109 14,oo 110 (.bin .gtr) [.t 108,.t 109]])
 (.cond (.t 110)
 .skip
 (.exit 6)))
 (.seq (.block 7 (.reg true [ma 113 0,ma 114 17,ma 115 0,ma 116 17,oo 117 (.bin .sub) [.t 116,ki 1],ma 118 0,ma 119 17,oo 120 (.bin .sub) [.t 119,ki 1],oo 121 (.iad 7) [.t 118,.t 120],oo 122 (.ld true 7) [.t 121],ma 123 0,ma 124 17,oo 125 (.iad 7) [.t 123,.t 124],oo 126 (.ld true 7) [.t 125],oo 127 (.iad 7) [.t 113,.t 114],ou (.st 7) [.t 127,.t 122],oo 128 (.iad 7) [.t 115,.t 117],ou (.st 7) [.t 128,.t 126]] [[],[],[],[],[3],[],[],[6],[5,7],[8],[],[],[10,11],[12],[0,1,0,1,5,6,7,8,9,13],[14,9,0,1,5,6,7,8,9,13],[2,4,0,1,2,3,4,5,6,7,8,9,10,11,12,13,14,15],[16,13,15,0,1,2,3,4,5,6,7,8,9,10,11,12,13,14,15]]))
 (rg [ma 111 17,oo 112 (.bin .sub) [.t 111,ki 1],ma 17 112]))))))
 .ret))))
 .skip))
 (sr [ma 129 1,ma 130 3,oo 131 (.bin .add) [.t 129,.t 130],oo 132 (.cvt .u64) [.t 131],oo 133 (.bin .shr) [.t 132,(.c (.int .u64 1))],oo 134 (.cvt .i64) [.t 133],ma 18 134]
 (sr [ma 135 18,ma 136 2,oo 137 (.bin .add) [.t 135,.t 136],ma 19 137]
 (sr [oo 20 .mv [ki 0],oo 21 .mv [ki 0]]
 (.seq (.seq
 (rg [ma 138 2,ma 139 18,oo 140 (.bin .gtr) [.t 138,.t 139]])
 (.cond (.t 140)
 (sr [ma 141 19,ma 142 3,oo 143 (.bin .sub) [.t 141,.t 142],ma 20 143]
 (rg [ma 144 18,ma 21 144]))
 (sr [ma 145 1,ma 20 145]
 (rg [ma 146 2,ma 21 146]))))
 (sr [ma 147 19,oo 148 (.bin .sub) [.t 147,ki 1],ma 22 148]
 (.seq (.block 8 (.loop
 (.seq (.seq
 (rg [ma 149 20,ma 150 21,oo 151 (.bin .lss) [.t 149,.t 150]])
 (.cond (.t 151)
 .skip
 (.exit 8)))
 (.block 9 (sr [ma 152 20,ma 153 21,oo 154 (.bin .add) [.t 152,.t 153],oo 155 (.cvt .u64) [.t 154],oo 156 (.bin .shr) [.t 155,(.c (.int .u64 1))],oo 157 (.cvt .i64) [.t 156],ma 23 157]
 (.seq (.reg true [ma 158 4,ma 159 0,ma 160 22,ma 161 23,oo 162 (.bin .sub) [.t 160,.t 161],oo 163 (.iad 7) [.t 159,.t 162],oo 164 (.ld true 7) [.t 163],ma 165 0,ma 166 23,oo 167 (.iad 7) [.t 165,.t 166],oo 168 (.ld true 7) [.t 167],oo 169 .call [.t 158,.t 164,.t 168],oo 170 (.bin .lss) [.t 169,ki 0],oo 171 (.un .not) [.t 170]] [[],[],[],[],[2,3],[1,4],[5],[],[],[7,8],[9],[0,6,10],[11],[12]])
 (.cond (.t 171)
 (rg [ma 172 23,oo 173 (.bin .add) [.t 172,ki 1],ma 20 173])
 (rg [ma 174 23,ma 21 174]))))))))
 (sr [ma 175 19,ma 176 20,oo 177 (.bin .sub) [.t 175,.t 176],ma 24 177]
 (.seq (.seq
 (rg [ma 178 20,ma 179 2,oo 180 (.bin .lss) [.t 178,.t 179],ma 181 180,mg 182 2 181,mg 183 24 181,og 184 (.bin .lss) [.t 182,.t 183] 181,oo 185 .pick [.t 181,.t 184,.c (.bool false)]])
 (.cond (.t 185)
 (rg [ma 186 0,ma 187 20,ma 188 2,ma 189 24,ma 190 4,ca 191 za9 [.t 186,.t 187,.t 188,.t 189,.t 190]])
 .skip))
 (.seq (.seq
 (rg [ma 192 1,ma 193 20,oo 194 (.bin .lss) [.t 192,.t 193],ma 195 194,mg 196 20 195,mg 197 18 195,og 198 (.bin .lss) [.t 196,.t 197] 195,oo 199 .pick [.t 195,.t 198,.c (.bool false)]])
 (.cond (.t 199)
 (rg [ma 200 0,ma 201 1,ma 202 20,ma 203 18,ma 204 4,ca 205 zaA [.t 200,.t 201,.t 202,.t 203,.t 204]])
 .skip))
 (sr [ma 206 18,ma 207 24,oo 208 (.bin .lss) [.t 206,.t 207],ma 209 208,mg 210 24 209,mg 211 3 209,og 212 (.bin .lss) [.t 210,.t 211] 209,oo 213 .pick [.t 209,.t 212,.c (.bool false)]]
 (.cond (.t 213)
 (rg [ma 214 0,ma 215 18,ma 216 24,ma 217 3,ma 218 4,ca 219 zaA [.t 214,.t 215,.t 216,.t 217,.t 218]])
 .skip)))))))))))))⟩
def zdv : AFun:=⟨53,[],
 (sr [ma 10 1,oo 11 (.bin .add) [.t 10,ki 1],ma 8 11]
 (.block 0 (.loop
 (.seq (.seq
 (rg [ma 12 8,ma 13 2,oo 14 (.bin .lss) [.t 12,.t 13]])
 (.cond (.t 14)
 .skip
 (.exit 0)))
 (.seq (.block 1 (sr [ma 17 8,ma 9 17]
 (.block 2 (.loop
 (.seq (.seq
 (.reg true [ma 18 9,ma 19 1,oo 20 (.bin .gtr) [.t 18,.t 19],ma 21 20,mg 22 3 21,mg 23 0 21,mg 24 9 21,og 25 (.iad 1) [.t 23,.t 24] 21,lg 26 25 21,mg 27 0 21,mg 28 9 21,og 29 (.bin .sub) [.t 28,ki 1] 21,og 30 (.iad 1) [.t 27,.t 29] 21,lg 31 30 21,og 32 .call [.t 22,.t 26,.t 31] 21,og 33 (.bin .lss) [.t 32,ki 0] 21,oo 34 .pick [.t 21,.t 33,.c (.bool false)]] [[],[],[0,1],[2],[3],[3],[3],[5,6,3],[7,3],[3],[3],[10,3],[9,11,3],[12,3],[4,8,13,3,3],[14,3],[3,15]])
 (.cond (.t 34)
 .skip
 (.exit 2)))
 (.seq (.block 3 (.reg true [ma 37 0,ma 38 9,ma 39 0,ma 40 9,oo 41 (.bin .sub) [.t 40,ki 1],ma 42 0,ma 43 9,oo 44 (.bin .sub) [.t 43,ki 1],oo 45 (.iad 1) [.t 42,.t 44],la 46 45,ma 47 0,ma 48 9,oo 49 (.iad 1) [.t 47,.t 48],la 50 49,oo 51 (.iad 1) [.t 37,.t 38],ou (.st 1) [.t 51,.t 46],oo 52 (.iad 1) [.t 39,.t 41],ou (.st 1) [.t 52,.t 50]] [[],[],[],[],[3],[],[],[6],[5,7],[8],[],[],[10,11],[12],[0,1,0,1,5,6,7,8,9,13],[14,9,0,1,5,6,7,8,9,13],[2,4,0,1,2,3,4,5,6,7,8,9,10,11,12,13,14,15],[16,13,15,0,1,2,3,4,5,6,7,8,9,10,11,12,13,14,15]]))
 (rg [ma 35 9,oo 36 (.bin .sub) [.t 35,ki 1],ma 9 36])))))))
 (rg [ma 15 8,oo 16 (.bin .add) [.t 15,ki 1],ma 8 16]))))))⟩
def zjI : AFun:=⟨51,[(4,none),(5,none)],
 (sr [oo 4 .mv [(.c (.int .u64 0))],oo 5 .mv [(.c (.int .u64 0))]]
 (sr [ma 14 0,oo 15 (.bin .and) [.t 14,(.c (.int .u64 4294967295))],ma 6 15]
 (sr [ma 16 0,oo 17 (.bin .shr) [.t 16,(.c (.int .u64 32))],ma 7 17]
 (sr [ma 18 1,oo 19 (.bin .and) [.t 18,(.c (.int .u64 4294967295))],ma 8 19]
 (sr [ma 20 1,oo 21 (.bin .shr) [.t 20,(.c (.int .u64 32))],ma 9 21]
 (sr [ma 22 6,ma 23 8,oo 24 (.bin .mul) [.t 22,.t 23],ma 10 24]
 (sr [ma 25 7,ma 26 8,oo 27 (.bin .mul) [.t 25,.t 26],ma 28 10,oo 29 (.bin .shr) [.t 28,(.c (.int .u64 32))],oo 30 (.bin .add) [.t 27,.t 29],ma 11 30]
 (sr [ma 31 11,oo 32 (.bin .and) [.t 31,(.c (.int .u64 4294967295))],ma 12 32]
 (sr [ma 33 11,oo 34 (.bin .shr) [.t 33,(.c (.int .u64 32))],ma 13 34]
 (sr [ma 35 12,ma 36 6,ma 37 9,oo 38 (.bin .mul) [.t 36,.t 37],oo 39 (.bin .add) [.t 35,.t 38],ma 12 39]
 (sr [ma 40 7,ma 41 9,oo 42 (.bin .mul) [.t 40,.t 41],ma 43 13,oo 44 (.bin .add) [.t 42,.t 43],ma 45 12,oo 46 (.bin .shr) [.t 45,(.c (.int .u64 32))],oo 47 (.bin .add) [.t 44,.t 46],ma 4 47]
 (sr [ma 48 0,ma 49 1,oo 50 (.bin .mul) [.t 48,.t 49],ma 5 50]
 .ret))))))))))))⟩
def zbw : AFun:=⟨58,[],
 (sr [ma 12 2,ma 13 1,oo 14 (.bin .sub) [.t 12,.t 13],ma 10 14]
 (sr [ma 15 3,ma 16 2,oo 17 (.bin .sub) [.t 15,.t 16],ma 11 17]
 (.seq (.block 0 (.loop
 (.seq (.seq
 (rg [ma 18 10,ma 19 11,oo 20 (.bin .neq) [.t 18,.t 19]])
 (.cond (.t 20)
 .skip
 (.exit 0)))
 (.block 1 (sr [ma 21 10,ma 22 11,oo 23 (.bin .gtr) [.t 21,.t 22]]
 (.cond (.t 23)
 (sr [ma 24 0,ma 25 2,ma 26 10,oo 27 (.bin .sub) [.t 25,.t 26],ma 28 2,ma 29 11,ma 30 4,ca 31 zaH [.t 24,.t 27,.t 28,.t 29,.t 30]]
 (rg [ma 32 10,ma 33 11,oo 34 (.bin .sub) [.t 32,.t 33],ma 10 34]))
 (sr [ma 35 0,ma 36 2,ma 37 10,oo 38 (.bin .sub) [.t 36,.t 37],ma 39 2,ma 40 11,oo 41 (.bin .add) [.t 39,.t 40],ma 42 10,oo 43 (.bin .sub) [.t 41,.t 42],ma 44 10,ma 45 4,ca 46 zaH [.t 35,.t 38,.t 43,.t 44,.t 45]]
 (rg [ma 47 11,ma 48 10,oo 49 (.bin .sub) [.t 47,.t 48],ma 11 49]))))))))
 (rg [ma 50 0,ma 51 2,ma 52 10,oo 53 (.bin .sub) [.t 51,.t 52],ma 54 2,ma 55 10,ma 56 4,ca 57 zaH [.t 50,.t 53,.t 54,.t 55,.t 56]]))))⟩
def zbl : AFun:=⟨38,[],
 (sr [oo 10 .mv [ki 0]]
 (.block 0 (.loop
 (.seq (.seq
 (rg [ma 11 10,ma 12 3,oo 13 (.bin .lss) [.t 11,.t 12]])
 (.cond (.t 13)
 .skip
 (.exit 0)))
 (.seq (.block 1 (.reg true [ma 16 0,ma 17 1,ma 18 10,oo 19 (.bin .add) [.t 17,.t 18],ma 20 0,ma 21 2,ma 22 10,oo 23 (.bin .add) [.t 21,.t 22],ma 24 0,ma 25 2,ma 26 10,oo 27 (.bin .add) [.t 25,.t 26],oo 28 (.iad 7) [.t 24,.t 27],oo 29 (.ld true 7) [.t 28],ma 30 0,ma 31 1,ma 32 10,oo 33 (.bin .add) [.t 31,.t 32],oo 34 (.iad 7) [.t 30,.t 33],oo 35 (.ld true 7) [.t 34],oo 36 (.iad 7) [.t 16,.t 19],ou (.st 7) [.t 36,.t 29],oo 37 (.iad 7) [.t 20,.t 23],ou (.st 7) [.t 37,.t 35]] [[],[],[],[1,2],[],[],[],[5,6],[],[],[],[9,10],[8,11],[12],[],[],[],[15,16],[14,17],[18],[0,3,0,1,2,3,8,9,10,11,12,13,19],[20,13,0,1,2,3,8,9,10,11,12,13,19],[4,7,0,1,2,3,4,5,6,7,8,9,10,11,12,13,14,15,16,17,18,19,20,21],[22,19,21,0,1,2,3,4,5,6,7,8,9,10,11,12,13,14,15,16,17,18,19,20,21]]))
 (rg [ma 14 10,oo 15 (.bin .add) [.t 14,ki 1],ma 10 15]))))))⟩
end Go.Proofs.YtklclphfcibagaaGreat
