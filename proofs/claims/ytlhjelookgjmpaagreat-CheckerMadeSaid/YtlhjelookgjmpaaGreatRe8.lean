/- Texts of this claim,merged. -/
import Derived.Test.YtlhjelookgjmpaaGreatRe5
set_option linter.unusedSimpArgs false
set_option linter.unusedVariables false
set_option linter.unusedSectionVars false
namespace Go.Proofs.YtlhjelookgjmpaaGreat
open Go
set_option maxRecDepth 100000
def claw44_CheckerMade : AFun:=⟨182,[(4,none)],
 (.seq (.reg false [oo 4 .mv [.c (.bool false)]] [])
 (.seq (.seq
 (.reg false [oo 18 .mv [.t 0],oo 19 .call [.f ntrustflowmill_Light,.t 18],oo 20 (.un .not) [.t 19]] [])
 (.cond (.t 20)
 (.seq (.reg false [
 oo 21 .call [.f nlaw44_awake],
 oo 4 .mv [.t 21]] [])
 .ret)
 .skip))
 (.seq (.reg false [oo 22 .mv [.t 0],oo 23 .call [.f nmade_Roll,.t 22],oo 5 .mv [.t 23]] [])
 (.seq (.reg false [oo 24 .mv [.t 5],oo 25 .call [.f nmade_Dice_Graph,.t 24],oo 6 (.alloc [v0,vn,vn]) [],ou (.st 3) [.t 6,.t 25]] [])
 (.seq (.reg false [oo 26 .mv [.t 5],oo 27 (.ld true 3) [.t 6],oo 28 .call [.f nmade_Dice_Policy,.t 26,.t 27],oo 7 (.alloc [vn,vn,v0]) [],ou (.st 3) [.t 7,.t 28]] [])
 (.seq (.reg false [oo 30 (.ld true 3) [.t 6],oo 31 (.ld true 3) [.t 7],oo 32 .call [.f nref43_All,.t 30,.t 31],oo 29 .mv [.t 32],oo 33 (.ext 0) [.t 29],oo 34 (.ext 1) [.t 29],oo 8 .mv [.t 33],oo 9 .mv [.t 34]] [])
 (.seq (.reg false [oo 10 .mv [kn]] [])
 (.seq (.seq
 (.reg false [oo 11 .mv [ki 0]] [])
 (.block 0 (.loop
 (.seq (.seq
 (.reg false [oo 35 .mv [.t 11],oo 36 .mv [.t 8],oo 37 .len [.t 36],oo 38 (.bin .lss) [.t 35,.t 37]] [])
 (.cond (.t 38)
 .skip
 (.exit 0)))
 (.seq (.block 1 (.seq (.reg false [oo 41 .mv [.t 5],oo 42 .call [.f nmade_Dice_One,.t 41,ki 3]] [])
 (.cond (.t 42)
 (.reg true [
 oo 43 .mv [.t 10],
 oo 44 .mv [.t 5],
 oo 45 .mv [.t 8],
 oo 46 .mv [.t 11],
 oo 47 (.iad 5) [.t 45,.t 46],
 oo 48 (.ld true 5) [.t 47],
 oo 49 (.fad 0) [.t 6],
 oo 50 (.ld false 1) [.t 49],
 oo 51 .call [.f nlaw44_bend,.t 44,.t 48,.t 50],
 oo 52 (.bsl 5 1 [v0,(.bool false),vn,vn,vn] [0]) [.t 51],
 oo 53 (.app 5 88) [.t 43,.t 52],
 oo 10 .mv [.t 53]] [[],[],[],[],[2,3],[4],[],[6],[1,5,7],[8],[0,9,8],[10,10,0,1,2,3,4,5,6,7,8,9,10]])
 (.reg false [
 oo 54 .mv [.t 10],
 oo 55 .mv [.t 8],
 oo 56 .mv [.t 11],
 oo 57 (.iad 5) [.t 55,.t 56],
 oo 58 (.ld true 5) [.t 57],
 oo 59 (.bsl 5 1 [v0,(.bool false),vn,vn,vn] [0]) [.t 58],
 oo 60 (.app 5 88) [.t 54,.t 59],
 oo 10 .mv [.t 60]] []))))
 (.reg false [oo 39 .mv [.t 11],oo 40 (.bin .add) [.t 39,ki 1],oo 11 .mv [.t 40]] []))))))
 (.seq (.seq
 (.reg false [oo 61 .mv [.t 1],oo 62 (.bin .rem) [.t 61,(.c (.int .u8 9))]] [])
 (.block 2 (.seq (.reg false [oo 64 (.bin .eql) [.t 62,(.c (.int .u8 0))],oo 63 .mv [.t 64]] [])
 (.cond (.t 63)
 (.reg false [
 oo 65 (.fad 1) [.t 7],
 ou (.st 1) [.t 65,kn]] [])
 (.seq (.reg false [
 oo 67 (.bin .eql) [.t 62,(.c (.int .u8 1))],
 oo 66 .mv [.t 67]] [])
 (.cond (.t 66)
 (.reg false [
 oo 68 (.fad 1) [.t 6],
 oo 69 (.ld false 1) [.t 68],
 oo 70 (.build [v0,v0,v0] []) [],
 oo 71 (.bsl 3 1 [v0,v0,v0] [0]) [.t 70],
 oo 72 (.app 3 24) [.t 69,.t 71],
 oo 73 (.fad 1) [.t 6],
 ou (.st 1) [.t 73,.t 72]] [])
 (.seq (.reg false [
 oo 75 (.bin .eql) [.t 62,(.c (.int .u8 2))],
 oo 74 .mv [.t 75]] [])
 (.cond (.t 74)
 (.seq (.reg false [
 oo 76 .mv [.t 10],
 oo 77 .len [.t 76],
 oo 78 (.bin .gtr) [.t 77,ki 0]] [])
 (.cond (.t 78)
 (.reg false [
 oo 79 .mv [.t 10],
 oo 80 (.slc 5 true false false) [.t 79,ki 1],
 oo 10 .mv [.t 80]] [])
 .skip))
 (.seq (.reg false [
 oo 82 (.bin .eql) [.t 62,(.c (.int .u8 3))],
 oo 81 .mv [.t 82]] [])
 (.cond (.t 81)
 (.reg false [
 oo 83 .mv [.t 10],
 oo 84 (.build [v0,(.bool false),vn,vn,vn] []) [],
 oo 85 (.bsl 5 1 [v0,(.bool false),vn,vn,vn] [0]) [.t 84],
 oo 86 (.app 5 88) [.t 83,.t 85],
 oo 10 .mv [.t 86]] [])
 (.seq (.reg false [
 oo 88 (.bin .eql) [.t 62,(.c (.int .u8 4))],
 oo 87 .mv [.t 88]] [])
 (.cond (.t 87)
 (.seq (.reg false [
 oo 89 .mv [.t 10],
 oo 90 .len [.t 89],
 oo 91 (.bin .gtr) [.t 90,ki 1]] [])
 (.cond (.t 91)
 (.reg true [
 oo 92 .mv [.t 10],
 oo 93 .mv [.t 10],
 oo 94 .mv [.t 10],
 oo 95 (.iad 5) [.t 94,ki 1],
 oo 96 (.ld true 5) [.t 95],
 oo 97 .mv [.t 10],
 oo 98 (.iad 5) [.t 97,ki 0],
 oo 99 (.ld true 5) [.t 98],
 oo 100 (.iad 5) [.t 92,ki 0],
 ou (.st 5) [.t 100,.t 96],
 oo 101 (.iad 5) [.t 93,ki 1],
 ou (.st 5) [.t 101,.t 99]] [[],[],[],[2],[3],[],[5],[6],[0,0,2,3,4,7],[8,4,0,2,3,4,7],[1,0,1,2,3,4,5,6,7,8,9],[10,7,9,0,1,2,3,4,5,6,7,8,9]])
 .skip))
 .skip))))))))))))
 (.seq (.reg false [oo 103 (.ld true 3) [.t 6],oo 104 (.ld true 3) [.t 7],oo 105 .mv [.t 10],oo 106 .call [.f nchecker_All,.t 103,.t 104,.t 105],oo 102 .mv [.t 106],oo 107 (.ext 0) [.t 102],oo 108 (.ext 1) [.t 102],oo 12 .mv [.t 107],oo 13 .mv [.t 108]] [])
 (.seq (.reg false [oo 110 (.ld true 3) [.t 6],oo 111 (.ld true 3) [.t 7],oo 112 .mv [.t 10],oo 113 .call [.f nref44_All,.t 110,.t 111,.t 112],oo 109 .mv [.t 113],oo 114 (.ext 0) [.t 109],oo 115 (.ext 1) [.t 109],oo 14 .mv [.t 114],oo 15 .mv [.t 115]] [])
 (.seq (.seq
 (.reg false [oo 116 .mv [.t 13],oo 117 .mv [.t 15],oo 118 (.bin .neq) [.t 116,.t 117],oo 119 .mv [.t 118],oh 120 .mv [.t 12] 119,oh 121 .mv [.t 14] 119,oh 122 .call [.f nref23_SameInts,.t 120,.t 121] 119,oh 123 (.un .not) [.t 122] 119,oo 124 .pick [.t 119,.c (.bool true),.t 123]] [])
 (.cond (.t 124)
 (.seq (.reg false [
 oo 4 .mv [.c (.bool false)]] [])
 .ret)
 .skip))
 (.seq (.seq
 (.reg false [oo 16 .mv [ki 0]] [])
 (.block 3 (.loop
 (.seq (.seq
 (.reg false [oo 125 .mv [.t 16],oo 126 .mv [.t 10],oo 127 .len [.t 126],oo 128 (.bin .lss) [.t 125,.t 127]] [])
 (.cond (.t 128)
 .skip
 (.exit 3)))
 (.seq (.block 4 (.seq (.reg true [oo 131 (.bsl 1 0 [v0] []) [],oo 132 .mv [.t 10],oo 133 .mv [.t 16],oo 134 (.iad 5) [.t 132,.t 133],oo 135 (.fad 2) [.t 134],oo 136 (.ld false 1) [.t 135],oo 137 (.app 1 8) [.t 131,.t 136],oo 138 .mv [.t 10],oo 139 .mv [.t 16],oo 140 (.iad 5) [.t 138,.t 139],oo 141 (.fad 0) [.t 140],oo 142 (.ld false 1) [.t 141],oo 143 (.bsl 1 1 [v0] [0]) [.t 142],oo 144 (.app 1 8) [.t 137,.t 143],oo 17 .mv [.t 144]] [[],[],[],[1,2],[3],[4],[0,5],[],[],[7,8],[9],[10],[11],[6,12,6],[13,13,0,1,2,3,4,5,6,7,8,9,10,11,12,13]])
 (.seq (.reg true [oo 145 (.ld true 3) [.t 6],oo 146 (.ld true 3) [.t 7],oo 147 .mv [.t 10],oo 148 .mv [.t 16],oo 149 (.iad 5) [.t 147,.t 148],oo 150 (.ld true 5) [.t 149],oo 151 .call [.f nchecker_Check,.t 145,.t 146,.t 150],oo 152 (.ld true 3) [.t 6],oo 153 (.ld true 3) [.t 7],oo 154 .mv [.t 10],oo 155 .mv [.t 16],oo 156 (.iad 5) [.t 154,.t 155],oo 157 (.ld true 5) [.t 156],oo 158 .call [.f nref44_Check,.t 152,.t 153,.t 157],oo 159 (.bin .neq) [.t 151,.t 158],oo 160 .mv [.t 159],oh 161 (.ld true 3) [.t 6] 160,oh 162 (.ld true 3) [.t 7] 160,oh 163 .mv [.t 10] 160,oh 164 .mv [.t 16] 160,oh 165 (.iad 5) [.t 163,.t 164] 160,oh 166 (.fad 3) [.t 165] 160,oh 167 (.ld false 1) [.t 166] 160,oh 168 .mv [.t 17] 160,oh 169 .call [.f nchecker_Paths,.t 161,.t 162,.t 167,.t 168] 160,oh 170 (.ld true 3) [.t 6] 160,oh 171 (.ld true 3) [.t 7] 160,oh 172 .mv [.t 10] 160,oh 173 .mv [.t 16] 160,oh 174 (.iad 5) [.t 172,.t 173] 160,oh 175 (.fad 3) [.t 174] 160,oh 176 (.ld false 1) [.t 175] 160,oh 177 .mv [.t 17] 160,oh 178 .call [.f nref44_Paths,.t 170,.t 171,.t 176,.t 177] 160,oh 179 (.beq true) [.t 169,.t 178] 160,oo 180 .pick [.t 160,.c (.bool true),.t 179]] [[],[],[],[],[2,3],[4],[0,1,5],[],[],[],[],[9,10],[11],[7,8,12,6],[6,13],[14,13],[15],[15],[15],[15],[18,19,15],[20,15],[21,15],[15],[16,17,22,23,15,15],[15],[15],[15],[15],[27,28,15],[29,15],[30,15],[15],[25,26,31,32,24,15],[24,33,15],[15,34]])
 (.cond (.t 180)
 (.seq (.reg false [
 oo 4 .mv [.c (.bool false)]] [])
 .ret)
 .skip))))
 (.reg false [oo 129 .mv [.t 16],oo 130 (.bin .add) [.t 129,ki 1],oo 16 .mv [.t 130]] []))))))
 (.seq (.reg false [oo 181 .call [.f nlaw44_awake],oo 4 .mv [.t 181]] [])
 .ret))))))))))))))⟩
def ctrustflowmill_Light : AFun:=⟨6,[(2,none)],
 (.seq (.reg false [oo 2 .mv [.c (.bool false)]] [])
 (.seq (.reg false [oo 3 .mv [.t 0],oo 4 .len [.t 3],oo 5 (.bin .leq) [.t 4,ki 400],oo 2 .mv [.t 5]] [])
 .ret))⟩
def claw44_awake : AFun:=⟨28,[(0,none)],
 (.seq (.reg false [oo 0 .mv [.c (.bool false)]] [])
 (.seq (.reg false [oo 3 (.build [v0,v0,v0] [(0,1),(1,1),(2,1)]) [ki 0,ki 1,ki 1],oo 4 (.build [v0,v0,v0] [(0,1),(1,1),(2,1)]) [ki 0,ki 2,ki 1],oo 5 (.bsl 3 2 [v0,v0,v0] [0,1]) [.t 3,.t 4],oo 6 (.build [v0,vn,vn] [(0,1),(1,1)]) [ki 3,.t 5],oo 1 (.alloc [v0,vn,vn]) [],ou (.st 3) [.t 1,.t 6]] [])
 (.seq (.reg false [oo 7 (.bsl 1 1 [v0] [0]) [ki 0],oo 8 (.bsl 1 1 [v0] [0]) [ki 2],oo 9 (.build [vn,vn,v0] [(0,1),(1,1),(2,1)]) [.t 7,.t 8,ki 1],oo 2 (.alloc [vn,vn,v0]) [],ou (.st 3) [.t 2,.t 9]] [])
 (.seq (.reg false [oo 10 (.ld true 3) [.t 1],oo 11 (.ld true 3) [.t 2],oo 12 (.bsl 1 1 [v0] [0]) [ki 0],oo 13 (.bsl 1 2 [v0] [0,1]) [ki 0,ki 1],oo 14 (.bsl 1 2 [vn] [0,1]) [.t 12,.t 13],oo 15 (.bsl 1 2 [v0] [0,1]) [ki 0,ki 1],oo 16 .call [.f nchecker_Paths,.t 10,.t 11,.t 14,.t 15],oo 17 .mv [.t 16],og 18 (.ld true 3) [.t 1] 17,og 19 (.ld true 3) [.t 2] 17,og 20 (.bsl 1 1 [v0] [0]) [ki 0] 17,og 21 (.bsl 1 2 [v0] [0,1]) [ki 0,ki 1] 17,og 22 (.bsl 1 2 [v0] [0,1]) [ki 0,ki 2] 17,og 23 (.bsl 1 3 [vn] [0,1,2]) [.t 20,.t 21,.t 22] 17,og 24 (.bsl 1 3 [v0] [0,1,2]) [ki 0,ki 1,ki 2] 17,og 25 .call [.f nchecker_Paths,.t 18,.t 19,.t 23,.t 24] 17,og 26 (.un .not) [.t 25] 17,oo 27 .pick [.t 17,.t 26,.c (.bool false)],oo 0 .mv [.t 27]] [])
 .ret))))⟩
def cmade_Dice_Policy : AFun:=⟨50,[(4,some (true,3))],
 (.seq (.reg false [oo 3 (.box 3) [.t 1],oo 4 (.alloc [vn,vn,v0]) []] [])
 (.seq (.reg false [oo 8 .mv [.t 0],oo 9 (.fad 0) [.t 3],oo 10 (.ld false 1) [.t 9],oo 11 .call [.f nmade_Dice_Next,.t 8,.t 10],oo 12 (.bsl 1 1 [v0] [0]) [.t 11],oo 13 .mv [.t 0],oo 14 (.bsl 1 4 [v0] [0,1,2,3]) [ki 1,ki 1,ki 2,ki 3],oo 15 .call [.f nmade_Dice_Of,.t 13,.t 14],oo 16 (.build [vn,vn,v0] [(0,1),(2,1)]) [.t 12,.t 15],oo 5 (.alloc [vn,vn,v0]) [],ou (.st 3) [.t 5,.t 16]] [])
 (.seq (.seq
 (.reg false [oo 17 .mv [.t 0],oo 18 .call [.f nmade_Dice_One,.t 17,ki 3]] [])
 (.cond (.t 18)
 (.reg true [
 oo 19 (.fad 0) [.t 5],
 oo 20 (.ld false 1) [.t 19],
 oo 21 .mv [.t 0],
 oo 22 (.fad 0) [.t 3],
 oo 23 (.ld false 1) [.t 22],
 oo 24 .call [.f nmade_Dice_Next,.t 21,.t 23],
 oo 25 .call [.f nref11_Put,.t 20,.t 24],
 oo 26 (.fad 0) [.t 5],
 ou (.st 1) [.t 26,.t 25]] [[],[0],[],[],[3],[2,4],[1,5,5],[0,1,2,3,4,5,6],[7,6,6,0,1,2,3,4,5,6]])
 .skip))
 (.seq (.reg false [oo 27 .mv [.t 0],oo 28 (.bsl 1 5 [v0] [0,1,2,3,4]) [ki 3,ki 2,ki 1,ki 6,ki 0],oo 29 .call [.f nmade_Dice_Of,.t 27,.t 28],oo 30 (.bin .add) [ki 1,.t 29],oo 6 .mv [.t 30]] [])
 (.seq (.seq
 (.reg false [oo 31 .mv [.t 0],oo 32 .call [.f nmade_Dice_Next,.t 31,ki 4],oo 33 (.bin .add) [ki 1,.t 32],oo 7 .mv [.t 33]] [])
 (.block 0 (.loop
 (.seq (.seq
 (.reg false [oo 34 .mv [.t 7],oo 35 (.bin .gtr) [.t 34,ki 0]] [])
 (.cond (.t 35)
 .skip
 (.exit 0)))
 (.seq (.block 1 (.seq (.reg false [oo 38 (.fad 1) [.t 5],oo 39 (.ld false 1) [.t 38],oo 40 .mv [.t 6],oo 41 (.bsl 1 1 [v0] [0]) [.t 40],oo 42 (.app 1 8) [.t 39,.t 41],oo 43 (.fad 1) [.t 5],ou (.st 1) [.t 43,.t 42]] [])
 (.reg false [oo 44 .mv [.t 6],oo 45 .mv [.t 0],oo 46 .call [.f nmade_Dice_Next,.t 45,ki 3],oo 47 (.bin .sub) [.t 44,.t 46],oo 48 .mx2 [ki 1,.t 47],oo 6 .mv [.t 48]] [])))
 (.reg false [oo 36 .mv [.t 7],oo 37 (.bin .sub) [.t 36,ki 1],oo 7 .mv [.t 37]] []))))))
 (.seq (.reg false [oo 49 (.ld true 3) [.t 5],ou (.st 3) [.t 4,.t 49]] [])
 .ret))))))⟩
def cref43_For : AFun:=⟨114,[(6,some (true,5)),(7,none)],
 (.seq (.reg false [oo 3 (.box 3) [.t 0],oo 4 (.box 3) [.t 1],oo 6 (.alloc [v0,(.bool false),vn,vn,vn]) [],oo 7 .mv [ki 0]] [])
 (.seq (.seq
 (.reg false [oo 15 (.ld true 3) [.t 3],oo 16 (.ld true 3) [.t 4],oo 17 .call [.f nref13_Check,.t 15,.t 16],oo 8 .mv [.t 17]] [])
 (.seq (.reg false [oo 18 .mv [.t 8],oo 19 (.bin .neq) [.t 18,ki 0]] [])
 (.cond (.t 19)
 (.seq (.reg false [
 oo 20 (.build [v0,(.bool false),vn,vn,vn] []) [],
 oo 21 .mv [.t 8],
 ou (.st 5) [.t 6,.t 20],
 oo 7 .mv [.t 21]] [])
 .ret)
 .skip)))
 (.seq (.reg false [oo 22 (.ld true 3) [.t 3],oo 23 (.ld true 3) [.t 4],oo 24 .call [.f nref43_Reached,.t 22,.t 23],oo 9 .mv [.t 24]] [])
 (.seq (.seq
 (.reg false [oo 25 .mv [.t 9],oo 26 .mv [.t 2],oo 27 .call [.f nref24_Has,.t 25,.t 26],oo 28 (.un .not) [.t 27]] [])
 (.cond (.t 28)
 (.seq (.reg false [
 oo 29 (.build [v0,(.bool false),vn,vn,vn] []) [],
 ou (.st 5) [.t 6,.t 29],
 oo 7 .mv [ki 11]] [])
 .ret)
 .skip))
 (.seq (.reg false [oo 31 (.ld true 3) [.t 3],oo 32 (.ld true 3) [.t 4],oo 33 .call [.f nref17_Run,.t 31,.t 32],oo 30 .mv [.t 33],oo 34 (.ext 0) [.t 30],oo 35 (.ext 1) [.t 30],oo 10 (.alloc [vn,vn,vn]) [],ou (.st 3) [.t 10,.t 34],oo 11 .mv [.t 35]] [])
 (.seq (.seq
 (.reg false [oo 36 .mv [.t 11],oo 37 (.bin .neq) [.t 36,ki 0]] [])
 (.cond (.t 37)
 (.seq (.reg false [
 oo 38 (.build [v0,(.bool false),vn,vn,vn] []) [],
 oo 39 .mv [.t 11],
 ou (.st 5) [.t 6,.t 38],
 oo 7 .mv [.t 39]] [])
 .ret)
 .skip))
 (.seq (.reg false [oo 40 .mv [.t 2],oo 41 (.build [v0,(.bool false),vn,vn,vn] [(0,1)]) [.t 40],oo 12 (.alloc [v0,(.bool false),vn,vn,vn]) [],ou (.st 5) [.t 12,.t 41]] [])
 (.seq (.seq
 (.reg false [oo 13 .mv [ki 0]] [])
 (.block 0 (.loop
 (.seq (.seq
 (.reg false [oo 42 .mv [.t 13],oo 43 .mv [.t 9],oo 44 .len [.t 43],oo 45 (.bin .lss) [.t 42,.t 44],oo 46 .mv [.t 45],og 47 .mv [.t 9] 46,og 48 .mv [.t 13] 46,og 49 (.iad 1) [.t 47,.t 48] 46,og 50 (.ld false 1) [.t 49] 46,og 51 .mv [.t 2] 46,og 52 (.bin .neq) [.t 50,.t 51] 46,oo 53 .pick [.t 46,.t 52,.c (.bool false)]] [])
 (.cond (.t 53)
 .skip
 (.exit 0)))
 (.seq (.block 1 (.seq (.reg true [oo 56 (.fad 0) [.t 10],oo 57 (.ld false 1) [.t 56],oo 58 .mv [.t 9],oo 59 .mv [.t 13],oo 60 (.iad 1) [.t 58,.t 59],oo 61 (.ld false 1) [.t 60],oo 62 .call [.f nref24_Has,.t 57,.t 61]] [[],[0],[],[],[2,3],[4],[1,5]])
 (.cond (.t 62)
 (.reg true [
 oo 63 (.fad 2) [.t 12],
 oo 64 (.ld false 1) [.t 63],
 oo 65 .mv [.t 9],
 oo 66 .mv [.t 13],
 oo 67 (.iad 1) [.t 65,.t 66],
 oo 68 (.ld false 1) [.t 67],
 oo 69 (.bsl 1 1 [v0] [0]) [.t 68],
 oo 70 (.app 1 8) [.t 64,.t 69],
 oo 71 (.fad 2) [.t 12],
 ou (.st 1) [.t 71,.t 70]] [[],[0],[],[],[2,3],[4],[5],[1,6],[0,1,2,3,4,5,6,7],[8,7,7,0,1,2,3,4,5,6,7]])
 .skip)))
 (.reg false [oo 54 .mv [.t 13],oo 55 (.bin .add) [.t 54,ki 1],oo 13 .mv [.t 55]] []))))))
 (.seq (.seq
 (.reg false [oo 72 (.fad 0) [.t 10],oo 73 (.ld false 1) [.t 72],oo 74 .mv [.t 2],oo 75 .call [.f nref24_Has,.t 73,.t 74]] [])
 (.cond (.t 75)
 (.seq (.reg false [
 oo 76 (.fad 1) [.t 12],
 ou (.st 1) [.t 76,.c (.bool true)]] [])
 (.seq (.reg true [
 oo 77 (.ld true 3) [.t 3],
 oo 78 (.ld true 3) [.t 4],
 oo 79 (.bsl 1 0 [v0] []) [],
 oo 80 (.fad 2) [.t 12],
 oo 81 (.ld false 1) [.t 80],
 oo 82 (.app 1 8) [.t 79,.t 81],
 oo 83 .mv [.t 2],
 oo 84 (.bsl 1 1 [v0] [0]) [.t 83],
 oo 85 (.app 1 8) [.t 82,.t 84],
 oo 86 .call [.f nref43_Paths,.t 77,.t 78,.t 85],
 oo 87 (.fad 3) [.t 12],
 ou (.st 1) [.t 87,.t 86]] [[],[],[],[],[3],[2,4],[],[6],[5,7,5],[0,1,8,8],[0,1,2,3,4,5,6,7,8,9],[10,9,9,0,1,2,3,4,5,6,7,8,9]])
 (.seq (.reg false [
 oo 88 (.ld true 5) [.t 12],
 ou (.st 5) [.t 6,.t 88],
 oo 7 .mv [ki 0]] [])
 .ret)))
 .skip))
 (.seq (.seq
 (.reg false [oo 14 .mv [ki 0]] [])
 (.block 2 (.loop
 (.seq (.seq
 (.reg false [oo 89 .mv [.t 14],oo 90 (.fad 2) [.t 10],oo 91 (.ld false 1) [.t 90],oo 92 .len [.t 91],oo 93 (.bin .lss) [.t 89,.t 92]] [])
 (.cond (.t 93)
 .skip
 (.exit 2)))
 (.seq (.block 3 (.seq (.reg false [oo 96 (.fad 2) [.t 10],oo 97 (.ld false 1) [.t 96],oo 98 .mv [.t 14],oo 99 (.iad 2) [.t 97,.t 98],oo 100 (.fad 0) [.t 99],oo 101 (.ld false 1) [.t 100],oo 102 .mv [.t 2],oo 103 (.bin .eql) [.t 101,.t 102]] [])
 (.cond (.t 103)
 (.reg false [
 oo 104 (.bsl 1 0 [v0] []) [],
 oo 105 (.fad 2) [.t 10],
 oo 106 (.ld false 1) [.t 105],
 oo 107 .mv [.t 14],
 oo 108 (.iad 2) [.t 106,.t 107],
 oo 109 (.fad 1) [.t 108],
 oo 110 (.ld false 1) [.t 109],
 oo 111 (.app 1 8) [.t 104,.t 110],
 oo 112 (.fad 4) [.t 12],
 ou (.st 1) [.t 112,.t 111]] [])
 .skip)))
 (.reg false [oo 94 .mv [.t 14],oo 95 (.bin .add) [.t 94,ki 1],oo 14 .mv [.t 95]] []))))))
 (.seq (.reg false [oo 113 (.ld true 5) [.t 12],ou (.st 5) [.t 6,.t 113],oo 7 .mv [ki 0]] [])
 .ret)))))))))))⟩
def cchecker_Paths : AFun:=⟨27,[(8,none)],
 (.seq (.reg false [oo 4 (.box 3) [.t 0],oo 5 (.box 3) [.t 1],oo 8 .mv [.c (.bool false)]] [])
 (.seq (.reg false [oo 9 (.ld true 3) [.t 4],oo 10 (.ld true 3) [.t 5],oo 11 .call [.f ncapacity_Check,.t 9,.t 10],oo 12 (.bin .eql) [.t 11,ki 0],oo 13 .mv [.t 12],og 14 .mv [.t 3] 13,og 15 (.fad 0) [.t 4] 13,og 16 (.ld false 1) [.t 15] 13,og 17 .call [.f nchecker_different,.t 14,.t 16] 13,oo 18 .pick [.t 13,.t 17,.c (.bool false)],oo 19 .mv [.t 18],og 20 (.ld true 3) [.t 4] 19,og 21 (.ld true 3) [.t 5] 19,og 22 .call [.f nchecker_of,.t 20,.t 21] 19,og 23 .mv [.t 2] 19,og 24 .mv [.t 3] 19,og 25 .call [.f nchecker_engine_serve,.t 22,.t 23,.t 24] 19,oo 26 .pick [.t 19,.t 25,.c (.bool false)],oo 8 .mv [.t 26]] [])
 .ret))⟩
def cref24_Join : AFun:=⟨24,[(4,none)],
 (.seq (.reg false [oo 4 .mv [kn]] [])
 (.seq (.reg false [oo 5 .mv [kn]] [])
 (.seq (.seq
 (.reg false [oo 6 .mv [ki 0]] [])
 (.block 0 (.loop
 (.seq (.seq
 (.reg false [oo 7 .mv [.t 6],oo 8 (.bin .lss) [.t 7,ki 64]] [])
 (.cond (.t 8)
 .skip
 (.exit 0)))
 (.seq (.block 1 (.seq (.reg false [oo 11 .mv [.t 0],oo 12 .mv [.t 6],oo 13 .call [.f nref24_Has,.t 11,.t 12],oo 14 .mv [.t 13],oh 15 .mv [.t 1] 14,oh 16 .mv [.t 6] 14,oh 17 .call [.f nref24_Has,.t 15,.t 16] 14,oo 18 .pick [.t 14,.c (.bool true),.t 17]] [])
 (.cond (.t 18)
 (.reg false [
 oo 19 .mv [.t 5],
 oo 20 .mv [.t 6],
 oo 21 (.bsl 1 1 [v0] [0]) [.t 20],
 oo 22 (.app 1 8) [.t 19,.t 21],
 oo 5 .mv [.t 22]] [])
 .skip)))
 (.reg false [oo 9 .mv [.t 6],oo 10 (.bin .add) [.t 9,ki 1],oo 6 .mv [.t 10]] []))))))
 (.seq (.reg false [oo 23 .mv [.t 5],oo 4 .mv [.t 23]] [])
 .ret))))⟩
def cchecker_Check : AFun:=⟨21,[(6,none)],
 (.seq (.reg false [oo 3 (.box 3) [.t 0],oo 4 (.box 3) [.t 1],oo 5 (.box 5) [.t 2],oo 6 .mv [ki 0]] [])
 (.seq (.seq
 (.reg false [oo 8 (.ld true 3) [.t 3],oo 9 (.ld true 3) [.t 4],oo 10 .call [.f ncapacity_Check,.t 8,.t 9],oo 7 .mv [.t 10]] [])
 (.seq (.reg false [oo 11 .mv [.t 7],oo 12 (.bin .neq) [.t 11,ki 0]] [])
 (.cond (.t 12)
 (.seq (.reg false [
 oo 13 .mv [.t 7],
 oo 6 .mv [.t 13]] [])
 .ret)
 .skip)))
 (.seq (.reg true [oo 14 (.ld true 3) [.t 3],oo 15 (.ld true 3) [.t 4],oo 16 .call [.f nchecker_of,.t 14,.t 15],oo 17 (.ld true 3) [.t 3],oo 18 (.ld true 3) [.t 4],oo 19 (.ld true 5) [.t 5],oo 20 .call [.f nchecker_engine_check,.t 16,.t 17,.t 18,.t 19],oo 6 .mv [.t 20]] [[],[],[0,1],[],[],[],[2,3,4,5,2],[6,6,0,1,2,3,4,5,6]])
 .ret)))⟩
def cref44_Check : AFun:=⟨91,[(6,none)],
 (.seq (.reg false [oo 3 (.box 3) [.t 0],oo 4 (.box 3) [.t 1],oo 5 (.box 5) [.t 2],oo 6 .mv [ki 0]] [])
 (.seq (.seq
 (.reg false [oo 12 (.ld true 3) [.t 3],oo 13 (.ld true 3) [.t 4],oo 14 .call [.f nref13_Check,.t 12,.t 13],oo 7 .mv [.t 14]] [])
 (.seq (.reg false [oo 15 .mv [.t 7],oo 16 (.bin .neq) [.t 15,ki 0]] [])
 (.cond (.t 16)
 (.seq (.reg false [
 oo 17 .mv [.t 7],
 oo 6 .mv [.t 17]] [])
 .ret)
 .skip)))
 (.seq (.reg false [oo 18 (.ld true 3) [.t 3],oo 19 (.ld true 3) [.t 4],oo 20 .call [.f nref44_reached,.t 18,.t 19],oo 8 .mv [.t 20]] [])
 (.seq (.seq
 (.reg false [oo 21 .mv [.t 8],oo 22 (.fad 0) [.t 5],oo 23 (.ld false 1) [.t 22],oo 24 .call [.f nref24_Has,.t 21,.t 23],oo 25 (.un .not) [.t 24]] [])
 (.cond (.t 25)
 (.seq (.reg false [
 oo 6 .mv [ki 11]] [])
 .ret)
 .skip))
 (.seq (.seq
 (.reg false [oo 26 .mv [.t 8],oo 27 (.fad 2) [.t 5],oo 28 (.ld false 1) [.t 27],oo 29 (.fad 0) [.t 5],oo 30 (.ld false 1) [.t 29],oo 31 .call [.f nref44_ahead,.t 26,.t 28,.t 30],oo 32 (.un .not) [.t 31],oo 33 .mv [.t 32],oh 34 (.fad 1) [.t 5] 33,oh 35 (.ld false 1) [.t 34] 33,oh 36 .mv [.t 35] 33,og 37 (.fad 4) [.t 5] 36,og 38 (.ld false 1) [.t 37] 36,og 39 .len [.t 38] 36,og 40 (.bin .gtr) [.t 39,ki 0] 36,oh 41 .pick [.t 36,.t 40,.c (.bool false)] 33,oo 42 .pick [.t 33,.c (.bool true),.t 41],oo 43 .mv [.t 42],oh 44 (.fad 1) [.t 5] 43,oh 45 (.ld false 1) [.t 44] 43,oh 46 (.un .not) [.t 45] 43,oh 47 .mv [.t 46] 43,og 48 (.fad 3) [.t 5] 47,og 49 (.ld false 1) [.t 48] 47,og 50 .len [.t 49] 47,og 51 (.bin .gtr) [.t 50,ki 0] 47,oh 52 .pick [.t 47,.t 51,.c (.bool false)] 43,oo 53 .pick [.t 43,.c (.bool true),.t 52]] [])
 (.cond (.t 53)
 (.seq (.reg false [
 oo 6 .mv [ki 1]] [])
 .ret)
 .skip))
 (.seq (.reg true [oo 54 (.bsl 1 0 [v0] []) [],oo 55 (.fad 2) [.t 5],oo 56 (.ld false 1) [.t 55],oo 57 (.app 1 8) [.t 54,.t 56],oo 58 (.fad 0) [.t 5],oo 59 (.ld false 1) [.t 58],oo 60 (.bsl 1 1 [v0] [0]) [.t 59],oo 61 (.app 1 8) [.t 57,.t 60],oo 9 .mv [.t 61]] [[],[],[1],[0,2],[],[4],[5],[3,6,3],[7,7,0,1,2,3,4,5,6,7]])
 (.seq (.seq
 (.reg false [oo 62 (.fad 1) [.t 5],oo 63 (.ld false 1) [.t 62]] [])
 (.cond (.t 63)
 (.seq (.seq
 (.reg false [
 oo 64 (.ld true 3) [.t 3],
 oo 65 (.ld true 3) [.t 4],
 oo 66 (.fad 3) [.t 5],
 oo 67 (.ld false 1) [.t 66],
 oo 68 .mv [.t 9],
 oo 69 .call [.f nref44_Paths,.t 64,.t 65,.t 67,.t 68],
 oo 70 (.un .not) [.t 69]] [])
 (.cond (.t 70)
 (.seq (.reg false [
 oo 6 .mv [ki 52]] [])
 .ret)
 .skip))
 (.seq (.reg false [
 oo 6 .mv [ki 0]] [])
 .ret))
 .skip))
 (.seq (.reg true [oo 72 (.ld true 3) [.t 3],oo 73 (.ld true 3) [.t 4],oo 74 .mv [.t 9],oo 75 .call [.f nref24_Join,.t 74,kn],oo 76 .call [.f nref14_Network,.t 72,.t 73,.t 75],oo 71 .mv [.t 76],oo 77 (.ext 0) [.t 71],oo 78 (.ext 1) [.t 71],oo 10 (.alloc [v0,vn]) [],ou (.st 2) [.t 10,.t 77],oo 11 .mv [.t 78]] [[],[],[],[2],[0,1,3,3],[4],[5],[5],[],[8,6,4,0,1,2,3,4,5,6,8],[7,9,0,1,2,3,4,5,6,7,8,9]])
 (.seq (.seq
 (.reg false [oo 79 .mv [.t 11],oo 80 (.bin .neq) [.t 79,ki 0],oo 81 .mv [.t 80],oh 82 (.ld true 2) [.t 10] 81,oh 83 (.fad 4) [.t 5] 81,oh 84 (.ld false 1) [.t 83] 81,oh 85 (.fad 2) [.t 5] 81,oh 86 (.ld false 1) [.t 85] 81,oh 87 .len [.t 86] 81,oh 88 .call [.f nref16_Proves,.t 82,.t 84,.t 87] 81,oh 89 (.un .not) [.t 88] 81,oo 90 .pick [.t 81,.c (.bool true),.t 89]] [])
 (.cond (.t 90)
 (.seq (.reg false [
 oo 6 .mv [ki 52]] [])
 .ret)
 .skip))
 (.seq (.reg false [oo 6 .mv [ki 0]] [])
 .ret))))))))))⟩
def cref44_Paths : AFun:=⟨144,[(8,none)],
 (.seq (.reg false [oo 4 (.box 3) [.t 0],oo 5 (.box 3) [.t 1],oo 8 .mv [.c (.bool false)]] [])
 (.seq (.seq
 (.reg false [oo 20 (.ld true 3) [.t 4],oo 21 (.ld true 3) [.t 5],oo 22 .call [.f nref13_Check,.t 20,.t 21],oo 23 (.bin .neq) [.t 22,ki 0],oo 24 .mv [.t 23],oh 25 .mv [.t 2] 24,oh 26 .len [.t 25] 24,oh 27 .mv [.t 3] 24,oh 28 .len [.t 27] 24,oh 29 (.bin .neq) [.t 26,.t 28] 24,oo 30 .pick [.t 24,.c (.bool true),.t 29]] [])
 (.cond (.t 30)
 (.seq (.reg false [
 oo 8 .mv [.c (.bool false)]] [])
 .ret)
 .skip))
 (.seq (.reg false [oo 31 (.ld true 3) [.t 4],oo 32 (.ld true 3) [.t 5],oo 33 .call [.f nref44_reached,.t 31,.t 32],oo 9 .mv [.t 33]] [])
 (.seq (.reg false [oo 34 (.ld true 3) [.t 4],oo 35 (.ld true 3) [.t 5],oo 36 .call [.f nref13_All,.t 34,.t 35],oo 10 .mv [.t 36]] [])
 (.seq (.reg false [oo 37 (.mks 1 8 [v0]) [ki 64,ki 64],oo 11 .mv [.t 37]] [])
 (.seq (.reg false [oo 38 (.mks 1 8 [v0]) [ki 64,ki 64],oo 12 .mv [.t 38]] [])
 (.seq (.reg false [oo 13 .mv [kn]] [])
 (.seq (.seq
 (.reg false [oo 14 .mv [ki 0]] [])
 (.block 0 (.loop
 (.seq (.seq
 (.reg false [oo 39 .mv [.t 14],oo 40 .mv [.t 3],oo 41 .len [.t 40],oo 42 (.bin .lss) [.t 39,.t 41]] [])
 (.cond (.t 42)
 .skip
 (.exit 0)))
 (.seq (.block 1 (.seq (.reg true [oo 45 .mv [.t 3],oo 46 .mv [.t 14],oo 47 (.slc 1 false true false) [.t 45,.t 46],oo 48 .mv [.t 3],oo 49 .mv [.t 14],oo 50 (.iad 1) [.t 48,.t 49],oo 51 (.ld false 1) [.t 50],oo 52 .call [.f nref24_Has,.t 47,.t 51]] [[],[],[0,1],[],[],[3,4],[5],[2,6]])
 (.cond (.t 52)
 (.seq (.reg false [
 oo 8 .mv [.c (.bool false)]] [])
 .ret)
 .skip)))
 (.reg false [oo 43 .mv [.t 14],oo 44 (.bin .add) [.t 43,ki 1],oo 14 .mv [.t 44]] []))))))
 (.seq (.seq
 (.reg false [oo 15 .mv [ki 0]] [])
 (.block 2 (.loop
 (.seq (.seq
 (.reg false [oo 53 .mv [.t 15],oo 54 .mv [.t 2],oo 55 .len [.t 54],oo 56 (.bin .lss) [.t 53,.t 55]] [])
 (.cond (.t 56)
 .skip
 (.exit 2)))
 (.seq (.block 3 (.seq (.reg false [oo 59 .mv [.t 2],oo 60 .mv [.t 15],oo 61 (.iad 1) [.t 59,.t 60],oo 62 (.ld false 1) [.t 61],oo 16 .mv [.t 62]] [])
 (.seq (.seq
 (.reg false [oo 63 (.ld true 3) [.t 4],oo 64 (.ld true 3) [.t 5],oo 65 .mv [.t 9],oo 66 .mv [.t 16],oo 67 .call [.f nref44_path,.t 63,.t 64,.t 65,.t 66],oo 68 (.un .not) [.t 67]] [])
 (.cond (.t 68)
 (.seq (.reg false [
 oo 8 .mv [.c (.bool false)]] [])
 .ret)
 .skip))
 (.seq (.reg false [oo 69 .mv [.t 16],oo 70 .mv [.t 16],oo 71 .len [.t 70],oo 72 (.bin .sub) [.t 71,ki 1],oo 73 (.iad 1) [.t 69,.t 72],oo 74 (.ld false 1) [.t 73],oo 17 .mv [.t 74]] [])
 (.seq (.seq
 (.reg false [oo 75 .mv [.t 3],oo 76 .mv [.t 17],oo 77 .call [.f nref24_Has,.t 75,.t 76],oo 78 (.un .not) [.t 77],oo 79 .mv [.t 78],oh 80 .mv [.t 13] 79,oh 81 .mv [.t 17] 79,oh 82 .call [.f nref24_Has,.t 80,.t 81] 79,oo 83 .pick [.t 79,.c (.bool true),.t 82]] [])
 (.cond (.t 83)
 (.seq (.reg false [
 oo 8 .mv [.c (.bool false)]] [])
 .ret)
 .skip))
 (.seq (.reg false [oo 84 .mv [.t 13],oo 85 .mv [.t 17],oo 86 (.bsl 1 1 [v0] [0]) [.t 85],oo 87 (.app 1 8) [.t 84,.t 86],oo 13 .mv [.t 87]] [])
 (.seq (.reg false [oo 88 .mv [.t 11],oo 89 .mv [.t 16],oo 90 (.iad 1) [.t 89,ki 0],oo 91 (.ld false 1) [.t 90],oo 92 (.iad 1) [.t 88,.t 91],oo 93 (.ld false 1) [.t 92],oo 94 (.bin .add) [.t 93,ki 1],oo 95 (.iad 1) [.t 88,.t 91],ou (.st 1) [.t 95,.t 94]] [])
 (.seq (.reg false [oo 18 .mv [ki 0]] [])
 (.block 4 (.loop
 (.seq (.seq
 (.reg false [oo 96 .mv [.t 18],oo 97 .mv [.t 16],oo 98 .len [.t 97],oo 99 (.bin .sub) [.t 98,ki 1],oo 100 (.bin .lss) [.t 96,.t 99]] [])
 (.cond (.t 100)
 .skip
 (.exit 4)))
 (.seq (.block 5 (.reg false [oo 103 .mv [.t 12],oo 104 .mv [.t 16],oo 105 .mv [.t 18],oo 106 (.iad 1) [.t 104,.t 105],oo 107 (.ld false 1) [.t 106],oo 108 (.iad 1) [.t 103,.t 107],oo 109 (.ld false 1) [.t 108],oo 110 (.bin .add) [.t 109,ki 1],oo 111 (.iad 1) [.t 103,.t 107],ou (.st 1) [.t 111,.t 110]] []))
 (.reg false [oo 101 .mv [.t 18],oo 102 (.bin .add) [.t 101,ki 1],oo 18 .mv [.t 102]] [])))))))))))))
 (.reg false [oo 57 .mv [.t 15],oo 58 (.bin .add) [.t 57,ki 1],oo 15 .mv [.t 58]] []))))))
 (.seq (.seq
 (.reg false [oo 19 .mv [ki 0]] [])
 (.block 6 (.loop
 (.seq (.seq
 (.reg false [oo 112 .mv [.t 19],oo 113 .mv [.t 10],oo 114 .len [.t 113],oo 115 (.bin .lss) [.t 112,.t 114],oo 116 .mv [.t 115],og 117 .mv [.t 19] 116,og 118 (.bin .lss) [.t 117,ki 64] 116,oo 119 .pick [.t 116,.t 118,.c (.bool false)]] [])
 (.cond (.t 119)
 .skip
 (.exit 6)))
 (.seq (.block 7 (.seq (.reg true [oo 122 .mv [.t 11],oo 123 .mv [.t 19],oo 124 (.iad 1) [.t 122,.t 123],oo 125 (.ld false 1) [.t 124],oo 126 .mv [.t 10],oo 127 .mv [.t 19],oo 128 (.iad 1) [.t 126,.t 127],oo 129 (.ld false 1) [.t 128],oo 130 (.bin .gtr) [.t 125,.t 129],oo 131 .mv [.t 130],oh 132 .mv [.t 12] 131,oh 133 .mv [.t 19] 131,oh 134 (.iad 1) [.t 132,.t 133] 131,oh 135 (.ld false 1) [.t 134] 131,oh 136 .mv [.t 10] 131,oh 137 .mv [.t 19] 131,oh 138 (.iad 1) [.t 136,.t 137] 131,oh 139 (.ld false 1) [.t 138] 131,oh 140 (.bin .sub) [.t 139,ki 1] 131,oh 141 .mx2 [ki 0,.t 140] 131,oh 142 (.bin .gtr) [.t 135,.t 141] 131,oo 143 .pick [.t 131,.c (.bool true),.t 142]] [[],[],[0,1],[2],[],[],[4,5],[6],[3,7],[8],[9],[9],[10,11,9],[12,9],[9],[9],[14,15,9],[16,9],[17,9],[18,9],[13,19,9],[9,20]])
 (.cond (.t 143)
 (.seq (.reg false [
 oo 8 .mv [.c (.bool false)]] [])
 .ret)
 .skip)))
 (.reg false [oo 120 .mv [.t 19],oo 121 (.bin .add) [.t 120,ki 1],oo 19 .mv [.t 121]] []))))))
 (.seq (.reg false [oo 8 .mv [.c (.bool true)]] [])
 .ret)))))))))))⟩
def cref43_Paths : AFun:=⟨55,[(6,none)],
 (.seq (.reg false [oo 3 (.box 3) [.t 0],oo 4 (.box 3) [.t 1],oo 6 .mv [kn]] [])
 (.seq (.reg true [oo 16 (.ld true 3) [.t 3],oo 17 (.ld true 3) [.t 4],oo 18 .mv [.t 2],oo 19 .call [.f nref24_Join,.t 18,kn],oo 20 .call [.f nref14_Network,.t 16,.t 17,.t 19],oo 15 .mv [.t 20],oo 21 (.ext 0) [.t 15],oo 22 (.ext 1) [.t 15],oo 7 (.alloc [v0,vn]) [],ou (.st 2) [.t 7,.t 21],oo 8 .mv [.t 22]] [[],[],[],[2],[0,1,3,3],[4],[5],[5],[],[8,6,4,0,1,2,3,4,5,6,8],[7,9,0,1,2,3,4,5,6,7,8,9]])
 (.seq (.seq
 (.reg false [oo 23 .mv [.t 8],oo 24 (.bin .neq) [.t 23,ki 0]] [])
 (.cond (.t 24)
 (.seq (.reg false [
 oo 6 .mv [kn]] [])
 .ret)
 .skip))
 (.seq (.reg false [oo 26 (.ld true 2) [.t 7],oo 27 .call [.f nref15_Max,.t 26],oo 25 .mv [.t 27],oo 28 (.ext 0) [.t 25],oo 29 (.ext 1) [.t 25],oo 9 .mv [.t 28],oo 8 .mv [.t 29]] [])
 (.seq (.seq
 (.reg false [oo 30 .mv [.t 8],oo 31 (.bin .neq) [.t 30,ki 0]] [])
 (.cond (.t 31)
 (.seq (.reg false [
 oo 6 .mv [kn]] [])
 .ret)
 .skip))
 (.seq (.reg false [oo 32 (.bsl 1 0 [v0] []) [],oo 33 .mv [.t 9],oo 34 (.app 1 8) [.t 32,.t 33],oo 10 .mv [.t 34]] [])
 (.seq (.reg false [oo 11 .mv [kn]] [])
 (.block 0 (.loop
 (.block 1 (.seq (.reg false [oo 35 (.ld true 2) [.t 7],oo 36 .mv [.t 10],oo 37 .call [.f nref43_walk,.t 35,.t 36],oo 12 .mv [.t 37]] [])
 (.seq (.seq
 (.reg false [oo 38 .mv [.t 12],oo 39 .len [.t 38],oo 40 (.bin .eql) [.t 39,ki 0]] [])
 (.cond (.t 40)
 (.seq (.reg false [
 oo 41 .mv [.t 11],
 oo 6 .mv [.t 41]] [])
 .ret)
 .skip))
 (.seq (.reg false [oo 43 (.fad 0) [.t 3],oo 44 (.ld false 1) [.t 43],oo 45 (.fad 1) [.t 7],oo 46 (.ld false 1) [.t 45],oo 47 .mv [.t 12],oo 48 .call [.f nref43_Keys,.t 44,.t 46,.t 47],oo 42 .mv [.t 48],oo 49 (.ext 0) [.t 42],oo 50 (.ext 1) [.t 42],oo 13 .mv [.t 49],oo 14 .mv [.t 50]] [])
 (.reg false [oo 51 .mv [.t 11],oo 52 .mv [.t 13],oo 53 (.bsl 1 1 [vn] [0]) [.t 52],oo 54 (.app 1 24) [.t 51,.t 53],oo 11 .mv [.t 54]] []))))))))))))))⟩
def cref24_Has : AFun:=⟨18,[(4,none)],
 (.seq (.reg false [oo 4 .mv [.c (.bool false)]] [])
 (.seq (.seq
 (.reg false [oo 5 .mv [ki 0]] [])
 (.block 0 (.loop
 (.seq (.seq
 (.reg false [oo 6 .mv [.t 5],oo 7 .mv [.t 0],oo 8 .len [.t 7],oo 9 (.bin .lss) [.t 6,.t 8]] [])
 (.cond (.t 9)
 .skip
 (.exit 0)))
 (.seq (.block 1 (.seq (.reg false [oo 12 .mv [.t 0],oo 13 .mv [.t 5],oo 14 (.iad 1) [.t 12,.t 13],oo 15 (.ld false 1) [.t 14],oo 16 .mv [.t 1],oo 17 (.bin .eql) [.t 15,.t 16]] [])
 (.cond (.t 17)
 (.seq (.reg false [
 oo 4 .mv [.c (.bool true)]] [])
 .ret)
 .skip)))
 (.reg false [oo 10 .mv [.t 5],oo 11 (.bin .add) [.t 10,ki 1],oo 5 .mv [.t 11]] []))))))
 (.seq (.reg false [oo 4 .mv [.c (.bool false)]] [])
 .ret)))⟩
def cref13_Check : AFun:=⟨12,[(4,none)],
 (.seq (.reg false [oo 2 (.box 3) [.t 0],oo 3 (.box 3) [.t 1],oo 4 .mv [ki 0]] [])
 (.seq (.seq
 (.reg false [oo 5 (.ld true 3) [.t 2],oo 6 .call [.f nref11_Check,.t 5],oo 7 (.bin .neq) [.t 6,ki 0]] [])
 (.cond (.t 7)
 (.seq (.reg false [
 oo 4 .mv [ki 14]] [])
 .ret)
 .skip))
 (.seq (.seq
 (.reg false [oo 8 (.ld true 3) [.t 2],oo 9 (.ld true 3) [.t 3],oo 10 .call [.f nref13_policy,.t 8,.t 9],oo 11 (.un .not) [.t 10]] [])
 (.cond (.t 11)
 (.seq (.reg false [
 oo 4 .mv [ki 15]] [])
 .ret)
 .skip))
 (.seq (.reg false [oo 4 .mv [ki 0]] [])
 .ret))))⟩
def cref43_All : AFun:=⟨45,[(4,none),(5,none)],
 (.seq (.reg false [oo 2 (.box 3) [.t 0],oo 3 (.box 3) [.t 1],oo 4 .mv [kn],oo 5 .mv [ki 0]] [])
 (.seq (.seq
 (.reg false [oo 12 (.ld true 3) [.t 2],oo 13 (.ld true 3) [.t 3],oo 14 .call [.f nref13_Check,.t 12,.t 13],oo 6 .mv [.t 14]] [])
 (.seq (.reg false [oo 15 .mv [.t 6],oo 16 (.bin .neq) [.t 15,ki 0]] [])
 (.cond (.t 16)
 (.seq (.reg false [
 oo 17 .mv [.t 6],
 oo 4 .mv [kn],
 oo 5 .mv [.t 17]] [])
 .ret)
 .skip)))
 (.seq (.reg false [oo 18 (.ld true 3) [.t 2],oo 19 (.ld true 3) [.t 3],oo 20 .call [.f nref43_Reached,.t 18,.t 19],oo 7 .mv [.t 20]] [])
 (.seq (.reg false [oo 8 .mv [kn]] [])
 (.seq (.seq
 (.reg false [oo 9 .mv [ki 0]] [])
 (.block 0 (.loop
 (.seq (.seq
 (.reg false [oo 21 .mv [.t 9],oo 22 .mv [.t 7],oo 23 .len [.t 22],oo 24 (.bin .lss) [.t 21,.t 23]] [])
 (.cond (.t 24)
 .skip
 (.exit 0)))
 (.seq (.block 1 (.seq (.reg true [oo 28 (.ld true 3) [.t 2],oo 29 (.ld true 3) [.t 3],oo 30 .mv [.t 7],oo 31 .mv [.t 9],oo 32 (.iad 1) [.t 30,.t 31],oo 33 (.ld false 1) [.t 32],oo 34 .call [.f nref43_For,.t 28,.t 29,.t 33],oo 27 .mv [.t 34],oo 35 (.ext 0) [.t 27],oo 36 (.ext 1) [.t 27],oo 10 (.alloc [v0,(.bool false),vn,vn,vn]) [],ou (.st 5) [.t 10,.t 35],oo 11 .mv [.t 36]] [[],[],[],[],[2,3],[4],[0,1,5],[6],[7],[7],[],[10,8,6,0,1,2,3,4,5,6,7,8,10],[9,11,0,1,2,3,4,5,6,7,8,9,10,11]])
 (.seq (.seq
 (.reg false [oo 37 .mv [.t 11],oo 38 (.bin .neq) [.t 37,ki 0]] [])
 (.cond (.t 38)
 (.seq (.reg false [
 oo 39 .mv [.t 11],
 oo 4 .mv [kn],
 oo 5 .mv [.t 39]] [])
 .ret)
 .skip))
 (.reg false [oo 40 .mv [.t 8],oo 41 (.ld true 5) [.t 10],oo 42 (.bsl 5 1 [v0,(.bool false),vn,vn,vn] [0]) [.t 41],oo 43 (.app 5 88) [.t 40,.t 42],oo 8 .mv [.t 43]] []))))
 (.reg false [oo 25 .mv [.t 9],oo 26 (.bin .add) [.t 25,ki 1],oo 9 .mv [.t 26]] []))))))
 (.seq (.reg false [oo 44 .mv [.t 8],oo 4 .mv [.t 44],oo 5 .mv [ki 0]] [])
 .ret))))))⟩
def claw44_bend : AFun:=⟨201,[(6,some (true,5))],
 (.seq (.reg false [oo 4 (.box 5) [.t 1],oo 6 (.alloc [v0,(.bool false),vn,vn,vn]) []] [])
 (.seq (.reg false [oo 11 (.bsl 1 0 [v0] []) [],oo 12 (.fad 2) [.t 4],oo 13 (.ld false 1) [.t 12],oo 14 (.app 1 8) [.t 11,.t 13],oo 15 (.fad 2) [.t 4],ou (.st 1) [.t 15,.t 14]] [])
 (.seq (.reg false [oo 16 (.bsl 1 0 [v0] []) [],oo 17 (.fad 4) [.t 4],oo 18 (.ld false 1) [.t 17],oo 19 (.app 1 8) [.t 16,.t 18],oo 20 (.fad 4) [.t 4],ou (.st 1) [.t 20,.t 19]] [])
 (.seq (.reg false [oo 7 .mv [kn]] [])
 (.seq (.seq
 (.reg false [oo 8 .mv [ki 0]] [])
 (.block 0 (.loop
 (.seq (.seq
 (.reg false [oo 21 .mv [.t 8],oo 22 (.fad 3) [.t 4],oo 23 (.ld false 1) [.t 22],oo 24 .len [.t 23],oo 25 (.bin .lss) [.t 21,.t 24]] [])
 (.cond (.t 25)
 .skip
 (.exit 0)))
 (.seq (.block 1 (.reg false [oo 28 .mv [.t 7],oo 29 (.bsl 1 0 [v0] []) [],oo 30 (.fad 3) [.t 4],oo 31 (.ld false 1) [.t 30],oo 32 .mv [.t 8],oo 33 (.iad 1) [.t 31,.t 32],oo 34 (.ld false 1) [.t 33],oo 35 (.app 1 8) [.t 29,.t 34],oo 36 (.bsl 1 1 [vn] [0]) [.t 35],oo 37 (.app 1 24) [.t 28,.t 36],oo 7 .mv [.t 37]] []))
 (.reg false [oo 26 .mv [.t 8],oo 27 (.bin .add) [.t 26,ki 1],oo 8 .mv [.t 27]] []))))))
 (.seq (.reg false [oo 38 .mv [.t 7],oo 39 (.fad 3) [.t 4],ou (.st 1) [.t 39,.t 38]] [])
 (.seq (.seq
 (.reg false [oo 40 .mv [.t 0],oo 41 .call [.f nmade_Dice_Next,.t 40,ki 12]] [])
 (.block 2 (.seq (.reg false [oo 43 (.bin .eql) [.t 41,ki 0],oo 42 .mv [.t 43]] [])
 (.cond (.t 42)
 (.reg false [
 oo 44 .mv [.t 0],
 oo 45 .mv [.t 2],
 oo 46 (.bin .add) [.t 45,ki 1],
 oo 47 .call [.f nmade_Dice_Next,.t 44,.t 46],
 oo 48 (.fad 0) [.t 4],
 ou (.st 1) [.t 48,.t 47]] [])
 (.seq (.reg false [
 oo 50 (.bin .eql) [.t 41,ki 1],
 oo 49 .mv [.t 50]] [])
 (.cond (.t 49)
 (.reg false [
 oo 51 (.fad 1) [.t 4],
 oo 52 (.ld false 1) [.t 51],
 oo 53 (.un .not) [.t 52],
 oo 54 (.fad 1) [.t 4],
 ou (.st 1) [.t 54,.t 53]] [])
 (.seq (.reg false [
 oo 56 (.bin .eql) [.t 41,ki 2],
 oo 55 .mv [.t 56]] [])
 (.cond (.t 55)
 (.seq (.reg false [
 oo 57 (.fad 2) [.t 4],
 oo 58 (.ld false 1) [.t 57],
 oo 59 .len [.t 58],
 oo 60 (.bin .gtr) [.t 59,ki 0]] [])
 (.cond (.t 60)
 (.reg false [
 oo 61 (.fad 2) [.t 4],
 oo 62 (.ld false 1) [.t 61],
 oo 63 (.slc 1 true false false) [.t 62,ki 1],
 oo 64 (.fad 2) [.t 4],
 ou (.st 1) [.t 64,.t 63]] [])
 .skip))
 (.seq (.reg false [
 oo 66 (.bin .eql) [.t 41,ki 3],
 oo 65 .mv [.t 66]] [])
 (.cond (.t 65)
 (.reg true [
 oo 67 (.fad 2) [.t 4],
 oo 68 (.ld false 1) [.t 67],
 oo 69 .mv [.t 0],
 oo 70 .mv [.t 2],
 oo 71 .call [.f nmade_Dice_Next,.t 69,.t 70],
 oo 72 (.bsl 1 1 [v0] [0]) [.t 71],
 oo 73 (.app 1 8) [.t 68,.t 72],
 oo 74 (.fad 2) [.t 4],
 ou (.st 1) [.t 74,.t 73]] [[],[0],[],[],[2,3],[4],[1,5,4],[0,1,2,3,4,5,6],[7,6,6,0,1,2,3,4,5,6]])
 (.seq (.reg false [
 oo 76 (.bin .eql) [.t 41,ki 4],
 oo 75 .mv [.t 76]] [])
 (.cond (.t 75)
 (.seq (.reg false [
 oo 77 (.fad 3) [.t 4],
 oo 78 (.ld false 1) [.t 77],
 oo 79 .len [.t 78],
 oo 80 (.bin .gtr) [.t 79,ki 0]] [])
 (.cond (.t 80)
 (.reg false [
 oo 81 (.fad 3) [.t 4],
 oo 82 (.ld false 1) [.t 81],
 oo 83 (.slc 1 true false false) [.t 82,ki 1],
 oo 84 (.fad 3) [.t 4],
 ou (.st 1) [.t 84,.t 83]] [])
 .skip))
 (.seq (.reg false [
 oo 86 (.bin .eql) [.t 41,ki 5],
 oo 85 .mv [.t 86]] [])
 (.cond (.t 85)
 (.seq (.reg false [
 oo 87 (.fad 3) [.t 4],
 oo 88 (.ld false 1) [.t 87],
 oo 89 .len [.t 88],
 oo 90 (.bin .gtr) [.t 89,ki 0]] [])
 (.cond (.t 90)
 (.seq (.reg false [
 oo 91 .mv [.t 0],
 oo 92 (.fad 3) [.t 4],
 oo 93 (.ld false 1) [.t 92],
 oo 94 .len [.t 93],
 oo 95 .call [.f nmade_Dice_Next,.t 91,.t 94],
 oo 9 .mv [.t 95]] [])
 (.reg true [
 oo 96 (.fad 3) [.t 4],
 oo 97 (.ld false 1) [.t 96],
 oo 98 .mv [.t 9],
 oo 99 (.fad 3) [.t 4],
 oo 100 (.ld false 1) [.t 99],
 oo 101 .mv [.t 9],
 oo 102 (.iad 1) [.t 100,.t 101],
 oo 103 (.ld false 1) [.t 102],
 oo 104 .mv [.t 0],
 oo 105 .mv [.t 2],
 oo 106 .call [.f nmade_Dice_Next,.t 104,.t 105],
 oo 107 (.bsl 1 1 [v0] [0]) [.t 106],
 oo 108 (.app 1 8) [.t 103,.t 107],
 oo 109 (.iad 1) [.t 97,.t 98],
 ou (.st 1) [.t 109,.t 108]] [[],[0],[],[],[3],[],[4,5],[6],[],[],[8,9],[10],[7,11,10],[1,2,0,1,2,3,4,5,6,7,8,9,10,11,12],[13,12,12,0,1,2,3,4,5,6,7,8,9,10,11,12]]))
 .skip))
 (.seq (.reg false [
 oo 111 (.bin .eql) [.t 41,ki 6],
 oo 110 .mv [.t 111]] [])
 (.cond (.t 110)
 (.seq (.reg false [
 oo 112 (.fad 3) [.t 4],
 oo 113 (.ld false 1) [.t 112],
 oo 114 .len [.t 113],
 oo 115 (.bin .gtr) [.t 114,ki 0],
 oo 116 .mv [.t 115],
 og 117 (.fad 3) [.t 4] 116,
 og 118 (.ld false 1) [.t 117] 116,
 og 119 (.iad 1) [.t 118,ki 0] 116,
 og 120 (.ld false 1) [.t 119] 116,
 og 121 .len [.t 120] 116,
 og 122 (.bin .gtr) [.t 121,ki 0] 116,
 oo 123 .pick [.t 116,.t 122,.c (.bool false)]] [])
 (.cond (.t 123)
 (.reg true [
 oo 124 (.fad 3) [.t 4],
 oo 125 (.ld false 1) [.t 124],
 oo 126 (.iad 1) [.t 125,ki 0],
 oo 127 (.ld false 1) [.t 126],
 oo 128 .mv [.t 0],
 oo 129 (.fad 3) [.t 4],
 oo 130 (.ld false 1) [.t 129],
 oo 131 (.iad 1) [.t 130,ki 0],
 oo 132 (.ld false 1) [.t 131],
 oo 133 .len [.t 132],
 oo 134 .call [.f nmade_Dice_Next,.t 128,.t 133],
 oo 135 .mv [.t 0],
 oo 136 .mv [.t 2],
 oo 137 .call [.f nmade_Dice_Next,.t 135,.t 136],
 oo 138 (.iad 1) [.t 127,.t 134],
 ou (.st 1) [.t 138,.t 137]] [[],[0],[1],[2],[],[],[5],[6],[7],[8],[4,9],[],[],[11,12,10],[3,10,0,1,2,3,4,5,6,7,8,9,10,11,12,13],[14,13,13,0,1,2,3,4,5,6,7,8,9,10,11,12,13]])
 .skip))
 (.seq (.reg false [
 oo 140 (.bin .eql) [.t 41,ki 7],
 oo 139 .mv [.t 140]] [])
 (.cond (.t 139)
 (.seq (.reg false [
 oo 141 (.fad 4) [.t 4],
 oo 142 (.ld false 1) [.t 141],
 oo 143 .len [.t 142],
 oo 144 (.bin .gtr) [.t 143,ki 1]] [])
 (.cond (.t 144)
 (.seq (.reg false [
 oo 145 .mv [.t 0],
 oo 146 (.fad 4) [.t 4],
 oo 147 (.ld false 1) [.t 146],
 oo 148 .len [.t 147],
 oo 149 (.bin .sub) [.t 148,ki 1],
 oo 150 .call [.f nmade_Dice_Next,.t 145,.t 149],
 oo 151 (.bin .add) [ki 1,.t 150],
 oo 10 .mv [.t 151]] [])
 (.reg true [
 oo 152 (.fad 4) [.t 4],
 oo 153 (.ld false 1) [.t 152],
 oo 154 .mv [.t 10],
 oo 155 (.slc 1 false true false) [.t 153,.t 154],
 oo 156 (.fad 4) [.t 4],
 oo 157 (.ld false 1) [.t 156],
 oo 158 .mv [.t 10],
 oo 159 (.bin .add) [.t 158,ki 1],
 oo 160 (.slc 1 true false false) [.t 157,.t 159],
 oo 161 (.app 1 8) [.t 155,.t 160],
 oo 162 (.fad 4) [.t 4],
 ou (.st 1) [.t 162,.t 161]] [[],[0],[],[1,2],[],[4],[],[6],[5,7],[3,8],[0,1,2,3,4,5,6,7,8,9],[10,9,9,0,1,2,3,4,5,6,7,8,9]]))
 .skip))
 (.seq (.reg false [
 oo 164 (.bin .eql) [.t 41,ki 8],
 oo 163 .mv [.t 164]] [])
 (.cond (.t 163)
 (.reg false [
 oo 165 (.fad 4) [.t 4],
 oo 166 (.ld false 1) [.t 165],
 oo 167 .mv [.t 2],
 oo 168 (.bin .mul) [ki 2,.t 167],
 oo 169 (.bin .add) [ki 2,.t 168],
 oo 170 (.bsl 1 1 [v0] [0]) [.t 169],
 oo 171 (.app 1 8) [.t 166,.t 170],
 oo 172 (.fad 4) [.t 4],
 ou (.st 1) [.t 172,.t 171]] [])
 (.seq (.reg false [
 oo 174 (.bin .eql) [.t 41,ki 9],
 oo 173 .mv [.t 174]] [])
 (.cond (.t 173)
 (.seq (.reg false [
 oo 175 (.fad 3) [.t 4],
 oo 176 (.ld false 1) [.t 175],
 oo 177 .len [.t 176],
 oo 178 (.bin .gtr) [.t 177,ki 0]] [])
 (.cond (.t 178)
 (.reg true [
 oo 179 (.fad 3) [.t 4],
 oo 180 (.ld false 1) [.t 179],
 oo 181 (.fad 3) [.t 4],
 oo 182 (.ld false 1) [.t 181],
 oo 183 (.iad 1) [.t 182,ki 0],
 oo 184 (.ld false 1) [.t 183],
 oo 185 (.bsl 1 1 [vn] [0]) [.t 184],
 oo 186 (.app 1 24) [.t 180,.t 185],
 oo 187 (.fad 3) [.t 4],
 ou (.st 1) [.t 187,.t 186]] [[],[0],[],[2],[3],[4],[5],[1,6],[0,1,2,3,4,5,6,7],[8,7,7,0,1,2,3,4,5,6,7]])
 .skip))
 (.seq (.reg false [
 oo 189 (.bin .eql) [.t 41,ki 10],
 oo 188 .mv [.t 189]] [])
 (.cond (.t 188)
 (.reg true [
 oo 190 (.fad 4) [.t 4],
 oo 191 (.ld false 1) [.t 190],
 oo 192 .mv [.t 0],
 oo 193 .mv [.t 2],
 oo 194 (.bin .mul) [ki 2,.t 193],
 oo 195 .call [.f nmade_Dice_Next,.t 192,.t 194],
 oo 196 (.bin .add) [ki 2,.t 195],
 oo 197 (.bsl 1 2 [v0] [0,1]) [ki 0,.t 196],
 oo 198 .call [.f nref24_Join,.t 191,.t 197],
 oo 199 (.fad 4) [.t 4],
 ou (.st 1) [.t 199,.t 198]] [[],[0],[],[],[3],[2,4],[5],[6],[1,7,5],[0,1,2,3,4,5,6,7,8],[9,8,8,0,1,2,3,4,5,6,7,8]])
 .skip))))))))))))))))))))))))
 (.seq (.reg false [oo 200 (.ld true 5) [.t 4],ou (.st 5) [.t 6,.t 200]] [])
 .ret))))))))⟩
def cchecker_All : AFun:=⟨77,[(6,none),(7,none)],
 (.seq (.reg false [oo 3 (.box 3) [.t 0],oo 4 (.box 3) [.t 1],oo 6 .mv [kn],oo 7 .mv [ki 0]] [])
 (.seq (.seq
 (.reg false [oo 16 (.ld true 3) [.t 3],oo 17 (.ld true 3) [.t 4],oo 18 .call [.f ncapacity_Check,.t 16,.t 17],oo 8 .mv [.t 18]] [])
 (.seq (.reg false [oo 19 .mv [.t 8],oo 20 (.bin .neq) [.t 19,ki 0]] [])
 (.cond (.t 20)
 (.seq (.reg false [
 oo 21 .mv [.t 8],
 oo 6 .mv [kn],
 oo 7 .mv [.t 21]] [])
 .ret)
 .skip)))
 (.seq (.reg false [oo 22 (.ld true 3) [.t 3],oo 23 (.ld true 3) [.t 4],oo 24 .call [.f nchecker_of,.t 22,.t 23],oo 9 (.alloc [v0,vn,vn,vn,vn,vn]) [],ou (.st 6) [.t 9,.t 24]] [])
 (.seq (.seq
 (.reg false [oo 25 .mv [.t 2],oo 26 .len [.t 25],oo 27 (.fad 5) [.t 9],oo 28 (.ld false 1) [.t 27],oo 29 .len [.t 28],oo 30 (.bin .neq) [.t 26,.t 29]] [])
 (.cond (.t 30)
 (.seq (.reg false [
 oo 6 .mv [kn],
 oo 7 .mv [ki 1]] [])
 .ret)
 .skip))
 (.seq (.reg false [oo 10 .mv [kn]] [])
 (.seq (.seq
 (.reg false [oo 31 .mv [.t 2],oo 32 .len [.t 31],oo 33 .mv [ki 0]] [])
 (.block 0 (.loop
 (.seq (.reg false [oo 34 (.bin .lss) [.t 33,.t 32]] [])
 (.seq (.cond (.t 34)
 .skip
 (.exit 0))
 (.seq (.block 1 (.seq (.reg false [oo 35 .mv [.t 33],oo 36 (.iad 5) [.t 31,.t 33],oo 37 (.ld true 5) [.t 36],oo 12 (.alloc [v0,(.bool false),vn,vn,vn]) [],oo 11 .mv [.t 35],ou (.st 5) [.t 12,.t 37]] [])
 (.seq (.seq
 (.reg true [oo 38 (.fad 0) [.t 12],oo 39 (.ld false 1) [.t 38],oo 40 (.fad 5) [.t 9],oo 41 (.ld false 1) [.t 40],oo 42 .mv [.t 11],oo 43 (.iad 1) [.t 41,.t 42],oo 44 (.ld false 1) [.t 43],oo 45 (.bin .neq) [.t 39,.t 44],oo 46 .mv [.t 45],oh 47 (.fad 2) [.t 12] 46,oh 48 (.ld false 1) [.t 47] 46,oh 49 .mv [.t 10] 46,oh 50 .call [.f nslices_Equal_Lint_int,.t 48,.t 49] 46,oh 51 (.un .not) [.t 50] 46,oo 52 .pick [.t 46,.c (.bool true),.t 51]] [[],[0],[],[2],[],[3,4],[5],[1,6],[7],[8],[9,8],[8],[10,11,8,8],[12,8],[8,13]])
 (.cond (.t 52)
 (.seq (.reg false [
 oo 6 .mv [kn],
 oo 7 .mv [ki 1]] [])
 .ret)
 .skip))
 (.seq (.reg false [oo 53 (.fad 1) [.t 12],oo 54 (.ld false 1) [.t 53]] [])
 (.cond (.t 54)
 (.reg false [
 oo 55 .mv [.t 10],
 oo 56 (.fad 0) [.t 12],
 oo 57 (.ld false 1) [.t 56],
 oo 58 (.bsl 1 1 [v0] [0]) [.t 57],
 oo 59 (.app 1 8) [.t 55,.t 58],
 oo 10 .mv [.t 59]] [])
 .skip)))))
 (.reg false [oo 60 (.bin .add) [.t 33,ki 1],oo 33 .mv [.t 60]] [])))))))
 (.seq (.seq
 (.reg false [oo 61 .mv [.t 2],oo 62 .len [.t 61],oo 63 .mv [ki 0]] [])
 (.block 2 (.loop
 (.seq (.reg false [oo 64 (.bin .lss) [.t 63,.t 62]] [])
 (.seq (.cond (.t 64)
 .skip
 (.exit 2))
 (.seq (.block 3 (.seq (.reg false [oo 65 (.iad 5) [.t 61,.t 63],oo 66 (.ld true 5) [.t 65],oo 14 (.alloc [v0,(.bool false),vn,vn,vn]) [],ou (.st 5) [.t 14,.t 66]] [])
 (.seq (.reg false [oo 67 (.ld true 6) [.t 9],oo 68 (.ld true 3) [.t 3],oo 69 (.ld true 3) [.t 4],oo 70 (.ld true 5) [.t 14],oo 71 .call [.f nchecker_engine_check,.t 67,.t 68,.t 69,.t 70],oo 15 .mv [.t 71]] [])
 (.seq (.reg false [oo 72 .mv [.t 15],oo 73 (.bin .neq) [.t 72,ki 0]] [])
 (.cond (.t 73)
 (.seq (.reg false [
 oo 74 .mv [.t 15],
 oo 6 .mv [kn],
 oo 7 .mv [.t 74]] [])
 .ret)
 .skip)))))
 (.reg false [oo 75 (.bin .add) [.t 63,ki 1],oo 63 .mv [.t 75]] [])))))))
 (.seq (.reg false [oo 76 .mv [.t 10],oo 6 .mv [.t 76],oo 7 .mv [ki 0]] [])
 .ret))))))))⟩
def cref17_Run : AFun:=⟨84,[(4,some (true,3)),(5,none)],
 (.seq (.reg false [oo 2 (.box 3) [.t 0],oo 3 (.box 3) [.t 1],oo 4 (.alloc [vn,vn,vn]) [],oo 5 .mv [ki 0]] [])
 (.seq (.seq
 (.reg false [oo 17 (.ld true 3) [.t 2],oo 18 (.ld true 3) [.t 3],oo 19 .call [.f nref13_Check,.t 17,.t 18],oo 6 .mv [.t 19]] [])
 (.seq (.reg false [oo 20 .mv [.t 6],oo 21 (.bin .neq) [.t 20,ki 0]] [])
 (.cond (.t 21)
 (.seq (.reg false [
 oo 22 (.build [vn,vn,vn] []) [],
 oo 23 .mv [.t 6],
 ou (.st 3) [.t 4,.t 22],
 oo 5 .mv [.t 23]] [])
 .ret)
 .skip)))
 (.seq (.reg false [oo 7 (.alloc [vn,vn,vn]) []] [])
 (.seq (.reg false [oo 8 .mv [kn]] [])
 (.seq (.reg true [oo 24 (.ld true 3) [.t 2],oo 25 (.fad 2) [.t 3],oo 26 (.ld false 1) [.t 25],oo 27 .call [.f nref11_Level,.t 24,.t 26],oo 28 (.fad 0) [.t 3],oo 29 (.ld false 1) [.t 28],oo 30 .call [.f nref12_Order,.t 27,.t 29],oo 9 .mv [.t 30]] [[],[],[1],[0,2],[],[4],[3,5,3],[6,6,0,1,2,3,4,5,6]])
 (.seq (.seq
 (.reg false [oo 10 .mv [ki 0]] [])
 (.block 0 (.loop
 (.seq (.seq
 (.reg false [oo 31 .mv [.t 10],oo 32 .mv [.t 9],oo 33 .len [.t 32],oo 34 (.bin .lss) [.t 31,.t 33]] [])
 (.cond (.t 34)
 .skip
 (.exit 0)))
 (.seq (.block 1 (.seq (.reg false [oo 37 .mv [.t 9],oo 38 .mv [.t 10],oo 39 (.iad 1) [.t 37,.t 38],oo 40 (.ld false 1) [.t 39],oo 11 .mv [.t 40]] [])
 (.seq (.reg true [oo 42 (.ld true 3) [.t 2],oo 43 (.ld true 3) [.t 3],oo 44 .mv [.t 8],oo 45 .mv [.t 11],oo 46 .call [.f nref11_Put,.t 44,.t 45],oo 47 .call [.f nref17_served,.t 42,.t 43,.t 46],oo 41 .mv [.t 47],oo 48 (.ext 0) [.t 41],oo 49 (.ext 1) [.t 41],oo 50 (.ext 2) [.t 41],oo 12 (.alloc [v0,vn]) [],ou (.st 2) [.t 12,.t 48],oo 13 .mv [.t 49],oo 14 .mv [.t 50]] [[],[],[],[],[2,3],[0,1,4,4],[5],[6],[6],[6],[],[10,7,5,0,1,2,3,4,5,6,7,10],[8,11,0,1,2,3,4,5,6,7,8,10,11],[9,12,0,1,2,3,4,5,6,7,8,9,10,11,12]])
 (.seq (.seq
 (.reg false [oo 51 .mv [.t 14]] [])
 (.cond (.t 51)
 (.seq (.reg false [
 oo 52 (.fad 0) [.t 7],
 oo 53 (.ld false 1) [.t 52],
 oo 54 .mv [.t 11],
 oo 55 (.bsl 1 1 [v0] [0]) [.t 54],
 oo 56 (.app 1 8) [.t 53,.t 55],
 oo 57 .mv [.t 8],
 oo 58 .mv [.t 11],
 oo 59 .call [.f nref11_Put,.t 57,.t 58],
 oo 60 (.fad 0) [.t 7],
 ou (.st 1) [.t 60,.t 56],
 oo 8 .mv [.t 59]] [])
 (.exit 1))
 .skip))
 (.seq (.reg false [oo 62 (.ld true 2) [.t 12],oo 63 .call [.f nref16_Nearest,.t 62],oo 61 .mv [.t 63],oo 64 (.ext 0) [.t 61],oo 65 (.ext 1) [.t 61],oo 15 .mv [.t 64],oo 16 .mv [.t 65]] [])
 (.reg false [oo 66 (.fad 2) [.t 7],oo 67 (.ld false 1) [.t 66],oo 68 .mv [.t 11],oo 69 .mv [.t 15],oo 70 (.build [v0,vn] [(0,1),(1,1)]) [.t 68,.t 69],oo 71 (.bsl 2 1 [v0,vn] [0]) [.t 70],oo 72 (.app 2 32) [.t 67,.t 71],oo 73 (.fad 2) [.t 7],ou (.st 1) [.t 73,.t 72]] []))))))
 (.reg false [oo 35 .mv [.t 10],oo 36 (.bin .add) [.t 35,ki 1],oo 10 .mv [.t 36]] []))))))
 (.seq (.reg false [oo 75 (.ld true 3) [.t 2],oo 76 (.ld true 3) [.t 3],oo 77 .mv [.t 8],oo 78 .call [.f nref17_served,.t 75,.t 76,.t 77],oo 74 .mv [.t 78],oo 79 (.ext 0) [.t 74],oo 80 (.ext 1) [.t 74],oo 81 (.ext 2) [.t 74],oo 82 (.fad 1) [.t 7],ou (.st 1) [.t 82,.t 80]] [])
 (.seq (.reg false [oo 83 (.ld true 3) [.t 7],ou (.st 3) [.t 4,.t 83],oo 5 .mv [ki 0]] [])
 .ret))))))))⟩
def cref23_SameInts : AFun:=⟨26,[(4,none)],
 (.seq (.reg false [oo 4 .mv [.c (.bool false)]] [])
 (.seq (.seq
 (.reg false [oo 6 .mv [.t 0],oo 7 .len [.t 6],oo 8 .mv [.t 1],oo 9 .len [.t 8],oo 10 (.bin .neq) [.t 7,.t 9]] [])
 (.cond (.t 10)
 (.seq (.reg false [
 oo 4 .mv [.c (.bool false)]] [])
 .ret)
 .skip))
 (.seq (.seq
 (.reg false [oo 5 .mv [ki 0]] [])
 (.block 0 (.loop
 (.seq (.seq
 (.reg false [oo 11 .mv [.t 5],oo 12 .mv [.t 0],oo 13 .len [.t 12],oo 14 (.bin .lss) [.t 11,.t 13]] [])
 (.cond (.t 14)
 .skip
 (.exit 0)))
 (.seq (.block 1 (.seq (.reg true [oo 17 .mv [.t 0],oo 18 .mv [.t 5],oo 19 (.iad 1) [.t 17,.t 18],oo 20 (.ld false 1) [.t 19],oo 21 .mv [.t 1],oo 22 .mv [.t 5],oo 23 (.iad 1) [.t 21,.t 22],oo 24 (.ld false 1) [.t 23],oo 25 (.bin .neq) [.t 20,.t 24]] [[],[],[0,1],[2],[],[],[4,5],[6],[3,7]])
 (.cond (.t 25)
 (.seq (.reg false [
 oo 4 .mv [.c (.bool false)]] [])
 .ret)
 .skip)))
 (.reg false [oo 15 .mv [.t 5],oo 16 (.bin .add) [.t 15,ki 1],oo 5 .mv [.t 16]] []))))))
 (.seq (.reg false [oo 4 .mv [.c (.bool true)]] [])
 .ret))))⟩
def cref44_All : AFun:=⟨84,[(6,none),(7,none)],
 (.seq (.reg false [oo 3 (.box 3) [.t 0],oo 4 (.box 3) [.t 1],oo 6 .mv [kn],oo 7 .mv [ki 0]] [])
 (.seq (.seq
 (.reg false [oo 14 (.ld true 3) [.t 3],oo 15 (.ld true 3) [.t 4],oo 16 .call [.f nref13_Check,.t 14,.t 15],oo 8 .mv [.t 16]] [])
 (.seq (.reg false [oo 17 .mv [.t 8],oo 18 (.bin .neq) [.t 17,ki 0]] [])
 (.cond (.t 18)
 (.seq (.reg false [
 oo 19 .mv [.t 8],
 oo 6 .mv [kn],
 oo 7 .mv [.t 19]] [])
 .ret)
 .skip)))
 (.seq (.reg false [oo 20 (.ld true 3) [.t 3],oo 21 (.ld true 3) [.t 4],oo 22 .call [.f nref44_reached,.t 20,.t 21],oo 9 .mv [.t 22]] [])
 (.seq (.seq
 (.reg false [oo 23 .mv [.t 2],oo 24 .len [.t 23],oo 25 .mv [.t 9],oo 26 .len [.t 25],oo 27 (.bin .neq) [.t 24,.t 26]] [])
 (.cond (.t 27)
 (.seq (.reg false [
 oo 6 .mv [kn],
 oo 7 .mv [ki 1]] [])
 .ret)
 .skip))
 (.seq (.reg false [oo 10 .mv [kn]] [])
 (.seq (.seq
 (.reg false [oo 11 .mv [ki 0]] [])
 (.block 0 (.loop
 (.seq (.seq
 (.reg false [oo 28 .mv [.t 11],oo 29 .mv [.t 2],oo 30 .len [.t 29],oo 31 (.bin .lss) [.t 28,.t 30]] [])
 (.cond (.t 31)
 .skip
 (.exit 0)))
 (.seq (.block 1 (.seq (.seq
 (.reg true [oo 34 .mv [.t 2],oo 35 .mv [.t 11],oo 36 (.iad 5) [.t 34,.t 35],oo 37 (.fad 0) [.t 36],oo 38 (.ld false 1) [.t 37],oo 39 .mv [.t 9],oo 40 .mv [.t 11],oo 41 (.iad 1) [.t 39,.t 40],oo 42 (.ld false 1) [.t 41],oo 43 (.bin .neq) [.t 38,.t 42],oo 44 .mv [.t 43],oh 45 .mv [.t 2] 44,oh 46 .mv [.t 11] 44,oh 47 (.iad 5) [.t 45,.t 46] 44,oh 48 (.fad 2) [.t 47] 44,oh 49 (.ld false 1) [.t 48] 44,oh 50 .mv [.t 10] 44,oh 51 .call [.f nref23_SameInts,.t 49,.t 50] 44,oh 52 (.un .not) [.t 51] 44,oo 53 .pick [.t 44,.c (.bool true),.t 52]] [[],[],[0,1],[2],[3],[],[],[5,6],[7],[4,8],[9],[10],[10],[11,12,10],[13,10],[14,10],[10],[15,16,10,10],[17,10],[10,18]])
 (.cond (.t 53)
 (.seq (.reg false [
 oo 6 .mv [kn],
 oo 7 .mv [ki 1]] [])
 .ret)
 .skip))
 (.seq (.reg false [oo 54 .mv [.t 2],oo 55 .mv [.t 11],oo 56 (.iad 5) [.t 54,.t 55],oo 57 (.fad 1) [.t 56],oo 58 (.ld false 1) [.t 57]] [])
 (.cond (.t 58)
 (.reg false [
 oo 59 .mv [.t 10],
 oo 60 .mv [.t 2],
 oo 61 .mv [.t 11],
 oo 62 (.iad 5) [.t 60,.t 61],
 oo 63 (.fad 0) [.t 62],
 oo 64 (.ld false 1) [.t 63],
 oo 65 (.bsl 1 1 [v0] [0]) [.t 64],
 oo 66 (.app 1 8) [.t 59,.t 65],
 oo 10 .mv [.t 66]] [])
 .skip))))
 (.reg false [oo 32 .mv [.t 11],oo 33 (.bin .add) [.t 32,ki 1],oo 11 .mv [.t 33]] []))))))
 (.seq (.seq
 (.reg false [oo 12 .mv [ki 0]] [])
 (.block 2 (.loop
 (.seq (.seq
 (.reg false [oo 67 .mv [.t 12],oo 68 .mv [.t 2],oo 69 .len [.t 68],oo 70 (.bin .lss) [.t 67,.t 69]] [])
 (.cond (.t 70)
 .skip
 (.exit 2)))
 (.seq (.block 3 (.seq (.reg true [oo 73 (.ld true 3) [.t 3],oo 74 (.ld true 3) [.t 4],oo 75 .mv [.t 2],oo 76 .mv [.t 12],oo 77 (.iad 5) [.t 75,.t 76],oo 78 (.ld true 5) [.t 77],oo 79 .call [.f nref44_Check,.t 73,.t 74,.t 78],oo 13 .mv [.t 79]] [[],[],[],[],[2,3],[4],[0,1,5],[6,6,0,1,2,3,4,5,6]])
 (.seq (.reg false [oo 80 .mv [.t 13],oo 81 (.bin .neq) [.t 80,ki 0]] [])
 (.cond (.t 81)
 (.seq (.reg false [
 oo 82 .mv [.t 13],
 oo 6 .mv [kn],
 oo 7 .mv [.t 82]] [])
 .ret)
 .skip))))
 (.reg false [oo 71 .mv [.t 12],oo 72 (.bin .add) [.t 71,ki 1],oo 12 .mv [.t 72]] []))))))
 (.seq (.reg false [oo 83 .mv [.t 10],oo 6 .mv [.t 83],oo 7 .mv [ki 0]] [])
 .ret))))))))⟩
def cref43_Reached : AFun:=⟨12,[(4,none)],
 (.seq (.reg false [oo 2 (.box 3) [.t 0],oo 3 (.box 3) [.t 1],oo 4 .mv [kn]] [])
 (.seq (.reg true [oo 5 (.ld true 3) [.t 2],oo 6 (.fad 2) [.t 3],oo 7 (.ld false 1) [.t 6],oo 8 .call [.f nref11_Level,.t 5,.t 7],oo 9 (.fad 0) [.t 3],oo 10 (.ld false 1) [.t 9],oo 11 .call [.f nref12_Order,.t 8,.t 10],oo 4 .mv [.t 11]] [[],[],[1],[0,2],[],[4],[3,5,3],[6,6,0,1,2,3,4,5,6]])
 .ret))⟩
def ccapacity_Check : AFun:=⟨65,[(4,none)],
 (.seq (.reg false [oo 2 (.box 3) [.t 0],oo 3 (.box 3) [.t 1],oo 4 .mv [ki 0]] [])
 (.seq (.seq
 (.reg false [oo 8 (.ld true 3) [.t 2],oo 9 .call [.f ngraph_Check,.t 8],oo 5 .mv [.t 9]] [])
 (.seq (.reg false [oo 10 .mv [.t 5],oo 11 (.bin .neq) [.t 10,ki 0]] [])
 (.cond (.t 11)
 (.seq (.reg false [
 oo 12 .mv [.t 5],
 oo 4 .mv [.t 12]] [])
 .ret)
 .skip)))
 (.seq (.seq
 (.reg false [oo 13 (.fad 0) [.t 3],oo 14 (.ld false 1) [.t 13],oo 15 .len [.t 14],oo 16 (.bin .eql) [.t 15,ki 0],oo 17 .mv [.t 16],oh 18 (.fad 0) [.t 3] 17,oh 19 (.ld false 1) [.t 18] 17,oh 20 (.fad 0) [.t 2] 17,oh 21 (.ld false 1) [.t 20] 17,oh 22 (.bin .sub) [.t 21,ki 1] 17,oh 23 .call [.f nlists_Rising,.t 19,ki 0,.t 22] 17,oh 24 (.un .not) [.t 23] 17,oo 25 .pick [.t 17,.c (.bool true),.t 24],oo 26 .mv [.t 25],oh 27 (.fad 1) [.t 3] 26,oh 28 (.ld false 1) [.t 27] 26,oh 29 .len [.t 28] 26,oh 30 .call [.f nlists_In,.t 29,ki 1,ki 8] 26,oh 31 (.un .not) [.t 30] 26,oo 32 .pick [.t 26,.c (.bool true),.t 31],oo 33 .mv [.t 32],oh 34 (.fad 2) [.t 3] 33,oh 35 (.ld false 1) [.t 34] 33,oh 36 .call [.f nlists_In,.t 35,ki 1,ki 3] 33,oh 37 (.un .not) [.t 36] 33,oo 38 .pick [.t 33,.c (.bool true),.t 37]] [])
 (.cond (.t 38)
 (.seq (.reg false [
 oo 4 .mv [ki 15]] [])
 .ret)
 .skip))
 (.seq (.seq
 (.reg false [oo 39 (.fad 1) [.t 3],oo 40 (.ld false 1) [.t 39],oo 41 .len [.t 40],oo 42 .mv [ki 0]] [])
 (.block 0 (.loop
 (.seq (.reg false [oo 43 (.bin .lss) [.t 42,.t 41]] [])
 (.seq (.cond (.t 43)
 .skip
 (.exit 0))
 (.seq (.block 1 (.seq (.reg false [oo 44 .mv [.t 42],oo 45 (.iad 1) [.t 40,.t 42],oo 46 (.ld false 1) [.t 45],oo 6 .mv [.t 44],oo 7 .mv [.t 46]] [])
 (.seq (.reg false [oo 47 .mv [.t 7],oo 48 .call [.f nlists_In,.t 47,ki 1,ki 1000],oo 49 (.un .not) [.t 48],oo 50 .mv [.t 49],oh 51 .mv [.t 6] 50,oh 52 (.bin .gtr) [.t 51,ki 0] 50,oh 53 .mv [.t 52] 50,og 54 .mv [.t 7] 53,og 55 (.fad 1) [.t 3] 53,og 56 (.ld false 1) [.t 55] 53,og 57 .mv [.t 6] 53,og 58 (.bin .sub) [.t 57,ki 1] 53,og 59 (.iad 1) [.t 56,.t 58] 53,og 60 (.ld false 1) [.t 59] 53,og 61 (.bin .gtr) [.t 54,.t 60] 53,oh 62 .pick [.t 53,.t 61,.c (.bool false)] 50,oo 63 .pick [.t 50,.c (.bool true),.t 62]] [])
 (.cond (.t 63)
 (.seq (.reg false [
 oo 4 .mv [ki 15]] [])
 .ret)
 .skip))))
 (.reg false [oo 64 (.bin .add) [.t 42,ki 1],oo 42 .mv [.t 64]] [])))))))
 (.seq (.reg false [oo 4 .mv [ki 0]] [])
 .ret)))))⟩
def cchecker_different : AFun:=⟨29,[(4,none)],
 (.seq (.reg false [oo 4 .mv [.c (.bool false)]] [])
 (.seq (.seq
 (.reg false [oo 7 .mv [.t 0],oo 8 .len [.t 7],oo 9 .mv [ki 0]] [])
 (.block 0 (.loop
 (.seq (.reg false [oo 10 (.bin .lss) [.t 9,.t 8]] [])
 (.seq (.cond (.t 10)
 .skip
 (.exit 0))
 (.seq (.block 1 (.seq (.reg false [oo 11 .mv [.t 9],oo 12 (.iad 1) [.t 7,.t 9],oo 13 (.ld false 1) [.t 12],oo 5 .mv [.t 11],oo 6 .mv [.t 13]] [])
 (.seq (.reg false [oo 14 .mv [.t 6],oo 15 (.bin .lss) [.t 14,ki 0],oo 16 .mv [.t 15],oh 17 .mv [.t 6] 16,oh 18 .mv [.t 1] 16,oh 19 (.bin .geq) [.t 17,.t 18] 16,oo 20 .pick [.t 16,.c (.bool true),.t 19],oo 21 .mv [.t 20],oh 22 .mv [.t 0] 21,oh 23 .mv [.t 5] 21,oh 24 (.slc 1 false true false) [.t 22,.t 23] 21,oh 25 .mv [.t 6] 21,oh 26 .call [.f nslices_Contains_Lint_int,.t 24,.t 25] 21,oo 27 .pick [.t 21,.c (.bool true),.t 26]] [])
 (.cond (.t 27)
 (.seq (.reg false [
 oo 4 .mv [.c (.bool false)]] [])
 .ret)
 .skip))))
 (.reg false [oo 28 (.bin .add) [.t 9,ki 1],oo 9 .mv [.t 28]] [])))))))
 (.seq (.reg false [oo 4 .mv [.c (.bool true)]] [])
 .ret)))⟩
def cchecker_of : AFun:=⟨21,[(4,some (true,6))],
 (.seq (.reg false [oo 2 (.box 3) [.t 0],oo 3 (.box 3) [.t 1],oo 4 (.alloc [v0,vn,vn,vn,vn,vn]) []] [])
 (.seq (.reg false [oo 6 (.ld true 3) [.t 2],oo 7 (.fad 2) [.t 3],oo 8 (.ld false 1) [.t 7],oo 9 .call [.f ngraph_Level,.t 6,.t 8],oo 5 (.alloc [v0,vn,vn]) [],ou (.st 3) [.t 5,.t 9]] [])
 (.seq (.reg true [oo 10 (.ld true 3) [.t 5],oo 11 (.fad 0) [.t 3],oo 12 (.ld false 1) [.t 11],oo 13 (.ld true 3) [.t 2],oo 14 (.ld true 3) [.t 3],oo 15 .call [.f ncapacity_All,.t 13,.t 14],oo 16 (.ld true 3) [.t 5],oo 17 (.fad 0) [.t 3],oo 18 (.ld false 1) [.t 17],oo 19 .call [.f ndistance_Order,.t 16,.t 18],oo 20 (.build [v0,vn,vn,vn,vn,vn] [(0,3),(3,1),(4,1),(5,1)]) [.t 10,.t 12,.t 15,.t 19],ou (.st 6) [.t 4,.t 20]] [[],[],[1],[],[],[3,4],[],[],[7],[6,8,5],[0,2,5,9],[10,9,0,1,2,3,4,5,6,7,8,9,10]])
 .ret)))⟩
def cchecker_engine_serve : AFun:=⟨89,[(6,none)],
 (.seq (.reg false [oo 3 (.box 6) [.t 0],oo 6 .mv [.c (.bool false)]] [])
 (.seq (.reg false [oo 7 (.alloc [v0,v0,v0,v0,v0,v0,v0,v0,v0,v0,v0,v0,v0,v0,v0,v0,v0,v0,v0,v0,v0,v0,v0,v0,v0,v0,v0,v0,v0,v0,v0,v0,v0,v0,v0,v0,v0,v0,v0,v0,v0,v0,v0,v0,v0,v0,v0,v0,v0,v0,v0,v0,v0,v0,v0,v0,v0,v0,v0,v0,v0,v0,v0,v0]) [],oo 8 (.alloc [v0,v0,v0,v0,v0,v0,v0,v0,v0,v0,v0,v0,v0,v0,v0,v0,v0,v0,v0,v0,v0,v0,v0,v0,v0,v0,v0,v0,v0,v0,v0,v0,v0,v0,v0,v0,v0,v0,v0,v0,v0,v0,v0,v0,v0,v0,v0,v0,v0,v0,v0,v0,v0,v0,v0,v0,v0,v0,v0,v0,v0,v0,v0,v0]) []] [])
 (.seq (.reg false [oo 9 .mv [kn]] [])
 (.seq (.seq
 (.reg false [oo 16 .mv [.t 1],oo 17 .len [.t 16],oo 18 .mv [ki 0]] [])
 (.block 0 (.loop
 (.seq (.reg false [oo 19 (.bin .lss) [.t 18,.t 17]] [])
 (.seq (.cond (.t 19)
 .skip
 (.exit 0))
 (.seq (.block 1 (.seq (.reg false [oo 20 (.iad 1) [.t 16,.t 18],oo 21 (.ld false 1) [.t 20],oo 11 .mv [.t 21]] [])
 (.seq (.seq
 (.reg false [oo 22 (.ld true 6) [.t 3],oo 23 .mv [.t 11],oo 24 .call [.f nchecker_engine_walks,.t 22,.t 23],oo 25 (.un .not) [.t 24]] [])
 (.cond (.t 25)
 (.seq (.reg false [
 oo 6 .mv [.c (.bool false)]] [])
 .ret)
 .skip))
 (.seq (.reg false [oo 26 .mv [.t 11],oo 27 (.iad 1) [.t 26,ki 0],oo 28 (.ld false 1) [.t 27],oo 29 (.iaa 64 1) [.t 7,.t 28],oo 30 (.ld false 1) [.t 29],oo 31 (.bin .add) [.t 30,ki 1],oo 32 (.iaa 64 1) [.t 7,.t 28],ou (.st 1) [.t 32,.t 31]] [])
 (.seq (.seq
 (.reg false [oo 33 .mv [.t 11],oo 34 .mv [.t 11],oo 35 .len [.t 34],oo 36 (.bin .sub) [.t 35,ki 1],oo 37 (.slc 1 false true false) [.t 33,.t 36],oo 38 .len [.t 37],oo 39 .mv [ki 0]] [])
 (.block 2 (.loop
 (.seq (.reg false [oo 40 (.bin .lss) [.t 39,.t 38]] [])
 (.seq (.cond (.t 40)
 .skip
 (.exit 2))
 (.seq (.block 3 (.seq (.reg false [oo 41 (.iad 1) [.t 37,.t 39],oo 42 (.ld false 1) [.t 41],oo 13 .mv [.t 42]] [])
 (.reg false [oo 43 .mv [.t 13],oo 44 (.iaa 64 1) [.t 8,.t 43],oo 45 (.ld false 1) [.t 44],oo 46 (.bin .add) [.t 45,ki 1],oo 47 (.iaa 64 1) [.t 8,.t 43],ou (.st 1) [.t 47,.t 46]] [])))
 (.reg false [oo 48 (.bin .add) [.t 39,ki 1],oo 39 .mv [.t 48]] [])))))))
 (.reg false [oo 49 .mv [.t 9],oo 50 .mv [.t 11],oo 51 .mv [.t 11],oo 52 .len [.t 51],oo 53 (.bin .sub) [.t 52,ki 1],oo 54 (.iad 1) [.t 50,.t 53],oo 55 (.ld false 1) [.t 54],oo 56 (.bsl 1 1 [v0] [0]) [.t 55],oo 57 (.app 1 8) [.t 49,.t 56],oo 9 .mv [.t 57]] []))))))
 (.reg false [oo 58 (.bin .add) [.t 18,ki 1],oo 18 .mv [.t 58]] [])))))))
 (.seq (.seq
 (.reg false [oo 59 (.fad 4) [.t 3],oo 60 (.ld false 1) [.t 59],oo 61 .len [.t 60],oo 62 .mv [ki 0]] [])
 (.block 4 (.loop
 (.seq (.reg false [oo 63 (.bin .lss) [.t 62,.t 61]] [])
 (.seq (.cond (.t 63)
 .skip
 (.exit 4))
 (.seq (.block 5 (.seq (.reg false [oo 64 .mv [.t 62],oo 65 (.iad 1) [.t 60,.t 62],oo 66 (.ld false 1) [.t 65],oo 14 .mv [.t 64],oo 15 .mv [.t 66]] [])
 (.seq (.reg false [oo 67 .mv [.t 14],oo 68 (.iaa 64 1) [.t 7,.t 67],oo 69 (.ld false 1) [.t 68],oo 70 .mv [.t 15],oo 71 (.bin .gtr) [.t 69,.t 70],oo 72 .mv [.t 71],oh 73 .mv [.t 14] 72,oh 74 (.iaa 64 1) [.t 8,.t 73] 72,oh 75 (.ld false 1) [.t 74] 72,oh 76 .mv [.t 15] 72,oh 77 (.bin .sub) [.t 76,ki 1] 72,oh 78 .mx2 [ki 0,.t 77] 72,oh 79 (.bin .gtr) [.t 75,.t 78] 72,oo 80 .pick [.t 72,.c (.bool true),.t 79]] [])
 (.cond (.t 80)
 (.seq (.reg false [
 oo 6 .mv [.c (.bool false)]] [])
 .ret)
 .skip))))
 (.reg false [oo 81 (.bin .add) [.t 62,ki 1],oo 62 .mv [.t 81]] [])))))))
 (.seq (.reg false [oo 82 .mv [.t 9],oo 83 .call [.f nslices_Values_Lint_int,.t 82],oo 84 .call [.f nslices_Sorted_int,.t 83],oo 85 .mv [.t 2],oo 86 .call [.f nslices_Values_Lint_int,.t 85],oo 87 .call [.f nslices_Sorted_int,.t 86],oo 88 .call [.f nslices_Equal_Lint_int,.t 84,.t 87],oo 6 .mv [.t 88]] [])
 .ret))))))⟩
def cchecker_engine_check : AFun:=⟨82,[(8,none)],
 (.seq (.reg false [oo 4 (.box 6) [.t 0],oo 5 (.box 3) [.t 1],oo 6 (.box 3) [.t 2],oo 7 (.box 5) [.t 3],oo 8 .mv [ki 0]] [])
 (.seq (.seq
 (.reg false [oo 12 (.fad 5) [.t 4],oo 13 (.ld false 1) [.t 12],oo 14 (.fad 0) [.t 7],oo 15 (.ld false 1) [.t 14],oo 16 .call [.f nslices_Contains_Lint_int,.t 13,.t 15],oo 17 (.un .not) [.t 16]] [])
 (.cond (.t 17)
 (.seq (.reg false [
 oo 8 .mv [ki 11]] [])
 .ret)
 .skip))
 (.seq (.seq
 (.reg false [oo 18 (.ld true 6) [.t 4],oo 19 (.fad 2) [.t 7],oo 20 (.ld false 1) [.t 19],oo 21 (.fad 0) [.t 7],oo 22 (.ld false 1) [.t 21],oo 23 .call [.f nchecker_engine_before,.t 18,.t 20,.t 22],oo 24 (.un .not) [.t 23],oo 25 .mv [.t 24],oh 26 (.fad 1) [.t 7] 25,oh 27 (.ld false 1) [.t 26] 25,oh 28 .mv [.t 27] 25,og 29 (.fad 4) [.t 7] 28,og 30 (.ld false 1) [.t 29] 28,og 31 .len [.t 30] 28,og 32 (.bin .gtr) [.t 31,ki 0] 28,oh 33 .pick [.t 28,.t 32,.c (.bool false)] 25,oo 34 .pick [.t 25,.c (.bool true),.t 33],oo 35 .mv [.t 34],oh 36 (.fad 1) [.t 7] 35,oh 37 (.ld false 1) [.t 36] 35,oh 38 (.un .not) [.t 37] 35,oh 39 .mv [.t 38] 35,og 40 (.fad 3) [.t 7] 39,og 41 (.ld false 1) [.t 40] 39,og 42 .len [.t 41] 39,og 43 (.bin .gtr) [.t 42,ki 0] 39,oh 44 .pick [.t 39,.t 43,.c (.bool false)] 35,oo 45 .pick [.t 35,.c (.bool true),.t 44]] [])
 (.cond (.t 45)
 (.seq (.reg false [
 oo 8 .mv [ki 1]] [])
 .ret)
 .skip))
 (.seq (.reg true [oo 46 (.fad 2) [.t 7],oo 47 (.ld false 1) [.t 46],oo 48 .call [.f nslices_Clone_Lint_int,.t 47],oo 49 (.fad 0) [.t 7],oo 50 (.ld false 1) [.t 49],oo 51 (.bsl 1 1 [v0] [0]) [.t 50],oo 52 (.app 1 8) [.t 48,.t 51],oo 9 .mv [.t 52]] [[],[0],[1],[],[3],[4],[2,5,2],[6,6,0,1,2,3,4,5,6]])
 (.seq (.seq
 (.reg false [oo 53 (.fad 1) [.t 7],oo 54 (.ld false 1) [.t 53]] [])
 (.cond (.t 54)
 (.seq (.seq
 (.reg false [
 oo 55 (.ld true 6) [.t 4],
 oo 56 (.fad 3) [.t 7],
 oo 57 (.ld false 1) [.t 56],
 oo 58 .mv [.t 9],
 oo 59 .call [.f nchecker_engine_serve,.t 55,.t 57,.t 58],
 oo 60 (.un .not) [.t 59]] [])
 (.cond (.t 60)
 (.seq (.reg false [
 oo 8 .mv [ki 52]] [])
 .ret)
 .skip))
 (.seq (.reg false [
 oo 8 .mv [ki 0]] [])
 .ret))
 .skip))
 (.seq (.reg true [oo 62 (.ld true 3) [.t 5],oo 63 (.ld true 3) [.t 6],oo 64 .mv [.t 9],oo 65 .call [.f nslices_Values_Lint_int,.t 64],oo 66 .call [.f nslices_Sorted_int,.t 65],oo 67 .call [.f nsplit_Network,.t 62,.t 63,.t 66],oo 61 .mv [.t 67],oo 68 (.ext 0) [.t 61],oo 69 (.ext 1) [.t 61],oo 10 (.alloc [v0,vn]) [],ou (.st 2) [.t 10,.t 68],oo 11 .mv [.t 69]] [[],[],[],[2],[3,3],[0,1,4,4],[5],[6],[6],[],[9,7,5,0,1,2,3,4,5,6,7,9],[8,10,0,1,2,3,4,5,6,7,8,9,10]])
 (.seq (.seq
 (.reg false [oo 70 .mv [.t 11],oo 71 (.bin .neq) [.t 70,ki 0],oo 72 .mv [.t 71],oh 73 (.ld true 2) [.t 10] 72,oh 74 (.fad 4) [.t 7] 72,oh 75 (.ld false 1) [.t 74] 72,oh 76 (.fad 2) [.t 7] 72,oh 77 (.ld false 1) [.t 76] 72,oh 78 .len [.t 77] 72,oh 79 .call [.f ncut_Proves,.t 73,.t 75,.t 78] 72,oh 80 (.un .not) [.t 79] 72,oo 81 .pick [.t 72,.c (.bool true),.t 80]] [])
 (.cond (.t 81)
 (.seq (.reg false [
 oo 8 .mv [ki 52]] [])
 .ret)
 .skip))
 (.seq (.reg false [oo 8 .mv [ki 0]] [])
 .ret))))))))⟩
def cref44_reached : AFun:=⟨12,[(4,none)],
 (.seq (.reg false [oo 2 (.box 3) [.t 0],oo 3 (.box 3) [.t 1],oo 4 .mv [kn]] [])
 (.seq (.reg true [oo 5 (.ld true 3) [.t 2],oo 6 (.fad 2) [.t 3],oo 7 (.ld false 1) [.t 6],oo 8 .call [.f nref11_Level,.t 5,.t 7],oo 9 (.fad 0) [.t 3],oo 10 (.ld false 1) [.t 9],oo 11 .call [.f nref12_Order,.t 8,.t 10],oo 4 .mv [.t 11]] [[],[],[1],[0,2],[],[4],[3,5,3],[6,6,0,1,2,3,4,5,6]])
 .ret))⟩
def cref44_ahead : AFun:=⟨54,[(6,none)],
 (.seq (.reg false [oo 6 .mv [.c (.bool false)]] [])
 (.seq (.reg false [oo 7 .mv [ki 0]] [])
 (.seq (.seq
 (.reg false [oo 8 .mv [ki 0]] [])
 (.block 0 (.loop
 (.seq (.seq
 (.reg false [oo 9 .mv [.t 8],oo 10 .mv [.t 1],oo 11 .len [.t 10],oo 12 (.bin .lss) [.t 9,.t 11]] [])
 (.cond (.t 12)
 .skip
 (.exit 0)))
 (.seq (.block 1 (.seq (.block 2 (.loop
 (.seq (.seq
 (.reg true [oo 15 .mv [.t 7],oo 16 .mv [.t 0],oo 17 .len [.t 16],oo 18 (.bin .lss) [.t 15,.t 17],oo 19 .mv [.t 18],og 20 .mv [.t 0] 19,og 21 .mv [.t 7] 19,og 22 (.iad 1) [.t 20,.t 21] 19,og 23 (.ld false 1) [.t 22] 19,og 24 .mv [.t 1] 19,og 25 .mv [.t 8] 19,og 26 (.iad 1) [.t 24,.t 25] 19,og 27 (.ld false 1) [.t 26] 19,og 28 (.bin .neq) [.t 23,.t 27] 19,oo 29 .pick [.t 19,.t 28,.c (.bool false)],oo 30 .mv [.t 29],og 31 .mv [.t 0] 30,og 32 .mv [.t 7] 30,og 33 (.iad 1) [.t 31,.t 32] 30,og 34 (.ld false 1) [.t 33] 30,og 35 .mv [.t 2] 30,og 36 (.bin .neq) [.t 34,.t 35] 30,oo 37 .pick [.t 30,.t 36,.c (.bool false)]] [[],[],[1],[0,2],[3],[4],[4],[5,6,4],[7,4],[4],[4],[9,10,4],[11,4],[8,12,4],[4,13],[14,4],[15],[15],[16,17,15],[18,15],[15],[19,20,15],[15,21]])
 (.cond (.t 37)
 .skip
 (.exit 2)))
 (.block 3 (.reg false [oo 38 .mv [.t 7],oo 39 (.bin .add) [.t 38,ki 1],oo 7 .mv [.t 39]] [])))))
 (.seq (.seq
 (.reg false [oo 40 .mv [.t 7],oo 41 .mv [.t 0],oo 42 .len [.t 41],oo 43 (.bin .eql) [.t 40,.t 42],oo 44 .mv [.t 43],oh 45 .mv [.t 0] 44,oh 46 .mv [.t 7] 44,oh 47 (.iad 1) [.t 45,.t 46] 44,oh 48 (.ld false 1) [.t 47] 44,oh 49 .mv [.t 2] 44,oh 50 (.bin .eql) [.t 48,.t 49] 44,oo 51 .pick [.t 44,.c (.bool true),.t 50]] [])
 (.cond (.t 51)
 (.seq (.reg false [
 oo 6 .mv [.c (.bool false)]] [])
 .ret)
 .skip))
 (.reg false [oo 52 .mv [.t 7],oo 53 (.bin .add) [.t 52,ki 1],oo 7 .mv [.t 53]] []))))
 (.reg false [oo 13 .mv [.t 8],oo 14 (.bin .add) [.t 13,ki 1],oo 8 .mv [.t 14]] []))))))
 (.seq (.reg false [oo 6 .mv [.c (.bool true)]] [])
 .ret))))⟩
def cref14_Network : AFun:=⟨158,[(6,some (true,2)),(7,none)],
 (.seq (.reg false [oo 3 (.box 3) [.t 0],oo 4 (.box 3) [.t 1],oo 6 (.alloc [v0,vn]) [],oo 7 .mv [ki 0]] [])
 (.seq (.seq
 (.reg false [oo 18 (.ld true 3) [.t 3],oo 19 (.ld true 3) [.t 4],oo 20 .call [.f nref13_Check,.t 18,.t 19],oo 8 .mv [.t 20]] [])
 (.seq (.reg false [oo 21 .mv [.t 8],oo 22 (.bin .neq) [.t 21,ki 0]] [])
 (.cond (.t 22)
 (.seq (.reg false [
 oo 23 (.build [v0,vn] []) [],
 oo 24 .mv [.t 8],
 ou (.st 2) [.t 6,.t 23],
 oo 7 .mv [.t 24]] [])
 .ret)
 .skip)))
 (.seq (.seq
 (.reg false [oo 25 .mv [.t 2],oo 26 (.fad 0) [.t 3],oo 27 (.ld false 1) [.t 26],oo 28 .call [.f nref11_Set,.t 25,.t 27],oo 29 (.un .not) [.t 28]] [])
 (.cond (.t 29)
 (.seq (.reg false [
 oo 30 (.build [v0,vn] []) [],
 ou (.st 2) [.t 6,.t 30],
 oo 7 .mv [ki 4]] [])
 .ret)
 .skip))
 (.seq (.reg false [oo 31 (.ld true 3) [.t 3],oo 32 (.fad 2) [.t 4],oo 33 (.ld false 1) [.t 32],oo 34 .call [.f nref11_Level,.t 31,.t 33],ou (.st 3) [.t 3,.t 34]] [])
 (.seq (.reg true [oo 35 (.ld true 3) [.t 3],oo 36 (.fad 0) [.t 4],oo 37 (.ld false 1) [.t 36],oo 38 .call [.f nref12_All,.t 35,.t 37],oo 39 (.ld true 3) [.t 3],oo 40 (.ld true 3) [.t 4],oo 41 .call [.f nref13_All,.t 39,.t 40],oo 9 .mv [.t 38],oo 10 .mv [.t 41]] [[],[],[1],[0,2],[],[],[4,5,3],[3,6,0,1,2,3],[6,7,0,1,2,3,4,5,6,7]])
 (.seq (.reg false [oo 42 (.fad 0) [.t 3],oo 43 (.ld false 1) [.t 42],oo 44 (.bin .mul) [ki 2,.t 43],oo 45 (.bin .add) [ki 2,.t 44],oo 46 (.build [v0,vn] [(0,1)]) [.t 45],oo 11 (.alloc [v0,vn]) [],ou (.st 2) [.t 11,.t 46]] [])
 (.seq (.seq
 (.reg false [oo 12 .mv [ki 0]] [])
 (.block 0 (.loop
 (.seq (.seq
 (.reg false [oo 47 .mv [.t 12],oo 48 (.fad 0) [.t 4],oo 49 (.ld false 1) [.t 48],oo 50 .len [.t 49],oo 51 (.bin .lss) [.t 47,.t 50]] [])
 (.cond (.t 51)
 .skip
 (.exit 0)))
 (.seq (.block 1 (.seq (.reg false [oo 54 (.fad 0) [.t 4],oo 55 (.ld false 1) [.t 54],oo 56 .mv [.t 12],oo 57 (.iad 1) [.t 55,.t 56],oo 58 (.ld false 1) [.t 57],oo 13 .mv [.t 58]] [])
 (.seq (.reg false [oo 59 .mv [.t 9],oo 60 .mv [.t 13],oo 61 (.iad 1) [.t 59,.t 60],oo 62 (.ld false 1) [.t 61],oo 63 (.bin .geq) [.t 62,ki 0]] [])
 (.cond (.t 63)
 (.reg true [
 oo 64 (.fad 1) [.t 11],
 oo 65 (.ld false 1) [.t 64],
 oo 66 .mv [.t 13],
 oo 67 .call [.f nref14_Entry,.t 66],
 oo 68 .mv [.t 10],
 oo 69 .mv [.t 13],
 oo 70 (.iad 1) [.t 68,.t 69],
 oo 71 (.ld false 1) [.t 70],
 oo 72 (.build [v0,v0,v0] [(0,1),(1,1),(2,1)]) [ki 0,.t 67,.t 71],
 oo 73 (.bsl 3 1 [v0,v0,v0] [0]) [.t 72],
 oo 74 (.app 3 24) [.t 65,.t 73],
 oo 75 (.fad 1) [.t 11],
 ou (.st 1) [.t 75,.t 74]] [[],[0],[],[2],[],[],[4,5],[6],[3,7],[8],[1,9,3],[0,1,2,3,4,5,6,7,8,9,10],[11,10,10,0,1,2,3,4,5,6,7,8,9,10]])
 .skip))))
 (.reg false [oo 52 .mv [.t 12],oo 53 (.bin .add) [.t 52,ki 1],oo 12 .mv [.t 53]] []))))))
 (.seq (.seq
 (.reg false [oo 14 .mv [ki 0]] [])
 (.block 2 (.loop
 (.seq (.seq
 (.reg false [oo 76 .mv [.t 14],oo 77 (.fad 0) [.t 3],oo 78 (.ld false 1) [.t 77],oo 79 (.bin .lss) [.t 76,.t 78]] [])
 (.cond (.t 79)
 .skip
 (.exit 2)))
 (.seq (.block 3 (.seq (.reg false [oo 82 .mv [.t 9],oo 83 .mv [.t 14],oo 84 (.iad 1) [.t 82,.t 83],oo 85 (.ld false 1) [.t 84],oo 86 (.bin .geq) [.t 85,ki 0]] [])
 (.cond (.t 86)
 (.reg true [
 oo 87 (.fad 1) [.t 11],
 oo 88 (.ld false 1) [.t 87],
 oo 89 .mv [.t 14],
 oo 90 .call [.f nref14_Entry,.t 89],
 oo 91 .mv [.t 14],
 oo 92 .call [.f nref14_Exit,.t 91],
 oo 93 .mv [.t 10],
 oo 94 .mv [.t 14],
 oo 95 (.iad 1) [.t 93,.t 94],
 oo 96 (.ld false 1) [.t 95],
 oo 97 (.bin .sub) [.t 96,ki 1],
 oo 98 (.build [v0,v0,v0] [(0,1),(1,1),(2,1)]) [.t 90,.t 92,.t 97],
 oo 99 (.bsl 3 1 [v0,v0,v0] [0]) [.t 98],
 oo 100 (.app 3 24) [.t 88,.t 99],
 oo 101 (.fad 1) [.t 11],
 ou (.st 1) [.t 101,.t 100]] [[],[0],[],[2],[],[4,3],[],[],[6,7],[8],[9],[3,5,10],[11],[1,12,5],[0,1,2,3,4,5,6,7,8,9,10,11,12,13],[14,13,13,0,1,2,3,4,5,6,7,8,9,10,11,12,13]])
 .skip)))
 (.reg false [oo 80 .mv [.t 14],oo 81 (.bin .add) [.t 80,ki 1],oo 14 .mv [.t 81]] []))))))
 (.seq (.seq
 (.reg false [oo 15 .mv [ki 0]] [])
 (.block 4 (.loop
 (.seq (.seq
 (.reg false [oo 102 .mv [.t 15],oo 103 .mv [.t 2],oo 104 .len [.t 103],oo 105 (.bin .lss) [.t 102,.t 104]] [])
 (.cond (.t 105)
 .skip
 (.exit 4)))
 (.seq (.block 5 (.seq (.reg false [oo 108 .mv [.t 9],oo 109 .mv [.t 2],oo 110 .mv [.t 15],oo 111 (.iad 1) [.t 109,.t 110],oo 112 (.ld false 1) [.t 111],oo 113 (.iad 1) [.t 108,.t 112],oo 114 (.ld false 1) [.t 113],oo 115 (.bin .geq) [.t 114,ki 0]] [])
 (.cond (.t 115)
 (.reg true [
 oo 116 (.fad 1) [.t 11],
 oo 117 (.ld false 1) [.t 116],
 oo 118 .mv [.t 2],
 oo 119 .mv [.t 15],
 oo 120 (.iad 1) [.t 118,.t 119],
 oo 121 (.ld false 1) [.t 120],
 oo 122 .call [.f nref14_Entry,.t 121],
 oo 123 (.build [v0,v0,v0] [(0,1),(1,1),(2,1)]) [.t 122,ki 1,ki 1],
 oo 124 (.bsl 3 1 [v0,v0,v0] [0]) [.t 123],
 oo 125 (.app 3 24) [.t 117,.t 124],
 oo 126 (.fad 1) [.t 11],
 ou (.st 1) [.t 126,.t 125]] [[],[0],[],[],[2,3],[4],[5],[6],[7],[1,8,6],[0,1,2,3,4,5,6,7,8,9],[10,9,9,0,1,2,3,4,5,6,7,8,9]])
 .skip)))
 (.reg false [oo 106 .mv [.t 15],oo 107 (.bin .add) [.t 106,ki 1],oo 15 .mv [.t 107]] []))))))
 (.seq (.seq
 (.reg false [oo 16 .mv [ki 0]] [])
 (.block 6 (.loop
 (.seq (.seq
 (.reg false [oo 127 .mv [.t 16],oo 128 (.fad 1) [.t 3],oo 129 (.ld false 1) [.t 128],oo 130 .len [.t 129],oo 131 (.bin .lss) [.t 127,.t 130]] [])
 (.cond (.t 131)
 .skip
 (.exit 6)))
 (.seq (.block 7 (.seq (.reg false [oo 134 (.fad 1) [.t 3],oo 135 (.ld false 1) [.t 134],oo 136 .mv [.t 16],oo 137 (.iad 3) [.t 135,.t 136],oo 138 (.ld true 3) [.t 137],oo 17 (.alloc [v0,v0,v0]) [],ou (.st 3) [.t 17,.t 138]] [])
 (.seq (.reg false [oo 139 .mv [.t 9],oo 140 (.fad 0) [.t 17],oo 141 (.ld false 1) [.t 140],oo 142 (.iad 1) [.t 139,.t 141],oo 143 (.ld false 1) [.t 142],oo 144 (.bin .geq) [.t 143,ki 0]] [])
 (.cond (.t 144)
 (.reg true [
 oo 145 (.fad 1) [.t 11],
 oo 146 (.ld false 1) [.t 145],
 oo 147 (.fad 0) [.t 17],
 oo 148 (.ld false 1) [.t 147],
 oo 149 .call [.f nref14_Exit,.t 148],
 oo 150 (.fad 1) [.t 17],
 oo 151 (.ld false 1) [.t 150],
 oo 152 .call [.f nref14_Entry,.t 151],
 oo 153 (.build [v0,v0,v0] [(0,1),(1,1),(2,1)]) [.t 149,.t 152,ki 64],
 oo 154 (.bsl 3 1 [v0,v0,v0] [0]) [.t 153],
 oo 155 (.app 3 24) [.t 146,.t 154],
 oo 156 (.fad 1) [.t 11],
 ou (.st 1) [.t 156,.t 155]] [[],[0],[],[2],[3],[],[5],[6,4],[4,7],[8],[1,9,7],[0,1,2,3,4,5,6,7,8,9,10],[11,10,10,0,1,2,3,4,5,6,7,8,9,10]])
 .skip))))
 (.reg false [oo 132 .mv [.t 16],oo 133 (.bin .add) [.t 132,ki 1],oo 16 .mv [.t 133]] []))))))
 (.seq (.reg false [oo 157 (.ld true 2) [.t 11],ou (.st 2) [.t 6,.t 157],oo 7 .mv [ki 0]] [])
 .ret)))))))))))⟩
def cref16_Proves : AFun:=⟨17,[(6,none)],
 (.seq (.reg false [oo 3 (.box 2) [.t 0],oo 6 .mv [.c (.bool false)]] [])
 (.seq (.reg false [oo 7 (.ld true 2) [.t 3],oo 8 .mv [.t 1],oo 9 .call [.f nref16_Valid,.t 7,.t 8],oo 10 .mv [.t 9],og 11 (.ld true 2) [.t 3] 10,og 12 .mv [.t 1] 10,og 13 .call [.f nref16_Capacity,.t 11,.t 12] 10,og 14 .mv [.t 2] 10,og 15 (.bin .leq) [.t 13,.t 14] 10,oo 16 .pick [.t 10,.t 15,.c (.bool false)],oo 6 .mv [.t 16]] [])
 .ret))⟩
def cref13_All : AFun:=⟨31,[(4,none)],
 (.seq (.reg false [oo 2 (.box 3) [.t 0],oo 3 (.box 3) [.t 1],oo 4 .mv [kn]] [])
 (.seq (.reg true [oo 8 (.ld true 3) [.t 2],oo 9 (.fad 2) [.t 3],oo 10 (.ld false 1) [.t 9],oo 11 .call [.f nref11_Level,.t 8,.t 10],oo 12 (.fad 0) [.t 3],oo 13 (.ld false 1) [.t 12],oo 14 .call [.f nref12_All,.t 11,.t 13],oo 5 .mv [.t 14]] [[],[],[1],[0,2],[],[4],[3,5,3],[6,6,0,1,2,3,4,5,6]])
 (.seq (.reg false [oo 6 .mv [kn]] [])
 (.seq (.seq
 (.reg false [oo 7 .mv [ki 0]] [])
 (.block 0 (.loop
 (.seq (.seq
 (.reg false [oo 15 .mv [.t 7],oo 16 .mv [.t 5],oo 17 .len [.t 16],oo 18 (.bin .lss) [.t 15,.t 17]] [])
 (.cond (.t 18)
 .skip
 (.exit 0)))
 (.seq (.block 1 (.reg true [oo 21 .mv [.t 6],oo 22 (.ld true 3) [.t 3],oo 23 .mv [.t 5],oo 24 .mv [.t 7],oo 25 (.iad 1) [.t 23,.t 24],oo 26 (.ld false 1) [.t 25],oo 27 .call [.f nref13_Of,.t 22,.t 26],oo 28 (.bsl 1 1 [v0] [0]) [.t 27],oo 29 (.app 1 8) [.t 21,.t 28],oo 6 .mv [.t 29]] [[],[],[],[],[2,3],[4],[1,5],[6],[0,7,6],[8,8,0,1,2,3,4,5,6,7,8]]))
 (.reg false [oo 19 .mv [.t 7],oo 20 (.bin .add) [.t 19,ki 1],oo 7 .mv [.t 20]] []))))))
 (.seq (.reg false [oo 30 .mv [.t 6],oo 4 .mv [.t 30]] [])
 .ret)))))⟩
def cref44_path : AFun:=⟨65,[(8,none)],
 (.seq (.reg false [oo 4 (.box 3) [.t 0],oo 5 (.box 3) [.t 1],oo 8 .mv [.c (.bool false)]] [])
 (.seq (.seq
 (.reg true [oo 10 .mv [.t 3],oo 11 .len [.t 10],oo 12 (.bin .eql) [.t 11,ki 0],oo 13 .mv [.t 12],oh 14 (.fad 0) [.t 5] 13,oh 15 (.ld false 1) [.t 14] 13,oh 16 .mv [.t 3] 13,oh 17 (.iad 1) [.t 16,ki 0] 13,oh 18 (.ld false 1) [.t 17] 13,oh 19 .call [.f nref24_Has,.t 15,.t 18] 13,oh 20 (.un .not) [.t 19] 13,oo 21 .pick [.t 13,.c (.bool true),.t 20]] [[],[0],[1],[2],[3],[4,3],[3],[6,3],[7,3],[5,8,3,3],[9,3],[3,10]])
 (.cond (.t 21)
 (.seq (.reg false [
 oo 8 .mv [.c (.bool false)]] [])
 .ret)
 .skip))
 (.seq (.seq
 (.reg false [oo 9 .mv [ki 0]] [])
 (.block 0 (.loop
 (.seq (.seq
 (.reg false [oo 22 .mv [.t 9],oo 23 .mv [.t 3],oo 24 .len [.t 23],oo 25 (.bin .lss) [.t 22,.t 24]] [])
 (.cond (.t 25)
 .skip
 (.exit 0)))
 (.seq (.block 1 (.seq (.reg true [oo 28 .mv [.t 2],oo 29 .mv [.t 3],oo 30 .mv [.t 9],oo 31 (.iad 1) [.t 29,.t 30],oo 32 (.ld false 1) [.t 31],oo 33 .call [.f nref24_Has,.t 28,.t 32],oo 34 (.un .not) [.t 33],oo 35 .mv [.t 34],oh 36 .mv [.t 3] 35,oh 37 .mv [.t 9] 35,oh 38 (.slc 1 false true false) [.t 36,.t 37] 35,oh 39 .mv [.t 3] 35,oh 40 .mv [.t 9] 35,oh 41 (.iad 1) [.t 39,.t 40] 35,oh 42 (.ld false 1) [.t 41] 35,oh 43 .call [.f nref24_Has,.t 38,.t 42] 35,oo 44 .pick [.t 35,.c (.bool true),.t 43],oo 45 .mv [.t 44],oh 46 .mv [.t 9] 45,oh 47 (.bin .gtr) [.t 46,ki 0] 45,oh 48 .mv [.t 47] 45,og 49 (.ld true 3) [.t 4] 48,og 50 (.fad 2) [.t 5] 48,og 51 (.ld false 1) [.t 50] 48,og 52 .mv [.t 3] 48,og 53 .mv [.t 9] 48,og 54 (.bin .sub) [.t 53,ki 1] 48,og 55 (.iad 1) [.t 52,.t 54] 48,og 56 (.ld false 1) [.t 55] 48,og 57 .mv [.t 3] 48,og 58 .mv [.t 9] 48,og 59 (.iad 1) [.t 57,.t 58] 48,og 60 (.ld false 1) [.t 59] 48,og 61 .call [.f nref44_edge,.t 49,.t 51,.t 56,.t 60] 48,og 62 (.un .not) [.t 61] 48,oh 63 .pick [.t 48,.t 62,.c (.bool false)] 45,oo 64 .pick [.t 45,.c (.bool true),.t 63]] [[],[],[],[1,2],[3],[0,4],[5],[6,5],[7],[7],[8,9,7],[7],[7],[11,12,7],[13,7],[10,14,7,7],[7,15],[16,15],[17],[18,17],[19,17,17],[20],[20],[22,20],[20],[20],[25,20],[24,26,20],[27,20],[20],[20],[29,30,20],[31,20],[21,23,28,32,20,20],[33,20],[20,34,17],[17,35]])
 (.cond (.t 64)
 (.seq (.reg false [
 oo 8 .mv [.c (.bool false)]] [])
 .ret)
 .skip)))
 (.reg false [oo 26 .mv [.t 9],oo 27 (.bin .add) [.t 26,ki 1],oo 9 .mv [.t 27]] []))))))
 (.seq (.reg false [oo 8 .mv [.c (.bool true)]] [])
 .ret))))⟩
def cref15_Max : AFun:=⟨112,[(2,none),(3,none)],
 (.seq (.reg false [oo 1 (.box 2) [.t 0],oo 2 .mv [kn],oo 3 .mv [ki 0]] [])
 (.seq (.seq
 (.reg false [oo 11 (.ld true 2) [.t 1],oo 12 .call [.f nref15_Check,.t 11],oo 13 (.bin .neq) [.t 12,ki 0]] [])
 (.cond (.t 13)
 (.seq (.reg false [
 oo 2 .mv [kn],
 oo 3 .mv [ki 16]] [])
 .ret)
 .skip))
 (.seq (.reg false [oo 14 (.fad 1) [.t 1],oo 15 (.ld false 1) [.t 14],oo 16 .len [.t 15],oo 17 (.mks 1 8 [v0]) [.t 16,.t 16],oo 4 .mv [.t 17]] [])
 (.block 0 (.loop
 (.block 1 (.seq (.reg false [oo 18 (.ld true 2) [.t 1],oo 19 .mv [.t 4],oo 20 .call [.f nref15_Residual,.t 18,.t 19],oo 5 .mv [.t 20]] [])
 (.seq (.seq
 (.reg false [oo 21 .mv [.t 5],oo 22 (.iad 1) [.t 21,ki 1],oo 23 (.ld false 1) [.t 22],oo 24 (.bin .eql) [.t 23,ki 0]] [])
 (.cond (.t 24)
 (.seq (.reg false [
 oo 25 .mv [.t 4],
 oo 2 .mv [.t 25],
 oo 3 .mv [ki 0]] [])
 .ret)
 .skip))
 (.seq (.reg false [oo 6 .mv [ki 1048576]] [])
 (.seq (.seq
 (.reg false [oo 7 .mv [ki 1]] [])
 (.block 2 (.loop
 (.seq (.seq
 (.reg false [oo 26 .mv [.t 7],oo 27 (.bin .neq) [.t 26,ki 0]] [])
 (.cond (.t 27)
 .skip
 (.exit 2)))
 (.block 3 (.seq (.reg false [oo 28 .mv [.t 5],oo 29 .mv [.t 7],oo 30 (.iad 1) [.t 28,.t 29],oo 31 (.ld false 1) [.t 30],oo 8 .mv [.t 31]] [])
 (.seq (.reg false [oo 32 .mv [.t 8],oo 33 (.bin .gtr) [.t 32,ki 0]] [])
 (.cond (.t 33)
 (.reg true [
 oo 34 .mv [.t 6],
 oo 35 (.fad 1) [.t 1],
 oo 36 (.ld false 1) [.t 35],
 oo 37 .mv [.t 8],
 oo 38 (.bin .sub) [.t 37,ki 1],
 oo 39 (.iad 3) [.t 36,.t 38],
 oo 40 (.fad 2) [.t 39],
 oo 41 (.ld false 1) [.t 40],
 oo 42 .mv [.t 4],
 oo 43 .mv [.t 8],
 oo 44 (.bin .sub) [.t 43,ki 1],
 oo 45 (.iad 1) [.t 42,.t 44],
 oo 46 (.ld false 1) [.t 45],
 oo 47 (.bin .sub) [.t 41,.t 46],
 oo 48 .mn2 [.t 34,.t 47],
 oo 49 (.fad 1) [.t 1],
 oo 50 (.ld false 1) [.t 49],
 oo 51 .mv [.t 8],
 oo 52 (.bin .sub) [.t 51,ki 1],
 oo 53 (.iad 3) [.t 50,.t 52],
 oo 54 (.fad 0) [.t 53],
 oo 55 (.ld false 1) [.t 54],
 oo 6 .mv [.t 48],
 oo 7 .mv [.t 55]] [[],[],[1],[],[3],[2,4],[5],[6],[],[],[9],[8,10],[11],[7,12],[0,13],[],[15],[],[17],[16,18],[19],[20],[14,0,1,2,3,4,5,6,7,8,9,10,11,12,13,14],[21,22,0,1,2,3,4,5,6,7,8,9,10,11,12,13,14,15,16,17,18,19,20,21,22]])
 (.reg true [
 oo 56 .mv [.t 6],
 oo 57 .mv [.t 4],
 oo 58 .mv [.t 8],
 oo 59 (.un .neg) [.t 58],
 oo 60 (.bin .sub) [.t 59,ki 1],
 oo 61 (.iad 1) [.t 57,.t 60],
 oo 62 (.ld false 1) [.t 61],
 oo 63 .mn2 [.t 56,.t 62],
 oo 64 (.fad 1) [.t 1],
 oo 65 (.ld false 1) [.t 64],
 oo 66 .mv [.t 8],
 oo 67 (.un .neg) [.t 66],
 oo 68 (.bin .sub) [.t 67,ki 1],
 oo 69 (.iad 3) [.t 65,.t 68],
 oo 70 (.fad 1) [.t 69],
 oo 71 (.ld false 1) [.t 70],
 oo 6 .mv [.t 63],
 oo 7 .mv [.t 71]] [[],[],[],[2],[3],[1,4],[5],[0,6],[],[8],[],[10],[11],[9,12],[13],[14],[7,0,1,2,3,4,5,6,7],[15,16,0,1,2,3,4,5,6,7,8,9,10,11,12,13,14,15,16]])))))))))
 (.seq (.reg false [oo 9 .mv [ki 1]] [])
 (.block 4 (.loop
 (.seq (.seq
 (.reg false [oo 72 .mv [.t 9],oo 73 (.bin .neq) [.t 72,ki 0]] [])
 (.cond (.t 73)
 .skip
 (.exit 4)))
 (.block 5 (.seq (.reg false [oo 74 .mv [.t 5],oo 75 .mv [.t 9],oo 76 (.iad 1) [.t 74,.t 75],oo 77 (.ld false 1) [.t 76],oo 10 .mv [.t 77]] [])
 (.seq (.reg false [oo 78 .mv [.t 10],oo 79 (.bin .gtr) [.t 78,ki 0]] [])
 (.cond (.t 79)
 (.seq (.reg false [
 oo 80 .mv [.t 4],
 oo 81 .mv [.t 10],
 oo 82 (.bin .sub) [.t 81,ki 1],
 oo 83 (.iad 1) [.t 80,.t 82],
 oo 84 (.ld false 1) [.t 83],
 oo 85 .mv [.t 6],
 oo 86 (.bin .add) [.t 84,.t 85],
 oo 87 (.iad 1) [.t 80,.t 82],
 ou (.st 1) [.t 87,.t 86]] [])
 (.reg false [
 oo 88 (.fad 1) [.t 1],
 oo 89 (.ld false 1) [.t 88],
 oo 90 .mv [.t 10],
 oo 91 (.bin .sub) [.t 90,ki 1],
 oo 92 (.iad 3) [.t 89,.t 91],
 oo 93 (.fad 0) [.t 92],
 oo 94 (.ld false 1) [.t 93],
 oo 9 .mv [.t 94]] []))
 (.seq (.reg false [
 oo 95 .mv [.t 4],
 oo 96 .mv [.t 10],
 oo 97 (.un .neg) [.t 96],
 oo 98 (.bin .sub) [.t 97,ki 1],
 oo 99 (.iad 1) [.t 95,.t 98],
 oo 100 (.ld false 1) [.t 99],
 oo 101 .mv [.t 6],
 oo 102 (.bin .sub) [.t 100,.t 101],
 oo 103 (.iad 1) [.t 95,.t 98],
 ou (.st 1) [.t 103,.t 102]] [])
 (.reg false [
 oo 104 (.fad 1) [.t 1],
 oo 105 (.ld false 1) [.t 104],
 oo 106 .mv [.t 10],
 oo 107 (.un .neg) [.t 106],
 oo 108 (.bin .sub) [.t 107,ki 1],
 oo 109 (.iad 3) [.t 105,.t 108],
 oo 110 (.fad 1) [.t 109],
 oo 111 (.ld false 1) [.t 110],
 oo 9 .mv [.t 111]] []))))))))))))))))))))⟩
def cref43_walk : AFun:=⟨73,[(4,none)],
 (.seq (.reg false [oo 2 (.box 2) [.t 0],oo 4 .mv [kn]] [])
 (.seq (.reg false [oo 5 .mv [kn]] [])
 (.seq (.reg false [oo 9 (.bsl 1 1 [v0] [0]) [ki 0],oo 6 .mv [.t 9]] [])
 (.seq (.block 0 (.loop
 (.seq (.seq
 (.reg false [oo 10 .mv [.t 6],oo 11 .mv [.t 6],oo 12 .len [.t 11],oo 13 (.bin .sub) [.t 12,ki 1],oo 14 (.iad 1) [.t 10,.t 13],oo 15 (.ld false 1) [.t 14],oo 16 (.bin .neq) [.t 15,ki 1]] [])
 (.cond (.t 16)
 .skip
 (.exit 0)))
 (.block 1 (.seq (.reg true [oo 17 (.ld true 2) [.t 2],oo 18 .mv [.t 1],oo 19 .mv [.t 6],oo 20 .mv [.t 6],oo 21 .len [.t 20],oo 22 (.bin .sub) [.t 21,ki 1],oo 23 (.iad 1) [.t 19,.t 22],oo 24 (.ld false 1) [.t 23],oo 25 .call [.f nref43_next,.t 17,.t 18,.t 24],oo 7 .mv [.t 25]] [[],[],[],[],[3],[4],[2,5],[6],[0,1,7],[8,8,0,1,2,3,4,5,6,7,8]])
 (.seq (.seq
 (.reg false [oo 26 .mv [.t 7],oo 27 (.bin .lss) [.t 26,ki 0]] [])
 (.cond (.t 27)
 (.seq (.reg false [
 oo 4 .mv [kn]] [])
 .ret)
 .skip))
 (.seq (.reg false [oo 28 .mv [.t 1],oo 29 .mv [.t 7],oo 30 (.iad 1) [.t 28,.t 29],oo 31 (.ld false 1) [.t 30],oo 32 (.bin .sub) [.t 31,ki 1],oo 33 (.iad 1) [.t 28,.t 29],ou (.st 1) [.t 33,.t 32]] [])
 (.seq (.reg true [oo 34 .mv [.t 5],oo 35 .mv [.t 7],oo 36 (.bsl 1 1 [v0] [0]) [.t 35],oo 37 (.app 1 8) [.t 34,.t 36],oo 38 .mv [.t 6],oo 39 (.fad 1) [.t 2],oo 40 (.ld false 1) [.t 39],oo 41 .mv [.t 7],oo 42 (.iad 3) [.t 40,.t 41],oo 43 (.fad 1) [.t 42],oo 44 (.ld false 1) [.t 43],oo 45 (.bsl 1 1 [v0] [0]) [.t 44],oo 46 (.app 1 8) [.t 38,.t 45],oo 5 .mv [.t 37],oo 6 .mv [.t 46]] [[],[],[1],[0,2],[],[],[5],[],[6,7],[8],[9],[10],[4,11,3],[3,12,0,1,2,3],[12,13,0,1,2,3,4,5,6,7,8,9,10,11,12,13]])
 (.seq (.reg false [oo 8 .mv [ki 0]] [])
 (.block 2 (.loop
 (.seq (.seq
 (.reg false [oo 47 .mv [.t 8],oo 48 .mv [.t 6],oo 49 .len [.t 48],oo 50 (.bin .sub) [.t 49,ki 1],oo 51 (.bin .lss) [.t 47,.t 50]] [])
 (.cond (.t 51)
 .skip
 (.exit 2)))
 (.seq (.block 3 (.seq (.reg true [oo 54 .mv [.t 6],oo 55 .mv [.t 8],oo 56 (.iad 1) [.t 54,.t 55],oo 57 (.ld false 1) [.t 56],oo 58 (.fad 1) [.t 2],oo 59 (.ld false 1) [.t 58],oo 60 .mv [.t 7],oo 61 (.iad 3) [.t 59,.t 60],oo 62 (.fad 1) [.t 61],oo 63 (.ld false 1) [.t 62],oo 64 (.bin .eql) [.t 57,.t 63]] [[],[],[0,1],[2],[],[4],[],[5,6],[7],[8],[3,9]])
 (.cond (.t 64)
 (.seq (.reg true [
 oo 65 .mv [.t 5],
 oo 66 .mv [.t 8],
 oo 67 (.slc 1 false true false) [.t 65,.t 66],
 oo 68 .mv [.t 6],
 oo 69 .mv [.t 8],
 oo 70 (.bin .add) [.t 69,ki 1],
 oo 71 (.slc 1 false true false) [.t 68,.t 70],
 oo 5 .mv [.t 67],
 oo 6 .mv [.t 71]] [[],[],[0,1],[],[],[4],[3,5],[2,0,1,2],[6,7,0,1,2,3,4,5,6,7]])
 (.exit 2))
 .skip)))
 (.reg false [oo 52 .mv [.t 8],oo 53 (.bin .add) [.t 52,ki 1],oo 8 .mv [.t 53]] []))))))))))))))
 (.seq (.reg false [oo 72 .mv [.t 5],oo 4 .mv [.t 72]] [])
 .ret)))))⟩
def cref43_Keys : AFun:=⟨87,[(6,none),(7,none)],
 (.seq (.reg false [oo 6 .mv [kn],oo 7 .mv [ki 0]] [])
 (.seq (.seq
 (.reg false [oo 12 .mv [.t 0],oo 13 (.bin .lss) [.t 12,ki 0],oo 14 .mv [.t 13],oh 15 .mv [.t 0] 14,oh 16 (.bin .gtr) [.t 15,ki 64] 14,oo 17 .pick [.t 14,.c (.bool true),.t 16]] [])
 (.cond (.t 17)
 (.seq (.reg false [
 oo 6 .mv [kn],
 oo 7 .mv [ki 16]] [])
 .ret)
 .skip))
 (.seq (.seq
 (.reg false [oo 18 .mv [.t 2],oo 19 .len [.t 18],oo 20 (.bin .eql) [.t 19,ki 0]] [])
 (.cond (.t 20)
 (.seq (.reg false [
 oo 6 .mv [kn],
 oo 7 .mv [ki 17]] [])
 .ret)
 .skip))
 (.seq (.reg false [oo 8 .mv [kn]] [])
 (.seq (.reg false [oo 9 .mv [ki 0]] [])
 (.seq (.seq
 (.reg false [oo 10 .mv [ki 0]] [])
 (.block 0 (.loop
 (.seq (.seq
 (.reg false [oo 21 .mv [.t 10],oo 22 .mv [.t 2],oo 23 .len [.t 22],oo 24 (.bin .lss) [.t 21,.t 23]] [])
 (.cond (.t 24)
 .skip
 (.exit 0)))
 (.seq (.block 1 (.seq (.seq
 (.reg false [oo 27 .mv [.t 2],oo 28 .mv [.t 10],oo 29 (.iad 1) [.t 27,.t 28],oo 30 (.ld false 1) [.t 29],oo 31 (.bin .lss) [.t 30,ki 0],oo 32 .mv [.t 31],oh 33 .mv [.t 2] 32,oh 34 .mv [.t 10] 32,oh 35 (.iad 1) [.t 33,.t 34] 32,oh 36 (.ld false 1) [.t 35] 32,oh 37 .mv [.t 1] 32,oh 38 .len [.t 37] 32,oh 39 (.bin .geq) [.t 36,.t 38] 32,oo 40 .pick [.t 32,.c (.bool true),.t 39],oo 41 .mv [.t 40],oh 42 .mv [.t 1] 41,oh 43 .mv [.t 2] 41,oh 44 .mv [.t 10] 41,oh 45 (.iad 1) [.t 43,.t 44] 41,oh 46 (.ld false 1) [.t 45] 41,oh 47 (.iad 3) [.t 42,.t 46] 41,oh 48 (.fad 0) [.t 47] 41,oh 49 (.ld false 1) [.t 48] 41,oh 50 .mv [.t 9] 41,oh 51 (.bin .neq) [.t 49,.t 50] 41,oo 52 .pick [.t 41,.c (.bool true),.t 51]] [])
 (.cond (.t 52)
 (.seq (.reg false [
 oo 6 .mv [kn],
 oo 7 .mv [ki 17]] [])
 .ret)
 .skip))
 (.seq (.reg false [oo 53 .mv [.t 1],oo 54 .mv [.t 2],oo 55 .mv [.t 10],oo 56 (.iad 1) [.t 54,.t 55],oo 57 (.ld false 1) [.t 56],oo 58 (.iad 3) [.t 53,.t 57],oo 59 (.fad 1) [.t 58],oo 60 (.ld false 1) [.t 59],oo 9 .mv [.t 60]] [])
 (.seq (.seq
 (.reg false [oo 61 .mv [.t 10],oo 62 .mv [.t 2],oo 63 .len [.t 62],oo 64 (.bin .sub) [.t 63,ki 1],oo 65 (.bin .eql) [.t 61,.t 64]] [])
 (.cond (.t 65)
 (.exit 0)
 .skip))
 (.seq (.seq
 (.reg false [oo 66 .mv [.t 9],oo 67 (.bin .lss) [.t 66,ki 2],oo 68 .mv [.t 67],oh 69 .mv [.t 9] 68,oh 70 .mv [.t 0] 68,oh 71 (.bin .mul) [ki 2,.t 70] 68,oh 72 (.bin .add) [ki 2,.t 71] 68,oh 73 (.bin .geq) [.t 69,.t 72] 68,oo 74 .pick [.t 68,.c (.bool true),.t 73]] [])
 (.cond (.t 74)
 (.seq (.reg false [
 oo 6 .mv [kn],
 oo 7 .mv [ki 17]] [])
 .ret)
 .skip))
 (.seq (.reg false [oo 75 .mv [.t 0],oo 76 .mv [.t 9],oo 77 .call [.f nref43_entry,.t 75,.t 76],oo 11 .mv [.t 77]] [])
 (.seq (.reg false [oo 78 .mv [.t 11],oo 79 (.bin .geq) [.t 78,ki 0]] [])
 (.cond (.t 79)
 (.reg false [
 oo 80 .mv [.t 8],
 oo 81 .mv [.t 11],
 oo 82 (.bsl 1 1 [v0] [0]) [.t 81],
 oo 83 (.app 1 8) [.t 80,.t 82],
 oo 8 .mv [.t 83]] [])
 .skip))))))))
 (.reg false [oo 25 .mv [.t 10],oo 26 (.bin .add) [.t 25,ki 1],oo 10 .mv [.t 26]] []))))))
 (.seq (.seq
 (.reg false [oo 84 .mv [.t 9],oo 85 (.bin .neq) [.t 84,ki 1]] [])
 (.cond (.t 85)
 (.seq (.reg false [
 oo 6 .mv [kn],
 oo 7 .mv [ki 17]] [])
 .ret)
 .skip))
 (.seq (.reg false [oo 86 .mv [.t 8],oo 6 .mv [.t 86],oo 7 .mv [ki 0]] [])
 .ret))))))))⟩
def cref13_policy : AFun:=⟨79,[(4,none)],
 (.seq (.reg false [oo 2 (.box 3) [.t 0],oo 3 (.box 3) [.t 1],oo 4 .mv [.c (.bool false)]] [])
 (.seq (.seq
 (.reg false [oo 6 (.fad 0) [.t 3],oo 7 (.ld false 1) [.t 6],oo 8 .len [.t 7],oo 9 (.bin .eql) [.t 8,ki 0],oo 10 .mv [.t 9],oh 11 (.fad 0) [.t 3] 10,oh 12 (.ld false 1) [.t 11] 10,oh 13 (.fad 0) [.t 2] 10,oh 14 (.ld false 1) [.t 13] 10,oh 15 .call [.f nref11_Set,.t 12,.t 14] 10,oh 16 (.un .not) [.t 15] 10,oo 17 .pick [.t 10,.c (.bool true),.t 16],oo 18 .mv [.t 17],oh 19 (.fad 1) [.t 3] 18,oh 20 (.ld false 1) [.t 19] 18,oh 21 .len [.t 20] 18,oh 22 (.bin .lss) [.t 21,ki 1] 18,oo 23 .pick [.t 18,.c (.bool true),.t 22],oo 24 .mv [.t 23],oh 25 (.fad 1) [.t 3] 24,oh 26 (.ld false 1) [.t 25] 24,oh 27 .len [.t 26] 24,oh 28 (.bin .gtr) [.t 27,ki 8] 24,oo 29 .pick [.t 24,.c (.bool true),.t 28],oo 30 .mv [.t 29],oh 31 (.fad 2) [.t 3] 30,oh 32 (.ld false 1) [.t 31] 30,oh 33 (.bin .lss) [.t 32,ki 1] 30,oo 34 .pick [.t 30,.c (.bool true),.t 33],oo 35 .mv [.t 34],oh 36 (.fad 2) [.t 3] 35,oh 37 (.ld false 1) [.t 36] 35,oh 38 (.bin .gtr) [.t 37,ki 3] 35,oo 39 .pick [.t 35,.c (.bool true),.t 38]] [])
 (.cond (.t 39)
 (.seq (.reg false [
 oo 4 .mv [.c (.bool false)]] [])
 .ret)
 .skip))
 (.seq (.seq
 (.reg false [oo 5 .mv [ki 0]] [])
 (.block 0 (.loop
 (.seq (.seq
 (.reg false [oo 40 .mv [.t 5],oo 41 (.fad 1) [.t 3],oo 42 (.ld false 1) [.t 41],oo 43 .len [.t 42],oo 44 (.bin .lss) [.t 40,.t 43]] [])
 (.cond (.t 44)
 .skip
 (.exit 0)))
 (.seq (.block 1 (.seq (.reg true [oo 47 (.fad 1) [.t 3],oo 48 (.ld false 1) [.t 47],oo 49 .mv [.t 5],oo 50 (.iad 1) [.t 48,.t 49],oo 51 (.ld false 1) [.t 50],oo 52 (.bin .lss) [.t 51,ki 1],oo 53 .mv [.t 52],oh 54 (.fad 1) [.t 3] 53,oh 55 (.ld false 1) [.t 54] 53,oh 56 .mv [.t 5] 53,oh 57 (.iad 1) [.t 55,.t 56] 53,oh 58 (.ld false 1) [.t 57] 53,oh 59 (.bin .gtr) [.t 58,ki 1000] 53,oo 60 .pick [.t 53,.c (.bool true),.t 59],oo 61 .mv [.t 60],oh 62 .mv [.t 5] 61,oh 63 (.bin .gtr) [.t 62,ki 0] 61,oh 64 .mv [.t 63] 61,og 65 (.fad 1) [.t 3] 64,og 66 (.ld false 1) [.t 65] 64,og 67 .mv [.t 5] 64,og 68 (.iad 1) [.t 66,.t 67] 64,og 69 (.ld false 1) [.t 68] 64,og 70 (.fad 1) [.t 3] 64,og 71 (.ld false 1) [.t 70] 64,og 72 .mv [.t 5] 64,og 73 (.bin .sub) [.t 72,ki 1] 64,og 74 (.iad 1) [.t 71,.t 73] 64,og 75 (.ld false 1) [.t 74] 64,og 76 (.bin .gtr) [.t 69,.t 75] 64,oh 77 .pick [.t 64,.t 76,.c (.bool false)] 61,oo 78 .pick [.t 61,.c (.bool true),.t 77]] [[],[0],[],[1,2],[3],[4],[5],[6],[7,6],[6],[8,9,6],[10,6],[11,6],[6,12],[13,6],[14],[15,14],[16,14,14],[17],[18,17],[17],[19,20,17],[21,17],[17],[23,17],[17],[25,17],[24,26,17],[27,17],[22,28,17],[17,29,14],[14,30]])
 (.cond (.t 78)
 (.seq (.reg false [
 oo 4 .mv [.c (.bool false)]] [])
 .ret)
 .skip)))
 (.reg false [oo 45 .mv [.t 5],oo 46 (.bin .add) [.t 45,ki 1],oo 5 .mv [.t 46]] []))))))
 (.seq (.reg false [oo 4 .mv [.c (.bool true)]] [])
 .ret))))⟩
def cref17_served : AFun:=⟨33,[(6,some (true,2)),(7,none),(8,none)],
 (.seq (.reg false [oo 3 (.box 3) [.t 0],oo 4 (.box 3) [.t 1],oo 6 (.alloc [v0,vn]) [],oo 7 .mv [kn],oo 8 .mv [.c (.bool false)]] [])
 (.seq (.reg false [oo 14 (.ld true 3) [.t 3],oo 15 (.ld true 3) [.t 4],oo 16 .mv [.t 2],oo 17 .call [.f nref14_Network,.t 14,.t 15,.t 16],oo 13 .mv [.t 17],oo 18 (.ext 0) [.t 13],oo 19 (.ext 1) [.t 13],oo 9 (.alloc [v0,vn]) [],ou (.st 2) [.t 9,.t 18],oo 10 .mv [.t 19]] [])
 (.seq (.reg false [oo 21 (.ld true 2) [.t 9],oo 22 .call [.f nref15_Max,.t 21],oo 20 .mv [.t 22],oo 23 (.ext 0) [.t 20],oo 24 (.ext 1) [.t 20],oo 11 .mv [.t 23],oo 12 .mv [.t 24]] [])
 (.seq (.reg true [oo 25 (.ld true 2) [.t 9],oo 26 .mv [.t 11],oo 27 (.ld true 2) [.t 9],oo 28 .mv [.t 11],oo 29 .call [.f nref15_Value,.t 27,.t 28],oo 30 .mv [.t 2],oo 31 .len [.t 30],oo 32 (.bin .eql) [.t 29,.t 31],ou (.st 2) [.t 6,.t 25],oo 7 .mv [.t 26],oo 8 .mv [.t 32]] [[],[],[],[],[2,3],[],[5],[4,6],[0,4,0],[1,8,0,1,8],[7,9,0,1,2,3,4,5,6,7,8,9]])
 .ret))))⟩
def cref16_Nearest : AFun:=⟨37,[(2,none),(3,none)],
 (.seq (.reg false [oo 1 (.box 2) [.t 0],oo 2 .mv [kn],oo 3 .mv [ki 0]] [])
 (.seq (.reg false [oo 10 (.ld true 2) [.t 1],oo 11 .call [.f nref15_Max,.t 10],oo 9 .mv [.t 11],oo 12 (.ext 0) [.t 9],oo 13 (.ext 1) [.t 9],oo 4 .mv [.t 12],oo 5 .mv [.t 13]] [])
 (.seq (.seq
 (.reg false [oo 14 .mv [.t 5],oo 15 (.bin .neq) [.t 14,ki 0]] [])
 (.cond (.t 15)
 (.seq (.reg false [
 oo 16 .mv [.t 5],
 oo 2 .mv [kn],
 oo 3 .mv [.t 16]] [])
 .ret)
 .skip))
 (.seq (.reg false [oo 17 (.ld true 2) [.t 1],oo 18 .mv [.t 4],oo 19 .call [.f nref15_Residual,.t 17,.t 18],oo 6 .mv [.t 19]] [])
 (.seq (.reg false [oo 20 (.bsl 1 1 [v0] [0]) [ki 0],oo 7 .mv [.t 20]] [])
 (.seq (.seq
 (.reg false [oo 8 .mv [ki 1]] [])
 (.block 0 (.loop
 (.seq (.seq
 (.reg false [oo 21 .mv [.t 8],oo 22 (.fad 0) [.t 1],oo 23 (.ld false 1) [.t 22],oo 24 (.bin .lss) [.t 21,.t 23]] [])
 (.cond (.t 24)
 .skip
 (.exit 0)))
 (.seq (.block 1 (.seq (.reg false [oo 27 .mv [.t 6],oo 28 .mv [.t 8],oo 29 (.iad 1) [.t 27,.t 28],oo 30 (.ld false 1) [.t 29],oo 31 (.bin .neq) [.t 30,ki 0]] [])
 (.cond (.t 31)
 (.reg false [
 oo 32 .mv [.t 7],
 oo 33 .mv [.t 8],
 oo 34 (.bsl 1 1 [v0] [0]) [.t 33],
 oo 35 (.app 1 8) [.t 32,.t 34],
 oo 7 .mv [.t 35]] [])
 .skip)))
 (.reg false [oo 25 .mv [.t 8],oo 26 (.bin .add) [.t 25,ki 1],oo 8 .mv [.t 26]] []))))))
 (.seq (.reg false [oo 36 .mv [.t 7],oo 2 .mv [.t 36],oo 3 .mv [ki 0]] [])
 .ret)))))))⟩
def ccapacity_All : AFun:=⟨30,[(4,none)],
 (.seq (.reg false [oo 2 (.box 3) [.t 0],oo 3 (.box 3) [.t 1],oo 4 .mv [kn]] [])
 (.seq (.reg true [oo 8 (.ld true 3) [.t 2],oo 9 (.fad 2) [.t 3],oo 10 (.ld false 1) [.t 9],oo 11 .call [.f ngraph_Level,.t 8,.t 10],oo 12 (.fad 0) [.t 3],oo 13 (.ld false 1) [.t 12],oo 14 .call [.f ndistance_All,.t 11,.t 13],oo 5 .mv [.t 14]] [[],[],[1],[0,2],[],[4],[3,5,3],[6,6,0,1,2,3,4,5,6]])
 (.seq (.seq
 (.reg false [oo 15 .mv [.t 5],oo 16 .len [.t 15],oo 17 .mv [ki 0]] [])
 (.block 0 (.loop
 (.seq (.reg false [oo 18 (.bin .lss) [.t 17,.t 16]] [])
 (.seq (.cond (.t 18)
 .skip
 (.exit 0))
 (.seq (.block 1 (.seq (.reg false [oo 19 .mv [.t 17],oo 20 (.iad 1) [.t 15,.t 17],oo 21 (.ld false 1) [.t 20],oo 6 .mv [.t 19],oo 7 .mv [.t 21]] [])
 (.reg false [oo 22 .mv [.t 5],oo 23 .mv [.t 6],oo 24 (.ld true 3) [.t 3],oo 25 .mv [.t 7],oo 26 .call [.f ncapacity_Of,.t 24,.t 25],oo 27 (.iad 1) [.t 22,.t 23],ou (.st 1) [.t 27,.t 26]] [])))
 (.reg false [oo 28 (.bin .add) [.t 17,ki 1],oo 17 .mv [.t 28]] [])))))))
 (.seq (.reg false [oo 29 .mv [.t 5],oo 4 .mv [.t 29]] [])
 .ret))))⟩
def cchecker_engine_walks : AFun:=⟨53,[(4,none)],
 (.seq (.reg false [oo 2 (.box 6) [.t 0],oo 4 .mv [.c (.bool false)]] [])
 (.seq (.seq
 (.reg false [oo 7 .mv [.t 1],oo 8 .len [.t 7],oo 9 .mv [ki 0]] [])
 (.block 0 (.loop
 (.seq (.reg false [oo 10 (.bin .lss) [.t 9,.t 8]] [])
 (.seq (.cond (.t 10)
 .skip
 (.exit 0))
 (.seq (.block 1 (.seq (.reg false [oo 11 .mv [.t 9],oo 12 (.iad 1) [.t 7,.t 9],oo 13 (.ld false 1) [.t 12],oo 5 .mv [.t 11],oo 6 .mv [.t 13]] [])
 (.seq (.seq
 (.reg false [oo 14 (.fad 5) [.t 2],oo 15 (.ld false 1) [.t 14],oo 16 .mv [.t 6],oo 17 .call [.f nslices_Contains_Lint_int,.t 15,.t 16],oo 18 (.un .not) [.t 17],oo 19 .mv [.t 18],oh 20 .mv [.t 1] 19,oh 21 .mv [.t 5] 19,oh 22 (.slc 1 false true false) [.t 20,.t 21] 19,oh 23 .mv [.t 6] 19,oh 24 .call [.f nslices_Contains_Lint_int,.t 22,.t 23] 19,oo 25 .pick [.t 19,.c (.bool true),.t 24]] [])
 (.cond (.t 25)
 (.seq (.reg false [
 oo 4 .mv [.c (.bool false)]] [])
 .ret)
 .skip))
 (.seq (.reg true [oo 26 .mv [.t 5],oo 27 (.bin .gtr) [.t 26,ki 0],oo 28 .mv [.t 27],og 29 (.fad 0) [.t 2] 28,og 30 (.ld true 3) [.t 29] 28,og 31 .mv [.t 1] 28,og 32 .mv [.t 5] 28,og 33 (.bin .sub) [.t 32,ki 1] 28,og 34 (.iad 1) [.t 31,.t 33] 28,og 35 (.ld false 1) [.t 34] 28,og 36 .call [.f ngraph_Out,.t 30,.t 35] 28,og 37 .mv [.t 6] 28,og 38 .call [.f nslices_Contains_Lint_int,.t 36,.t 37] 28,og 39 (.un .not) [.t 38] 28,oo 40 .pick [.t 28,.t 39,.c (.bool false)]] [[],[0],[1],[2],[3,2],[2],[2],[6,2],[5,7,2],[8,2],[4,9,2,2],[2],[10,11,10,2],[12,2],[2,13]])
 (.cond (.t 40)
 (.seq (.reg false [
 oo 4 .mv [.c (.bool false)]] [])
 .ret)
 .skip)))))
 (.reg false [oo 41 (.bin .add) [.t 9,ki 1],oo 9 .mv [.t 41]] [])))))))
 (.seq (.reg true [oo 42 .mv [.t 1],oo 43 .len [.t 42],oo 44 (.bin .gtr) [.t 43,ki 0],oo 45 .mv [.t 44],og 46 (.fad 3) [.t 2] 45,og 47 (.ld false 1) [.t 46] 45,og 48 .mv [.t 1] 45,og 49 (.iad 1) [.t 48,ki 0] 45,og 50 (.ld false 1) [.t 49] 45,og 51 .call [.f nslices_Contains_Lint_int,.t 47,.t 50] 45,oo 52 .pick [.t 45,.t 51,.c (.bool false)],oo 4 .mv [.t 52]] [[],[0],[1],[2],[3],[4,3],[3],[6,3],[7,3],[5,8,3,3],[3,9],[10,9,0,1,2,3,4,5,6,7,8,9,10]])
 .ret)))⟩
def cslices_Sorted_int : AFun:=⟨9,[(2,none)],
 (.seq (.reg false [oo 2 .mv [kn]] [])
 (.seq (.reg false [oo 4 .mv [.t 0],oo 5 .call [.f nslices_Collect_int,.t 4],oo 3 .mv [.t 5]] [])
 (.seq (.reg false [oo 6 .mv [.t 3],oo 7 .call [.f nslices_Sort_Lint_int,.t 6]] [])
 (.seq (.reg false [oo 8 .mv [.t 3],oo 2 .mv [.t 8]] [])
 .ret))))⟩
def cslices_Values_Lint_int : AFun:=⟨4,[(2,none)],
 (.seq (.reg false [oo 1 (.box 1) [.t 0],oo 2 .mv [(.c .nilFunc)]] [])
 (.seq (.reg false [oo 3 (.mkf nslices_Values_Lint_int_c1) [.t 1],oo 2 .mv [.t 3]] [])
 .ret))⟩
def cchecker_engine_before : AFun:=⟨36,[(6,none)],
 (.seq (.reg false [oo 3 (.box 6) [.t 0],oo 6 .mv [.c (.bool false)]] [])
 (.seq (.reg false [oo 7 .mv [ki 0]] [])
 (.seq (.reg false [oo 12 (.fad 5) [.t 3],oo 13 (.ld false 1) [.t 12],oo 14 .mv [.t 2],oo 15 .call [.f nslices_Index_Lint_int,.t 13,.t 14],oo 8 .mv [.t 15]] [])
 (.seq (.seq
 (.reg false [oo 16 .mv [.t 1],oo 17 .len [.t 16],oo 18 .mv [ki 0]] [])
 (.block 0 (.loop
 (.seq (.reg false [oo 19 (.bin .lss) [.t 18,.t 17]] [])
 (.seq (.cond (.t 19)
 .skip
 (.exit 0))
 (.seq (.block 1 (.seq (.reg false [oo 20 (.iad 1) [.t 16,.t 18],oo 21 (.ld false 1) [.t 20],oo 10 .mv [.t 21]] [])
 (.seq (.reg false [oo 22 (.fad 5) [.t 3],oo 23 (.ld false 1) [.t 22],oo 24 .mv [.t 7],oo 25 .mv [.t 8],oo 26 (.slc 1 true true false) [.t 23,.t 24,.t 25],oo 27 .mv [.t 10],oo 28 .call [.f nslices_Index_Lint_int,.t 26,.t 27],oo 11 .mv [.t 28]] [])
 (.seq (.seq
 (.reg false [oo 29 .mv [.t 11],oo 30 (.bin .lss) [.t 29,ki 0]] [])
 (.cond (.t 30)
 (.seq (.reg false [
 oo 6 .mv [.c (.bool false)]] [])
 .ret)
 .skip))
 (.reg false [oo 31 .mv [.t 7],oo 32 .mv [.t 11],oo 33 (.bin .add) [.t 32,ki 1],oo 34 (.bin .add) [.t 31,.t 33],oo 7 .mv [.t 34]] [])))))
 (.reg false [oo 35 (.bin .add) [.t 18,ki 1],oo 18 .mv [.t 35]] [])))))))
 (.seq (.reg false [oo 6 .mv [.c (.bool true)]] [])
 .ret)))))⟩
def csplit_Network : AFun:=⟨123,[(6,some (true,2)),(7,none)],
 (.seq (.reg false [oo 3 (.box 3) [.t 0],oo 4 (.box 3) [.t 1],oo 6 (.alloc [v0,vn]) [],oo 7 .mv [ki 0]] [])
 (.seq (.seq
 (.reg false [oo 20 (.ld true 3) [.t 3],oo 21 (.ld true 3) [.t 4],oo 22 .call [.f ncapacity_Check,.t 20,.t 21],oo 8 .mv [.t 22]] [])
 (.seq (.reg false [oo 23 .mv [.t 8],oo 24 (.bin .neq) [.t 23,ki 0]] [])
 (.cond (.t 24)
 (.seq (.reg false [
 oo 25 (.build [v0,vn] []) [],
 oo 26 .mv [.t 8],
 ou (.st 2) [.t 6,.t 25],
 oo 7 .mv [.t 26]] [])
 .ret)
 .skip)))
 (.seq (.seq
 (.reg false [oo 27 .mv [.t 2],oo 28 (.fad 0) [.t 3],oo 29 (.ld false 1) [.t 28],oo 30 (.bin .sub) [.t 29,ki 1],oo 31 .call [.f nlists_Rising,.t 27,ki 0,.t 30],oo 32 (.un .not) [.t 31]] [])
 (.cond (.t 32)
 (.seq (.reg false [
 oo 33 (.build [v0,vn] []) [],
 ou (.st 2) [.t 6,.t 33],
 oo 7 .mv [ki 4]] [])
 .ret)
 .skip))
 (.seq (.reg false [oo 34 (.fad 0) [.t 3],oo 35 (.ld false 1) [.t 34],oo 36 .call [.f nsplit_Entry,.t 35],oo 37 (.build [v0,vn] [(0,1)]) [.t 36],oo 9 (.alloc [v0,vn]) [],ou (.st 2) [.t 9,.t 37]] [])
 (.seq (.reg false [oo 38 (.mkf nsplit_Network_c1) [.t 9],oo 10 .mv [.t 38]] [])
 (.seq (.reg false [oo 39 (.ld true 3) [.t 3],oo 40 (.ld true 3) [.t 4],oo 41 .call [.f ncapacity_All,.t 39,.t 40],oo 11 .mv [.t 41]] [])
 (.seq (.seq
 (.reg false [oo 42 (.fad 0) [.t 4],oo 43 (.ld false 1) [.t 42],oo 44 .len [.t 43],oo 45 .mv [ki 0]] [])
 (.block 0 (.loop
 (.seq (.reg false [oo 46 (.bin .lss) [.t 45,.t 44]] [])
 (.seq (.cond (.t 46)
 .skip
 (.exit 0))
 (.seq (.block 1 (.seq (.reg false [oo 47 (.iad 1) [.t 43,.t 45],oo 48 (.ld false 1) [.t 47],oo 13 .mv [.t 48]] [])
 (.seq (.reg false [oo 49 .mv [.t 11],oo 50 .mv [.t 13],oo 51 (.iad 1) [.t 49,.t 50],oo 52 (.ld false 1) [.t 51],oo 53 (.bin .gtr) [.t 52,ki 0]] [])
 (.cond (.t 53)
 (.reg true [
 oo 54 .mv [.t 10],
 oo 55 .mv [.t 13],
 oo 56 .call [.f nsplit_Entry,.t 55],
 oo 57 .mv [.t 11],
 oo 58 .mv [.t 13],
 oo 59 (.iad 1) [.t 57,.t 58],
 oo 60 (.ld false 1) [.t 59],
 oo 61 .call [.t 54,ki 0,.t 56,.t 60]] [[],[],[1],[],[],[3,4],[5],[0,2,6,2]])
 .skip))))
 (.reg false [oo 62 (.bin .add) [.t 45,ki 1],oo 45 .mv [.t 62]] [])))))))
 (.seq (.seq
 (.reg false [oo 63 .mv [.t 11],oo 64 .len [.t 63],oo 65 .mv [ki 0]] [])
 (.block 2 (.loop
 (.seq (.reg false [oo 66 (.bin .lss) [.t 65,.t 64]] [])
 (.seq (.cond (.t 66)
 .skip
 (.exit 2))
 (.seq (.block 3 (.seq (.reg false [oo 67 .mv [.t 65],oo 68 (.iad 1) [.t 63,.t 65],oo 69 (.ld false 1) [.t 68],oo 14 .mv [.t 67],oo 15 .mv [.t 69]] [])
 (.seq (.reg false [oo 70 .mv [.t 15],oo 71 (.bin .gtr) [.t 70,ki 0]] [])
 (.cond (.t 71)
 (.reg false [
 oo 72 .mv [.t 10],
 oo 73 .mv [.t 14],
 oo 74 .call [.f nsplit_Entry,.t 73],
 oo 75 .mv [.t 14],
 oo 76 .call [.f nsplit_Exit,.t 75],
 oo 77 .mv [.t 15],
 oo 78 (.bin .sub) [.t 77,ki 1],
 oo 79 .call [.t 72,.t 74,.t 76,.t 78]] [])
 .skip))))
 (.reg false [oo 80 (.bin .add) [.t 65,ki 1],oo 65 .mv [.t 80]] [])))))))
 (.seq (.seq
 (.reg false [oo 81 .mv [.t 2],oo 82 .len [.t 81],oo 83 .mv [ki 0]] [])
 (.block 4 (.loop
 (.seq (.reg false [oo 84 (.bin .lss) [.t 83,.t 82]] [])
 (.seq (.cond (.t 84)
 .skip
 (.exit 4))
 (.seq (.block 5 (.seq (.reg false [oo 85 (.iad 1) [.t 81,.t 83],oo 86 (.ld false 1) [.t 85],oo 17 .mv [.t 86]] [])
 (.seq (.reg false [oo 87 .mv [.t 11],oo 88 .mv [.t 17],oo 89 (.iad 1) [.t 87,.t 88],oo 90 (.ld false 1) [.t 89],oo 91 (.bin .gtr) [.t 90,ki 0]] [])
 (.cond (.t 91)
 (.reg false [
 oo 92 .mv [.t 10],
 oo 93 .mv [.t 17],
 oo 94 .call [.f nsplit_Entry,.t 93],
 oo 95 .call [.t 92,.t 94,ki 1,ki 1]] [])
 .skip))))
 (.reg false [oo 96 (.bin .add) [.t 83,ki 1],oo 83 .mv [.t 96]] [])))))))
 (.seq (.seq
 (.reg false [oo 97 (.ld true 3) [.t 3],oo 98 (.fad 2) [.t 4],oo 99 (.ld false 1) [.t 98],oo 100 .call [.f ngraph_Level,.t 97,.t 99],oo 101 (.fld false 1 1) [.t 100],oo 102 .len [.t 101],oo 103 .mv [ki 0]] [])
 (.block 6 (.loop
 (.seq (.reg false [oo 104 (.bin .lss) [.t 103,.t 102]] [])
 (.seq (.cond (.t 104)
 .skip
 (.exit 6))
 (.seq (.block 7 (.seq (.reg false [oo 105 (.iad 3) [.t 101,.t 103],oo 106 (.ld true 3) [.t 105],oo 19 (.alloc [v0,v0,v0]) [],ou (.st 3) [.t 19,.t 106]] [])
 (.seq (.reg false [oo 107 .mv [.t 11],oo 108 (.fad 0) [.t 19],oo 109 (.ld false 1) [.t 108],oo 110 (.iad 1) [.t 107,.t 109],oo 111 (.ld false 1) [.t 110],oo 112 (.bin .gtr) [.t 111,ki 0]] [])
 (.cond (.t 112)
 (.reg true [
 oo 113 .mv [.t 10],
 oo 114 (.fad 0) [.t 19],
 oo 115 (.ld false 1) [.t 114],
 oo 116 .call [.f nsplit_Exit,.t 115],
 oo 117 (.fad 1) [.t 19],
 oo 118 (.ld false 1) [.t 117],
 oo 119 .call [.f nsplit_Entry,.t 118],
 oo 120 .call [.t 113,.t 116,.t 119,ki 64]] [[],[],[1],[2],[],[4],[5,3],[0,3,6,6]])
 .skip))))
 (.reg false [oo 121 (.bin .add) [.t 103,ki 1],oo 103 .mv [.t 121]] [])))))))
 (.seq (.reg false [oo 122 (.ld true 2) [.t 9],ou (.st 2) [.t 6,.t 122],oo 7 .mv [ki 0]] [])
 .ret)))))))))))⟩
def ccut_Proves : AFun:=⟨17,[(6,none)],
 (.seq (.reg false [oo 3 (.box 2) [.t 0],oo 6 .mv [.c (.bool false)]] [])
 (.seq (.reg false [oo 7 (.ld true 2) [.t 3],oo 8 .mv [.t 1],oo 9 .call [.f ncut_Valid,.t 7,.t 8],oo 10 .mv [.t 9],og 11 (.ld true 2) [.t 3] 10,og 12 .mv [.t 1] 10,og 13 .call [.f ncut_Capacity,.t 11,.t 12] 10,og 14 .mv [.t 2] 10,og 15 (.bin .leq) [.t 13,.t 14] 10,oo 16 .pick [.t 10,.t 15,.c (.bool false)],oo 6 .mv [.t 16]] [])
 .ret))⟩
def cref14_Entry : AFun:=⟨6,[(2,none)],
 (.seq (.reg false [oo 2 .mv [ki 0]] [])
 (.seq (.reg false [oo 3 .mv [.t 0],oo 4 (.bin .mul) [ki 2,.t 3],oo 5 (.bin .add) [ki 2,.t 4],oo 2 .mv [.t 5]] [])
 .ret))⟩
def cref14_Exit : AFun:=⟨6,[(2,none)],
 (.seq (.reg false [oo 2 .mv [ki 0]] [])
 (.seq (.reg false [oo 3 .mv [.t 0],oo 4 (.bin .mul) [ki 2,.t 3],oo 5 (.bin .add) [ki 3,.t 4],oo 2 .mv [.t 5]] [])
 .ret))⟩
def cref16_Valid : AFun:=⟨23,[(4,none)],
 (.seq (.reg false [oo 2 (.box 2) [.t 0],oo 4 .mv [.c (.bool false)]] [])
 (.seq (.reg false [oo 5 (.ld true 2) [.t 2],oo 6 .call [.f nref15_Check,.t 5],oo 7 (.bin .eql) [.t 6,ki 0],oo 8 .mv [.t 7],og 9 .mv [.t 1] 8,og 10 (.fad 0) [.t 2] 8,og 11 (.ld false 1) [.t 10] 8,og 12 .call [.f nref11_Set,.t 9,.t 11] 8,oo 13 .pick [.t 8,.t 12,.c (.bool false)],oo 14 .mv [.t 13],og 15 .mv [.t 1] 14,og 16 .call [.f nref11_Has,.t 15,ki 0] 14,oo 17 .pick [.t 14,.t 16,.c (.bool false)],oo 18 .mv [.t 17],og 19 .mv [.t 1] 18,og 20 .call [.f nref11_Has,.t 19,ki 1] 18,og 21 (.un .not) [.t 20] 18,oo 22 .pick [.t 18,.t 21,.c (.bool false)],oo 4 .mv [.t 22]] [])
 .ret))⟩
def cref16_Capacity : AFun:=⟨46,[(4,none)],
 (.seq (.reg false [oo 2 (.box 2) [.t 0],oo 4 .mv [ki 0]] [])
 (.seq (.seq
 (.reg false [oo 7 (.ld true 2) [.t 2],oo 8 .mv [.t 1],oo 9 .call [.f nref16_Valid,.t 7,.t 8],oo 10 (.un .not) [.t 9]] [])
 (.cond (.t 10)
 (.seq (.reg false [
 oo 4 .mv [ki 0]] [])
 .ret)
 .skip))
 (.seq (.reg false [oo 5 .mv [ki 0]] [])
 (.seq (.seq
 (.reg false [oo 6 .mv [ki 0]] [])
 (.block 0 (.loop
 (.seq (.seq
 (.reg false [oo 11 .mv [.t 6],oo 12 (.fad 1) [.t 2],oo 13 (.ld false 1) [.t 12],oo 14 .len [.t 13],oo 15 (.bin .lss) [.t 11,.t 14]] [])
 (.cond (.t 15)
 .skip
 (.exit 0)))
 (.seq (.block 1 (.seq (.reg false [oo 18 .mv [.t 1],oo 19 (.fad 1) [.t 2],oo 20 (.ld false 1) [.t 19],oo 21 .mv [.t 6],oo 22 (.iad 3) [.t 20,.t 21],oo 23 (.fad 0) [.t 22],oo 24 (.ld false 1) [.t 23],oo 25 .call [.f nref11_Has,.t 18,.t 24],oo 26 .mv [.t 25],og 27 .mv [.t 1] 26,og 28 (.fad 1) [.t 2] 26,og 29 (.ld false 1) [.t 28] 26,og 30 .mv [.t 6] 26,og 31 (.iad 3) [.t 29,.t 30] 26,og 32 (.fad 1) [.t 31] 26,og 33 (.ld false 1) [.t 32] 26,og 34 .call [.f nref11_Has,.t 27,.t 33] 26,og 35 (.un .not) [.t 34] 26,oo 36 .pick [.t 26,.t 35,.c (.bool false)]] [])
 (.cond (.t 36)
 (.reg false [
 oo 37 .mv [.t 5],
 oo 38 (.fad 1) [.t 2],
 oo 39 (.ld false 1) [.t 38],
 oo 40 .mv [.t 6],
 oo 41 (.iad 3) [.t 39,.t 40],
 oo 42 (.fad 2) [.t 41],
 oo 43 (.ld false 1) [.t 42],
 oo 44 (.bin .add) [.t 37,.t 43],
 oo 5 .mv [.t 44]] [])
 .skip)))
 (.reg false [oo 16 .mv [.t 6],oo 17 (.bin .add) [.t 16,ki 1],oo 6 .mv [.t 17]] []))))))
 (.seq (.reg false [oo 45 .mv [.t 5],oo 4 .mv [.t 45]] [])
 .ret)))))⟩
def cref13_Of : AFun:=⟨17,[(4,none)],
 (.seq (.reg false [oo 2 (.box 3) [.t 0],oo 4 .mv [ki 0]] [])
 (.seq (.seq
 (.reg false [oo 5 .mv [.t 1],oo 6 (.bin .lss) [.t 5,ki 0]] [])
 (.cond (.t 6)
 (.seq (.reg false [
 oo 4 .mv [ki 0]] [])
 .ret)
 .skip))
 (.seq (.seq
 (.reg false [oo 7 .mv [.t 1],oo 8 (.fad 1) [.t 2],oo 9 (.ld false 1) [.t 8],oo 10 .len [.t 9],oo 11 (.bin .lss) [.t 7,.t 10]] [])
 (.cond (.t 11)
 (.seq (.reg false [
 oo 12 (.fad 1) [.t 2],
 oo 13 (.ld false 1) [.t 12],
 oo 14 .mv [.t 1],
 oo 15 (.iad 1) [.t 13,.t 14],
 oo 16 (.ld false 1) [.t 15],
 oo 4 .mv [.t 16]] [])
 .ret)
 .skip))
 (.seq (.reg false [oo 4 .mv [ki 1]] [])
 .ret))))⟩
def cref44_edge : AFun:=⟨45,[(8,none)],
 (.seq (.reg false [oo 4 (.box 3) [.t 0],oo 8 .mv [.c (.bool false)]] [])
 (.seq (.seq
 (.reg false [oo 9 .mv [ki 0]] [])
 (.block 0 (.loop
 (.seq (.seq
 (.reg false [oo 10 .mv [.t 9],oo 11 (.fad 1) [.t 4],oo 12 (.ld false 1) [.t 11],oo 13 .len [.t 12],oo 14 (.bin .lss) [.t 10,.t 13]] [])
 (.cond (.t 14)
 .skip
 (.exit 0)))
 (.seq (.block 1 (.seq (.reg false [oo 17 (.fad 1) [.t 4],oo 18 (.ld false 1) [.t 17],oo 19 .mv [.t 9],oo 20 (.iad 3) [.t 18,.t 19],oo 21 (.fad 0) [.t 20],oo 22 (.ld false 1) [.t 21],oo 23 .mv [.t 2],oo 24 (.bin .eql) [.t 22,.t 23],oo 25 .mv [.t 24],og 26 (.fad 1) [.t 4] 25,og 27 (.ld false 1) [.t 26] 25,og 28 .mv [.t 9] 25,og 29 (.iad 3) [.t 27,.t 28] 25,og 30 (.fad 1) [.t 29] 25,og 31 (.ld false 1) [.t 30] 25,og 32 .mv [.t 3] 25,og 33 (.bin .eql) [.t 31,.t 32] 25,oo 34 .pick [.t 25,.t 33,.c (.bool false)],oo 35 .mv [.t 34],og 36 (.fad 1) [.t 4] 35,og 37 (.ld false 1) [.t 36] 35,og 38 .mv [.t 9] 35,og 39 (.iad 3) [.t 37,.t 38] 35,og 40 (.fad 2) [.t 39] 35,og 41 (.ld false 1) [.t 40] 35,og 42 .mv [.t 1] 35,og 43 (.bin .geq) [.t 41,.t 42] 35,oo 44 .pick [.t 35,.t 43,.c (.bool false)]] [])
 (.cond (.t 44)
 (.seq (.reg false [
 oo 8 .mv [.c (.bool true)]] [])
 .ret)
 .skip)))
 (.reg false [oo 15 .mv [.t 9],oo 16 (.bin .add) [.t 15,ki 1],oo 9 .mv [.t 16]] []))))))
 (.seq (.reg false [oo 8 .mv [.c (.bool false)]] [])
 .ret)))⟩
def cref15_Check : AFun:=⟨80,[(2,none)],
 (.seq (.reg false [oo 1 (.box 2) [.t 0],oo 2 .mv [ki 0]] [])
 (.seq (.seq
 (.reg false [oo 5 (.fad 0) [.t 1],oo 6 (.ld false 1) [.t 5],oo 7 (.bin .lss) [.t 6,ki 2],oo 8 .mv [.t 7],oh 9 (.fad 0) [.t 1] 8,oh 10 (.ld false 1) [.t 9] 8,oh 11 (.bin .gtr) [.t 10,ki 130] 8,oo 12 .pick [.t 8,.c (.bool true),.t 11],oo 13 .mv [.t 12],oh 14 (.fad 1) [.t 1] 13,oh 15 (.ld false 1) [.t 14] 13,oh 16 .len [.t 15] 13,oh 17 (.bin .gtr) [.t 16,ki 1200] 13,oo 18 .pick [.t 13,.c (.bool true),.t 17]] [])
 (.cond (.t 18)
 (.seq (.reg false [
 oo 2 .mv [ki 16]] [])
 .ret)
 .skip))
 (.seq (.seq
 (.reg false [oo 3 .mv [ki 0]] [])
 (.block 0 (.loop
 (.seq (.seq
 (.reg false [oo 19 .mv [.t 3],oo 20 (.fad 1) [.t 1],oo 21 (.ld false 1) [.t 20],oo 22 .len [.t 21],oo 23 (.bin .lss) [.t 19,.t 22]] [])
 (.cond (.t 23)
 .skip
 (.exit 0)))
 (.seq (.block 1 (.seq (.reg false [oo 26 (.fad 1) [.t 1],oo 27 (.ld false 1) [.t 26],oo 28 .mv [.t 3],oo 29 (.iad 3) [.t 27,.t 28],oo 30 (.ld true 3) [.t 29],oo 4 (.alloc [v0,v0,v0]) [],ou (.st 3) [.t 4,.t 30]] [])
 (.seq (.reg false [oo 31 (.fad 0) [.t 4],oo 32 (.ld false 1) [.t 31],oo 33 (.bin .lss) [.t 32,ki 0],oo 34 .mv [.t 33],oh 35 (.fad 0) [.t 4] 34,oh 36 (.ld false 1) [.t 35] 34,oh 37 (.fad 0) [.t 1] 34,oh 38 (.ld false 1) [.t 37] 34,oh 39 (.bin .geq) [.t 36,.t 38] 34,oo 40 .pick [.t 34,.c (.bool true),.t 39],oo 41 .mv [.t 40],oh 42 (.fad 1) [.t 4] 41,oh 43 (.ld false 1) [.t 42] 41,oh 44 (.bin .lss) [.t 43,ki 0] 41,oo 45 .pick [.t 41,.c (.bool true),.t 44],oo 46 .mv [.t 45],oh 47 (.fad 1) [.t 4] 46,oh 48 (.ld false 1) [.t 47] 46,oh 49 (.fad 0) [.t 1] 46,oh 50 (.ld false 1) [.t 49] 46,oh 51 (.bin .geq) [.t 48,.t 50] 46,oo 52 .pick [.t 46,.c (.bool true),.t 51],oo 53 .mv [.t 52],oh 54 (.fad 0) [.t 4] 53,oh 55 (.ld false 1) [.t 54] 53,oh 56 (.fad 1) [.t 4] 53,oh 57 (.ld false 1) [.t 56] 53,oh 58 (.bin .eql) [.t 55,.t 57] 53,oo 59 .pick [.t 53,.c (.bool true),.t 58],oo 60 .mv [.t 59],oh 61 (.fad 1) [.t 4] 60,oh 62 (.ld false 1) [.t 61] 60,oh 63 (.bin .eql) [.t 62,ki 0] 60,oo 64 .pick [.t 60,.c (.bool true),.t 63],oo 65 .mv [.t 64],oh 66 (.fad 0) [.t 4] 65,oh 67 (.ld false 1) [.t 66] 65,oh 68 (.bin .eql) [.t 67,ki 1] 65,oo 69 .pick [.t 65,.c (.bool true),.t 68],oo 70 .mv [.t 69],oh 71 (.fad 2) [.t 4] 70,oh 72 (.ld false 1) [.t 71] 70,oh 73 (.bin .lss) [.t 72,ki 0] 70,oo 74 .pick [.t 70,.c (.bool true),.t 73],oo 75 .mv [.t 74],oh 76 (.fad 2) [.t 4] 75,oh 77 (.ld false 1) [.t 76] 75,oh 78 (.bin .gtr) [.t 77,ki 1048576] 75,oo 79 .pick [.t 75,.c (.bool true),.t 78]] [])
 (.cond (.t 79)
 (.seq (.reg false [
 oo 2 .mv [ki 16]] [])
 .ret)
 .skip))))
 (.reg false [oo 24 .mv [.t 3],oo 25 (.bin .add) [.t 24,ki 1],oo 3 .mv [.t 25]] []))))))
 (.seq (.reg false [oo 2 .mv [ki 0]] [])
 .ret))))⟩
def cref15_Residual : AFun:=⟨112,[(4,none)],
 (.seq (.reg false [oo 2 (.box 2) [.t 0],oo 4 .mv [kn]] [])
 (.seq (.reg false [oo 11 (.fad 0) [.t 2],oo 12 (.ld false 1) [.t 11],oo 13 (.mks 1 8 [v0]) [.t 12,.t 12],oo 5 .mv [.t 13]] [])
 (.seq (.reg false [oo 14 (.fad 0) [.t 2],oo 15 (.ld false 1) [.t 14],oo 16 (.mks 1 1 [(.bool false)]) [.t 15,.t 15],oo 6 .mv [.t 16]] [])
 (.seq (.reg false [oo 17 .mv [.t 6],oo 18 (.iad 1) [.t 17,ki 0],ou (.st 1) [.t 18,.c (.bool true)]] [])
 (.seq (.reg false [oo 19 (.bsl 1 1 [v0] [0]) [ki 0],oo 7 .mv [.t 19]] [])
 (.seq (.block 0 (.loop
 (.seq (.seq
 (.reg false [oo 20 .mv [.t 7],oo 21 .len [.t 20],oo 22 (.bin .gtr) [.t 21,ki 0]] [])
 (.cond (.t 22)
 .skip
 (.exit 0)))
 (.block 1 (.seq (.reg false [oo 23 .mv [.t 7],oo 24 (.iad 1) [.t 23,ki 0],oo 25 (.ld false 1) [.t 24],oo 8 .mv [.t 25]] [])
 (.seq (.reg false [oo 26 .mv [.t 7],oo 27 (.slc 1 true false false) [.t 26,ki 1],oo 7 .mv [.t 27]] [])
 (.seq (.reg false [oo 9 .mv [ki 0]] [])
 (.block 2 (.loop
 (.seq (.seq
 (.reg false [oo 28 .mv [.t 9],oo 29 (.fad 1) [.t 2],oo 30 (.ld false 1) [.t 29],oo 31 .len [.t 30],oo 32 (.bin .lss) [.t 28,.t 31]] [])
 (.cond (.t 32)
 .skip
 (.exit 2)))
 (.seq (.block 3 (.seq (.reg false [oo 35 (.fad 1) [.t 2],oo 36 (.ld false 1) [.t 35],oo 37 .mv [.t 9],oo 38 (.iad 3) [.t 36,.t 37],oo 39 (.ld true 3) [.t 38],oo 10 (.alloc [v0,v0,v0]) [],ou (.st 3) [.t 10,.t 39]] [])
 (.seq (.seq
 (.reg true [oo 40 (.fad 0) [.t 10],oo 41 (.ld false 1) [.t 40],oo 42 .mv [.t 8],oo 43 (.bin .eql) [.t 41,.t 42],oo 44 .mv [.t 43],og 45 .mv [.t 1] 44,og 46 .mv [.t 9] 44,og 47 (.iad 1) [.t 45,.t 46] 44,og 48 (.ld false 1) [.t 47] 44,og 49 (.fad 2) [.t 10] 44,og 50 (.ld false 1) [.t 49] 44,og 51 (.bin .lss) [.t 48,.t 50] 44,oo 52 .pick [.t 44,.t 51,.c (.bool false)],oo 53 .mv [.t 52],og 54 .mv [.t 6] 53,og 55 (.fad 1) [.t 10] 53,og 56 (.ld false 1) [.t 55] 53,og 57 (.iad 1) [.t 54,.t 56] 53,og 58 (.ld false 1) [.t 57] 53,og 59 (.un .not) [.t 58] 53,oo 60 .pick [.t 53,.t 59,.c (.bool false)]] [[],[0],[],[1,2],[3],[4],[4],[5,6,4],[7,4],[4],[9,4],[8,10,4],[4,11],[12,4],[13],[13],[15,13],[14,16,13],[17,13],[18,13],[13,19]])
 (.cond (.t 60)
 (.seq (.reg true [
 oo 61 .mv [.t 6],
 oo 62 (.fad 1) [.t 10],
 oo 63 (.ld false 1) [.t 62],
 oo 64 .mv [.t 5],
 oo 65 (.fad 1) [.t 10],
 oo 66 (.ld false 1) [.t 65],
 oo 67 .mv [.t 9],
 oo 68 (.bin .add) [.t 67,ki 1],
 oo 69 (.iad 1) [.t 61,.t 63],
 ou (.st 1) [.t 69,.c (.bool true)],
 oo 70 (.iad 1) [.t 64,.t 66],
 ou (.st 1) [.t 70,.t 68]] [[],[],[1],[],[],[4],[],[6],[0,2,0,1,2],[8,0,1,2],[3,5,0,1,2,3,4,5,6,7,8,9],[10,7,9,0,1,2,3,4,5,6,7,8,9]])
 (.reg false [
 oo 71 .mv [.t 7],
 oo 72 (.fad 1) [.t 10],
 oo 73 (.ld false 1) [.t 72],
 oo 74 (.bsl 1 1 [v0] [0]) [.t 73],
 oo 75 (.app 1 8) [.t 71,.t 74],
 oo 7 .mv [.t 75]] []))
 .skip))
 (.seq (.reg false [oo 76 (.fad 1) [.t 10],oo 77 (.ld false 1) [.t 76],oo 78 .mv [.t 8],oo 79 (.bin .eql) [.t 77,.t 78],oo 80 .mv [.t 79],og 81 .mv [.t 1] 80,og 82 .mv [.t 9] 80,og 83 (.iad 1) [.t 81,.t 82] 80,og 84 (.ld false 1) [.t 83] 80,og 85 (.bin .gtr) [.t 84,ki 0] 80,oo 86 .pick [.t 80,.t 85,.c (.bool false)],oo 87 .mv [.t 86],og 88 .mv [.t 6] 87,og 89 (.fad 0) [.t 10] 87,og 90 (.ld false 1) [.t 89] 87,og 91 (.iad 1) [.t 88,.t 90] 87,og 92 (.ld false 1) [.t 91] 87,og 93 (.un .not) [.t 92] 87,oo 94 .pick [.t 87,.t 93,.c (.bool false)]] [])
 (.cond (.t 94)
 (.seq (.reg true [
 oo 95 .mv [.t 6],
 oo 96 (.fad 0) [.t 10],
 oo 97 (.ld false 1) [.t 96],
 oo 98 .mv [.t 5],
 oo 99 (.fad 0) [.t 10],
 oo 100 (.ld false 1) [.t 99],
 oo 101 .mv [.t 9],
 oo 102 (.bin .add) [.t 101,ki 1],
 oo 103 (.un .neg) [.t 102],
 oo 104 (.iad 1) [.t 95,.t 97],
 ou (.st 1) [.t 104,.c (.bool true)],
 oo 105 (.iad 1) [.t 98,.t 100],
 ou (.st 1) [.t 105,.t 103]] [[],[],[1],[],[],[4],[],[6],[7],[0,2,0,1,2],[9,0,1,2],[3,5,0,1,2,3,4,5,6,7,8,9,10],[11,8,10,0,1,2,3,4,5,6,7,8,9,10]])
 (.reg false [
 oo 106 .mv [.t 7],
 oo 107 (.fad 0) [.t 10],
 oo 108 (.ld false 1) [.t 107],
 oo 109 (.bsl 1 1 [v0] [0]) [.t 108],
 oo 110 (.app 1 8) [.t 106,.t 109],
 oo 7 .mv [.t 110]] []))
 .skip)))))
 (.reg false [oo 33 .mv [.t 9],oo 34 (.bin .add) [.t 33,ki 1],oo 9 .mv [.t 34]] []))))))))))))
 (.seq (.reg false [oo 111 .mv [.t 5],oo 4 .mv [.t 111]] [])
 .ret)))))))⟩
def cref43_next : AFun:=⟨37,[(6,none)],
 (.seq (.reg false [oo 3 (.box 2) [.t 0],oo 6 .mv [ki 0]] [])
 (.seq (.seq
 (.reg false [oo 7 .mv [ki 0]] [])
 (.block 0 (.loop
 (.seq (.seq
 (.reg false [oo 8 .mv [.t 7],oo 9 (.fad 1) [.t 3],oo 10 (.ld false 1) [.t 9],oo 11 .len [.t 10],oo 12 (.bin .lss) [.t 8,.t 11],oo 13 .mv [.t 12],og 14 .mv [.t 7] 13,og 15 .mv [.t 1] 13,og 16 .len [.t 15] 13,og 17 (.bin .lss) [.t 14,.t 16] 13,oo 18 .pick [.t 13,.t 17,.c (.bool false)]] [])
 (.cond (.t 18)
 .skip
 (.exit 0)))
 (.seq (.block 1 (.seq (.reg false [oo 21 (.fad 1) [.t 3],oo 22 (.ld false 1) [.t 21],oo 23 .mv [.t 7],oo 24 (.iad 3) [.t 22,.t 23],oo 25 (.fad 0) [.t 24],oo 26 (.ld false 1) [.t 25],oo 27 .mv [.t 2],oo 28 (.bin .eql) [.t 26,.t 27],oo 29 .mv [.t 28],og 30 .mv [.t 1] 29,og 31 .mv [.t 7] 29,og 32 (.iad 1) [.t 30,.t 31] 29,og 33 (.ld false 1) [.t 32] 29,og 34 (.bin .gtr) [.t 33,ki 0] 29,oo 35 .pick [.t 29,.t 34,.c (.bool false)]] [])
 (.cond (.t 35)
 (.seq (.reg false [
 oo 36 .mv [.t 7],
 oo 6 .mv [.t 36]] [])
 .ret)
 .skip)))
 (.reg false [oo 19 .mv [.t 7],oo 20 (.bin .add) [.t 19,ki 1],oo 7 .mv [.t 20]] []))))))
 (.seq (.reg false [oo 6 .mv [ki (-1)]] [])
 .ret)))⟩
def cref43_entry : AFun:=⟨22,[(4,none)],
 (.seq (.reg false [oo 4 .mv [ki 0]] [])
 (.seq (.seq
 (.reg false [oo 5 .mv [.t 1],oo 6 (.bin .geq) [.t 5,ki 2],oo 7 .mv [.t 6],og 8 .mv [.t 1] 7,og 9 (.bin .rem) [.t 8,ki 2] 7,og 10 (.bin .eql) [.t 9,ki 0] 7,oo 11 .pick [.t 7,.t 10,.c (.bool false)],oo 12 .mv [.t 11],og 13 .mv [.t 1] 12,og 14 .mv [.t 0] 12,og 15 (.bin .mul) [ki 2,.t 14] 12,og 16 (.bin .add) [ki 2,.t 15] 12,og 17 (.bin .lss) [.t 13,.t 16] 12,oo 18 .pick [.t 12,.t 17,.c (.bool false)]] [])
 (.cond (.t 18)
 (.seq (.reg false [
 oo 19 .mv [.t 1],
 oo 20 (.bin .sub) [.t 19,ki 2],
 oo 21 (.bin .quo) [.t 20,ki 2],
 oo 4 .mv [.t 21]] [])
 .ret)
 .skip))
 (.seq (.reg false [oo 4 .mv [ki (-1)]] [])
 .ret)))⟩
def cref15_Value : AFun:=⟨31,[(4,none)],
 (.seq (.reg false [oo 2 (.box 2) [.t 0],oo 4 .mv [ki 0]] [])
 (.seq (.seq
 (.reg false [oo 7 (.ld true 2) [.t 2],oo 8 .mv [.t 1],oo 9 .call [.f nref15_Valid,.t 7,.t 8],oo 10 (.un .not) [.t 9]] [])
 (.cond (.t 10)
 (.seq (.reg false [
 oo 4 .mv [ki 0]] [])
 .ret)
 .skip))
 (.seq (.reg false [oo 5 .mv [ki 0]] [])
 (.seq (.seq
 (.reg false [oo 6 .mv [ki 0]] [])
 (.block 0 (.loop
 (.seq (.seq
 (.reg false [oo 11 .mv [.t 6],oo 12 .mv [.t 1],oo 13 .len [.t 12],oo 14 (.bin .lss) [.t 11,.t 13]] [])
 (.cond (.t 14)
 .skip
 (.exit 0)))
 (.seq (.block 1 (.seq (.reg false [oo 17 (.fad 1) [.t 2],oo 18 (.ld false 1) [.t 17],oo 19 .mv [.t 6],oo 20 (.iad 3) [.t 18,.t 19],oo 21 (.fad 0) [.t 20],oo 22 (.ld false 1) [.t 21],oo 23 (.bin .eql) [.t 22,ki 0]] [])
 (.cond (.t 23)
 (.reg false [
 oo 24 .mv [.t 5],
 oo 25 .mv [.t 1],
 oo 26 .mv [.t 6],
 oo 27 (.iad 1) [.t 25,.t 26],
 oo 28 (.ld false 1) [.t 27],
 oo 29 (.bin .add) [.t 24,.t 28],
 oo 5 .mv [.t 29]] [])
 .skip)))
 (.reg false [oo 15 .mv [.t 6],oo 16 (.bin .add) [.t 15,ki 1],oo 6 .mv [.t 16]] []))))))
 (.seq (.reg false [oo 30 .mv [.t 5],oo 4 .mv [.t 30]] [])
 .ret)))))⟩
def ccapacity_Of : AFun:=⟨19,[(4,none)],
 (.seq (.reg false [oo 2 (.box 3) [.t 0],oo 4 .mv [ki 0]] [])
 (.seq (.block 0 (.seq (.reg false [oo 6 .mv [.t 1],oo 7 (.bin .lss) [.t 6,ki 0],oo 5 .mv [.t 7]] [])
 (.cond (.t 5)
 (.seq (.reg false [
 oo 4 .mv [ki 0]] [])
 .ret)
 (.seq (.reg false [
 oo 9 .mv [.t 1],
 oo 10 (.fad 1) [.t 2],
 oo 11 (.ld false 1) [.t 10],
 oo 12 .len [.t 11],
 oo 13 (.bin .lss) [.t 9,.t 12],
 oo 8 .mv [.t 13]] [])
 (.cond (.t 8)
 (.seq (.reg false [
 oo 14 (.fad 1) [.t 2],
 oo 15 (.ld false 1) [.t 14],
 oo 16 .mv [.t 1],
 oo 17 (.iad 1) [.t 15,.t 16],
 oo 18 (.ld false 1) [.t 17],
 oo 4 .mv [.t 18]] [])
 .ret)
 .skip)))))
 (.seq (.reg false [oo 4 .mv [ki 1]] [])
 .ret)))⟩
def cslices_Collect_int : AFun:=⟨5,[(2,none)],
 (.seq (.reg false [oo 2 .mv [kn]] [])
 (.seq (.reg false [oo 3 .mv [.t 0],oo 4 .call [.f nslices_AppendSeq_Lint_int,kn,.t 3],oo 2 .mv [.t 4]] [])
 .ret))⟩
def csplit_Entry : AFun:=⟨6,[(2,none)],
 (.seq (.reg false [oo 2 .mv [ki 0]] [])
 (.seq (.reg false [oo 3 .mv [.t 0],oo 4 (.bin .mul) [ki 2,.t 3],oo 5 (.bin .add) [ki 2,.t 4],oo 2 .mv [.t 5]] [])
 .ret))⟩
def csplit_Network_c1 : AFun:=⟨16,[],
 (.reg false [oo 7 (.fad 1) [.t 3],oo 8 (.ld false 1) [.t 7],oo 9 .mv [.t 0],oo 10 .mv [.t 1],oo 11 .mv [.t 2],oo 12 (.build [v0,v0,v0] [(0,1),(1,1),(2,1)]) [.t 9,.t 10,.t 11],oo 13 (.bsl 3 1 [v0,v0,v0] [0]) [.t 12],oo 14 (.app 3 24) [.t 8,.t 13],oo 15 (.fad 1) [.t 3],ou (.st 1) [.t 15,.t 14]] [])⟩
def csplit_Exit : AFun:=⟨6,[(2,none)],
 (.seq (.reg false [oo 2 .mv [ki 0]] [])
 (.seq (.reg false [oo 3 .mv [.t 0],oo 4 .call [.f nsplit_Entry,.t 3],oo 5 (.bin .add) [.t 4,ki 1],oo 2 .mv [.t 5]] [])
 .ret))⟩
def ccut_Valid : AFun:=⟨24,[(4,none)],
 (.seq (.reg false [oo 2 (.box 2) [.t 0],oo 4 .mv [.c (.bool false)]] [])
 (.seq (.reg false [oo 5 (.ld true 2) [.t 2],oo 6 .call [.f nflow_Check,.t 5],oo 7 (.bin .eql) [.t 6,ki 0],oo 8 .mv [.t 7],og 9 .mv [.t 1] 8,og 10 (.fad 0) [.t 2] 8,og 11 (.ld false 1) [.t 10] 8,og 12 (.bin .sub) [.t 11,ki 1] 8,og 13 .call [.f nlists_Rising,.t 9,ki 0,.t 12] 8,oo 14 .pick [.t 8,.t 13,.c (.bool false)],oo 15 .mv [.t 14],og 16 .mv [.t 1] 15,og 17 .call [.f nslices_Contains_Lint_int,.t 16,ki 0] 15,oo 18 .pick [.t 15,.t 17,.c (.bool false)],oo 19 .mv [.t 18],og 20 .mv [.t 1] 19,og 21 .call [.f nslices_Contains_Lint_int,.t 20,ki 1] 19,og 22 (.un .not) [.t 21] 19,oo 23 .pick [.t 19,.t 22,.c (.bool false)],oo 4 .mv [.t 23]] [])
 .ret))⟩
def ccut_Capacity : AFun:=⟨54,[(4,none)],
 (.seq (.reg false [oo 2 (.box 2) [.t 0],oo 4 .mv [ki 0]] [])
 (.seq (.seq
 (.reg false [oo 11 (.ld true 2) [.t 2],oo 12 .mv [.t 1],oo 13 .call [.f ncut_Valid,.t 11,.t 12],oo 14 (.un .not) [.t 13]] [])
 (.cond (.t 14)
 (.seq (.reg false [
 oo 4 .mv [ki 0]] [])
 .ret)
 .skip))
 (.seq (.reg false [oo 15 (.fad 0) [.t 2],oo 16 (.ld false 1) [.t 15],oo 17 (.mks 1 1 [(.bool false)]) [.t 16,.t 16],oo 5 .mv [.t 17]] [])
 (.seq (.seq
 (.reg false [oo 18 .mv [.t 1],oo 19 .len [.t 18],oo 20 .mv [ki 0]] [])
 (.block 0 (.loop
 (.seq (.reg false [oo 21 (.bin .lss) [.t 20,.t 19]] [])
 (.seq (.cond (.t 21)
 .skip
 (.exit 0))
 (.seq (.block 1 (.seq (.reg false [oo 22 (.iad 1) [.t 18,.t 20],oo 23 (.ld false 1) [.t 22],oo 7 .mv [.t 23]] [])
 (.reg false [oo 24 .mv [.t 5],oo 25 .mv [.t 7],oo 26 (.iad 1) [.t 24,.t 25],ou (.st 1) [.t 26,.c (.bool true)]] [])))
 (.reg false [oo 27 (.bin .add) [.t 20,ki 1],oo 20 .mv [.t 27]] [])))))))
 (.seq (.reg false [oo 8 .mv [ki 0]] [])
 (.seq (.seq
 (.reg false [oo 28 (.fad 1) [.t 2],oo 29 (.ld false 1) [.t 28],oo 30 .len [.t 29],oo 31 .mv [ki 0]] [])
 (.block 2 (.loop
 (.seq (.reg false [oo 32 (.bin .lss) [.t 31,.t 30]] [])
 (.seq (.cond (.t 32)
 .skip
 (.exit 2))
 (.seq (.block 3 (.seq (.reg false [oo 33 (.iad 3) [.t 29,.t 31],oo 34 (.ld true 3) [.t 33],oo 10 (.alloc [v0,v0,v0]) [],ou (.st 3) [.t 10,.t 34]] [])
 (.seq (.reg false [oo 35 .mv [.t 5],oo 36 (.fad 0) [.t 10],oo 37 (.ld false 1) [.t 36],oo 38 (.iad 1) [.t 35,.t 37],oo 39 (.ld false 1) [.t 38],oo 40 .mv [.t 39],og 41 .mv [.t 5] 40,og 42 (.fad 1) [.t 10] 40,og 43 (.ld false 1) [.t 42] 40,og 44 (.iad 1) [.t 41,.t 43] 40,og 45 (.ld false 1) [.t 44] 40,og 46 (.un .not) [.t 45] 40,oo 47 .pick [.t 40,.t 46,.c (.bool false)]] [])
 (.cond (.t 47)
 (.reg false [
 oo 48 .mv [.t 8],
 oo 49 (.fad 2) [.t 10],
 oo 50 (.ld false 1) [.t 49],
 oo 51 (.bin .add) [.t 48,.t 50],
 oo 8 .mv [.t 51]] [])
 .skip))))
 (.reg false [oo 52 (.bin .add) [.t 31,ki 1],oo 31 .mv [.t 52]] [])))))))
 (.seq (.reg false [oo 53 .mv [.t 8],oo 4 .mv [.t 53]] [])
 .ret)))))))⟩
def cref15_Valid : AFun:=⟨87,[(4,none)],
 (.seq (.reg false [oo 2 (.box 2) [.t 0],oo 4 .mv [.c (.bool false)]] [])
 (.seq (.seq
 (.reg false [oo 8 (.ld true 2) [.t 2],oo 9 .call [.f nref15_Check,.t 8],oo 10 (.bin .neq) [.t 9,ki 0],oo 11 .mv [.t 10],oh 12 .mv [.t 1] 11,oh 13 .len [.t 12] 11,oh 14 (.fad 1) [.t 2] 11,oh 15 (.ld false 1) [.t 14] 11,oh 16 .len [.t 15] 11,oh 17 (.bin .neq) [.t 13,.t 16] 11,oo 18 .pick [.t 11,.c (.bool true),.t 17]] [])
 (.cond (.t 18)
 (.seq (.reg false [
 oo 4 .mv [.c (.bool false)]] [])
 .ret)
 .skip))
 (.seq (.reg false [oo 19 (.fad 0) [.t 2],oo 20 (.ld false 1) [.t 19],oo 21 (.mks 1 8 [v0]) [.t 20,.t 20],oo 5 .mv [.t 21]] [])
 (.seq (.seq
 (.reg false [oo 6 .mv [ki 0]] [])
 (.block 0 (.loop
 (.seq (.seq
 (.reg false [oo 22 .mv [.t 6],oo 23 .mv [.t 1],oo 24 .len [.t 23],oo 25 (.bin .lss) [.t 22,.t 24]] [])
 (.cond (.t 25)
 .skip
 (.exit 0)))
 (.seq (.block 1 (.seq (.seq
 (.reg true [oo 28 .mv [.t 1],oo 29 .mv [.t 6],oo 30 (.iad 1) [.t 28,.t 29],oo 31 (.ld false 1) [.t 30],oo 32 (.bin .lss) [.t 31,ki 0],oo 33 .mv [.t 32],oh 34 .mv [.t 1] 33,oh 35 .mv [.t 6] 33,oh 36 (.iad 1) [.t 34,.t 35] 33,oh 37 (.ld false 1) [.t 36] 33,oh 38 (.fad 1) [.t 2] 33,oh 39 (.ld false 1) [.t 38] 33,oh 40 .mv [.t 6] 33,oh 41 (.iad 3) [.t 39,.t 40] 33,oh 42 (.fad 2) [.t 41] 33,oh 43 (.ld false 1) [.t 42] 33,oh 44 (.bin .gtr) [.t 37,.t 43] 33,oo 45 .pick [.t 33,.c (.bool true),.t 44]] [[],[],[0,1],[2],[3],[4],[5],[5],[6,7,5],[8,5],[5],[10,5],[5],[11,12,5],[13,5],[14,5],[9,15,5],[5,16]])
 (.cond (.t 45)
 (.seq (.reg false [
 oo 4 .mv [.c (.bool false)]] [])
 .ret)
 .skip))
 (.seq (.reg true [oo 46 .mv [.t 5],oo 47 (.fad 1) [.t 2],oo 48 (.ld false 1) [.t 47],oo 49 .mv [.t 6],oo 50 (.iad 3) [.t 48,.t 49],oo 51 (.fad 0) [.t 50],oo 52 (.ld false 1) [.t 51],oo 53 (.iad 1) [.t 46,.t 52],oo 54 (.ld false 1) [.t 53],oo 55 .mv [.t 1],oo 56 .mv [.t 6],oo 57 (.iad 1) [.t 55,.t 56],oo 58 (.ld false 1) [.t 57],oo 59 (.bin .sub) [.t 54,.t 58],oo 60 (.iad 1) [.t 46,.t 52],ou (.st 1) [.t 60,.t 59]] [[],[],[1],[],[2,3],[4],[5],[0,6],[7],[],[],[9,10],[11],[8,12],[0,6,0,1,2,3,4,5,6,7,8,9,10,11,12,13],[14,13,0,1,2,3,4,5,6,7,8,9,10,11,12,13]])
 (.reg true [oo 61 .mv [.t 5],oo 62 (.fad 1) [.t 2],oo 63 (.ld false 1) [.t 62],oo 64 .mv [.t 6],oo 65 (.iad 3) [.t 63,.t 64],oo 66 (.fad 1) [.t 65],oo 67 (.ld false 1) [.t 66],oo 68 (.iad 1) [.t 61,.t 67],oo 69 (.ld false 1) [.t 68],oo 70 .mv [.t 1],oo 71 .mv [.t 6],oo 72 (.iad 1) [.t 70,.t 71],oo 73 (.ld false 1) [.t 72],oo 74 (.bin .add) [.t 69,.t 73],oo 75 (.iad 1) [.t 61,.t 67],ou (.st 1) [.t 75,.t 74]] [[],[],[1],[],[2,3],[4],[5],[0,6],[7],[],[],[9,10],[11],[8,12],[0,6,0,1,2,3,4,5,6,7,8,9,10,11,12,13],[14,13,0,1,2,3,4,5,6,7,8,9,10,11,12,13]]))))
 (.reg false [oo 26 .mv [.t 6],oo 27 (.bin .add) [.t 26,ki 1],oo 6 .mv [.t 27]] []))))))
 (.seq (.seq
 (.reg false [oo 7 .mv [ki 2]] [])
 (.block 2 (.loop
 (.seq (.seq
 (.reg false [oo 76 .mv [.t 7],oo 77 (.fad 0) [.t 2],oo 78 (.ld false 1) [.t 77],oo 79 (.bin .lss) [.t 76,.t 78]] [])
 (.cond (.t 79)
 .skip
 (.exit 2)))
 (.seq (.block 3 (.seq (.reg false [oo 82 .mv [.t 5],oo 83 .mv [.t 7],oo 84 (.iad 1) [.t 82,.t 83],oo 85 (.ld false 1) [.t 84],oo 86 (.bin .neq) [.t 85,ki 0]] [])
 (.cond (.t 86)
 (.seq (.reg false [
 oo 4 .mv [.c (.bool false)]] [])
 .ret)
 .skip)))
 (.reg false [oo 80 .mv [.t 7],oo 81 (.bin .add) [.t 80,ki 1],oo 7 .mv [.t 81]] []))))))
 (.seq (.reg false [oo 4 .mv [.c (.bool true)]] [])
 .ret))))))⟩
def cflow_Check : AFun:=⟨21,[(2,none)],
 (.seq (.reg false [oo 1 (.box 2) [.t 0],oo 2 .mv [ki 0]] [])
 (.seq (.reg false [oo 4 (.mkf nflow_Check_c1) [.t 1],oo 3 .mv [.t 4]] [])
 (.seq (.seq
 (.reg false [oo 5 (.fad 0) [.t 1],oo 6 (.ld false 1) [.t 5],oo 7 .call [.f nlists_In,.t 6,ki 2,ki 130],oo 8 (.un .not) [.t 7],oo 9 .mv [.t 8],oh 10 (.fad 1) [.t 1] 9,oh 11 (.ld false 1) [.t 10] 9,oh 12 .len [.t 11] 9,oh 13 (.bin .gtr) [.t 12,ki 1200] 9,oo 14 .pick [.t 9,.c (.bool true),.t 13],oo 15 .mv [.t 14],oh 16 (.fad 1) [.t 1] 15,oh 17 (.ld false 1) [.t 16] 15,oh 18 .mv [.t 3] 15,oh 19 .call [.f nslices_ContainsFunc_Lapi_Arc_api_Arc,.t 17,.t 18] 15,oo 20 .pick [.t 15,.c (.bool true),.t 19]] [])
 (.cond (.t 20)
 (.seq (.reg false [
 oo 2 .mv [ki 16]] [])
 .ret)
 .skip))
 (.seq (.reg false [oo 2 .mv [ki 0]] [])
 .ret))))⟩
def cflow_Check_c1 : AFun:=⟨43,[(3,none)],
 (.seq (.reg false [oo 2 (.box 3) [.t 0],oo 3 .mv [.c (.bool false)]] [])
 (.seq (.reg false [oo 4 (.fad 0) [.t 2],oo 5 (.ld false 1) [.t 4],oo 6 (.fad 0) [.t 1],oo 7 (.ld false 1) [.t 6],oo 8 (.bin .sub) [.t 7,ki 1],oo 9 .call [.f nlists_In,.t 5,ki 0,.t 8],oo 10 (.un .not) [.t 9],oo 11 .mv [.t 10],oh 12 (.fad 1) [.t 2] 11,oh 13 (.ld false 1) [.t 12] 11,oh 14 (.fad 0) [.t 1] 11,oh 15 (.ld false 1) [.t 14] 11,oh 16 (.bin .sub) [.t 15,ki 1] 11,oh 17 .call [.f nlists_In,.t 13,ki 0,.t 16] 11,oh 18 (.un .not) [.t 17] 11,oo 19 .pick [.t 11,.c (.bool true),.t 18],oo 20 .mv [.t 19],oh 21 (.fad 0) [.t 2] 20,oh 22 (.ld false 1) [.t 21] 20,oh 23 (.fad 1) [.t 2] 20,oh 24 (.ld false 1) [.t 23] 20,oh 25 (.bin .eql) [.t 22,.t 24] 20,oo 26 .pick [.t 20,.c (.bool true),.t 25],oo 27 .mv [.t 26],oh 28 (.fad 1) [.t 2] 27,oh 29 (.ld false 1) [.t 28] 27,oh 30 (.bin .eql) [.t 29,ki 0] 27,oo 31 .pick [.t 27,.c (.bool true),.t 30],oo 32 .mv [.t 31],oh 33 (.fad 0) [.t 2] 32,oh 34 (.ld false 1) [.t 33] 32,oh 35 (.bin .eql) [.t 34,ki 1] 32,oo 36 .pick [.t 32,.c (.bool true),.t 35],oo 37 .mv [.t 36],oh 38 (.fad 2) [.t 2] 37,oh 39 (.ld false 1) [.t 38] 37,oh 40 .call [.f nlists_In,.t 39,ki 0,ki 1048576] 37,oh 41 (.un .not) [.t 40] 37,oo 42 .pick [.t 37,.c (.bool true),.t 41],oo 3 .mv [.t 42]] [])
 .ret))⟩
def cslices_ContainsFunc_Lapi_Arc_api_Arc : AFun:=⟨9,[(4,none)],
 (.seq (.reg false [oo 4 .mv [.c (.bool false)]] [])
 (.seq (.reg false [oo 5 .mv [.t 0],oo 6 .mv [.t 1],oo 7 .call [.f nslices_IndexFunc_Lapi_Arc_api_Arc,.t 5,.t 6],oo 8 (.bin .geq) [.t 7,ki 0],oo 4 .mv [.t 8]] [])
 .ret))⟩
def cslices_IndexFunc_Lapi_Arc_api_Arc : AFun:=⟨19,[(4,none)],
 (.seq (.reg false [oo 4 .mv [ki 0]] [])
 (.seq (.seq
 (.reg false [oo 6 .mv [.t 0],oo 7 .len [.t 6],oo 8 .mv [ki 0]] [])
 (.block 0 (.loop
 (.seq (.reg false [oo 9 (.bin .lss) [.t 8,.t 7]] [])
 (.seq (.cond (.t 9)
 .skip
 (.exit 0))
 (.seq (.block 1 (.seq (.reg false [oo 10 .mv [.t 8],oo 5 .mv [.t 10]] [])
 (.seq (.reg false [oo 11 .mv [.t 1],oo 12 .mv [.t 0],oo 13 .mv [.t 5],oo 14 (.iad 3) [.t 12,.t 13],oo 15 (.ld true 3) [.t 14],oo 16 .call [.t 11,.t 15]] [])
 (.cond (.t 16)
 (.seq (.reg false [
 oo 17 .mv [.t 5],
 oo 4 .mv [.t 17]] [])
 .ret)
 .skip))))
 (.reg false [oo 18 (.bin .add) [.t 8,ki 1],oo 8 .mv [.t 18]] [])))))))
 (.seq (.reg false [oo 4 .mv [ki (-1)]] [])
 .ret)))⟩
end Go.Proofs.YtlhjelookgjmpaaGreat
