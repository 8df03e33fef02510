/- Texts of this claim,merged. -/
import Derived.Test.YthmaflecfppoiaaGreatRp5
set_option linter.unusedSimpArgs false
set_option linter.unusedVariables false
set_option linter.unusedSectionVars false
namespace Go.Proofs.YthmaflecfppoiaaGreat
open Go
set_option maxRecDepth 100000
def zhq : AFun:=⟨164,[(4,none)],
 (sr [oo 4 .mv [.c (.bool false)]]
 (.seq (.seq
 (rg [ma 29 0,ca 30 zhk [.t 29],oo 31 (.un .not) [.t 30]])
 (.cond (.t 31)
 (sr [ca 32 zeK [],ma 4 32]
 .ret)
 .skip))
 (sr [ma 33 0,ca 34 ziv [.t 33],ma 5 34]
 (sr [ma 35 5,ca 36 zcA [.t 35],oo 6 (.alloc [v0,vn,vn]) [],ou (.st 3) [.t 6,.t 36]]
 (sr [ma 37 5,oo 38 (.ld true 3) [.t 6],ca 39 zdm [.t 37,.t 38],oo 7 (.alloc [vn,vn,v0]) [],ou (.st 3) [.t 7,.t 39]]
 (sr [oo 41 (.ld true 3) [.t 6],oo 42 (.ld true 3) [.t 7],ca 43 zbR [.t 41,.t 42],ma 40 43,oo 44 (.ext 0) [.t 40],oo 45 (.ext 1) [.t 40],oo 8 (.alloc [v0,vn,vn,vn,vn,v0,vn,vn,vn]) [],ou (.st 9) [.t 8,.t 44],ma 9 45]
 (.seq (.seq
 (rg [ma 46 5,ca 47 zaD [.t 46,ki 4]])
 (.block 0 (sr [oo 51 (.bin .eql) [.t 47,ki 0],ma 50 51]
 (.cond (.t 50)
 (rg [fa 52 6 8,fa 53 1 52,la 54 53,oo 55 (.bsl 1 1 [v0] [0]) [ki 1],oo 56 (.app 1 8) [.t 54,.t 55],fa 57 6 8,fa 58 1 57,ou (.st 1) [.t 58,.t 56]])
 (sr [oo 60 (.bin .eql) [.t 47,ki 1],ma 59 60]
 (.cond (.t 59)
 (rg [fa 61 6 8,fa 62 0 61,la 63 62,ma 64 1,oo 65 (.bsl 1 1 [v0] [0]) [.t 64],oo 66 (.app 1 8) [.t 63,.t 65],fa 67 6 8,fa 68 0 67,ou (.st 1) [.t 68,.t 66]])
 (sr [oo 70 (.bin .eql) [.t 47,ki 2],ma 69 70]
 (.cond (.t 69)
 (rg [ma 71 1,fa 72 3 8,fa 73 2 72,ou (.st 1) [.t 73,.t 71]])
 (rg [fa 48 0 8,fa 49 0 48,ou (.st 1) [.t 49,ki 70]])))))))))
 (sr [oo 74 (.build [v0,v0,v0] [(0,1),(1,1),(2,1)]) [ki 0,ki 1,ki 1],oo 75 (.build [(.bool false),v0,v0,v0] [(1,3)]) [.t 74],oo 10 (.alloc [(.bool false),v0,v0,v0]) [],ou (.st 4) [.t 10,.t 75]]
 (sr [oo 77 (.ld true 9) [.t 8],oo 78 (.ld true 4) [.t 10],ca 79 zbA [.t 77,.t 78],ma 76 79,oo 80 (.ext 0) [.t 76],oo 81 (.ext 1) [.t 76],oo 82 (.ext 2) [.t 76],oo 83 (.ext 3) [.t 76],oo 11 (.alloc [v0,vn,vn,vn,vn,v0,vn,vn,vn]) [],ou (.st 9) [.t 11,.t 80],ma 12 81,ma 13 82,ma 14 83]
 (sr [oo 85 (.ld true 9) [.t 8],oo 86 (.ld true 4) [.t 10],ca 87 zb9 [.t 85,.t 86],ma 84 87,oo 88 (.ext 0) [.t 84],oo 89 (.ext 1) [.t 84],oo 90 (.ext 2) [.t 84],oo 91 (.ext 3) [.t 84],oo 15 (.alloc [v0,vn,vn,vn,vn,v0,vn,vn,vn]) [],ou (.st 9) [.t 15,.t 88],ma 16 89,ma 17 90,ma 18 91]
 (sr [oo 93 (.ld true 9) [.t 8],oo 94 (.ld true 4) [.t 10],oo 95 (.ld true 4) [.t 10],oo 96 (.bsl 4 2 [(.bool false),v0,v0,v0] [0,1]) [.t 94,.t 95],ca 97 zdj [.t 93,.t 96],ma 92 97,oo 98 (.ext 0) [.t 92],oo 99 (.ext 1) [.t 92],oo 100 (.ext 2) [.t 92],oo 19 (.alloc [v0,vn,vn,vn,vn,v0,vn,vn,vn]) [],ou (.st 9) [.t 19,.t 98],ma 20 99,ma 21 100]
 (sr [oo 102 (.ld true 9) [.t 8],oo 103 (.ld true 4) [.t 10],oo 104 (.ld true 4) [.t 10],oo 105 (.bsl 4 2 [(.bool false),v0,v0,v0] [0,1]) [.t 103,.t 104],ca 106 zfg [.t 102,.t 105],ma 101 106,oo 107 (.ext 0) [.t 101],oo 108 (.ext 1) [.t 101],oo 109 (.ext 2) [.t 101],oo 22 (.alloc [v0,vn,vn,vn,vn,v0,vn,vn,vn]) [],ou (.st 9) [.t 22,.t 107],ma 23 108,ma 24 109]
 (sr [fa 110 0 7,la 111 110,ma 112 1,oo 113 (.bsl 1 1 [v0] [0]) [.t 112],oo 114 (.app 1 8) [.t 111,.t 113],fa 115 0 7,ou (.st 1) [.t 115,.t 114]]
 (sr [oo 117 (.ld true 3) [.t 6],oo 118 (.ld true 3) [.t 7],ca 119 zbU [.t 117,.t 118],ma 116 119,oo 120 (.ext 0) [.t 116],oo 121 (.ext 1) [.t 116],oo 25 (.alloc [v0,vn,vn,vn,vn,v0,vn,vn,vn]) [],ou (.st 9) [.t 25,.t 120],ma 26 121]
 (sr [oo 123 (.ld true 3) [.t 6],oo 124 (.ld true 3) [.t 7],ca 125 zbR [.t 123,.t 124],ma 122 125,oo 126 (.ext 0) [.t 122],oo 127 (.ext 1) [.t 122],oo 27 (.alloc [v0,vn,vn,vn,vn,v0,vn,vn,vn]) [],ou (.st 9) [.t 27,.t 126],ma 28 127]
 (sr [ca 128 zeK [],ma 129 128,mg 130 14 129,mg 131 18 129,og 132 (.bin .eql) [.t 130,.t 131] 129,oo 133 .pick [.t 129,.t 132,.c (.bool false)],ma 134 133,og 135 (.ld true 9) [.t 11] 134,og 136 (.ld true 9) [.t 15] 134,og 137 .call [.f zgw,.t 135,.t 136] 134,oo 138 .pick [.t 134,.t 137,.c (.bool false)],ma 139 138,mg 140 12 139,mg 141 16 139,og 142 .call [.f zaZ,.t 140,.t 141] 139,oo 143 .pick [.t 139,.t 142,.c (.bool false)],ma 144 143,mg 145 13 144,mg 146 17 144,og 147 .call [.f zaZ,.t 145,.t 146] 144,oo 148 .pick [.t 144,.t 147,.c (.bool false)],ma 149 148,mg 150 20 149,mg 151 23 149,og 152 (.bin .eql) [.t 150,.t 151] 149,oo 153 .pick [.t 149,.t 152,.c (.bool false)],ma 154 153,mg 155 21 154,mg 156 24 154,og 157 (.bin .eql) [.t 155,.t 156] 154,oo 158 .pick [.t 154,.t 157,.c (.bool false)],ma 159 158,mg 160 26 159,mg 161 28 159,og 162 (.bin .eql) [.t 160,.t 161] 159,oo 163 .pick [.t 159,.t 162,.c (.bool false)],ma 4 163]
 .ret))))))))))))))))⟩
def zoG : AFun:=⟨84,[(0,none)],
 (sr [oo 0 .mv [.c (.bool false)]]
 (sr [oo 11 (.build [v0,v0,v0] [(0,1),(1,1),(2,1)]) [ki 0,ki 1,ki 1],oo 12 (.bsl 3 1 [v0,v0,v0] [0]) [.t 11],oo 13 (.build [v0,vn,vn] [(0,1),(1,1)]) [ki 3,.t 12],oo 1 (.alloc [v0,vn,vn]) [],ou (.st 3) [.t 1,.t 13]]
 (sr [oo 15 (.ld true 3) [.t 1],oo 16 (.bsl 1 1 [v0] [0]) [ki 0],oo 17 (.bsl 1 2 [v0] [0,1]) [ki 3,ki 1],oo 18 (.build [vn,vn,v0] [(0,1),(1,1),(2,1)]) [.t 16,.t 17,ki 1],ca 19 zbU [.t 15,.t 18],ma 14 19,oo 20 (.ext 0) [.t 14],oo 21 (.ext 1) [.t 14],oo 2 (.alloc [v0,vn,vn,vn,vn,v0,vn,vn,vn]) [],ou (.st 9) [.t 2,.t 20],ma 3 21]
 (sr [oo 23 (.ld true 9) [.t 2],oo 24 (.build [v0,v0,v0] [(0,1),(1,1),(2,1)]) [ki 0,ki 2,ki 1],oo 25 (.build [(.bool false),v0,v0,v0] [(1,3)]) [.t 24],ca 26 zbA [.t 23,.t 25],ma 22 26,oo 27 (.ext 0) [.t 22],oo 28 (.ext 1) [.t 22],oo 29 (.ext 2) [.t 22],oo 30 (.ext 3) [.t 22],oo 4 (.alloc [v0,vn,vn,vn,vn,v0,vn,vn,vn]) [],ou (.st 9) [.t 4,.t 27],ma 5 28,ma 6 29,ma 7 30]
 (sr [oo 32 (.ld true 9) [.t 4],oo 33 (.build [v0,v0,v0] [(0,1),(1,1)]) [ki 0,ki 1],oo 34 (.build [(.bool false),v0,v0,v0] [(0,1),(1,3)]) [.c (.bool true),.t 33],oo 35 (.bsl 4 1 [(.bool false),v0,v0,v0] [0]) [.t 34],ca 36 zdj [.t 32,.t 35],ma 31 36,oo 37 (.ext 0) [.t 31],oo 38 (.ext 1) [.t 31],oo 39 (.ext 2) [.t 31],oo 8 (.alloc [v0,vn,vn,vn,vn,v0,vn,vn,vn]) [],ou (.st 9) [.t 8,.t 37],ma 9 38,ma 10 39]
 (sr [ma 40 3,oo 41 (.bin .eql) [.t 40,ki 0],ma 42 41,mg 43 7 42,og 44 (.bin .eql) [.t 43,ki 0] 42,oo 45 .pick [.t 42,.t 44,.c (.bool false)],ma 46 45,mg 47 10 46,og 48 (.bin .eql) [.t 47,ki 0] 46,oo 49 .pick [.t 46,.t 48,.c (.bool false)],ma 50 49,mg 51 5 50,og 52 .len [.t 51] 50,og 53 (.bin .eql) [.t 52,ki 1] 50,oo 54 .pick [.t 50,.t 53,.c (.bool false)],ma 55 54,mg 56 5 55,og 57 (.iad 1) [.t 56,ki 0] 55,lg 58 57 55,og 59 (.bin .eql) [.t 58,ki 2] 55,oo 60 .pick [.t 55,.t 59,.c (.bool false)],ma 61 60,mg 62 6 61,og 63 .len [.t 62] 61,og 64 (.bin .eql) [.t 63,ki 0] 61,oo 65 .pick [.t 61,.t 64,.c (.bool false)],ma 66 65,mg 67 9 66,og 68 (.bin .eql) [.t 67,ki 1] 66,oo 69 .pick [.t 66,.t 68,.c (.bool false)],ma 70 69,fg 71 6 4 70,fg 72 0 71 70,lg 73 72 70,og 74 .len [.t 73] 70,og 75 (.bin .eql) [.t 74,ki 3] 70,oo 76 .pick [.t 70,.t 75,.c (.bool false)],ma 77 76,fg 78 6 8 77,fg 79 0 78 77,lg 80 79 77,og 81 .len [.t 80] 77,og 82 (.bin .eql) [.t 81,ki 2] 77,oo 83 .pick [.t 77,.t 82,.c (.bool false)],ma 0 83]
 .ret))))))⟩
def ziu : AFun:=⟨50,[(4,some (true,3))],
 (sr [oo 3 (.box 3) [.t 1],oo 4 (.alloc [vn,vn,v0]) []]
 (sr [ma 8 0,fa 9 0 3,la 10 9,ca 11 zaD [.t 8,.t 10],oo 12 (.bsl 1 1 [v0] [0]) [.t 11],ma 13 0,oo 14 (.bsl 1 4 [v0] [0,1,2,3]) [ki 1,ki 1,ki 2,ki 3],ca 15 zcX [.t 13,.t 14],oo 16 (.build [vn,vn,v0] [(0,1),(2,1)]) [.t 12,.t 15],oo 5 (.alloc [vn,vn,v0]) [],ou (.st 3) [.t 5,.t 16]]
 (.seq (.seq
 (rg [ma 17 0,ca 18 zcv [.t 17,ki 3]])
 (.cond (.t 18)
 (.reg true [fa 19 0 5,la 20 19,ma 21 0,fa 22 0 3,la 23 22,ca 24 zaD [.t 21,.t 23],ca 25 zcf [.t 20,.t 24],fa 26 0 5,ou (.st 1) [.t 26,.t 25]] [[],[0],[],[],[3],[2,4],[1,5,5],[0,1,2,3,4,5,6],[7,6,6,0,1,2,3,4,5,6]])
 .skip))
 (sr [ma 27 0,oo 28 (.bsl 1 5 [v0] [0,1,2,3,4]) [ki 3,ki 2,ki 1,ki 6,ki 0],ca 29 zcX [.t 27,.t 28],oo 30 (.bin .add) [ki 1,.t 29],ma 6 30]
 (.seq (.seq
 (rg [ma 31 0,ca 32 zaD [.t 31,ki 4],oo 33 (.bin .add) [ki 1,.t 32],ma 7 33])
 (.block 0 (.loop
 (.seq (.seq
 (rg [ma 34 7,oo 35 (.bin .gtr) [.t 34,ki 0]])
 (.cond (.t 35)
 .skip
 (.exit 0)))
 (.seq (.block 1 (sr [fa 38 1 5,la 39 38,ma 40 6,oo 41 (.bsl 1 1 [v0] [0]) [.t 40],oo 42 (.app 1 8) [.t 39,.t 41],fa 43 1 5,ou (.st 1) [.t 43,.t 42]]
 (rg [ma 44 6,ma 45 0,ca 46 zaD [.t 45,ki 3],oo 47 (.bin .sub) [.t 44,.t 46],oo 48 .mx2 [ki 1,.t 47],ma 6 48])))
 (rg [ma 36 7,oo 37 (.bin .sub) [.t 36,ki 1],ma 7 37]))))))
 (sr [oo 49 (.ld true 3) [.t 5],ou (.st 3) [.t 4,.t 49]]
 .ret))))))⟩
def znw : AFun:=⟨24,[(4,some (true,9)),(5,none)],
 (sr [oo 2 (.box 3) [.t 0],oo 3 (.box 3) [.t 1],oo 4 (.alloc [v0,vn,vn,vn,vn,v0,vn,vn,vn]) [],oo 5 .mv [ki 0]]
 (sr [oo 9 (.ld true 3) [.t 2],oo 10 (.ld true 3) [.t 3],ca 11 zes [.t 9,.t 10],ma 8 11,oo 12 (.ext 0) [.t 8],oo 13 (.ext 1) [.t 8],oo 6 (.alloc [vn,vn,vn]) [],ou (.st 3) [.t 6,.t 12],ma 7 13]
 (.seq (.seq
 (rg [ma 14 7,oo 15 (.bin .neq) [.t 14,ki 0]])
 (.cond (.t 15)
 (sr [oo 16 (.build [v0,vn,vn,vn,vn,v0,vn,vn,vn] []) [],ma 17 7,ou (.st 9) [.t 4,.t 16],ma 5 17]
 .ret)
 .skip))
 (.seq (.reg true [oo 18 (.ld true 3) [.t 2],ca 19 zcR [.t 18,ki 0],oo 20 (.ld true 3) [.t 3],ca 21 ze4 [.t 20],oo 22 (.ld true 3) [.t 6],oo 23 (.build [v0,vn,vn,vn,vn,v0,vn,vn,vn] [(0,3),(3,3),(6,3)]) [.t 19,.t 21,.t 22],ou (.st 9) [.t 4,.t 23],oo 5 .mv [ki 0]] [[],[0],[],[2,1],[],[1,3,4],[5,3,0,1,2,3,4,5],[6,0,1,2,3,4,5,6]])
 .ret))))⟩
def zpx : AFun:=⟨23,[(4,some (true,9)),(5,none)],
 (sr [oo 2 (.box 3) [.t 0],oo 3 (.box 3) [.t 1],oo 4 (.alloc [v0,vn,vn,vn,vn,v0,vn,vn,vn]) [],oo 5 .mv [ki 0]]
 (sr [oo 9 (.ld true 3) [.t 2],oo 10 (.ld true 3) [.t 3],ca 11 zef [.t 9,.t 10],ma 8 11,oo 12 (.ext 0) [.t 8],oo 13 (.ext 1) [.t 8],oo 6 (.alloc [vn,vn,vn]) [],ou (.st 3) [.t 6,.t 12],ma 7 13]
 (.seq (.seq
 (rg [ma 14 7,oo 15 (.bin .neq) [.t 14,ki 0]])
 (.cond (.t 15)
 (sr [oo 16 (.build [v0,vn,vn,vn,vn,v0,vn,vn,vn] []) [],ma 17 7,ou (.st 9) [.t 4,.t 16],ma 5 17]
 .ret)
 .skip))
 (sr [oo 18 (.ld true 3) [.t 2],oo 19 (.ld true 3) [.t 3],oo 20 (.ld true 3) [.t 6],oo 21 (.build [v0,vn,vn,vn,vn,v0,vn,vn,vn] [(0,3),(3,3),(6,3)]) [.t 18,.t 19,.t 20],ca 22 zdp [.t 21],ou (.st 9) [.t 4,.t 22],oo 5 .mv [ki 0]]
 .ret))))⟩
def zqz : AFun:=⟨38,[(4,some (true,9)),(5,none),(6,none)],
 (sr [oo 2 (.box 9) [.t 0],oo 4 (.alloc [v0,vn,vn,vn,vn,v0,vn,vn,vn]) [],oo 5 .mv [ki 0],oo 6 .mv [ki 0]]
 (.seq (.seq
 (rg [ma 13 1,oo 14 .len [.t 13],oo 15 .mv [ki 0]])
 (.block 0 (.loop
 (sr [oo 16 (.bin .lss) [.t 15,.t 14]]
 (.seq (.cond (.t 16)
 .skip
 (.exit 0))
 (.seq (.block 1 (sr [ma 17 15,oo 18 (.iad 4) [.t 13,.t 15],oo 19 (.ld true 4) [.t 18],oo 8 (.alloc [(.bool false),v0,v0,v0]) [],ma 7 17,ou (.st 4) [.t 8,.t 19]]
 (sr [oo 21 (.ld true 9) [.t 2],oo 22 (.ld true 4) [.t 8],ca 23 zbA [.t 21,.t 22],ma 20 23,oo 24 (.ext 0) [.t 20],oo 25 (.ext 1) [.t 20],oo 26 (.ext 2) [.t 20],oo 27 (.ext 3) [.t 20],oo 9 (.alloc [v0,vn,vn,vn,vn,v0,vn,vn,vn]) [],ou (.st 9) [.t 9,.t 24],ma 10 25,ma 11 26,ma 12 27]
 (.seq (.seq
 (rg [ma 28 12,oo 29 (.bin .neq) [.t 28,ki 0]])
 (.cond (.t 29)
 (sr [oo 30 (.ld true 9) [.t 2],ma 31 7,ma 32 12,ou (.st 9) [.t 4,.t 30],ma 5 31,ma 6 32]
 .ret)
 .skip))
 (rg [oo 33 (.ld true 9) [.t 9],ou (.st 9) [.t 2,.t 33]])))))
 (rg [oo 34 (.bin .add) [.t 15,ki 1],ma 15 34])))))))
 (sr [oo 35 (.ld true 9) [.t 2],ma 36 1,oo 37 .len [.t 36],ou (.st 9) [.t 4,.t 35],ma 5 37,oo 6 .mv [ki 0]]
 .ret)))⟩
def zrW : AFun:=⟨40,[(4,some (true,9)),(5,none),(6,none)],
 (sr [oo 2 (.box 9) [.t 0],oo 4 (.alloc [v0,vn,vn,vn,vn,v0,vn,vn,vn]) [],oo 5 .mv [ki 0],oo 6 .mv [ki 0]]
 (sr [oo 12 (.ld true 9) [.t 2],ca 13 zdp [.t 12],ou (.st 9) [.t 2,.t 13]]
 (.seq (.seq
 (rg [oo 7 .mv [ki 0]])
 (.block 0 (.loop
 (.seq (.seq
 (rg [ma 14 7,ma 15 1,oo 16 .len [.t 15],oo 17 (.bin .lss) [.t 14,.t 16]])
 (.cond (.t 17)
 .skip
 (.exit 0)))
 (.seq (.block 1 (.seq (.reg true [oo 21 (.ld true 9) [.t 2],ma 22 1,ma 23 7,oo 24 (.iad 4) [.t 22,.t 23],oo 25 (.ld true 4) [.t 24],ca 26 zb9 [.t 21,.t 25],ma 20 26,oo 27 (.ext 0) [.t 20],oo 28 (.ext 1) [.t 20],oo 29 (.ext 2) [.t 20],oo 30 (.ext 3) [.t 20],oo 8 (.alloc [v0,vn,vn,vn,vn,v0,vn,vn,vn]) [],ou (.st 9) [.t 8,.t 27],ma 9 28,ma 10 29,ma 11 30] [[],[],[],[1,2],[3],[0,4],[5],[6],[6],[6],[6],[],[11,7,5,0,1,2,3,4,5,6,7,11],[8,12,0,1,2,3,4,5,6,7,8,11,12],[9,13,0,1,2,3,4,5,6,7,8,9,11,12,13],[10,14,0,1,2,3,4,5,6,7,8,9,10,11,12,13,14]])
 (.seq (.seq
 (rg [ma 31 11,oo 32 (.bin .neq) [.t 31,ki 0]])
 (.cond (.t 32)
 (sr [oo 33 (.ld true 9) [.t 2],ma 34 7,ma 35 11,ou (.st 9) [.t 4,.t 33],ma 5 34,ma 6 35]
 .ret)
 .skip))
 (rg [oo 36 (.ld true 9) [.t 8],ou (.st 9) [.t 2,.t 36]]))))
 (rg [ma 18 7,oo 19 (.bin .add) [.t 18,ki 1],ma 7 19]))))))
 (sr [oo 37 (.ld true 9) [.t 2],ma 38 1,oo 39 .len [.t 38],ou (.st 9) [.t 4,.t 37],ma 5 39,oo 6 .mv [ki 0]]
 .ret))))⟩
def zpo : AFun:=⟨44,[(4,none)],
 (sr [oo 2 (.box 9) [.t 0],oo 3 (.box 9) [.t 1],oo 4 .mv [.c (.bool false)]]
 (sr [fa 5 0 2,oo 6 (.ld true 3) [.t 5],fa 7 0 3,oo 8 (.ld true 3) [.t 7],ca 9 zhB [.t 6,.t 8],ma 10 9,fg 11 3 2 10,fg 12 0 11 10,lg 13 12 10,fg 14 3 3 10,fg 15 0 14 10,lg 16 15 10,og 17 .call [.f zaZ,.t 13,.t 16] 10,oo 18 .pick [.t 10,.t 17,.c (.bool false)],ma 19 18,fg 20 3 2 19,fg 21 1 20 19,lg 22 21 19,fg 23 3 3 19,fg 24 1 23 19,lg 25 24 19,og 26 .call [.f zaZ,.t 22,.t 25] 19,oo 27 .pick [.t 19,.t 26,.c (.bool false)],ma 28 27,fg 29 3 2 28,fg 30 2 29 28,lg 31 30 28,fg 32 3 3 28,fg 33 2 32 28,lg 34 33 28,og 35 (.bin .eql) [.t 31,.t 34] 28,oo 36 .pick [.t 28,.t 35,.c (.bool false)],ma 37 36,fg 38 6 2 37,og 39 (.ld true 3) [.t 38] 37,fg 40 6 3 37,og 41 (.ld true 3) [.t 40] 37,og 42 .call [.f zgs,.t 39,.t 41] 37,oo 43 .pick [.t 37,.t 42,.c (.bool false)],ma 4 43]
 .ret))⟩
def zmX : AFun:=⟨44,[(4,some (true,9)),(5,none),(6,none),(7,none)],
 (sr [oo 2 (.box 9) [.t 0],oo 3 (.box 4) [.t 1],oo 4 (.alloc [v0,vn,vn,vn,vn,v0,vn,vn,vn]) [],oo 5 .mv [kn],oo 6 .mv [kn],oo 7 .mv [ki 0]]
 (.seq (.seq
 (rg [fa 12 0 2,oo 13 (.ld true 3) [.t 12],fa 14 3 2,oo 15 (.ld true 3) [.t 14],fa 16 6 2,oo 17 (.ld true 3) [.t 16],ca 18 zaM [.t 13,.t 15,.t 17],oo 19 (.bin .neq) [.t 18,ki 0]])
 (.cond (.t 19)
 (sr [oo 20 (.ld true 9) [.t 2],ou (.st 9) [.t 4,.t 20],oo 5 .mv [kn],oo 6 .mv [kn],oo 7 .mv [ki 1]]
 .ret)
 .skip))
 (sr [oo 22 (.ld true 9) [.t 2],oo 23 (.ld true 4) [.t 3],ca 24 zeN [.t 22,.t 23],ma 21 24,oo 25 (.ext 0) [.t 21],oo 26 (.ext 1) [.t 21],oo 8 (.alloc [v0,vn,vn,vn,vn,v0,vn,vn,vn]) [],ou (.st 9) [.t 8,.t 25],ma 9 26]
 (.seq (.seq
 (rg [ma 27 9,oo 28 (.bin .neq) [.t 27,ki 0]])
 (.cond (.t 28)
 (sr [oo 29 (.ld true 9) [.t 2],ma 30 9,ou (.st 9) [.t 4,.t 29],oo 5 .mv [kn],oo 6 .mv [kn],ma 7 30]
 .ret)
 .skip))
 (.seq (.reg true [fa 31 6 2,fa 32 0 31,la 33 32,fa 34 6 8,fa 35 0 34,la 36 35,ma 10 33,ma 11 36] [[],[0],[1],[],[3],[4],[2,0,1,2],[5,6,0,1,2,3,4,5,6]])
 (.seq (.reg true [oo 37 (.ld true 9) [.t 8],ma 38 11,ma 39 10,ca 40 zeP [.t 38,.t 39],ma 41 10,ma 42 11,ca 43 zeP [.t 41,.t 42],ou (.st 9) [.t 4,.t 37],ma 5 40,ma 6 43,oo 7 .mv [ki 0]] [[],[],[],[1,2],[],[],[4,5,3],[0,6,0],[3,7,0,1,2,3,7],[6,8,0,1,2,3,4,5,6,7,8],[9,0,1,2,3,4,5,6,7,8,9]])
 .ret))))))⟩
def zoX : AFun:=⟨71,[(4,some (true,9)),(5,none),(6,none),(7,none)],
 (sr [oo 2 (.box 9) [.t 0],oo 3 (.box 4) [.t 1],oo 4 (.alloc [v0,vn,vn,vn,vn,v0,vn,vn,vn]) [],oo 5 .mv [kn],oo 6 .mv [kn],oo 7 .mv [ki 0]]
 (sr [oo 14 (.ld true 9) [.t 2],ca 15 zdp [.t 14],ou (.st 9) [.t 2,.t 15]]
 (.seq (.seq
 (rg [fa 16 0 2,oo 17 (.ld true 3) [.t 16],fa 18 3 2,oo 19 (.ld true 3) [.t 18],fa 20 6 2,oo 21 (.ld true 3) [.t 20],ca 22 zaX [.t 17,.t 19,.t 21],oo 23 (.bin .neq) [.t 22,ki 0]])
 (.cond (.t 23)
 (sr [oo 24 (.ld true 9) [.t 2],ou (.st 9) [.t 4,.t 24],oo 5 .mv [kn],oo 6 .mv [kn],oo 7 .mv [ki 1]]
 .ret)
 .skip))
 (sr [fa 26 0 2,oo 27 (.ld true 3) [.t 26],fa 28 1 3,oo 29 (.ld true 3) [.t 28],ca 30 zfu [.t 27,.t 29],ma 25 30,oo 31 (.ext 0) [.t 25],oo 32 (.ext 1) [.t 25],oo 8 (.alloc [v0,vn,vn]) [],ou (.st 3) [.t 8,.t 31],ma 9 32]
 (.seq (.seq
 (rg [fa 33 0 3,la 34 33])
 (.cond (.t 34)
 (rg [fa 36 0 2,oo 37 (.ld true 3) [.t 36],fa 38 1 3,fa 39 0 38,la 40 39,fa 41 1 3,fa 42 1 41,la 43 42,ca 44 ze2 [.t 37,.t 40,.t 43],ma 35 44,oo 45 (.ext 0) [.t 35],oo 46 (.ext 1) [.t 35],ou (.st 3) [.t 8,.t 45],ma 9 46])
 .skip))
 (.seq (.seq
 (rg [ma 47 9,oo 48 (.bin .neq) [.t 47,ki 0]])
 (.cond (.t 48)
 (sr [oo 49 (.ld true 9) [.t 2],ma 50 9,ou (.st 9) [.t 4,.t 49],oo 5 .mv [kn],oo 6 .mv [kn],ma 7 50]
 .ret)
 .skip))
 (sr [oo 52 (.ld true 3) [.t 8],fa 53 3 2,oo 54 (.ld true 3) [.t 53],ca 55 zbR [.t 52,.t 54],ma 51 55,oo 56 (.ext 0) [.t 51],oo 57 (.ext 1) [.t 51],oo 10 (.alloc [v0,vn,vn,vn,vn,v0,vn,vn,vn]) [],ou (.st 9) [.t 10,.t 56],ma 11 57]
 (.seq (.reg true [fa 58 6 2,fa 59 0 58,la 60 59,fa 61 6 10,fa 62 0 61,la 63 62,ma 12 60,ma 13 63] [[],[0],[1],[],[3],[4],[2,0,1,2],[5,6,0,1,2,3,4,5,6]])
 (.seq (.reg true [oo 64 (.ld true 9) [.t 10],ma 65 13,ma 66 12,ca 67 zdB [.t 65,.t 66],ma 68 12,ma 69 13,ca 70 zdB [.t 68,.t 69],ou (.st 9) [.t 4,.t 64],ma 5 67,ma 6 70,oo 7 .mv [ki 0]] [[],[],[],[1,2],[],[],[4,5,3],[0,6,0],[3,7,0,1,2,3,7],[6,8,0,1,2,3,4,5,6,7,8],[9,0,1,2,3,4,5,6,7,8,9]])
 .ret)))))))))⟩
def zpy : AFun:=⟨72,[(4,some (true,3)),(5,none)],
 (sr [oo 2 (.box 3) [.t 0],oo 3 (.box 3) [.t 1],oo 4 (.alloc [vn,vn,vn]) [],oo 5 .mv [ki 0]]
 (.seq (.seq
 (rg [oo 14 (.ld true 3) [.t 2],oo 15 (.ld true 3) [.t 3],ca 16 zbN [.t 14,.t 15],ma 6 16])
 (sr [ma 17 6,oo 18 (.bin .neq) [.t 17,ki 0]]
 (.cond (.t 18)
 (sr [oo 19 (.build [vn,vn,vn] []) [],ma 20 6,ou (.st 3) [.t 4,.t 19],ma 5 20]
 .ret)
 .skip)))
 (sr [oo 7 (.alloc [vn,vn,vn]) []]
 (.seq (.seq
 (rg [oo 21 (.ld true 3) [.t 2],oo 22 (.ld true 3) [.t 3],ca 23 zd2 [.t 21,.t 22],oo 24 .len [.t 23],oo 25 .mv [ki 0]])
 (.block 0 (.loop
 (sr [oo 26 (.bin .lss) [.t 25,.t 24]]
 (.seq (.cond (.t 26)
 .skip
 (.exit 0))
 (.seq (.block 1 (sr [oo 27 (.iad 1) [.t 23,.t 25],la 28 27,ma 9 28]
 (sr [fa 29 0 7,la 30 29,ma 31 9,ca 32 zeI [.t 30,.t 31],ma 10 32]
 (sr [oo 33 (.ld true 3) [.t 2],oo 34 (.ld true 3) [.t 3],ma 35 10,ca 36 zbO [.t 33,.t 34,.t 35],oo 11 (.alloc [v0,vn]) [],ou (.st 2) [.t 11,.t 36]]
 (sr [oo 38 (.ld true 2) [.t 11],ma 39 10,oo 40 .len [.t 39],ca 41 zcZ [.t 38,.t 40],ma 37 41,oo 42 (.ext 0) [.t 37],oo 43 (.ext 1) [.t 37],ma 12 42,ma 13 43]
 (.seq (.seq
 (rg [ma 44 13])
 (.cond (.t 44)
 (sr [ma 45 10,fa 46 0 7,ou (.st 1) [.t 46,.t 45]]
 (.exit 1))
 .skip))
 (.reg true [fa 47 2 7,la 48 47,ma 49 9,oo 50 (.ld true 2) [.t 11],ma 51 12,ca 52 zfK [.t 50,.t 51],oo 53 (.build [v0,vn] [(0,1),(1,1)]) [.t 49,.t 52],oo 54 (.bsl 2 1 [v0,vn] [0]) [.t 53],oo 55 (.app 2 32) [.t 48,.t 54],fa 56 2 7,ou (.st 1) [.t 56,.t 55]] [[],[0],[],[],[],[3,4],[2,5],[6],[1,7,5],[0,1,2,3,4,5,6,7,8],[9,8,8,0,1,2,3,4,5,6,7,8]])))))))
 (rg [oo 57 (.bin .add) [.t 25,ki 1],ma 25 57])))))))
 (.seq (.reg true [oo 59 (.ld true 3) [.t 2],oo 60 (.ld true 3) [.t 3],fa 61 0 7,la 62 61,ca 63 zbO [.t 59,.t 60,.t 62],fa 64 0 7,la 65 64,oo 66 .len [.t 65],ca 67 zcZ [.t 63,.t 66],ma 58 67,oo 68 (.ext 0) [.t 58],oo 69 (.ext 1) [.t 58],fa 70 1 7,ou (.st 1) [.t 70,.t 68]] [[],[],[],[2],[0,1,3],[],[5],[6],[4,7,4],[8],[9],[9],[0,1,2,3,4,5,6,7,8,9,10],[12,10,8,0,1,2,3,4,5,6,7,8,9,10]])
 (sr [oo 71 (.ld true 3) [.t 7],ou (.st 3) [.t 4,.t 71],oo 5 .mv [ki 0]]
 .ret))))))⟩
def zlQ : AFun:=⟨12,[(2,some (true,3))],
 (sr [oo 1 (.box 3) [.t 0],oo 2 (.alloc [vn,vn,v0]) []]
 (.seq (.reg true [fa 3 0 1,la 4 3,ca 5 zaN [.t 4],fa 6 1 1,la 7 6,ca 8 zaN [.t 7],fa 9 2 1,la 10 9,oo 11 (.build [vn,vn,v0] [(0,1),(1,1),(2,1)]) [.t 5,.t 8,.t 10],ou (.st 3) [.t 2,.t 11]] [[],[0],[1],[],[3],[4,2],[],[6],[2,5,7],[8,5,0,1,2,3,4,5,6,7,8]])
 .ret))⟩
def zsc : AFun:=⟨84,[(4,some (true,3)),(5,none)],
 (sr [oo 2 (.box 3) [.t 0],oo 3 (.box 3) [.t 1],oo 4 (.alloc [vn,vn,vn]) [],oo 5 .mv [ki 0]]
 (.seq (.seq
 (rg [oo 17 (.ld true 3) [.t 2],oo 18 (.ld true 3) [.t 3],ca 19 zcQ [.t 17,.t 18],ma 6 19])
 (sr [ma 20 6,oo 21 (.bin .neq) [.t 20,ki 0]]
 (.cond (.t 21)
 (sr [oo 22 (.build [vn,vn,vn] []) [],ma 23 6,ou (.st 3) [.t 4,.t 22],ma 5 23]
 .ret)
 .skip)))
 (sr [oo 7 (.alloc [vn,vn,vn]) []]
 (sr [oo 8 .mv [kn]]
 (.seq (.reg true [oo 24 (.ld true 3) [.t 2],fa 25 2 3,la 26 25,ca 27 zcK [.t 24,.t 26],fa 28 0 3,la 29 28,ca 30 zeL [.t 27,.t 29],ma 9 30] [[],[],[1],[0,2],[],[4],[3,5,3],[6,6,0,1,2,3,4,5,6]])
 (.seq (.seq
 (rg [oo 10 .mv [ki 0]])
 (.block 0 (.loop
 (.seq (.seq
 (rg [ma 31 10,ma 32 9,oo 33 .len [.t 32],oo 34 (.bin .lss) [.t 31,.t 33]])
 (.cond (.t 34)
 .skip
 (.exit 0)))
 (.seq (.block 1 (sr [ma 37 9,ma 38 10,oo 39 (.iad 1) [.t 37,.t 38],la 40 39,ma 11 40]
 (.seq (.reg true [oo 42 (.ld true 3) [.t 2],oo 43 (.ld true 3) [.t 3],ma 44 8,ma 45 11,ca 46 zcf [.t 44,.t 45],ca 47 zdY [.t 42,.t 43,.t 46],ma 41 47,oo 48 (.ext 0) [.t 41],oo 49 (.ext 1) [.t 41],oo 50 (.ext 2) [.t 41],oo 12 (.alloc [v0,vn]) [],ou (.st 2) [.t 12,.t 48],ma 13 49,ma 14 50] [[],[],[],[],[2,3],[0,1,4,4],[5],[6],[6],[6],[],[10,7,5,0,1,2,3,4,5,6,7,10],[8,11,0,1,2,3,4,5,6,7,8,10,11],[9,12,0,1,2,3,4,5,6,7,8,9,10,11,12]])
 (.seq (.seq
 (rg [ma 51 14])
 (.cond (.t 51)
 (sr [fa 52 0 7,la 53 52,ma 54 11,oo 55 (.bsl 1 1 [v0] [0]) [.t 54],oo 56 (.app 1 8) [.t 53,.t 55],ma 57 8,ma 58 11,ca 59 zcf [.t 57,.t 58],fa 60 0 7,ou (.st 1) [.t 60,.t 56],ma 8 59]
 (.exit 1))
 .skip))
 (sr [oo 62 (.ld true 2) [.t 12],ca 63 zeS [.t 62],ma 61 63,oo 64 (.ext 0) [.t 61],oo 65 (.ext 1) [.t 61],ma 15 64,ma 16 65]
 (rg [fa 66 2 7,la 67 66,ma 68 11,ma 69 15,oo 70 (.build [v0,vn] [(0,1),(1,1)]) [.t 68,.t 69],oo 71 (.bsl 2 1 [v0,vn] [0]) [.t 70],oo 72 (.app 2 32) [.t 67,.t 71],fa 73 2 7,ou (.st 1) [.t 73,.t 72]]))))))
 (rg [ma 35 10,oo 36 (.bin .add) [.t 35,ki 1],ma 10 36]))))))
 (sr [oo 75 (.ld true 3) [.t 2],oo 76 (.ld true 3) [.t 3],ma 77 8,ca 78 zdY [.t 75,.t 76,.t 77],ma 74 78,oo 79 (.ext 0) [.t 74],oo 80 (.ext 1) [.t 74],oo 81 (.ext 2) [.t 74],fa 82 1 7,ou (.st 1) [.t 82,.t 80]]
 (sr [oo 83 (.ld true 3) [.t 7],ou (.st 3) [.t 4,.t 83],oo 5 .mv [ki 0]]
 .ret))))))))⟩
def zqt : AFun:=⟨13,[(2,some (true,9))],
 (sr [oo 1 (.box 9) [.t 0],oo 2 (.alloc [v0,vn,vn,vn,vn,v0,vn,vn,vn]) []]
 (.seq (.reg true [fa 3 0 1,oo 4 (.ld true 3) [.t 3],ca 5 zdl [.t 4],fa 6 3 1,oo 7 (.ld true 3) [.t 6],ca 8 zds [.t 7],fa 9 6 1,oo 10 (.ld true 3) [.t 9],ca 11 zhm [.t 10],oo 12 (.build [v0,vn,vn,vn,vn,v0,vn,vn,vn] [(0,3),(3,3),(6,3)]) [.t 5,.t 8,.t 11],ou (.st 9) [.t 2,.t 12]] [[],[0],[1],[],[3],[4,2],[],[6],[7,5],[2,5,8],[9,8,0,1,2,3,4,5,6,7,8,9]])
 .ret))⟩
def zoh : AFun:=⟨114,[(6,none)],
 (sr [oo 3 (.box 3) [.t 0],oo 4 (.box 3) [.t 1],oo 5 (.box 3) [.t 2],oo 6 .mv [ki 0]]
 (.seq (.seq
 (rg [oo 18 (.ld true 3) [.t 3],oo 19 (.ld true 3) [.t 4],ca 20 zcQ [.t 18,.t 19],ma 7 20])
 (sr [ma 21 7,oo 22 (.bin .neq) [.t 21,ki 0]]
 (.cond (.t 22)
 (sr [ma 23 7,ma 6 23]
 .ret)
 .skip)))
 (.seq (.reg true [oo 24 (.ld true 3) [.t 3],fa 25 2 4,la 26 25,ca 27 zcK [.t 24,.t 26],fa 28 0 4,la 29 28,ca 30 zeL [.t 27,.t 29],ma 8 30] [[],[],[1],[0,2],[],[4],[3,5,3],[6,6,0,1,2,3,4,5,6]])
 (.seq (.seq
 (rg [ma 31 8,oo 32 (.ld true 3) [.t 5],ca 33 zdP [.t 31,.t 32],oo 34 (.un .not) [.t 33]])
 (.cond (.t 34)
 (sr [oo 6 .mv [ki 1]]
 .ret)
 .skip))
 (sr [oo 9 .mv [kn]]
 (.seq (.seq
 (rg [oo 10 .mv [ki 0]])
 (.block 0 (.loop
 (.seq (.seq
 (rg [ma 35 10,fa 36 0 5,la 37 36,oo 38 .len [.t 37],oo 39 (.bin .lss) [.t 35,.t 38]])
 (.cond (.t 39)
 .skip
 (.exit 0)))
 (.seq (.block 1 (rg [ma 42 9,fa 43 0 5,la 44 43,ma 45 10,oo 46 (.iad 1) [.t 44,.t 45],la 47 46,ca 48 zcf [.t 42,.t 47],ma 9 48]))
 (rg [ma 40 10,oo 41 (.bin .add) [.t 40,ki 1],ma 10 41]))))))
 (sr [oo 50 (.ld true 3) [.t 3],oo 51 (.ld true 3) [.t 4],ma 52 9,ca 53 zcs [.t 50,.t 51,.t 52],ma 49 53,oo 54 (.ext 0) [.t 49],oo 55 (.ext 1) [.t 49],oo 11 (.alloc [v0,vn]) [],ou (.st 2) [.t 11,.t 54],ma 12 55]
 (.seq (.seq
 (rg [oo 56 (.ld true 2) [.t 11],fa 57 1 5,la 58 57,ca 59 zdN [.t 56,.t 58],oo 60 (.un .not) [.t 59],ma 61 60,oh 62 (.ld true 2) [.t 11] 61,fh 63 1 5 61,lh 64 63 61,oh 65 .call [.f zdL,.t 62,.t 64] 61,mh 66 9 61,oh 67 .len [.t 66] 61,oh 68 (.bin .neq) [.t 65,.t 67] 61,oo 69 .pick [.t 61,.c (.bool true),.t 68]])
 (.cond (.t 69)
 (sr [oo 6 .mv [ki 17]]
 .ret)
 .skip))
 (sr [oo 13 .mv [kn]]
 (sr [oo 14 .mv [ki 0]]
 (.seq (.seq
 (rg [oo 15 .mv [ki 0]])
 (.block 2 (.loop
 (.seq (.seq
 (rg [ma 70 15,ma 71 8,oo 72 .len [.t 71],oo 73 (.bin .lss) [.t 70,.t 72]])
 (.cond (.t 73)
 .skip
 (.exit 2)))
 (.seq (.block 3 (.seq (.seq
 (.reg true [fa 76 0 5,la 77 76,ma 78 8,ma 79 15,oo 80 (.iad 1) [.t 78,.t 79],la 81 80,ca 82 zaT [.t 77,.t 81]] [[],[0],[],[],[2,3],[4],[1,5]])
 (.cond (.t 82)
 (sr [ma 83 13,ma 84 8,ma 85 15,oo 86 (.iad 1) [.t 84,.t 85],la 87 86,ca 88 zcf [.t 83,.t 87],ma 13 88]
 (.exit 3))
 .skip))
 (.seq (.reg true [oo 90 (.ld true 3) [.t 3],oo 91 (.ld true 3) [.t 4],ma 92 13,ma 93 8,ma 94 15,oo 95 (.iad 1) [.t 93,.t 94],la 96 95,ca 97 zcf [.t 92,.t 96],ca 98 zcs [.t 90,.t 91,.t 97],ma 89 98,oo 99 (.ext 0) [.t 89],oo 100 (.ext 1) [.t 89],oo 16 (.alloc [v0,vn]) [],ou (.st 2) [.t 16,.t 99],ma 17 100] [[],[],[],[],[],[3,4],[5],[2,6],[0,1,7,7],[8],[9],[9],[],[12,10,8,0,1,2,3,4,5,6,7,8,9,10,12],[11,13,0,1,2,3,4,5,6,7,8,9,10,11,12,13]])
 (.seq (.seq
 (.reg true [oo 101 (.ld true 2) [.t 16],fa 102 2 5,la 103 102,ma 104 14,oo 105 (.iad 2) [.t 103,.t 104],fa 106 1 105,la 107 106,ma 108 13,oo 109 .len [.t 108],ca 110 zfI [.t 101,.t 107,.t 109],oo 111 (.un .not) [.t 110]] [[],[],[1],[],[2,3],[4],[5],[],[7],[0,6,8],[9]])
 (.cond (.t 111)
 (sr [oo 6 .mv [ki 18]]
 .ret)
 .skip))
 (rg [ma 112 14,oo 113 (.bin .add) [.t 112,ki 1],ma 14 113])))))
 (rg [ma 74 15,oo 75 (.bin .add) [.t 74,ki 1],ma 15 75]))))))
 (sr [oo 6 .mv [ki 0]]
 .ret))))))))))))⟩
def zpp : AFun:=⟨17,[(4,none)],
 (sr [oo 2 (.box 3) [.t 0],oo 3 (.box 3) [.t 1],oo 4 .mv [.c (.bool false)]]
 (sr [fa 5 0 2,la 6 5,fa 7 0 3,la 8 7,ca 9 zaZ [.t 6,.t 8],ma 10 9,fg 11 2 2 10,lg 12 11 10,fg 13 2 3 10,lg 14 13 10,og 15 .call [.f zcE,.t 12,.t 14] 10,oo 16 .pick [.t 10,.t 15,.c (.bool false)],ma 4 16]
 .ret))⟩
def zm2 : AFun:=⟨80,[(6,none)],
 (sr [oo 3 (.box 3) [.t 0],oo 4 (.box 3) [.t 1],oo 5 (.box 3) [.t 2],oo 6 .mv [ki 0]]
 (.seq (.seq
 (rg [oo 14 (.ld true 3) [.t 3],oo 15 (.ld true 3) [.t 4],ca 16 zbN [.t 14,.t 15],ma 7 16])
 (sr [ma 17 7,oo 18 (.bin .neq) [.t 17,ki 0]]
 (.cond (.t 18)
 (sr [ma 19 7,ma 6 19]
 .ret)
 .skip)))
 (.seq (.reg true [oo 21 (.ld true 3) [.t 3],oo 22 (.ld true 3) [.t 4],ca 23 zd2 [.t 21,.t 22],oo 24 (.ld true 3) [.t 5],ca 25 ze9 [.t 23,.t 24],ma 20 25,oo 26 (.ext 0) [.t 20],oo 27 (.ext 1) [.t 20],ma 8 26,ma 9 27] [[],[],[0,1],[],[2,3,2],[4],[5],[5],[6,4,0,1,2,3,4,5,6],[7,8,0,1,2,3,4,5,6,7,8]])
 (.seq (.seq
 (rg [ma 28 9,oo 29 (.un .not) [.t 28]])
 (.cond (.t 29)
 (sr [oo 6 .mv [ki 1]]
 .ret)
 .skip))
 (.seq (.seq
 (rg [oo 30 (.ld true 3) [.t 3],oo 31 (.ld true 3) [.t 4],fa 32 0 5,la 33 32,ca 34 zbO [.t 30,.t 31,.t 33],oo 10 (.alloc [v0,vn]) [],ou (.st 2) [.t 10,.t 34]])
 (.seq (.reg true [oo 35 (.ld true 2) [.t 10],fa 36 1 5,la 37 36,ca 38 zfm [.t 35,.t 37],oo 39 (.un .not) [.t 38],ma 40 39,oh 41 (.ld true 2) [.t 10] 40,fh 42 1 5 40,lh 43 42 40,oh 44 .call [.f zfz,.t 41,.t 43] 40,fh 45 0 5 40,lh 46 45 40,oh 47 .len [.t 46] 40,oh 48 (.bin .neq) [.t 44,.t 47] 40,oo 49 .pick [.t 40,.c (.bool true),.t 48]] [[],[],[1],[0,2],[3],[4,3],[5],[5],[7,5],[6,8,5,5],[5],[10,5],[11,5],[9,12,5],[5,13]])
 (.cond (.t 49)
 (sr [oo 6 .mv [ki 17]]
 .ret)
 .skip)))
 (.seq (.seq
 (rg [fa 50 2 5,la 51 50,oo 52 .len [.t 51],oo 53 .mv [ki 0]])
 (.block 0 (.loop
 (sr [oo 54 (.bin .lss) [.t 53,.t 52]]
 (.seq (.cond (.t 54)
 .skip
 (.exit 0))
 (.seq (.block 1 (sr [ma 55 53,oo 56 (.iad 2) [.t 51,.t 53],oo 57 (.ld true 2) [.t 56],oo 12 (.alloc [v0,vn]) [],ma 11 55,ou (.st 2) [.t 12,.t 57]]
 (.seq (.reg true [fa 58 0 5,la 59 58,ma 60 8,ma 61 11,oo 62 (.iad 1) [.t 60,.t 61],la 63 62,oo 64 (.slc 1 false true false) [.t 59,.t 63],fa 65 0 12,la 66 65,ca 67 zeI [.t 64,.t 66],ma 13 67] [[],[0],[],[],[2,3],[4],[1,5],[],[7],[6,8],[9,9,0,1,2,3,4,5,6,7,8,9]])
 (.seq (.reg true [oo 68 (.ld true 3) [.t 3],oo 69 (.ld true 3) [.t 4],ma 70 13,ca 71 zbO [.t 68,.t 69,.t 70],fa 72 1 12,la 73 72,ma 74 13,oo 75 .len [.t 74],oo 76 (.bin .sub) [.t 75,ki 1],ca 77 zhi [.t 71,.t 73,.t 76],oo 78 (.un .not) [.t 77]] [[],[],[],[0,1,2],[],[4],[],[6],[7],[3,5,8,3],[9]])
 (.cond (.t 78)
 (sr [oo 6 .mv [ki 18]]
 .ret)
 .skip)))))
 (rg [oo 79 (.bin .add) [.t 53,ki 1],ma 53 79])))))))
 (sr [oo 6 .mv [ki 0]]
 .ret)))))))⟩
def zoI : AFun:=⟨26,[(4,some (true,9)),(5,none)],
 (sr [oo 2 (.box 9) [.t 0],oo 3 (.box 4) [.t 1],oo 4 (.alloc [v0,vn,vn,vn,vn,v0,vn,vn,vn]) [],oo 5 .mv [ki 0]]
 (.seq (.reg true [oo 9 (.ld true 4) [.t 3],ca 10 ziO [.t 9],fa 11 0 2,oo 12 (.ld true 3) [.t 11],oo 13 (.inv [(141,zbt),(142,zbm)]) [.t 10,.t 12],ma 8 13,oo 14 (.ext 0) [.t 8],oo 15 (.ext 1) [.t 8],oo 6 (.alloc [v0,vn,vn]) [],ou (.st 3) [.t 6,.t 14],ma 7 15] [[],[0],[],[2],[1,3,1],[4],[5],[5],[],[8,6,4,0,1,2,3,4,5,6,8],[7,9,0,1,2,3,4,5,6,7,8,9]])
 (.seq (.seq
 (rg [ma 16 7,oo 17 (.bin .neq) [.t 16,ki 0]])
 (.cond (.t 17)
 (sr [oo 18 (.ld true 9) [.t 2],ma 19 7,ou (.st 9) [.t 4,.t 18],ma 5 19]
 .ret)
 .skip))
 (sr [oo 20 (.ld true 3) [.t 6],fa 21 3 2,oo 22 (.ld true 3) [.t 21],ca 23 zbU [.t 20,.t 22],oo 24 (.ext 0) [.t 23],oo 25 (.ext 1) [.t 23],ou (.st 9) [.t 4,.t 24],ma 5 25]
 .ret))))⟩
def zn0 : AFun:=⟨10,[(4,none)],
 (sr [oo 3 (.box 1) [.t 1],oo 4 .mv [kn]]
 (sr [ma 5 0,ca 6 zaN [.t 5],oo 7 (.mkf zc4) [.t 3],ca 8 za7 [.t 6,.t 7],ca 9 zd8 [.t 8],ma 4 9]
 .ret))⟩
def zlx : AFun:=⟨27,[(4,none)],
 (sr [oo 4 .mv [kn]]
 (sr [oo 5 .mv [kn]]
 (.seq (.seq
 (rg [oo 6 .mv [ki 0]])
 (.block 0 (.loop
 (.seq (.seq
 (rg [ma 7 6,ma 8 0,oo 9 .len [.t 8],oo 10 (.bin .lss) [.t 7,.t 9]])
 (.cond (.t 10)
 .skip
 (.exit 0)))
 (.seq (.block 1 (sr [ma 13 1,ma 14 0,ma 15 6,oo 16 (.iad 1) [.t 14,.t 15],la 17 16,ca 18 zaT [.t 13,.t 17],oo 19 (.un .not) [.t 18]]
 (.cond (.t 19)
 (rg [ma 20 5,ma 21 0,ma 22 6,oo 23 (.iad 1) [.t 21,.t 22],la 24 23,ca 25 zcf [.t 20,.t 24],ma 5 25])
 .skip)))
 (rg [ma 11 6,oo 12 (.bin .add) [.t 11,ki 1],ma 6 12]))))))
 (sr [ma 26 5,ma 4 26]
 .ret))))⟩
def zkc : AFun:=⟨65,[(4,none)],
 (sr [oo 2 (.box 3) [.t 0],oo 3 (.box 3) [.t 1],oo 4 .mv [ki 0]]
 (.seq (.seq
 (rg [oo 8 (.ld true 3) [.t 2],ca 9 zdG [.t 8],ma 5 9])
 (sr [ma 10 5,oo 11 (.bin .neq) [.t 10,ki 0]]
 (.cond (.t 11)
 (sr [ma 12 5,ma 4 12]
 .ret)
 .skip)))
 (.seq (.seq
 (rg [fa 13 0 3,la 14 13,oo 15 .len [.t 14],oo 16 (.bin .eql) [.t 15,ki 0],ma 17 16,fh 18 0 3 17,lh 19 18 17,fh 20 0 2 17,lh 21 20 17,oh 22 (.bin .sub) [.t 21,ki 1] 17,oh 23 .call [.f zbo,.t 19,ki 0,.t 22] 17,oh 24 (.un .not) [.t 23] 17,oo 25 .pick [.t 17,.c (.bool true),.t 24],ma 26 25,fh 27 1 3 26,lh 28 27 26,oh 29 .len [.t 28] 26,oh 30 .call [.f zaQ,.t 29,ki 1,ki 8] 26,oh 31 (.un .not) [.t 30] 26,oo 32 .pick [.t 26,.c (.bool true),.t 31],ma 33 32,fh 34 2 3 33,lh 35 34 33,oh 36 .call [.f zaQ,.t 35,ki 1,ki 3] 33,oh 37 (.un .not) [.t 36] 33,oo 38 .pick [.t 33,.c (.bool true),.t 37]])
 (.cond (.t 38)
 (sr [oo 4 .mv [ki 15]]
 .ret)
 .skip))
 (.seq (.seq
 (rg [fa 39 1 3,la 40 39,oo 41 .len [.t 40],oo 42 .mv [ki 0]])
 (.block 0 (.loop
 (sr [oo 43 (.bin .lss) [.t 42,.t 41]]
 (.seq (.cond (.t 43)
 .skip
 (.exit 0))
 (.seq (.block 1 (sr [ma 44 42,oo 45 (.iad 1) [.t 40,.t 42],la 46 45,ma 6 44,ma 7 46]
 (sr [ma 47 7,ca 48 zaQ [.t 47,ki 1,ki 1000],oo 49 (.un .not) [.t 48],ma 50 49,mh 51 6 50,oh 52 (.bin .gtr) [.t 51,ki 0] 50,mh 53 52 50,mg 54 7 53,fg 55 1 3 53,lg 56 55 53,mg 57 6 53,og 58 (.bin .sub) [.t 57,ki 1] 53,og 59 (.iad 1) [.t 56,.t 58] 53,lg 60 59 53,og 61 (.bin .gtr) [.t 54,.t 60] 53,oh 62 .pick [.t 53,.t 61,.c (.bool false)] 50,oo 63 .pick [.t 50,.c (.bool true),.t 62]]
 (.cond (.t 63)
 (sr [oo 4 .mv [ki 15]]
 .ret)
 .skip))))
 (rg [oo 64 (.bin .add) [.t 42,ki 1],ma 42 64])))))))
 (sr [oo 4 .mv [ki 0]]
 .ret)))))⟩
def znb : AFun:=⟨12,[(4,none)],
 (sr [oo 2 (.box 3) [.t 0],oo 3 (.box 3) [.t 1],oo 4 .mv [kn]]
 (.seq (.reg true [oo 5 (.ld true 3) [.t 2],fa 6 2 3,la 7 6,ca 8 zcR [.t 5,.t 7],fa 9 0 3,la 10 9,ca 11 zev [.t 8,.t 10],ma 4 11] [[],[],[1],[0,2],[],[4],[3,5,3],[6,6,0,1,2,3,4,5,6]])
 .ret))⟩
def zpa : AFun:=⟨14,[(4,none)],
 (sr [oo 4 .mv [kn]]
 (sr [ma 5 0,ma 6 0,oo 7 .len [.t 6],ma 8 0,oo 9 .len [.t 8],oo 10 (.slc 1 false true true) [.t 5,.t 7,.t 9],ma 11 1,oo 12 (.bsl 1 1 [v0] [0]) [.t 11],oo 13 (.app 1 8) [.t 10,.t 12],ma 4 13]
 .ret))⟩
def zkm : AFun:=⟨18,[(6,some (true,2))],
 (sr [oo 3 (.box 3) [.t 0],oo 4 (.box 3) [.t 1],oo 6 (.alloc [v0,vn]) []]
 (.seq (.reg true [oo 10 (.ld true 3) [.t 3],oo 11 (.ld true 3) [.t 4],ma 12 2,ca 13 zd8 [.t 12],ca 14 zeV [.t 10,.t 11,.t 13],ma 9 14,oo 15 (.ext 0) [.t 9],oo 16 (.ext 1) [.t 9],oo 7 (.alloc [v0,vn]) [],ou (.st 2) [.t 7,.t 15],ma 8 16] [[],[],[],[2],[0,1,3,3],[4],[5],[5],[],[8,6,4,0,1,2,3,4,5,6,8],[7,9,0,1,2,3,4,5,6,7,8,9]])
 (sr [oo 17 (.ld true 2) [.t 7],ou (.st 2) [.t 6,.t 17]]
 .ret)))⟩
def zno : AFun:=⟨19,[(4,none),(5,none)],
 (sr [oo 2 (.box 2) [.t 0],oo 4 .mv [kn],oo 5 .mv [.c (.bool false)]]
 (sr [oo 9 (.ld true 2) [.t 2],ca 10 zk3 [.t 9],ma 8 10,oo 11 (.ext 0) [.t 8],oo 12 (.ext 1) [.t 8],ma 6 11,ma 7 12]
 (sr [ma 13 6,oo 14 (.ld true 2) [.t 2],ma 15 6,ca 16 zfz [.t 14,.t 15],ma 17 1,oo 18 (.bin .eql) [.t 16,.t 17],ma 4 13,ma 5 18]
 .ret)))⟩
def zmK : AFun:=⟨14,[(4,none)],
 (sr [oo 2 (.box 2) [.t 0],oo 4 .mv [kn]]
 (sr [oo 6 (.ld true 2) [.t 2],ma 7 1,ca 8 zgQ [.t 6,.t 7],ca 9 zbz [.t 8],oo 5 (.alloc [(.map none)]) [],ou (.st 1) [.t 5,.t 9]]
 (sr [fa 10 0 2,la 11 10,oo 12 (.mkf zaK) [.t 5],ca 13 zb8 [.t 11,.t 12],ma 4 13]
 .ret)))⟩
def zpl : AFun:=⟨12,[(4,none)],
 (sr [oo 2 (.box 3) [.t 0],oo 3 (.box 3) [.t 1],oo 4 .mv [ki 0]]
 (.seq (.seq
 (rg [oo 5 (.ld true 3) [.t 2],ca 6 zdK [.t 5],oo 7 (.bin .neq) [.t 6,ki 0]])
 (.cond (.t 7)
 (sr [oo 4 .mv [ki 14]]
 .ret)
 .skip))
 (.seq (.seq
 (rg [oo 8 (.ld true 3) [.t 2],oo 9 (.ld true 3) [.t 3],ca 10 zfq [.t 8,.t 9],oo 11 (.un .not) [.t 10]])
 (.cond (.t 11)
 (sr [oo 4 .mv [ki 15]]
 .ret)
 .skip))
 (sr [oo 4 .mv [ki 0]]
 .ret))))⟩
def znM : AFun:=⟨33,[(6,some (true,2)),(7,none),(8,none)],
 (sr [oo 3 (.box 3) [.t 0],oo 4 (.box 3) [.t 1],oo 6 (.alloc [v0,vn]) [],oo 7 .mv [kn],oo 8 .mv [.c (.bool false)]]
 (sr [oo 14 (.ld true 3) [.t 3],oo 15 (.ld true 3) [.t 4],ma 16 2,ca 17 zcs [.t 14,.t 15,.t 16],ma 13 17,oo 18 (.ext 0) [.t 13],oo 19 (.ext 1) [.t 13],oo 9 (.alloc [v0,vn]) [],ou (.st 2) [.t 9,.t 18],ma 10 19]
 (sr [oo 21 (.ld true 2) [.t 9],ca 22 zgP [.t 21],ma 20 22,oo 23 (.ext 0) [.t 20],oo 24 (.ext 1) [.t 20],ma 11 23,ma 12 24]
 (.seq (.reg true [oo 25 (.ld true 2) [.t 9],ma 26 11,oo 27 (.ld true 2) [.t 9],ma 28 11,ca 29 zdL [.t 27,.t 28],ma 30 2,oo 31 .len [.t 30],oo 32 (.bin .eql) [.t 29,.t 31],ou (.st 2) [.t 6,.t 25],ma 7 26,ma 8 32] [[],[],[],[],[2,3],[],[5],[4,6],[0,4,0],[1,8,0,1,8],[7,9,0,1,2,3,4,5,6,7,8,9]])
 .ret))))⟩
def zl4 : AFun:=⟨37,[(2,none),(3,none)],
 (sr [oo 1 (.box 2) [.t 0],oo 2 .mv [kn],oo 3 .mv [ki 0]]
 (sr [oo 10 (.ld true 2) [.t 1],ca 11 zgP [.t 10],ma 9 11,oo 12 (.ext 0) [.t 9],oo 13 (.ext 1) [.t 9],ma 4 12,ma 5 13]
 (.seq (.seq
 (rg [ma 14 5,oo 15 (.bin .neq) [.t 14,ki 0]])
 (.cond (.t 15)
 (sr [ma 16 5,oo 2 .mv [kn],ma 3 16]
 .ret)
 .skip))
 (sr [oo 17 (.ld true 2) [.t 1],ma 18 4,ca 19 zc7 [.t 17,.t 18],ma 6 19]
 (sr [oo 20 (.bsl 1 1 [v0] [0]) [ki 0],ma 7 20]
 (.seq (.seq
 (rg [oo 8 .mv [ki 1]])
 (.block 0 (.loop
 (.seq (.seq
 (rg [ma 21 8,fa 22 0 1,la 23 22,oo 24 (.bin .lss) [.t 21,.t 23]])
 (.cond (.t 24)
 .skip
 (.exit 0)))
 (.seq (.block 1 (sr [ma 27 6,ma 28 8,oo 29 (.iad 1) [.t 27,.t 28],la 30 29,oo 31 (.bin .neq) [.t 30,ki 0]]
 (.cond (.t 31)
 (rg [ma 32 7,ma 33 8,oo 34 (.bsl 1 1 [v0] [0]) [.t 33],oo 35 (.app 1 8) [.t 32,.t 34],ma 7 35])
 .skip)))
 (rg [ma 25 8,oo 26 (.bin .add) [.t 25,ki 1],ma 8 26]))))))
 (sr [ma 36 7,ma 2 36,oo 3 .mv [ki 0]]
 .ret)))))))⟩
def ziK : AFun:=⟨12,[(2,some (true,3))],
 (sr [oo 1 (.box 3) [.t 0],oo 2 (.alloc [vn,vn,v0]) []]
 (.seq (.reg true [fa 3 0 1,la 4 3,oo 5 (.app 1 8) [kn,.t 4],fa 6 1 1,la 7 6,oo 8 (.app 1 8) [kn,.t 7],fa 9 2 1,la 10 9,oo 11 (.build [vn,vn,v0] [(0,1),(1,1),(2,1)]) [.t 5,.t 8,.t 10],ou (.st 3) [.t 2,.t 11]] [[],[0],[1],[],[3],[4,2],[],[6],[2,5,7],[8,5,0,1,2,3,4,5,6,7,8]])
 .ret))⟩
def zpA : AFun:=⟨39,[(2,some (true,3))],
 (sr [oo 1 (.box 3) [.t 0],oo 2 (.alloc [vn,vn,vn]) []]
 (.seq (.reg true [fa 5 0 1,la 6 5,oo 7 (.app 1 8) [kn,.t 6],fa 8 1 1,la 9 8,oo 10 (.app 1 8) [kn,.t 9],oo 11 (.build [vn,vn,vn] [(0,1),(1,1)]) [.t 7,.t 10],oo 3 (.alloc [vn,vn,vn]) [],ou (.st 3) [.t 3,.t 11]] [[],[0],[1],[],[3],[4,2],[2,5],[],[7,6,5,0,1,2,3,4,5,6,7]])
 (.seq (.seq
 (rg [oo 4 .mv [ki 0]])
 (.block 0 (.loop
 (.seq (.seq
 (rg [ma 12 4,fa 13 2 1,la 14 13,oo 15 .len [.t 14],oo 16 (.bin .lss) [.t 12,.t 15]])
 (.cond (.t 16)
 .skip
 (.exit 0)))
 (.seq (.block 1 (.reg true [fa 19 2 3,la 20 19,fa 21 2 1,la 22 21,ma 23 4,oo 24 (.iad 2) [.t 22,.t 23],fa 25 0 24,la 26 25,fa 27 2 1,la 28 27,ma 29 4,oo 30 (.iad 2) [.t 28,.t 29],fa 31 1 30,la 32 31,oo 33 (.app 1 8) [kn,.t 32],oo 34 (.build [v0,vn] [(0,1),(1,1)]) [.t 26,.t 33],oo 35 (.bsl 2 1 [v0,vn] [0]) [.t 34],oo 36 (.app 2 32) [.t 20,.t 35],fa 37 2 3,ou (.st 1) [.t 37,.t 36]] [[],[0],[],[2],[],[3,4],[5],[6],[],[8],[],[9,10],[11],[12],[13],[7,14],[15],[1,16,14],[0,1,2,3,4,5,6,7,8,9,10,11,12,13,14,15,16,17],[18,17,17,0,1,2,3,4,5,6,7,8,9,10,11,12,13,14,15,16,17]]))
 (rg [ma 17 4,oo 18 (.bin .add) [.t 17,ki 1],ma 4 18]))))))
 (sr [oo 38 (.ld true 3) [.t 3],ou (.st 3) [.t 2,.t 38]]
 .ret))))⟩
def zlX : AFun:=⟨158,[(6,some (true,2)),(7,none)],
 (sr [oo 3 (.box 3) [.t 0],oo 4 (.box 3) [.t 1],oo 6 (.alloc [v0,vn]) [],oo 7 .mv [ki 0]]
 (.seq (.seq
 (rg [oo 18 (.ld true 3) [.t 3],oo 19 (.ld true 3) [.t 4],ca 20 zcQ [.t 18,.t 19],ma 8 20])
 (sr [ma 21 8,oo 22 (.bin .neq) [.t 21,ki 0]]
 (.cond (.t 22)
 (sr [oo 23 (.build [v0,vn] []) [],ma 24 8,ou (.st 2) [.t 6,.t 23],ma 7 24]
 .ret)
 .skip)))
 (.seq (.seq
 (rg [ma 25 2,fa 26 0 3,la 27 26,ca 28 zci [.t 25,.t 27],oo 29 (.un .not) [.t 28]])
 (.cond (.t 29)
 (sr [oo 30 (.build [v0,vn] []) [],ou (.st 2) [.t 6,.t 30],oo 7 .mv [ki 4]]
 .ret)
 .skip))
 (sr [oo 31 (.ld true 3) [.t 3],fa 32 2 4,la 33 32,ca 34 zcK [.t 31,.t 33],ou (.st 3) [.t 3,.t 34]]
 (.seq (.reg true [oo 35 (.ld true 3) [.t 3],fa 36 0 4,la 37 36,ca 38 zfc [.t 35,.t 37],oo 39 (.ld true 3) [.t 3],oo 40 (.ld true 3) [.t 4],ca 41 ziN [.t 39,.t 40],ma 9 38,ma 10 41] [[],[],[1],[0,2],[],[],[4,5,3],[3,6,0,1,2,3],[6,7,0,1,2,3,4,5,6,7]])
 (sr [fa 42 0 3,la 43 42,oo 44 (.bin .mul) [ki 2,.t 43],oo 45 (.bin .add) [ki 2,.t 44],oo 46 (.build [v0,vn] [(0,1)]) [.t 45],oo 11 (.alloc [v0,vn]) [],ou (.st 2) [.t 11,.t 46]]
 (.seq (.seq
 (rg [oo 12 .mv [ki 0]])
 (.block 0 (.loop
 (.seq (.seq
 (rg [ma 47 12,fa 48 0 4,la 49 48,oo 50 .len [.t 49],oo 51 (.bin .lss) [.t 47,.t 50]])
 (.cond (.t 51)
 .skip
 (.exit 0)))
 (.seq (.block 1 (sr [fa 54 0 4,la 55 54,ma 56 12,oo 57 (.iad 1) [.t 55,.t 56],la 58 57,ma 13 58]
 (sr [ma 59 9,ma 60 13,oo 61 (.iad 1) [.t 59,.t 60],la 62 61,oo 63 (.bin .geq) [.t 62,ki 0]]
 (.cond (.t 63)
 (.reg true [fa 64 1 11,la 65 64,ma 66 13,ca 67 zcG [.t 66],ma 68 10,ma 69 13,oo 70 (.iad 1) [.t 68,.t 69],la 71 70,oo 72 (.build [v0,v0,v0] [(0,1),(1,1),(2,1)]) [ki 0,.t 67,.t 71],oo 73 (.bsl 3 1 [v0,v0,v0] [0]) [.t 72],oo 74 (.app 3 24) [.t 65,.t 73],fa 75 1 11,ou (.st 1) [.t 75,.t 74]] [[],[0],[],[2],[],[],[4,5],[6],[3,7],[8],[1,9,3],[0,1,2,3,4,5,6,7,8,9,10],[11,10,10,0,1,2,3,4,5,6,7,8,9,10]])
 .skip))))
 (rg [ma 52 12,oo 53 (.bin .add) [.t 52,ki 1],ma 12 53]))))))
 (.seq (.seq
 (rg [oo 14 .mv [ki 0]])
 (.block 2 (.loop
 (.seq (.seq
 (rg [ma 76 14,fa 77 0 3,la 78 77,oo 79 (.bin .lss) [.t 76,.t 78]])
 (.cond (.t 79)
 .skip
 (.exit 2)))
 (.seq (.block 3 (sr [ma 82 9,ma 83 14,oo 84 (.iad 1) [.t 82,.t 83],la 85 84,oo 86 (.bin .geq) [.t 85,ki 0]]
 (.cond (.t 86)
 (.reg true [fa 87 1 11,la 88 87,ma 89 14,ca 90 zcG [.t 89],ma 91 14,ca 92 zfr [.t 91],ma 93 10,ma 94 14,oo 95 (.iad 1) [.t 93,.t 94],la 96 95,oo 97 (.bin .sub) [.t 96,ki 1],oo 98 (.build [v0,v0,v0] [(0,1),(1,1),(2,1)]) [.t 90,.t 92,.t 97],oo 99 (.bsl 3 1 [v0,v0,v0] [0]) [.t 98],oo 100 (.app 3 24) [.t 88,.t 99],fa 101 1 11,ou (.st 1) [.t 101,.t 100]] [[],[0],[],[2],[],[4,3],[],[],[6,7],[8],[9],[3,5,10],[11],[1,12,5],[0,1,2,3,4,5,6,7,8,9,10,11,12,13],[14,13,13,0,1,2,3,4,5,6,7,8,9,10,11,12,13]])
 .skip)))
 (rg [ma 80 14,oo 81 (.bin .add) [.t 80,ki 1],ma 14 81]))))))
 (.seq (.seq
 (rg [oo 15 .mv [ki 0]])
 (.block 4 (.loop
 (.seq (.seq
 (rg [ma 102 15,ma 103 2,oo 104 .len [.t 103],oo 105 (.bin .lss) [.t 102,.t 104]])
 (.cond (.t 105)
 .skip
 (.exit 4)))
 (.seq (.block 5 (sr [ma 108 9,ma 109 2,ma 110 15,oo 111 (.iad 1) [.t 109,.t 110],la 112 111,oo 113 (.iad 1) [.t 108,.t 112],la 114 113,oo 115 (.bin .geq) [.t 114,ki 0]]
 (.cond (.t 115)
 (.reg true [fa 116 1 11,la 117 116,ma 118 2,ma 119 15,oo 120 (.iad 1) [.t 118,.t 119],la 121 120,ca 122 zcG [.t 121],oo 123 (.build [v0,v0,v0] [(0,1),(1,1),(2,1)]) [.t 122,ki 1,ki 1],oo 124 (.bsl 3 1 [v0,v0,v0] [0]) [.t 123],oo 125 (.app 3 24) [.t 117,.t 124],fa 126 1 11,ou (.st 1) [.t 126,.t 125]] [[],[0],[],[],[2,3],[4],[5],[6],[7],[1,8,6],[0,1,2,3,4,5,6,7,8,9],[10,9,9,0,1,2,3,4,5,6,7,8,9]])
 .skip)))
 (rg [ma 106 15,oo 107 (.bin .add) [.t 106,ki 1],ma 15 107]))))))
 (.seq (.seq
 (rg [oo 16 .mv [ki 0]])
 (.block 6 (.loop
 (.seq (.seq
 (rg [ma 127 16,fa 128 1 3,la 129 128,oo 130 .len [.t 129],oo 131 (.bin .lss) [.t 127,.t 130]])
 (.cond (.t 131)
 .skip
 (.exit 6)))
 (.seq (.block 7 (sr [fa 134 1 3,la 135 134,ma 136 16,oo 137 (.iad 3) [.t 135,.t 136],oo 138 (.ld true 3) [.t 137],oo 17 (.alloc [v0,v0,v0]) [],ou (.st 3) [.t 17,.t 138]]
 (sr [ma 139 9,fa 140 0 17,la 141 140,oo 142 (.iad 1) [.t 139,.t 141],la 143 142,oo 144 (.bin .geq) [.t 143,ki 0]]
 (.cond (.t 144)
 (.reg true [fa 145 1 11,la 146 145,fa 147 0 17,la 148 147,ca 149 zfr [.t 148],fa 150 1 17,la 151 150,ca 152 zcG [.t 151],oo 153 (.build [v0,v0,v0] [(0,1),(1,1),(2,1)]) [.t 149,.t 152,ki 64],oo 154 (.bsl 3 1 [v0,v0,v0] [0]) [.t 153],oo 155 (.app 3 24) [.t 146,.t 154],fa 156 1 11,ou (.st 1) [.t 156,.t 155]] [[],[0],[],[2],[3],[],[5],[6,4],[4,7],[8],[1,9,7],[0,1,2,3,4,5,6,7,8,9,10],[11,10,10,0,1,2,3,4,5,6,7,8,9,10]])
 .skip))))
 (rg [ma 132 16,oo 133 (.bin .add) [.t 132,ki 1],ma 16 133]))))))
 (sr [oo 157 (.ld true 2) [.t 11],ou (.st 2) [.t 6,.t 157],oo 7 .mv [ki 0]]
 .ret)))))))))))⟩
def zoW : AFun:=⟨87,[(4,none)],
 (sr [oo 2 (.box 2) [.t 0],oo 4 .mv [.c (.bool false)]]
 (.seq (.seq
 (rg [oo 8 (.ld true 2) [.t 2],ca 9 zdJ [.t 8],oo 10 (.bin .neq) [.t 9,ki 0],ma 11 10,mh 12 1 11,oh 13 .len [.t 12] 11,fh 14 1 2 11,lh 15 14 11,oh 16 .len [.t 15] 11,oh 17 (.bin .neq) [.t 13,.t 16] 11,oo 18 .pick [.t 11,.c (.bool true),.t 17]])
 (.cond (.t 18)
 (sr [oo 4 .mv [.c (.bool false)]]
 .ret)
 .skip))
 (sr [fa 19 0 2,la 20 19,oo 21 (.mks 1 8 [v0]) [.t 20,.t 20],ma 5 21]
 (.seq (.seq
 (rg [oo 6 .mv [ki 0]])
 (.block 0 (.loop
 (.seq (.seq
 (rg [ma 22 6,ma 23 1,oo 24 .len [.t 23],oo 25 (.bin .lss) [.t 22,.t 24]])
 (.cond (.t 25)
 .skip
 (.exit 0)))
 (.seq (.block 1 (.seq (.seq
 (.reg true [ma 28 1,ma 29 6,oo 30 (.iad 1) [.t 28,.t 29],la 31 30,oo 32 (.bin .lss) [.t 31,ki 0],ma 33 32,mh 34 1 33,mh 35 6 33,oh 36 (.iad 1) [.t 34,.t 35] 33,lh 37 36 33,fh 38 1 2 33,lh 39 38 33,mh 40 6 33,oh 41 (.iad 3) [.t 39,.t 40] 33,fh 42 2 41 33,lh 43 42 33,oh 44 (.bin .gtr) [.t 37,.t 43] 33,oo 45 .pick [.t 33,.c (.bool true),.t 44]] [[],[],[0,1],[2],[3],[4],[5],[5],[6,7,5],[8,5],[5],[10,5],[5],[11,12,5],[13,5],[14,5],[9,15,5],[5,16]])
 (.cond (.t 45)
 (sr [oo 4 .mv [.c (.bool false)]]
 .ret)
 .skip))
 (.seq (.reg true [ma 46 5,fa 47 1 2,la 48 47,ma 49 6,oo 50 (.iad 3) [.t 48,.t 49],fa 51 0 50,la 52 51,oo 53 (.iad 1) [.t 46,.t 52],la 54 53,ma 55 1,ma 56 6,oo 57 (.iad 1) [.t 55,.t 56],la 58 57,oo 59 (.bin .sub) [.t 54,.t 58],oo 60 (.iad 1) [.t 46,.t 52],ou (.st 1) [.t 60,.t 59]] [[],[],[1],[],[2,3],[4],[5],[0,6],[7],[],[],[9,10],[11],[8,12],[0,6,0,1,2,3,4,5,6,7,8,9,10,11,12,13],[14,13,0,1,2,3,4,5,6,7,8,9,10,11,12,13]])
 (.reg true [ma 61 5,fa 62 1 2,la 63 62,ma 64 6,oo 65 (.iad 3) [.t 63,.t 64],fa 66 1 65,la 67 66,oo 68 (.iad 1) [.t 61,.t 67],la 69 68,ma 70 1,ma 71 6,oo 72 (.iad 1) [.t 70,.t 71],la 73 72,oo 74 (.bin .add) [.t 69,.t 73],oo 75 (.iad 1) [.t 61,.t 67],ou (.st 1) [.t 75,.t 74]] [[],[],[1],[],[2,3],[4],[5],[0,6],[7],[],[],[9,10],[11],[8,12],[0,6,0,1,2,3,4,5,6,7,8,9,10,11,12,13],[14,13,0,1,2,3,4,5,6,7,8,9,10,11,12,13]]))))
 (rg [ma 26 6,oo 27 (.bin .add) [.t 26,ki 1],ma 6 27]))))))
 (.seq (.seq
 (rg [oo 7 .mv [ki 2]])
 (.block 2 (.loop
 (.seq (.seq
 (rg [ma 76 7,fa 77 0 2,la 78 77,oo 79 (.bin .lss) [.t 76,.t 78]])
 (.cond (.t 79)
 .skip
 (.exit 2)))
 (.seq (.block 3 (sr [ma 82 5,ma 83 7,oo 84 (.iad 1) [.t 82,.t 83],la 85 84,oo 86 (.bin .neq) [.t 85,ki 0]]
 (.cond (.t 86)
 (sr [oo 4 .mv [.c (.bool false)]]
 .ret)
 .skip)))
 (rg [ma 80 7,oo 81 (.bin .add) [.t 80,ki 1],ma 7 81]))))))
 (sr [oo 4 .mv [.c (.bool true)]]
 .ret))))))⟩
def zo1 : AFun:=⟨31,[(4,none)],
 (sr [oo 2 (.box 2) [.t 0],oo 4 .mv [ki 0]]
 (.seq (.seq
 (rg [oo 7 (.ld true 2) [.t 2],ma 8 1,ca 9 zdN [.t 7,.t 8],oo 10 (.un .not) [.t 9]])
 (.cond (.t 10)
 (sr [oo 4 .mv [ki 0]]
 .ret)
 .skip))
 (sr [oo 5 .mv [ki 0]]
 (.seq (.seq
 (rg [oo 6 .mv [ki 0]])
 (.block 0 (.loop
 (.seq (.seq
 (rg [ma 11 6,ma 12 1,oo 13 .len [.t 12],oo 14 (.bin .lss) [.t 11,.t 13]])
 (.cond (.t 14)
 .skip
 (.exit 0)))
 (.seq (.block 1 (sr [fa 17 1 2,la 18 17,ma 19 6,oo 20 (.iad 3) [.t 18,.t 19],fa 21 0 20,la 22 21,oo 23 (.bin .eql) [.t 22,ki 0]]
 (.cond (.t 23)
 (rg [ma 24 5,ma 25 1,ma 26 6,oo 27 (.iad 1) [.t 25,.t 26],la 28 27,oo 29 (.bin .add) [.t 24,.t 28],ma 5 29])
 .skip)))
 (rg [ma 15 6,oo 16 (.bin .add) [.t 15,ki 1],ma 6 16]))))))
 (sr [ma 30 5,ma 4 30]
 .ret)))))⟩
def znI : AFun:=⟨17,[(6,none)],
 (sr [oo 3 (.box 2) [.t 0],oo 6 .mv [.c (.bool false)]]
 (sr [oo 7 (.ld true 2) [.t 3],ma 8 1,ca 9 zeJ [.t 7,.t 8],ma 10 9,og 11 (.ld true 2) [.t 3] 10,mg 12 1 10,og 13 .call [.f zep,.t 11,.t 12] 10,mg 14 2 10,og 15 (.bin .leq) [.t 13,.t 14] 10,oo 16 .pick [.t 10,.t 15,.c (.bool false)],ma 6 16]
 .ret))⟩
def zhh : AFun:=⟨42,[(4,none)],
 (sr [oo 4 .mv [.c (.bool false)]]
 (.seq (.seq
 (rg [ma 6 0,oo 7 .len [.t 6],ma 8 1,oo 9 .len [.t 8],oo 10 (.bin .neq) [.t 7,.t 9]])
 (.cond (.t 10)
 (sr [oo 4 .mv [.c (.bool false)]]
 .ret)
 .skip))
 (.seq (.seq
 (rg [oo 5 .mv [ki 0]])
 (.block 0 (.loop
 (.seq (.seq
 (rg [ma 11 5,ma 12 0,oo 13 .len [.t 12],oo 14 (.bin .lss) [.t 11,.t 13]])
 (.cond (.t 14)
 .skip
 (.exit 0)))
 (.seq (.block 1 (.seq (.reg true [ma 17 0,ma 18 5,oo 19 (.iad 2) [.t 17,.t 18],fa 20 0 19,la 21 20,ma 22 1,ma 23 5,oo 24 (.iad 2) [.t 22,.t 23],fa 25 0 24,la 26 25,oo 27 (.bin .neq) [.t 21,.t 26],ma 28 27,mh 29 0 28,mh 30 5 28,oh 31 (.iad 2) [.t 29,.t 30] 28,fh 32 1 31 28,lh 33 32 28,mh 34 1 28,mh 35 5 28,oh 36 (.iad 2) [.t 34,.t 35] 28,fh 37 1 36 28,lh 38 37 28,oh 39 .call [.f zaZ,.t 33,.t 38] 28,oh 40 (.un .not) [.t 39] 28,oo 41 .pick [.t 28,.c (.bool true),.t 40]] [[],[],[0,1],[2],[3],[],[],[5,6],[7],[8],[4,9],[10],[11],[11],[12,13,11],[14,11],[15,11],[11],[11],[17,18,11],[19,11],[20,11],[16,21,11,11],[22,11],[11,23]])
 (.cond (.t 41)
 (sr [oo 4 .mv [.c (.bool false)]]
 .ret)
 .skip)))
 (rg [ma 15 5,oo 16 (.bin .add) [.t 15,ki 1],ma 5 16]))))))
 (sr [oo 4 .mv [.c (.bool true)]]
 .ret))))⟩
def zlO : AFun:=⟨70,[(4,none),(5,none)],
 (sr [oo 3 (.box 3) [.t 1],oo 4 .mv [kn],oo 5 .mv [.c (.bool false)]]
 (sr [oo 6 .mv [kn]]
 (sr [oo 7 .mv [ki 0],oo 8 .mv [ki 0]]
 (.seq (.seq
 (rg [ma 11 0,oo 12 .len [.t 11],oo 13 .mv [ki 0]])
 (.block 0 (.loop
 (sr [oo 14 (.bin .lss) [.t 13,.t 12]]
 (.seq (.cond (.t 14)
 .skip
 (.exit 0))
 (.seq (.block 1 (sr [oo 15 (.iad 1) [.t 11,.t 13],la 16 15,ma 10 16]
 (.block 2 (sr [ma 18 7,fa 19 0 3,la 20 19,oo 21 .len [.t 20],oo 22 (.bin .lss) [.t 18,.t 21],ma 23 22,fg 24 0 3 23,lg 25 24 23,mg 26 7 23,og 27 (.iad 1) [.t 25,.t 26] 23,lg 28 27 23,mg 29 10 23,og 30 (.bin .eql) [.t 28,.t 29] 23,oo 31 .pick [.t 23,.t 30,.c (.bool false)],ma 17 31]
 (.cond (.t 17)
 (rg [ma 32 7,oo 33 (.bin .add) [.t 32,ki 1],ma 7 33])
 (sr [ma 35 8,fa 36 2 3,la 37 36,oo 38 .len [.t 37],oo 39 (.bin .lss) [.t 35,.t 38],ma 40 39,fg 41 2 3 40,lg 42 41 40,mg 43 8 40,og 44 (.iad 2) [.t 42,.t 43] 40,fg 45 0 44 40,lg 46 45 40,mg 47 10 40,og 48 (.bin .eql) [.t 46,.t 47] 40,oo 49 .pick [.t 40,.t 48,.c (.bool false)],ma 34 49]
 (.cond (.t 34)
 (sr [ma 50 8,oo 51 (.bin .add) [.t 50,ki 1],ma 8 51]
 (rg [ma 52 6,ma 53 7,oo 54 (.bsl 1 1 [v0] [0]) [.t 53],oo 55 (.app 1 8) [.t 52,.t 54],ma 6 55]))
 (sr [oo 4 .mv [kn],oo 5 .mv [.c (.bool false)]]
 .ret))))))))
 (rg [oo 56 (.bin .add) [.t 13,ki 1],ma 13 56])))))))
 (.seq (.reg true [ma 57 6,ma 58 7,fa 59 0 3,la 60 59,oo 61 .len [.t 60],oo 62 (.bin .eql) [.t 58,.t 61],ma 63 62,mg 64 8 63,fg 65 2 3 63,lg 66 65 63,og 67 .len [.t 66] 63,og 68 (.bin .eql) [.t 64,.t 67] 63,oo 69 .pick [.t 63,.t 68,.c (.bool false)],ma 4 57,ma 5 69] [[],[],[],[2],[3],[1,4],[5],[6],[6],[8,6],[9,6],[7,10,6],[6,11],[0,6,0],[12,13,0,1,2,3,4,5,6,7,8,9,10,11,12,13]])
 .ret)))))⟩
def zqy : AFun:=⟨41,[(4,none)],
 (sr [oo 2 (.box 2) [.t 0],oo 4 .mv [.c (.bool false)]]
 (.seq (.seq
 (rg [oo 7 (.ld true 2) [.t 2],ca 8 zeq [.t 7],oo 9 (.bin .neq) [.t 8,ki 0],ma 10 9,mh 11 1 10,oh 12 .len [.t 11] 10,fh 13 1 2 10,lh 14 13 10,oh 15 .len [.t 14] 10,oh 16 (.bin .neq) [.t 12,.t 15] 10,oo 17 .pick [.t 10,.c (.bool true),.t 16]])
 (.cond (.t 17)
 (sr [oo 4 .mv [.c (.bool false)]]
 .ret)
 .skip))
 (.seq (.seq
 (rg [fa 18 1 2,la 19 18,oo 20 .len [.t 19],oo 21 .mv [ki 0]])
 (.block 0 (.loop
 (sr [oo 22 (.bin .lss) [.t 21,.t 20]]
 (.seq (.cond (.t 22)
 .skip
 (.exit 0))
 (.seq (.block 1 (sr [ma 23 21,oo 24 (.iad 3) [.t 19,.t 21],oo 25 (.ld true 3) [.t 24],oo 6 (.alloc [v0,v0,v0]) [],ma 5 23,ou (.st 3) [.t 6,.t 25]]
 (.seq (.reg true [ma 26 1,ma 27 5,oo 28 (.iad 1) [.t 26,.t 27],la 29 28,fa 30 2 6,la 31 30,ca 32 zaQ [.t 29,ki 0,.t 31],oo 33 (.un .not) [.t 32]] [[],[],[0,1],[2],[],[4],[3,5],[6]])
 (.cond (.t 33)
 (sr [oo 4 .mv [.c (.bool false)]]
 .ret)
 .skip))))
 (rg [oo 34 (.bin .add) [.t 21,ki 1],ma 21 34])))))))
 (sr [oo 35 (.ld true 2) [.t 2],ma 36 1,ca 37 zdZ [.t 35,.t 36],oo 38 (.slc 1 true false false) [.t 37,ki 2],ca 39 zbl [.t 38,(.f zdC)],oo 40 (.un .not) [.t 39],ma 4 40]
 .ret))))⟩
def zp6 : AFun:=⟨14,[(4,none)],
 (sr [oo 2 (.box 2) [.t 0],oo 4 .mv [ki 0]]
 (.seq (.seq
 (rg [oo 5 (.ld true 2) [.t 2],ma 6 1,ca 7 zfm [.t 5,.t 6],oo 8 (.un .not) [.t 7]])
 (.cond (.t 8)
 (sr [oo 4 .mv [ki 0]]
 .ret)
 .skip))
 (sr [oo 9 (.ld true 2) [.t 2],ma 10 1,ca 11 zdZ [.t 9,.t 10],oo 12 (.iad 1) [.t 11,ki 0],la 13 12,ma 4 13]
 .ret)))⟩
def zqs : AFun:=⟨17,[(6,none)],
 (sr [oo 3 (.box 2) [.t 0],oo 6 .mv [.c (.bool false)]]
 (sr [oo 7 (.ld true 2) [.t 3],ma 8 1,ca 9 zgM [.t 7,.t 8],ma 10 9,og 11 (.ld true 2) [.t 3] 10,mg 12 1 10,og 13 .call [.f zfL,.t 11,.t 12] 10,mg 14 2 10,og 15 (.bin .leq) [.t 13,.t 14] 10,oo 16 .pick [.t 10,.t 15,.c (.bool false)],ma 6 16]
 .ret))⟩
def zrC : AFun:=⟨11,[(2,none)],
 (sr [oo 1 (.box 4) [.t 0],oo 2 .mv [(.c .nilIface)]]
 (.seq (.seq
 (rg [fa 3 0 1,la 4 3])
 (.cond (.t 4)
 (sr [fa 5 1 1,oo 6 (.ld true 3) [.t 5],oo 7 (.mki 141) [.t 6],ma 2 7]
 .ret)
 .skip))
 (sr [fa 8 1 1,oo 9 (.ld true 3) [.t 8],oo 10 (.mki 142) [.t 9],ma 2 10]
 .ret)))⟩
def zmJ : AFun:=⟨6,[(2,none)],
 (sr [oo 2 .mv [kn]]
 (sr [ma 3 0,ca 4 zbW [.t 3],ca 5 zb6 [.t 4],ma 2 5]
 .ret))⟩
def zky : AFun:=⟨7,[(3,none)],
 (sr [oo 3 .mv [.c (.bool false)]]
 (sr [la 4 1,ma 5 0,ca 6 zau [.t 4,.t 5],ma 3 6]
 .ret))⟩
def zlH : AFun:=⟨123,[(6,some (true,2)),(7,none)],
 (sr [oo 3 (.box 3) [.t 0],oo 4 (.box 3) [.t 1],oo 6 (.alloc [v0,vn]) [],oo 7 .mv [ki 0]]
 (.seq (.seq
 (rg [oo 20 (.ld true 3) [.t 3],oo 21 (.ld true 3) [.t 4],ca 22 zbN [.t 20,.t 21],ma 8 22])
 (sr [ma 23 8,oo 24 (.bin .neq) [.t 23,ki 0]]
 (.cond (.t 24)
 (sr [oo 25 (.build [v0,vn] []) [],ma 26 8,ou (.st 2) [.t 6,.t 25],ma 7 26]
 .ret)
 .skip)))
 (.seq (.seq
 (rg [ma 27 2,fa 28 0 3,la 29 28,oo 30 (.bin .sub) [.t 29,ki 1],ca 31 zbo [.t 27,ki 0,.t 30],oo 32 (.un .not) [.t 31]])
 (.cond (.t 32)
 (sr [oo 33 (.build [v0,vn] []) [],ou (.st 2) [.t 6,.t 33],oo 7 .mv [ki 4]]
 .ret)
 .skip))
 (sr [fa 34 0 3,la 35 34,ca 36 zbQ [.t 35],oo 37 (.build [v0,vn] [(0,1)]) [.t 36],oo 9 (.alloc [v0,vn]) [],ou (.st 2) [.t 9,.t 37]]
 (sr [oo 38 (.mkf zaJ) [.t 9],ma 10 38]
 (sr [oo 39 (.ld true 3) [.t 3],oo 40 (.ld true 3) [.t 4],ca 41 zfy [.t 39,.t 40],ma 11 41]
 (.seq (.seq
 (rg [fa 42 0 4,la 43 42,oo 44 .len [.t 43],oo 45 .mv [ki 0]])
 (.block 0 (.loop
 (sr [oo 46 (.bin .lss) [.t 45,.t 44]]
 (.seq (.cond (.t 46)
 .skip
 (.exit 0))
 (.seq (.block 1 (sr [oo 47 (.iad 1) [.t 43,.t 45],la 48 47,ma 13 48]
 (sr [ma 49 11,ma 50 13,oo 51 (.iad 1) [.t 49,.t 50],la 52 51,oo 53 (.bin .gtr) [.t 52,ki 0]]
 (.cond (.t 53)
 (.reg true [ma 54 10,ma 55 13,ca 56 zbQ [.t 55],ma 57 11,ma 58 13,oo 59 (.iad 1) [.t 57,.t 58],la 60 59,oo 61 .call [.t 54,ki 0,.t 56,.t 60]] [[],[],[1],[],[],[3,4],[5],[0,2,6,2]])
 .skip))))
 (rg [oo 62 (.bin .add) [.t 45,ki 1],ma 45 62])))))))
 (.seq (.seq
 (rg [ma 63 11,oo 64 .len [.t 63],oo 65 .mv [ki 0]])
 (.block 2 (.loop
 (sr [oo 66 (.bin .lss) [.t 65,.t 64]]
 (.seq (.cond (.t 66)
 .skip
 (.exit 2))
 (.seq (.block 3 (sr [ma 67 65,oo 68 (.iad 1) [.t 63,.t 65],la 69 68,ma 14 67,ma 15 69]
 (sr [ma 70 15,oo 71 (.bin .gtr) [.t 70,ki 0]]
 (.cond (.t 71)
 (rg [ma 72 10,ma 73 14,ca 74 zbQ [.t 73],ma 75 14,ca 76 zfE [.t 75],ma 77 15,oo 78 (.bin .sub) [.t 77,ki 1],oo 79 .call [.t 72,.t 74,.t 76,.t 78]])
 .skip))))
 (rg [oo 80 (.bin .add) [.t 65,ki 1],ma 65 80])))))))
 (.seq (.seq
 (rg [ma 81 2,oo 82 .len [.t 81],oo 83 .mv [ki 0]])
 (.block 4 (.loop
 (sr [oo 84 (.bin .lss) [.t 83,.t 82]]
 (.seq (.cond (.t 84)
 .skip
 (.exit 4))
 (.seq (.block 5 (sr [oo 85 (.iad 1) [.t 81,.t 83],la 86 85,ma 17 86]
 (sr [ma 87 11,ma 88 17,oo 89 (.iad 1) [.t 87,.t 88],la 90 89,oo 91 (.bin .gtr) [.t 90,ki 0]]
 (.cond (.t 91)
 (rg [ma 92 10,ma 93 17,ca 94 zbQ [.t 93],oo 95 .call [.t 92,.t 94,ki 1,ki 1]])
 .skip))))
 (rg [oo 96 (.bin .add) [.t 83,ki 1],ma 83 96])))))))
 (.seq (.seq
 (rg [oo 97 (.ld true 3) [.t 3],fa 98 2 4,la 99 98,ca 100 zcR [.t 97,.t 99],oo 101 (.fld false 1 1) [.t 100],oo 102 .len [.t 101],oo 103 .mv [ki 0]])
 (.block 6 (.loop
 (sr [oo 104 (.bin .lss) [.t 103,.t 102]]
 (.seq (.cond (.t 104)
 .skip
 (.exit 6))
 (.seq (.block 7 (sr [oo 105 (.iad 3) [.t 101,.t 103],oo 106 (.ld true 3) [.t 105],oo 19 (.alloc [v0,v0,v0]) [],ou (.st 3) [.t 19,.t 106]]
 (sr [ma 107 11,fa 108 0 19,la 109 108,oo 110 (.iad 1) [.t 107,.t 109],la 111 110,oo 112 (.bin .gtr) [.t 111,ki 0]]
 (.cond (.t 112)
 (.reg true [ma 113 10,fa 114 0 19,la 115 114,ca 116 zfE [.t 115],fa 117 1 19,la 118 117,ca 119 zbQ [.t 118],oo 120 .call [.t 113,.t 116,.t 119,ki 64]] [[],[],[1],[2],[],[4],[5,3],[0,3,6,6]])
 .skip))))
 (rg [oo 121 (.bin .add) [.t 103,ki 1],ma 103 121])))))))
 (sr [oo 122 (.ld true 2) [.t 9],ou (.st 2) [.t 6,.t 122],oo 7 .mv [ki 0]]
 .ret)))))))))))⟩
def ztx : AFun:=⟨16,[(2,none),(3,none)],
 (sr [oo 1 (.box 2) [.t 0],oo 2 .mv [kn],oo 3 .mv [ki 0]]
 (.seq (.seq
 (rg [oo 5 (.ld true 2) [.t 1],ca 6 zeq [.t 5],ma 4 6])
 (sr [ma 7 4,oo 8 (.bin .neq) [.t 7,ki 0]]
 (.cond (.t 8)
 (sr [ma 9 4,oo 2 .mv [kn],ma 3 9]
 .ret)
 .skip)))
 (.seq (.reg true [oo 10 (.ld true 2) [.t 1],fa 11 1 1,la 12 11,oo 13 .len [.t 12],oo 14 (.mks 1 8 [v0]) [.t 13,.t 13],ca 15 ziR [.t 10,.t 14],ma 2 15,oo 3 .mv [ki 0]] [[],[],[1],[2],[3,3],[0,4],[5,5,0,1,2,3,4,5],[6,0,1,2,3,4,5,6]])
 .ret)))⟩
def zsm : AFun:=⟨54,[(4,some (true,4))],
 (sr [oo 2 (.box 2) [.t 0],oo 4 (.alloc [v0,vn,vn,vn]) []]
 (.seq (.reg true [oo 8 (.ld true 2) [.t 2],ma 9 1,fa 10 0 2,la 11 10,oo 12 (.mks 1 24 [vn]) [.t 11,.t 11],oo 13 (.build [v0,vn,vn,vn] [(0,2),(2,1),(3,1)]) [.t 8,.t 9,.t 12],oo 5 (.alloc [v0,vn,vn,vn]) [],ou (.st 4) [.t 5,.t 13]] [[],[],[],[2],[3,3],[0,1,4],[],[6,5,0,1,2,3,4,5,6]])
 (.seq (.seq
 (rg [fa 14 1 2,la 15 14,oo 16 .len [.t 15],oo 17 .mv [ki 0]])
 (.block 0 (.loop
 (sr [oo 18 (.bin .lss) [.t 17,.t 16]]
 (.seq (.cond (.t 18)
 .skip
 (.exit 0))
 (.seq (.block 1 (sr [ma 19 17,oo 20 (.iad 3) [.t 15,.t 17],oo 21 (.ld true 3) [.t 20],oo 7 (.alloc [v0,v0,v0]) [],ma 6 19,ou (.st 3) [.t 7,.t 21]]
 (.seq (.reg true [fa 22 3 5,la 23 22,fa 24 0 7,la 25 24,fa 26 3 5,la 27 26,fa 28 0 7,la 29 28,oo 30 (.iad 1) [.t 27,.t 29],la 31 30,ma 32 6,oo 33 (.build [v0,(.bool false)] [(0,1),(1,1)]) [.t 32,.c (.bool false)],oo 34 (.bsl 2 1 [v0,(.bool false)] [0]) [.t 33],oo 35 (.app 2 16) [.t 31,.t 34],oo 36 (.iad 1) [.t 23,.t 25],ou (.st 1) [.t 36,.t 35]] [[],[0],[],[2],[],[4],[],[6],[5,7],[8],[],[10],[11],[9,12],[1,3,0,1,2,3,4,5,6,7,8,9,10,11,12,13],[14,13,13,0,1,2,3,4,5,6,7,8,9,10,11,12,13]])
 (.reg true [fa 37 3 5,la 38 37,fa 39 1 7,la 40 39,fa 41 3 5,la 42 41,fa 43 1 7,la 44 43,oo 45 (.iad 1) [.t 42,.t 44],la 46 45,ma 47 6,oo 48 (.build [v0,(.bool false)] [(0,1),(1,1)]) [.t 47,.c (.bool true)],oo 49 (.bsl 2 1 [v0,(.bool false)] [0]) [.t 48],oo 50 (.app 2 16) [.t 46,.t 49],oo 51 (.iad 1) [.t 38,.t 40],ou (.st 1) [.t 51,.t 50]] [[],[0],[],[2],[],[4],[],[6],[5,7],[8],[],[10],[11],[9,12],[1,3,0,1,2,3,4,5,6,7,8,9,10,11,12,13],[14,13,13,0,1,2,3,4,5,6,7,8,9,10,11,12,13]]))))
 (rg [oo 52 (.bin .add) [.t 17,ki 1],ma 17 52])))))))
 (sr [oo 53 (.ld true 4) [.t 5],ou (.st 4) [.t 4,.t 53]]
 .ret))))⟩
def zgc : AFun:=⟨59,[(2,none)],
 (sr [oo 1 (.box 4) [.t 0],oo 2 .mv [(.c (.map none))]]
 (sr [oo 11 .mkm [],oo 12 (.build [v0,(.bool false)] [(0,1)]) [ki (-1)],ou .mup [.t 11,ki 0,.t 12],ma 13 11,ma 3 13]
 (.seq (.seq
 (rg [oo 14 (.bsl 1 1 [v0] [0]) [ki 0],ma 4 14])
 (.block 0 (.loop
 (.seq (.seq
 (rg [ma 15 4,oo 16 .len [.t 15],oo 17 (.bin .gtr) [.t 16,ki 0]])
 (.cond (.t 17)
 .skip
 (.exit 0)))
 (.seq (.block 1 (.seq (.reg true [fa 20 3 1,la 21 20,ma 22 4,oo 23 (.iad 1) [.t 22,ki 0],la 24 23,oo 25 (.iad 1) [.t 21,.t 24],la 26 25,oo 27 .len [.t 26],oo 28 .mv [ki 0]] [[],[0],[],[2],[3],[1,4],[5],[6],[]])
 (.block 2 (.loop
 (sr [oo 29 (.bin .lss) [.t 28,.t 27]]
 (.seq (.cond (.t 29)
 .skip
 (.exit 2))
 (.seq (.block 3 (sr [oo 30 (.iad 2) [.t 26,.t 28],oo 31 (.ld true 2) [.t 30],oo 6 (.alloc [v0,(.bool false)]) [],ou (.st 2) [.t 6,.t 31]]
 (sr [oo 33 (.ld true 4) [.t 1],oo 34 (.ld true 2) [.t 6],ca 35 zbT [.t 33,.t 34],ma 32 35,oo 36 (.ext 0) [.t 32],oo 37 (.ext 1) [.t 32],ma 7 36,ma 8 37]
 (sr [ma 39 3,ma 40 8,oo 41 (.mlk (.agg #[v0,(.bool false)]) true) [.t 39,.t 40],ma 38 41,oo 42 (.ext 0) [.t 38],oo 43 (.ext 1) [.t 38],oo 9 (.alloc [v0,(.bool false)]) [],ou (.st 2) [.t 9,.t 42],ma 10 43]
 (sr [ma 44 7,oo 45 (.bin .gtr) [.t 44,ki 0],ma 46 45,mg 47 10 46,og 48 (.un .not) [.t 47] 46,oo 49 .pick [.t 46,.t 48,.c (.bool false)]]
 (.cond (.t 49)
 (sr [ma 50 3,ma 51 8,oo 52 (.ld true 2) [.t 6],ou .mup [.t 50,.t 51,.t 52]]
 (rg [ma 53 4,ma 54 8,oo 55 (.bsl 1 1 [v0] [0]) [.t 54],oo 56 (.app 1 8) [.t 53,.t 55],ma 4 56]))
 .skip))))))
 (rg [oo 57 (.bin .add) [.t 28,ki 1],ma 28 57]))))))))
 (rg [ma 18 4,oo 19 (.slc 1 true false false) [.t 18,ki 1],ma 4 19]))))))
 (sr [ma 58 3,ma 2 58]
 .ret))))⟩
def zjU : AFun:=⟨13,[(3,none)],
 (sr [oo 3 .mv [.c (.bool false)]]
 (sr [la 7 1,ma 8 0,oo 9 (.mlk (.agg #[v0,(.bool false)]) true) [.t 7,.t 8],ma 6 9,oo 10 (.ext 0) [.t 6],oo 11 (.ext 1) [.t 6],oo 4 (.alloc [v0,(.bool false)]) [],ou (.st 2) [.t 4,.t 10],ma 5 11]
 (sr [ma 12 5,ma 3 12]
 .ret)))⟩
def znC : AFun:=⟨79,[(4,none)],
 (sr [oo 2 (.box 3) [.t 0],oo 3 (.box 3) [.t 1],oo 4 .mv [.c (.bool false)]]
 (.seq (.seq
 (rg [fa 6 0 3,la 7 6,oo 8 .len [.t 7],oo 9 (.bin .eql) [.t 8,ki 0],ma 10 9,fh 11 0 3 10,lh 12 11 10,fh 13 0 2 10,lh 14 13 10,oh 15 .call [.f zci,.t 12,.t 14] 10,oh 16 (.un .not) [.t 15] 10,oo 17 .pick [.t 10,.c (.bool true),.t 16],ma 18 17,fh 19 1 3 18,lh 20 19 18,oh 21 .len [.t 20] 18,oh 22 (.bin .lss) [.t 21,ki 1] 18,oo 23 .pick [.t 18,.c (.bool true),.t 22],ma 24 23,fh 25 1 3 24,lh 26 25 24,oh 27 .len [.t 26] 24,oh 28 (.bin .gtr) [.t 27,ki 8] 24,oo 29 .pick [.t 24,.c (.bool true),.t 28],ma 30 29,fh 31 2 3 30,lh 32 31 30,oh 33 (.bin .lss) [.t 32,ki 1] 30,oo 34 .pick [.t 30,.c (.bool true),.t 33],ma 35 34,fh 36 2 3 35,lh 37 36 35,oh 38 (.bin .gtr) [.t 37,ki 3] 35,oo 39 .pick [.t 35,.c (.bool true),.t 38]])
 (.cond (.t 39)
 (sr [oo 4 .mv [.c (.bool false)]]
 .ret)
 .skip))
 (.seq (.seq
 (rg [oo 5 .mv [ki 0]])
 (.block 0 (.loop
 (.seq (.seq
 (rg [ma 40 5,fa 41 1 3,la 42 41,oo 43 .len [.t 42],oo 44 (.bin .lss) [.t 40,.t 43]])
 (.cond (.t 44)
 .skip
 (.exit 0)))
 (.seq (.block 1 (.seq (.reg true [fa 47 1 3,la 48 47,ma 49 5,oo 50 (.iad 1) [.t 48,.t 49],la 51 50,oo 52 (.bin .lss) [.t 51,ki 1],ma 53 52,fh 54 1 3 53,lh 55 54 53,mh 56 5 53,oh 57 (.iad 1) [.t 55,.t 56] 53,lh 58 57 53,oh 59 (.bin .gtr) [.t 58,ki 1000] 53,oo 60 .pick [.t 53,.c (.bool true),.t 59],ma 61 60,mh 62 5 61,oh 63 (.bin .gtr) [.t 62,ki 0] 61,mh 64 63 61,fg 65 1 3 64,lg 66 65 64,mg 67 5 64,og 68 (.iad 1) [.t 66,.t 67] 64,lg 69 68 64,fg 70 1 3 64,lg 71 70 64,mg 72 5 64,og 73 (.bin .sub) [.t 72,ki 1] 64,og 74 (.iad 1) [.t 71,.t 73] 64,lg 75 74 64,og 76 (.bin .gtr) [.t 69,.t 75] 64,oh 77 .pick [.t 64,.t 76,.c (.bool false)] 61,oo 78 .pick [.t 61,.c (.bool true),.t 77]] [[],[0],[],[1,2],[3],[4],[5],[6],[7,6],[6],[8,9,6],[10,6],[11,6],[6,12],[13,6],[14],[15,14],[16,14,14],[17],[18,17],[17],[19,20,17],[21,17],[17],[23,17],[17],[25,17],[24,26,17],[27,17],[22,28,17],[17,29,14],[14,30]])
 (.cond (.t 78)
 (sr [oo 4 .mv [.c (.bool false)]]
 .ret)
 .skip)))
 (rg [ma 45 5,oo 46 (.bin .add) [.t 45,ki 1],ma 5 46]))))))
 (sr [oo 4 .mv [.c (.bool true)]]
 .ret))))⟩
def zrS : AFun:=⟨112,[(2,none),(3,none)],
 (sr [oo 1 (.box 2) [.t 0],oo 2 .mv [kn],oo 3 .mv [ki 0]]
 (.seq (.seq
 (rg [oo 11 (.ld true 2) [.t 1],ca 12 zdJ [.t 11],oo 13 (.bin .neq) [.t 12,ki 0]])
 (.cond (.t 13)
 (sr [oo 2 .mv [kn],oo 3 .mv [ki 16]]
 .ret)
 .skip))
 (sr [fa 14 1 1,la 15 14,oo 16 .len [.t 15],oo 17 (.mks 1 8 [v0]) [.t 16,.t 16],ma 4 17]
 (.block 0 (.loop
 (.block 1 (sr [oo 18 (.ld true 2) [.t 1],ma 19 4,ca 20 zc7 [.t 18,.t 19],ma 5 20]
 (.seq (.seq
 (rg [ma 21 5,oo 22 (.iad 1) [.t 21,ki 1],la 23 22,oo 24 (.bin .eql) [.t 23,ki 0]])
 (.cond (.t 24)
 (sr [ma 25 4,ma 2 25,oo 3 .mv [ki 0]]
 .ret)
 .skip))
 (sr [oo 6 .mv [ki 1048576]]
 (.seq (.seq
 (rg [oo 7 .mv [ki 1]])
 (.block 2 (.loop
 (.seq (.seq
 (rg [ma 26 7,oo 27 (.bin .neq) [.t 26,ki 0]])
 (.cond (.t 27)
 .skip
 (.exit 2)))
 (.block 3 (sr [ma 28 5,ma 29 7,oo 30 (.iad 1) [.t 28,.t 29],la 31 30,ma 8 31]
 (sr [ma 32 8,oo 33 (.bin .gtr) [.t 32,ki 0]]
 (.cond (.t 33)
 (.reg true [ma 34 6,fa 35 1 1,la 36 35,ma 37 8,oo 38 (.bin .sub) [.t 37,ki 1],oo 39 (.iad 3) [.t 36,.t 38],fa 40 2 39,la 41 40,ma 42 4,ma 43 8,oo 44 (.bin .sub) [.t 43,ki 1],oo 45 (.iad 1) [.t 42,.t 44],la 46 45,oo 47 (.bin .sub) [.t 41,.t 46],oo 48 .mn2 [.t 34,.t 47],fa 49 1 1,la 50 49,ma 51 8,oo 52 (.bin .sub) [.t 51,ki 1],oo 53 (.iad 3) [.t 50,.t 52],fa 54 0 53,la 55 54,ma 6 48,ma 7 55] [[],[],[1],[],[3],[2,4],[5],[6],[],[],[9],[8,10],[11],[7,12],[0,13],[],[15],[],[17],[16,18],[19],[20],[14,0,1,2,3,4,5,6,7,8,9,10,11,12,13,14],[21,22,0,1,2,3,4,5,6,7,8,9,10,11,12,13,14,15,16,17,18,19,20,21,22]])
 (.reg true [ma 56 6,ma 57 4,ma 58 8,oo 59 (.un .neg) [.t 58],oo 60 (.bin .sub) [.t 59,ki 1],oo 61 (.iad 1) [.t 57,.t 60],la 62 61,oo 63 .mn2 [.t 56,.t 62],fa 64 1 1,la 65 64,ma 66 8,oo 67 (.un .neg) [.t 66],oo 68 (.bin .sub) [.t 67,ki 1],oo 69 (.iad 3) [.t 65,.t 68],fa 70 1 69,la 71 70,ma 6 63,ma 7 71] [[],[],[],[2],[3],[1,4],[5],[0,6],[],[8],[],[10],[11],[9,12],[13],[14],[7,0,1,2,3,4,5,6,7],[15,16,0,1,2,3,4,5,6,7,8,9,10,11,12,13,14,15,16]])))))))))
 (sr [oo 9 .mv [ki 1]]
 (.block 4 (.loop
 (.seq (.seq
 (rg [ma 72 9,oo 73 (.bin .neq) [.t 72,ki 0]])
 (.cond (.t 73)
 .skip
 (.exit 4)))
 (.block 5 (sr [ma 74 5,ma 75 9,oo 76 (.iad 1) [.t 74,.t 75],la 77 76,ma 10 77]
 (sr [ma 78 10,oo 79 (.bin .gtr) [.t 78,ki 0]]
 (.cond (.t 79)
 (sr [ma 80 4,ma 81 10,oo 82 (.bin .sub) [.t 81,ki 1],oo 83 (.iad 1) [.t 80,.t 82],la 84 83,ma 85 6,oo 86 (.bin .add) [.t 84,.t 85],oo 87 (.iad 1) [.t 80,.t 82],ou (.st 1) [.t 87,.t 86]]
 (rg [fa 88 1 1,la 89 88,ma 90 10,oo 91 (.bin .sub) [.t 90,ki 1],oo 92 (.iad 3) [.t 89,.t 91],fa 93 0 92,la 94 93,ma 9 94]))
 (sr [ma 95 4,ma 96 10,oo 97 (.un .neg) [.t 96],oo 98 (.bin .sub) [.t 97,ki 1],oo 99 (.iad 1) [.t 95,.t 98],la 100 99,ma 101 6,oo 102 (.bin .sub) [.t 100,.t 101],oo 103 (.iad 1) [.t 95,.t 98],ou (.st 1) [.t 103,.t 102]]
 (rg [fa 104 1 1,la 105 104,ma 106 10,oo 107 (.un .neg) [.t 106],oo 108 (.bin .sub) [.t 107,ki 1],oo 109 (.iad 3) [.t 105,.t 108],fa 110 1 109,la 111 110,ma 9 111]))))))))))))))))))))⟩
def zkP : AFun:=⟨112,[(4,none)],
 (sr [oo 2 (.box 2) [.t 0],oo 4 .mv [kn]]
 (sr [fa 11 0 2,la 12 11,oo 13 (.mks 1 8 [v0]) [.t 12,.t 12],ma 5 13]
 (sr [fa 14 0 2,la 15 14,oo 16 (.mks 1 1 [(.bool false)]) [.t 15,.t 15],ma 6 16]
 (sr [ma 17 6,oo 18 (.iad 1) [.t 17,ki 0],ou (.st 1) [.t 18,.c (.bool true)]]
 (sr [oo 19 (.bsl 1 1 [v0] [0]) [ki 0],ma 7 19]
 (.seq (.block 0 (.loop
 (.seq (.seq
 (rg [ma 20 7,oo 21 .len [.t 20],oo 22 (.bin .gtr) [.t 21,ki 0]])
 (.cond (.t 22)
 .skip
 (.exit 0)))
 (.block 1 (sr [ma 23 7,oo 24 (.iad 1) [.t 23,ki 0],la 25 24,ma 8 25]
 (sr [ma 26 7,oo 27 (.slc 1 true false false) [.t 26,ki 1],ma 7 27]
 (sr [oo 9 .mv [ki 0]]
 (.block 2 (.loop
 (.seq (.seq
 (rg [ma 28 9,fa 29 1 2,la 30 29,oo 31 .len [.t 30],oo 32 (.bin .lss) [.t 28,.t 31]])
 (.cond (.t 32)
 .skip
 (.exit 2)))
 (.seq (.block 3 (sr [fa 35 1 2,la 36 35,ma 37 9,oo 38 (.iad 3) [.t 36,.t 37],oo 39 (.ld true 3) [.t 38],oo 10 (.alloc [v0,v0,v0]) [],ou (.st 3) [.t 10,.t 39]]
 (.seq (.seq
 (.reg true [fa 40 0 10,la 41 40,ma 42 8,oo 43 (.bin .eql) [.t 41,.t 42],ma 44 43,mg 45 1 44,mg 46 9 44,og 47 (.iad 1) [.t 45,.t 46] 44,lg 48 47 44,fg 49 2 10 44,lg 50 49 44,og 51 (.bin .lss) [.t 48,.t 50] 44,oo 52 .pick [.t 44,.t 51,.c (.bool false)],ma 53 52,mg 54 6 53,fg 55 1 10 53,lg 56 55 53,og 57 (.iad 1) [.t 54,.t 56] 53,lg 58 57 53,og 59 (.un .not) [.t 58] 53,oo 60 .pick [.t 53,.t 59,.c (.bool false)]] [[],[0],[],[1,2],[3],[4],[4],[5,6,4],[7,4],[4],[9,4],[8,10,4],[4,11],[12,4],[13],[13],[15,13],[14,16,13],[17,13],[18,13],[13,19]])
 (.cond (.t 60)
 (.seq (.reg true [ma 61 6,fa 62 1 10,la 63 62,ma 64 5,fa 65 1 10,la 66 65,ma 67 9,oo 68 (.bin .add) [.t 67,ki 1],oo 69 (.iad 1) [.t 61,.t 63],ou (.st 1) [.t 69,.c (.bool true)],oo 70 (.iad 1) [.t 64,.t 66],ou (.st 1) [.t 70,.t 68]] [[],[],[1],[],[],[4],[],[6],[0,2,0,1,2],[8,0,1,2],[3,5,0,1,2,3,4,5,6,7,8,9],[10,7,9,0,1,2,3,4,5,6,7,8,9]])
 (rg [ma 71 7,fa 72 1 10,la 73 72,oo 74 (.bsl 1 1 [v0] [0]) [.t 73],oo 75 (.app 1 8) [.t 71,.t 74],ma 7 75]))
 .skip))
 (sr [fa 76 1 10,la 77 76,ma 78 8,oo 79 (.bin .eql) [.t 77,.t 78],ma 80 79,mg 81 1 80,mg 82 9 80,og 83 (.iad 1) [.t 81,.t 82] 80,lg 84 83 80,og 85 (.bin .gtr) [.t 84,ki 0] 80,oo 86 .pick [.t 80,.t 85,.c (.bool false)],ma 87 86,mg 88 6 87,fg 89 0 10 87,lg 90 89 87,og 91 (.iad 1) [.t 88,.t 90] 87,lg 92 91 87,og 93 (.un .not) [.t 92] 87,oo 94 .pick [.t 87,.t 93,.c (.bool false)]]
 (.cond (.t 94)
 (.seq (.reg true [ma 95 6,fa 96 0 10,la 97 96,ma 98 5,fa 99 0 10,la 100 99,ma 101 9,oo 102 (.bin .add) [.t 101,ki 1],oo 103 (.un .neg) [.t 102],oo 104 (.iad 1) [.t 95,.t 97],ou (.st 1) [.t 104,.c (.bool true)],oo 105 (.iad 1) [.t 98,.t 100],ou (.st 1) [.t 105,.t 103]] [[],[],[1],[],[],[4],[],[6],[7],[0,2,0,1,2],[9,0,1,2],[3,5,0,1,2,3,4,5,6,7,8,9,10],[11,8,10,0,1,2,3,4,5,6,7,8,9,10]])
 (rg [ma 106 7,fa 107 0 10,la 108 107,oo 109 (.bsl 1 1 [v0] [0]) [.t 108],oo 110 (.app 1 8) [.t 106,.t 109],ma 7 110]))
 .skip)))))
 (rg [ma 33 9,oo 34 (.bin .add) [.t 33,ki 1],ma 9 34]))))))))))))
 (sr [ma 111 5,ma 4 111]
 .ret)))))))⟩
def zsv : AFun:=⟨31,[(4,none)],
 (sr [oo 2 (.box 3) [.t 0],oo 3 (.box 3) [.t 1],oo 4 .mv [kn]]
 (.seq (.reg true [oo 8 (.ld true 3) [.t 2],fa 9 2 3,la 10 9,ca 11 zcK [.t 8,.t 10],fa 12 0 3,la 13 12,ca 14 zfc [.t 11,.t 13],ma 5 14] [[],[],[1],[0,2],[],[4],[3,5,3],[6,6,0,1,2,3,4,5,6]])
 (sr [oo 6 .mv [kn]]
 (.seq (.seq
 (rg [oo 7 .mv [ki 0]])
 (.block 0 (.loop
 (.seq (.seq
 (rg [ma 15 7,ma 16 5,oo 17 .len [.t 16],oo 18 (.bin .lss) [.t 15,.t 17]])
 (.cond (.t 18)
 .skip
 (.exit 0)))
 (.seq (.block 1 (.reg true [ma 21 6,oo 22 (.ld true 3) [.t 3],ma 23 5,ma 24 7,oo 25 (.iad 1) [.t 23,.t 24],la 26 25,ca 27 zj7 [.t 22,.t 26],oo 28 (.bsl 1 1 [v0] [0]) [.t 27],oo 29 (.app 1 8) [.t 21,.t 28],ma 6 29] [[],[],[],[],[2,3],[4],[1,5],[6],[0,7,6],[8,8,0,1,2,3,4,5,6,7,8]]))
 (rg [ma 19 7,oo 20 (.bin .add) [.t 19,ki 1],ma 7 20]))))))
 (sr [ma 30 6,ma 4 30]
 .ret)))))⟩
def zoo : AFun:=⟨6,[(2,none)],
 (sr [oo 2 .mv [ki 0]]
 (sr [ma 3 0,oo 4 (.bin .mul) [ki 2,.t 3],oo 5 (.bin .add) [ki 2,.t 4],ma 2 5]
 .ret))⟩
def zqB : AFun:=⟨6,[(2,none)],
 (sr [oo 2 .mv [ki 0]]
 (sr [ma 3 0,oo 4 (.bin .mul) [ki 2,.t 3],oo 5 (.bin .add) [ki 3,.t 4],ma 2 5]
 .ret))⟩
def zoC : AFun:=⟨80,[(2,none)],
 (sr [oo 1 (.box 2) [.t 0],oo 2 .mv [ki 0]]
 (.seq (.seq
 (rg [fa 5 0 1,la 6 5,oo 7 (.bin .lss) [.t 6,ki 2],ma 8 7,fh 9 0 1 8,lh 10 9 8,oh 11 (.bin .gtr) [.t 10,ki 130] 8,oo 12 .pick [.t 8,.c (.bool true),.t 11],ma 13 12,fh 14 1 1 13,lh 15 14 13,oh 16 .len [.t 15] 13,oh 17 (.bin .gtr) [.t 16,ki 1200] 13,oo 18 .pick [.t 13,.c (.bool true),.t 17]])
 (.cond (.t 18)
 (sr [oo 2 .mv [ki 16]]
 .ret)
 .skip))
 (.seq (.seq
 (rg [oo 3 .mv [ki 0]])
 (.block 0 (.loop
 (.seq (.seq
 (rg [ma 19 3,fa 20 1 1,la 21 20,oo 22 .len [.t 21],oo 23 (.bin .lss) [.t 19,.t 22]])
 (.cond (.t 23)
 .skip
 (.exit 0)))
 (.seq (.block 1 (sr [fa 26 1 1,la 27 26,ma 28 3,oo 29 (.iad 3) [.t 27,.t 28],oo 30 (.ld true 3) [.t 29],oo 4 (.alloc [v0,v0,v0]) [],ou (.st 3) [.t 4,.t 30]]
 (sr [fa 31 0 4,la 32 31,oo 33 (.bin .lss) [.t 32,ki 0],ma 34 33,fh 35 0 4 34,lh 36 35 34,fh 37 0 1 34,lh 38 37 34,oh 39 (.bin .geq) [.t 36,.t 38] 34,oo 40 .pick [.t 34,.c (.bool true),.t 39],ma 41 40,fh 42 1 4 41,lh 43 42 41,oh 44 (.bin .lss) [.t 43,ki 0] 41,oo 45 .pick [.t 41,.c (.bool true),.t 44],ma 46 45,fh 47 1 4 46,lh 48 47 46,fh 49 0 1 46,lh 50 49 46,oh 51 (.bin .geq) [.t 48,.t 50] 46,oo 52 .pick [.t 46,.c (.bool true),.t 51],ma 53 52,fh 54 0 4 53,lh 55 54 53,fh 56 1 4 53,lh 57 56 53,oh 58 (.bin .eql) [.t 55,.t 57] 53,oo 59 .pick [.t 53,.c (.bool true),.t 58],ma 60 59,fh 61 1 4 60,lh 62 61 60,oh 63 (.bin .eql) [.t 62,ki 0] 60,oo 64 .pick [.t 60,.c (.bool true),.t 63],ma 65 64,fh 66 0 4 65,lh 67 66 65,oh 68 (.bin .eql) [.t 67,ki 1] 65,oo 69 .pick [.t 65,.c (.bool true),.t 68],ma 70 69,fh 71 2 4 70,lh 72 71 70,oh 73 (.bin .lss) [.t 72,ki 0] 70,oo 74 .pick [.t 70,.c (.bool true),.t 73],ma 75 74,fh 76 2 4 75,lh 77 76 75,oh 78 (.bin .gtr) [.t 77,ki 1048576] 75,oo 79 .pick [.t 75,.c (.bool true),.t 78]]
 (.cond (.t 79)
 (sr [oo 2 .mv [ki 16]]
 .ret)
 .skip))))
 (rg [ma 24 3,oo 25 (.bin .add) [.t 24,ki 1],ma 3 25]))))))
 (sr [oo 2 .mv [ki 0]]
 .ret))))⟩
def zn1 : AFun:=⟨23,[(4,none)],
 (sr [oo 2 (.box 2) [.t 0],oo 4 .mv [.c (.bool false)]]
 (sr [oo 5 (.ld true 2) [.t 2],ca 6 zdJ [.t 5],oo 7 (.bin .eql) [.t 6,ki 0],ma 8 7,mg 9 1 8,fg 10 0 2 8,lg 11 10 8,og 12 .call [.f zci,.t 9,.t 11] 8,oo 13 .pick [.t 8,.t 12,.c (.bool false)],ma 14 13,mg 15 1 14,og 16 .call [.f zaT,.t 15,ki 0] 14,oo 17 .pick [.t 14,.t 16,.c (.bool false)],ma 18 17,mg 19 1 18,og 20 .call [.f zaT,.t 19,ki 1] 18,og 21 (.un .not) [.t 20] 18,oo 22 .pick [.t 18,.t 21,.c (.bool false)],ma 4 22]
 .ret))⟩
def zlf : AFun:=⟨46,[(4,none)],
 (sr [oo 2 (.box 2) [.t 0],oo 4 .mv [ki 0]]
 (.seq (.seq
 (rg [oo 7 (.ld true 2) [.t 2],ma 8 1,ca 9 zeJ [.t 7,.t 8],oo 10 (.un .not) [.t 9]])
 (.cond (.t 10)
 (sr [oo 4 .mv [ki 0]]
 .ret)
 .skip))
 (sr [oo 5 .mv [ki 0]]
 (.seq (.seq
 (rg [oo 6 .mv [ki 0]])
 (.block 0 (.loop
 (.seq (.seq
 (rg [ma 11 6,fa 12 1 2,la 13 12,oo 14 .len [.t 13],oo 15 (.bin .lss) [.t 11,.t 14]])
 (.cond (.t 15)
 .skip
 (.exit 0)))
 (.seq (.block 1 (sr [ma 18 1,fa 19 1 2,la 20 19,ma 21 6,oo 22 (.iad 3) [.t 20,.t 21],fa 23 0 22,la 24 23,ca 25 zaT [.t 18,.t 24],ma 26 25,mg 27 1 26,fg 28 1 2 26,lg 29 28 26,mg 30 6 26,og 31 (.iad 3) [.t 29,.t 30] 26,fg 32 1 31 26,lg 33 32 26,og 34 .call [.f zaT,.t 27,.t 33] 26,og 35 (.un .not) [.t 34] 26,oo 36 .pick [.t 26,.t 35,.c (.bool false)]]
 (.cond (.t 36)
 (rg [ma 37 5,fa 38 1 2,la 39 38,ma 40 6,oo 41 (.iad 3) [.t 39,.t 40],fa 42 2 41,la 43 42,oo 44 (.bin .add) [.t 37,.t 43],ma 5 44])
 .skip)))
 (rg [ma 16 6,oo 17 (.bin .add) [.t 16,ki 1],ma 6 17]))))))
 (sr [ma 45 5,ma 4 45]
 .ret)))))⟩
def zp5 : AFun:=⟨21,[(2,none)],
 (sr [oo 1 (.box 2) [.t 0],oo 2 .mv [ki 0]]
 (sr [oo 4 (.mkf zdz) [.t 1],ma 3 4]
 (.seq (.seq
 (rg [fa 5 0 1,la 6 5,ca 7 zaQ [.t 6,ki 2,ki 130],oo 8 (.un .not) [.t 7],ma 9 8,fh 10 1 1 9,lh 11 10 9,oh 12 .len [.t 11] 9,oh 13 (.bin .gtr) [.t 12,ki 1200] 9,oo 14 .pick [.t 9,.c (.bool true),.t 13],ma 15 14,fh 16 1 1 15,lh 17 16 15,mh 18 3 15,oh 19 .call [.f zaW,.t 17,.t 18] 15,oo 20 .pick [.t 15,.c (.bool true),.t 19]])
 (.cond (.t 20)
 (sr [oo 2 .mv [ki 16]]
 .ret)
 .skip))
 (sr [oo 2 .mv [ki 0]]
 .ret))))⟩
def zm6 : AFun:=⟨43,[(4,none)],
 (sr [oo 2 (.box 2) [.t 0],oo 4 .mv [kn]]
 (sr [fa 8 0 2,la 9 8,oo 10 (.mks 1 8 [v0]) [.t 9,.t 9],ma 5 10]
 (.seq (.seq
 (rg [fa 11 1 2,la 12 11,oo 13 .len [.t 12],oo 14 .mv [ki 0]])
 (.block 0 (.loop
 (sr [oo 15 (.bin .lss) [.t 14,.t 13]]
 (.seq (.cond (.t 15)
 .skip
 (.exit 0))
 (.seq (.block 1 (sr [ma 16 14,oo 17 (.iad 3) [.t 12,.t 14],oo 18 (.ld true 3) [.t 17],oo 7 (.alloc [v0,v0,v0]) [],ma 6 16,ou (.st 3) [.t 7,.t 18]]
 (.seq (.reg true [ma 19 5,fa 20 0 7,la 21 20,oo 22 (.iad 1) [.t 19,.t 21],la 23 22,ma 24 1,ma 25 6,oo 26 (.iad 1) [.t 24,.t 25],la 27 26,oo 28 (.bin .add) [.t 23,.t 27],oo 29 (.iad 1) [.t 19,.t 21],ou (.st 1) [.t 29,.t 28]] [[],[],[1],[0,2],[3],[],[],[5,6],[7],[4,8],[0,2,0,1,2,3,4,5,6,7,8,9],[10,9,0,1,2,3,4,5,6,7,8,9]])
 (.reg true [ma 30 5,fa 31 1 7,la 32 31,oo 33 (.iad 1) [.t 30,.t 32],la 34 33,ma 35 1,ma 36 6,oo 37 (.iad 1) [.t 35,.t 36],la 38 37,oo 39 (.bin .sub) [.t 34,.t 38],oo 40 (.iad 1) [.t 30,.t 32],ou (.st 1) [.t 40,.t 39]] [[],[],[1],[0,2],[3],[],[],[5,6],[7],[4,8],[0,2,0,1,2,3,4,5,6,7,8,9],[10,9,0,1,2,3,4,5,6,7,8,9]]))))
 (rg [oo 41 (.bin .add) [.t 14,ki 1],ma 14 41])))))))
 (sr [ma 42 5,ma 4 42]
 .ret))))⟩
def zlR : AFun:=⟨5,[(2,none)],
 (sr [oo 2 .mv [.c (.bool false)]]
 (sr [ma 3 0,oo 4 (.bin .neq) [.t 3,ki 0],ma 2 4]
 .ret))⟩
def zst : AFun:=⟨24,[(4,none)],
 (sr [oo 2 (.box 2) [.t 0],oo 4 .mv [.c (.bool false)]]
 (sr [oo 5 (.ld true 2) [.t 2],ca 6 zeq [.t 5],oo 7 (.bin .eql) [.t 6,ki 0],ma 8 7,mg 9 1 8,fg 10 0 2 8,lg 11 10 8,og 12 (.bin .sub) [.t 11,ki 1] 8,og 13 .call [.f zbo,.t 9,ki 0,.t 12] 8,oo 14 .pick [.t 8,.t 13,.c (.bool false)],ma 15 14,mg 16 1 15,og 17 .call [.f zau,.t 16,ki 0] 15,oo 18 .pick [.t 15,.t 17,.c (.bool false)],ma 19 18,mg 20 1 19,og 21 .call [.f zau,.t 20,ki 1] 19,og 22 (.un .not) [.t 21] 19,oo 23 .pick [.t 19,.t 22,.c (.bool false)],ma 4 23]
 .ret))⟩
def znN : AFun:=⟨54,[(4,none)],
 (sr [oo 2 (.box 2) [.t 0],oo 4 .mv [ki 0]]
 (.seq (.seq
 (rg [oo 11 (.ld true 2) [.t 2],ma 12 1,ca 13 zgM [.t 11,.t 12],oo 14 (.un .not) [.t 13]])
 (.cond (.t 14)
 (sr [oo 4 .mv [ki 0]]
 .ret)
 .skip))
 (sr [fa 15 0 2,la 16 15,oo 17 (.mks 1 1 [(.bool false)]) [.t 16,.t 16],ma 5 17]
 (.seq (.seq
 (rg [ma 18 1,oo 19 .len [.t 18],oo 20 .mv [ki 0]])
 (.block 0 (.loop
 (sr [oo 21 (.bin .lss) [.t 20,.t 19]]
 (.seq (.cond (.t 21)
 .skip
 (.exit 0))
 (.seq (.block 1 (sr [oo 22 (.iad 1) [.t 18,.t 20],la 23 22,ma 7 23]
 (rg [ma 24 5,ma 25 7,oo 26 (.iad 1) [.t 24,.t 25],ou (.st 1) [.t 26,.c (.bool true)]])))
 (rg [oo 27 (.bin .add) [.t 20,ki 1],ma 20 27])))))))
 (sr [oo 8 .mv [ki 0]]
 (.seq (.seq
 (rg [fa 28 1 2,la 29 28,oo 30 .len [.t 29],oo 31 .mv [ki 0]])
 (.block 2 (.loop
 (sr [oo 32 (.bin .lss) [.t 31,.t 30]]
 (.seq (.cond (.t 32)
 .skip
 (.exit 2))
 (.seq (.block 3 (sr [oo 33 (.iad 3) [.t 29,.t 31],oo 34 (.ld true 3) [.t 33],oo 10 (.alloc [v0,v0,v0]) [],ou (.st 3) [.t 10,.t 34]]
 (sr [ma 35 5,fa 36 0 10,la 37 36,oo 38 (.iad 1) [.t 35,.t 37],la 39 38,ma 40 39,mg 41 5 40,fg 42 1 10 40,lg 43 42 40,og 44 (.iad 1) [.t 41,.t 43] 40,lg 45 44 40,og 46 (.un .not) [.t 45] 40,oo 47 .pick [.t 40,.t 46,.c (.bool false)]]
 (.cond (.t 47)
 (rg [ma 48 8,fa 49 2 10,la 50 49,oo 51 (.bin .add) [.t 48,.t 50],ma 8 51])
 .skip))))
 (rg [oo 52 (.bin .add) [.t 31,ki 1],ma 31 52])))))))
 (sr [ma 53 8,ma 4 53]
 .ret)))))))⟩
def zir : AFun:=⟨9,[(2,none)],
 (sr [oo 2 .mv [kn]]
 (sr [ma 4 0,ca 5 zcF [.t 4],ma 3 5]
 (sr [ma 6 3,ca 7 zbh [.t 6]]
 (sr [ma 8 3,ma 2 8]
 .ret))))⟩
def zfA : AFun:=⟨4,[(2,none)],
 (sr [oo 1 (.box 1) [.t 0],oo 2 .mv [(.c .nilFunc)]]
 (sr [oo 3 (.mkf zbx) [.t 1],ma 2 3]
 .ret))⟩
def zo8 : AFun:=⟨6,[(2,none)],
 (sr [oo 2 .mv [ki 0]]
 (sr [ma 3 0,oo 4 (.bin .mul) [ki 2,.t 3],oo 5 (.bin .add) [ki 2,.t 4],ma 2 5]
 .ret))⟩
def zi6 : AFun:=⟨16,[],
 (rg [fa 7 1 3,la 8 7,ma 9 0,ma 10 1,ma 11 2,oo 12 (.build [v0,v0,v0] [(0,1),(1,1),(2,1)]) [.t 9,.t 10,.t 11],oo 13 (.bsl 3 1 [v0,v0,v0] [0]) [.t 12],oo 14 (.app 3 24) [.t 8,.t 13],fa 15 1 3,ou (.st 1) [.t 15,.t 14]])⟩
def zne : AFun:=⟨30,[(4,none)],
 (sr [oo 2 (.box 3) [.t 0],oo 3 (.box 3) [.t 1],oo 4 .mv [kn]]
 (.seq (.reg true [oo 8 (.ld true 3) [.t 2],fa 9 2 3,la 10 9,ca 11 zcR [.t 8,.t 10],fa 12 0 3,la 13 12,ca 14 zdX [.t 11,.t 13],ma 5 14] [[],[],[1],[0,2],[],[4],[3,5,3],[6,6,0,1,2,3,4,5,6]])
 (.seq (.seq
 (rg [ma 15 5,oo 16 .len [.t 15],oo 17 .mv [ki 0]])
 (.block 0 (.loop
 (sr [oo 18 (.bin .lss) [.t 17,.t 16]]
 (.seq (.cond (.t 18)
 .skip
 (.exit 0))
 (.seq (.block 1 (sr [ma 19 17,oo 20 (.iad 1) [.t 15,.t 17],la 21 20,ma 6 19,ma 7 21]
 (rg [ma 22 5,ma 23 6,oo 24 (.ld true 3) [.t 3],ma 25 7,ca 26 zgG [.t 24,.t 25],oo 27 (.iad 1) [.t 22,.t 23],ou (.st 1) [.t 27,.t 26]])))
 (rg [oo 28 (.bin .add) [.t 17,ki 1],ma 17 28])))))))
 (sr [ma 29 5,ma 4 29]
 .ret))))⟩
def zpX : AFun:=⟨6,[(2,none)],
 (sr [oo 2 .mv [ki 0]]
 (sr [ma 3 0,ca 4 zbQ [.t 3],oo 5 (.bin .add) [.t 4,ki 1],ma 2 5]
 .ret))⟩
def zrF : AFun:=⟨14,[(4,none)],
 (sr [oo 2 (.box 2) [.t 0],oo 4 .mv [kn]]
 (.seq (.reg true [oo 6 (.ld true 2) [.t 2],ma 7 1,ca 8 zaN [.t 7],ca 9 zgQ [.t 6,.t 8],oo 5 (.alloc [v0,vn,vn,vn]) [],ou (.st 4) [.t 5,.t 9]] [[],[],[1],[0,2,2],[],[4,3,3,0,1,2,3,4]])
 (.seq (.block 0 (.loop
 (.seq (.seq
 (rg [oo 10 (.ld true 4) [.t 5],ca 11 zcC [.t 10]])
 (.cond (.t 11)
 .skip
 (.exit 0)))
 (.block 1
 .skip))))
 (sr [fa 12 2 5,la 13 12,ma 4 13]
 .ret))))⟩
def zhy : AFun:=⟨35,[(4,none),(5,none)],
 (sr [oo 2 (.box 4) [.t 0],oo 3 (.box 2) [.t 1],oo 4 .mv [ki 0],oo 5 .mv [ki 0]]
 (sr [fa 7 0 2,fa 8 1 7,la 9 8,fa 10 0 3,la 11 10,oo 12 (.iad 3) [.t 9,.t 11],oo 13 (.ld true 3) [.t 12],oo 6 (.alloc [v0,v0,v0]) [],ou (.st 3) [.t 6,.t 13]]
 (.seq (.seq
 (rg [fa 14 1 3,la 15 14])
 (.cond (.t 15)
 (.seq (.reg true [fa 16 2 2,la 17 16,fa 18 0 3,la 19 18,oo 20 (.iad 1) [.t 17,.t 19],la 21 20,fa 22 0 6,la 23 22,ma 4 21,ma 5 23] [[],[0],[],[2],[1,3],[4],[],[6],[5,0,1,2,3,4,5],[7,8,0,1,2,3,4,5,6,7,8]])
 .ret)
 .skip))
 (.seq (.reg true [fa 24 2 6,la 25 24,fa 26 2 2,la 27 26,fa 28 0 3,la 29 28,oo 30 (.iad 1) [.t 27,.t 29],la 31 30,oo 32 (.bin .sub) [.t 25,.t 31],fa 33 1 6,la 34 33,ma 4 32,ma 5 34] [[],[0],[],[2],[],[4],[3,5],[6],[1,7],[],[9],[8,0,1,2,3,4,5,6,7,8],[10,11,0,1,2,3,4,5,6,7,8,9,10,11]])
 .ret))))⟩
def ztg : AFun:=⟨17,[(4,none)],
 (sr [oo 2 (.box 3) [.t 0],oo 4 .mv [ki 0]]
 (.seq (.seq
 (rg [ma 5 1,oo 6 (.bin .lss) [.t 5,ki 0]])
 (.cond (.t 6)
 (sr [oo 4 .mv [ki 0]]
 .ret)
 .skip))
 (.seq (.seq
 (rg [ma 7 1,fa 8 1 2,la 9 8,oo 10 .len [.t 9],oo 11 (.bin .lss) [.t 7,.t 10]])
 (.cond (.t 11)
 (sr [fa 12 1 2,la 13 12,ma 14 1,oo 15 (.iad 1) [.t 13,.t 14],la 16 15,ma 4 16]
 .ret)
 .skip))
 (sr [oo 4 .mv [ki 1]]
 .ret))))⟩
def zlu : AFun:=⟨43,[(3,none)],
 (sr [oo 2 (.box 3) [.t 0],oo 3 .mv [.c (.bool false)]]
 (sr [fa 4 0 2,la 5 4,fa 6 0 1,la 7 6,oo 8 (.bin .sub) [.t 7,ki 1],ca 9 zaQ [.t 5,ki 0,.t 8],oo 10 (.un .not) [.t 9],ma 11 10,fh 12 1 2 11,lh 13 12 11,fh 14 0 1 11,lh 15 14 11,oh 16 (.bin .sub) [.t 15,ki 1] 11,oh 17 .call [.f zaQ,.t 13,ki 0,.t 16] 11,oh 18 (.un .not) [.t 17] 11,oo 19 .pick [.t 11,.c (.bool true),.t 18],ma 20 19,fh 21 0 2 20,lh 22 21 20,fh 23 1 2 20,lh 24 23 20,oh 25 (.bin .eql) [.t 22,.t 24] 20,oo 26 .pick [.t 20,.c (.bool true),.t 25],ma 27 26,fh 28 1 2 27,lh 29 28 27,oh 30 (.bin .eql) [.t 29,ki 0] 27,oo 31 .pick [.t 27,.c (.bool true),.t 30],ma 32 31,fh 33 0 2 32,lh 34 33 32,oh 35 (.bin .eql) [.t 34,ki 1] 32,oo 36 .pick [.t 32,.c (.bool true),.t 35],ma 37 36,fh 38 2 2 37,lh 39 38 37,oh 40 .call [.f zaQ,.t 39,ki 0,ki 1048576] 37,oh 41 (.un .not) [.t 40] 37,oo 42 .pick [.t 37,.c (.bool true),.t 41],ma 3 42]
 .ret))⟩
def zcq : AFun:=⟨9,[(4,none)],
 (sr [oo 4 .mv [.c (.bool false)]]
 (sr [ma 5 0,ma 6 1,ca 7 za4 [.t 5,.t 6],oo 8 (.bin .geq) [.t 7,ki 0],ma 4 8]
 .ret))⟩
def zht : AFun:=⟨5,[(2,none)],
 (sr [oo 2 .mv [kn]]
 (sr [ma 3 0,ca 4 zcl [kn,.t 3],ma 2 4]
 .ret))⟩
def zpc : AFun:=⟨19,[(4,none)],
 (sr [oo 2 (.box 3) [.t 0],oo 4 .mv [ki 0]]
 (.seq (.block 0 (sr [ma 6 1,oo 7 (.bin .lss) [.t 6,ki 0],ma 5 7]
 (.cond (.t 5)
 (sr [oo 4 .mv [ki 0]]
 .ret)
 (sr [ma 9 1,fa 10 1 2,la 11 10,oo 12 .len [.t 11],oo 13 (.bin .lss) [.t 9,.t 12],ma 8 13]
 (.cond (.t 8)
 (sr [fa 14 1 2,la 15 14,ma 16 1,oo 17 (.iad 1) [.t 15,.t 16],la 18 17,ma 4 18]
 .ret)
 .skip)))))
 (sr [oo 4 .mv [ki 1]]
 .ret)))⟩
def zhc : AFun:=⟨86,[(2,none)],
 (sr [oo 1 (.box 4) [.t 0],oo 2 .mv [.c (.bool false)]]
 (sr [oo 14 (.ld true 4) [.t 1],ca 15 zbz [.t 14],ma 3 15]
 (.seq (.seq
 (rg [ma 17 3,oo 18 (.mlk (.agg #[v0,(.bool false)]) true) [.t 17,ki 1],ma 16 18,oo 19 (.ext 0) [.t 16],oo 20 (.ext 1) [.t 16],oo 4 (.alloc [v0,(.bool false)]) [],ou (.st 2) [.t 4,.t 19],ma 5 20])
 (sr [ma 21 5,oo 22 (.un .not) [.t 21]]
 (.cond (.t 22)
 (sr [oo 2 .mv [.c (.bool false)]]
 .ret)
 .skip)))
 (sr [oo 6 .mv [kn]]
 (sr [oo 7 .mv [ki 1048576]]
 (.seq (.seq
 (rg [oo 8 .mv [ki 1]])
 (.block 0 (.loop
 (.seq (.seq
 (rg [ma 23 8,oo 24 (.bin .neq) [.t 23,ki 0]])
 (.cond (.t 24)
 .skip
 (.exit 0)))
 (.block 1 (sr [ma 25 3,ma 26 8,oo 27 (.mlk (.agg #[v0,(.bool false)]) false) [.t 25,.t 26],oo 9 (.alloc [v0,(.bool false)]) [],ou (.st 2) [.t 9,.t 27]]
 (sr [oo 29 (.ld true 4) [.t 1],oo 30 (.ld true 2) [.t 9],ca 31 zbT [.t 29,.t 30],ma 28 31,oo 32 (.ext 0) [.t 28],oo 33 (.ext 1) [.t 28],ma 10 32,ma 11 33]
 (sr [ma 34 6,oo 35 (.ld true 2) [.t 9],oo 36 (.bsl 2 1 [v0,(.bool false)] [0]) [.t 35],oo 37 (.app 2 16) [.t 34,.t 36],ma 38 7,ma 39 10,oo 40 .mn2 [.t 38,.t 39],ma 6 37,ma 7 40]
 (sr [fa 41 0 1,fa 42 1 41,la 43 42,fa 44 0 9,la 45 44,oo 46 (.iad 3) [.t 43,.t 45],fa 47 0 46,la 48 47,ma 8 48]
 (sr [fa 49 1 9,la 50 49]
 (.cond (.t 50)
 (rg [fa 51 0 1,fa 52 1 51,la 53 52,fa 54 0 9,la 55 54,oo 56 (.iad 3) [.t 53,.t 55],fa 57 1 56,la 58 57,ma 8 58])
 .skip)))))))))))
 (.seq (.seq
 (rg [ma 59 6,oo 60 .len [.t 59],oo 61 .mv [ki 0]])
 (.block 2 (.loop
 (sr [oo 62 (.bin .lss) [.t 61,.t 60]]
 (.seq (.cond (.t 62)
 .skip
 (.exit 2))
 (.seq (.block 3 (sr [oo 63 (.iad 2) [.t 59,.t 61],oo 64 (.ld true 2) [.t 63],oo 13 (.alloc [v0,(.bool false)]) [],ou (.st 2) [.t 13,.t 64]]
 (sr [fa 65 1 13,la 66 65]
 (.cond (.t 66)
 (rg [fa 67 2 1,la 68 67,fa 69 0 13,la 70 69,oo 71 (.iad 1) [.t 68,.t 70],la 72 71,ma 73 7,oo 74 (.bin .sub) [.t 72,.t 73],oo 75 (.iad 1) [.t 68,.t 70],ou (.st 1) [.t 75,.t 74]])
 (rg [fa 76 2 1,la 77 76,fa 78 0 13,la 79 78,oo 80 (.iad 1) [.t 77,.t 79],la 81 80,ma 82 7,oo 83 (.bin .add) [.t 81,.t 82],oo 84 (.iad 1) [.t 77,.t 79],ou (.st 1) [.t 84,.t 83]])))))
 (rg [oo 85 (.bin .add) [.t 61,ki 1],ma 61 85])))))))
 (sr [oo 2 .mv [.c (.bool true)]]
 .ret))))))))⟩
def zcU : AFun:=⟨19,[(4,none)],
 (sr [oo 4 .mv [ki 0]]
 (.seq (.seq
 (rg [ma 6 0,oo 7 .len [.t 6],oo 8 .mv [ki 0]])
 (.block 0 (.loop
 (sr [oo 9 (.bin .lss) [.t 8,.t 7]]
 (.seq (.cond (.t 9)
 .skip
 (.exit 0))
 (.seq (.block 1 (sr [ma 10 8,ma 5 10]
 (sr [ma 11 1,ma 12 0,ma 13 5,oo 14 (.iad 3) [.t 12,.t 13],oo 15 (.ld true 3) [.t 14],oo 16 .call [.t 11,.t 15]]
 (.cond (.t 16)
 (sr [ma 17 5,ma 4 17]
 .ret)
 .skip))))
 (rg [oo 18 (.bin .add) [.t 8,ki 1],ma 8 18])))))))
 (sr [oo 4 .mv [ki (-1)]]
 .ret)))⟩
def zhA : AFun:=⟨14,[(4,some (true,3)),(5,none)],
 (sr [oo 2 (.box 3) [.t 0],oo 3 (.box 3) [.t 1],oo 4 (.alloc [v0,vn,vn]) [],oo 5 .mv [ki 0]]
 (sr [oo 6 (.ld true 3) [.t 3],fa 7 0 2,la 8 7,fa 9 1 2,la 10 9,ca 11 zeW [.t 6,.t 8,.t 10],oo 12 (.ext 0) [.t 11],oo 13 (.ext 1) [.t 11],ou (.st 3) [.t 4,.t 12],ma 5 13]
 .ret))⟩
def zgY : AFun:=⟨11,[(4,some (true,3)),(5,none)],
 (sr [oo 2 (.box 3) [.t 0],oo 3 (.box 3) [.t 1],oo 4 (.alloc [v0,vn,vn]) [],oo 5 .mv [ki 0]]
 (sr [oo 6 (.ld true 3) [.t 3],oo 7 (.ld true 3) [.t 2],ca 8 zhC [.t 6,.t 7],oo 9 (.ext 0) [.t 8],oo 10 (.ext 1) [.t 8],ou (.st 3) [.t 4,.t 9],ma 5 10]
 .ret))⟩
end Go.Proofs.YthmaflecfppoiaaGreat
