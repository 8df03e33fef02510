/- Texts of this claim,merged. -/
import Derived.Test.YtkngdgplbojdlaaGreatRx5
set_option linter.unusedSimpArgs false
set_option linter.unusedVariables false
set_option linter.unusedSectionVars false
namespace Go.Proofs.YtkngdgplbojdlaaGreat
open Go
set_option maxRecDepth 100000
def zjq : AFun:=⟨156,[(6,none)],
 (sr [oo 6 .mv [.c (.bool false)]]
 (.seq (.seq
 (rg [ma 27 0,ca 28 zjk [.t 27],oo 29 (.un .not) [.t 28]])
 (.cond (.t 29)
 (sr [ca 30 zgm [],ma 6 30]
 .ret)
 .skip))
 (sr [ma 31 0,ca 32 zkT [.t 31],ma 7 32]
 (sr [ma 33 7,ca 34 zdQ [.t 33],oo 8 (.alloc [v0,vn,vn]) [],ou (.st 3) [.t 8,.t 34]]
 (sr [ma 35 7,oo 36 (.ld true 3) [.t 8],ca 37 zeX [.t 35,.t 36],oo 9 (.alloc [vn,vn,v0]) [],ou (.st 3) [.t 9,.t 37]]
 (.seq (.reg true [fa 38 0 8,la 39 38,ma 40 7,ca 41 zaz [.t 40,ki 8],oo 42 (.bin .add) [.t 39,.t 41],fa 43 0 8,ou (.st 1) [.t 43,.t 42]] [[],[0],[],[2],[1,3],[0,1,2,3,4],[5,4,3,0,1,2,3,4]])
 (.seq (.seq
 (.reg true [ma 44 7,fa 45 0 8,la 46 45,ca 47 zaz [.t 44,.t 46],ma 48 7,ca 49 zaz [.t 48,ki 6],oo 50 (.bin .add) [ki 1,.t 49],oo 51 (.build [v0,v0] [(0,1),(1,1)]) [.t 47,.t 50],ma 52 1,ma 53 2,ca 54 zio [.t 53,ki 9],oo 55 (.build [v0,v0] [(0,1),(1,1)]) [.t 52,.t 54],ma 56 1,fa 57 0 8,la 58 57,ca 59 zio [.t 56,.t 58],ma 60 2,oo 61 (.build [v0,v0] [(0,1),(1,1)]) [.t 59,.t 60],oo 62 (.bsl 2 3 [v0,v0] [0,1,2]) [.t 51,.t 55,.t 61],oo 63 .len [.t 62],oo 64 .mv [ki 0]] [[],[],[1],[0,2],[],[4,3],[5],[3,6],[],[],[9,5],[8,10],[],[],[13],[12,14,10],[],[15,16],[7,11,17],[18],[]])
 (.block 0 (.loop
 (sr [oo 65 (.bin .lss) [.t 64,.t 63]]
 (.seq (.cond (.t 65)
 .skip
 (.exit 0))
 (.seq (.block 1 (sr [oo 66 (.iad 2) [.t 62,.t 64],oo 67 (.ld true 2) [.t 66],oo 11 (.alloc [v0,v0]) [],ou (.st 2) [.t 11,.t 67]]
 (sr [oo 69 (.ld true 3) [.t 8],oo 70 (.ld true 3) [.t 9],oo 71 (.iaa 2 1) [.t 11,ki 0],la 72 71,oo 73 (.iaa 2 1) [.t 11,ki 1],la 74 73,ca 75 zdu [.t 69,.t 70,.t 72,.t 74],ma 68 75,oo 76 (.ext 0) [.t 68],oo 77 (.ext 1) [.t 68],oo 78 (.ext 2) [.t 68],oo 12 (.alloc [v0,vn,vn]) [],ou (.st 3) [.t 12,.t 76],ma 13 77,ma 14 78]
 (sr [oo 80 (.ld true 3) [.t 8],oo 81 (.ld true 3) [.t 9],oo 82 (.iaa 2 1) [.t 11,ki 0],la 83 82,oo 84 (.iaa 2 1) [.t 11,ki 1],la 85 84,ca 86 zg7 [.t 80,.t 81,.t 83,.t 85],ma 79 86,oo 87 (.ext 0) [.t 79],oo 88 (.ext 1) [.t 79],oo 89 (.ext 2) [.t 79],oo 15 (.alloc [v0,vn,vn]) [],ou (.st 3) [.t 15,.t 87],ma 16 88,ma 17 89]
 (sr [oo 91 (.ld true 3) [.t 8],oo 92 (.ld true 3) [.t 9],oo 93 (.iaa 2 1) [.t 11,ki 0],la 94 93,oo 95 (.iaa 2 1) [.t 11,ki 1],la 96 95,ca 97 zfG [.t 91,.t 92,.t 94,.t 96],ma 90 97,oo 98 (.ext 0) [.t 90],oo 99 (.ext 1) [.t 90],oo 100 (.ext 2) [.t 90],ma 18 98,ma 19 99,ma 20 100]
 (sr [oo 102 (.ld true 3) [.t 8],oo 103 (.ld true 3) [.t 9],oo 104 (.iaa 2 1) [.t 11,ki 0],la 105 104,oo 106 (.iaa 2 1) [.t 11,ki 1],la 107 106,ca 108 zjD [.t 102,.t 103,.t 105,.t 107],ma 101 108,oo 109 (.ext 0) [.t 101],oo 110 (.ext 1) [.t 101],oo 111 (.ext 2) [.t 101],ma 21 109,ma 22 110,ma 23 111]
 (sr [ma 112 14,ma 113 17,oo 114 (.bin .neq) [.t 112,.t 113],ma 115 114,oh 116 (.ld true 3) [.t 12] 115,oh 117 (.ld true 3) [.t 15] 115,oh 118 .call [.f zjy,.t 116,.t 117] 115,oh 119 (.un .not) [.t 118] 115,oo 120 .pick [.t 115,.c (.bool true),.t 119],ma 121 120,mh 122 13 121,mh 123 16 121,oh 124 .call [.f zdl,.t 122,.t 123] 121,oh 125 (.un .not) [.t 124] 121,oo 126 .pick [.t 121,.c (.bool true),.t 125],ma 127 126,mh 128 20 127,mh 129 23 127,oh 130 (.bin .neq) [.t 128,.t 129] 127,oo 131 .pick [.t 127,.c (.bool true),.t 130],ma 132 131,mh 133 18 132,mh 134 21 132,oh 135 (.bin .neq) [.t 133,.t 134] 132,oo 136 .pick [.t 132,.c (.bool true),.t 135],ma 137 136,mh 138 19 137,mh 139 22 137,oh 140 (.bin .neq) [.t 138,.t 139] 137,oo 141 .pick [.t 137,.c (.bool true),.t 140]]
 (.cond (.t 141)
 (sr [oo 6 .mv [.c (.bool false)]]
 .ret)
 .skip))))))))
 (rg [oo 142 (.bin .add) [.t 64,ki 1],ma 64 142])))))))
 (sr [fa 143 1 9,ou (.st 1) [.t 143,kn]]
 (sr [oo 145 (.ld true 3) [.t 8],oo 146 (.ld true 3) [.t 9],ca 147 zdu [.t 145,.t 146,ki 0,ki 1],ma 144 147,oo 148 (.ext 0) [.t 144],oo 149 (.ext 1) [.t 144],oo 150 (.ext 2) [.t 144],oo 24 (.alloc [v0,vn,vn]) [],ou (.st 3) [.t 24,.t 148],ma 25 149,ma 26 150]
 (sr [ca 151 zgm [],ma 152 151,mg 153 26 152,og 154 (.bin .eql) [.t 153,ki 15] 152,oo 155 .pick [.t 152,.t 154,.c (.bool false)],ma 6 155]
 .ret))))))))))⟩
def zqI : AFun:=⟨102,[(0,none)],
 (sr [oo 0 .mv [.c (.bool false)]]
 (sr [ca 12 zjp [],ma 11 12,oo 13 (.ext 0) [.t 11],oo 14 (.ext 1) [.t 11],oo 1 (.alloc [v0,vn,vn]) [],oo 2 (.alloc [vn,vn,v0]) [],ou (.st 3) [.t 1,.t 13],ou (.st 3) [.t 2,.t 14]]
 (sr [oo 16 (.ld true 3) [.t 1],oo 17 (.ld true 3) [.t 2],ca 18 zfG [.t 16,.t 17,ki 1,ki 10],ma 15 18,oo 19 (.ext 0) [.t 15],oo 20 (.ext 1) [.t 15],oo 21 (.ext 2) [.t 15],ma 3 19,ma 4 20,ma 5 21]
 (sr [oo 23 (.ld true 3) [.t 1],oo 24 (.ld true 3) [.t 2],ca 25 zdu [.t 23,.t 24,ki 1,ki 2],ma 22 25,oo 26 (.ext 0) [.t 22],oo 27 (.ext 1) [.t 22],oo 28 (.ext 2) [.t 22],oo 6 (.alloc [v0,vn,vn]) [],ou (.st 3) [.t 6,.t 26],ma 7 27,ma 8 28]
 (sr [oo 30 (.ld true 3) [.t 1],oo 31 (.ld true 3) [.t 2],ca 32 zdI [.t 30,.t 31,(.c (.string ⟨#[115]⟩)),ki 3,ki 1],ma 29 32,oo 33 (.ext 0) [.t 29],oo 34 (.ext 1) [.t 29],ma 9 33,ma 10 34]
 (sr [ma 35 5,oo 36 (.bin .eql) [.t 35,ki 0],ma 37 36,mg 38 8 37,og 39 (.bin .eql) [.t 38,ki 0] 37,oo 40 .pick [.t 37,.t 39,.c (.bool false)],ma 41 40,mg 42 10 41,og 43 (.bin .eql) [.t 42,ki 0] 41,oo 44 .pick [.t 41,.t 43,.c (.bool false)],ma 45 44,mg 46 3 45,og 47 (.bin .eql) [.t 46,ki 3] 45,oo 48 .pick [.t 45,.t 47,.c (.bool false)],ma 49 48,mg 50 4 49,og 51 (.bin .eql) [.t 50,ki 0] 49,oo 52 .pick [.t 49,.t 51,.c (.bool false)],ma 53 52,mg 54 7 53,og 55 .len [.t 54] 53,og 56 (.bin .eql) [.t 55,ki 2] 53,oo 57 .pick [.t 53,.t 56,.c (.bool false)],ma 58 57,mg 59 7 58,og 60 (.iad 1) [.t 59,ki 0] 58,lg 61 60 58,og 62 (.bin .eql) [.t 61,ki 2] 58,oo 63 .pick [.t 58,.t 62,.c (.bool false)],ma 64 63,fg 65 1 6 64,lg 66 65 64,og 67 .len [.t 66] 64,og 68 (.bin .eql) [.t 67,ki 7] 64,oo 69 .pick [.t 64,.t 68,.c (.bool false)],ma 70 69,mg 71 9 70,og 72 .len [.t 71] 70,og 73 (.bin .eql) [.t 72,ki 2] 70,oo 74 .pick [.t 70,.t 73,.c (.bool false)],ma 75 74,mg 76 9 75,og 77 (.iad 6) [.t 76,ki 0] 75,fg 78 0 77 75,lg 79 78 75,og 80 (.bin .eql) [.t 79,ki 0] 75,oo 81 .pick [.t 75,.t 80,.c (.bool false)],ma 82 81,mg 83 9 82,og 84 (.iad 6) [.t 83,ki 0] 82,fg 85 5 84 82,lg 86 85 82,oo 87 .pick [.t 82,.t 86,.c (.bool false)],ma 88 87,mg 89 9 88,og 90 (.iad 6) [.t 89,ki 1] 88,fg 91 1 90 88,lg 92 91 88,og 93 (.bin .eql) [.t 92,ki 1] 88,oo 94 .pick [.t 88,.t 93,.c (.bool false)],ma 95 94,mg 96 9 95,og 97 (.iad 6) [.t 96,ki 1] 95,fg 98 2 97 95,lg 99 98 95,og 100 (.bin .eql) [.t 99,ki 1] 95,oo 101 .pick [.t 95,.t 100,.c (.bool false)],ma 0 101]
 .ret))))))⟩
def zkO : AFun:=⟨50,[(4,some (true,3))],
 (sr [oo 3 (.box 3) [.t 1],oo 4 (.alloc [vn,vn,v0]) []]
 (sr [ma 8 0,fa 9 0 3,la 10 9,ca 11 zaz [.t 8,.t 10],oo 12 (.bsl 1 1 [v0] [0]) [.t 11],ma 13 0,oo 14 (.bsl 1 4 [v0] [0,1,2,3]) [ki 1,ki 1,ki 2,ki 3],ca 15 zer [.t 13,.t 14],oo 16 (.build [vn,vn,v0] [(0,1),(2,1)]) [.t 12,.t 15],oo 5 (.alloc [vn,vn,v0]) [],ou (.st 3) [.t 5,.t 16]]
 (.seq (.seq
 (rg [ma 17 0,ca 18 zdG [.t 17,ki 3]])
 (.cond (.t 18)
 (.reg true [fa 19 0 5,la 20 19,ma 21 0,fa 22 0 3,la 23 22,ca 24 zaz [.t 21,.t 23],ca 25 zgV [.t 20,.t 24],fa 26 0 5,ou (.st 1) [.t 26,.t 25]] [[],[0],[],[],[3],[2,4],[1,5,5],[0,1,2,3,4,5,6],[7,6,6,0,1,2,3,4,5,6]])
 .skip))
 (sr [ma 27 0,oo 28 (.bsl 1 5 [v0] [0,1,2,3,4]) [ki 3,ki 2,ki 1,ki 6,ki 0],ca 29 zer [.t 27,.t 28],oo 30 (.bin .add) [ki 1,.t 29],ma 6 30]
 (.seq (.seq
 (rg [ma 31 0,ca 32 zaz [.t 31,ki 4],oo 33 (.bin .add) [ki 1,.t 32],ma 7 33])
 (.block 0 (.loop
 (.seq (.seq
 (rg [ma 34 7,oo 35 (.bin .gtr) [.t 34,ki 0]])
 (.cond (.t 35)
 .skip
 (.exit 0)))
 (.seq (.block 1 (sr [fa 38 1 5,la 39 38,ma 40 6,oo 41 (.bsl 1 1 [v0] [0]) [.t 40],oo 42 (.app 1 8) [.t 39,.t 41],fa 43 1 5,ou (.st 1) [.t 43,.t 42]]
 (rg [ma 44 6,ma 45 0,ca 46 zaz [.t 45,ki 3],oo 47 (.bin .sub) [.t 44,.t 46],oo 48 .mx2 [ki 1,.t 47],ma 6 48])))
 (rg [ma 36 7,oo 37 (.bin .sub) [.t 36,ki 1],ma 7 37]))))))
 (sr [oo 49 (.ld true 3) [.t 5],ou (.st 3) [.t 4,.t 49]]
 .ret))))))⟩
def zjc : AFun:=⟨115,[(10,none),(11,none)],
 (sr [oo 5 (.box 3) [.t 0],oo 6 (.box 3) [.t 1],oo 10 .mv [kn],oo 11 .mv [ki 0]]
 (sr [oo 24 (.ld true 3) [.t 5],oo 25 (.ld true 3) [.t 6],ca 26 zd0 [.t 24,.t 25],ma 23 26,oo 27 (.ext 0) [.t 23],oo 28 (.ext 1) [.t 23],oo 12 (.alloc [vn,vn,vn]) [],ou (.st 3) [.t 12,.t 27],ma 13 28]
 (.seq (.block 0 (sr [ma 30 13,oo 31 (.bin .neq) [.t 30,ki 0],ma 29 31]
 (.cond (.t 29)
 (sr [ma 32 13,oo 10 .mv [kn],ma 11 32]
 .ret)
 (sr [ma 34 3,ca 35 zaF [.t 34,ki 1,ki 100],oo 36 (.un .not) [.t 35],ma 37 36,mh 38 4 37,oh 39 .call [.f zaF,.t 38,ki 1,ki 5] 37,oh 40 (.un .not) [.t 39] 37,oo 41 .pick [.t 37,.c (.bool true),.t 40],ma 33 41]
 (.cond (.t 33)
 (sr [oo 10 .mv [kn],oo 11 .mv [ki 2]]
 .ret)
 .skip)))))
 (sr [oo 42 (.ld true 3) [.t 5],fa 43 2 6,la 44 43,ca 45 zbV [.t 42,.t 44],oo 14 (.alloc [v0,vn,vn]) [],ou (.st 3) [.t 14,.t 45]]
 (sr [oo 46 (.ld true 3) [.t 14],fa 47 0 6,la 48 47,ca 49 zcU [.t 46,.t 48],ma 15 49]
 (sr [oo 51 (.ld true 3) [.t 5],oo 52 (.ld true 3) [.t 6],ma 53 4,ca 54 zbq [.t 51,.t 52,.t 53],ma 50 54,oo 55 (.ext 0) [.t 50],oo 56 (.ext 1) [.t 50],ma 16 55,ma 13 56]
 (.seq (.seq
 (rg [ma 57 13,oo 58 (.bin .neq) [.t 57,ki 0]])
 (.cond (.t 58)
 (rg [fa 59 0 5,la 60 59,oo 61 (.mks 1 8 [v0]) [.t 60,.t 60],ma 16 61])
 .skip))
 (sr [fa 62 0 5,la 63 62,oo 64 (.mkf zeU) [.t 12],ca 65 zbt [.t 63,.t 64],ma 17 65]
 (sr [oo 18 .mv [kn]]
 (sr [oo 66 (.ld true 3) [.t 14],fa 67 0 6,la 68 67,ca 69 zcg [.t 66,.t 68],ma 19 69]
 (.seq (.seq
 (rg [ma 70 19,oo 71 .len [.t 70],oo 72 .mv [ki 0]])
 (.block 1 (.loop
 (sr [oo 73 (.bin .lss) [.t 72,.t 71]]
 (.seq (.cond (.t 73)
 .skip
 (.exit 1))
 (.seq (.block 2 (sr [oo 74 (.iad 1) [.t 70,.t 72],la 75 74,ma 21 75]
 (.seq (.reg true [ma 76 21,ma 77 15,ma 78 21,oo 79 (.iad 1) [.t 77,.t 78],la 80 79,oo 81 (.ld true 3) [.t 5],ma 82 2,ma 83 21,ma 84 3,ma 85 17,ca 86 zbj [.t 81,.t 82,.t 83,.t 84,.t 85],ma 87 16,ma 88 21,oo 89 (.iad 1) [.t 87,.t 88],la 90 89,oo 91 (.ld true 3) [.t 12],ma 92 21,ca 93 zbT [.t 91,.t 92],oo 94 (.build [v0,v0,v0,v0,v0,(.bool false)] [(0,1),(1,1),(3,1),(4,1),(5,1)]) [.t 76,.t 80,.t 86,.t 90,.t 93],oo 22 (.alloc [v0,v0,v0,v0,v0,(.bool false)]) [],ou (.st 6) [.t 22,.t 94]] [[],[],[],[1,2],[3],[],[],[],[],[],[5,6,7,8,9],[],[],[11,12],[13],[],[],[15,16,10],[0,4,10,14,17],[],[19,18,17,0,1,2,3,4,5,6,7,8,9,10,11,12,13,14,15,16,17,18,19]])
 (.seq (.seq
 (rg [ma 95 21,ma 96 19,oo 97 (.iad 1) [.t 96,ki 0],la 98 97,oo 99 (.bin .neq) [.t 95,.t 98]])
 (.cond (.t 99)
 (.reg true [oo 100 (.ld true 3) [.t 5],fa 101 2 6,la 102 101,ma 103 19,oo 104 (.iad 1) [.t 103,ki 0],la 105 104,ma 106 21,ca 107 zd5 [.t 100,.t 102,.t 105,.t 106],fa 108 2 22,ou (.st 1) [.t 108,.t 107]] [[],[],[1],[],[3],[4],[],[0,2,5,6],[0,1,2,3,4,5,6,7],[8,7,7,0,1,2,3,4,5,6,7]])
 .skip))
 (rg [ma 109 18,oo 110 (.ld true 6) [.t 22],oo 111 (.bsl 6 1 [v0,v0,v0,v0,v0,(.bool false)] [0]) [.t 110],oo 112 (.app 6 48) [.t 109,.t 111],ma 18 112])))))
 (rg [oo 113 (.bin .add) [.t 72,ki 1],ma 72 113])))))))
 (sr [ma 114 18,ma 10 114,oo 11 .mv [ki 0]]
 .ret))))))))))))⟩
def zoC : AFun:=⟨96,[(8,some (true,3)),(9,none),(10,none)],
 (sr [oo 4 (.box 3) [.t 0],oo 5 (.box 3) [.t 1],oo 6 (.box 1) [.t 2],oo 8 (.alloc [v0,vn,vn]) [],oo 9 .mv [kn],oo 10 .mv [ki 0]]
 (.seq (.seq
 (rg [oo 17 (.ld true 3) [.t 4],oo 18 (.ld true 3) [.t 5],ca 19 zbU [.t 17,.t 18],ma 11 19])
 (.block 0 (sr [ma 21 11,oo 22 (.bin .neq) [.t 21,ki 0],ma 20 22]
 (.cond (.t 20)
 (sr [oo 23 (.build [v0,vn,vn] []) [],ma 24 11,ou (.st 3) [.t 8,.t 23],oo 9 .mv [kn],ma 10 24]
 .ret)
 (sr [la 26 6,fa 27 0 4,la 28 27,oo 29 (.bin .sub) [.t 28,ki 1],ca 30 zaF [.t 26,ki 0,.t 29],oo 31 (.un .not) [.t 30],ma 32 31,fh 33 2 4 32,lh 34 33 32,lh 35 6 32,oh 36 .call [.f zam,.t 34,.t 35] 32,oo 37 .pick [.t 32,.c (.bool true),.t 36],ma 25 37]
 (.cond (.t 25)
 (sr [oo 38 (.build [v0,vn,vn] []) [],ou (.st 3) [.t 8,.t 38],oo 9 .mv [kn],oo 10 .mv [ki 4]]
 .ret)
 (sr [ma 40 3,oo 41 (.bin .lss) [.t 40,ki 1],ma 39 41]
 (.cond (.t 39)
 (sr [oo 42 (.build [v0,vn,vn] []) [],ou (.st 3) [.t 8,.t 42],oo 9 .mv [kn],oo 10 .mv [ki 2]]
 .ret)
 .skip))))))))
 (sr [fa 43 0 4,la 44 43,oo 45 (.mkf zdT) [.t 4,.t 5,.t 6],ca 46 zbt [.t 44,.t 45],ma 12 46]
 (.seq (.seq
 (rg [ma 47 12,oo 48 .len [.t 47],ma 49 3,oo 50 (.bin .lss) [.t 48,.t 49]])
 (.cond (.t 50)
 (sr [oo 51 (.build [v0,vn,vn] []) [],ou (.st 3) [.t 8,.t 51],oo 9 .mv [kn],oo 10 .mv [ki 3]]
 .ret)
 .skip))
 (sr [ma 52 12,ma 53 3,oo 54 (.slc 1 false true false) [.t 52,.t 53],ma 12 54]
 (sr [oo 55 (.ld true 3) [.t 4],ca 56 zbV [.t 55,ki 0],oo 13 (.alloc [v0,vn,vn]) [],ou (.st 3) [.t 13,.t 56]]
 (sr [oo 57 (.mkf za3) [.t 13],ma 14 57]
 (.seq (.seq
 (rg [ma 58 12,oo 59 .len [.t 58],oo 60 .mv [ki 0]])
 (.block 1 (.loop
 (sr [oo 61 (.bin .lss) [.t 60,.t 59]]
 (.seq (.cond (.t 61)
 .skip
 (.exit 1))
 (.seq (.block 2 (sr [ma 62 60,oo 63 (.iad 1) [.t 58,.t 60],la 64 63,ma 15 62,ma 16 64]
 (sr [ma 65 14,la 66 6,ma 67 16,oo 68 .call [.t 65,.t 66,.t 67]]
 (sr [ma 69 14,ma 70 16,la 71 6,oo 72 .call [.t 69,.t 70,.t 71]]
 (sr [ma 73 3,oo 74 (.bin .gtr) [.t 73,ki 1]]
 (.cond (.t 74)
 (rg [ma 75 14,ma 76 16,ma 77 12,ma 78 15,oo 79 (.bin .add) [.t 78,ki 1],ma 80 3,oo 81 (.bin .rem) [.t 79,.t 80],oo 82 (.iad 1) [.t 77,.t 81],la 83 82,oo 84 .call [.t 75,.t 76,.t 83]])
 .skip))))))
 (rg [oo 85 (.bin .add) [.t 60,ki 1],ma 60 85])))))))
 (.seq (.seq
 (rg [fa 86 1 13,la 87 86,oo 88 .len [.t 87],oo 89 (.bin .gtr) [.t 88,ki 500]])
 (.cond (.t 89)
 (sr [oo 90 (.build [v0,vn,vn] []) [],ou (.st 3) [.t 8,.t 90],oo 9 .mv [kn],oo 10 .mv [ki 3]]
 .ret)
 .skip))
 (sr [fa 91 1 13,la 92 91,ca 93 zbr [.t 92,(.f zfq)]]
 (sr [oo 94 (.ld true 3) [.t 13],ma 95 12,ou (.st 3) [.t 8,.t 94],ma 9 95,oo 10 .mv [ki 0]]
 .ret)))))))))))⟩
def zrq : AFun:=⟨176,[(8,some (true,3)),(9,none),(10,none)],
 (sr [oo 4 (.box 3) [.t 0],oo 5 (.box 3) [.t 1],oo 8 (.alloc [v0,vn,vn]) [],oo 9 .mv [kn],oo 10 .mv [ki 0]]
 (.seq (.seq
 (rg [oo 22 (.ld true 3) [.t 4],oo 23 (.ld true 3) [.t 5],ca 24 zeh [.t 22,.t 23],ma 11 24])
 (sr [ma 25 11,oo 26 (.bin .neq) [.t 25,ki 0]]
 (.cond (.t 26)
 (sr [oo 27 (.build [v0,vn,vn] []) [],ma 28 11,ou (.st 3) [.t 8,.t 27],oo 9 .mv [kn],ma 10 28]
 .ret)
 .skip)))
 (.seq (.seq
 (rg [ma 29 2,oo 30 (.bin .lss) [.t 29,ki 0],ma 31 30,mh 32 2 31,fh 33 0 4 31,lh 34 33 31,oh 35 (.bin .geq) [.t 32,.t 34] 31,oo 36 .pick [.t 31,.c (.bool true),.t 35],ma 37 36,fh 38 2 4 37,lh 39 38 37,mh 40 2 37,oh 41 .call [.f zbs,.t 39,.t 40] 37,oo 42 .pick [.t 37,.c (.bool true),.t 41]])
 (.cond (.t 42)
 (sr [oo 43 (.build [v0,vn,vn] []) [],ou (.st 3) [.t 8,.t 43],oo 9 .mv [kn],oo 10 .mv [ki 4]]
 .ret)
 .skip))
 (.seq (.seq
 (rg [ma 44 3,oo 45 (.bin .lss) [.t 44,ki 1]])
 (.cond (.t 45)
 (sr [oo 46 (.build [v0,vn,vn] []) [],ou (.st 3) [.t 8,.t 46],oo 9 .mv [kn],oo 10 .mv [ki 2]]
 .ret)
 .skip))
 (sr [oo 12 .mv [kn]]
 (.seq (.seq
 (rg [oo 13 .mv [ki 0]])
 (.block 0 (.loop
 (.seq (.seq
 (rg [ma 47 13,fa 48 0 4,la 49 48,oo 50 (.bin .lss) [.t 47,.t 49],ma 51 50,mg 52 12 51,og 53 .len [.t 52] 51,mg 54 3 51,og 55 (.bin .lss) [.t 53,.t 54] 51,oo 56 .pick [.t 51,.t 55,.c (.bool false)]])
 (.cond (.t 56)
 .skip
 (.exit 0)))
 (.seq (.block 1 (sr [ma 59 13,ma 60 2,oo 61 (.bin .eql) [.t 59,.t 60],ma 62 61,fh 63 2 4 62,lh 64 63 62,mh 65 13 62,oh 66 .call [.f zbs,.t 64,.t 65] 62,oo 67 .pick [.t 62,.c (.bool true),.t 66],ma 68 67,fh 69 0 5 68,lh 70 69 68,mh 71 13 68,oh 72 .call [.f zbs,.t 70,.t 71] 68,oo 73 .pick [.t 68,.c (.bool true),.t 72],ma 14 73]
 (.seq (.seq
 (rg [oo 15 .mv [ki 0]])
 (.block 2 (.loop
 (.seq (.seq
 (rg [ma 74 15,fa 75 1 4,la 76 75,oo 77 .len [.t 76],oo 78 (.bin .lss) [.t 74,.t 77]])
 (.cond (.t 78)
 .skip
 (.exit 2)))
 (.seq (.block 3 (rg [ma 81 14,ma 82 81,fh 83 1 4 82,lh 84 83 82,mh 85 15 82,oh 86 (.iad 3) [.t 84,.t 85] 82,fh 87 0 86 82,lh 88 87 82,mh 89 13 82,oh 90 (.bin .eql) [.t 88,.t 89] 82,oo 91 .pick [.t 82,.c (.bool true),.t 90],ma 92 91,fh 93 1 4 92,lh 94 93 92,mh 95 15 92,oh 96 (.iad 3) [.t 94,.t 95] 92,fh 97 1 96 92,lh 98 97 92,mh 99 13 92,oh 100 (.bin .eql) [.t 98,.t 99] 92,oo 101 .pick [.t 92,.c (.bool true),.t 100],ma 14 101]))
 (rg [ma 79 15,oo 80 (.bin .add) [.t 79,ki 1],ma 15 80]))))))
 (sr [ma 102 14,oo 103 (.un .not) [.t 102]]
 (.cond (.t 103)
 (rg [ma 104 12,ma 105 13,oo 106 (.bsl 1 1 [v0] [0]) [.t 105],oo 107 (.app 1 8) [.t 104,.t 106],ma 12 107])
 .skip)))))
 (rg [ma 57 13,oo 58 (.bin .add) [.t 57,ki 1],ma 13 58]))))))
 (.seq (.seq
 (rg [ma 108 12,oo 109 .len [.t 108],ma 110 3,oo 111 (.bin .lss) [.t 109,.t 110]])
 (.cond (.t 111)
 (sr [oo 112 (.build [v0,vn,vn] []) [],ou (.st 3) [.t 8,.t 112],oo 9 .mv [kn],oo 10 .mv [ki 3]]
 .ret)
 .skip))
 (sr [oo 16 .mv [kn]]
 (.seq (.seq
 (rg [oo 17 .mv [ki 0]])
 (.block 4 (.loop
 (.seq (.seq
 (rg [ma 113 17,ma 114 3,oo 115 (.bin .lss) [.t 113,.t 114]])
 (.cond (.t 115)
 .skip
 (.exit 4)))
 (.seq (.block 5 (sr [ma 118 16,ma 119 2,ma 120 12,ma 121 17,oo 122 (.iad 1) [.t 120,.t 121],la 123 122,oo 124 (.build [v0,v0,v0] [(0,1),(1,1),(2,1)]) [.t 119,.t 123,ki 3],oo 125 (.bsl 3 1 [v0,v0,v0] [0]) [.t 124],oo 126 (.app 3 24) [.t 118,.t 125],ma 16 126]
 (.seq (.seq
 (rg [ma 127 3,oo 128 (.bin .gtr) [.t 127,ki 1]])
 (.cond (.t 128)
 (.reg true [ma 129 16,ma 130 12,ma 131 17,oo 132 (.iad 1) [.t 130,.t 131],la 133 132,ma 134 12,ma 135 17,oo 136 (.bin .add) [.t 135,ki 1],ma 137 3,oo 138 (.bin .rem) [.t 136,.t 137],oo 139 (.iad 1) [.t 134,.t 138],la 140 139,oo 141 (.build [v0,v0,v0] [(0,1),(1,1),(2,1)]) [.t 133,.t 140,ki 3],oo 142 (.bsl 3 1 [v0,v0,v0] [0]) [.t 141],oo 143 (.app 3 24) [.t 129,.t 142],ma 16 143] [[],[],[],[1,2],[3],[],[],[6],[],[7,8],[5,9],[10],[4,11],[12],[0,13],[14,14,0,1,2,3,4,5,6,7,8,9,10,11,12,13,14]])
 .skip))
 (rg [ma 144 16,ma 145 12,ma 146 17,oo 147 (.iad 1) [.t 145,.t 146],la 148 147,ma 149 2,oo 150 (.build [v0,v0,v0] [(0,1),(1,1),(2,1)]) [.t 148,.t 149,ki 3],oo 151 (.bsl 3 1 [v0,v0,v0] [0]) [.t 150],oo 152 (.app 3 24) [.t 144,.t 151],ma 16 152]))))
 (rg [ma 116 17,oo 117 (.bin .add) [.t 116,ki 1],ma 17 117]))))))
 (sr [oo 153 (.ld true 3) [.t 4],ca 154 zfT [.t 153],oo 18 (.alloc [v0,vn,vn]) [],ou (.st 3) [.t 18,.t 154]]
 (.seq (.seq
 (rg [oo 19 .mv [ki 0]])
 (.block 6 (.loop
 (.seq (.seq
 (rg [ma 155 19,ma 156 16,oo 157 .len [.t 156],oo 158 (.bin .lss) [.t 155,.t 157]])
 (.cond (.t 158)
 .skip
 (.exit 6)))
 (.seq (.block 7 (.seq (.reg true [oo 162 (.ld true 3) [.t 18],ma 163 16,ma 164 19,oo 165 (.iad 3) [.t 163,.t 164],oo 166 (.ld true 3) [.t 165],ca 167 zhA [.t 162,.t 166],ma 161 167,oo 168 (.ext 0) [.t 161],oo 169 (.ext 1) [.t 161],oo 20 (.alloc [v0,vn,vn]) [],ou (.st 3) [.t 20,.t 168],ma 21 169] [[],[],[],[1,2],[3],[0,4],[5],[6],[6],[],[9,7,5,0,1,2,3,4,5,6,7,9],[8,10,0,1,2,3,4,5,6,7,8,9,10]])
 (.seq (.seq
 (rg [ma 170 21,oo 171 (.bin .neq) [.t 170,ki 0]])
 (.cond (.t 171)
 (sr [oo 172 (.build [v0,vn,vn] []) [],ou (.st 3) [.t 8,.t 172],oo 9 .mv [kn],oo 10 .mv [ki 3]]
 .ret)
 .skip))
 (rg [oo 173 (.ld true 3) [.t 20],ou (.st 3) [.t 18,.t 173]]))))
 (rg [ma 159 19,oo 160 (.bin .add) [.t 159,ki 1],ma 19 160]))))))
 (sr [oo 174 (.ld true 3) [.t 18],ma 175 12,ou (.st 3) [.t 8,.t 174],ma 9 175,oo 10 .mv [ki 0]]
 .ret))))))))))))⟩
def zpt : AFun:=⟨56,[(8,none),(9,none),(10,none)],
 (sr [oo 4 (.box 3) [.t 0],oo 5 (.box 3) [.t 1],oo 8 .mv [ki 0],oo 9 .mv [ki 0],oo 10 .mv [ki 0]]
 (sr [oo 21 (.ld true 3) [.t 4],oo 22 (.ld true 3) [.t 5],ma 23 2,ma 24 3,ca 25 zdu [.t 21,.t 22,.t 23,.t 24],ma 20 25,oo 26 (.ext 0) [.t 20],oo 27 (.ext 1) [.t 20],oo 28 (.ext 2) [.t 20],oo 11 (.alloc [v0,vn,vn]) [],oo 12 (.alloc [vn]) [],ou (.st 3) [.t 11,.t 26],ou (.st 1) [.t 12,.t 27],ma 13 28]
 (.seq (.seq
 (rg [ma 29 13,oo 30 (.bin .neq) [.t 29,ki 0]])
 (.cond (.t 30)
 (sr [ma 31 13,oo 8 .mv [ki 0],oo 9 .mv [ki 0],ma 10 31]
 .ret)
 .skip))
 (sr [oo 33 (.ld true 3) [.t 4],oo 34 (.ld true 3) [.t 5],ca 35 zd0 [.t 33,.t 34],ma 32 35,oo 36 (.ext 0) [.t 32],oo 37 (.ext 1) [.t 32],oo 14 (.alloc [vn,vn,vn]) [],ou (.st 3) [.t 14,.t 36],ma 15 37]
 (sr [oo 39 (.ld true 3) [.t 11],oo 40 (.ld true 3) [.t 5],ca 41 zd0 [.t 39,.t 40],ma 38 41,oo 42 (.ext 0) [.t 38],oo 43 (.ext 1) [.t 38],oo 16 (.alloc [vn,vn,vn]) [],ou (.st 3) [.t 16,.t 42],ma 17 43]
 (sr [fa 44 0 4,la 45 44,oo 46 (.mkf zdY) [.t 12,.t 16],ca 47 zbt [.t 45,.t 46],ma 18 47]
 (sr [fa 48 0 4,la 49 48,oo 50 (.mkf zdW) [.t 14,.t 16],ca 51 zbt [.t 49,.t 50],ma 19 51]
 (sr [ma 52 18,oo 53 .len [.t 52],ma 54 19,oo 55 .len [.t 54],ma 8 53,ma 9 55,oo 10 .mv [ki 0]]
 .ret))))))))⟩
def zr8 : AFun:=⟨81,[(8,none),(9,none),(10,none)],
 (sr [oo 4 (.box 3) [.t 0],oo 5 (.box 3) [.t 1],oo 8 .mv [ki 0],oo 9 .mv [ki 0],oo 10 .mv [ki 0]]
 (sr [oo 23 (.ld true 3) [.t 4],oo 24 (.ld true 3) [.t 5],ma 25 2,ma 26 3,ca 27 zg7 [.t 23,.t 24,.t 25,.t 26],ma 22 27,oo 28 (.ext 0) [.t 22],oo 29 (.ext 1) [.t 22],oo 30 (.ext 2) [.t 22],oo 11 (.alloc [v0,vn,vn]) [],ou (.st 3) [.t 11,.t 28],ma 12 29,ma 13 30]
 (.seq (.seq
 (rg [ma 31 13,oo 32 (.bin .neq) [.t 31,ki 0]])
 (.cond (.t 32)
 (sr [ma 33 13,oo 8 .mv [ki 0],oo 9 .mv [ki 0],ma 10 33]
 .ret)
 .skip))
 (sr [oo 35 (.ld true 3) [.t 4],oo 36 (.ld true 3) [.t 5],ca 37 ziJ [.t 35,.t 36],ma 34 37,oo 38 (.ext 0) [.t 34],oo 39 (.ext 1) [.t 34],oo 14 (.alloc [vn,vn,vn]) [],ou (.st 3) [.t 14,.t 38],ma 15 39]
 (sr [oo 41 (.ld true 3) [.t 11],oo 42 (.ld true 3) [.t 5],ca 43 ziJ [.t 41,.t 42],ma 40 43,oo 44 (.ext 0) [.t 40],oo 45 (.ext 1) [.t 40],oo 16 (.alloc [vn,vn,vn]) [],ou (.st 3) [.t 16,.t 44],ma 17 45]
 (sr [oo 18 .mv [ki 0],oo 19 .mv [ki 0]]
 (.seq (.seq
 (rg [oo 20 .mv [ki 0]])
 (.block 0 (.loop
 (.seq (.seq
 (rg [ma 46 20,ma 47 12,oo 48 .len [.t 47],oo 49 (.bin .lss) [.t 46,.t 48]])
 (.cond (.t 49)
 .skip
 (.exit 0)))
 (.seq (.block 1 (.seq (.reg true [fa 52 0 16,la 53 52,ma 54 12,ma 55 20,oo 56 (.iad 1) [.t 54,.t 55],la 57 56,ca 58 zbs [.t 53,.t 57]] [[],[0],[],[],[2,3],[4],[1,5]])
 (.cond (.t 58)
 (rg [ma 59 18,oo 60 (.bin .add) [.t 59,ki 1],ma 18 60])
 .skip)))
 (rg [ma 50 20,oo 51 (.bin .add) [.t 50,ki 1],ma 20 51]))))))
 (.seq (.seq
 (rg [oo 21 .mv [ki 0]])
 (.block 2 (.loop
 (.seq (.seq
 (rg [ma 61 21,fa 62 0 14,la 63 62,oo 64 .len [.t 63],oo 65 (.bin .lss) [.t 61,.t 64]])
 (.cond (.t 65)
 .skip
 (.exit 2)))
 (.seq (.block 3 (.seq (.reg true [fa 68 0 16,la 69 68,fa 70 0 14,la 71 70,ma 72 21,oo 73 (.iad 1) [.t 71,.t 72],la 74 73,ca 75 zbs [.t 69,.t 74],oo 76 (.un .not) [.t 75]] [[],[0],[],[2],[],[3,4],[5],[1,6],[7]])
 (.cond (.t 76)
 (rg [ma 77 19,oo 78 (.bin .add) [.t 77,ki 1],ma 19 78])
 .skip)))
 (rg [ma 66 21,oo 67 (.bin .add) [.t 66,ki 1],ma 21 67]))))))
 (sr [ma 79 18,ma 80 19,ma 8 79,ma 9 80,oo 10 .mv [ki 0]]
 .ret)))))))))⟩
def zud : AFun:=⟨84,[(4,some (true,3)),(5,none)],
 (sr [oo 2 (.box 3) [.t 0],oo 3 (.box 3) [.t 1],oo 4 (.alloc [vn,vn,vn]) [],oo 5 .mv [ki 0]]
 (.seq (.seq
 (rg [oo 17 (.ld true 3) [.t 2],oo 18 (.ld true 3) [.t 3],ca 19 zeh [.t 17,.t 18],ma 6 19])
 (sr [ma 20 6,oo 21 (.bin .neq) [.t 20,ki 0]]
 (.cond (.t 21)
 (sr [oo 22 (.build [vn,vn,vn] []) [],ma 23 6,ou (.st 3) [.t 4,.t 22],ma 5 23]
 .ret)
 .skip)))
 (sr [oo 7 (.alloc [vn,vn,vn]) []]
 (sr [oo 8 .mv [kn]]
 (.seq (.reg true [oo 24 (.ld true 3) [.t 2],fa 25 2 3,la 26 25,ca 27 ze9 [.t 24,.t 26],fa 28 0 3,la 29 28,ca 30 zih [.t 27,.t 29],ma 9 30] [[],[],[1],[0,2],[],[4],[3,5,3],[6,6,0,1,2,3,4,5,6]])
 (.seq (.seq
 (rg [oo 10 .mv [ki 0]])
 (.block 0 (.loop
 (.seq (.seq
 (rg [ma 31 10,ma 32 9,oo 33 .len [.t 32],oo 34 (.bin .lss) [.t 31,.t 33]])
 (.cond (.t 34)
 .skip
 (.exit 0)))
 (.seq (.block 1 (sr [ma 37 9,ma 38 10,oo 39 (.iad 1) [.t 37,.t 38],la 40 39,ma 11 40]
 (.seq (.reg true [oo 42 (.ld true 3) [.t 2],oo 43 (.ld true 3) [.t 3],ma 44 8,ma 45 11,ca 46 zgV [.t 44,.t 45],ca 47 zfE [.t 42,.t 43,.t 46],ma 41 47,oo 48 (.ext 0) [.t 41],oo 49 (.ext 1) [.t 41],oo 50 (.ext 2) [.t 41],oo 12 (.alloc [v0,vn]) [],ou (.st 2) [.t 12,.t 48],ma 13 49,ma 14 50] [[],[],[],[],[2,3],[0,1,4,4],[5],[6],[6],[6],[],[10,7,5,0,1,2,3,4,5,6,7,10],[8,11,0,1,2,3,4,5,6,7,8,10,11],[9,12,0,1,2,3,4,5,6,7,8,9,10,11,12]])
 (.seq (.seq
 (rg [ma 51 14])
 (.cond (.t 51)
 (sr [fa 52 0 7,la 53 52,ma 54 11,oo 55 (.bsl 1 1 [v0] [0]) [.t 54],oo 56 (.app 1 8) [.t 53,.t 55],ma 57 8,ma 58 11,ca 59 zgV [.t 57,.t 58],fa 60 0 7,ou (.st 1) [.t 60,.t 56],ma 8 59]
 (.exit 1))
 .skip))
 (sr [oo 62 (.ld true 2) [.t 12],ca 63 zgN [.t 62],ma 61 63,oo 64 (.ext 0) [.t 61],oo 65 (.ext 1) [.t 61],ma 15 64,ma 16 65]
 (rg [fa 66 2 7,la 67 66,ma 68 11,ma 69 15,oo 70 (.build [v0,vn] [(0,1),(1,1)]) [.t 68,.t 69],oo 71 (.bsl 2 1 [v0,vn] [0]) [.t 70],oo 72 (.app 2 32) [.t 67,.t 71],fa 73 2 7,ou (.st 1) [.t 73,.t 72]]))))))
 (rg [ma 35 10,oo 36 (.bin .add) [.t 35,ki 1],ma 10 36]))))))
 (sr [oo 75 (.ld true 3) [.t 2],oo 76 (.ld true 3) [.t 3],ma 77 8,ca 78 zfE [.t 75,.t 76,.t 77],ma 74 78,oo 79 (.ext 0) [.t 74],oo 80 (.ext 1) [.t 74],oo 81 (.ext 2) [.t 74],fa 82 1 7,ou (.st 1) [.t 82,.t 80]]
 (sr [oo 83 (.ld true 3) [.t 7],ou (.st 3) [.t 4,.t 83],oo 5 .mv [ki 0]]
 .ret))))))))⟩
def ztR : AFun:=⟨31,[(4,none)],
 (sr [oo 2 (.box 3) [.t 0],oo 3 (.box 3) [.t 1],oo 4 .mv [kn]]
 (.seq (.reg true [oo 8 (.ld true 3) [.t 2],fa 9 2 3,la 10 9,ca 11 ze9 [.t 8,.t 10],fa 12 0 3,la 13 12,ca 14 zg4 [.t 11,.t 13],ma 5 14] [[],[],[1],[0,2],[],[4],[3,5,3],[6,6,0,1,2,3,4,5,6]])
 (sr [oo 6 .mv [kn]]
 (.seq (.seq
 (rg [oo 7 .mv [ki 0]])
 (.block 0 (.loop
 (.seq (.seq
 (rg [ma 15 7,ma 16 5,oo 17 .len [.t 16],oo 18 (.bin .lss) [.t 15,.t 17]])
 (.cond (.t 18)
 .skip
 (.exit 0)))
 (.seq (.block 1 (.reg true [ma 21 6,oo 22 (.ld true 3) [.t 3],ma 23 5,ma 24 7,oo 25 (.iad 1) [.t 23,.t 24],la 26 25,ca 27 zmm [.t 22,.t 26],oo 28 (.bsl 1 1 [v0] [0]) [.t 27],oo 29 (.app 1 8) [.t 21,.t 28],ma 6 29] [[],[],[],[],[2,3],[4],[1,5],[6],[0,7,6],[8,8,0,1,2,3,4,5,6,7,8]]))
 (rg [ma 19 7,oo 20 (.bin .add) [.t 19,ki 1],ma 7 20]))))))
 (sr [ma 30 6,ma 4 30]
 .ret)))))⟩
def zsn : AFun:=⟨8,[(0,some (true,3)),(1,some (true,3))],
 (sr [oo 0 (.alloc [v0,vn,vn]) [],oo 1 (.alloc [vn,vn,v0]) []]
 (sr [oo 2 (.build [v0,v0,v0] [(0,1),(1,1),(2,1)]) [ki 0,ki 1,ki 1],oo 3 (.bsl 3 1 [v0,v0,v0] [0]) [.t 2],oo 4 (.build [v0,vn,vn] [(0,1),(1,1)]) [ki 12,.t 3],oo 5 (.bsl 1 1 [v0] [0]) [ki 0],oo 6 (.bsl 1 2 [v0] [0,1]) [ki 5,ki 4],oo 7 (.build [vn,vn,v0] [(0,1),(1,1),(2,1)]) [.t 5,.t 6,ki 1],ou (.st 3) [.t 0,.t 4],ou (.st 3) [.t 1,.t 7]]
 .ret))⟩
def zsb : AFun:=⟨72,[(4,some (true,3)),(5,none)],
 (sr [oo 2 (.box 3) [.t 0],oo 3 (.box 3) [.t 1],oo 4 (.alloc [vn,vn,vn]) [],oo 5 .mv [ki 0]]
 (.seq (.seq
 (rg [oo 14 (.ld true 3) [.t 2],oo 15 (.ld true 3) [.t 3],ca 16 zbU [.t 14,.t 15],ma 6 16])
 (sr [ma 17 6,oo 18 (.bin .neq) [.t 17,ki 0]]
 (.cond (.t 18)
 (sr [oo 19 (.build [vn,vn,vn] []) [],ma 20 6,ou (.st 3) [.t 4,.t 19],ma 5 20]
 .ret)
 .skip)))
 (sr [oo 7 (.alloc [vn,vn,vn]) []]
 (.seq (.seq
 (rg [oo 21 (.ld true 3) [.t 2],oo 22 (.ld true 3) [.t 3],ca 23 zhq [.t 21,.t 22],oo 24 .len [.t 23],oo 25 .mv [ki 0]])
 (.block 0 (.loop
 (sr [oo 26 (.bin .lss) [.t 25,.t 24]]
 (.seq (.cond (.t 26)
 .skip
 (.exit 0))
 (.seq (.block 1 (sr [oo 27 (.iad 1) [.t 23,.t 25],la 28 27,ma 9 28]
 (sr [fa 29 0 7,la 30 29,ma 31 9,ca 32 zh8 [.t 30,.t 31],ma 10 32]
 (sr [oo 33 (.ld true 3) [.t 2],oo 34 (.ld true 3) [.t 3],ma 35 10,ca 36 zev [.t 33,.t 34,.t 35],oo 11 (.alloc [v0,vn]) [],ou (.st 2) [.t 11,.t 36]]
 (sr [oo 38 (.ld true 2) [.t 11],ma 39 10,oo 40 .len [.t 39],ca 41 zeE [.t 38,.t 40],ma 37 41,oo 42 (.ext 0) [.t 37],oo 43 (.ext 1) [.t 37],ma 12 42,ma 13 43]
 (.seq (.seq
 (rg [ma 44 13])
 (.cond (.t 44)
 (sr [ma 45 10,fa 46 0 7,ou (.st 1) [.t 46,.t 45]]
 (.exit 1))
 .skip))
 (.reg true [fa 47 2 7,la 48 47,ma 49 9,oo 50 (.ld true 2) [.t 11],ma 51 12,ca 52 zhj [.t 50,.t 51],oo 53 (.build [v0,vn] [(0,1),(1,1)]) [.t 49,.t 52],oo 54 (.bsl 2 1 [v0,vn] [0]) [.t 53],oo 55 (.app 2 32) [.t 48,.t 54],fa 56 2 7,ou (.st 1) [.t 56,.t 55]] [[],[0],[],[],[],[3,4],[2,5],[6],[1,7,5],[0,1,2,3,4,5,6,7,8],[9,8,8,0,1,2,3,4,5,6,7,8]])))))))
 (rg [oo 57 (.bin .add) [.t 25,ki 1],ma 25 57])))))))
 (.seq (.reg true [oo 59 (.ld true 3) [.t 2],oo 60 (.ld true 3) [.t 3],fa 61 0 7,la 62 61,ca 63 zev [.t 59,.t 60,.t 62],fa 64 0 7,la 65 64,oo 66 .len [.t 65],ca 67 zeE [.t 63,.t 66],ma 58 67,oo 68 (.ext 0) [.t 58],oo 69 (.ext 1) [.t 58],fa 70 1 7,ou (.st 1) [.t 70,.t 68]] [[],[],[],[2],[0,1,3],[],[5],[6],[4,7,4],[8],[9],[9],[0,1,2,3,4,5,6,7,8,9,10],[12,10,8,0,1,2,3,4,5,6,7,8,9,10]])
 (sr [oo 71 (.ld true 3) [.t 7],ou (.st 3) [.t 4,.t 71],oo 5 .mv [ki 0]]
 .ret))))))⟩
def zf8 : AFun:=⟨81,[(6,none),(7,none)],
 (sr [oo 3 (.box 3) [.t 0],oo 4 (.box 3) [.t 1],oo 6 .mv [kn],oo 7 .mv [ki 0]]
 (sr [oo 17 (.ld true 3) [.t 3],oo 18 (.ld true 3) [.t 4],ma 19 2,ca 20 zeS [.t 17,.t 18,.t 19],ma 16 20,oo 21 (.ext 0) [.t 16],oo 22 (.ext 1) [.t 16],oo 8 (.alloc [vn,vn]) [],ou (.st 2) [.t 8,.t 21],ma 9 22]
 (.seq (.block 0 (sr [ma 24 9,oo 25 (.bin .neq) [.t 24,ki 0],ma 23 25]
 (.cond (.t 23)
 (sr [ma 26 9,oo 6 .mv [kn],ma 7 26]
 .ret)
 (sr [fa 28 0 8,la 29 28,oo 30 .len [.t 29],oo 31 (.bin .eql) [.t 30,ki 0],ma 27 31]
 (.cond (.t 27)
 (sr [oo 6 .mv [kn],oo 7 .mv [ki 11]]
 .ret)
 (sr [fa 33 0 8,la 34 33,oo 35 .len [.t 34],oo 36 (.bin .gtr) [.t 35,ki 9],ma 32 36]
 (.cond (.t 32)
 (sr [oo 6 .mv [kn],oo 7 .mv [ki 3]]
 .ret)
 .skip)))))))
 (sr [fa 37 0 3,la 38 37,oo 39 (.mks 1 8 [v0]) [.t 38,.t 38],ma 10 39]
 (sr [oo 11 .mv [ki 0]]
 (.seq (.seq
 (rg [fa 40 0 8,la 41 40,oo 42 .len [.t 41],oo 43 .mv [ki 0]])
 (.block 1 (.loop
 (sr [oo 44 (.bin .lss) [.t 43,.t 42]]
 (.seq (.cond (.t 44)
 .skip
 (.exit 1))
 (.seq (.block 2 (sr [ma 45 43,oo 46 (.iad 1) [.t 41,.t 43],la 47 46,ma 12 45,ma 13 47]
 (.seq (.reg true [ma 48 10,ma 49 13,oo 50 (.ld true 2) [.t 8],ma 51 12,ca 52 zcB [.t 50,.t 51],oo 53 (.ld true 2) [.t 8],ma 54 12,ca 55 zdb [.t 53,.t 54],oo 56 (.bin .mul) [.t 52,.t 55],oo 57 (.iad 1) [.t 48,.t 49],ou (.st 1) [.t 57,.t 56]] [[],[],[],[],[2,3],[],[],[5,6,4],[4,7],[0,1,0,1,2,3,4,5,6,7,8],[9,8,7,0,1,2,3,4,5,6,7,8]])
 (rg [ma 58 11,ma 59 10,ma 60 13,oo 61 (.iad 1) [.t 59,.t 60],la 62 61,ca 63 zet [.t 58,.t 62],ma 11 63]))))
 (rg [oo 64 (.bin .add) [.t 43,ki 1],ma 43 64])))))))
 (.seq (.seq
 (rg [fa 65 0 8,la 66 65,oo 67 .len [.t 66],oo 68 .mv [ki 0]])
 (.block 3 (.loop
 (sr [oo 69 (.bin .lss) [.t 68,.t 67]]
 (.seq (.cond (.t 69)
 .skip
 (.exit 3))
 (.seq (.block 4 (sr [oo 70 (.iad 1) [.t 66,.t 68],la 71 70,ma 15 71]
 (rg [ma 72 10,ma 73 15,oo 74 (.iad 1) [.t 72,.t 73],la 75 74,ma 76 11,oo 77 (.bin .quo) [.t 75,.t 76],oo 78 (.iad 1) [.t 72,.t 73],ou (.st 1) [.t 78,.t 77]])))
 (rg [oo 79 (.bin .add) [.t 68,ki 1],ma 68 79])))))))
 (sr [ma 80 10,ma 6 80,oo 7 .mv [ki 0]]
 .ret))))))))⟩
def zgY : AFun:=⟨8,[(3,none)],
 (sr [oo 3 .mv [.c (.bool false)]]
 (sr [oo 4 (.ld true 3) [.t 1],ma 5 0,ca 6 zbT [.t 4,.t 5],oo 7 (.un .not) [.t 6],ma 3 7]
 .ret))⟩
def zhT : AFun:=⟨9,[(4,none)],
 (sr [oo 2 (.box 3) [.t 0],oo 4 .mv [.c (.bool false)]]
 (sr [fa 5 0 2,la 6 5,ma 7 1,ca 8 zam [.t 6,.t 7],ma 4 8]
 .ret))⟩
def zhR : AFun:=⟨35,[(10,none)],
 (sr [oo 5 (.box 3) [.t 0],oo 9 (.box 1) [.t 4],oo 10 .mv [ki 0]]
 (.seq (.seq
 (rg [ma 14 3,ca 15 zgI [.t 14],oo 16 (.un .not) [.t 15]])
 (.cond (.t 16)
 (sr [oo 10 .mv [ki 0]]
 .ret)
 .skip))
 (sr [oo 11 .mv [ki 0]]
 (.seq (.seq
 (rg [oo 17 (.ld true 3) [.t 5],ma 18 1,ca 19 zhl [.t 17,.t 18],ma 20 2,ma 21 3,ca 22 zes [.t 19,.t 20,.t 21],oo 23 .len [.t 22],oo 24 .mv [ki 0]])
 (.block 0 (.loop
 (sr [oo 25 (.bin .lss) [.t 24,.t 23]]
 (.seq (.cond (.t 25)
 .skip
 (.exit 0))
 (.seq (.block 1 (sr [oo 26 (.iad 1) [.t 22,.t 24],la 27 26,ma 13 27]
 (sr [ma 28 13,oo 29 (.mkf zel) [.t 9],ca 30 zaW [.t 28,.t 29]]
 (.cond (.t 30)
 (rg [ma 31 11,oo 32 (.bin .add) [.t 31,ki 1],ma 11 32])
 .skip))))
 (rg [oo 33 (.bin .add) [.t 24,ki 1],ma 24 33])))))))
 (sr [ma 34 11,ma 10 34]
 .ret)))))⟩
def zmp : AFun:=⟨31,[(8,none)],
 (sr [oo 4 (.box 3) [.t 0],oo 8 .mv [ki 0]]
 (.seq (.seq
 (rg [oo 12 (.ld true 3) [.t 4],ma 13 1,ma 14 2,ma 15 3,ca 16 zhU [.t 12,.t 13,.t 14,.t 15],oo 17 (.un .not) [.t 16]])
 (.cond (.t 17)
 (sr [oo 8 .mv [ki 0]]
 .ret)
 .skip))
 (sr [oo 18 (.ld true 3) [.t 4],ma 19 1,ma 20 2,ma 21 3,ca 22 zgD [.t 18,.t 19,.t 20,.t 21],oo 9 (.alloc [v0,vn]) [],ou (.st 2) [.t 9,.t 22]]
 (sr [oo 24 (.ld true 2) [.t 9],ca 25 zhQ [.t 24],ma 23 25,oo 26 (.ext 0) [.t 23],oo 27 (.ext 1) [.t 23],ma 10 26,ma 11 27]
 (sr [oo 28 (.ld true 2) [.t 9],ma 29 10,ca 30 zfK [.t 28,.t 29],ma 8 30]
 .ret)))))⟩
def zq0 : AFun:=⟨12,[(4,none)],
 (sr [oo 2 (.box 3) [.t 0],oo 3 (.box 3) [.t 1],oo 4 .mv [ki 0]]
 (.seq (.seq
 (rg [oo 5 (.ld true 3) [.t 2],ca 6 zgt [.t 5],oo 7 (.bin .neq) [.t 6,ki 0]])
 (.cond (.t 7)
 (sr [oo 4 .mv [ki 14]]
 .ret)
 .skip))
 (.seq (.seq
 (rg [oo 8 (.ld true 3) [.t 2],oo 9 (.ld true 3) [.t 3],ca 10 zha [.t 8,.t 9],oo 11 (.un .not) [.t 10]])
 (.cond (.t 11)
 (sr [oo 4 .mv [ki 15]]
 .ret)
 .skip))
 (sr [oo 4 .mv [ki 0]]
 .ret))))⟩
def ziD : AFun:=⟨65,[(4,none)],
 (sr [oo 2 (.box 3) [.t 0],oo 3 (.box 3) [.t 1],oo 4 .mv [ki 0]]
 (.seq (.seq
 (rg [oo 8 (.ld true 3) [.t 2],ca 9 zgr [.t 8],ma 5 9])
 (sr [ma 10 5,oo 11 (.bin .neq) [.t 10,ki 0]]
 (.cond (.t 11)
 (sr [ma 12 5,ma 4 12]
 .ret)
 .skip)))
 (.seq (.seq
 (rg [fa 13 0 3,la 14 13,oo 15 .len [.t 14],oo 16 (.bin .eql) [.t 15,ki 0],ma 17 16,fh 18 0 3 17,lh 19 18 17,fh 20 0 2 17,lh 21 20 17,oh 22 (.bin .sub) [.t 21,ki 1] 17,oh 23 .call [.f zcc,.t 19,ki 0,.t 22] 17,oh 24 (.un .not) [.t 23] 17,oo 25 .pick [.t 17,.c (.bool true),.t 24],ma 26 25,fh 27 1 3 26,lh 28 27 26,oh 29 .len [.t 28] 26,oh 30 .call [.f zaF,.t 29,ki 1,ki 8] 26,oh 31 (.un .not) [.t 30] 26,oo 32 .pick [.t 26,.c (.bool true),.t 31],ma 33 32,fh 34 2 3 33,lh 35 34 33,oh 36 .call [.f zaF,.t 35,ki 1,ki 3] 33,oh 37 (.un .not) [.t 36] 33,oo 38 .pick [.t 33,.c (.bool true),.t 37]])
 (.cond (.t 38)
 (sr [oo 4 .mv [ki 15]]
 .ret)
 .skip))
 (.seq (.seq
 (rg [fa 39 1 3,la 40 39,oo 41 .len [.t 40],oo 42 .mv [ki 0]])
 (.block 0 (.loop
 (sr [oo 43 (.bin .lss) [.t 42,.t 41]]
 (.seq (.cond (.t 43)
 .skip
 (.exit 0))
 (.seq (.block 1 (sr [ma 44 42,oo 45 (.iad 1) [.t 40,.t 42],la 46 45,ma 6 44,ma 7 46]
 (sr [ma 47 7,ca 48 zaF [.t 47,ki 1,ki 1000],oo 49 (.un .not) [.t 48],ma 50 49,mh 51 6 50,oh 52 (.bin .gtr) [.t 51,ki 0] 50,mh 53 52 50,mg 54 7 53,fg 55 1 3 53,lg 56 55 53,mg 57 6 53,og 58 (.bin .sub) [.t 57,ki 1] 53,og 59 (.iad 1) [.t 56,.t 58] 53,lg 60 59 53,og 61 (.bin .gtr) [.t 54,.t 60] 53,oh 62 .pick [.t 53,.t 61,.c (.bool false)] 50,oo 63 .pick [.t 50,.c (.bool true),.t 62]]
 (.cond (.t 63)
 (sr [oo 4 .mv [ki 15]]
 .ret)
 .skip))))
 (rg [oo 64 (.bin .add) [.t 42,ki 1],ma 42 64])))))))
 (sr [oo 4 .mv [ki 0]]
 .ret)))))⟩
def zlt : AFun:=⟨11,[(5,none)],
 (sr [oo 5 .mv [.c (.bool false)]]
 (sr [oo 6 (.ld true 3) [.t 1],oo 7 (.ld true 3) [.t 2],la 8 3,ma 9 0,ca 10 zho [.t 6,.t 7,.t 8,.t 9],ma 5 10]
 .ret))⟩
def zpN : AFun:=⟨35,[(8,none)],
 (sr [oo 4 (.box 3) [.t 0],oo 5 (.box 3) [.t 1],oo 7 (.box 1) [.t 3],oo 8 .mv [.c (.bool false)]]
 (sr [fa 10 1 4,la 11 10,oo 12 (.mkf zdZ) [.t 7],ca 13 zbc [.t 11,.t 12],ma 9 13]
 (sr [la 14 7,ma 15 2,oo 16 (.bin .neq) [.t 14,.t 15],ma 17 16,mg 18 9 17,og 19 (.un .not) [.t 18] 17,oo 20 .pick [.t 17,.t 19,.c (.bool false)],ma 21 20,fg 22 2 4 21,lg 23 22 21,lg 24 7 21,og 25 .call [.f zam,.t 23,.t 24] 21,og 26 (.un .not) [.t 25] 21,oo 27 .pick [.t 21,.t 26,.c (.bool false)],ma 28 27,fg 29 0 5 28,lg 30 29 28,lg 31 7 28,og 32 .call [.f zam,.t 30,.t 31] 28,og 33 (.un .not) [.t 32] 28,oo 34 .pick [.t 28,.t 33,.c (.bool false)],ma 8 34]
 .ret)))⟩
def zlO : AFun:=⟨13,[],
 (rg [fa 5 1 2,la 6 5,ma 7 0,ma 8 1,oo 9 (.build [v0,v0,v0] [(0,1),(1,1),(2,1)]) [.t 7,.t 8,ki 3],oo 10 (.bsl 3 1 [v0,v0,v0] [0]) [.t 9],oo 11 (.app 3 24) [.t 6,.t 10],fa 12 1 2,ou (.st 1) [.t 12,.t 11]])⟩
def zd1 : AFun:=⟨14,[],
 (sr [ma 5 0,oo 6 .len [.t 5],ma 4 6]
 (rg [ma 7 0,ma 8 4,ma 9 4,oo 10 (.cvt .u64) [.t 9],ca 11 zcF [.t 10],ma 12 1,ca 13 zeR [.t 7,ki 0,.t 8,.t 11,.t 12]]))⟩
def zlF : AFun:=⟨13,[(4,none)],
 (sr [oo 4 .mv [.c (.bool false)]]
 (sr [la 5 1,ma 6 0,ca 7 zam [.t 5,.t 6],ma 8 7,og 9 (.ld true 3) [.t 2] 8,mg 10 0 8,og 11 .call [.f zbT,.t 9,.t 10] 8,oo 12 .pick [.t 8,.t 11,.c (.bool false)],ma 4 12]
 .ret))⟩
def zlz : AFun:=⟨14,[(4,none)],
 (sr [oo 4 .mv [.c (.bool false)]]
 (sr [oo 5 (.ld true 3) [.t 1],ma 6 0,ca 7 zbT [.t 5,.t 6],ma 8 7,og 9 (.ld true 3) [.t 2] 8,mg 10 0 8,og 11 .call [.f zbT,.t 9,.t 10] 8,og 12 (.un .not) [.t 11] 8,oo 13 .pick [.t 8,.t 12,.c (.bool false)],ma 4 13]
 .ret))⟩
def zph : AFun:=⟨33,[(6,some (true,2)),(7,none),(8,none)],
 (sr [oo 3 (.box 3) [.t 0],oo 4 (.box 3) [.t 1],oo 6 (.alloc [v0,vn]) [],oo 7 .mv [kn],oo 8 .mv [.c (.bool false)]]
 (sr [oo 14 (.ld true 3) [.t 3],oo 15 (.ld true 3) [.t 4],ma 16 2,ca 17 zgG [.t 14,.t 15,.t 16],ma 13 17,oo 18 (.ext 0) [.t 13],oo 19 (.ext 1) [.t 13],oo 9 (.alloc [v0,vn]) [],ou (.st 2) [.t 9,.t 18],ma 10 19]
 (sr [oo 21 (.ld true 2) [.t 9],ca 22 ziO [.t 21],ma 20 22,oo 23 (.ext 0) [.t 20],oo 24 (.ext 1) [.t 20],ma 11 23,ma 12 24]
 (.seq (.reg true [oo 25 (.ld true 2) [.t 9],ma 26 11,oo 27 (.ld true 2) [.t 9],ma 28 11,ca 29 ziC [.t 27,.t 28],ma 30 2,oo 31 .len [.t 30],oo 32 (.bin .eql) [.t 29,.t 31],ou (.st 2) [.t 6,.t 25],ma 7 26,ma 8 32] [[],[],[],[],[2,3],[],[5],[4,6],[0,4,0],[1,8,0,1,8],[7,9,0,1,2,3,4,5,6,7,8,9]])
 .ret))))⟩
def znt : AFun:=⟨37,[(2,none),(3,none)],
 (sr [oo 1 (.box 2) [.t 0],oo 2 .mv [kn],oo 3 .mv [ki 0]]
 (sr [oo 10 (.ld true 2) [.t 1],ca 11 ziO [.t 10],ma 9 11,oo 12 (.ext 0) [.t 9],oo 13 (.ext 1) [.t 9],ma 4 12,ma 5 13]
 (.seq (.seq
 (rg [ma 14 5,oo 15 (.bin .neq) [.t 14,ki 0]])
 (.cond (.t 15)
 (sr [ma 16 5,oo 2 .mv [kn],ma 3 16]
 .ret)
 .skip))
 (sr [oo 17 (.ld true 2) [.t 1],ma 18 4,ca 19 zep [.t 17,.t 18],ma 6 19]
 (sr [oo 20 (.bsl 1 1 [v0] [0]) [ki 0],ma 7 20]
 (.seq (.seq
 (rg [oo 8 .mv [ki 1]])
 (.block 0 (.loop
 (.seq (.seq
 (rg [ma 21 8,fa 22 0 1,la 23 22,oo 24 (.bin .lss) [.t 21,.t 23]])
 (.cond (.t 24)
 .skip
 (.exit 0)))
 (.seq (.block 1 (sr [ma 27 6,ma 28 8,oo 29 (.iad 1) [.t 27,.t 28],la 30 29,oo 31 (.bin .neq) [.t 30,ki 0]]
 (.cond (.t 31)
 (rg [ma 32 7,ma 33 8,oo 34 (.bsl 1 1 [v0] [0]) [.t 33],oo 35 (.app 1 8) [.t 32,.t 34],ma 7 35])
 .skip)))
 (rg [ma 25 8,oo 26 (.bin .add) [.t 25,ki 1],ma 8 26]))))))
 (sr [ma 36 7,ma 2 36,oo 3 .mv [ki 0]]
 .ret)))))))⟩
def zue : AFun:=⟨112,[(2,none),(3,none)],
 (sr [oo 1 (.box 2) [.t 0],oo 2 .mv [kn],oo 3 .mv [ki 0]]
 (.seq (.seq
 (rg [oo 11 (.ld true 2) [.t 1],ca 12 zgl [.t 11],oo 13 (.bin .neq) [.t 12,ki 0]])
 (.cond (.t 13)
 (sr [oo 2 .mv [kn],oo 3 .mv [ki 16]]
 .ret)
 .skip))
 (sr [fa 14 1 1,la 15 14,oo 16 .len [.t 15],oo 17 (.mks 1 8 [v0]) [.t 16,.t 16],ma 4 17]
 (.block 0 (.loop
 (.block 1 (sr [oo 18 (.ld true 2) [.t 1],ma 19 4,ca 20 zep [.t 18,.t 19],ma 5 20]
 (.seq (.seq
 (rg [ma 21 5,oo 22 (.iad 1) [.t 21,ki 1],la 23 22,oo 24 (.bin .eql) [.t 23,ki 0]])
 (.cond (.t 24)
 (sr [ma 25 4,ma 2 25,oo 3 .mv [ki 0]]
 .ret)
 .skip))
 (sr [oo 6 .mv [ki 1048576]]
 (.seq (.seq
 (rg [oo 7 .mv [ki 1]])
 (.block 2 (.loop
 (.seq (.seq
 (rg [ma 26 7,oo 27 (.bin .neq) [.t 26,ki 0]])
 (.cond (.t 27)
 .skip
 (.exit 2)))
 (.block 3 (sr [ma 28 5,ma 29 7,oo 30 (.iad 1) [.t 28,.t 29],la 31 30,ma 8 31]
 (sr [ma 32 8,oo 33 (.bin .gtr) [.t 32,ki 0]]
 (.cond (.t 33)
 (.reg true [ma 34 6,fa 35 1 1,la 36 35,ma 37 8,oo 38 (.bin .sub) [.t 37,ki 1],oo 39 (.iad 3) [.t 36,.t 38],fa 40 2 39,la 41 40,ma 42 4,ma 43 8,oo 44 (.bin .sub) [.t 43,ki 1],oo 45 (.iad 1) [.t 42,.t 44],la 46 45,oo 47 (.bin .sub) [.t 41,.t 46],oo 48 .mn2 [.t 34,.t 47],fa 49 1 1,la 50 49,ma 51 8,oo 52 (.bin .sub) [.t 51,ki 1],oo 53 (.iad 3) [.t 50,.t 52],fa 54 0 53,la 55 54,ma 6 48,ma 7 55] [[],[],[1],[],[3],[2,4],[5],[6],[],[],[9],[8,10],[11],[7,12],[0,13],[],[15],[],[17],[16,18],[19],[20],[14,0,1,2,3,4,5,6,7,8,9,10,11,12,13,14],[21,22,0,1,2,3,4,5,6,7,8,9,10,11,12,13,14,15,16,17,18,19,20,21,22]])
 (.reg true [ma 56 6,ma 57 4,ma 58 8,oo 59 (.un .neg) [.t 58],oo 60 (.bin .sub) [.t 59,ki 1],oo 61 (.iad 1) [.t 57,.t 60],la 62 61,oo 63 .mn2 [.t 56,.t 62],fa 64 1 1,la 65 64,ma 66 8,oo 67 (.un .neg) [.t 66],oo 68 (.bin .sub) [.t 67,ki 1],oo 69 (.iad 3) [.t 65,.t 68],fa 70 1 69,la 71 70,ma 6 63,ma 7 71] [[],[],[],[2],[3],[1,4],[5],[0,6],[],[8],[],[10],[11],[9,12],[13],[14],[7,0,1,2,3,4,5,6,7],[15,16,0,1,2,3,4,5,6,7,8,9,10,11,12,13,14,15,16]])))))))))
 (sr [oo 9 .mv [ki 1]]
 (.block 4 (.loop
 (.seq (.seq
 (rg [ma 72 9,oo 73 (.bin .neq) [.t 72,ki 0]])
 (.cond (.t 73)
 .skip
 (.exit 4)))
 (.block 5 (sr [ma 74 5,ma 75 9,oo 76 (.iad 1) [.t 74,.t 75],la 77 76,ma 10 77]
 (sr [ma 78 10,oo 79 (.bin .gtr) [.t 78,ki 0]]
 (.cond (.t 79)
 (sr [ma 80 4,ma 81 10,oo 82 (.bin .sub) [.t 81,ki 1],oo 83 (.iad 1) [.t 80,.t 82],la 84 83,ma 85 6,oo 86 (.bin .add) [.t 84,.t 85],oo 87 (.iad 1) [.t 80,.t 82],ou (.st 1) [.t 87,.t 86]]
 (rg [fa 88 1 1,la 89 88,ma 90 10,oo 91 (.bin .sub) [.t 90,ki 1],oo 92 (.iad 3) [.t 89,.t 91],fa 93 0 92,la 94 93,ma 9 94]))
 (sr [ma 95 4,ma 96 10,oo 97 (.un .neg) [.t 96],oo 98 (.bin .sub) [.t 97,ki 1],oo 99 (.iad 1) [.t 95,.t 98],la 100 99,ma 101 6,oo 102 (.bin .sub) [.t 100,.t 101],oo 103 (.iad 1) [.t 95,.t 98],ou (.st 1) [.t 103,.t 102]]
 (rg [fa 104 1 1,la 105 104,ma 106 10,oo 107 (.un .neg) [.t 106],oo 108 (.bin .sub) [.t 107,ki 1],oo 109 (.iad 3) [.t 105,.t 108],fa 110 1 109,la 111 110,ma 9 111]))))))))))))))))))))⟩
def zpX : AFun:=⟨31,[(4,none)],
 (sr [oo 2 (.box 2) [.t 0],oo 4 .mv [ki 0]]
 (.seq (.seq
 (rg [oo 7 (.ld true 2) [.t 2],ma 8 1,ca 9 zic [.t 7,.t 8],oo 10 (.un .not) [.t 9]])
 (.cond (.t 10)
 (sr [oo 4 .mv [ki 0]]
 .ret)
 .skip))
 (sr [oo 5 .mv [ki 0]]
 (.seq (.seq
 (rg [oo 6 .mv [ki 0]])
 (.block 0 (.loop
 (.seq (.seq
 (rg [ma 11 6,ma 12 1,oo 13 .len [.t 12],oo 14 (.bin .lss) [.t 11,.t 13]])
 (.cond (.t 14)
 .skip
 (.exit 0)))
 (.seq (.block 1 (sr [fa 17 1 2,la 18 17,ma 19 6,oo 20 (.iad 3) [.t 18,.t 19],fa 21 0 20,la 22 21,oo 23 (.bin .eql) [.t 22,ki 0]]
 (.cond (.t 23)
 (rg [ma 24 5,ma 25 1,ma 26 6,oo 27 (.iad 1) [.t 25,.t 26],la 28 27,oo 29 (.bin .add) [.t 24,.t 28],ma 5 29])
 .skip)))
 (rg [ma 15 6,oo 16 (.bin .add) [.t 15,ki 1],ma 6 16]))))))
 (sr [ma 30 5,ma 4 30]
 .ret)))))⟩
def zuW : AFun:=⟨17,[(4,none)],
 (sr [oo 2 (.box 3) [.t 0],oo 4 .mv [ki 0]]
 (.seq (.seq
 (rg [ma 5 1,oo 6 (.bin .lss) [.t 5,ki 0]])
 (.cond (.t 6)
 (sr [oo 4 .mv [ki 0]]
 .ret)
 .skip))
 (.seq (.seq
 (rg [ma 7 1,fa 8 1 2,la 9 8,oo 10 .len [.t 9],oo 11 (.bin .lss) [.t 7,.t 10]])
 (.cond (.t 11)
 (sr [fa 12 1 2,la 13 12,ma 14 1,oo 15 (.iad 1) [.t 13,.t 14],la 16 15,ma 4 16]
 .ret)
 .skip))
 (sr [oo 4 .mv [ki 1]]
 .ret))))⟩
def zpz : AFun:=⟨12,[(4,none)],
 (sr [oo 2 (.box 3) [.t 0],oo 3 (.box 3) [.t 1],oo 4 .mv [kn]]
 (.seq (.reg true [oo 5 (.ld true 3) [.t 2],fa 6 2 3,la 7 6,ca 8 zbV [.t 5,.t 7],fa 9 0 3,la 10 9,ca 11 zcg [.t 8,.t 10],ma 4 11] [[],[],[1],[0,2],[],[4],[3,5,3],[6,6,0,1,2,3,4,5,6]])
 .ret))⟩
def zrd : AFun:=⟨14,[(4,none)],
 (sr [oo 4 .mv [kn]]
 (sr [ma 5 0,ma 6 0,oo 7 .len [.t 6],ma 8 0,oo 9 .len [.t 8],oo 10 (.slc 1 false true true) [.t 5,.t 7,.t 9],ma 11 1,oo 12 (.bsl 1 1 [v0] [0]) [.t 11],oo 13 (.app 1 8) [.t 10,.t 12],ma 4 13]
 .ret))⟩
def zm6 : AFun:=⟨18,[(6,some (true,2))],
 (sr [oo 3 (.box 3) [.t 0],oo 4 (.box 3) [.t 1],oo 6 (.alloc [v0,vn]) []]
 (.seq (.reg true [oo 10 (.ld true 3) [.t 3],oo 11 (.ld true 3) [.t 4],ma 12 2,ca 13 zcZ [.t 12],ca 14 zgF [.t 10,.t 11,.t 13],ma 9 14,oo 15 (.ext 0) [.t 9],oo 16 (.ext 1) [.t 9],oo 7 (.alloc [v0,vn]) [],ou (.st 2) [.t 7,.t 15],ma 8 16] [[],[],[],[2],[0,1,3,3],[4],[5],[5],[],[8,6,4,0,1,2,3,4,5,6,8],[7,9,0,1,2,3,4,5,6,7,8,9]])
 (sr [oo 17 (.ld true 2) [.t 7],ou (.st 2) [.t 6,.t 17]]
 .ret)))⟩
def zpj : AFun:=⟨19,[(4,none),(5,none)],
 (sr [oo 2 (.box 2) [.t 0],oo 4 .mv [kn],oo 5 .mv [.c (.bool false)]]
 (sr [oo 9 (.ld true 2) [.t 2],ca 10 zhQ [.t 9],ma 8 10,oo 11 (.ext 0) [.t 8],oo 12 (.ext 1) [.t 8],ma 6 11,ma 7 12]
 (sr [ma 13 6,oo 14 (.ld true 2) [.t 2],ma 15 6,ca 16 zfK [.t 14,.t 15],ma 17 1,oo 18 (.bin .eql) [.t 16,.t 17],ma 4 13,ma 5 18]
 .ret)))⟩
def zoH : AFun:=⟨14,[(4,none)],
 (sr [oo 2 (.box 2) [.t 0],oo 4 .mv [kn]]
 (sr [oo 6 (.ld true 2) [.t 2],ma 7 1,ca 8 zgQ [.t 6,.t 7],ca 9 zbR [.t 8],oo 5 (.alloc [(.map none)]) [],ou (.st 1) [.t 5,.t 9]]
 (sr [fa 10 0 2,la 11 10,oo 12 (.mkf zaV) [.t 5],ca 13 zbt [.t 11,.t 12],ma 4 13]
 .ret)))⟩
def zg3 : AFun:=⟨99,[(6,some (true,2)),(7,none)],
 (sr [oo 3 (.box 3) [.t 0],oo 4 (.box 3) [.t 1],oo 6 (.alloc [vn,vn]) [],oo 7 .mv [ki 0]]
 (.seq (.seq
 (rg [oo 18 (.ld true 3) [.t 3],oo 19 (.ld true 3) [.t 4],ca 20 zbU [.t 18,.t 19],ma 8 20])
 (sr [ma 21 8,oo 22 (.bin .neq) [.t 21,ki 0]]
 (.cond (.t 22)
 (sr [oo 23 (.build [vn,vn] []) [],ma 24 8,ou (.st 2) [.t 6,.t 23],ma 7 24]
 .ret)
 .skip)))
 (.seq (.seq
 (rg [ma 25 2,ca 26 zaF [.t 25,ki 1,ki 5],oo 27 (.un .not) [.t 26]])
 (.cond (.t 27)
 (sr [oo 28 (.build [vn,vn] []) [],ou (.st 2) [.t 6,.t 28],oo 7 .mv [ki 2]]
 .ret)
 .skip))
 (sr [oo 29 (.ld true 3) [.t 3],fa 30 2 4,la 31 30,ca 32 zbV [.t 29,.t 31],oo 9 (.alloc [v0,vn,vn]) [],ou (.st 3) [.t 9,.t 32]]
 (sr [oo 33 (.ld true 3) [.t 9],fa 34 0 4,la 35 34,ca 36 zcg [.t 33,.t 35],ca 37 zcZ [.t 36],oo 38 (.build [vn,vn] [(0,1)]) [.t 37],oo 10 (.alloc [vn,vn]) [],ou (.st 2) [.t 10,.t 38]]
 (.seq (.seq
 (rg [fa 39 0 10,la 40 39,oo 41 .len [.t 40],oo 42 .mv [ki 0]])
 (.block 0 (.loop
 (sr [oo 43 (.bin .lss) [.t 42,.t 41]]
 (.seq (.cond (.t 43)
 .skip
 (.exit 0))
 (.seq (.block 1 (sr [oo 44 (.iad 1) [.t 40,.t 42],la 45 44,ma 12 45]
 (sr [fa 46 0 10,la 47 46,oo 48 .len [.t 47],oo 49 (.mks 1 8 [v0]) [.t 48,.t 48],ma 13 49]
 (.seq (.seq
 (rg [fa 50 0 10,la 51 50,oo 52 .len [.t 51],oo 53 .mv [ki 0]])
 (.block 2 (.loop
 (sr [oo 54 (.bin .lss) [.t 53,.t 52]]
 (.seq (.cond (.t 54)
 .skip
 (.exit 2))
 (.seq (.block 3 (sr [ma 55 53,oo 56 (.iad 1) [.t 51,.t 53],la 57 56,ma 14 55,ma 15 57]
 (sr [fa 58 0 4,la 59 58,ma 60 15,ca 61 zam [.t 59,.t 60]]
 (.cond (.t 61)
 (rg [ma 62 13,ma 63 14,ma 64 2,oo 65 (.iad 1) [.t 62,.t 63],ou (.st 1) [.t 65,.t 64]])
 .skip))))
 (rg [oo 66 (.bin .add) [.t 53,ki 1],ma 53 66])))))))
 (.seq (.seq
 (rg [fa 67 1 9,la 68 67,oo 69 .len [.t 68],oo 70 .mv [ki 0]])
 (.block 4 (.loop
 (sr [oo 71 (.bin .lss) [.t 70,.t 69]]
 (.seq (.cond (.t 71)
 .skip
 (.exit 4))
 (.seq (.block 5 (sr [oo 72 (.iad 3) [.t 68,.t 70],oo 73 (.ld true 3) [.t 72],oo 17 (.alloc [v0,v0,v0]) [],ou (.st 3) [.t 17,.t 73]]
 (sr [fa 74 0 17,la 75 74,ma 76 12,oo 77 (.bin .eql) [.t 75,.t 76]]
 (.cond (.t 77)
 (.reg true [ma 78 13,fa 79 0 10,la 80 79,fa 81 1 17,la 82 81,ca 83 za0 [.t 80,.t 82],oo 84 (.iad 1) [.t 78,.t 83],la 85 84,fa 86 2 17,la 87 86,oo 88 (.bin .add) [.t 85,.t 87],oo 89 (.iad 1) [.t 78,.t 83],ou (.st 1) [.t 89,.t 88]] [[],[],[1],[],[3],[2,4],[0,5],[6],[],[8],[7,9],[0,5,0,1,2,3,4,5,6,7,8,9,10],[11,10,5,0,1,2,3,4,5,6,7,8,9,10]])
 .skip))))
 (rg [oo 90 (.bin .add) [.t 70,ki 1],ma 70 90])))))))
 (rg [fa 91 1 10,la 92 91,ma 93 13,oo 94 (.bsl 1 1 [vn] [0]) [.t 93],oo 95 (.app 1 24) [.t 92,.t 94],fa 96 1 10,ou (.st 1) [.t 96,.t 95]]))))))
 (rg [oo 97 (.bin .add) [.t 42,ki 1],ma 42 97])))))))
 (sr [oo 98 (.ld true 2) [.t 10],ou (.st 2) [.t 6,.t 98],oo 7 .mv [ki 0]]
 .ret)))))))⟩
def zfi : AFun:=⟨23,[(4,none)],
 (sr [oo 2 (.box 2) [.t 0],oo 4 .mv [ki 0]]
 (sr [oo 5 .mv [ki 0]]
 (.seq (.seq
 (rg [fa 8 1 2,la 9 8,ma 10 1,oo 11 (.iad 1) [.t 9,.t 10],la 12 11,oo 13 .len [.t 12],oo 14 .mv [ki 0]])
 (.block 0 (.loop
 (sr [oo 15 (.bin .lss) [.t 14,.t 13]]
 (.seq (.cond (.t 15)
 .skip
 (.exit 0))
 (.seq (.block 1 (sr [oo 16 (.iad 1) [.t 12,.t 14],la 17 16,ma 7 17]
 (rg [ma 18 5,ma 19 7,oo 20 (.bin .add) [.t 18,.t 19],ma 5 20])))
 (rg [oo 21 (.bin .add) [.t 14,ki 1],ma 14 21])))))))
 (sr [ma 22 5,ma 4 22]
 .ret))))⟩
def zeJ : AFun:=⟨139,[(4,none)],
 (sr [oo 2 (.box 2) [.t 0],oo 4 .mv [ki 0]]
 (sr [oo 5 .mv [kn]]
 (.seq (.seq
 (rg [fa 17 1 2,la 18 17,oo 19 .len [.t 18],oo 20 .mv [ki 0]])
 (.block 0 (.loop
 (sr [oo 21 (.bin .lss) [.t 20,.t 19]]
 (.seq (.cond (.t 21)
 .skip
 (.exit 0))
 (.seq (.block 1 (sr [ma 22 20,oo 23 (.iad 1) [.t 18,.t 20],la 24 23,ma 6 22,ma 7 24]
 (.seq (.seq
 (rg [ma 25 6,ma 26 1,oo 27 (.bin .eql) [.t 25,.t 26]])
 (.cond (.t 27)
 (.exit 1)
 .skip))
 (sr [oo 8 .mv [kn]]
 (.seq (.seq
 (rg [ma 28 7,oo 29 .len [.t 28],oo 30 .mv [ki 0]])
 (.block 2 (.loop
 (sr [oo 31 (.bin .lss) [.t 30,.t 29]]
 (.seq (.cond (.t 31)
 .skip
 (.exit 2))
 (.seq (.block 3 (sr [ma 32 30,oo 33 (.iad 1) [.t 28,.t 30],la 34 33,ma 9 32,ma 10 34]
 (.block 4 (sr [ma 43 9,ma 44 1,oo 45 (.bin .eql) [.t 43,.t 44],ma 42 45]
 (.cond (.t 42)
 .skip
 (sr [ma 47 9,ma 48 6,oo 49 (.bin .eql) [.t 47,.t 48],ma 46 49]
 (.cond (.t 46)
 (rg [ma 50 8,oo 51 (.ld true 2) [.t 2],ma 52 6,ca 53 zcB [.t 51,.t 52],ma 54 10,oo 55 (.bin .sub) [.t 53,.t 54],oo 56 (.cvt .u64) [.t 55],oo 57 (.bsl 1 1 [(.int .u64 0)] [0]) [.t 56],oo 58 (.app 1 8) [.t 50,.t 57],ma 8 58])
 (rg [ma 35 8,ma 36 10,oo 37 (.cvt .u64) [.t 36],oo 38 (.bin .sub) [(.c (.int .u64 2305843009213693951)),.t 37],oo 39 (.bin .rem) [.t 38,(.c (.int .u64 2305843009213693951))],oo 40 (.bsl 1 1 [(.int .u64 0)] [0]) [.t 39],oo 41 (.app 1 8) [.t 35,.t 40],ma 8 41]))))))))
 (rg [oo 59 (.bin .add) [.t 30,ki 1],ma 30 59])))))))
 (rg [ma 60 5,ma 61 8,oo 62 (.bsl 1 1 [vn] [0]) [.t 61],oo 63 (.app 1 24) [.t 60,.t 62],ma 5 63]))))))
 (rg [oo 64 (.bin .add) [.t 20,ki 1],ma 20 64])))))))
 (sr [oo 11 .mv [(.c (.int .u64 1))]]
 (.seq (.seq
 (rg [ma 65 5,oo 66 .len [.t 65],oo 67 .mv [ki 0]])
 (.block 5 (.loop
 (sr [oo 68 (.bin .lss) [.t 67,.t 66]]
 (.seq (.cond (.t 68)
 .skip
 (.exit 5))
 (.seq (.block 6 (sr [ma 69 67,ma 12 69]
 (sr [ma 70 11,ma 71 5,ma 72 12,oo 73 (.iad 1) [.t 71,.t 72],la 74 73,ma 75 12,oo 76 (.iad 1) [.t 74,.t 75],la 77 76,ca 78 za5 [.t 70,.t 77],ma 11 78]
 (sr [ma 79 5,ma 80 12,oo 81 (.iad 1) [.t 79,.t 80],la 82 81,ma 83 12,oo 84 (.iad 1) [.t 82,.t 83],la 85 84,ca 86 zbJ [.t 85],ma 13 86]
 (sr [ma 87 12,oo 88 (.bin .add) [.t 87,ki 1],ma 14 88]
 (.block 7 (.loop
 (.seq (.seq
 (rg [ma 89 14,ma 90 5,oo 91 .len [.t 90],oo 92 (.bin .lss) [.t 89,.t 91]])
 (.cond (.t 92)
 .skip
 (.exit 7)))
 (.seq (.block 8 (sr [ma 95 5,ma 96 14,oo 97 (.iad 1) [.t 95,.t 96],la 98 97,ma 99 12,oo 100 (.iad 1) [.t 98,.t 99],la 101 100,ma 102 13,ca 103 za5 [.t 101,.t 102],ma 15 103]
 (sr [ma 104 12,ma 16 104]
 (.block 9 (.loop
 (.seq (.seq
 (rg [ma 105 16,ma 106 5,oo 107 .len [.t 106],oo 108 (.bin .lss) [.t 105,.t 107]])
 (.cond (.t 108)
 .skip
 (.exit 9)))
 (.seq (.block 10 (.reg true [ma 111 5,ma 112 14,oo 113 (.iad 1) [.t 111,.t 112],la 114 113,ma 115 16,ma 116 5,ma 117 14,oo 118 (.iad 1) [.t 116,.t 117],la 119 118,ma 120 16,oo 121 (.iad 1) [.t 119,.t 120],la 122 121,oo 123 (.bin .add) [.t 122,(.c (.int .u64 2305843009213693951))],ma 124 15,ma 125 5,ma 126 12,oo 127 (.iad 1) [.t 125,.t 126],la 128 127,ma 129 16,oo 130 (.iad 1) [.t 128,.t 129],la 131 130,ca 132 za5 [.t 124,.t 131],oo 133 (.bin .sub) [.t 123,.t 132],oo 134 (.bin .rem) [.t 133,(.c (.int .u64 2305843009213693951))],oo 135 (.iad 1) [.t 114,.t 115],ou (.st 1) [.t 135,.t 134]] [[],[],[0,1],[2],[],[],[],[5,6],[7],[],[8,9],[10],[11],[],[],[],[14,15],[16],[],[17,18],[19],[13,20],[12,21],[22],[3,4,0,1,2,3,4,5,6,7,8,9,10,11,12,13,14,15,16,17,18,19,20,21,22,23],[24,23,21,0,1,2,3,4,5,6,7,8,9,10,11,12,13,14,15,16,17,18,19,20,21,22,23]]))
 (rg [ma 109 16,oo 110 (.bin .add) [.t 109,ki 1],ma 16 110]))))))))
 (rg [ma 93 14,oo 94 (.bin .add) [.t 93,ki 1],ma 14 94]))))))))))
 (rg [oo 136 (.bin .add) [.t 67,ki 1],ma 67 136])))))))
 (sr [ma 137 11,oo 138 (.cvt .i64) [.t 137],ma 4 138]
 .ret))))))⟩
def zgh : AFun:=⟨12,[(4,none)],
 (sr [oo 4 .mv [ki 0]]
 (.seq (.block 0 (.loop
 (.seq (.seq
 (rg [ma 5 1,oo 6 (.bin .neq) [.t 5,ki 0]])
 (.cond (.t 6)
 .skip
 (.exit 0)))
 (.block 1 (.reg true [ma 7 1,ma 8 0,ma 9 1,oo 10 (.bin .rem) [.t 8,.t 9],ma 0 7,ma 1 10] [[],[],[],[1,2],[0,0,1],[3,4,0,1,2,3,4]])))))
 (sr [ma 11 0,ma 4 11]
 .ret)))⟩
def zi9 : AFun:=⟨5,[(2,none)],
 (sr [oo 2 .mv [.c (.bool false)]]
 (sr [ma 3 0,ca 4 zaF [.t 3,ki 1,ki 100],ma 2 4]
 .ret))⟩
def zjR : AFun:=⟨9,[(4,some (true,5))],
 (sr [oo 2 (.box 3) [.t 0],oo 4 (.alloc [v0,vn,vn,ve,(.map none)]) []]
 (sr [oo 5 (.ld true 3) [.t 2],ma 6 1,oo 7 .mkm [],oo 8 (.build [v0,vn,vn,ve,(.map none)] [(0,3),(3,1),(4,1)]) [.t 5,.t 6,.t 7],ou (.st 5) [.t 4,.t 8]]
 .ret))⟩
def zgs : AFun:=⟨32,[(6,none)],
 (sr [oo 3 (.box 5) [.t 0],oo 6 .mv [kn]]
 (sr [oo 7 .mv [kn]]
 (sr [oo 11 (.ld true 5) [.t 3],oo 12 (.mkb zdB) [.t 11],ma 8 12]
 (.seq (.seq
 (rg [fa 13 0 3,oo 14 (.ld true 3) [.t 13],ma 15 1,ca 16 zdd [.t 14,.t 15],oo 17 .len [.t 16],oo 18 .mv [ki 0]])
 (.block 0 (.loop
 (sr [oo 19 (.bin .lss) [.t 18,.t 17]]
 (.seq (.cond (.t 19)
 .skip
 (.exit 0))
 (.seq (.block 1 (sr [oo 20 (.iad 1) [.t 16,.t 18],la 21 20,ma 10 21]
 (rg [ma 22 7,ma 23 8,ma 24 1,ma 25 10,ma 26 2,oo 27 .call [.t 23,.t 24,.t 25,.t 26],oo 28 (.bsl 1 1 [vn] [0]) [.t 27],oo 29 (.app 1 24) [.t 22,.t 28],ma 7 29])))
 (rg [oo 30 (.bin .add) [.t 18,ki 1],ma 18 30])))))))
 (sr [ma 31 7,ma 6 31]
 .ret)))))⟩
def zgo : AFun:=⟨7,[(3,none)],
 (sr [oo 3 .mv [.c (.bool false)]]
 (sr [la 4 1,ma 5 0,ca 6 zam [.t 4,.t 5],ma 3 6]
 .ret))⟩
def zk9 : AFun:=⟨30,[(8,none)],
 (sr [oo 4 (.box 3) [.t 0],oo 8 .mv [.c (.bool false)]]
 (sr [ma 9 1,ca 10 zaF [.t 9,ki 1,ki 3],ma 11 10,mg 12 2 11,fg 13 0 4 11,lg 14 13 11,og 15 (.bin .sub) [.t 14,ki 1] 11,og 16 .call [.f zaF,.t 12,ki 0,.t 15] 11,oo 17 .pick [.t 11,.t 16,.c (.bool false)],ma 18 17,mg 19 3 18,fg 20 0 4 18,lg 21 20 18,og 22 (.bin .sub) [.t 21,ki 1] 18,og 23 .call [.f zaF,.t 19,ki 0,.t 22] 18,oo 24 .pick [.t 18,.t 23,.c (.bool false)],ma 25 24,mg 26 2 25,mg 27 3 25,og 28 (.bin .neq) [.t 26,.t 27] 25,oo 29 .pick [.t 25,.t 28,.c (.bool false)],ma 8 29]
 .ret))⟩
def zi3 : AFun:=⟨92,[(8,some (true,2))],
 (sr [oo 4 (.box 3) [.t 0],oo 8 (.alloc [v0,vn]) []]
 (sr [fa 14 0 4,la 15 14,ca 16 zdk [.t 15],oo 17 (.build [v0,vn] [(0,1)]) [.t 16],oo 9 (.alloc [v0,vn]) [],ou (.st 2) [.t 9,.t 17]]
 (.seq (.seq
 (rg [fa 18 0 4,la 19 18,oo 20 .mv [ki 0]])
 (.block 0 (.loop
 (sr [oo 21 (.bin .lss) [.t 20,.t 19]]
 (.seq (.cond (.t 21)
 .skip
 (.exit 0))
 (.seq (.block 1 (sr [ma 22 20,ma 10 22]
 (sr [ma 23 10,ma 24 2,oo 25 (.bin .neq) [.t 23,.t 24],ma 26 25,mg 27 10 26,mg 28 3 26,og 29 (.bin .neq) [.t 27,.t 28] 26,oo 30 .pick [.t 26,.t 29,.c (.bool false)]]
 (.cond (.t 30)
 (.reg true [fa 31 1 9,la 32 31,ma 33 10,ca 34 zdk [.t 33],ma 35 10,ca 36 zdk [.t 35],oo 37 (.bin .add) [.t 36,ki 1],oo 38 (.build [v0,v0,v0] [(0,1),(1,1),(2,1)]) [.t 34,.t 37,ki 1],oo 39 (.bsl 3 1 [v0,v0,v0] [0]) [.t 38],oo 40 (.app 3 24) [.t 32,.t 39],fa 41 1 9,ou (.st 1) [.t 41,.t 40]] [[],[0],[],[2],[],[4,3],[5],[3,6],[7],[1,8,5],[0,1,2,3,4,5,6,7,8,9],[10,9,9,0,1,2,3,4,5,6,7,8,9]])
 .skip))))
 (rg [oo 42 (.bin .add) [.t 20,ki 1],ma 20 42])))))))
 (.seq (.seq
 (rg [fa 43 1 4,la 44 43,oo 45 .len [.t 44],oo 46 .mv [ki 0]])
 (.block 2 (.loop
 (sr [oo 47 (.bin .lss) [.t 46,.t 45]]
 (.seq (.cond (.t 47)
 .skip
 (.exit 2))
 (.seq (.block 3 (sr [oo 48 (.iad 3) [.t 44,.t 46],oo 49 (.ld true 3) [.t 48],oo 12 (.alloc [v0,v0,v0]) [],ou (.st 3) [.t 12,.t 49]]
 (.seq (.seq
 (rg [fa 50 2 12,la 51 50,ma 52 1,oo 53 (.bin .lss) [.t 51,.t 52],ma 54 53,fh 55 1 12 54,lh 56 55 54,mh 57 2 54,oh 58 (.bin .eql) [.t 56,.t 57] 54,oo 59 .pick [.t 54,.c (.bool true),.t 58],ma 60 59,fh 61 0 12 60,lh 62 61 60,mh 63 3 60,oh 64 (.bin .eql) [.t 62,.t 63] 60,oo 65 .pick [.t 60,.c (.bool true),.t 64]])
 (.cond (.t 65)
 (.exit 3)
 .skip))
 (.seq (.reg true [fa 66 0 12,la 67 66,ca 68 zdk [.t 67],oo 69 (.bin .add) [.t 68,ki 1],fa 70 1 12,la 71 70,ca 72 zdk [.t 71],oo 73 (.build [v0,v0,v0] [(0,1),(1,1),(2,1)]) [.t 69,.t 72,ki 1],oo 13 (.alloc [v0,v0,v0]) [],ou (.st 3) [.t 13,.t 73]] [[],[0],[1],[2],[],[4],[5,2],[3,6],[],[8,7,6,0,1,2,3,4,5,6,7,8]])
 (.seq (.seq
 (rg [fa 74 0 12,la 75 74,ma 76 2,oo 77 (.bin .eql) [.t 75,.t 76]])
 (.cond (.t 77)
 (rg [fa 78 0 13,ou (.st 1) [.t 78,ki 0]])
 .skip))
 (.seq (.seq
 (rg [fa 79 1 12,la 80 79,ma 81 3,oo 82 (.bin .eql) [.t 80,.t 81]])
 (.cond (.t 82)
 (rg [fa 83 1 13,ou (.st 1) [.t 83,ki 1]])
 .skip))
 (rg [fa 84 1 9,la 85 84,oo 86 (.ld true 3) [.t 13],oo 87 (.bsl 3 1 [v0,v0,v0] [0]) [.t 86],oo 88 (.app 3 24) [.t 85,.t 87],fa 89 1 9,ou (.st 1) [.t 89,.t 88]])))))))
 (rg [oo 90 (.bin .add) [.t 46,ki 1],ma 46 90])))))))
 (sr [oo 91 (.ld true 2) [.t 9],ou (.st 2) [.t 8,.t 91]]
 .ret)))))⟩
def zqw : AFun:=⟨16,[(2,none),(3,none)],
 (sr [oo 1 (.box 2) [.t 0],oo 2 .mv [kn],oo 3 .mv [ki 0]]
 (.seq (.seq
 (rg [oo 5 (.ld true 2) [.t 1],ca 6 zf1 [.t 5],ma 4 6])
 (sr [ma 7 4,oo 8 (.bin .neq) [.t 7,ki 0]]
 (.cond (.t 8)
 (sr [ma 9 4,oo 2 .mv [kn],ma 3 9]
 .ret)
 .skip)))
 (.seq (.reg true [oo 10 (.ld true 2) [.t 1],fa 11 1 1,la 12 11,oo 13 .len [.t 12],oo 14 (.mks 1 8 [v0]) [.t 13,.t 13],ca 15 ziI [.t 10,.t 14],ma 2 15,oo 3 .mv [ki 0]] [[],[],[1],[2],[3,3],[0,4],[5,5,0,1,2,3,4,5],[6,0,1,2,3,4,5,6]])
 .ret)))⟩
def zmS : AFun:=⟨14,[(4,none)],
 (sr [oo 2 (.box 2) [.t 0],oo 4 .mv [ki 0]]
 (.seq (.seq
 (rg [oo 5 (.ld true 2) [.t 2],ma 6 1,ca 7 zhC [.t 5,.t 6],oo 8 (.un .not) [.t 7]])
 (.cond (.t 8)
 (sr [oo 4 .mv [ki 0]]
 .ret)
 .skip))
 (sr [oo 9 (.ld true 2) [.t 2],ma 10 1,ca 11 zen [.t 9,.t 10],oo 12 (.iad 1) [.t 11,ki 0],la 13 12,ma 4 13]
 .ret)))⟩
def zpx : AFun:=⟨79,[(4,none)],
 (sr [oo 2 (.box 3) [.t 0],oo 3 (.box 3) [.t 1],oo 4 .mv [.c (.bool false)]]
 (.seq (.seq
 (rg [fa 6 0 3,la 7 6,oo 8 .len [.t 7],oo 9 (.bin .eql) [.t 8,ki 0],ma 10 9,fh 11 0 3 10,lh 12 11 10,fh 13 0 2 10,lh 14 13 10,oh 15 .call [.f zeK,.t 12,.t 14] 10,oh 16 (.un .not) [.t 15] 10,oo 17 .pick [.t 10,.c (.bool true),.t 16],ma 18 17,fh 19 1 3 18,lh 20 19 18,oh 21 .len [.t 20] 18,oh 22 (.bin .lss) [.t 21,ki 1] 18,oo 23 .pick [.t 18,.c (.bool true),.t 22],ma 24 23,fh 25 1 3 24,lh 26 25 24,oh 27 .len [.t 26] 24,oh 28 (.bin .gtr) [.t 27,ki 8] 24,oo 29 .pick [.t 24,.c (.bool true),.t 28],ma 30 29,fh 31 2 3 30,lh 32 31 30,oh 33 (.bin .lss) [.t 32,ki 1] 30,oo 34 .pick [.t 30,.c (.bool true),.t 33],ma 35 34,fh 36 2 3 35,lh 37 36 35,oh 38 (.bin .gtr) [.t 37,ki 3] 35,oo 39 .pick [.t 35,.c (.bool true),.t 38]])
 (.cond (.t 39)
 (sr [oo 4 .mv [.c (.bool false)]]
 .ret)
 .skip))
 (.seq (.seq
 (rg [oo 5 .mv [ki 0]])
 (.block 0 (.loop
 (.seq (.seq
 (rg [ma 40 5,fa 41 1 3,la 42 41,oo 43 .len [.t 42],oo 44 (.bin .lss) [.t 40,.t 43]])
 (.cond (.t 44)
 .skip
 (.exit 0)))
 (.seq (.block 1 (.seq (.reg true [fa 47 1 3,la 48 47,ma 49 5,oo 50 (.iad 1) [.t 48,.t 49],la 51 50,oo 52 (.bin .lss) [.t 51,ki 1],ma 53 52,fh 54 1 3 53,lh 55 54 53,mh 56 5 53,oh 57 (.iad 1) [.t 55,.t 56] 53,lh 58 57 53,oh 59 (.bin .gtr) [.t 58,ki 1000] 53,oo 60 .pick [.t 53,.c (.bool true),.t 59],ma 61 60,mh 62 5 61,oh 63 (.bin .gtr) [.t 62,ki 0] 61,mh 64 63 61,fg 65 1 3 64,lg 66 65 64,mg 67 5 64,og 68 (.iad 1) [.t 66,.t 67] 64,lg 69 68 64,fg 70 1 3 64,lg 71 70 64,mg 72 5 64,og 73 (.bin .sub) [.t 72,ki 1] 64,og 74 (.iad 1) [.t 71,.t 73] 64,lg 75 74 64,og 76 (.bin .gtr) [.t 69,.t 75] 64,oh 77 .pick [.t 64,.t 76,.c (.bool false)] 61,oo 78 .pick [.t 61,.c (.bool true),.t 77]] [[],[0],[],[1,2],[3],[4],[5],[6],[7,6],[6],[8,9,6],[10,6],[11,6],[6,12],[13,6],[14],[15,14],[16,14,14],[17],[18,17],[17],[19,20,17],[21,17],[17],[23,17],[17],[25,17],[24,26,17],[27,17],[22,28,17],[17,29,14],[14,30]])
 (.cond (.t 78)
 (sr [oo 4 .mv [.c (.bool false)]]
 .ret)
 .skip)))
 (rg [ma 45 5,oo 46 (.bin .add) [.t 45,ki 1],ma 5 46]))))))
 (sr [oo 4 .mv [.c (.bool true)]]
 .ret))))⟩
def zdp : AFun:=⟨9,[(4,none)],
 (sr [oo 4 .mv [.c (.bool false)]]
 (sr [ma 5 0,ma 6 1,ca 7 zaD [.t 5,.t 6],oo 8 (.bin .geq) [.t 7,ki 0],ma 4 8]
 .ret))⟩
def zlH : AFun:=⟨14,[(3,none)],
 (sr [oo 2 (.box 3) [.t 0],oo 3 .mv [.c (.bool false)]]
 (sr [fa 4 0 2,la 5 4,la 6 1,oo 7 (.bin .eql) [.t 5,.t 6],ma 8 7,fh 9 1 2 8,lh 10 9 8,lh 11 1 8,oh 12 (.bin .eql) [.t 10,.t 11] 8,oo 13 .pick [.t 8,.c (.bool true),.t 12],ma 3 13]
 .ret))⟩
def znE : AFun:=⟨158,[(6,some (true,2)),(7,none)],
 (sr [oo 3 (.box 3) [.t 0],oo 4 (.box 3) [.t 1],oo 6 (.alloc [v0,vn]) [],oo 7 .mv [ki 0]]
 (.seq (.seq
 (rg [oo 18 (.ld true 3) [.t 3],oo 19 (.ld true 3) [.t 4],ca 20 zeh [.t 18,.t 19],ma 8 20])
 (sr [ma 21 8,oo 22 (.bin .neq) [.t 21,ki 0]]
 (.cond (.t 22)
 (sr [oo 23 (.build [v0,vn] []) [],ma 24 8,ou (.st 2) [.t 6,.t 23],ma 7 24]
 .ret)
 .skip)))
 (.seq (.seq
 (rg [ma 25 2,fa 26 0 3,la 27 26,ca 28 zeK [.t 25,.t 27],oo 29 (.un .not) [.t 28]])
 (.cond (.t 29)
 (sr [oo 30 (.build [v0,vn] []) [],ou (.st 2) [.t 6,.t 30],oo 7 .mv [ki 4]]
 .ret)
 .skip))
 (sr [oo 31 (.ld true 3) [.t 3],fa 32 2 4,la 33 32,ca 34 ze9 [.t 31,.t 33],ou (.st 3) [.t 3,.t 34]]
 (.seq (.reg true [oo 35 (.ld true 3) [.t 3],fa 36 0 4,la 37 36,ca 38 zg4 [.t 35,.t 37],oo 39 (.ld true 3) [.t 3],oo 40 (.ld true 3) [.t 4],ca 41 zkC [.t 39,.t 40],ma 9 38,ma 10 41] [[],[],[1],[0,2],[],[],[4,5,3],[3,6,0,1,2,3],[6,7,0,1,2,3,4,5,6,7]])
 (sr [fa 42 0 3,la 43 42,oo 44 (.bin .mul) [ki 2,.t 43],oo 45 (.bin .add) [ki 2,.t 44],oo 46 (.build [v0,vn] [(0,1)]) [.t 45],oo 11 (.alloc [v0,vn]) [],ou (.st 2) [.t 11,.t 46]]
 (.seq (.seq
 (rg [oo 12 .mv [ki 0]])
 (.block 0 (.loop
 (.seq (.seq
 (rg [ma 47 12,fa 48 0 4,la 49 48,oo 50 .len [.t 49],oo 51 (.bin .lss) [.t 47,.t 50]])
 (.cond (.t 51)
 .skip
 (.exit 0)))
 (.seq (.block 1 (sr [fa 54 0 4,la 55 54,ma 56 12,oo 57 (.iad 1) [.t 55,.t 56],la 58 57,ma 13 58]
 (sr [ma 59 9,ma 60 13,oo 61 (.iad 1) [.t 59,.t 60],la 62 61,oo 63 (.bin .geq) [.t 62,ki 0]]
 (.cond (.t 63)
 (.reg true [fa 64 1 11,la 65 64,ma 66 13,ca 67 zec [.t 66],ma 68 10,ma 69 13,oo 70 (.iad 1) [.t 68,.t 69],la 71 70,oo 72 (.build [v0,v0,v0] [(0,1),(1,1),(2,1)]) [ki 0,.t 67,.t 71],oo 73 (.bsl 3 1 [v0,v0,v0] [0]) [.t 72],oo 74 (.app 3 24) [.t 65,.t 73],fa 75 1 11,ou (.st 1) [.t 75,.t 74]] [[],[0],[],[2],[],[],[4,5],[6],[3,7],[8],[1,9,3],[0,1,2,3,4,5,6,7,8,9,10],[11,10,10,0,1,2,3,4,5,6,7,8,9,10]])
 .skip))))
 (rg [ma 52 12,oo 53 (.bin .add) [.t 52,ki 1],ma 12 53]))))))
 (.seq (.seq
 (rg [oo 14 .mv [ki 0]])
 (.block 2 (.loop
 (.seq (.seq
 (rg [ma 76 14,fa 77 0 3,la 78 77,oo 79 (.bin .lss) [.t 76,.t 78]])
 (.cond (.t 79)
 .skip
 (.exit 2)))
 (.seq (.block 3 (sr [ma 82 9,ma 83 14,oo 84 (.iad 1) [.t 82,.t 83],la 85 84,oo 86 (.bin .geq) [.t 85,ki 0]]
 (.cond (.t 86)
 (.reg true [fa 87 1 11,la 88 87,ma 89 14,ca 90 zec [.t 89],ma 91 14,ca 92 zhE [.t 91],ma 93 10,ma 94 14,oo 95 (.iad 1) [.t 93,.t 94],la 96 95,oo 97 (.bin .sub) [.t 96,ki 1],oo 98 (.build [v0,v0,v0] [(0,1),(1,1),(2,1)]) [.t 90,.t 92,.t 97],oo 99 (.bsl 3 1 [v0,v0,v0] [0]) [.t 98],oo 100 (.app 3 24) [.t 88,.t 99],fa 101 1 11,ou (.st 1) [.t 101,.t 100]] [[],[0],[],[2],[],[4,3],[],[],[6,7],[8],[9],[3,5,10],[11],[1,12,5],[0,1,2,3,4,5,6,7,8,9,10,11,12,13],[14,13,13,0,1,2,3,4,5,6,7,8,9,10,11,12,13]])
 .skip)))
 (rg [ma 80 14,oo 81 (.bin .add) [.t 80,ki 1],ma 14 81]))))))
 (.seq (.seq
 (rg [oo 15 .mv [ki 0]])
 (.block 4 (.loop
 (.seq (.seq
 (rg [ma 102 15,ma 103 2,oo 104 .len [.t 103],oo 105 (.bin .lss) [.t 102,.t 104]])
 (.cond (.t 105)
 .skip
 (.exit 4)))
 (.seq (.block 5 (sr [ma 108 9,ma 109 2,ma 110 15,oo 111 (.iad 1) [.t 109,.t 110],la 112 111,oo 113 (.iad 1) [.t 108,.t 112],la 114 113,oo 115 (.bin .geq) [.t 114,ki 0]]
 (.cond (.t 115)
 (.reg true [fa 116 1 11,la 117 116,ma 118 2,ma 119 15,oo 120 (.iad 1) [.t 118,.t 119],la 121 120,ca 122 zec [.t 121],oo 123 (.build [v0,v0,v0] [(0,1),(1,1),(2,1)]) [.t 122,ki 1,ki 1],oo 124 (.bsl 3 1 [v0,v0,v0] [0]) [.t 123],oo 125 (.app 3 24) [.t 117,.t 124],fa 126 1 11,ou (.st 1) [.t 126,.t 125]] [[],[0],[],[],[2,3],[4],[5],[6],[7],[1,8,6],[0,1,2,3,4,5,6,7,8,9],[10,9,9,0,1,2,3,4,5,6,7,8,9]])
 .skip)))
 (rg [ma 106 15,oo 107 (.bin .add) [.t 106,ki 1],ma 15 107]))))))
 (.seq (.seq
 (rg [oo 16 .mv [ki 0]])
 (.block 6 (.loop
 (.seq (.seq
 (rg [ma 127 16,fa 128 1 3,la 129 128,oo 130 .len [.t 129],oo 131 (.bin .lss) [.t 127,.t 130]])
 (.cond (.t 131)
 .skip
 (.exit 6)))
 (.seq (.block 7 (sr [fa 134 1 3,la 135 134,ma 136 16,oo 137 (.iad 3) [.t 135,.t 136],oo 138 (.ld true 3) [.t 137],oo 17 (.alloc [v0,v0,v0]) [],ou (.st 3) [.t 17,.t 138]]
 (sr [ma 139 9,fa 140 0 17,la 141 140,oo 142 (.iad 1) [.t 139,.t 141],la 143 142,oo 144 (.bin .geq) [.t 143,ki 0]]
 (.cond (.t 144)
 (.reg true [fa 145 1 11,la 146 145,fa 147 0 17,la 148 147,ca 149 zhE [.t 148],fa 150 1 17,la 151 150,ca 152 zec [.t 151],oo 153 (.build [v0,v0,v0] [(0,1),(1,1),(2,1)]) [.t 149,.t 152,ki 64],oo 154 (.bsl 3 1 [v0,v0,v0] [0]) [.t 153],oo 155 (.app 3 24) [.t 146,.t 154],fa 156 1 11,ou (.st 1) [.t 156,.t 155]] [[],[0],[],[2],[3],[],[5],[6,4],[4,7],[8],[1,9,7],[0,1,2,3,4,5,6,7,8,9,10],[11,10,10,0,1,2,3,4,5,6,7,8,9,10]])
 .skip))))
 (rg [ma 132 16,oo 133 (.bin .add) [.t 132,ki 1],ma 16 133]))))))
 (sr [oo 157 (.ld true 2) [.t 11],ou (.st 2) [.t 6,.t 157],oo 7 .mv [ki 0]]
 .ret)))))))))))⟩
def zmG : AFun:=⟨112,[(4,none)],
 (sr [oo 2 (.box 2) [.t 0],oo 4 .mv [kn]]
 (sr [fa 11 0 2,la 12 11,oo 13 (.mks 1 8 [v0]) [.t 12,.t 12],ma 5 13]
 (sr [fa 14 0 2,la 15 14,oo 16 (.mks 1 1 [(.bool false)]) [.t 15,.t 15],ma 6 16]
 (sr [ma 17 6,oo 18 (.iad 1) [.t 17,ki 0],ou (.st 1) [.t 18,.c (.bool true)]]
 (sr [oo 19 (.bsl 1 1 [v0] [0]) [ki 0],ma 7 19]
 (.seq (.block 0 (.loop
 (.seq (.seq
 (rg [ma 20 7,oo 21 .len [.t 20],oo 22 (.bin .gtr) [.t 21,ki 0]])
 (.cond (.t 22)
 .skip
 (.exit 0)))
 (.block 1 (sr [ma 23 7,oo 24 (.iad 1) [.t 23,ki 0],la 25 24,ma 8 25]
 (sr [ma 26 7,oo 27 (.slc 1 true false false) [.t 26,ki 1],ma 7 27]
 (sr [oo 9 .mv [ki 0]]
 (.block 2 (.loop
 (.seq (.seq
 (rg [ma 28 9,fa 29 1 2,la 30 29,oo 31 .len [.t 30],oo 32 (.bin .lss) [.t 28,.t 31]])
 (.cond (.t 32)
 .skip
 (.exit 2)))
 (.seq (.block 3 (sr [fa 35 1 2,la 36 35,ma 37 9,oo 38 (.iad 3) [.t 36,.t 37],oo 39 (.ld true 3) [.t 38],oo 10 (.alloc [v0,v0,v0]) [],ou (.st 3) [.t 10,.t 39]]
 (.seq (.seq
 (.reg true [fa 40 0 10,la 41 40,ma 42 8,oo 43 (.bin .eql) [.t 41,.t 42],ma 44 43,mg 45 1 44,mg 46 9 44,og 47 (.iad 1) [.t 45,.t 46] 44,lg 48 47 44,fg 49 2 10 44,lg 50 49 44,og 51 (.bin .lss) [.t 48,.t 50] 44,oo 52 .pick [.t 44,.t 51,.c (.bool false)],ma 53 52,mg 54 6 53,fg 55 1 10 53,lg 56 55 53,og 57 (.iad 1) [.t 54,.t 56] 53,lg 58 57 53,og 59 (.un .not) [.t 58] 53,oo 60 .pick [.t 53,.t 59,.c (.bool false)]] [[],[0],[],[1,2],[3],[4],[4],[5,6,4],[7,4],[4],[9,4],[8,10,4],[4,11],[12,4],[13],[13],[15,13],[14,16,13],[17,13],[18,13],[13,19]])
 (.cond (.t 60)
 (.seq (.reg true [ma 61 6,fa 62 1 10,la 63 62,ma 64 5,fa 65 1 10,la 66 65,ma 67 9,oo 68 (.bin .add) [.t 67,ki 1],oo 69 (.iad 1) [.t 61,.t 63],ou (.st 1) [.t 69,.c (.bool true)],oo 70 (.iad 1) [.t 64,.t 66],ou (.st 1) [.t 70,.t 68]] [[],[],[1],[],[],[4],[],[6],[0,2,0,1,2],[8,0,1,2],[3,5,0,1,2,3,4,5,6,7,8,9],[10,7,9,0,1,2,3,4,5,6,7,8,9]])
 (rg [ma 71 7,fa 72 1 10,la 73 72,oo 74 (.bsl 1 1 [v0] [0]) [.t 73],oo 75 (.app 1 8) [.t 71,.t 74],ma 7 75]))
 .skip))
 (sr [fa 76 1 10,la 77 76,ma 78 8,oo 79 (.bin .eql) [.t 77,.t 78],ma 80 79,mg 81 1 80,mg 82 9 80,og 83 (.iad 1) [.t 81,.t 82] 80,lg 84 83 80,og 85 (.bin .gtr) [.t 84,ki 0] 80,oo 86 .pick [.t 80,.t 85,.c (.bool false)],ma 87 86,mg 88 6 87,fg 89 0 10 87,lg 90 89 87,og 91 (.iad 1) [.t 88,.t 90] 87,lg 92 91 87,og 93 (.un .not) [.t 92] 87,oo 94 .pick [.t 87,.t 93,.c (.bool false)]]
 (.cond (.t 94)
 (.seq (.reg true [ma 95 6,fa 96 0 10,la 97 96,ma 98 5,fa 99 0 10,la 100 99,ma 101 9,oo 102 (.bin .add) [.t 101,ki 1],oo 103 (.un .neg) [.t 102],oo 104 (.iad 1) [.t 95,.t 97],ou (.st 1) [.t 104,.c (.bool true)],oo 105 (.iad 1) [.t 98,.t 100],ou (.st 1) [.t 105,.t 103]] [[],[],[1],[],[],[4],[],[6],[7],[0,2,0,1,2],[9,0,1,2],[3,5,0,1,2,3,4,5,6,7,8,9,10],[11,8,10,0,1,2,3,4,5,6,7,8,9,10]])
 (rg [ma 106 7,fa 107 0 10,la 108 107,oo 109 (.bsl 1 1 [v0] [0]) [.t 108],oo 110 (.app 1 8) [.t 106,.t 109],ma 7 110]))
 .skip)))))
 (rg [ma 33 9,oo 34 (.bin .add) [.t 33,ki 1],ma 9 34]))))))))))))
 (sr [ma 111 5,ma 4 111]
 .ret)))))))⟩
def zqy : AFun:=⟨80,[(2,none)],
 (sr [oo 1 (.box 2) [.t 0],oo 2 .mv [ki 0]]
 (.seq (.seq
 (rg [fa 5 0 1,la 6 5,oo 7 (.bin .lss) [.t 6,ki 2],ma 8 7,fh 9 0 1 8,lh 10 9 8,oh 11 (.bin .gtr) [.t 10,ki 130] 8,oo 12 .pick [.t 8,.c (.bool true),.t 11],ma 13 12,fh 14 1 1 13,lh 15 14 13,oh 16 .len [.t 15] 13,oh 17 (.bin .gtr) [.t 16,ki 1200] 13,oo 18 .pick [.t 13,.c (.bool true),.t 17]])
 (.cond (.t 18)
 (sr [oo 2 .mv [ki 16]]
 .ret)
 .skip))
 (.seq (.seq
 (rg [oo 3 .mv [ki 0]])
 (.block 0 (.loop
 (.seq (.seq
 (rg [ma 19 3,fa 20 1 1,la 21 20,oo 22 .len [.t 21],oo 23 (.bin .lss) [.t 19,.t 22]])
 (.cond (.t 23)
 .skip
 (.exit 0)))
 (.seq (.block 1 (sr [fa 26 1 1,la 27 26,ma 28 3,oo 29 (.iad 3) [.t 27,.t 28],oo 30 (.ld true 3) [.t 29],oo 4 (.alloc [v0,v0,v0]) [],ou (.st 3) [.t 4,.t 30]]
 (sr [fa 31 0 4,la 32 31,oo 33 (.bin .lss) [.t 32,ki 0],ma 34 33,fh 35 0 4 34,lh 36 35 34,fh 37 0 1 34,lh 38 37 34,oh 39 (.bin .geq) [.t 36,.t 38] 34,oo 40 .pick [.t 34,.c (.bool true),.t 39],ma 41 40,fh 42 1 4 41,lh 43 42 41,oh 44 (.bin .lss) [.t 43,ki 0] 41,oo 45 .pick [.t 41,.c (.bool true),.t 44],ma 46 45,fh 47 1 4 46,lh 48 47 46,fh 49 0 1 46,lh 50 49 46,oh 51 (.bin .geq) [.t 48,.t 50] 46,oo 52 .pick [.t 46,.c (.bool true),.t 51],ma 53 52,fh 54 0 4 53,lh 55 54 53,fh 56 1 4 53,lh 57 56 53,oh 58 (.bin .eql) [.t 55,.t 57] 53,oo 59 .pick [.t 53,.c (.bool true),.t 58],ma 60 59,fh 61 1 4 60,lh 62 61 60,oh 63 (.bin .eql) [.t 62,ki 0] 60,oo 64 .pick [.t 60,.c (.bool true),.t 63],ma 65 64,fh 66 0 4 65,lh 67 66 65,oh 68 (.bin .eql) [.t 67,ki 1] 65,oo 69 .pick [.t 65,.c (.bool true),.t 68],ma 70 69,fh 71 2 4 70,lh 72 71 70,oh 73 (.bin .lss) [.t 72,ki 0] 70,oo 74 .pick [.t 70,.c (.bool true),.t 73],ma 75 74,fh 76 2 4 75,lh 77 76 75,oh 78 (.bin .gtr) [.t 77,ki 1048576] 75,oo 79 .pick [.t 75,.c (.bool true),.t 78]]
 (.cond (.t 79)
 (sr [oo 2 .mv [ki 16]]
 .ret)
 .skip))))
 (rg [ma 24 3,oo 25 (.bin .add) [.t 24,ki 1],ma 3 25]))))))
 (sr [oo 2 .mv [ki 0]]
 .ret))))⟩
def zrg : AFun:=⟨87,[(4,none)],
 (sr [oo 2 (.box 2) [.t 0],oo 4 .mv [.c (.bool false)]]
 (.seq (.seq
 (rg [oo 8 (.ld true 2) [.t 2],ca 9 zgl [.t 8],oo 10 (.bin .neq) [.t 9,ki 0],ma 11 10,mh 12 1 11,oh 13 .len [.t 12] 11,fh 14 1 2 11,lh 15 14 11,oh 16 .len [.t 15] 11,oh 17 (.bin .neq) [.t 13,.t 16] 11,oo 18 .pick [.t 11,.c (.bool true),.t 17]])
 (.cond (.t 18)
 (sr [oo 4 .mv [.c (.bool false)]]
 .ret)
 .skip))
 (sr [fa 19 0 2,la 20 19,oo 21 (.mks 1 8 [v0]) [.t 20,.t 20],ma 5 21]
 (.seq (.seq
 (rg [oo 6 .mv [ki 0]])
 (.block 0 (.loop
 (.seq (.seq
 (rg [ma 22 6,ma 23 1,oo 24 .len [.t 23],oo 25 (.bin .lss) [.t 22,.t 24]])
 (.cond (.t 25)
 .skip
 (.exit 0)))
 (.seq (.block 1 (.seq (.seq
 (.reg true [ma 28 1,ma 29 6,oo 30 (.iad 1) [.t 28,.t 29],la 31 30,oo 32 (.bin .lss) [.t 31,ki 0],ma 33 32,mh 34 1 33,mh 35 6 33,oh 36 (.iad 1) [.t 34,.t 35] 33,lh 37 36 33,fh 38 1 2 33,lh 39 38 33,mh 40 6 33,oh 41 (.iad 3) [.t 39,.t 40] 33,fh 42 2 41 33,lh 43 42 33,oh 44 (.bin .gtr) [.t 37,.t 43] 33,oo 45 .pick [.t 33,.c (.bool true),.t 44]] [[],[],[0,1],[2],[3],[4],[5],[5],[6,7,5],[8,5],[5],[10,5],[5],[11,12,5],[13,5],[14,5],[9,15,5],[5,16]])
 (.cond (.t 45)
 (sr [oo 4 .mv [.c (.bool false)]]
 .ret)
 .skip))
 (.seq (.reg true [ma 46 5,fa 47 1 2,la 48 47,ma 49 6,oo 50 (.iad 3) [.t 48,.t 49],fa 51 0 50,la 52 51,oo 53 (.iad 1) [.t 46,.t 52],la 54 53,ma 55 1,ma 56 6,oo 57 (.iad 1) [.t 55,.t 56],la 58 57,oo 59 (.bin .sub) [.t 54,.t 58],oo 60 (.iad 1) [.t 46,.t 52],ou (.st 1) [.t 60,.t 59]] [[],[],[1],[],[2,3],[4],[5],[0,6],[7],[],[],[9,10],[11],[8,12],[0,6,0,1,2,3,4,5,6,7,8,9,10,11,12,13],[14,13,0,1,2,3,4,5,6,7,8,9,10,11,12,13]])
 (.reg true [ma 61 5,fa 62 1 2,la 63 62,ma 64 6,oo 65 (.iad 3) [.t 63,.t 64],fa 66 1 65,la 67 66,oo 68 (.iad 1) [.t 61,.t 67],la 69 68,ma 70 1,ma 71 6,oo 72 (.iad 1) [.t 70,.t 71],la 73 72,oo 74 (.bin .add) [.t 69,.t 73],oo 75 (.iad 1) [.t 61,.t 67],ou (.st 1) [.t 75,.t 74]] [[],[],[1],[],[2,3],[4],[5],[0,6],[7],[],[],[9,10],[11],[8,12],[0,6,0,1,2,3,4,5,6,7,8,9,10,11,12,13],[14,13,0,1,2,3,4,5,6,7,8,9,10,11,12,13]]))))
 (rg [ma 26 6,oo 27 (.bin .add) [.t 26,ki 1],ma 6 27]))))))
 (.seq (.seq
 (rg [oo 7 .mv [ki 2]])
 (.block 2 (.loop
 (.seq (.seq
 (rg [ma 76 7,fa 77 0 2,la 78 77,oo 79 (.bin .lss) [.t 76,.t 78]])
 (.cond (.t 79)
 .skip
 (.exit 2)))
 (.seq (.block 3 (sr [ma 82 5,ma 83 7,oo 84 (.iad 1) [.t 82,.t 83],la 85 84,oo 86 (.bin .neq) [.t 85,ki 0]]
 (.cond (.t 86)
 (sr [oo 4 .mv [.c (.bool false)]]
 .ret)
 .skip)))
 (rg [ma 80 7,oo 81 (.bin .add) [.t 80,ki 1],ma 7 81]))))))
 (sr [oo 4 .mv [.c (.bool true)]]
 .ret))))))⟩
def znB : AFun:=⟨123,[(6,some (true,2)),(7,none)],
 (sr [oo 3 (.box 3) [.t 0],oo 4 (.box 3) [.t 1],oo 6 (.alloc [v0,vn]) [],oo 7 .mv [ki 0]]
 (.seq (.seq
 (rg [oo 20 (.ld true 3) [.t 3],oo 21 (.ld true 3) [.t 4],ca 22 zbU [.t 20,.t 21],ma 8 22])
 (sr [ma 23 8,oo 24 (.bin .neq) [.t 23,ki 0]]
 (.cond (.t 24)
 (sr [oo 25 (.build [v0,vn] []) [],ma 26 8,ou (.st 2) [.t 6,.t 25],ma 7 26]
 .ret)
 .skip)))
 (.seq (.seq
 (rg [ma 27 2,fa 28 0 3,la 29 28,oo 30 (.bin .sub) [.t 29,ki 1],ca 31 zcc [.t 27,ki 0,.t 30],oo 32 (.un .not) [.t 31]])
 (.cond (.t 32)
 (sr [oo 33 (.build [v0,vn] []) [],ou (.st 2) [.t 6,.t 33],oo 7 .mv [ki 4]]
 .ret)
 .skip))
 (sr [fa 34 0 3,la 35 34,ca 36 zcR [.t 35],oo 37 (.build [v0,vn] [(0,1)]) [.t 36],oo 9 (.alloc [v0,vn]) [],ou (.st 2) [.t 9,.t 37]]
 (sr [oo 38 (.mkf zaP) [.t 9],ma 10 38]
 (sr [oo 39 (.ld true 3) [.t 3],oo 40 (.ld true 3) [.t 4],ca 41 zg9 [.t 39,.t 40],ma 11 41]
 (.seq (.seq
 (rg [fa 42 0 4,la 43 42,oo 44 .len [.t 43],oo 45 .mv [ki 0]])
 (.block 0 (.loop
 (sr [oo 46 (.bin .lss) [.t 45,.t 44]]
 (.seq (.cond (.t 46)
 .skip
 (.exit 0))
 (.seq (.block 1 (sr [oo 47 (.iad 1) [.t 43,.t 45],la 48 47,ma 13 48]
 (sr [ma 49 11,ma 50 13,oo 51 (.iad 1) [.t 49,.t 50],la 52 51,oo 53 (.bin .gtr) [.t 52,ki 0]]
 (.cond (.t 53)
 (.reg true [ma 54 10,ma 55 13,ca 56 zcR [.t 55],ma 57 11,ma 58 13,oo 59 (.iad 1) [.t 57,.t 58],la 60 59,oo 61 .call [.t 54,ki 0,.t 56,.t 60]] [[],[],[1],[],[],[3,4],[5],[0,2,6,2]])
 .skip))))
 (rg [oo 62 (.bin .add) [.t 45,ki 1],ma 45 62])))))))
 (.seq (.seq
 (rg [ma 63 11,oo 64 .len [.t 63],oo 65 .mv [ki 0]])
 (.block 2 (.loop
 (sr [oo 66 (.bin .lss) [.t 65,.t 64]]
 (.seq (.cond (.t 66)
 .skip
 (.exit 2))
 (.seq (.block 3 (sr [ma 67 65,oo 68 (.iad 1) [.t 63,.t 65],la 69 68,ma 14 67,ma 15 69]
 (sr [ma 70 15,oo 71 (.bin .gtr) [.t 70,ki 0]]
 (.cond (.t 71)
 (rg [ma 72 10,ma 73 14,ca 74 zcR [.t 73],ma 75 14,ca 76 zhc [.t 75],ma 77 15,oo 78 (.bin .sub) [.t 77,ki 1],oo 79 .call [.t 72,.t 74,.t 76,.t 78]])
 .skip))))
 (rg [oo 80 (.bin .add) [.t 65,ki 1],ma 65 80])))))))
 (.seq (.seq
 (rg [ma 81 2,oo 82 .len [.t 81],oo 83 .mv [ki 0]])
 (.block 4 (.loop
 (sr [oo 84 (.bin .lss) [.t 83,.t 82]]
 (.seq (.cond (.t 84)
 .skip
 (.exit 4))
 (.seq (.block 5 (sr [oo 85 (.iad 1) [.t 81,.t 83],la 86 85,ma 17 86]
 (sr [ma 87 11,ma 88 17,oo 89 (.iad 1) [.t 87,.t 88],la 90 89,oo 91 (.bin .gtr) [.t 90,ki 0]]
 (.cond (.t 91)
 (rg [ma 92 10,ma 93 17,ca 94 zcR [.t 93],oo 95 .call [.t 92,.t 94,ki 1,ki 1]])
 .skip))))
 (rg [oo 96 (.bin .add) [.t 83,ki 1],ma 83 96])))))))
 (.seq (.seq
 (rg [oo 97 (.ld true 3) [.t 3],fa 98 2 4,la 99 98,ca 100 zbV [.t 97,.t 99],oo 101 (.fld false 1 1) [.t 100],oo 102 .len [.t 101],oo 103 .mv [ki 0]])
 (.block 6 (.loop
 (sr [oo 104 (.bin .lss) [.t 103,.t 102]]
 (.seq (.cond (.t 104)
 .skip
 (.exit 6))
 (.seq (.block 7 (sr [oo 105 (.iad 3) [.t 101,.t 103],oo 106 (.ld true 3) [.t 105],oo 19 (.alloc [v0,v0,v0]) [],ou (.st 3) [.t 19,.t 106]]
 (sr [ma 107 11,fa 108 0 19,la 109 108,oo 110 (.iad 1) [.t 107,.t 109],la 111 110,oo 112 (.bin .gtr) [.t 111,ki 0]]
 (.cond (.t 112)
 (.reg true [ma 113 10,fa 114 0 19,la 115 114,ca 116 zhc [.t 115],fa 117 1 19,la 118 117,ca 119 zcR [.t 118],oo 120 .call [.t 113,.t 116,.t 119,ki 64]] [[],[],[1],[2],[],[4],[5,3],[0,3,6,6]])
 .skip))))
 (rg [oo 121 (.bin .add) [.t 103,ki 1],ma 103 121])))))))
 (sr [oo 122 (.ld true 2) [.t 9],ou (.st 2) [.t 6,.t 122],oo 7 .mv [ki 0]]
 .ret)))))))))))⟩
def zoF : AFun:=⟨6,[(2,none)],
 (sr [oo 2 .mv [kn]]
 (sr [ma 3 0,ca 4 zcS [.t 3],ca 5 zde [.t 4],ma 2 5]
 .ret))⟩
def zn2 : AFun:=⟨54,[(4,some (true,4))],
 (sr [oo 2 (.box 2) [.t 0],oo 4 (.alloc [v0,vn,vn,vn]) []]
 (.seq (.reg true [oo 8 (.ld true 2) [.t 2],ma 9 1,fa 10 0 2,la 11 10,oo 12 (.mks 1 24 [vn]) [.t 11,.t 11],oo 13 (.build [v0,vn,vn,vn] [(0,2),(2,1),(3,1)]) [.t 8,.t 9,.t 12],oo 5 (.alloc [v0,vn,vn,vn]) [],ou (.st 4) [.t 5,.t 13]] [[],[],[],[2],[3,3],[0,1,4],[],[6,5,0,1,2,3,4,5,6]])
 (.seq (.seq
 (rg [fa 14 1 2,la 15 14,oo 16 .len [.t 15],oo 17 .mv [ki 0]])
 (.block 0 (.loop
 (sr [oo 18 (.bin .lss) [.t 17,.t 16]]
 (.seq (.cond (.t 18)
 .skip
 (.exit 0))
 (.seq (.block 1 (sr [ma 19 17,oo 20 (.iad 3) [.t 15,.t 17],oo 21 (.ld true 3) [.t 20],oo 7 (.alloc [v0,v0,v0]) [],ma 6 19,ou (.st 3) [.t 7,.t 21]]
 (.seq (.reg true [fa 22 3 5,la 23 22,fa 24 0 7,la 25 24,fa 26 3 5,la 27 26,fa 28 0 7,la 29 28,oo 30 (.iad 1) [.t 27,.t 29],la 31 30,ma 32 6,oo 33 (.build [v0,(.bool false)] [(0,1),(1,1)]) [.t 32,.c (.bool false)],oo 34 (.bsl 2 1 [v0,(.bool false)] [0]) [.t 33],oo 35 (.app 2 16) [.t 31,.t 34],oo 36 (.iad 1) [.t 23,.t 25],ou (.st 1) [.t 36,.t 35]] [[],[0],[],[2],[],[4],[],[6],[5,7],[8],[],[10],[11],[9,12],[1,3,0,1,2,3,4,5,6,7,8,9,10,11,12,13],[14,13,13,0,1,2,3,4,5,6,7,8,9,10,11,12,13]])
 (.reg true [fa 37 3 5,la 38 37,fa 39 1 7,la 40 39,fa 41 3 5,la 42 41,fa 43 1 7,la 44 43,oo 45 (.iad 1) [.t 42,.t 44],la 46 45,ma 47 6,oo 48 (.build [v0,(.bool false)] [(0,1),(1,1)]) [.t 47,.c (.bool true)],oo 49 (.bsl 2 1 [v0,(.bool false)] [0]) [.t 48],oo 50 (.app 2 16) [.t 46,.t 49],oo 51 (.iad 1) [.t 38,.t 40],ou (.st 1) [.t 51,.t 50]] [[],[0],[],[2],[],[4],[],[6],[5,7],[8],[],[10],[11],[9,12],[1,3,0,1,2,3,4,5,6,7,8,9,10,11,12,13],[14,13,13,0,1,2,3,4,5,6,7,8,9,10,11,12,13]]))))
 (rg [oo 52 (.bin .add) [.t 17,ki 1],ma 17 52])))))))
 (sr [oo 53 (.ld true 4) [.t 5],ou (.st 4) [.t 4,.t 53]]
 .ret))))⟩
def zfg : AFun:=⟨59,[(2,none)],
 (sr [oo 1 (.box 4) [.t 0],oo 2 .mv [(.c (.map none))]]
 (sr [oo 11 .mkm [],oo 12 (.build [v0,(.bool false)] [(0,1)]) [ki (-1)],ou .mup [.t 11,ki 0,.t 12],ma 13 11,ma 3 13]
 (.seq (.seq
 (rg [oo 14 (.bsl 1 1 [v0] [0]) [ki 0],ma 4 14])
 (.block 0 (.loop
 (.seq (.seq
 (rg [ma 15 4,oo 16 .len [.t 15],oo 17 (.bin .gtr) [.t 16,ki 0]])
 (.cond (.t 17)
 .skip
 (.exit 0)))
 (.seq (.block 1 (.seq (.reg true [fa 20 3 1,la 21 20,ma 22 4,oo 23 (.iad 1) [.t 22,ki 0],la 24 23,oo 25 (.iad 1) [.t 21,.t 24],la 26 25,oo 27 .len [.t 26],oo 28 .mv [ki 0]] [[],[0],[],[2],[3],[1,4],[5],[6],[]])
 (.block 2 (.loop
 (sr [oo 29 (.bin .lss) [.t 28,.t 27]]
 (.seq (.cond (.t 29)
 .skip
 (.exit 2))
 (.seq (.block 3 (sr [oo 30 (.iad 2) [.t 26,.t 28],oo 31 (.ld true 2) [.t 30],oo 6 (.alloc [v0,(.bool false)]) [],ou (.st 2) [.t 6,.t 31]]
 (sr [oo 33 (.ld true 4) [.t 1],oo 34 (.ld true 2) [.t 6],ca 35 zci [.t 33,.t 34],ma 32 35,oo 36 (.ext 0) [.t 32],oo 37 (.ext 1) [.t 32],ma 7 36,ma 8 37]
 (sr [ma 39 3,ma 40 8,oo 41 (.mlk (.agg #[v0,(.bool false)]) true) [.t 39,.t 40],ma 38 41,oo 42 (.ext 0) [.t 38],oo 43 (.ext 1) [.t 38],oo 9 (.alloc [v0,(.bool false)]) [],ou (.st 2) [.t 9,.t 42],ma 10 43]
 (sr [ma 44 7,oo 45 (.bin .gtr) [.t 44,ki 0],ma 46 45,mg 47 10 46,og 48 (.un .not) [.t 47] 46,oo 49 .pick [.t 46,.t 48,.c (.bool false)]]
 (.cond (.t 49)
 (sr [ma 50 3,ma 51 8,oo 52 (.ld true 2) [.t 6],ou .mup [.t 50,.t 51,.t 52]]
 (rg [ma 53 4,ma 54 8,oo 55 (.bsl 1 1 [v0] [0]) [.t 54],oo 56 (.app 1 8) [.t 53,.t 55],ma 4 56]))
 .skip))))))
 (rg [oo 57 (.bin .add) [.t 28,ki 1],ma 28 57]))))))))
 (rg [ma 18 4,oo 19 (.slc 1 true false false) [.t 18,ki 1],ma 4 19]))))))
 (sr [ma 58 3,ma 2 58]
 .ret))))⟩
def zls : AFun:=⟨13,[(3,none)],
 (sr [oo 3 .mv [.c (.bool false)]]
 (sr [la 7 1,ma 8 0,oo 9 (.mlk (.agg #[v0,(.bool false)]) true) [.t 7,.t 8],ma 6 9,oo 10 (.ext 0) [.t 6],oo 11 (.ext 1) [.t 6],oo 4 (.alloc [v0,(.bool false)]) [],ou (.st 2) [.t 4,.t 10],ma 5 11]
 (sr [ma 12 5,ma 3 12]
 .ret)))⟩
def ze1 : AFun:=⟨22,[(4,none)],
 (sr [oo 4 .mv [(.c (.int .u64 0))]]
 (sr [ma 10 0,ma 11 1,ca 12 zb6 [.t 10,.t 11],ma 9 12,oo 13 (.ext 0) [.t 9],oo 14 (.ext 1) [.t 9],ma 5 13,ma 6 14]
 (sr [ma 16 5,ma 17 6,ca 18 zdP [.t 16,.t 17,(.c (.int .u64 2305843009213693951))],ma 15 18,oo 19 (.ext 0) [.t 15],oo 20 (.ext 1) [.t 15],ma 7 19,ma 8 20]
 (sr [ma 21 8,ma 4 21]
 .ret))))⟩
def zf6 : AFun:=⟨19,[(2,none)],
 (sr [oo 2 .mv [(.c (.int .u64 0))]]
 (sr [oo 3 .mv [(.c (.int .u64 1))]]
 (.seq (.seq
 (rg [oo 4 .mv [(.c (.int .u64 2305843009213693949))]])
 (.block 0 (.loop
 (.seq (.seq
 (rg [ma 5 4,oo 6 (.bin .gtr) [.t 5,(.c (.int .u64 0))]])
 (.cond (.t 6)
 .skip
 (.exit 0)))
 (.seq (.block 1 (.seq (.seq
 (rg [ma 9 4,oo 10 (.bin .and) [.t 9,(.c (.int .u64 1))],oo 11 (.bin .eql) [.t 10,(.c (.int .u64 1))]])
 (.cond (.t 11)
 (rg [ma 12 3,ma 13 0,ca 14 za5 [.t 12,.t 13],ma 3 14])
 .skip))
 (rg [ma 15 0,ma 16 0,ca 17 za5 [.t 15,.t 16],ma 0 17])))
 (rg [ma 7 4,oo 8 (.bin .shr) [.t 7,(.c (.int .u64 1))],ma 4 8]))))))
 (sr [ma 18 3,ma 2 18]
 .ret))))⟩
def zfw : AFun:=⟨49,[(8,none)],
 (sr [oo 4 (.box 5) [.t 0],oo 8 .mv [kn]]
 (sr [ma 13 1,ma 14 2,oo 15 (.bsl 1 2 [v0] [0,1]) [.t 13,.t 14],ma 9 15]
 (.seq (.block 0 (.loop
 (.seq (.seq
 (rg [ma 16 9,oo 17 .len [.t 16],ma 18 3,oo 19 (.bin .leq) [.t 17,.t 18]])
 (.cond (.t 19)
 .skip
 (.exit 0)))
 (.block 1 (.seq (.reg true [ma 20 9,ma 21 9,oo 22 .len [.t 21],oo 23 (.bin .sub) [.t 22,ki 2],oo 24 (.iad 1) [.t 20,.t 23],la 25 24,ma 26 9,ma 27 9,oo 28 .len [.t 27],oo 29 (.bin .sub) [.t 28,ki 1],oo 30 (.iad 1) [.t 26,.t 29],la 31 30,ma 10 25,ma 11 31] [[],[],[1],[2],[0,3],[4],[],[],[7],[8],[6,9],[10],[5,0,1,2,3,4,5],[11,12,0,1,2,3,4,5,6,7,8,9,10,11,12]])
 (sr [oo 32 (.ld true 5) [.t 4],ma 33 11,ca 34 zdA [.t 32,.t 33],ma 12 34]
 (rg [ma 35 9,ma 36 12,ma 37 12,ma 38 10,ca 39 za0 [.t 37,.t 38],oo 40 (.bin .add) [.t 39,ki 1],ma 41 12,oo 42 .len [.t 41],oo 43 (.bin .rem) [.t 40,.t 42],oo 44 (.iad 1) [.t 36,.t 43],la 45 44,oo 46 (.bsl 1 1 [v0] [0]) [.t 45],oo 47 (.app 1 8) [.t 35,.t 46],ma 9 47])))))))
 (sr [ma 48 9,ma 8 48]
 .ret))))⟩
def zgj : AFun:=⟨15,[(4,none)],
 (sr [oo 2 (.box 3) [.t 0],oo 4 .mv [kn]]
 (.seq (.reg true [oo 5 (.ld true 3) [.t 2],ma 6 1,ca 7 zeP [.t 5,.t 6],oo 8 (.ld true 3) [.t 2],ma 9 1,ca 10 zmc [.t 8,.t 9],oo 11 (.bsl 1 2 [vn] [0,1]) [.t 7,.t 10],ca 12 zcT [.t 11],ca 13 zcZ [.t 12],ca 14 zcO [.t 13],ma 4 14] [[],[],[0,1],[],[],[3,4,2],[2,5],[6,5],[7,7],[8,8],[9,9,0,1,2,3,4,5,6,7,8,9]])
 .ret))⟩
def zlh : AFun:=⟨6,[(2,none)],
 (sr [oo 2 .mv [ki 0]]
 (sr [ma 3 0,oo 4 (.bin .mul) [ki 2,.t 3],oo 5 (.bin .add) [ki 2,.t 4],ma 2 5]
 .ret))⟩
def zmK : AFun:=⟨21,[(2,none)],
 (sr [oo 1 (.box 2) [.t 0],oo 2 .mv [ki 0]]
 (sr [oo 4 (.mkf zdK) [.t 1],ma 3 4]
 (.seq (.seq
 (rg [fa 5 0 1,la 6 5,ca 7 zaF [.t 6,ki 2,ki 130],oo 8 (.un .not) [.t 7],ma 9 8,fh 10 1 1 9,lh 11 10 9,oh 12 .len [.t 11] 9,oh 13 (.bin .gtr) [.t 12,ki 1200] 9,oo 14 .pick [.t 9,.c (.bool true),.t 13],ma 15 14,fh 16 1 1 15,lh 17 16 15,mh 18 3 15,oh 19 .call [.f za2,.t 17,.t 18] 15,oo 20 .pick [.t 15,.c (.bool true),.t 19]])
 (.cond (.t 20)
 (sr [oo 2 .mv [ki 16]]
 .ret)
 .skip))
 (sr [oo 2 .mv [ki 0]]
 .ret))))⟩
def zoo : AFun:=⟨14,[(4,none)],
 (sr [oo 2 (.box 2) [.t 0],oo 4 .mv [kn]]
 (.seq (.reg true [oo 6 (.ld true 2) [.t 2],ma 7 1,ca 8 za1 [.t 7],ca 9 zgQ [.t 6,.t 8],oo 5 (.alloc [v0,vn,vn,vn]) [],ou (.st 4) [.t 5,.t 9]] [[],[],[1],[0,2,2],[],[4,3,3,0,1,2,3,4]])
 (.seq (.block 0 (.loop
 (.seq (.seq
 (rg [oo 10 (.ld true 4) [.t 5],ca 11 zcV [.t 10]])
 (.cond (.t 11)
 .skip
 (.exit 0)))
 (.block 1
 .skip))))
 (sr [fa 12 2 5,la 13 12,ma 4 13]
 .ret))))⟩
def zmD : AFun:=⟨41,[(4,none)],
 (sr [oo 2 (.box 2) [.t 0],oo 4 .mv [.c (.bool false)]]
 (.seq (.seq
 (rg [oo 7 (.ld true 2) [.t 2],ca 8 zf1 [.t 7],oo 9 (.bin .neq) [.t 8,ki 0],ma 10 9,mh 11 1 10,oh 12 .len [.t 11] 10,fh 13 1 2 10,lh 14 13 10,oh 15 .len [.t 14] 10,oh 16 (.bin .neq) [.t 12,.t 15] 10,oo 17 .pick [.t 10,.c (.bool true),.t 16]])
 (.cond (.t 17)
 (sr [oo 4 .mv [.c (.bool false)]]
 .ret)
 .skip))
 (.seq (.seq
 (rg [fa 18 1 2,la 19 18,oo 20 .len [.t 19],oo 21 .mv [ki 0]])
 (.block 0 (.loop
 (sr [oo 22 (.bin .lss) [.t 21,.t 20]]
 (.seq (.cond (.t 22)
 .skip
 (.exit 0))
 (.seq (.block 1 (sr [ma 23 21,oo 24 (.iad 3) [.t 19,.t 21],oo 25 (.ld true 3) [.t 24],oo 6 (.alloc [v0,v0,v0]) [],ma 5 23,ou (.st 3) [.t 6,.t 25]]
 (.seq (.reg true [ma 26 1,ma 27 5,oo 28 (.iad 1) [.t 26,.t 27],la 29 28,fa 30 2 6,la 31 30,ca 32 zaF [.t 29,ki 0,.t 31],oo 33 (.un .not) [.t 32]] [[],[],[0,1],[2],[],[4],[3,5],[6]])
 (.cond (.t 33)
 (sr [oo 4 .mv [.c (.bool false)]]
 .ret)
 .skip))))
 (rg [oo 34 (.bin .add) [.t 21,ki 1],ma 21 34])))))))
 (sr [oo 35 (.ld true 2) [.t 2],ma 36 1,ca 37 zen [.t 35,.t 36],oo 38 (.slc 1 true false false) [.t 37,ki 2],ca 39 zaW [.t 38,(.f zdF)],oo 40 (.un .not) [.t 39],ma 4 40]
 .ret))))⟩
def zkl : AFun:=⟨43,[(4,none)],
 (sr [oo 2 (.box 2) [.t 0],oo 4 .mv [kn]]
 (sr [fa 8 0 2,la 9 8,oo 10 (.mks 1 8 [v0]) [.t 9,.t 9],ma 5 10]
 (.seq (.seq
 (rg [fa 11 1 2,la 12 11,oo 13 .len [.t 12],oo 14 .mv [ki 0]])
 (.block 0 (.loop
 (sr [oo 15 (.bin .lss) [.t 14,.t 13]]
 (.seq (.cond (.t 15)
 .skip
 (.exit 0))
 (.seq (.block 1 (sr [ma 16 14,oo 17 (.iad 3) [.t 12,.t 14],oo 18 (.ld true 3) [.t 17],oo 7 (.alloc [v0,v0,v0]) [],ma 6 16,ou (.st 3) [.t 7,.t 18]]
 (.seq (.reg true [ma 19 5,fa 20 0 7,la 21 20,oo 22 (.iad 1) [.t 19,.t 21],la 23 22,ma 24 1,ma 25 6,oo 26 (.iad 1) [.t 24,.t 25],la 27 26,oo 28 (.bin .add) [.t 23,.t 27],oo 29 (.iad 1) [.t 19,.t 21],ou (.st 1) [.t 29,.t 28]] [[],[],[1],[0,2],[3],[],[],[5,6],[7],[4,8],[0,2,0,1,2,3,4,5,6,7,8,9],[10,9,0,1,2,3,4,5,6,7,8,9]])
 (.reg true [ma 30 5,fa 31 1 7,la 32 31,oo 33 (.iad 1) [.t 30,.t 32],la 34 33,ma 35 1,ma 36 6,oo 37 (.iad 1) [.t 35,.t 36],la 38 37,oo 39 (.bin .sub) [.t 34,.t 38],oo 40 (.iad 1) [.t 30,.t 32],ou (.st 1) [.t 40,.t 39]] [[],[],[1],[0,2],[3],[],[],[5,6],[7],[4,8],[0,2,0,1,2,3,4,5,6,7,8,9],[10,9,0,1,2,3,4,5,6,7,8,9]]))))
 (rg [oo 41 (.bin .add) [.t 14,ki 1],ma 14 41])))))))
 (sr [ma 42 5,ma 4 42]
 .ret))))⟩
def zqZ : AFun:=⟨6,[(2,none)],
 (sr [oo 2 .mv [ki 0]]
 (sr [ma 3 0,oo 4 (.bin .mul) [ki 2,.t 3],oo 5 (.bin .add) [ki 2,.t 4],ma 2 5]
 .ret))⟩
def zrm : AFun:=⟨6,[(2,none)],
 (sr [oo 2 .mv [ki 0]]
 (sr [ma 3 0,oo 4 (.bin .mul) [ki 2,.t 3],oo 5 (.bin .add) [ki 3,.t 4],ma 2 5]
 .ret))⟩
def zqh : AFun:=⟨6,[(2,none)],
 (sr [oo 2 .mv [ki 0]]
 (sr [ma 3 0,oo 4 (.bin .mul) [ki 2,.t 3],oo 5 (.bin .add) [ki 2,.t 4],ma 2 5]
 .ret))⟩
def zk3 : AFun:=⟨16,[],
 (rg [fa 7 1 3,la 8 7,ma 9 0,ma 10 1,ma 11 2,oo 12 (.build [v0,v0,v0] [(0,1),(1,1),(2,1)]) [.t 9,.t 10,.t 11],oo 13 (.bsl 3 1 [v0,v0,v0] [0]) [.t 12],oo 14 (.app 3 24) [.t 8,.t 13],fa 15 1 3,ou (.st 1) [.t 15,.t 14]])⟩
def zpa : AFun:=⟨30,[(4,none)],
 (sr [oo 2 (.box 3) [.t 0],oo 3 (.box 3) [.t 1],oo 4 .mv [kn]]
 (.seq (.reg true [oo 8 (.ld true 3) [.t 2],fa 9 2 3,la 10 9,ca 11 zbV [.t 8,.t 10],fa 12 0 3,la 13 12,ca 14 zcU [.t 11,.t 13],ma 5 14] [[],[],[1],[0,2],[],[4],[3,5,3],[6,6,0,1,2,3,4,5,6]])
 (.seq (.seq
 (rg [ma 15 5,oo 16 .len [.t 15],oo 17 .mv [ki 0]])
 (.block 0 (.loop
 (sr [oo 18 (.bin .lss) [.t 17,.t 16]]
 (.seq (.cond (.t 18)
 .skip
 (.exit 0))
 (.seq (.block 1 (sr [ma 19 17,oo 20 (.iad 1) [.t 15,.t 17],la 21 20,ma 6 19,ma 7 21]
 (rg [ma 22 5,ma 23 6,oo 24 (.ld true 3) [.t 3],ma 25 7,ca 26 zh0 [.t 24,.t 25],oo 27 (.iad 1) [.t 22,.t 23],ou (.st 1) [.t 27,.t 26]])))
 (rg [oo 28 (.bin .add) [.t 17,ki 1],ma 17 28])))))))
 (sr [ma 29 5,ma 4 29]
 .ret))))⟩
def zr2 : AFun:=⟨6,[(2,none)],
 (sr [oo 2 .mv [ki 0]]
 (sr [ma 3 0,ca 4 zcR [.t 3],oo 5 (.bin .add) [.t 4,ki 1],ma 2 5]
 .ret))⟩
def zkf : AFun:=⟨9,[(2,none)],
 (sr [oo 2 .mv [kn]]
 (sr [ma 4 0,ca 5 zd8 [.t 4],ma 3 5]
 (sr [ma 6 3,ca 7 zaX [.t 6]]
 (sr [ma 8 3,ma 2 8]
 .ret))))⟩
def zhm : AFun:=⟨4,[(2,none)],
 (sr [oo 1 (.box 1) [.t 0],oo 2 .mv [(.c .nilFunc)]]
 (sr [oo 3 (.mkf zcu) [.t 1],ma 2 3]
 .ret))⟩
def zfW : AFun:=⟨35,[(4,none),(5,none)],
 (sr [oo 2 (.box 4) [.t 0],oo 3 (.box 2) [.t 1],oo 4 .mv [ki 0],oo 5 .mv [ki 0]]
 (sr [fa 7 0 2,fa 8 1 7,la 9 8,fa 10 0 3,la 11 10,oo 12 (.iad 3) [.t 9,.t 11],oo 13 (.ld true 3) [.t 12],oo 6 (.alloc [v0,v0,v0]) [],ou (.st 3) [.t 6,.t 13]]
 (.seq (.seq
 (rg [fa 14 1 3,la 15 14])
 (.cond (.t 15)
 (.seq (.reg true [fa 16 2 2,la 17 16,fa 18 0 3,la 19 18,oo 20 (.iad 1) [.t 17,.t 19],la 21 20,fa 22 0 6,la 23 22,ma 4 21,ma 5 23] [[],[0],[],[2],[1,3],[4],[],[6],[5,0,1,2,3,4,5],[7,8,0,1,2,3,4,5,6,7,8]])
 .ret)
 .skip))
 (.seq (.reg true [fa 24 2 6,la 25 24,fa 26 2 2,la 27 26,fa 28 0 3,la 29 28,oo 30 (.iad 1) [.t 27,.t 29],la 31 30,oo 32 (.bin .sub) [.t 25,.t 31],fa 33 1 6,la 34 33,ma 4 32,ma 5 34] [[],[0],[],[2],[],[4],[3,5],[6],[1,7],[],[9],[8,0,1,2,3,4,5,6,7,8],[10,11,0,1,2,3,4,5,6,7,8,9,10,11]])
 .ret))))⟩
def zfp : AFun:=⟨135,[(6,none),(7,none)],
 (sr [oo 6 .mv [(.c (.int .u64 0))],oo 7 .mv [(.c (.int .u64 0))]]
 (.seq (.seq
 (rg [ma 19 2,oo 20 (.bin .eql) [.t 19,(.c (.int .u64 0))]])
 (.cond (.t 20)
 (rg [oo 21 (.ld false 1) [(.c (.pointer (some ⟨0,0,none⟩)))],ou .bad []])
 .skip))
 (.seq (.seq
 (rg [ma 22 2,ma 23 0,oo 24 (.bin .leq) [.t 22,.t 23]])
 (.cond (.t 24)
 (rg [oo 25 (.ld false 1) [(.c (.pointer (some ⟨1,0,none⟩)))],ou .bad []])
 .skip))
 (.seq (.seq
 (rg [ma 26 0,oo 27 (.bin .eql) [.t 26,(.c (.int .u64 0))]])
 (.cond (.t 27)
 (.seq (.reg true [ma 28 1,ma 29 2,oo 30 (.bin .quo) [.t 28,.t 29],ma 31 1,ma 32 2,oo 33 (.bin .rem) [.t 31,.t 32],ma 6 30,ma 7 33] [[],[],[0,1],[],[],[3,4],[2,0,1,2],[5,6,0,1,2,3,4,5,6]])
 .ret)
 .skip))
 (sr [ma 34 2,ca 35 zbN [.t 34],oo 36 (.cvt .u64) [.t 35],ma 8 36]
 (sr [ma 37 2,ma 38 8,oo 39 (.bin .shl) [.t 37,.t 38],ma 2 39]
 (sr [ma 40 2,oo 41 (.bin .shr) [.t 40,(.c (.int .u64 32))],ma 9 41]
 (sr [ma 42 2,oo 43 (.bin .and) [.t 42,(.c (.int .u64 4294967295))],ma 10 43]
 (sr [ma 44 0,ma 45 8,oo 46 (.bin .shl) [.t 44,.t 45],ma 47 1,ma 48 8,oo 49 (.bin .sub) [(.c (.int .u64 64)),.t 48],oo 50 (.bin .shr) [.t 47,.t 49],oo 51 (.bin .or) [.t 46,.t 50],ma 11 51]
 (sr [ma 52 1,ma 53 8,oo 54 (.bin .shl) [.t 52,.t 53],ma 12 54]
 (sr [ma 55 12,oo 56 (.bin .shr) [.t 55,(.c (.int .u64 32))],ma 13 56]
 (sr [ma 57 12,oo 58 (.bin .and) [.t 57,(.c (.int .u64 4294967295))],ma 14 58]
 (sr [ma 59 11,ma 60 9,oo 61 (.bin .quo) [.t 59,.t 60],ma 15 61]
 (sr [ma 62 11,ma 63 15,ma 64 9,oo 65 (.bin .mul) [.t 63,.t 64],oo 66 (.bin .sub) [.t 62,.t 65],ma 16 66]
 (.seq (.block 0 (.loop
 (.seq (.seq
 (rg [ma 67 15,oo 68 (.bin .geq) [.t 67,(.c (.int .u64 4294967296))],ma 69 68,mh 70 15 69,mh 71 10 69,oh 72 (.bin .mul) [.t 70,.t 71] 69,mh 73 16 69,oh 74 (.bin .mul) [(.c (.int .u64 4294967296)),.t 73] 69,mh 75 13 69,oh 76 (.bin .add) [.t 74,.t 75] 69,oh 77 (.bin .gtr) [.t 72,.t 76] 69,oo 78 .pick [.t 69,.c (.bool true),.t 77]])
 (.cond (.t 78)
 .skip
 (.exit 0)))
 (.block 1 (sr [ma 79 15,oo 80 (.bin .sub) [.t 79,(.c (.int .u64 1))],ma 15 80]
 (sr [ma 81 16,ma 82 9,oo 83 (.bin .add) [.t 81,.t 82],ma 16 83]
 (sr [ma 84 16,oo 85 (.bin .geq) [.t 84,(.c (.int .u64 4294967296))]]
 (.cond (.t 85)
 (.exit 0)
 .skip))))))))
 (sr [ma 86 11,oo 87 (.bin .mul) [.t 86,(.c (.int .u64 4294967296))],ma 88 13,oo 89 (.bin .add) [.t 87,.t 88],ma 90 15,ma 91 2,oo 92 (.bin .mul) [.t 90,.t 91],oo 93 (.bin .sub) [.t 89,.t 92],ma 17 93]
 (sr [ma 94 17,ma 95 9,oo 96 (.bin .quo) [.t 94,.t 95],ma 18 96]
 (sr [ma 97 17,ma 98 18,ma 99 9,oo 100 (.bin .mul) [.t 98,.t 99],oo 101 (.bin .sub) [.t 97,.t 100],ma 16 101]
 (.seq (.block 2 (.loop
 (.seq (.seq
 (rg [ma 102 18,oo 103 (.bin .geq) [.t 102,(.c (.int .u64 4294967296))],ma 104 103,mh 105 18 104,mh 106 10 104,oh 107 (.bin .mul) [.t 105,.t 106] 104,mh 108 16 104,oh 109 (.bin .mul) [(.c (.int .u64 4294967296)),.t 108] 104,mh 110 14 104,oh 111 (.bin .add) [.t 109,.t 110] 104,oh 112 (.bin .gtr) [.t 107,.t 111] 104,oo 113 .pick [.t 104,.c (.bool true),.t 112]])
 (.cond (.t 113)
 .skip
 (.exit 2)))
 (.block 3 (sr [ma 114 18,oo 115 (.bin .sub) [.t 114,(.c (.int .u64 1))],ma 18 115]
 (sr [ma 116 16,ma 117 9,oo 118 (.bin .add) [.t 116,.t 117],ma 16 118]
 (sr [ma 119 16,oo 120 (.bin .geq) [.t 119,(.c (.int .u64 4294967296))]]
 (.cond (.t 120)
 (.exit 2)
 .skip))))))))
 (sr [ma 121 15,oo 122 (.bin .mul) [.t 121,(.c (.int .u64 4294967296))],ma 123 18,oo 124 (.bin .add) [.t 122,.t 123],ma 125 17,oo 126 (.bin .mul) [.t 125,(.c (.int .u64 4294967296))],ma 127 14,oo 128 (.bin .add) [.t 126,.t 127],ma 129 18,ma 130 2,oo 131 (.bin .mul) [.t 129,.t 130],oo 132 (.bin .sub) [.t 128,.t 131],ma 133 8,oo 134 (.bin .shr) [.t 132,.t 133],ma 6 124,ma 7 134]
 .ret))))))))))))))))))))⟩
def zfy : AFun:=⟨27,[(4,none)],
 (sr [oo 2 (.box 5) [.t 0],oo 4 .mv [kn]]
 (sr [fa 8 4 2,la 9 8,ma 10 1,oo 11 (.mlk vn true) [.t 9,.t 10],ma 7 11,oo 12 (.ext 0) [.t 7],oo 13 (.ext 1) [.t 7],ma 5 12,ma 6 13]
 (.seq (.seq
 (rg [ma 14 6,oo 15 (.un .not) [.t 14]])
 (.cond (.t 15)
 (sr [fa 16 0 2,oo 17 (.ld true 3) [.t 16],fa 18 3 2,la 19 18,ma 20 1,ca 21 zhp [.t 17,.t 19,.t 20],ma 5 21]
 (rg [fa 22 4 2,la 23 22,ma 24 1,ma 25 5,ou .mup [.t 23,.t 24,.t 25]]))
 .skip))
 (sr [ma 26 5,ma 4 26]
 .ret))))⟩
def zeo : AFun:=⟨36,[(2,none)],
 (sr [oo 2 .mv [kn]]
 (sr [oo 3 .mv [ki 0]]
 (.seq (.seq
 (rg [ma 9 0,oo 10 .len [.t 9],oo 11 .mv [ki 0]])
 (.block 0 (.loop
 (sr [oo 12 (.bin .lss) [.t 11,.t 10]]
 (.seq (.cond (.t 12)
 .skip
 (.exit 0))
 (.seq (.block 1 (sr [oo 13 (.iad 1) [.t 9,.t 11],la 14 13,ma 5 14]
 (sr [ma 15 3,ma 16 5,oo 17 .len [.t 16],oo 18 (.bin .add) [.t 15,.t 17],ma 3 18]
 (sr [ma 19 3,oo 20 (.bin .lss) [.t 19,ki 0]]
 (.cond (.t 20)
 (rg [oo 21 .bad [],ou .bad []])
 .skip)))))
 (rg [oo 22 (.bin .add) [.t 11,ki 1],ma 11 22])))))))
 (sr [ma 23 3,ca 24 zdr [kn,.t 23],ma 6 24]
 (.seq (.seq
 (rg [ma 25 0,oo 26 .len [.t 25],oo 27 .mv [ki 0]])
 (.block 2 (.loop
 (sr [oo 28 (.bin .lss) [.t 27,.t 26]]
 (.seq (.cond (.t 28)
 .skip
 (.exit 2))
 (.seq (.block 3 (sr [oo 29 (.iad 1) [.t 25,.t 27],la 30 29,ma 8 30]
 (rg [ma 31 6,ma 32 8,oo 33 (.app 1 8) [.t 31,.t 32],ma 6 33])))
 (rg [oo 34 (.bin .add) [.t 27,ki 1],ma 27 34])))))))
 (sr [ma 35 6,ma 2 35]
 .ret))))))⟩
def zi2 : AFun:=⟨43,[(3,none)],
 (sr [oo 2 (.box 3) [.t 0],oo 3 .mv [.c (.bool false)]]
 (sr [fa 4 0 2,la 5 4,fa 6 0 1,la 7 6,oo 8 (.bin .sub) [.t 7,ki 1],ca 9 zaF [.t 5,ki 0,.t 8],oo 10 (.un .not) [.t 9],ma 11 10,fh 12 1 2 11,lh 13 12 11,fh 14 0 1 11,lh 15 14 11,oh 16 (.bin .sub) [.t 15,ki 1] 11,oh 17 .call [.f zaF,.t 13,ki 0,.t 16] 11,oh 18 (.un .not) [.t 17] 11,oo 19 .pick [.t 11,.c (.bool true),.t 18],ma 20 19,fh 21 0 2 20,lh 22 21 20,fh 23 1 2 20,lh 24 23 20,oh 25 (.bin .eql) [.t 22,.t 24] 20,oo 26 .pick [.t 20,.c (.bool true),.t 25],ma 27 26,fh 28 1 2 27,lh 29 28 27,oh 30 (.bin .eql) [.t 29,ki 0] 27,oo 31 .pick [.t 27,.c (.bool true),.t 30],ma 32 31,fh 33 0 2 32,lh 34 33 32,oh 35 (.bin .eql) [.t 34,ki 1] 32,oo 36 .pick [.t 32,.c (.bool true),.t 35],ma 37 36,fh 38 2 2 37,lh 39 38 37,oh 40 .call [.f zaF,.t 39,ki 0,ki 1048576] 37,oh 41 (.un .not) [.t 40] 37,oo 42 .pick [.t 37,.c (.bool true),.t 41],ma 3 42]
 .ret))⟩
def zb8 : AFun:=⟨9,[(4,none)],
 (sr [oo 4 .mv [.c (.bool false)]]
 (sr [ma 5 0,ma 6 1,ca 7 za8 [.t 5,.t 6],oo 8 (.bin .geq) [.t 7,ki 0],ma 4 8]
 .ret))⟩
def zfP : AFun:=⟨86,[(2,none)],
 (sr [oo 1 (.box 4) [.t 0],oo 2 .mv [.c (.bool false)]]
 (sr [oo 14 (.ld true 4) [.t 1],ca 15 zbR [.t 14],ma 3 15]
 (.seq (.seq
 (rg [ma 17 3,oo 18 (.mlk (.agg #[v0,(.bool false)]) true) [.t 17,ki 1],ma 16 18,oo 19 (.ext 0) [.t 16],oo 20 (.ext 1) [.t 16],oo 4 (.alloc [v0,(.bool false)]) [],ou (.st 2) [.t 4,.t 19],ma 5 20])
 (sr [ma 21 5,oo 22 (.un .not) [.t 21]]
 (.cond (.t 22)
 (sr [oo 2 .mv [.c (.bool false)]]
 .ret)
 .skip)))
 (sr [oo 6 .mv [kn]]
 (sr [oo 7 .mv [ki 1048576]]
 (.seq (.seq
 (rg [oo 8 .mv [ki 1]])
 (.block 0 (.loop
 (.seq (.seq
 (rg [ma 23 8,oo 24 (.bin .neq) [.t 23,ki 0]])
 (.cond (.t 24)
 .skip
 (.exit 0)))
 (.block 1 (sr [ma 25 3,ma 26 8,oo 27 (.mlk (.agg #[v0,(.bool false)]) false) [.t 25,.t 26],oo 9 (.alloc [v0,(.bool false)]) [],ou (.st 2) [.t 9,.t 27]]
 (sr [oo 29 (.ld true 4) [.t 1],oo 30 (.ld true 2) [.t 9],ca 31 zci [.t 29,.t 30],ma 28 31,oo 32 (.ext 0) [.t 28],oo 33 (.ext 1) [.t 28],ma 10 32,ma 11 33]
 (sr [ma 34 6,oo 35 (.ld true 2) [.t 9],oo 36 (.bsl 2 1 [v0,(.bool false)] [0]) [.t 35],oo 37 (.app 2 16) [.t 34,.t 36],ma 38 7,ma 39 10,oo 40 .mn2 [.t 38,.t 39],ma 6 37,ma 7 40]
 (sr [fa 41 0 1,fa 42 1 41,la 43 42,fa 44 0 9,la 45 44,oo 46 (.iad 3) [.t 43,.t 45],fa 47 0 46,la 48 47,ma 8 48]
 (sr [fa 49 1 9,la 50 49]
 (.cond (.t 50)
 (rg [fa 51 0 1,fa 52 1 51,la 53 52,fa 54 0 9,la 55 54,oo 56 (.iad 3) [.t 53,.t 55],fa 57 1 56,la 58 57,ma 8 58])
 .skip)))))))))))
 (.seq (.seq
 (rg [ma 59 6,oo 60 .len [.t 59],oo 61 .mv [ki 0]])
 (.block 2 (.loop
 (sr [oo 62 (.bin .lss) [.t 61,.t 60]]
 (.seq (.cond (.t 62)
 .skip
 (.exit 2))
 (.seq (.block 3 (sr [oo 63 (.iad 2) [.t 59,.t 61],oo 64 (.ld true 2) [.t 63],oo 13 (.alloc [v0,(.bool false)]) [],ou (.st 2) [.t 13,.t 64]]
 (sr [fa 65 1 13,la 66 65]
 (.cond (.t 66)
 (rg [fa 67 2 1,la 68 67,fa 69 0 13,la 70 69,oo 71 (.iad 1) [.t 68,.t 70],la 72 71,ma 73 7,oo 74 (.bin .sub) [.t 72,.t 73],oo 75 (.iad 1) [.t 68,.t 70],ou (.st 1) [.t 75,.t 74]])
 (rg [fa 76 2 1,la 77 76,fa 78 0 13,la 79 78,oo 80 (.iad 1) [.t 77,.t 79],la 81 80,ma 82 7,oo 83 (.bin .add) [.t 81,.t 82],oo 84 (.iad 1) [.t 77,.t 79],ou (.st 1) [.t 84,.t 83]])))))
 (rg [oo 85 (.bin .add) [.t 61,ki 1],ma 61 85])))))))
 (sr [oo 2 .mv [.c (.bool true)]]
 .ret))))))))⟩
def zje : AFun:=⟨5,[(2,none)],
 (sr [oo 2 .mv [.c (.bool false)]]
 (sr [ma 3 0,oo 4 (.bin .neq) [.t 3,ki 0],ma 2 4]
 .ret))⟩
def zpR : AFun:=⟨19,[(4,none)],
 (sr [oo 2 (.box 3) [.t 0],oo 4 .mv [ki 0]]
 (.seq (.block 0 (sr [ma 6 1,oo 7 (.bin .lss) [.t 6,ki 0],ma 5 7]
 (.cond (.t 5)
 (sr [oo 4 .mv [ki 0]]
 .ret)
 (sr [ma 9 1,fa 10 1 2,la 11 10,oo 12 .len [.t 11],oo 13 (.bin .lss) [.t 9,.t 12],ma 8 13]
 (.cond (.t 8)
 (sr [fa 14 1 2,la 15 14,ma 16 1,oo 17 (.iad 1) [.t 15,.t 16],la 18 17,ma 4 18]
 .ret)
 .skip)))))
 (sr [oo 4 .mv [ki 1]]
 .ret)))⟩
def zjl : AFun:=⟨5,[(2,none)],
 (sr [oo 2 .mv [kn]]
 (sr [ma 3 0,ca 4 zdz [kn,.t 3],ma 2 4]
 .ret))⟩
def zcH : AFun:=⟨6,[(2,none)],
 (sr [oo 2 .mv [ki 0]]
 (sr [ma 3 0,ca 4 zb4 [.t 3],oo 5 (.bin .sub) [ki 64,.t 4],ma 2 5]
 .ret))⟩
def zj6 : AFun:=⟨49,[(6,none)],
 (sr [oo 3 (.box 3) [.t 0],oo 6 .mv [kn]]
 (sr [oo 7 .mv [kn]]
 (.seq (.seq
 (rg [oo 13 (.ld true 3) [.t 3],ma 14 2,ca 15 zdd [.t 13,.t 14],oo 16 .len [.t 15],oo 17 .mv [ki 0]])
 (.block 0 (.loop
 (sr [oo 18 (.bin .lss) [.t 17,.t 16]]
 (.seq (.cond (.t 18)
 .skip
 (.exit 0))
 (.seq (.block 1 (sr [oo 19 (.iad 1) [.t 15,.t 17],la 20 19,ma 9 20]
 (rg [ma 21 7,ma 22 9,ma 23 1,ca 24 zk4 [kn,.t 23],ma 25 2,ca 26 zii [.t 24,.t 25],ma 27 9,ca 28 zii [.t 26,.t 27],ca 29 zb2 [.t 28],oo 30 (.build [v0,ve] [(0,1),(1,1)]) [.t 22,.t 29],oo 31 (.bsl 2 1 [v0,ve] [0]) [.t 30],oo 32 (.app 2 24) [.t 21,.t 31],ma 7 32])))
 (rg [oo 33 (.bin .add) [.t 17,ki 1],ma 17 33])))))))
 (sr [ma 34 7,ca 35 za6 [.t 34,(.f zfo)]]
 (sr [oo 10 .mv [kn]]
 (.seq (.seq
 (rg [ma 36 7,oo 37 .len [.t 36],oo 38 .mv [ki 0]])
 (.block 2 (.loop
 (sr [oo 39 (.bin .lss) [.t 38,.t 37]]
 (.seq (.cond (.t 39)
 .skip
 (.exit 2))
 (.seq (.block 3 (sr [oo 40 (.iad 2) [.t 36,.t 38],oo 41 (.ld true 2) [.t 40],oo 12 (.alloc [v0,ve]) [],ou (.st 2) [.t 12,.t 41]]
 (rg [ma 42 10,fa 43 0 12,la 44 43,oo 45 (.bsl 1 1 [v0] [0]) [.t 44],oo 46 (.app 1 8) [.t 42,.t 45],ma 10 46])))
 (rg [oo 47 (.bin .add) [.t 38,ki 1],ma 38 47])))))))
 (sr [ma 48 10,ma 6 48]
 .ret)))))))⟩
def zfa : AFun:=⟨27,[(4,none)],
 (sr [oo 4 .mv [kn]]
 (.seq (.seq
 (rg [ma 5 1,oo 6 (.bin .lss) [.t 5,ki 0]])
 (.cond (.t 6)
 (rg [oo 7 .bad [],ou .bad []])
 .skip))
 (.seq (.seq
 (rg [ma 8 1,ma 9 0,oo 10 .cap [.t 9],ma 11 0,oo 12 .len [.t 11],oo 13 (.bin .sub) [.t 10,.t 12],oo 14 (.bin .sub) [.t 8,.t 13],ma 1 14])
 (sr [ma 15 1,oo 16 (.bin .gtr) [.t 15,ki 0]]
 (.cond (.t 16)
 (rg [ma 17 0,ma 18 0,oo 19 .cap [.t 18],oo 20 (.slc 1 false true false) [.t 17,.t 19],ma 21 1,oo 22 (.apz 1 8 [v0]) [.t 20,.t 21],ma 23 0,oo 24 .len [.t 23],oo 25 (.slc 1 false true false) [.t 22,.t 24],ma 0 25])
 .skip)))
 (sr [ma 26 0,ma 4 26]
 .ret))))⟩
def zcr : AFun:=⟨19,[(4,none)],
 (sr [oo 4 .mv [ki 0]]
 (.seq (.seq
 (rg [ma 6 0,oo 7 .len [.t 6],oo 8 .mv [ki 0]])
 (.block 0 (.loop
 (sr [oo 9 (.bin .lss) [.t 8,.t 7]]
 (.seq (.cond (.t 9)
 .skip
 (.exit 0))
 (.seq (.block 1 (sr [ma 10 8,ma 5 10]
 (sr [ma 11 1,ma 12 0,ma 13 5,oo 14 (.iad 3) [.t 12,.t 13],oo 15 (.ld true 3) [.t 14],oo 16 .call [.t 11,.t 15]]
 (.cond (.t 16)
 (sr [ma 17 5,ma 4 17]
 .ret)
 .skip))))
 (rg [oo 18 (.bin .add) [.t 8,ki 1],ma 8 18])))))))
 (sr [oo 4 .mv [ki (-1)]]
 .ret)))⟩
def zmN : AFun:=⟨69,[(2,none)],
 (sr [oo 2 .mv [(.c ve)]]
 (sr [ma 11 0,oo 12 (.app 1 1) [kn,.t 11],oo 13 (.bsl 1 1 [(.int .u8 0)] [0]) [(.c (.int .u8 128))],oo 14 (.app 1 1) [.t 12,.t 13],ma 3 14]
 (.seq (.block 0 (.loop
 (.seq (.seq
 (rg [ma 15 3,oo 16 .len [.t 15],oo 17 (.bin .rem) [.t 16,ki 64],oo 18 (.bin .neq) [.t 17,ki 56]])
 (.cond (.t 18)
 .skip
 (.exit 0)))
 (.block 1 (rg [ma 19 3,oo 20 (.bsl 1 1 [(.int .u8 0)] [0]) [(.c (.int .u8 0))],oo 21 (.app 1 1) [.t 19,.t 20],ma 3 21])))))
 (sr [ma 22 0,oo 23 .len [.t 22],oo 24 (.cvt .u64) [.t 23],oo 25 (.bin .mul) [.t 24,(.c (.int .u64 8))],ma 4 25]
 (.seq (.seq
 (rg [oo 5 .mv [ki 56]])
 (.block 2 (.loop
 (.seq (.seq
 (rg [ma 26 5,oo 27 (.bin .geq) [.t 26,ki 0]])
 (.cond (.t 27)
 .skip
 (.exit 2)))
 (.seq (.block 3 (rg [ma 30 3,ma 31 4,ma 32 5,oo 33 (.cvt .u64) [.t 32],oo 34 (.bin .shr) [.t 31,.t 33],oo 35 (.cvt .u8) [.t 34],oo 36 (.bsl 1 1 [(.int .u8 0)] [0]) [.t 35],oo 37 (.app 1 1) [.t 30,.t 36],ma 3 37]))
 (rg [ma 28 5,oo 29 (.bin .sub) [.t 28,ki 8],ma 5 29]))))))
 (sr [oo 38 (.build [(.int .u32 0),(.int .u32 0),(.int .u32 0),(.int .u32 0),(.int .u32 0),(.int .u32 0),(.int .u32 0),(.int .u32 0)] [(0,1),(1,1),(2,1),(3,1),(4,1),(5,1),(6,1),(7,1)]) [(.c (.int .u32 1779033703)),(.c (.int .u32 3144134277)),(.c (.int .u32 1013904242)),(.c (.int .u32 2773480762)),(.c (.int .u32 1359893119)),(.c (.int .u32 2600822924)),(.c (.int .u32 528734635)),(.c (.int .u32 1541459225))],ca 39 zgB [],oo 6 (.alloc [(.int .u32 0),(.int .u32 0),(.int .u32 0),(.int .u32 0),(.int .u32 0),(.int .u32 0),(.int .u32 0),(.int .u32 0)]) [],oo 7 (.alloc [(.int .u32 0),(.int .u32 0),(.int .u32 0),(.int .u32 0),(.int .u32 0),(.int .u32 0),(.int .u32 0),(.int .u32 0),(.int .u32 0),(.int .u32 0),(.int .u32 0),(.int .u32 0),(.int .u32 0),(.int .u32 0),(.int .u32 0),(.int .u32 0),(.int .u32 0),(.int .u32 0),(.int .u32 0),(.int .u32 0),(.int .u32 0),(.int .u32 0),(.int .u32 0),(.int .u32 0),(.int .u32 0),(.int .u32 0),(.int .u32 0),(.int .u32 0),(.int .u32 0),(.int .u32 0),(.int .u32 0),(.int .u32 0),(.int .u32 0),(.int .u32 0),(.int .u32 0),(.int .u32 0),(.int .u32 0),(.int .u32 0),(.int .u32 0),(.int .u32 0),(.int .u32 0),(.int .u32 0),(.int .u32 0),(.int .u32 0),(.int .u32 0),(.int .u32 0),(.int .u32 0),(.int .u32 0),(.int .u32 0),(.int .u32 0),(.int .u32 0),(.int .u32 0),(.int .u32 0),(.int .u32 0),(.int .u32 0),(.int .u32 0),(.int .u32 0),(.int .u32 0),(.int .u32 0),(.int .u32 0),(.int .u32 0),(.int .u32 0),(.int .u32 0),(.int .u32 0)]) [],ou (.st 8) [.t 6,.t 38],ou (.st 64) [.t 7,.t 39]]
 (.seq (.block 4 (.loop
 (.seq (.seq
 (rg [ma 40 3,oo 41 .len [.t 40],oo 42 (.bin .gtr) [.t 41,ki 0]])
 (.cond (.t 42)
 .skip
 (.exit 4)))
 (.seq (.block 5 (rg [ma 45 3,oo 46 (.slc 1 false true false) [.t 45,ki 64],ca 47 zd3 [.t 6,.t 46,.t 7]]))
 (rg [ma 43 3,oo 44 (.slc 1 true false false) [.t 43,ki 64],ma 3 44])))))
 (sr [oo 8 .mv [kn]]
 (.seq (.seq
 (rg [oo 48 (.ld true 8) [.t 6],oo 49 .mv [ki 0]])
 (.block 6 (.loop
 (sr [oo 50 (.bin .lss) [.t 49,ki 8]]
 (.seq (.cond (.t 50)
 .skip
 (.exit 6))
 (.seq (.block 7 (sr [oo 51 (.ixv 8) [.t 48,.t 49],ma 10 51]
 (rg [ma 52 8,ma 53 10,oo 54 (.bin .shr) [.t 53,(.c (.int .u64 24))],oo 55 (.cvt .u8) [.t 54],ma 56 10,oo 57 (.bin .shr) [.t 56,(.c (.int .u64 16))],oo 58 (.cvt .u8) [.t 57],ma 59 10,oo 60 (.bin .shr) [.t 59,(.c (.int .u64 8))],oo 61 (.cvt .u8) [.t 60],ma 62 10,oo 63 (.cvt .u8) [.t 62],oo 64 (.bsl 1 4 [(.int .u8 0)] [0,1,2,3]) [.t 55,.t 58,.t 61,.t 63],oo 65 (.app 1 1) [.t 52,.t 64],ma 8 65])))
 (rg [oo 66 (.bin .add) [.t 49,ki 1],ma 49 66])))))))
 (sr [ma 67 8,oo 68 .b2s [.t 67],ma 2 68]
 .ret))))))))))⟩
def zqr : AFun:=⟨9,[(4,none)],
 (sr [oo 4 .mv [kn]]
 (sr [ma 5 0,ca 6 zbZ [.t 5],ma 7 1,ca 8 znm [.t 6,.t 7],ma 4 8]
 .ret))⟩
def znU : AFun:=⟨11,[(4,none)],
 (sr [oo 4 .mv [kn]]
 (sr [ma 5 0,ma 6 1,oo 7 .lens [.t 6],ca 8 zii [.t 5,.t 7],ma 9 1,oo 10 .apps [.t 8,.t 9],ma 4 10]
 .ret))⟩
def zbw : AFun:=⟨14,[],
 (sr [ma 5 0,oo 6 .len [.t 5],ma 4 6]
 (rg [ma 7 0,ma 8 4,ma 9 4,oo 10 (.cvt .u64) [.t 9],ca 11 zcF [.t 10],ma 12 1,ca 13 zaR [.t 7,ki 0,.t 8,.t 11,.t 12]]))⟩
def zhI : AFun:=⟨10,[(4,none)],
 (sr [oo 2 (.box 2) [.t 0],oo 3 (.box 2) [.t 1],oo 4 .mv [ki 0]]
 (sr [fa 5 1 2,la 6 5,fa 7 1 3,la 8 7,ca 9 zd4 [.t 6,.t 8],ma 4 9]
 .ret))⟩
def zfX : AFun:=⟨20,[(4,none)],
 (sr [oo 4 .mv [ki 0]]
 (sr [ma 7 0,ca 8 zdx [.t 7],ma 5 8]
 (sr [ma 9 1,ca 10 zdx [.t 9],ma 6 10]
 (.seq (.seq
 (rg [ma 11 5])
 (.cond (.t 11)
 (.seq (.seq
 (rg [ma 12 6])
 (.cond (.t 12)
 (sr [oo 4 .mv [ki 0]]
 .ret)
 .skip))
 (sr [oo 4 .mv [ki (-1)]]
 .ret))
 .skip))
 (.seq (.seq
 (rg [ma 13 6])
 (.cond (.t 13)
 (sr [oo 4 .mv [ki 1]]
 .ret)
 .skip))
 (.seq (.seq
 (rg [ma 14 0,ma 15 1,oo 16 (.bin .lss) [.t 14,.t 15]])
 (.cond (.t 16)
 (sr [oo 4 .mv [ki (-1)]]
 .ret)
 .skip))
 (.seq (.seq
 (rg [ma 17 0,ma 18 1,oo 19 (.bin .gtr) [.t 17,.t 18]])
 (.cond (.t 19)
 (sr [oo 4 .mv [ki 1]]
 .ret)
 .skip))
 (sr [oo 4 .mv [ki 0]]
 .ret))))))))⟩
def zi0 : AFun:=⟨2,[(0,some (true,64))],
 (sr [oo 0 (.alloc [(.int .u32 0),(.int .u32 0),(.int .u32 0),(.int .u32 0),(.int .u32 0),(.int .u32 0),(.int .u32 0),(.int .u32 0),(.int .u32 0),(.int .u32 0),(.int .u32 0),(.int .u32 0),(.int .u32 0),(.int .u32 0),(.int .u32 0),(.int .u32 0),(.int .u32 0),(.int .u32 0),(.int .u32 0),(.int .u32 0),(.int .u32 0),(.int .u32 0),(.int .u32 0),(.int .u32 0),(.int .u32 0),(.int .u32 0),(.int .u32 0),(.int .u32 0),(.int .u32 0),(.int .u32 0),(.int .u32 0),(.int .u32 0),(.int .u32 0),(.int .u32 0),(.int .u32 0),(.int .u32 0),(.int .u32 0),(.int .u32 0),(.int .u32 0),(.int .u32 0),(.int .u32 0),(.int .u32 0),(.int .u32 0),(.int .u32 0),(.int .u32 0),(.int .u32 0),(.int .u32 0),(.int .u32 0),(.int .u32 0),(.int .u32 0),(.int .u32 0),(.int .u32 0),(.int .u32 0),(.int .u32 0),(.int .u32 0),(.int .u32 0),(.int .u32 0),(.int .u32 0),(.int .u32 0),(.int .u32 0),(.int .u32 0),(.int .u32 0),(.int .u32 0),(.int .u32 0)]) []]
 (sr [oo 1 (.build [(.int .u32 0),(.int .u32 0),(.int .u32 0),(.int .u32 0),(.int .u32 0),(.int .u32 0),(.int .u32 0),(.int .u32 0),(.int .u32 0),(.int .u32 0),(.int .u32 0),(.int .u32 0),(.int .u32 0),(.int .u32 0),(.int .u32 0),(.int .u32 0),(.int .u32 0),(.int .u32 0),(.int .u32 0),(.int .u32 0),(.int .u32 0),(.int .u32 0),(.int .u32 0),(.int .u32 0),(.int .u32 0),(.int .u32 0),(.int .u32 0),(.int .u32 0),(.int .u32 0),(.int .u32 0),(.int .u32 0),(.int .u32 0),(.int .u32 0),(.int .u32 0),(.int .u32 0),(.int .u32 0),(.int .u32 0),(.int .u32 0),(.int .u32 0),(.int .u32 0),(.int .u32 0),(.int .u32 0),(.int .u32 0),(.int .u32 0),(.int .u32 0),(.int .u32 0),(.int .u32 0),(.int .u32 0),(.int .u32 0),(.int .u32 0),(.int .u32 0),(.int .u32 0),(.int .u32 0),(.int .u32 0),(.int .u32 0),(.int .u32 0),(.int .u32 0),(.int .u32 0),(.int .u32 0),(.int .u32 0),(.int .u32 0),(.int .u32 0),(.int .u32 0),(.int .u32 0)] [(0,1),(1,1),(2,1),(3,1),(4,1),(5,1),(6,1),(7,1),(8,1),(9,1),(10,1),(11,1),(12,1),(13,1),(14,1),(15,1),(16,1),(17,1),(18,1),(19,1),(20,1),(21,1),(22,1),(23,1),(24,1),(25,1),(26,1),(27,1),(28,1),(29,1),(30,1),(31,1),(32,1),(33,1),(34,1),(35,1),(36,1),(37,1),(38,1),(39,1),(40,1),(41,1),(42,1),(43,1),(44,1),(45,1),(46,1),(47,1),(48,1),(49,1),(50,1),(51,1),(52,1),(53,1),(54,1),(55,1),(56,1),(57,1),(58,1),(59,1),(60,1),(61,1),(62,1),(63,1)]) [(.c (.int .u32 1116352408)),(.c (.int .u32 1899447441)),(.c (.int .u32 3049323471)),(.c (.int .u32 3921009573)),(.c (.int .u32 961987163)),(.c (.int .u32 1508970993)),(.c (.int .u32 2453635748)),(.c (.int .u32 2870763221)),(.c (.int .u32 3624381080)),(.c (.int .u32 310598401)),(.c (.int .u32 607225278)),(.c (.int .u32 1426881987)),(.c (.int .u32 1925078388)),(.c (.int .u32 2162078206)),(.c (.int .u32 2614888103)),(.c (.int .u32 3248222580)),(.c (.int .u32 3835390401)),(.c (.int .u32 4022224774)),(.c (.int .u32 264347078)),(.c (.int .u32 604807628)),(.c (.int .u32 770255983)),(.c (.int .u32 1249150122)),(.c (.int .u32 1555081692)),(.c (.int .u32 1996064986)),(.c (.int .u32 2554220882)),(.c (.int .u32 2821834349)),(.c (.int .u32 2952996808)),(.c (.int .u32 3210313671)),(.c (.int .u32 3336571891)),(.c (.int .u32 3584528711)),(.c (.int .u32 113926993)),(.c (.int .u32 338241895)),(.c (.int .u32 666307205)),(.c (.int .u32 773529912)),(.c (.int .u32 1294757372)),(.c (.int .u32 1396182291)),(.c (.int .u32 1695183700)),(.c (.int .u32 1986661051)),(.c (.int .u32 2177026350)),(.c (.int .u32 2456956037)),(.c (.int .u32 2730485921)),(.c (.int .u32 2820302411)),(.c (.int .u32 3259730800)),(.c (.int .u32 3345764771)),(.c (.int .u32 3516065817)),(.c (.int .u32 3600352804)),(.c (.int .u32 4094571909)),(.c (.int .u32 275423344)),(.c (.int .u32 430227734)),(.c (.int .u32 506948616)),(.c (.int .u32 659060556)),(.c (.int .u32 883997877)),(.c (.int .u32 958139571)),(.c (.int .u32 1322822218)),(.c (.int .u32 1537002063)),(.c (.int .u32 1747873779)),(.c (.int .u32 1955562222)),(.c (.int .u32 2024104815)),(.c (.int .u32 2227730452)),(.c (.int .u32 2361852424)),(.c (.int .u32 2428436474)),(.c (.int .u32 2756734187)),(.c (.int .u32 3204031479)),(.c (.int .u32 3329325298))],ou (.st 64) [.t 0,.t 1]]
 .ret))⟩
def zf0 : AFun:=⟨211,[],
 (sr [oo 6 (.alloc [(.int .u32 0),(.int .u32 0),(.int .u32 0),(.int .u32 0),(.int .u32 0),(.int .u32 0),(.int .u32 0),(.int .u32 0),(.int .u32 0),(.int .u32 0),(.int .u32 0),(.int .u32 0),(.int .u32 0),(.int .u32 0),(.int .u32 0),(.int .u32 0),(.int .u32 0),(.int .u32 0),(.int .u32 0),(.int .u32 0),(.int .u32 0),(.int .u32 0),(.int .u32 0),(.int .u32 0),(.int .u32 0),(.int .u32 0),(.int .u32 0),(.int .u32 0),(.int .u32 0),(.int .u32 0),(.int .u32 0),(.int .u32 0),(.int .u32 0),(.int .u32 0),(.int .u32 0),(.int .u32 0),(.int .u32 0),(.int .u32 0),(.int .u32 0),(.int .u32 0),(.int .u32 0),(.int .u32 0),(.int .u32 0),(.int .u32 0),(.int .u32 0),(.int .u32 0),(.int .u32 0),(.int .u32 0),(.int .u32 0),(.int .u32 0),(.int .u32 0),(.int .u32 0),(.int .u32 0),(.int .u32 0),(.int .u32 0),(.int .u32 0),(.int .u32 0),(.int .u32 0),(.int .u32 0),(.int .u32 0),(.int .u32 0),(.int .u32 0),(.int .u32 0),(.int .u32 0)]) []]
 (.seq (.seq
 (rg [oo 19 .mv [ki 0]])
 (.block 0 (.loop
 (sr [oo 20 (.bin .lss) [.t 19,ki 16]]
 (.seq (.cond (.t 20)
 .skip
 (.exit 0))
 (.seq (.block 1 (sr [ma 21 19,ma 7 21]
 (.reg true [ma 22 7,ma 23 1,ma 24 7,oo 25 (.bin .mul) [ki 4,.t 24],oo 26 (.iad 1) [.t 23,.t 25],la 27 26,oo 28 (.cvt .u32) [.t 27],oo 29 (.bin .shl) [.t 28,(.c (.int .u64 24))],ma 30 1,ma 31 7,oo 32 (.bin .mul) [ki 4,.t 31],oo 33 (.bin .add) [.t 32,ki 1],oo 34 (.iad 1) [.t 30,.t 33],la 35 34,oo 36 (.cvt .u32) [.t 35],oo 37 (.bin .shl) [.t 36,(.c (.int .u64 16))],oo 38 (.bin .or) [.t 29,.t 37],ma 39 1,ma 40 7,oo 41 (.bin .mul) [ki 4,.t 40],oo 42 (.bin .add) [.t 41,ki 2],oo 43 (.iad 1) [.t 39,.t 42],la 44 43,oo 45 (.cvt .u32) [.t 44],oo 46 (.bin .shl) [.t 45,(.c (.int .u64 8))],oo 47 (.bin .or) [.t 38,.t 46],ma 48 1,ma 49 7,oo 50 (.bin .mul) [ki 4,.t 49],oo 51 (.bin .add) [.t 50,ki 3],oo 52 (.iad 1) [.t 48,.t 51],la 53 52,oo 54 (.cvt .u32) [.t 53],oo 55 (.bin .or) [.t 47,.t 54],oo 56 (.iaa 64 1) [.t 6,.t 22],ou (.st 1) [.t 56,.t 55]] [[],[],[],[2],[1,3],[4],[5],[6],[],[],[9],[10],[8,11],[12],[13],[14],[7,15],[],[],[18],[19],[17,20],[21],[22],[23],[16,24],[],[],[27],[28],[26,29],[30],[31],[25,32],[0,0,1,2,3,4,5,6,7,8,9,10,11,12,13,14,15,16,17,18,19,20,21,22,23,24,25,26,27,28,29,30,31,32,33],[34,33,0,1,2,3,4,5,6,7,8,9,10,11,12,13,14,15,16,17,18,19,20,21,22,23,24,25,26,27,28,29,30,31,32,33]])))
 (rg [oo 57 (.bin .add) [.t 19,ki 1],ma 19 57])))))))
 (sr [oo 8 .mv [.f zdc]]
 (.seq (.seq
 (rg [oo 9 .mv [ki 16]])
 (.block 2 (.loop
 (.seq (.seq
 (rg [ma 58 9,oo 59 (.bin .lss) [.t 58,ki 64]])
 (.cond (.t 59)
 .skip
 (.exit 2)))
 (.seq (.block 3 (.seq (.reg true [ma 62 9,oo 63 (.bin .sub) [.t 62,ki 15],oo 64 (.iaa 64 1) [.t 6,.t 63],la 65 64,ma 66 9,oo 67 (.bin .sub) [.t 66,ki 2],oo 68 (.iaa 64 1) [.t 6,.t 67],la 69 68,ma 10 65,ma 11 69] [[],[0],[1],[2],[],[4],[5],[6],[3,0,1,2,3],[7,8,0,1,2,3,4,5,6,7,8]])
 (.reg true [ma 70 9,ma 71 9,oo 72 (.bin .sub) [.t 71,ki 16],oo 73 (.iaa 64 1) [.t 6,.t 72],la 74 73,ma 75 8,ma 76 10,oo 77 .call [.t 75,.t 76,ki 7],ma 78 8,ma 79 10,oo 80 .call [.t 78,.t 79,ki 18],oo 81 (.bin .xor) [.t 77,.t 80],ma 82 10,oo 83 (.bin .shr) [.t 82,(.c (.int .u64 3))],oo 84 (.bin .xor) [.t 81,.t 83],oo 85 (.bin .add) [.t 74,.t 84],ma 86 9,oo 87 (.bin .sub) [.t 86,ki 7],oo 88 (.iaa 64 1) [.t 6,.t 87],la 89 88,oo 90 (.bin .add) [.t 85,.t 89],ma 91 8,ma 92 11,oo 93 .call [.t 91,.t 92,ki 17],ma 94 8,ma 95 11,oo 96 .call [.t 94,.t 95,ki 19],oo 97 (.bin .xor) [.t 93,.t 96],ma 98 11,oo 99 (.bin .shr) [.t 98,(.c (.int .u64 10))],oo 100 (.bin .xor) [.t 97,.t 99],oo 101 (.bin .add) [.t 90,.t 100],oo 102 (.iaa 64 1) [.t 6,.t 70],ou (.st 1) [.t 102,.t 101]] [[],[],[1],[2],[3],[],[],[5,6],[],[],[8,9,7],[7,10],[],[12],[11,13],[4,14],[],[16],[17],[18],[15,19],[],[],[21,22,10],[],[],[24,25,23],[23,26],[],[28],[27,29],[20,30],[0,0,1,2,3,4,5,6,7,8,9,10,11,12,13,14,15,16,17,18,19,20,21,22,23,24,25,26,27,28,29,30,31],[32,31,26,0,1,2,3,4,5,6,7,8,9,10,11,12,13,14,15,16,17,18,19,20,21,22,23,24,25,26,27,28,29,30,31]])))
 (rg [ma 60 9,oo 61 (.bin .add) [.t 60,ki 1],ma 9 61]))))))
 (sr [ma 103 0,oo 104 .nil [.t 103],oo 105 (.ld true 8) [.t 104],oo 12 (.alloc [(.int .u32 0),(.int .u32 0),(.int .u32 0),(.int .u32 0),(.int .u32 0),(.int .u32 0),(.int .u32 0),(.int .u32 0)]) [],ou (.st 8) [.t 12,.t 105]]
 (.seq (.seq
 (rg [oo 106 .mv [ki 0]])
 (.block 4 (.loop
 (sr [oo 107 (.bin .lss) [.t 106,ki 64]]
 (.seq (.cond (.t 107)
 .skip
 (.exit 4))
 (.seq (.block 5 (sr [ma 108 106,ma 13 108]
 (.seq (.reg true [oo 109 (.iaa 8 1) [.t 12,ki 0],la 110 109,oo 111 (.iaa 8 1) [.t 12,ki 4],la 112 111,ma 14 110,ma 15 112] [[],[0],[],[2],[1,0,1],[3,4,0,1,2,3,4]])
 (.seq (.reg true [oo 113 (.iaa 8 1) [.t 12,ki 7],la 114 113,ma 115 8,ma 116 15,oo 117 .call [.t 115,.t 116,ki 6],ma 118 8,ma 119 15,oo 120 .call [.t 118,.t 119,ki 11],oo 121 (.bin .xor) [.t 117,.t 120],ma 122 8,ma 123 15,oo 124 .call [.t 122,.t 123,ki 25],oo 125 (.bin .xor) [.t 121,.t 124],oo 126 (.bin .add) [.t 114,.t 125],ma 127 15,oo 128 (.iaa 8 1) [.t 12,ki 5],la 129 128,oo 130 (.bin .and) [.t 127,.t 129],ma 131 15,oo 132 (.un .xor) [.t 131],oo 133 (.iaa 8 1) [.t 12,ki 6],la 134 133,oo 135 (.bin .and) [.t 132,.t 134],oo 136 (.bin .xor) [.t 130,.t 135],oo 137 (.bin .add) [.t 126,.t 136],ma 138 2,ma 139 13,oo 140 .nil [.t 138],oo 141 (.iaa 64 1) [.t 140,.t 139],la 142 141,oo 143 (.bin .add) [.t 137,.t 142],ma 144 13,oo 145 (.iaa 64 1) [.t 6,.t 144],la 146 145,oo 147 (.bin .add) [.t 143,.t 146],ma 16 147] [[],[0],[],[],[2,3],[],[],[5,6,4],[4,7],[],[],[9,10,7],[8,11],[1,12],[],[],[15],[14,16],[],[18],[],[20],[19,21],[17,22],[13,23],[],[],[25],[27,26],[28],[24,29],[],[31],[32],[30,33],[34,11,0,1,2,3,4,5,6,7,8,9,10,11,12,13,14,15,16,17,18,19,20,21,22,23,24,25,26,27,28,29,30,31,32,33,34]])
 (.seq (.reg true [ma 148 8,ma 149 14,oo 150 .call [.t 148,.t 149,ki 2],ma 151 8,ma 152 14,oo 153 .call [.t 151,.t 152,ki 13],oo 154 (.bin .xor) [.t 150,.t 153],ma 155 8,ma 156 14,oo 157 .call [.t 155,.t 156,ki 22],oo 158 (.bin .xor) [.t 154,.t 157],ma 159 14,oo 160 (.iaa 8 1) [.t 12,ki 1],la 161 160,oo 162 (.bin .and) [.t 159,.t 161],ma 163 14,oo 164 (.iaa 8 1) [.t 12,ki 2],la 165 164,oo 166 (.bin .and) [.t 163,.t 165],oo 167 (.bin .xor) [.t 162,.t 166],oo 168 (.iaa 8 1) [.t 12,ki 1],la 169 168,oo 170 (.iaa 8 1) [.t 12,ki 2],la 171 170,oo 172 (.bin .and) [.t 169,.t 171],oo 173 (.bin .xor) [.t 167,.t 172],oo 174 (.bin .add) [.t 158,.t 173],ma 17 174] [[],[],[0,1],[],[],[3,4,2],[2,5],[],[],[7,8,5],[6,9],[],[],[12],[11,13],[],[],[16],[15,17],[14,18],[],[20],[],[22],[21,23],[19,24],[10,25],[26,9,0,1,2,3,4,5,6,7,8,9,10,11,12,13,14,15,16,17,18,19,20,21,22,23,24,25,26]])
 (rg [ma 175 16,ma 176 17,oo 177 (.bin .add) [.t 175,.t 176],oo 178 (.iaa 8 1) [.t 12,ki 0],la 179 178,oo 180 (.iaa 8 1) [.t 12,ki 1],la 181 180,oo 182 (.iaa 8 1) [.t 12,ki 2],la 183 182,oo 184 (.iaa 8 1) [.t 12,ki 3],la 185 184,ma 186 16,oo 187 (.bin .add) [.t 185,.t 186],oo 188 (.iaa 8 1) [.t 12,ki 4],la 189 188,oo 190 (.iaa 8 1) [.t 12,ki 5],la 191 190,oo 192 (.iaa 8 1) [.t 12,ki 6],la 193 192,oo 194 (.build [(.int .u32 0),(.int .u32 0),(.int .u32 0),(.int .u32 0),(.int .u32 0),(.int .u32 0),(.int .u32 0),(.int .u32 0)] [(0,1),(1,1),(2,1),(3,1),(4,1),(5,1),(6,1),(7,1)]) [.t 177,.t 179,.t 181,.t 183,.t 187,.t 189,.t 191,.t 193],ou (.st 8) [.t 12,.t 194]]))))))
 (rg [oo 195 (.bin .add) [.t 106,ki 1],ma 106 195])))))))
 (sr [oo 196 .mv [ki 0]]
 (.block 6 (.loop
 (sr [oo 197 (.bin .lss) [.t 196,ki 8]]
 (.seq (.cond (.t 197)
 .skip
 (.exit 6))
 (.seq (.block 7 (sr [ma 198 196,ma 18 198]
 (.reg true [ma 199 0,ma 200 18,oo 201 .nil [.t 199],oo 202 (.iaa 8 1) [.t 201,.t 200],la 203 202,ma 204 18,oo 205 (.iaa 8 1) [.t 12,.t 204],la 206 205,oo 207 (.bin .add) [.t 203,.t 206],oo 208 .nil [.t 199],oo 209 (.iaa 8 1) [.t 208,.t 200],ou (.st 1) [.t 209,.t 207]] [[],[],[0],[2,1],[3],[],[5],[6],[4,7],[0],[9,1,0,1,2,3,4,5,6,7,8],[10,8,0,1,2,3,4,5,6,7,8]])))
 (rg [oo 210 (.bin .add) [.t 196,ki 1],ma 196 210])))))))))))))⟩
def zq4 : AFun:=⟨20,[(4,none)],
 (sr [oo 4 .mv [kn]]
 (.seq (.seq
 (rg [oo 5 .mv [ki 56]])
 (.block 0 (.loop
 (.seq (.seq
 (rg [ma 6 5,oo 7 (.bin .geq) [.t 6,ki 0]])
 (.cond (.t 7)
 .skip
 (.exit 0)))
 (.seq (.block 1 (rg [ma 10 0,ma 11 1,oo 12 (.cvt .u64) [.t 11],ma 13 5,oo 14 (.cvt .u64) [.t 13],oo 15 (.bin .shr) [.t 12,.t 14],oo 16 (.cvt .u8) [.t 15],oo 17 (.bsl 1 1 [(.int .u8 0)] [0]) [.t 16],oo 18 (.app 1 1) [.t 10,.t 17],ma 0 18]))
 (rg [ma 8 5,oo 9 (.bin .sub) [.t 8,ki 8],ma 5 9]))))))
 (sr [ma 19 0,ma 4 19]
 .ret)))⟩
def zee : AFun:=⟨8,[(2,none)],
 (sr [oo 2 .mv [kn]]
 (.seq (.seq
 (rg [ma 3 0,oo 4 (.snil false) [.t 3]])
 (.cond (.t 4)
 (sr [oo 2 .mv [kn]]
 .ret)
 .skip))
 (sr [oo 5 (.bsl 1 0 [(.int .u8 0)] []) [],ma 6 0,oo 7 (.app 1 1) [.t 5,.t 6],ma 2 7]
 .ret)))⟩
def zcm : AFun:=⟨148,[],
 (sr [oo 10 .mv [.c (.bool true)]]
 (sr [oo 11 .mv [.c (.bool true)]]
 (.block 0 (.loop
 (.block 1 (sr [ma 21 2,ma 22 1,oo 23 (.bin .sub) [.t 21,.t 22],ma 12 23]
 (.seq (.seq
 (rg [ma 24 12,oo 25 (.bin .leq) [.t 24,ki 12]])
 (.cond (.t 25)
 (sr [ma 26 0,ma 27 1,ma 28 2,ma 29 4,ca 30 za9 [.t 26,.t 27,.t 28,.t 29]]
 .ret)
 .skip))
 (.seq (.seq
 (rg [ma 31 3,oo 32 (.bin .eql) [.t 31,ki 0]])
 (.cond (.t 32)
 (sr [ma 33 0,ma 34 1,ma 35 2,ma 36 4,ca 37 zdE [.t 33,.t 34,.t 35,.t 36]]
 .ret)
 .skip))
 (.seq (.seq
 (rg [ma 38 10,oo 39 (.un .not) [.t 38]])
 (.cond (.t 39)
 (sr [ma 40 0,ma 41 1,ma 42 2,ma 43 4,ca 44 zc9 [.t 40,.t 41,.t 42,.t 43]]
 (rg [ma 45 3,oo 46 (.bin .sub) [.t 45,ki 1],ma 3 46]))
 .skip))
 (sr [ma 48 0,ma 49 1,ma 50 2,ma 51 4,ca 52 zdq [.t 48,.t 49,.t 50,.t 51],ma 47 52,oo 53 (.ext 0) [.t 47],oo 54 (.ext 1) [.t 47],ma 13 53,ma 14 54]
 (.seq (.seq
 (rg [ma 55 14,oo 56 (.bin .eql) [.t 55,ki 2]])
 (.cond (.t 56)
 (sr [ma 57 0,ma 58 1,ma 59 2,ma 60 4,ca 61 zdh [.t 57,.t 58,.t 59,.t 60]]
 (sr [ma 62 2,oo 63 (.bin .sub) [.t 62,ki 1],ma 64 13,ma 65 1,oo 66 (.bin .sub) [.t 64,.t 65],oo 67 (.bin .sub) [.t 63,.t 66],ma 13 67]
 (rg [oo 14 .mv [ki 1]])))
 .skip))
 (.seq (.seq
 (rg [ma 68 10,ma 69 68,mg 70 11 69,oo 71 .pick [.t 69,.t 70,.c (.bool false)],ma 72 71,mg 73 14 72,og 74 (.bin .eql) [.t 73,ki 1] 72,oo 75 .pick [.t 72,.t 74,.c (.bool false)]])
 (.cond (.t 75)
 (sr [ma 76 0,ma 77 1,ma 78 2,ma 79 4,ca 80 zcE [.t 76,.t 77,.t 78,.t 79]]
 (.cond (.t 80)
 .ret
 .skip))
 .skip))
 (.seq (.seq
 (.reg true [ma 81 1,oo 82 (.bin .gtr) [.t 81,ki 0],ma 83 82,mg 84 4 83,mg 85 0 83,mg 86 1 83,og 87 (.bin .sub) [.t 86,ki 1] 83,og 88 (.iad 2) [.t 85,.t 87] 83,og 89 (.ld true 2) [.t 88] 83,mg 90 0 83,mg 91 13 83,og 92 (.iad 2) [.t 90,.t 91] 83,og 93 (.ld true 2) [.t 92] 83,og 94 .call [.t 84,.t 89,.t 93] 83,og 95 (.bin .lss) [.t 94,ki 0] 83,og 96 (.un .not) [.t 95] 83,oo 97 .pick [.t 83,.t 96,.c (.bool false)]] [[],[0],[1],[2],[2],[2],[5,2],[4,6,2],[7,2],[2],[2],[9,10,2],[11,2],[3,8,12,2,2],[13,2],[14,2],[2,15]])
 (.cond (.t 97)
 (sr [ma 98 0,ma 99 1,ma 100 2,ma 101 13,ma 102 4,ca 103 zc6 [.t 98,.t 99,.t 100,.t 101,.t 102],ma 15 103]
 (sr [ma 104 15,ma 1 104]
 (.exit 1)))
 .skip))
 (sr [ma 106 0,ma 107 1,ma 108 2,ma 109 13,ma 110 4,ca 111 zdD [.t 106,.t 107,.t 108,.t 109,.t 110],ma 105 111,oo 112 (.ext 0) [.t 105],oo 113 (.ext 1) [.t 105],ma 16 112,ma 17 113]
 (sr [ma 114 17,ma 11 114]
 (sr [ma 115 16,ma 116 1,oo 117 (.bin .sub) [.t 115,.t 116],ma 118 2,ma 119 16,oo 120 (.bin .sub) [.t 118,.t 119],ma 18 117,ma 19 120]
 (sr [ma 121 12,oo 122 (.bin .quo) [.t 121,ki 8],ma 20 122]
 (sr [ma 123 18,ma 124 19,oo 125 (.bin .lss) [.t 123,.t 124]]
 (.cond (.t 125)
 (sr [ma 126 18,ma 127 20,oo 128 (.bin .geq) [.t 126,.t 127],ma 10 128]
 (sr [ma 129 0,ma 130 1,ma 131 16,ma 132 3,ma 133 4,ca 134 zaR [.t 129,.t 130,.t 131,.t 132,.t 133]]
 (rg [ma 135 16,oo 136 (.bin .add) [.t 135,ki 1],ma 1 136])))
 (sr [ma 137 19,ma 138 20,oo 139 (.bin .geq) [.t 137,.t 138],ma 10 139]
 (sr [ma 140 0,ma 141 16,oo 142 (.bin .add) [.t 141,ki 1],ma 143 2,ma 144 3,ma 145 4,ca 146 zaR [.t 140,.t 142,.t 143,.t 144,.t 145]]
 (rg [ma 147 16,ma 2 147]))))))))))))))))))))))⟩
def zgU : AFun:=⟨6,[(2,none)],
 (sr [oo 2 .mv [.c (.bool false)]]
 (sr [ma 3 0,ma 4 0,oo 5 (.bin .neq) [.t 3,.t 4],ma 2 5]
 .ret))⟩
def zeH : AFun:=⟨9,[(4,none)],
 (sr [oo 4 .mv [(.c (.int .u32 0))]]
 (sr [ma 5 0,ma 6 1,oo 7 (.un .neg) [.t 6],ca 8 zcW [.t 5,.t 7],ma 4 8]
 .ret))⟩
def zeu : AFun:=⟨17,[(4,none)],
 (sr [oo 4 .mv [(.c (.int .u32 0))]]
 (sr [ma 6 1,oo 7 (.cvt .u64) [.t 6],oo 8 (.bin .and) [.t 7,(.c (.int .u64 31))],ma 5 8]
 (sr [ma 9 0,ma 10 5,oo 11 (.bin .shl) [.t 9,.t 10],ma 12 0,ma 13 5,oo 14 (.bin .sub) [(.c (.int .u64 32)),.t 13],oo 15 (.bin .shr) [.t 12,.t 14],oo 16 (.bin .or) [.t 11,.t 15],ma 4 16]
 .ret)))⟩
def zbF : AFun:=⟨53,[],
 (sr [ma 10 1,oo 11 (.bin .add) [.t 10,ki 1],ma 8 11]
 (.block 0 (.loop
 (.seq (.seq
 (rg [ma 12 8,ma 13 2,oo 14 (.bin .lss) [.t 12,.t 13]])
 (.cond (.t 14)
 .skip
 (.exit 0)))
 (.seq (.block 1 (sr [ma 17 8,ma 9 17]
 (.block 2 (.loop
 (.seq (.seq
 (.reg true [ma 18 9,ma 19 1,oo 20 (.bin .gtr) [.t 18,.t 19],ma 21 20,mg 22 3 21,mg 23 0 21,mg 24 9 21,og 25 (.iad 2) [.t 23,.t 24] 21,og 26 (.ld true 2) [.t 25] 21,mg 27 0 21,mg 28 9 21,og 29 (.bin .sub) [.t 28,ki 1] 21,og 30 (.iad 2) [.t 27,.t 29] 21,og 31 (.ld true 2) [.t 30] 21,og 32 .call [.t 22,.t 26,.t 31] 21,og 33 (.bin .lss) [.t 32,ki 0] 21,oo 34 .pick [.t 21,.t 33,.c (.bool false)]] [[],[],[0,1],[2],[3],[3],[3],[5,6,3],[7,3],[3],[3],[10,3],[9,11,3],[12,3],[4,8,13,3,3],[14,3],[3,15]])
 (.cond (.t 34)
 .skip
 (.exit 2)))
 (.seq (.block 3 (.reg true [ma 37 0,ma 38 9,ma 39 0,ma 40 9,oo 41 (.bin .sub) [.t 40,ki 1],ma 42 0,ma 43 9,oo 44 (.bin .sub) [.t 43,ki 1],oo 45 (.iad 2) [.t 42,.t 44],oo 46 (.ld true 2) [.t 45],ma 47 0,ma 48 9,oo 49 (.iad 2) [.t 47,.t 48],oo 50 (.ld true 2) [.t 49],oo 51 (.iad 2) [.t 37,.t 38],ou (.st 2) [.t 51,.t 46],oo 52 (.iad 2) [.t 39,.t 41],ou (.st 2) [.t 52,.t 50]] [[],[],[],[],[3],[],[],[6],[5,7],[8],[],[],[10,11],[12],[0,1,0,1,5,6,7,8,9,13],[14,9,0,1,5,6,7,8,9,13],[2,4,0,1,2,3,4,5,6,7,8,9,10,11,12,13,14,15],[16,13,15,0,1,2,3,4,5,6,7,8,9,10,11,12,13,14,15]]))
 (rg [ma 35 9,oo 36 (.bin .sub) [.t 35,ki 1],ma 9 36])))))))
 (rg [ma 15 8,oo 16 (.bin .add) [.t 15,ki 1],ma 8 16]))))))⟩
end Go.Proofs.YtkngdgplbojdlaaGreat
