/- Texts of this claim,merged. -/
import Derived.Test.YteiabadhhhckfaaGreatRi5
set_option linter.unusedSimpArgs false
set_option linter.unusedVariables false
set_option linter.unusedSectionVars false
namespace Go.Proofs.YteiabadhhhckfaaGreat
open Go
set_option maxRecDepth 100000
def zgI : AFun:=⟨213,[(6,none)],
 (sr [oo 6 .mv [.c (.bool false)]]
 (.seq (.seq
 (rg [ma 27 0,ca 28 zb6 [.t 27],oo 29 (.un .not) [.t 28],ma 30 29,mh 31 1 30,oh 32 .len [.t 31] 30,oh 33 (.bin .gtr) [.t 32,ki 50] 30,oo 34 .pick [.t 30,.c (.bool true),.t 33],ma 35 34,mh 36 2 35,oh 37 .len [.t 36] 35,oh 38 (.bin .gtr) [.t 37,ki 50] 35,oo 39 .pick [.t 35,.c (.bool true),.t 38]])
 (.cond (.t 39)
 (sr [ca 40 zdY [],ma 6 40]
 .ret)
 .skip))
 (sr [ma 41 0,ca 42 zhv [.t 41],ma 7 42]
 (sr [ma 43 7,ca 44 zch [.t 43],oo 8 (.alloc [v0,vn,vn]) [],ou (.st 3) [.t 8,.t 44]]
 (sr [ma 45 7,oo 46 (.ld true 3) [.t 8],ca 47 zcS [.t 45,.t 46],oo 9 (.alloc [vn,vn,v0]) [],ou (.st 3) [.t 9,.t 47]]
 (.seq (.reg true [oo 49 (.ld true 3) [.t 8],oo 50 (.ld true 3) [.t 9],oo 51 (.ld true 3) [.t 8],fa 52 2 9,la 53 52,ca 54 zbV [.t 51,.t 53],fa 55 0 9,la 56 55,ca 57 zdc [.t 54,.t 56],ca 58 zbx [.t 49,.t 50,.t 57],ma 48 58,oo 59 (.ext 0) [.t 48],oo 60 (.ext 1) [.t 48],oo 10 (.alloc [v0,vn]) [],ou (.st 2) [.t 10,.t 59],ma 11 60] [[],[],[],[],[3],[2,4],[],[6],[5,7,5],[0,1,8,8],[9],[10],[10],[],[13,11,9,0,1,2,3,4,5,6,7,8,9,10,11,13],[12,14,0,1,2,3,4,5,6,7,8,9,10,11,12,13,14]])
 (.seq (.seq
 (rg [ma 61 11,oo 62 (.bin .neq) [.t 61,ki 0]])
 (.cond (.t 62)
 (.reg true [oo 64 (.ld true 3) [.t 8],oo 65 (.ld true 3) [.t 9],oo 66 (.ld true 3) [.t 8],fa 67 2 9,la 68 67,ca 69 zbV [.t 66,.t 68],fa 70 0 9,la 71 70,ca 72 zdc [.t 69,.t 71],ca 73 zf3 [.t 72,kn],ca 74 zbx [.t 64,.t 65,.t 73],ma 63 74,oo 75 (.ext 0) [.t 63],oo 76 (.ext 1) [.t 63],ou (.st 2) [.t 10,.t 75]] [[],[],[],[],[3],[2,4],[],[6],[5,7,5],[8,8],[0,1,9,9],[10],[11],[11],[12,10,0,1,2,3,4,5,6,7,8,9,10,11,12]])
 .skip))
 (sr [oo 12 .mv [kn]]
 (sr [oo 13 .mv [ki 0]]
 (.seq (.seq
 (rg [oo 14 .mv [ki 0]])
 (.block 0 (.loop
 (.seq (.seq
 (rg [ma 77 14,oo 78 (.bin .lss) [.t 77,ki 12],ma 79 78,mg 80 13 79,og 81 (.bin .neq) [.t 80,ki 1] 79,oo 82 .pick [.t 79,.t 81,.c (.bool false)]])
 (.cond (.t 82)
 .skip
 (.exit 0)))
 (.seq (.block 1 (sr [oo 15 .mv [kn]]
 (.seq (.seq
 (rg [oo 16 .mv [ki 0]])
 (.block 2 (.loop
 (.seq (.seq
 (rg [ma 85 16,fa 86 1 10,la 87 86,oo 88 .len [.t 87],oo 89 (.bin .lss) [.t 85,.t 88]])
 (.cond (.t 89)
 .skip
 (.exit 2)))
 (.seq (.block 3 (sr [fa 92 1 10,la 93 92,ma 94 16,oo 95 (.iad 3) [.t 93,.t 94],fa 96 0 95,la 97 96,ma 98 13,oo 99 (.bin .eql) [.t 97,.t 98]]
 (.cond (.t 99)
 (rg [ma 100 15,ma 101 16,oo 102 (.bsl 1 1 [v0] [0]) [.t 101],oo 103 (.app 1 8) [.t 100,.t 102],ma 15 103])
 .skip)))
 (rg [ma 90 16,oo 91 (.bin .add) [.t 90,ki 1],ma 16 91]))))))
 (.seq (.seq
 (rg [ma 104 15,oo 105 .len [.t 104],oo 106 (.bin .eql) [.t 105,ki 0]])
 (.cond (.t 106)
 (.exit 0)
 .skip))
 (sr [ma 107 15,ma 108 7,ma 109 15,oo 110 .len [.t 109],ca 111 zat [.t 108,.t 110],oo 112 (.iad 1) [.t 107,.t 111],la 113 112,ma 17 113]
 (.reg true [ma 114 12,ma 115 17,oo 116 (.bsl 1 1 [v0] [0]) [.t 115],oo 117 (.app 1 8) [.t 114,.t 116],fa 118 1 10,la 119 118,ma 120 17,oo 121 (.iad 3) [.t 119,.t 120],fa 122 1 121,la 123 122,ma 12 117,ma 13 123] [[],[],[1],[0,2],[],[4],[],[5,6],[7],[8],[3,3,0,1,2,3],[9,10,0,1,2,3,4,5,6,7,8,9,10]]))))))
 (rg [ma 83 14,oo 84 (.bin .add) [.t 83,ki 1],ma 14 84]))))))
 (sr [fa 124 0 8,la 125 124,ma 18 125]
 (.seq (.seq
 (rg [ma 126 7,ca 127 zat [.t 126,ki 7]])
 (.block 4 (sr [oo 129 (.bin .eql) [.t 127,ki 0],ma 128 129]
 (.cond (.t 128)
 (rg [ma 130 7,oo 131 (.bsl 1 5 [v0] [0,1,2,3,4]) [ki (-1),ki 0,ki 1,ki 64,ki 65],ca 132 zbX [.t 130,.t 131],ma 18 132])
 (sr [oo 134 (.bin .eql) [.t 127,ki 1],ma 133 134]
 (.cond (.t 133)
 (sr [ma 135 12,oo 136 .len [.t 135],oo 137 (.bin .gtr) [.t 136,ki 0]]
 (.cond (.t 137)
 (.reg true [ma 138 12,ma 139 7,ma 140 12,oo 141 .len [.t 140],ca 142 zat [.t 139,.t 141],ma 143 7,fa 144 1 10,la 145 144,oo 146 .len [.t 145],oo 147 (.bin .add) [.t 146,ki 2],ca 148 zat [.t 143,.t 147],oo 149 (.bin .sub) [.t 148,ki 1],oo 150 (.iad 1) [.t 138,.t 142],ou (.st 1) [.t 150,.t 149]] [[],[],[],[2],[1,3],[],[],[6],[7],[8],[5,9,4],[10],[0,4,0,1,2,3,4,5,6,7,8,9,10,11],[12,11,10,0,1,2,3,4,5,6,7,8,9,10,11]])
 .skip))
 (sr [oo 152 (.bin .eql) [.t 127,ki 2],ma 151 152]
 (.cond (.t 151)
 (rg [ma 153 12,ma 154 7,fa 155 1 10,la 156 155,oo 157 .len [.t 156],oo 158 (.bin .add) [.t 157,ki 1],ca 159 zat [.t 154,.t 158],oo 160 (.bsl 1 1 [v0] [0]) [.t 159],oo 161 (.app 1 8) [.t 153,.t 160],ma 12 161])
 .skip))))))))
 (sr [ma 163 18,fa 164 1 10,la 165 164,ma 166 12,ca 167 zcF [.t 163,.t 165,.t 166],ma 162 167,oo 168 (.ext 0) [.t 162],oo 169 (.ext 1) [.t 162],ma 19 168,ma 20 169]
 (sr [ma 171 18,fa 172 1 10,la 173 172,ma 174 12,ca 175 zeF [.t 171,.t 173,.t 174],ma 170 175,oo 176 (.ext 0) [.t 170],oo 177 (.ext 1) [.t 170],ma 21 176,ma 22 177]
 (sr [ma 179 18,ma 180 1,ma 181 2,ca 182 zcF [.t 179,.t 180,.t 181],ma 178 182,oo 183 (.ext 0) [.t 178],oo 184 (.ext 1) [.t 178],ma 23 183,ma 24 184]
 (sr [ma 186 18,ma 187 1,ma 188 2,ca 189 zeF [.t 186,.t 187,.t 188],ma 185 189,oo 190 (.ext 0) [.t 185],oo 191 (.ext 1) [.t 185],ma 25 190,ma 26 191]
 (sr [ma 192 20,ma 193 22,oo 194 (.bin .eql) [.t 192,.t 193],ma 195 194,mg 196 24 195,mg 197 26 195,og 198 (.bin .eql) [.t 196,.t 197] 195,oo 199 .pick [.t 195,.t 198,.c (.bool false)],ma 200 199,mg 201 19 200,mg 202 21 200,og 203 .call [.f zbQ,.t 201,.t 202] 200,oo 204 .pick [.t 200,.t 203,.c (.bool false)],ma 205 204,mg 206 23 205,mg 207 25 205,og 208 .call [.f zbQ,.t 206,.t 207] 205,oo 209 .pick [.t 205,.t 208,.c (.bool false)],ma 210 209,og 211 .call [.f zdY] 210,oo 212 .pick [.t 210,.t 211,.c (.bool false)],ma 6 212]
 .ret)))))))))))))))))⟩
def zhI : AFun:=⟨50,[(4,some (true,3))],
 (sr [oo 3 (.box 3) [.t 1],oo 4 (.alloc [vn,vn,v0]) []]
 (sr [ma 8 0,fa 9 0 3,la 10 9,ca 11 zat [.t 8,.t 10],oo 12 (.bsl 1 1 [v0] [0]) [.t 11],ma 13 0,oo 14 (.bsl 1 4 [v0] [0,1,2,3]) [ki 1,ki 1,ki 2,ki 3],ca 15 zbX [.t 13,.t 14],oo 16 (.build [vn,vn,v0] [(0,1),(2,1)]) [.t 12,.t 15],oo 5 (.alloc [vn,vn,v0]) [],ou (.st 3) [.t 5,.t 16]]
 (.seq (.seq
 (rg [ma 17 0,ca 18 zcg [.t 17,ki 3]])
 (.cond (.t 18)
 (.reg true [fa 19 0 5,la 20 19,ma 21 0,fa 22 0 3,la 23 22,ca 24 zat [.t 21,.t 23],ca 25 zen [.t 20,.t 24],fa 26 0 5,ou (.st 1) [.t 26,.t 25]] [[],[0],[],[],[3],[2,4],[1,5,5],[0,1,2,3,4,5,6],[7,6,6,0,1,2,3,4,5,6]])
 .skip))
 (sr [ma 27 0,oo 28 (.bsl 1 5 [v0] [0,1,2,3,4]) [ki 3,ki 2,ki 1,ki 6,ki 0],ca 29 zbX [.t 27,.t 28],oo 30 (.bin .add) [ki 1,.t 29],ma 6 30]
 (.seq (.seq
 (rg [ma 31 0,ca 32 zat [.t 31,ki 4],oo 33 (.bin .add) [ki 1,.t 32],ma 7 33])
 (.block 0 (.loop
 (.seq (.seq
 (rg [ma 34 7,oo 35 (.bin .gtr) [.t 34,ki 0]])
 (.cond (.t 35)
 .skip
 (.exit 0)))
 (.seq (.block 1 (sr [fa 38 1 5,la 39 38,ma 40 6,oo 41 (.bsl 1 1 [v0] [0]) [.t 40],oo 42 (.app 1 8) [.t 39,.t 41],fa 43 1 5,ou (.st 1) [.t 43,.t 42]]
 (rg [ma 44 6,ma 45 0,ca 46 zat [.t 45,ki 3],oo 47 (.bin .sub) [.t 44,.t 46],oo 48 .mx2 [ki 1,.t 47],ma 6 48])))
 (rg [ma 36 7,oo 37 (.bin .sub) [.t 36,ki 1],ma 7 37]))))))
 (sr [oo 49 (.ld true 3) [.t 5],ou (.st 3) [.t 4,.t 49]]
 .ret))))))⟩
def znC : AFun:=⟨72,[(4,some (true,3)),(5,none)],
 (sr [oo 2 (.box 3) [.t 0],oo 3 (.box 3) [.t 1],oo 4 (.alloc [vn,vn,vn]) [],oo 5 .mv [ki 0]]
 (.seq (.seq
 (rg [oo 14 (.ld true 3) [.t 2],oo 15 (.ld true 3) [.t 3],ca 16 zbS [.t 14,.t 15],ma 6 16])
 (sr [ma 17 6,oo 18 (.bin .neq) [.t 17,ki 0]]
 (.cond (.t 18)
 (sr [oo 19 (.build [vn,vn,vn] []) [],ma 20 6,ou (.st 3) [.t 4,.t 19],ma 5 20]
 .ret)
 .skip)))
 (sr [oo 7 (.alloc [vn,vn,vn]) []]
 (.seq (.seq
 (rg [oo 21 (.ld true 3) [.t 2],oo 22 (.ld true 3) [.t 3],ca 23 zeP [.t 21,.t 22],oo 24 .len [.t 23],oo 25 .mv [ki 0]])
 (.block 0 (.loop
 (sr [oo 26 (.bin .lss) [.t 25,.t 24]]
 (.seq (.cond (.t 26)
 .skip
 (.exit 0))
 (.seq (.block 1 (sr [oo 27 (.iad 1) [.t 23,.t 25],la 28 27,ma 9 28]
 (sr [fa 29 0 7,la 30 29,ma 31 9,ca 32 zfy [.t 30,.t 31],ma 10 32]
 (sr [oo 33 (.ld true 3) [.t 2],oo 34 (.ld true 3) [.t 3],ma 35 10,ca 36 zcA [.t 33,.t 34,.t 35],oo 11 (.alloc [v0,vn]) [],ou (.st 2) [.t 11,.t 36]]
 (sr [oo 38 (.ld true 2) [.t 11],ma 39 10,oo 40 .len [.t 39],ca 41 zcz [.t 38,.t 40],ma 37 41,oo 42 (.ext 0) [.t 37],oo 43 (.ext 1) [.t 37],ma 12 42,ma 13 43]
 (.seq (.seq
 (rg [ma 44 13])
 (.cond (.t 44)
 (sr [ma 45 10,fa 46 0 7,ou (.st 1) [.t 46,.t 45]]
 (.exit 1))
 .skip))
 (.reg true [fa 47 2 7,la 48 47,ma 49 9,oo 50 (.ld true 2) [.t 11],ma 51 12,ca 52 zeU [.t 50,.t 51],oo 53 (.build [v0,vn] [(0,1),(1,1)]) [.t 49,.t 52],oo 54 (.bsl 2 1 [v0,vn] [0]) [.t 53],oo 55 (.app 2 32) [.t 48,.t 54],fa 56 2 7,ou (.st 1) [.t 56,.t 55]] [[],[0],[],[],[],[3,4],[2,5],[6],[1,7,5],[0,1,2,3,4,5,6,7,8],[9,8,8,0,1,2,3,4,5,6,7,8]])))))))
 (rg [oo 57 (.bin .add) [.t 25,ki 1],ma 25 57])))))))
 (.seq (.reg true [oo 59 (.ld true 3) [.t 2],oo 60 (.ld true 3) [.t 3],fa 61 0 7,la 62 61,ca 63 zcA [.t 59,.t 60,.t 62],fa 64 0 7,la 65 64,oo 66 .len [.t 65],ca 67 zcz [.t 63,.t 66],ma 58 67,oo 68 (.ext 0) [.t 58],oo 69 (.ext 1) [.t 58],fa 70 1 7,ou (.st 1) [.t 70,.t 68]] [[],[],[],[2],[0,1,3],[],[5],[6],[4,7,4],[8],[9],[9],[0,1,2,3,4,5,6,7,8,9,10],[12,10,8,0,1,2,3,4,5,6,7,8,9,10]])
 (sr [oo 71 (.ld true 3) [.t 7],ou (.st 3) [.t 4,.t 71],oo 5 .mv [ki 0]]
 .ret))))))⟩
def zjP : AFun:=⟨9,[(4,none)],
 (sr [oo 2 (.box 3) [.t 0],oo 4 .mv [.c (.bool false)]]
 (sr [fa 5 0 2,la 6 5,ma 7 1,ca 8 zar [.t 6,.t 7],ma 4 8]
 .ret))⟩
def zp3 : AFun:=⟨84,[(4,some (true,3)),(5,none)],
 (sr [oo 2 (.box 3) [.t 0],oo 3 (.box 3) [.t 1],oo 4 (.alloc [vn,vn,vn]) [],oo 5 .mv [ki 0]]
 (.seq (.seq
 (rg [oo 17 (.ld true 3) [.t 2],oo 18 (.ld true 3) [.t 3],ca 19 zd0 [.t 17,.t 18],ma 6 19])
 (sr [ma 20 6,oo 21 (.bin .neq) [.t 20,ki 0]]
 (.cond (.t 21)
 (sr [oo 22 (.build [vn,vn,vn] []) [],ma 23 6,ou (.st 3) [.t 4,.t 22],ma 5 23]
 .ret)
 .skip)))
 (sr [oo 7 (.alloc [vn,vn,vn]) []]
 (sr [oo 8 .mv [kn]]
 (.seq (.reg true [oo 24 (.ld true 3) [.t 2],fa 25 2 3,la 26 25,ca 27 zbV [.t 24,.t 26],fa 28 0 3,la 29 28,ca 30 zdc [.t 27,.t 29],ma 9 30] [[],[],[1],[0,2],[],[4],[3,5,3],[6,6,0,1,2,3,4,5,6]])
 (.seq (.seq
 (rg [oo 10 .mv [ki 0]])
 (.block 0 (.loop
 (.seq (.seq
 (rg [ma 31 10,ma 32 9,oo 33 .len [.t 32],oo 34 (.bin .lss) [.t 31,.t 33]])
 (.cond (.t 34)
 .skip
 (.exit 0)))
 (.seq (.block 1 (sr [ma 37 9,ma 38 10,oo 39 (.iad 1) [.t 37,.t 38],la 40 39,ma 11 40]
 (.seq (.reg true [oo 42 (.ld true 3) [.t 2],oo 43 (.ld true 3) [.t 3],ma 44 8,ma 45 11,ca 46 zen [.t 44,.t 45],ca 47 zdo [.t 42,.t 43,.t 46],ma 41 47,oo 48 (.ext 0) [.t 41],oo 49 (.ext 1) [.t 41],oo 50 (.ext 2) [.t 41],oo 12 (.alloc [v0,vn]) [],ou (.st 2) [.t 12,.t 48],ma 13 49,ma 14 50] [[],[],[],[],[2,3],[0,1,4,4],[5],[6],[6],[6],[],[10,7,5,0,1,2,3,4,5,6,7,10],[8,11,0,1,2,3,4,5,6,7,8,10,11],[9,12,0,1,2,3,4,5,6,7,8,9,10,11,12]])
 (.seq (.seq
 (rg [ma 51 14])
 (.cond (.t 51)
 (sr [fa 52 0 7,la 53 52,ma 54 11,oo 55 (.bsl 1 1 [v0] [0]) [.t 54],oo 56 (.app 1 8) [.t 53,.t 55],ma 57 8,ma 58 11,ca 59 zen [.t 57,.t 58],fa 60 0 7,ou (.st 1) [.t 60,.t 56],ma 8 59]
 (.exit 1))
 .skip))
 (sr [oo 62 (.ld true 2) [.t 12],ca 63 zee [.t 62],ma 61 63,oo 64 (.ext 0) [.t 61],oo 65 (.ext 1) [.t 61],ma 15 64,ma 16 65]
 (rg [fa 66 2 7,la 67 66,ma 68 11,ma 69 15,oo 70 (.build [v0,vn] [(0,1),(1,1)]) [.t 68,.t 69],oo 71 (.bsl 2 1 [v0,vn] [0]) [.t 70],oo 72 (.app 2 32) [.t 67,.t 71],fa 73 2 7,ou (.st 1) [.t 73,.t 72]]))))))
 (rg [ma 35 10,oo 36 (.bin .add) [.t 35,ki 1],ma 10 36]))))))
 (sr [oo 75 (.ld true 3) [.t 2],oo 76 (.ld true 3) [.t 3],ma 77 8,ca 78 zdo [.t 75,.t 76,.t 77],ma 74 78,oo 79 (.ext 0) [.t 74],oo 80 (.ext 1) [.t 74],oo 81 (.ext 2) [.t 74],fa 82 1 7,ou (.st 1) [.t 82,.t 80]]
 (sr [oo 83 (.ld true 3) [.t 7],ou (.st 3) [.t 4,.t 83],oo 5 .mv [ki 0]]
 .ret))))))))⟩
def zmh : AFun:=⟨12,[(4,none)],
 (sr [oo 2 (.box 3) [.t 0],oo 3 (.box 3) [.t 1],oo 4 .mv [ki 0]]
 (.seq (.seq
 (rg [oo 5 (.ld true 3) [.t 2],ca 6 zd1 [.t 5],oo 7 (.bin .neq) [.t 6,ki 0]])
 (.cond (.t 7)
 (sr [oo 4 .mv [ki 14]]
 .ret)
 .skip))
 (.seq (.seq
 (rg [oo 8 (.ld true 3) [.t 2],oo 9 (.ld true 3) [.t 3],ca 10 zeS [.t 8,.t 9],oo 11 (.un .not) [.t 10]])
 (.cond (.t 11)
 (sr [oo 4 .mv [ki 15]]
 .ret)
 .skip))
 (sr [oo 4 .mv [ki 0]]
 .ret))))⟩
def zqd : AFun:=⟨31,[(4,none)],
 (sr [oo 2 (.box 3) [.t 0],oo 3 (.box 3) [.t 1],oo 4 .mv [kn]]
 (.seq (.reg true [oo 8 (.ld true 3) [.t 2],fa 9 2 3,la 10 9,ca 11 zbV [.t 8,.t 10],fa 12 0 3,la 13 12,ca 14 zer [.t 11,.t 13],ma 5 14] [[],[],[1],[0,2],[],[4],[3,5,3],[6,6,0,1,2,3,4,5,6]])
 (sr [oo 6 .mv [kn]]
 (.seq (.seq
 (rg [oo 7 .mv [ki 0]])
 (.block 0 (.loop
 (.seq (.seq
 (rg [ma 15 7,ma 16 5,oo 17 .len [.t 16],oo 18 (.bin .lss) [.t 15,.t 17]])
 (.cond (.t 18)
 .skip
 (.exit 0)))
 (.seq (.block 1 (.reg true [ma 21 6,oo 22 (.ld true 3) [.t 3],ma 23 5,ma 24 7,oo 25 (.iad 1) [.t 23,.t 24],la 26 25,ca 27 zjt [.t 22,.t 26],oo 28 (.bsl 1 1 [v0] [0]) [.t 27],oo 29 (.app 1 8) [.t 21,.t 28],ma 6 29] [[],[],[],[],[2,3],[4],[1,5],[6],[0,7,6],[8,8,0,1,2,3,4,5,6,7,8]]))
 (rg [ma 19 7,oo 20 (.bin .add) [.t 19,ki 1],ma 7 20]))))))
 (sr [ma 30 6,ma 4 30]
 .ret)))))⟩
def zkn : AFun:=⟨158,[(6,some (true,2)),(7,none)],
 (sr [oo 3 (.box 3) [.t 0],oo 4 (.box 3) [.t 1],oo 6 (.alloc [v0,vn]) [],oo 7 .mv [ki 0]]
 (.seq (.seq
 (rg [oo 18 (.ld true 3) [.t 3],oo 19 (.ld true 3) [.t 4],ca 20 zd0 [.t 18,.t 19],ma 8 20])
 (sr [ma 21 8,oo 22 (.bin .neq) [.t 21,ki 0]]
 (.cond (.t 22)
 (sr [oo 23 (.build [v0,vn] []) [],ma 24 8,ou (.st 2) [.t 6,.t 23],ma 7 24]
 .ret)
 .skip)))
 (.seq (.seq
 (rg [ma 25 2,fa 26 0 3,la 27 26,ca 28 zcQ [.t 25,.t 27],oo 29 (.un .not) [.t 28]])
 (.cond (.t 29)
 (sr [oo 30 (.build [v0,vn] []) [],ou (.st 2) [.t 6,.t 30],oo 7 .mv [ki 4]]
 .ret)
 .skip))
 (sr [oo 31 (.ld true 3) [.t 3],fa 32 2 4,la 33 32,ca 34 zbV [.t 31,.t 33],ou (.st 3) [.t 3,.t 34]]
 (.seq (.reg true [oo 35 (.ld true 3) [.t 3],fa 36 0 4,la 37 36,ca 38 zer [.t 35,.t 37],oo 39 (.ld true 3) [.t 3],oo 40 (.ld true 3) [.t 4],ca 41 zhu [.t 39,.t 40],ma 9 38,ma 10 41] [[],[],[1],[0,2],[],[],[4,5,3],[3,6,0,1,2,3],[6,7,0,1,2,3,4,5,6,7]])
 (sr [fa 42 0 3,la 43 42,oo 44 (.bin .mul) [ki 2,.t 43],oo 45 (.bin .add) [ki 2,.t 44],oo 46 (.build [v0,vn] [(0,1)]) [.t 45],oo 11 (.alloc [v0,vn]) [],ou (.st 2) [.t 11,.t 46]]
 (.seq (.seq
 (rg [oo 12 .mv [ki 0]])
 (.block 0 (.loop
 (.seq (.seq
 (rg [ma 47 12,fa 48 0 4,la 49 48,oo 50 .len [.t 49],oo 51 (.bin .lss) [.t 47,.t 50]])
 (.cond (.t 51)
 .skip
 (.exit 0)))
 (.seq (.block 1 (sr [fa 54 0 4,la 55 54,ma 56 12,oo 57 (.iad 1) [.t 55,.t 56],la 58 57,ma 13 58]
 (sr [ma 59 9,ma 60 13,oo 61 (.iad 1) [.t 59,.t 60],la 62 61,oo 63 (.bin .geq) [.t 62,ki 0]]
 (.cond (.t 63)
 (.reg true [fa 64 1 11,la 65 64,ma 66 13,ca 67 zcu [.t 66],ma 68 10,ma 69 13,oo 70 (.iad 1) [.t 68,.t 69],la 71 70,oo 72 (.build [v0,v0,v0] [(0,1),(1,1),(2,1)]) [ki 0,.t 67,.t 71],oo 73 (.bsl 3 1 [v0,v0,v0] [0]) [.t 72],oo 74 (.app 3 24) [.t 65,.t 73],fa 75 1 11,ou (.st 1) [.t 75,.t 74]] [[],[0],[],[2],[],[],[4,5],[6],[3,7],[8],[1,9,3],[0,1,2,3,4,5,6,7,8,9,10],[11,10,10,0,1,2,3,4,5,6,7,8,9,10]])
 .skip))))
 (rg [ma 52 12,oo 53 (.bin .add) [.t 52,ki 1],ma 12 53]))))))
 (.seq (.seq
 (rg [oo 14 .mv [ki 0]])
 (.block 2 (.loop
 (.seq (.seq
 (rg [ma 76 14,fa 77 0 3,la 78 77,oo 79 (.bin .lss) [.t 76,.t 78]])
 (.cond (.t 79)
 .skip
 (.exit 2)))
 (.seq (.block 3 (sr [ma 82 9,ma 83 14,oo 84 (.iad 1) [.t 82,.t 83],la 85 84,oo 86 (.bin .geq) [.t 85,ki 0]]
 (.cond (.t 86)
 (.reg true [fa 87 1 11,la 88 87,ma 89 14,ca 90 zcu [.t 89],ma 91 14,ca 92 zex [.t 91],ma 93 10,ma 94 14,oo 95 (.iad 1) [.t 93,.t 94],la 96 95,oo 97 (.bin .sub) [.t 96,ki 1],oo 98 (.build [v0,v0,v0] [(0,1),(1,1),(2,1)]) [.t 90,.t 92,.t 97],oo 99 (.bsl 3 1 [v0,v0,v0] [0]) [.t 98],oo 100 (.app 3 24) [.t 88,.t 99],fa 101 1 11,ou (.st 1) [.t 101,.t 100]] [[],[0],[],[2],[],[4,3],[],[],[6,7],[8],[9],[3,5,10],[11],[1,12,5],[0,1,2,3,4,5,6,7,8,9,10,11,12,13],[14,13,13,0,1,2,3,4,5,6,7,8,9,10,11,12,13]])
 .skip)))
 (rg [ma 80 14,oo 81 (.bin .add) [.t 80,ki 1],ma 14 81]))))))
 (.seq (.seq
 (rg [oo 15 .mv [ki 0]])
 (.block 4 (.loop
 (.seq (.seq
 (rg [ma 102 15,ma 103 2,oo 104 .len [.t 103],oo 105 (.bin .lss) [.t 102,.t 104]])
 (.cond (.t 105)
 .skip
 (.exit 4)))
 (.seq (.block 5 (sr [ma 108 9,ma 109 2,ma 110 15,oo 111 (.iad 1) [.t 109,.t 110],la 112 111,oo 113 (.iad 1) [.t 108,.t 112],la 114 113,oo 115 (.bin .geq) [.t 114,ki 0]]
 (.cond (.t 115)
 (.reg true [fa 116 1 11,la 117 116,ma 118 2,ma 119 15,oo 120 (.iad 1) [.t 118,.t 119],la 121 120,ca 122 zcu [.t 121],oo 123 (.build [v0,v0,v0] [(0,1),(1,1),(2,1)]) [.t 122,ki 1,ki 1],oo 124 (.bsl 3 1 [v0,v0,v0] [0]) [.t 123],oo 125 (.app 3 24) [.t 117,.t 124],fa 126 1 11,ou (.st 1) [.t 126,.t 125]] [[],[0],[],[],[2,3],[4],[5],[6],[7],[1,8,6],[0,1,2,3,4,5,6,7,8,9],[10,9,9,0,1,2,3,4,5,6,7,8,9]])
 .skip)))
 (rg [ma 106 15,oo 107 (.bin .add) [.t 106,ki 1],ma 15 107]))))))
 (.seq (.seq
 (rg [oo 16 .mv [ki 0]])
 (.block 6 (.loop
 (.seq (.seq
 (rg [ma 127 16,fa 128 1 3,la 129 128,oo 130 .len [.t 129],oo 131 (.bin .lss) [.t 127,.t 130]])
 (.cond (.t 131)
 .skip
 (.exit 6)))
 (.seq (.block 7 (sr [fa 134 1 3,la 135 134,ma 136 16,oo 137 (.iad 3) [.t 135,.t 136],oo 138 (.ld true 3) [.t 137],oo 17 (.alloc [v0,v0,v0]) [],ou (.st 3) [.t 17,.t 138]]
 (sr [ma 139 9,fa 140 0 17,la 141 140,oo 142 (.iad 1) [.t 139,.t 141],la 143 142,oo 144 (.bin .geq) [.t 143,ki 0]]
 (.cond (.t 144)
 (.reg true [fa 145 1 11,la 146 145,fa 147 0 17,la 148 147,ca 149 zex [.t 148],fa 150 1 17,la 151 150,ca 152 zcu [.t 151],oo 153 (.build [v0,v0,v0] [(0,1),(1,1),(2,1)]) [.t 149,.t 152,ki 64],oo 154 (.bsl 3 1 [v0,v0,v0] [0]) [.t 153],oo 155 (.app 3 24) [.t 146,.t 154],fa 156 1 11,ou (.st 1) [.t 156,.t 155]] [[],[0],[],[2],[3],[],[5],[6,4],[4,7],[8],[1,9,7],[0,1,2,3,4,5,6,7,8,9,10],[11,10,10,0,1,2,3,4,5,6,7,8,9,10]])
 .skip))))
 (rg [ma 132 16,oo 133 (.bin .add) [.t 132,ki 1],ma 16 133]))))))
 (sr [oo 157 (.ld true 2) [.t 11],ou (.st 2) [.t 6,.t 157],oo 7 .mv [ki 0]]
 .ret)))))))))))⟩
def zpO : AFun:=⟨112,[(2,none),(3,none)],
 (sr [oo 1 (.box 2) [.t 0],oo 2 .mv [kn],oo 3 .mv [ki 0]]
 (.seq (.seq
 (rg [oo 11 (.ld true 2) [.t 1],ca 12 zd2 [.t 11],oo 13 (.bin .neq) [.t 12,ki 0]])
 (.cond (.t 13)
 (sr [oo 2 .mv [kn],oo 3 .mv [ki 16]]
 .ret)
 .skip))
 (sr [fa 14 1 1,la 15 14,oo 16 .len [.t 15],oo 17 (.mks 1 8 [v0]) [.t 16,.t 16],ma 4 17]
 (.block 0 (.loop
 (.block 1 (sr [oo 18 (.ld true 2) [.t 1],ma 19 4,ca 20 zcC [.t 18,.t 19],ma 5 20]
 (.seq (.seq
 (rg [ma 21 5,oo 22 (.iad 1) [.t 21,ki 1],la 23 22,oo 24 (.bin .eql) [.t 23,ki 0]])
 (.cond (.t 24)
 (sr [ma 25 4,ma 2 25,oo 3 .mv [ki 0]]
 .ret)
 .skip))
 (sr [oo 6 .mv [ki 1048576]]
 (.seq (.seq
 (rg [oo 7 .mv [ki 1]])
 (.block 2 (.loop
 (.seq (.seq
 (rg [ma 26 7,oo 27 (.bin .neq) [.t 26,ki 0]])
 (.cond (.t 27)
 .skip
 (.exit 2)))
 (.block 3 (sr [ma 28 5,ma 29 7,oo 30 (.iad 1) [.t 28,.t 29],la 31 30,ma 8 31]
 (sr [ma 32 8,oo 33 (.bin .gtr) [.t 32,ki 0]]
 (.cond (.t 33)
 (.reg true [ma 34 6,fa 35 1 1,la 36 35,ma 37 8,oo 38 (.bin .sub) [.t 37,ki 1],oo 39 (.iad 3) [.t 36,.t 38],fa 40 2 39,la 41 40,ma 42 4,ma 43 8,oo 44 (.bin .sub) [.t 43,ki 1],oo 45 (.iad 1) [.t 42,.t 44],la 46 45,oo 47 (.bin .sub) [.t 41,.t 46],oo 48 .mn2 [.t 34,.t 47],fa 49 1 1,la 50 49,ma 51 8,oo 52 (.bin .sub) [.t 51,ki 1],oo 53 (.iad 3) [.t 50,.t 52],fa 54 0 53,la 55 54,ma 6 48,ma 7 55] [[],[],[1],[],[3],[2,4],[5],[6],[],[],[9],[8,10],[11],[7,12],[0,13],[],[15],[],[17],[16,18],[19],[20],[14,0,1,2,3,4,5,6,7,8,9,10,11,12,13,14],[21,22,0,1,2,3,4,5,6,7,8,9,10,11,12,13,14,15,16,17,18,19,20,21,22]])
 (.reg true [ma 56 6,ma 57 4,ma 58 8,oo 59 (.un .neg) [.t 58],oo 60 (.bin .sub) [.t 59,ki 1],oo 61 (.iad 1) [.t 57,.t 60],la 62 61,oo 63 .mn2 [.t 56,.t 62],fa 64 1 1,la 65 64,ma 66 8,oo 67 (.un .neg) [.t 66],oo 68 (.bin .sub) [.t 67,ki 1],oo 69 (.iad 3) [.t 65,.t 68],fa 70 1 69,la 71 70,ma 6 63,ma 7 71] [[],[],[],[2],[3],[1,4],[5],[0,6],[],[8],[],[10],[11],[9,12],[13],[14],[7,0,1,2,3,4,5,6,7],[15,16,0,1,2,3,4,5,6,7,8,9,10,11,12,13,14,15,16]])))))))))
 (sr [oo 9 .mv [ki 1]]
 (.block 4 (.loop
 (.seq (.seq
 (rg [ma 72 9,oo 73 (.bin .neq) [.t 72,ki 0]])
 (.cond (.t 73)
 .skip
 (.exit 4)))
 (.block 5 (sr [ma 74 5,ma 75 9,oo 76 (.iad 1) [.t 74,.t 75],la 77 76,ma 10 77]
 (sr [ma 78 10,oo 79 (.bin .gtr) [.t 78,ki 0]]
 (.cond (.t 79)
 (sr [ma 80 4,ma 81 10,oo 82 (.bin .sub) [.t 81,ki 1],oo 83 (.iad 1) [.t 80,.t 82],la 84 83,ma 85 6,oo 86 (.bin .add) [.t 84,.t 85],oo 87 (.iad 1) [.t 80,.t 82],ou (.st 1) [.t 87,.t 86]]
 (rg [fa 88 1 1,la 89 88,ma 90 10,oo 91 (.bin .sub) [.t 90,ki 1],oo 92 (.iad 3) [.t 89,.t 91],fa 93 0 92,la 94 93,ma 9 94]))
 (sr [ma 95 4,ma 96 10,oo 97 (.un .neg) [.t 96],oo 98 (.bin .sub) [.t 97,ki 1],oo 99 (.iad 1) [.t 95,.t 98],la 100 99,ma 101 6,oo 102 (.bin .sub) [.t 100,.t 101],oo 103 (.iad 1) [.t 95,.t 98],ou (.st 1) [.t 103,.t 102]]
 (rg [fa 104 1 1,la 105 104,ma 106 10,oo 107 (.un .neg) [.t 106],oo 108 (.bin .sub) [.t 107,ki 1],oo 109 (.iad 3) [.t 105,.t 108],fa 110 1 109,la 111 110,ma 9 111]))))))))))))))))))))⟩
def zm1 : AFun:=⟨31,[(4,none)],
 (sr [oo 2 (.box 2) [.t 0],oo 4 .mv [ki 0]]
 (.seq (.seq
 (rg [oo 7 (.ld true 2) [.t 2],ma 8 1,ca 9 zfi [.t 7,.t 8],oo 10 (.un .not) [.t 9]])
 (.cond (.t 10)
 (sr [oo 4 .mv [ki 0]]
 .ret)
 .skip))
 (sr [oo 5 .mv [ki 0]]
 (.seq (.seq
 (rg [oo 6 .mv [ki 0]])
 (.block 0 (.loop
 (.seq (.seq
 (rg [ma 11 6,ma 12 1,oo 13 .len [.t 12],oo 14 (.bin .lss) [.t 11,.t 13]])
 (.cond (.t 14)
 .skip
 (.exit 0)))
 (.seq (.block 1 (sr [fa 17 1 2,la 18 17,ma 19 6,oo 20 (.iad 3) [.t 18,.t 19],fa 21 0 20,la 22 21,oo 23 (.bin .eql) [.t 22,ki 0]]
 (.cond (.t 23)
 (rg [ma 24 5,ma 25 1,ma 26 6,oo 27 (.iad 1) [.t 25,.t 26],la 28 27,oo 29 (.bin .add) [.t 24,.t 28],ma 5 29])
 .skip)))
 (rg [ma 15 6,oo 16 (.bin .add) [.t 15,ki 1],ma 6 16]))))))
 (sr [ma 30 5,ma 4 30]
 .ret)))))⟩
def zfO : AFun:=⟨6,[(2,none)],
 (sr [oo 2 .mv [.c (.bool false)]]
 (sr [ma 3 0,oo 4 .len [.t 3],oo 5 (.bin .leq) [.t 4,ki 400],ma 2 5]
 .ret))⟩
def zmm : AFun:=⟨37,[(0,none)],
 (sr [oo 0 .mv [.c (.bool false)]]
 (sr [oo 4 (.build [v0,vn,vn] [(0,1)]) [ki 1],oo 5 (.bsl 1 1 [v0] [0]) [ki 0],oo 6 (.bsl 1 1 [v0] [0]) [ki 2],oo 7 (.build [vn,vn,v0] [(0,1),(1,1),(2,1)]) [.t 5,.t 6,ki 1],ca 8 zfe [.t 4,.t 7,ki 0],ma 3 8,oo 9 (.ext 0) [.t 3],oo 10 (.ext 1) [.t 3],oo 1 (.alloc [v0,(.bool false),vn,vn,vn]) [],ou (.st 5) [.t 1,.t 9],ma 2 10]
 (sr [ma 11 2,oo 12 (.bin .eql) [.t 11,ki 0],ma 13 12,fg 14 1 1 13,lg 15 14 13,oo 16 .pick [.t 13,.t 15,.c (.bool false)],ma 17 16,fg 18 3 1 17,lg 19 18 17,og 20 .len [.t 19] 17,og 21 (.bin .eql) [.t 20,ki 1] 17,oo 22 .pick [.t 17,.t 21,.c (.bool false)],ma 23 22,fg 24 3 1 23,lg 25 24 23,og 26 (.iad 1) [.t 25,ki 0] 23,lg 27 26 23,og 28 (.bsl 1 1 [v0] [0]) [ki 0] 23,og 29 .call [.f zbQ,.t 27,.t 28] 23,oo 30 .pick [.t 23,.t 29,.c (.bool false)],ma 31 30,fg 32 2 1 31,lg 33 32 31,og 34 .len [.t 33] 31,og 35 (.bin .eql) [.t 34,ki 0] 31,oo 36 .pick [.t 31,.t 35,.c (.bool false)],ma 0 36]
 .ret)))⟩
def znw : AFun:=⟨24,[(4,none)],
 (sr [oo 4 .mv [kn]]
 (sr [oo 5 .mv [kn]]
 (.seq (.seq
 (rg [oo 6 .mv [ki 0]])
 (.block 0 (.loop
 (.seq (.seq
 (rg [ma 7 6,oo 8 (.bin .lss) [.t 7,ki 64]])
 (.cond (.t 8)
 .skip
 (.exit 0)))
 (.seq (.block 1 (sr [ma 11 0,ma 12 6,ca 13 zfG [.t 11,.t 12],ma 14 13,mh 15 1 14,mh 16 6 14,oh 17 .call [.f zfG,.t 15,.t 16] 14,oo 18 .pick [.t 14,.c (.bool true),.t 17]]
 (.cond (.t 18)
 (rg [ma 19 5,ma 20 6,oo 21 (.bsl 1 1 [v0] [0]) [.t 20],oo 22 (.app 1 8) [.t 19,.t 21],ma 5 22])
 .skip)))
 (rg [ma 9 6,oo 10 (.bin .add) [.t 9,ki 1],ma 6 10]))))))
 (sr [ma 23 5,ma 4 23]
 .ret))))⟩
def zlb : AFun:=⟨82,[(6,none),(7,none)],
 (sr [oo 6 .mv [kn],oo 7 .mv [ki 0]]
 (.seq (.seq
 (rg [ma 14 0,oo 15 (.bin .lss) [.t 14,ki 0],ma 16 15,mh 17 0 16,oh 18 (.bin .gtr) [.t 17,ki 64] 16,oo 19 .pick [.t 16,.c (.bool true),.t 18]])
 (.cond (.t 19)
 (sr [oo 6 .mv [kn],oo 7 .mv [ki 16]]
 .ret)
 .skip))
 (sr [oo 8 .mv [kn]]
 (sr [oo 9 .mv [ki 0]]
 (.seq (.seq
 (rg [ma 20 2,oo 21 .len [.t 20],oo 22 .mv [ki 0]])
 (.block 0 (.loop
 (sr [oo 23 (.bin .lss) [.t 22,.t 21]]
 (.seq (.cond (.t 23)
 .skip
 (.exit 0))
 (.seq (.block 1 (sr [ma 24 22,oo 25 (.iad 1) [.t 20,.t 22],la 26 25,ma 10 24,ma 11 26]
 (.seq (.seq
 (rg [ma 27 11,oo 28 (.bin .lss) [.t 27,ki 0],ma 29 28,mh 30 11 29,mh 31 1 29,oh 32 .len [.t 31] 29,oh 33 (.bin .geq) [.t 30,.t 32] 29,oo 34 .pick [.t 29,.c (.bool true),.t 33],ma 35 34,mh 36 1 35,mh 37 11 35,oh 38 (.iad 3) [.t 36,.t 37] 35,fh 39 0 38 35,lh 40 39 35,mh 41 9 35,oh 42 (.bin .neq) [.t 40,.t 41] 35,oo 43 .pick [.t 35,.c (.bool true),.t 42]])
 (.cond (.t 43)
 (sr [oo 6 .mv [kn],oo 7 .mv [ki 17]]
 .ret)
 .skip))
 (sr [ma 44 1,ma 45 11,oo 46 (.iad 3) [.t 44,.t 45],fa 47 1 46,la 48 47,ma 9 48]
 (.seq (.seq
 (rg [ma 49 10,ma 50 2,oo 51 .len [.t 50],oo 52 (.bin .sub) [.t 51,ki 1],oo 53 (.bin .eql) [.t 49,.t 52],ma 12 53])
 (sr [ma 54 12,ma 55 9,oo 56 (.bin .eql) [.t 55,ki 1],oo 57 (.beq true) [.t 54,.t 56],ma 58 57,mh 59 12 58,oh 60 (.un .not) [.t 59] 58,mh 61 60 58,mg 62 9 61,mg 63 0 61,og 64 .call [.f zdO,.t 62,.t 63] 61,og 65 (.un .not) [.t 64] 61,oh 66 .pick [.t 61,.t 65,.c (.bool false)] 58,oo 67 .pick [.t 58,.c (.bool true),.t 66]]
 (.cond (.t 67)
 (sr [oo 6 .mv [kn],oo 7 .mv [ki 17]]
 .ret)
 .skip)))
 (sr [ma 68 9,ma 69 0,ca 70 zei [.t 68,.t 69],ma 13 70]
 (sr [ma 71 13,oo 72 (.bin .geq) [.t 71,ki 0]]
 (.cond (.t 72)
 (rg [ma 73 8,ma 74 13,oo 75 (.bsl 1 1 [v0] [0]) [.t 74],oo 76 (.app 1 8) [.t 73,.t 75],ma 8 76])
 .skip))))))))
 (rg [oo 77 (.bin .add) [.t 22,ki 1],ma 22 77])))))))
 (.seq (.seq
 (rg [ma 78 2,oo 79 .len [.t 78],oo 80 (.bin .eql) [.t 79,ki 0]])
 (.cond (.t 80)
 (sr [oo 6 .mv [kn],oo 7 .mv [ki 17]]
 .ret)
 .skip))
 (sr [ma 81 8,ma 6 81,oo 7 .mv [ki 0]]
 .ret)))))))⟩
def zog : AFun:=⟨87,[(6,none),(7,none)],
 (sr [oo 6 .mv [kn],oo 7 .mv [ki 0]]
 (.seq (.seq
 (rg [ma 12 0,oo 13 (.bin .lss) [.t 12,ki 0],ma 14 13,mh 15 0 14,oh 16 (.bin .gtr) [.t 15,ki 64] 14,oo 17 .pick [.t 14,.c (.bool true),.t 16]])
 (.cond (.t 17)
 (sr [oo 6 .mv [kn],oo 7 .mv [ki 16]]
 .ret)
 .skip))
 (.seq (.seq
 (rg [ma 18 2,oo 19 .len [.t 18],oo 20 (.bin .eql) [.t 19,ki 0]])
 (.cond (.t 20)
 (sr [oo 6 .mv [kn],oo 7 .mv [ki 17]]
 .ret)
 .skip))
 (sr [oo 8 .mv [kn]]
 (sr [oo 9 .mv [ki 0]]
 (.seq (.seq
 (rg [oo 10 .mv [ki 0]])
 (.block 0 (.loop
 (.seq (.seq
 (rg [ma 21 10,ma 22 2,oo 23 .len [.t 22],oo 24 (.bin .lss) [.t 21,.t 23]])
 (.cond (.t 24)
 .skip
 (.exit 0)))
 (.seq (.block 1 (.seq (.seq
 (rg [ma 27 2,ma 28 10,oo 29 (.iad 1) [.t 27,.t 28],la 30 29,oo 31 (.bin .lss) [.t 30,ki 0],ma 32 31,mh 33 2 32,mh 34 10 32,oh 35 (.iad 1) [.t 33,.t 34] 32,lh 36 35 32,mh 37 1 32,oh 38 .len [.t 37] 32,oh 39 (.bin .geq) [.t 36,.t 38] 32,oo 40 .pick [.t 32,.c (.bool true),.t 39],ma 41 40,mh 42 1 41,mh 43 2 41,mh 44 10 41,oh 45 (.iad 1) [.t 43,.t 44] 41,lh 46 45 41,oh 47 (.iad 3) [.t 42,.t 46] 41,fh 48 0 47 41,lh 49 48 41,mh 50 9 41,oh 51 (.bin .neq) [.t 49,.t 50] 41,oo 52 .pick [.t 41,.c (.bool true),.t 51]])
 (.cond (.t 52)
 (sr [oo 6 .mv [kn],oo 7 .mv [ki 17]]
 .ret)
 .skip))
 (sr [ma 53 1,ma 54 2,ma 55 10,oo 56 (.iad 1) [.t 54,.t 55],la 57 56,oo 58 (.iad 3) [.t 53,.t 57],fa 59 1 58,la 60 59,ma 9 60]
 (.seq (.seq
 (rg [ma 61 10,ma 62 2,oo 63 .len [.t 62],oo 64 (.bin .sub) [.t 63,ki 1],oo 65 (.bin .eql) [.t 61,.t 64]])
 (.cond (.t 65)
 (.exit 0)
 .skip))
 (.seq (.seq
 (rg [ma 66 9,oo 67 (.bin .lss) [.t 66,ki 2],ma 68 67,mh 69 9 68,mh 70 0 68,oh 71 (.bin .mul) [ki 2,.t 70] 68,oh 72 (.bin .add) [ki 2,.t 71] 68,oh 73 (.bin .geq) [.t 69,.t 72] 68,oo 74 .pick [.t 68,.c (.bool true),.t 73]])
 (.cond (.t 74)
 (sr [oo 6 .mv [kn],oo 7 .mv [ki 17]]
 .ret)
 .skip))
 (sr [ma 75 0,ma 76 9,ca 77 zfC [.t 75,.t 76],ma 11 77]
 (sr [ma 78 11,oo 79 (.bin .geq) [.t 78,ki 0]]
 (.cond (.t 79)
 (rg [ma 80 8,ma 81 11,oo 82 (.bsl 1 1 [v0] [0]) [.t 81],oo 83 (.app 1 8) [.t 80,.t 82],ma 8 83])
 .skip))))))))
 (rg [ma 25 10,oo 26 (.bin .add) [.t 25,ki 1],ma 10 26]))))))
 (.seq (.seq
 (rg [ma 84 9,oo 85 (.bin .neq) [.t 84,ki 1]])
 (.cond (.t 85)
 (sr [oo 6 .mv [kn],oo 7 .mv [ki 17]]
 .ret)
 .skip))
 (sr [ma 86 8,ma 6 86,oo 7 .mv [ki 0]]
 .ret))))))))⟩
def ziJ : AFun:=⟨26,[(4,none)],
 (sr [oo 4 .mv [.c (.bool false)]]
 (.seq (.seq
 (rg [ma 6 0,oo 7 .len [.t 6],ma 8 1,oo 9 .len [.t 8],oo 10 (.bin .neq) [.t 7,.t 9]])
 (.cond (.t 10)
 (sr [oo 4 .mv [.c (.bool false)]]
 .ret)
 .skip))
 (.seq (.seq
 (rg [oo 5 .mv [ki 0]])
 (.block 0 (.loop
 (.seq (.seq
 (rg [ma 11 5,ma 12 0,oo 13 .len [.t 12],oo 14 (.bin .lss) [.t 11,.t 13]])
 (.cond (.t 14)
 .skip
 (.exit 0)))
 (.seq (.block 1 (.seq (.reg true [ma 17 0,ma 18 5,oo 19 (.iad 1) [.t 17,.t 18],la 20 19,ma 21 1,ma 22 5,oo 23 (.iad 1) [.t 21,.t 22],la 24 23,oo 25 (.bin .neq) [.t 20,.t 24]] [[],[],[0,1],[2],[],[],[4,5],[6],[3,7]])
 (.cond (.t 25)
 (sr [oo 4 .mv [.c (.bool false)]]
 .ret)
 .skip)))
 (rg [ma 15 5,oo 16 (.bin .add) [.t 15,ki 1],ma 5 16]))))))
 (sr [oo 4 .mv [.c (.bool true)]]
 .ret))))⟩
def zmw : AFun:=⟨45,[(6,some (true,5)),(7,none)],
 (sr [oo 3 (.box 3) [.t 0],oo 4 (.box 3) [.t 1],oo 6 (.alloc [v0,(.bool false),vn,vn,vn]) [],oo 7 .mv [ki 0]]
 (.seq (.seq
 (rg [oo 12 (.ld true 3) [.t 3],oo 13 (.ld true 3) [.t 4],ca 14 zbS [.t 12,.t 13],ma 8 14])
 (sr [ma 15 8,oo 16 (.bin .neq) [.t 15,ki 0]]
 (.cond (.t 16)
 (sr [oo 17 (.build [v0,(.bool false),vn,vn,vn] []) [],ma 18 8,ou (.st 5) [.t 6,.t 17],ma 7 18]
 .ret)
 .skip)))
 (sr [oo 19 (.ld true 3) [.t 3],oo 20 (.ld true 3) [.t 4],ca 21 zdk [.t 19,.t 20],ma 9 21]
 (.seq (.seq
 (rg [ma 22 9,ma 23 2,ca 24 zar [.t 22,.t 23],oo 25 (.un .not) [.t 24]])
 (.cond (.t 25)
 (sr [oo 26 (.build [v0,(.bool false),vn,vn,vn] []) [],ou (.st 5) [.t 6,.t 26],oo 7 .mv [ki 11]]
 .ret)
 .skip))
 (sr [oo 28 (.ld true 3) [.t 3],oo 29 (.ld true 3) [.t 4],ca 30 zf1 [.t 28,.t 29],ma 27 30,oo 31 (.ext 0) [.t 27],oo 32 (.ext 1) [.t 27],oo 10 (.alloc [vn,vn,vn]) [],ou (.st 3) [.t 10,.t 31],ma 11 32]
 (.seq (.seq
 (rg [ma 33 11,oo 34 (.bin .neq) [.t 33,ki 0]])
 (.cond (.t 34)
 (sr [oo 35 (.build [v0,(.bool false),vn,vn,vn] []) [],ma 36 11,ou (.st 5) [.t 6,.t 35],ma 7 36]
 .ret)
 .skip))
 (sr [oo 37 (.ld true 3) [.t 3],oo 38 (.ld true 3) [.t 4],oo 39 (.ld true 3) [.t 10],ma 40 9,ma 41 2,ca 42 zcG [.t 37,.t 38,.t 39,.t 40,.t 41],oo 43 (.ext 0) [.t 42],oo 44 (.ext 1) [.t 42],ou (.st 5) [.t 6,.t 43],ma 7 44]
 .ret)))))))⟩
def zp4 : AFun:=⟨18,[(4,none)],
 (sr [oo 4 .mv [.c (.bool false)]]
 (.seq (.seq
 (rg [oo 5 .mv [ki 0]])
 (.block 0 (.loop
 (.seq (.seq
 (rg [ma 6 5,ma 7 0,oo 8 .len [.t 7],oo 9 (.bin .lss) [.t 6,.t 8]])
 (.cond (.t 9)
 .skip
 (.exit 0)))
 (.seq (.block 1 (sr [ma 12 0,ma 13 5,oo 14 (.iad 1) [.t 12,.t 13],la 15 14,ma 16 1,oo 17 (.bin .eql) [.t 15,.t 16]]
 (.cond (.t 17)
 (sr [oo 4 .mv [.c (.bool true)]]
 .ret)
 .skip)))
 (rg [ma 10 5,oo 11 (.bin .add) [.t 10,ki 1],ma 5 11]))))))
 (sr [oo 4 .mv [.c (.bool false)]]
 .ret)))⟩
def zi5 : AFun:=⟨65,[(4,none)],
 (sr [oo 2 (.box 3) [.t 0],oo 3 (.box 3) [.t 1],oo 4 .mv [ki 0]]
 (.seq (.seq
 (rg [oo 8 (.ld true 3) [.t 2],ca 9 zfd [.t 8],ma 5 9])
 (sr [ma 10 5,oo 11 (.bin .neq) [.t 10,ki 0]]
 (.cond (.t 11)
 (sr [ma 12 5,ma 4 12]
 .ret)
 .skip)))
 (.seq (.seq
 (rg [fa 13 0 3,la 14 13,oo 15 .len [.t 14],oo 16 (.bin .eql) [.t 15,ki 0],ma 17 16,fh 18 0 3 17,lh 19 18 17,fh 20 0 2 17,lh 21 20 17,oh 22 (.bin .sub) [.t 21,ki 1] 17,oh 23 .call [.f zbo,.t 19,ki 0,.t 22] 17,oh 24 (.un .not) [.t 23] 17,oo 25 .pick [.t 17,.c (.bool true),.t 24],ma 26 25,fh 27 1 3 26,lh 28 27 26,oh 29 .len [.t 28] 26,oh 30 .call [.f zaO,.t 29,ki 1,ki 8] 26,oh 31 (.un .not) [.t 30] 26,oo 32 .pick [.t 26,.c (.bool true),.t 31],ma 33 32,fh 34 2 3 33,lh 35 34 33,oh 36 .call [.f zaO,.t 35,ki 1,ki 3] 33,oh 37 (.un .not) [.t 36] 33,oo 38 .pick [.t 33,.c (.bool true),.t 37]])
 (.cond (.t 38)
 (sr [oo 4 .mv [ki 15]]
 .ret)
 .skip))
 (.seq (.seq
 (rg [fa 39 1 3,la 40 39,oo 41 .len [.t 40],oo 42 .mv [ki 0]])
 (.block 0 (.loop
 (sr [oo 43 (.bin .lss) [.t 42,.t 41]]
 (.seq (.cond (.t 43)
 .skip
 (.exit 0))
 (.seq (.block 1 (sr [ma 44 42,oo 45 (.iad 1) [.t 40,.t 42],la 46 45,ma 6 44,ma 7 46]
 (sr [ma 47 7,ca 48 zaO [.t 47,ki 1,ki 1000],oo 49 (.un .not) [.t 48],ma 50 49,mh 51 6 50,oh 52 (.bin .gtr) [.t 51,ki 0] 50,mh 53 52 50,mg 54 7 53,fg 55 1 3 53,lg 56 55 53,mg 57 6 53,og 58 (.bin .sub) [.t 57,ki 1] 53,og 59 (.iad 1) [.t 56,.t 58] 53,lg 60 59 53,og 61 (.bin .gtr) [.t 54,.t 60] 53,oh 62 .pick [.t 53,.t 61,.c (.bool false)] 50,oo 63 .pick [.t 50,.c (.bool true),.t 62]]
 (.cond (.t 63)
 (sr [oo 4 .mv [ki 15]]
 .ret)
 .skip))))
 (rg [oo 64 (.bin .add) [.t 42,ki 1],ma 42 64])))))))
 (sr [oo 4 .mv [ki 0]]
 .ret)))))⟩
def zl0 : AFun:=⟨12,[(4,none)],
 (sr [oo 2 (.box 3) [.t 0],oo 3 (.box 3) [.t 1],oo 4 .mv [kn]]
 (.seq (.reg true [oo 5 (.ld true 3) [.t 2],fa 6 2 3,la 7 6,ca 8 zcr [.t 5,.t 7],fa 9 0 3,la 10 9,ca 11 zcD [.t 8,.t 10],ma 4 11] [[],[],[1],[0,2],[],[4],[3,5,3],[6,6,0,1,2,3,4,5,6]])
 .ret))⟩
def znc : AFun:=⟨14,[(4,none)],
 (sr [oo 4 .mv [kn]]
 (sr [ma 5 0,ma 6 0,oo 7 .len [.t 6],ma 8 0,oo 9 .len [.t 8],oo 10 (.slc 1 false true true) [.t 5,.t 7,.t 9],ma 11 1,oo 12 (.bsl 1 1 [v0] [0]) [.t 11],oo 13 (.app 1 8) [.t 10,.t 12],ma 4 13]
 .ret))⟩
def zjj : AFun:=⟨18,[(6,some (true,2))],
 (sr [oo 3 (.box 3) [.t 0],oo 4 (.box 3) [.t 1],oo 6 (.alloc [v0,vn]) []]
 (.seq (.reg true [oo 10 (.ld true 3) [.t 3],oo 11 (.ld true 3) [.t 4],ma 12 2,ca 13 zeC [.t 12],ca 14 zc3 [.t 10,.t 11,.t 13],ma 9 14,oo 15 (.ext 0) [.t 9],oo 16 (.ext 1) [.t 9],oo 7 (.alloc [v0,vn]) [],ou (.st 2) [.t 7,.t 15],ma 8 16] [[],[],[],[2],[0,1,3,3],[4],[5],[5],[],[8,6,4,0,1,2,3,4,5,6,8],[7,9,0,1,2,3,4,5,6,7,8,9]])
 (sr [oo 17 (.ld true 2) [.t 7],ou (.st 2) [.t 6,.t 17]]
 .ret)))⟩
def zlp : AFun:=⟨19,[(4,none),(5,none)],
 (sr [oo 2 (.box 2) [.t 0],oo 4 .mv [kn],oo 5 .mv [.c (.bool false)]]
 (sr [oo 9 (.ld true 2) [.t 2],ca 10 zgX [.t 9],ma 8 10,oo 11 (.ext 0) [.t 8],oo 12 (.ext 1) [.t 8],ma 6 11,ma 7 12]
 (sr [ma 13 6,oo 14 (.ld true 2) [.t 2],ma 15 6,ca 16 ze0 [.t 14,.t 15],ma 17 1,oo 18 (.bin .eql) [.t 16,.t 17],ma 4 13,ma 5 18]
 .ret)))⟩
def zlJ : AFun:=⟨14,[(4,none)],
 (sr [oo 2 (.box 2) [.t 0],oo 4 .mv [kn]]
 (sr [oo 6 (.ld true 2) [.t 2],ma 7 1,ca 8 zfL [.t 6,.t 7],ca 9 zbp [.t 8],oo 5 (.alloc [(.map none)]) [],ou (.st 1) [.t 5,.t 9]]
 (sr [fa 10 0 2,la 11 10,oo 12 (.mkf zaH) [.t 5],ca 13 zbT [.t 11,.t 12],ma 4 13]
 .ret)))⟩
def zk8 : AFun:=⟨30,[(4,none)],
 (sr [oo 2 (.box 3) [.t 0],oo 3 (.box 3) [.t 1],oo 4 .mv [kn]]
 (.seq (.reg true [oo 8 (.ld true 3) [.t 2],fa 9 2 3,la 10 9,ca 11 zcr [.t 8,.t 10],fa 12 0 3,la 13 12,ca 14 zdu [.t 11,.t 13],ma 5 14] [[],[],[1],[0,2],[],[4],[3,5,3],[6,6,0,1,2,3,4,5,6]])
 (.seq (.seq
 (rg [ma 15 5,oo 16 .len [.t 15],oo 17 .mv [ki 0]])
 (.block 0 (.loop
 (sr [oo 18 (.bin .lss) [.t 17,.t 16]]
 (.seq (.cond (.t 18)
 .skip
 (.exit 0))
 (.seq (.block 1 (sr [ma 19 17,oo 20 (.iad 1) [.t 15,.t 17],la 21 20,ma 6 19,ma 7 21]
 (rg [ma 22 5,ma 23 6,oo 24 (.ld true 3) [.t 3],ma 25 7,ca 26 zfn [.t 24,.t 25],oo 27 (.iad 1) [.t 22,.t 23],ou (.st 1) [.t 27,.t 26]])))
 (rg [oo 28 (.bin .add) [.t 17,ki 1],ma 17 28])))))))
 (sr [ma 29 5,ma 4 29]
 .ret))))⟩
def zlX : AFun:=⟨33,[(6,some (true,2)),(7,none),(8,none)],
 (sr [oo 3 (.box 3) [.t 0],oo 4 (.box 3) [.t 1],oo 6 (.alloc [v0,vn]) [],oo 7 .mv [kn],oo 8 .mv [.c (.bool false)]]
 (sr [oo 14 (.ld true 3) [.t 3],oo 15 (.ld true 3) [.t 4],ma 16 2,ca 17 zbx [.t 14,.t 15,.t 16],ma 13 17,oo 18 (.ext 0) [.t 13],oo 19 (.ext 1) [.t 13],oo 9 (.alloc [v0,vn]) [],ou (.st 2) [.t 9,.t 18],ma 10 19]
 (sr [oo 21 (.ld true 2) [.t 9],ca 22 zfK [.t 21],ma 20 22,oo 23 (.ext 0) [.t 20],oo 24 (.ext 1) [.t 20],ma 11 23,ma 12 24]
 (.seq (.reg true [oo 25 (.ld true 2) [.t 9],ma 26 11,oo 27 (.ld true 2) [.t 9],ma 28 11,ca 29 zfl [.t 27,.t 28],ma 30 2,oo 31 .len [.t 30],oo 32 (.bin .eql) [.t 29,.t 31],ou (.st 2) [.t 6,.t 25],ma 7 26,ma 8 32] [[],[],[],[],[2,3],[],[5],[4,6],[0,4,0],[1,8,0,1,8],[7,9,0,1,2,3,4,5,6,7,8,9]])
 .ret))))⟩
def zj7 : AFun:=⟨37,[(2,none),(3,none)],
 (sr [oo 1 (.box 2) [.t 0],oo 2 .mv [kn],oo 3 .mv [ki 0]]
 (sr [oo 10 (.ld true 2) [.t 1],ca 11 zfK [.t 10],ma 9 11,oo 12 (.ext 0) [.t 9],oo 13 (.ext 1) [.t 9],ma 4 12,ma 5 13]
 (.seq (.seq
 (rg [ma 14 5,oo 15 (.bin .neq) [.t 14,ki 0]])
 (.cond (.t 15)
 (sr [ma 16 5,oo 2 .mv [kn],ma 3 16]
 .ret)
 .skip))
 (sr [oo 17 (.ld true 2) [.t 1],ma 18 4,ca 19 zcC [.t 17,.t 18],ma 6 19]
 (sr [oo 20 (.bsl 1 1 [v0] [0]) [ki 0],ma 7 20]
 (.seq (.seq
 (rg [oo 8 .mv [ki 1]])
 (.block 0 (.loop
 (.seq (.seq
 (rg [ma 21 8,fa 22 0 1,la 23 22,oo 24 (.bin .lss) [.t 21,.t 23]])
 (.cond (.t 24)
 .skip
 (.exit 0)))
 (.seq (.block 1 (sr [ma 27 6,ma 28 8,oo 29 (.iad 1) [.t 27,.t 28],la 30 29,oo 31 (.bin .neq) [.t 30,ki 0]]
 (.cond (.t 31)
 (rg [ma 32 7,ma 33 8,oo 34 (.bsl 1 1 [v0] [0]) [.t 33],oo 35 (.app 1 8) [.t 32,.t 34],ma 7 35])
 .skip)))
 (rg [ma 25 8,oo 26 (.bin .add) [.t 25,ki 1],ma 8 26]))))))
 (sr [ma 36 7,ma 2 36,oo 3 .mv [ki 0]]
 .ret)))))))⟩
def zoz : AFun:=⟨41,[(4,none)],
 (sr [oo 2 (.box 2) [.t 0],oo 4 .mv [.c (.bool false)]]
 (.seq (.seq
 (rg [oo 7 (.ld true 2) [.t 2],ca 8 zdE [.t 7],oo 9 (.bin .neq) [.t 8,ki 0],ma 10 9,mh 11 1 10,oh 12 .len [.t 11] 10,fh 13 1 2 10,lh 14 13 10,oh 15 .len [.t 14] 10,oh 16 (.bin .neq) [.t 12,.t 15] 10,oo 17 .pick [.t 10,.c (.bool true),.t 16]])
 (.cond (.t 17)
 (sr [oo 4 .mv [.c (.bool false)]]
 .ret)
 .skip))
 (.seq (.seq
 (rg [fa 18 1 2,la 19 18,oo 20 .len [.t 19],oo 21 .mv [ki 0]])
 (.block 0 (.loop
 (sr [oo 22 (.bin .lss) [.t 21,.t 20]]
 (.seq (.cond (.t 22)
 .skip
 (.exit 0))
 (.seq (.block 1 (sr [ma 23 21,oo 24 (.iad 3) [.t 19,.t 21],oo 25 (.ld true 3) [.t 24],oo 6 (.alloc [v0,v0,v0]) [],ma 5 23,ou (.st 3) [.t 6,.t 25]]
 (.seq (.reg true [ma 26 1,ma 27 5,oo 28 (.iad 1) [.t 26,.t 27],la 29 28,fa 30 2 6,la 31 30,ca 32 zaO [.t 29,ki 0,.t 31],oo 33 (.un .not) [.t 32]] [[],[],[0,1],[2],[],[4],[3,5],[6]])
 (.cond (.t 33)
 (sr [oo 4 .mv [.c (.bool false)]]
 .ret)
 .skip))))
 (rg [oo 34 (.bin .add) [.t 21,ki 1],ma 21 34])))))))
 (sr [oo 35 (.ld true 2) [.t 2],ma 36 1,ca 37 zds [.t 35,.t 36],oo 38 (.slc 1 true false false) [.t 37,ki 2],ca 39 za7 [.t 38,(.f zc2)],oo 40 (.un .not) [.t 39],ma 4 40]
 .ret))))⟩
def zn1 : AFun:=⟨14,[(4,none)],
 (sr [oo 2 (.box 2) [.t 0],oo 4 .mv [ki 0]]
 (.seq (.seq
 (rg [oo 5 (.ld true 2) [.t 2],ma 6 1,ca 7 zeT [.t 5,.t 6],oo 8 (.un .not) [.t 7]])
 (.cond (.t 8)
 (sr [oo 4 .mv [ki 0]]
 .ret)
 .skip))
 (sr [oo 9 (.ld true 2) [.t 2],ma 10 1,ca 11 zds [.t 9,.t 10],oo 12 (.iad 1) [.t 11,ki 0],la 13 12,ma 4 13]
 .ret)))⟩
def zmj : AFun:=⟨87,[(4,none)],
 (sr [oo 2 (.box 2) [.t 0],oo 4 .mv [.c (.bool false)]]
 (.seq (.seq
 (rg [oo 8 (.ld true 2) [.t 2],ca 9 zd2 [.t 8],oo 10 (.bin .neq) [.t 9,ki 0],ma 11 10,mh 12 1 11,oh 13 .len [.t 12] 11,fh 14 1 2 11,lh 15 14 11,oh 16 .len [.t 15] 11,oh 17 (.bin .neq) [.t 13,.t 16] 11,oo 18 .pick [.t 11,.c (.bool true),.t 17]])
 (.cond (.t 18)
 (sr [oo 4 .mv [.c (.bool false)]]
 .ret)
 .skip))
 (sr [fa 19 0 2,la 20 19,oo 21 (.mks 1 8 [v0]) [.t 20,.t 20],ma 5 21]
 (.seq (.seq
 (rg [oo 6 .mv [ki 0]])
 (.block 0 (.loop
 (.seq (.seq
 (rg [ma 22 6,ma 23 1,oo 24 .len [.t 23],oo 25 (.bin .lss) [.t 22,.t 24]])
 (.cond (.t 25)
 .skip
 (.exit 0)))
 (.seq (.block 1 (.seq (.seq
 (.reg true [ma 28 1,ma 29 6,oo 30 (.iad 1) [.t 28,.t 29],la 31 30,oo 32 (.bin .lss) [.t 31,ki 0],ma 33 32,mh 34 1 33,mh 35 6 33,oh 36 (.iad 1) [.t 34,.t 35] 33,lh 37 36 33,fh 38 1 2 33,lh 39 38 33,mh 40 6 33,oh 41 (.iad 3) [.t 39,.t 40] 33,fh 42 2 41 33,lh 43 42 33,oh 44 (.bin .gtr) [.t 37,.t 43] 33,oo 45 .pick [.t 33,.c (.bool true),.t 44]] [[],[],[0,1],[2],[3],[4],[5],[5],[6,7,5],[8,5],[5],[10,5],[5],[11,12,5],[13,5],[14,5],[9,15,5],[5,16]])
 (.cond (.t 45)
 (sr [oo 4 .mv [.c (.bool false)]]
 .ret)
 .skip))
 (.seq (.reg true [ma 46 5,fa 47 1 2,la 48 47,ma 49 6,oo 50 (.iad 3) [.t 48,.t 49],fa 51 0 50,la 52 51,oo 53 (.iad 1) [.t 46,.t 52],la 54 53,ma 55 1,ma 56 6,oo 57 (.iad 1) [.t 55,.t 56],la 58 57,oo 59 (.bin .sub) [.t 54,.t 58],oo 60 (.iad 1) [.t 46,.t 52],ou (.st 1) [.t 60,.t 59]] [[],[],[1],[],[2,3],[4],[5],[0,6],[7],[],[],[9,10],[11],[8,12],[0,6,0,1,2,3,4,5,6,7,8,9,10,11,12,13],[14,13,0,1,2,3,4,5,6,7,8,9,10,11,12,13]])
 (.reg true [ma 61 5,fa 62 1 2,la 63 62,ma 64 6,oo 65 (.iad 3) [.t 63,.t 64],fa 66 1 65,la 67 66,oo 68 (.iad 1) [.t 61,.t 67],la 69 68,ma 70 1,ma 71 6,oo 72 (.iad 1) [.t 70,.t 71],la 73 72,oo 74 (.bin .add) [.t 69,.t 73],oo 75 (.iad 1) [.t 61,.t 67],ou (.st 1) [.t 75,.t 74]] [[],[],[1],[],[2,3],[4],[5],[0,6],[7],[],[],[9,10],[11],[8,12],[0,6,0,1,2,3,4,5,6,7,8,9,10,11,12,13],[14,13,0,1,2,3,4,5,6,7,8,9,10,11,12,13]]))))
 (rg [ma 26 6,oo 27 (.bin .add) [.t 26,ki 1],ma 6 27]))))))
 (.seq (.seq
 (rg [oo 7 .mv [ki 2]])
 (.block 2 (.loop
 (.seq (.seq
 (rg [ma 76 7,fa 77 0 2,la 78 77,oo 79 (.bin .lss) [.t 76,.t 78]])
 (.cond (.t 79)
 .skip
 (.exit 2)))
 (.seq (.block 3 (sr [ma 82 5,ma 83 7,oo 84 (.iad 1) [.t 82,.t 83],la 85 84,oo 86 (.bin .neq) [.t 85,ki 0]]
 (.cond (.t 86)
 (sr [oo 4 .mv [.c (.bool false)]]
 .ret)
 .skip)))
 (rg [ma 80 7,oo 81 (.bin .add) [.t 80,ki 1],ma 7 81]))))))
 (sr [oo 4 .mv [.c (.bool true)]]
 .ret))))))⟩
def zk9 : AFun:=⟨79,[(4,none)],
 (sr [oo 2 (.box 3) [.t 0],oo 3 (.box 3) [.t 1],oo 4 .mv [.c (.bool false)]]
 (.seq (.seq
 (rg [fa 6 0 3,la 7 6,oo 8 .len [.t 7],oo 9 (.bin .eql) [.t 8,ki 0],ma 10 9,fh 11 0 3 10,lh 12 11 10,fh 13 0 2 10,lh 14 13 10,oh 15 .call [.f zcQ,.t 12,.t 14] 10,oh 16 (.un .not) [.t 15] 10,oo 17 .pick [.t 10,.c (.bool true),.t 16],ma 18 17,fh 19 1 3 18,lh 20 19 18,oh 21 .len [.t 20] 18,oh 22 (.bin .lss) [.t 21,ki 1] 18,oo 23 .pick [.t 18,.c (.bool true),.t 22],ma 24 23,fh 25 1 3 24,lh 26 25 24,oh 27 .len [.t 26] 24,oh 28 (.bin .gtr) [.t 27,ki 8] 24,oo 29 .pick [.t 24,.c (.bool true),.t 28],ma 30 29,fh 31 2 3 30,lh 32 31 30,oh 33 (.bin .lss) [.t 32,ki 1] 30,oo 34 .pick [.t 30,.c (.bool true),.t 33],ma 35 34,fh 36 2 3 35,lh 37 36 35,oh 38 (.bin .gtr) [.t 37,ki 3] 35,oo 39 .pick [.t 35,.c (.bool true),.t 38]])
 (.cond (.t 39)
 (sr [oo 4 .mv [.c (.bool false)]]
 .ret)
 .skip))
 (.seq (.seq
 (rg [oo 5 .mv [ki 0]])
 (.block 0 (.loop
 (.seq (.seq
 (rg [ma 40 5,fa 41 1 3,la 42 41,oo 43 .len [.t 42],oo 44 (.bin .lss) [.t 40,.t 43]])
 (.cond (.t 44)
 .skip
 (.exit 0)))
 (.seq (.block 1 (.seq (.reg true [fa 47 1 3,la 48 47,ma 49 5,oo 50 (.iad 1) [.t 48,.t 49],la 51 50,oo 52 (.bin .lss) [.t 51,ki 1],ma 53 52,fh 54 1 3 53,lh 55 54 53,mh 56 5 53,oh 57 (.iad 1) [.t 55,.t 56] 53,lh 58 57 53,oh 59 (.bin .gtr) [.t 58,ki 1000] 53,oo 60 .pick [.t 53,.c (.bool true),.t 59],ma 61 60,mh 62 5 61,oh 63 (.bin .gtr) [.t 62,ki 0] 61,mh 64 63 61,fg 65 1 3 64,lg 66 65 64,mg 67 5 64,og 68 (.iad 1) [.t 66,.t 67] 64,lg 69 68 64,fg 70 1 3 64,lg 71 70 64,mg 72 5 64,og 73 (.bin .sub) [.t 72,ki 1] 64,og 74 (.iad 1) [.t 71,.t 73] 64,lg 75 74 64,og 76 (.bin .gtr) [.t 69,.t 75] 64,oh 77 .pick [.t 64,.t 76,.c (.bool false)] 61,oo 78 .pick [.t 61,.c (.bool true),.t 77]] [[],[0],[],[1,2],[3],[4],[5],[6],[7,6],[6],[8,9,6],[10,6],[11,6],[6,12],[13,6],[14],[15,14],[16,14,14],[17],[18,17],[17],[19,20,17],[21,17],[17],[23,17],[17],[25,17],[24,26,17],[27,17],[22,28,17],[17,29,14],[14,30]])
 (.cond (.t 78)
 (sr [oo 4 .mv [.c (.bool false)]]
 .ret)
 .skip)))
 (rg [ma 45 5,oo 46 (.bin .add) [.t 45,ki 1],ma 5 46]))))))
 (sr [oo 4 .mv [.c (.bool true)]]
 .ret))))⟩
def zq1 : AFun:=⟨17,[(4,none)],
 (sr [oo 2 (.box 3) [.t 0],oo 4 .mv [ki 0]]
 (.seq (.seq
 (rg [ma 5 1,oo 6 (.bin .lss) [.t 5,ki 0]])
 (.cond (.t 6)
 (sr [oo 4 .mv [ki 0]]
 .ret)
 .skip))
 (.seq (.seq
 (rg [ma 7 1,fa 8 1 2,la 9 8,oo 10 .len [.t 9],oo 11 (.bin .lss) [.t 7,.t 10]])
 (.cond (.t 11)
 (sr [fa 12 1 2,la 13 12,ma 14 1,oo 15 (.iad 1) [.t 13,.t 14],la 16 15,ma 4 16]
 .ret)
 .skip))
 (sr [oo 4 .mv [ki 1]]
 .ret))))⟩
def znt : AFun:=⟨6,[(2,none)],
 (sr [oo 2 .mv [ki 0]]
 (sr [ma 3 0,oo 4 (.bin .mul) [ki 2,.t 3],oo 5 (.bin .add) [ki 2,.t 4],ma 2 5]
 .ret))⟩
def zop : AFun:=⟨6,[(2,none)],
 (sr [oo 2 .mv [ki 0]]
 (sr [ma 3 0,oo 4 (.bin .mul) [ki 2,.t 3],oo 5 (.bin .add) [ki 3,.t 4],ma 2 5]
 .ret))⟩
def zmW : AFun:=⟨80,[(2,none)],
 (sr [oo 1 (.box 2) [.t 0],oo 2 .mv [ki 0]]
 (.seq (.seq
 (rg [fa 5 0 1,la 6 5,oo 7 (.bin .lss) [.t 6,ki 2],ma 8 7,fh 9 0 1 8,lh 10 9 8,oh 11 (.bin .gtr) [.t 10,ki 130] 8,oo 12 .pick [.t 8,.c (.bool true),.t 11],ma 13 12,fh 14 1 1 13,lh 15 14 13,oh 16 .len [.t 15] 13,oh 17 (.bin .gtr) [.t 16,ki 1200] 13,oo 18 .pick [.t 13,.c (.bool true),.t 17]])
 (.cond (.t 18)
 (sr [oo 2 .mv [ki 16]]
 .ret)
 .skip))
 (.seq (.seq
 (rg [oo 3 .mv [ki 0]])
 (.block 0 (.loop
 (.seq (.seq
 (rg [ma 19 3,fa 20 1 1,la 21 20,oo 22 .len [.t 21],oo 23 (.bin .lss) [.t 19,.t 22]])
 (.cond (.t 23)
 .skip
 (.exit 0)))
 (.seq (.block 1 (sr [fa 26 1 1,la 27 26,ma 28 3,oo 29 (.iad 3) [.t 27,.t 28],oo 30 (.ld true 3) [.t 29],oo 4 (.alloc [v0,v0,v0]) [],ou (.st 3) [.t 4,.t 30]]
 (sr [fa 31 0 4,la 32 31,oo 33 (.bin .lss) [.t 32,ki 0],ma 34 33,fh 35 0 4 34,lh 36 35 34,fh 37 0 1 34,lh 38 37 34,oh 39 (.bin .geq) [.t 36,.t 38] 34,oo 40 .pick [.t 34,.c (.bool true),.t 39],ma 41 40,fh 42 1 4 41,lh 43 42 41,oh 44 (.bin .lss) [.t 43,ki 0] 41,oo 45 .pick [.t 41,.c (.bool true),.t 44],ma 46 45,fh 47 1 4 46,lh 48 47 46,fh 49 0 1 46,lh 50 49 46,oh 51 (.bin .geq) [.t 48,.t 50] 46,oo 52 .pick [.t 46,.c (.bool true),.t 51],ma 53 52,fh 54 0 4 53,lh 55 54 53,fh 56 1 4 53,lh 57 56 53,oh 58 (.bin .eql) [.t 55,.t 57] 53,oo 59 .pick [.t 53,.c (.bool true),.t 58],ma 60 59,fh 61 1 4 60,lh 62 61 60,oh 63 (.bin .eql) [.t 62,ki 0] 60,oo 64 .pick [.t 60,.c (.bool true),.t 63],ma 65 64,fh 66 0 4 65,lh 67 66 65,oh 68 (.bin .eql) [.t 67,ki 1] 65,oo 69 .pick [.t 65,.c (.bool true),.t 68],ma 70 69,fh 71 2 4 70,lh 72 71 70,oh 73 (.bin .lss) [.t 72,ki 0] 70,oo 74 .pick [.t 70,.c (.bool true),.t 73],ma 75 74,fh 76 2 4 75,lh 77 76 75,oh 78 (.bin .gtr) [.t 77,ki 1048576] 75,oo 79 .pick [.t 75,.c (.bool true),.t 78]]
 (.cond (.t 79)
 (sr [oo 2 .mv [ki 16]]
 .ret)
 .skip))))
 (rg [ma 24 3,oo 25 (.bin .add) [.t 24,ki 1],ma 3 25]))))))
 (sr [oo 2 .mv [ki 0]]
 .ret))))⟩
def ziZ : AFun:=⟨112,[(4,none)],
 (sr [oo 2 (.box 2) [.t 0],oo 4 .mv [kn]]
 (sr [fa 11 0 2,la 12 11,oo 13 (.mks 1 8 [v0]) [.t 12,.t 12],ma 5 13]
 (sr [fa 14 0 2,la 15 14,oo 16 (.mks 1 1 [(.bool false)]) [.t 15,.t 15],ma 6 16]
 (sr [ma 17 6,oo 18 (.iad 1) [.t 17,ki 0],ou (.st 1) [.t 18,.c (.bool true)]]
 (sr [oo 19 (.bsl 1 1 [v0] [0]) [ki 0],ma 7 19]
 (.seq (.block 0 (.loop
 (.seq (.seq
 (rg [ma 20 7,oo 21 .len [.t 20],oo 22 (.bin .gtr) [.t 21,ki 0]])
 (.cond (.t 22)
 .skip
 (.exit 0)))
 (.block 1 (sr [ma 23 7,oo 24 (.iad 1) [.t 23,ki 0],la 25 24,ma 8 25]
 (sr [ma 26 7,oo 27 (.slc 1 true false false) [.t 26,ki 1],ma 7 27]
 (sr [oo 9 .mv [ki 0]]
 (.block 2 (.loop
 (.seq (.seq
 (rg [ma 28 9,fa 29 1 2,la 30 29,oo 31 .len [.t 30],oo 32 (.bin .lss) [.t 28,.t 31]])
 (.cond (.t 32)
 .skip
 (.exit 2)))
 (.seq (.block 3 (sr [fa 35 1 2,la 36 35,ma 37 9,oo 38 (.iad 3) [.t 36,.t 37],oo 39 (.ld true 3) [.t 38],oo 10 (.alloc [v0,v0,v0]) [],ou (.st 3) [.t 10,.t 39]]
 (.seq (.seq
 (.reg true [fa 40 0 10,la 41 40,ma 42 8,oo 43 (.bin .eql) [.t 41,.t 42],ma 44 43,mg 45 1 44,mg 46 9 44,og 47 (.iad 1) [.t 45,.t 46] 44,lg 48 47 44,fg 49 2 10 44,lg 50 49 44,og 51 (.bin .lss) [.t 48,.t 50] 44,oo 52 .pick [.t 44,.t 51,.c (.bool false)],ma 53 52,mg 54 6 53,fg 55 1 10 53,lg 56 55 53,og 57 (.iad 1) [.t 54,.t 56] 53,lg 58 57 53,og 59 (.un .not) [.t 58] 53,oo 60 .pick [.t 53,.t 59,.c (.bool false)]] [[],[0],[],[1,2],[3],[4],[4],[5,6,4],[7,4],[4],[9,4],[8,10,4],[4,11],[12,4],[13],[13],[15,13],[14,16,13],[17,13],[18,13],[13,19]])
 (.cond (.t 60)
 (.seq (.reg true [ma 61 6,fa 62 1 10,la 63 62,ma 64 5,fa 65 1 10,la 66 65,ma 67 9,oo 68 (.bin .add) [.t 67,ki 1],oo 69 (.iad 1) [.t 61,.t 63],ou (.st 1) [.t 69,.c (.bool true)],oo 70 (.iad 1) [.t 64,.t 66],ou (.st 1) [.t 70,.t 68]] [[],[],[1],[],[],[4],[],[6],[0,2,0,1,2],[8,0,1,2],[3,5,0,1,2,3,4,5,6,7,8,9],[10,7,9,0,1,2,3,4,5,6,7,8,9]])
 (rg [ma 71 7,fa 72 1 10,la 73 72,oo 74 (.bsl 1 1 [v0] [0]) [.t 73],oo 75 (.app 1 8) [.t 71,.t 74],ma 7 75]))
 .skip))
 (sr [fa 76 1 10,la 77 76,ma 78 8,oo 79 (.bin .eql) [.t 77,.t 78],ma 80 79,mg 81 1 80,mg 82 9 80,og 83 (.iad 1) [.t 81,.t 82] 80,lg 84 83 80,og 85 (.bin .gtr) [.t 84,ki 0] 80,oo 86 .pick [.t 80,.t 85,.c (.bool false)],ma 87 86,mg 88 6 87,fg 89 0 10 87,lg 90 89 87,og 91 (.iad 1) [.t 88,.t 90] 87,lg 92 91 87,og 93 (.un .not) [.t 92] 87,oo 94 .pick [.t 87,.t 93,.c (.bool false)]]
 (.cond (.t 94)
 (.seq (.reg true [ma 95 6,fa 96 0 10,la 97 96,ma 98 5,fa 99 0 10,la 100 99,ma 101 9,oo 102 (.bin .add) [.t 101,ki 1],oo 103 (.un .neg) [.t 102],oo 104 (.iad 1) [.t 95,.t 97],ou (.st 1) [.t 104,.c (.bool true)],oo 105 (.iad 1) [.t 98,.t 100],ou (.st 1) [.t 105,.t 103]] [[],[],[1],[],[],[4],[],[6],[7],[0,2,0,1,2],[9,0,1,2],[3,5,0,1,2,3,4,5,6,7,8,9,10],[11,8,10,0,1,2,3,4,5,6,7,8,9,10]])
 (rg [ma 106 7,fa 107 0 10,la 108 107,oo 109 (.bsl 1 1 [v0] [0]) [.t 108],oo 110 (.app 1 8) [.t 106,.t 109],ma 7 110]))
 .skip)))))
 (rg [ma 33 9,oo 34 (.bin .add) [.t 33,ki 1],ma 9 34]))))))))))))
 (sr [ma 111 5,ma 4 111]
 .ret)))))))⟩
def zi3 : AFun:=⟨14,[(4,none)],
 (sr [oo 4 .mv [.c (.bool false)]]
 (sr [ma 5 0,oo 6 (.bin .geq) [.t 5,ki 2],ma 7 6,mg 8 0 7,mg 9 1 7,og 10 (.bin .mul) [ki 2,.t 9] 7,og 11 (.bin .add) [ki 2,.t 10] 7,og 12 (.bin .lss) [.t 8,.t 11] 7,oo 13 .pick [.t 7,.t 12,.c (.bool false)],ma 4 13]
 .ret))⟩
def zkj : AFun:=⟨23,[(4,none)],
 (sr [oo 4 .mv [ki 0]]
 (.seq (.seq
 (rg [ma 6 0,oo 7 (.bin .sub) [.t 6,ki 2],oo 8 (.bin .quo) [.t 7,ki 2],ma 5 8])
 (sr [ma 9 0,oo 10 (.bin .geq) [.t 9,ki 2],ma 11 10,mg 12 5 11,mg 13 1 11,og 14 (.bin .lss) [.t 12,.t 13] 11,oo 15 .pick [.t 11,.t 14,.c (.bool false)],ma 16 15,mg 17 5 16,og 18 .call [.f zbk,.t 17] 16,mg 19 0 16,og 20 (.bin .eql) [.t 18,.t 19] 16,oo 21 .pick [.t 16,.t 20,.c (.bool false)]]
 (.cond (.t 21)
 (sr [ma 22 5,ma 4 22]
 .ret)
 .skip)))
 (sr [oo 4 .mv [ki (-1)]]
 .ret)))⟩
def zmg : AFun:=⟨22,[(4,none)],
 (sr [oo 4 .mv [ki 0]]
 (.seq (.seq
 (rg [ma 5 1,oo 6 (.bin .geq) [.t 5,ki 2],ma 7 6,mg 8 1 7,og 9 (.bin .rem) [.t 8,ki 2] 7,og 10 (.bin .eql) [.t 9,ki 0] 7,oo 11 .pick [.t 7,.t 10,.c (.bool false)],ma 12 11,mg 13 1 12,mg 14 0 12,og 15 (.bin .mul) [ki 2,.t 14] 12,og 16 (.bin .add) [ki 2,.t 15] 12,og 17 (.bin .lss) [.t 13,.t 16] 12,oo 18 .pick [.t 12,.t 17,.c (.bool false)]])
 (.cond (.t 18)
 (sr [ma 19 1,oo 20 (.bin .sub) [.t 19,ki 2],oo 21 (.bin .quo) [.t 20,ki 2],ma 4 21]
 .ret)
 .skip))
 (sr [oo 4 .mv [ki (-1)]]
 .ret)))⟩
def zif : AFun:=⟨12,[(4,none)],
 (sr [oo 2 (.box 3) [.t 0],oo 3 (.box 3) [.t 1],oo 4 .mv [kn]]
 (.seq (.reg true [oo 5 (.ld true 3) [.t 2],fa 6 2 3,la 7 6,ca 8 zcr [.t 5,.t 7],fa 9 0 3,la 10 9,ca 11 zcD [.t 8,.t 10],ma 4 11] [[],[],[1],[0,2],[],[4],[3,5,3],[6,6,0,1,2,3,4,5,6]])
 .ret))⟩
def zgy : AFun:=⟨76,[(10,some (true,5)),(11,none)],
 (sr [oo 5 (.box 3) [.t 0],oo 6 (.box 3) [.t 1],oo 7 (.box 3) [.t 2],oo 9 (.box 1) [.t 4],oo 10 (.alloc [v0,(.bool false),vn,vn,vn]) [],oo 11 .mv [ki 0]]
 (.seq (.reg true [la 18 9,oo 19 (.ld true 3) [.t 7],la 20 9,ca 21 zcE [.t 19,.t 20],oo 22 (.build [v0,(.bool false),vn,vn,vn] [(0,1),(1,1)]) [.t 18,.t 21],oo 12 (.alloc [v0,(.bool false),vn,vn,vn]) [],ou (.st 5) [.t 12,.t 22]] [[],[],[],[1,2],[0,3],[],[5,4,3,0,1,2,3,4,5]])
 (.seq (.seq
 (rg [ma 23 3,ma 24 3,la 25 9,ca 26 zaY [.t 24,.t 25],oo 27 (.slc 1 false true false) [.t 23,.t 26],oo 28 .len [.t 27],oo 29 .mv [ki 0]])
 (.block 0 (.loop
 (sr [oo 30 (.bin .lss) [.t 29,.t 28]]
 (.seq (.cond (.t 30)
 .skip
 (.exit 0))
 (.seq (.block 1 (sr [oo 31 (.iad 1) [.t 27,.t 29],la 32 31,ma 14 32]
 (sr [oo 33 (.ld true 3) [.t 7],ma 34 14,ca 35 zcE [.t 33,.t 34]]
 (.cond (.t 35)
 (rg [fa 36 2 12,la 37 36,ma 38 14,oo 39 (.bsl 1 1 [v0] [0]) [.t 38],oo 40 (.app 1 8) [.t 37,.t 39],fa 41 2 12,ou (.st 1) [.t 41,.t 40]])
 .skip))))
 (rg [oo 42 (.bin .add) [.t 29,ki 1],ma 29 42])))))))
 (.seq (.seq
 (rg [fa 43 1 12,la 44 43])
 (.cond (.t 44)
 (.seq (.reg true [oo 46 (.ld true 3) [.t 5],oo 47 (.ld true 3) [.t 6],fa 48 2 12,la 49 48,ca 50 zaK [.t 49],la 51 9,oo 52 (.bsl 1 1 [v0] [0]) [.t 51],oo 53 (.app 1 8) [.t 50,.t 52],ca 54 zdH [.t 46,.t 47,.t 53],ma 45 54,oo 55 (.ext 0) [.t 45],oo 56 (.ext 1) [.t 45],ma 15 55,ma 16 56] [[],[],[],[2],[3],[],[5],[4,6,4],[0,1,7,7],[8],[9],[9],[10,8,0,1,2,3,4,5,6,7,8,9,10],[11,12,0,1,2,3,4,5,6,7,8,9,10,11,12]])
 (sr [ma 57 15,fa 58 3 12,ou (.st 1) [.t 58,.t 57]]
 (sr [oo 59 (.ld true 5) [.t 12],ma 60 16,ou (.st 5) [.t 10,.t 59],ma 11 60]
 .ret)))
 .skip))
 (.seq (.seq
 (rg [fa 61 2 7,la 62 61,oo 63 (.mkf zbm) [.t 9],ca 64 zaL [.t 62,.t 63],ma 17 64])
 (sr [ma 65 17,oo 66 (.bin .geq) [.t 65,ki 0]]
 (.cond (.t 66)
 (rg [fa 67 2 7,la 68 67,ma 69 17,oo 70 (.iad 2) [.t 68,.t 69],fa 71 1 70,la 72 71,ca 73 zaK [.t 72],fa 74 4 12,ou (.st 1) [.t 74,.t 73]])
 .skip)))
 (sr [oo 75 (.ld true 5) [.t 12],ou (.st 5) [.t 10,.t 75],oo 11 .mv [ki 0]]
 .ret))))))⟩
def zjV : AFun:=⟨123,[(6,some (true,2)),(7,none)],
 (sr [oo 3 (.box 3) [.t 0],oo 4 (.box 3) [.t 1],oo 6 (.alloc [v0,vn]) [],oo 7 .mv [ki 0]]
 (.seq (.seq
 (rg [oo 20 (.ld true 3) [.t 3],oo 21 (.ld true 3) [.t 4],ca 22 zbS [.t 20,.t 21],ma 8 22])
 (sr [ma 23 8,oo 24 (.bin .neq) [.t 23,ki 0]]
 (.cond (.t 24)
 (sr [oo 25 (.build [v0,vn] []) [],ma 26 8,ou (.st 2) [.t 6,.t 25],ma 7 26]
 .ret)
 .skip)))
 (.seq (.seq
 (rg [ma 27 2,fa 28 0 3,la 29 28,oo 30 (.bin .sub) [.t 29,ki 1],ca 31 zbo [.t 27,ki 0,.t 30],oo 32 (.un .not) [.t 31]])
 (.cond (.t 32)
 (sr [oo 33 (.build [v0,vn] []) [],ou (.st 2) [.t 6,.t 33],oo 7 .mv [ki 4]]
 .ret)
 .skip))
 (sr [fa 34 0 3,la 35 34,ca 36 zbk [.t 35],oo 37 (.build [v0,vn] [(0,1)]) [.t 36],oo 9 (.alloc [v0,vn]) [],ou (.st 2) [.t 9,.t 37]]
 (sr [oo 38 (.mkf zaF) [.t 9],ma 10 38]
 (sr [oo 39 (.ld true 3) [.t 3],oo 40 (.ld true 3) [.t 4],ca 41 zeQ [.t 39,.t 40],ma 11 41]
 (.seq (.seq
 (rg [fa 42 0 4,la 43 42,oo 44 .len [.t 43],oo 45 .mv [ki 0]])
 (.block 0 (.loop
 (sr [oo 46 (.bin .lss) [.t 45,.t 44]]
 (.seq (.cond (.t 46)
 .skip
 (.exit 0))
 (.seq (.block 1 (sr [oo 47 (.iad 1) [.t 43,.t 45],la 48 47,ma 13 48]
 (sr [ma 49 11,ma 50 13,oo 51 (.iad 1) [.t 49,.t 50],la 52 51,oo 53 (.bin .gtr) [.t 52,ki 0]]
 (.cond (.t 53)
 (.reg true [ma 54 10,ma 55 13,ca 56 zbk [.t 55],ma 57 11,ma 58 13,oo 59 (.iad 1) [.t 57,.t 58],la 60 59,oo 61 .call [.t 54,ki 0,.t 56,.t 60]] [[],[],[1],[],[],[3,4],[5],[0,2,6,2]])
 .skip))))
 (rg [oo 62 (.bin .add) [.t 45,ki 1],ma 45 62])))))))
 (.seq (.seq
 (rg [ma 63 11,oo 64 .len [.t 63],oo 65 .mv [ki 0]])
 (.block 2 (.loop
 (sr [oo 66 (.bin .lss) [.t 65,.t 64]]
 (.seq (.cond (.t 66)
 .skip
 (.exit 2))
 (.seq (.block 3 (sr [ma 67 65,oo 68 (.iad 1) [.t 63,.t 65],la 69 68,ma 14 67,ma 15 69]
 (sr [ma 70 15,oo 71 (.bin .gtr) [.t 70,ki 0]]
 (.cond (.t 71)
 (rg [ma 72 10,ma 73 14,ca 74 zbk [.t 73],ma 75 14,ca 76 zeH [.t 75],ma 77 15,oo 78 (.bin .sub) [.t 77,ki 1],oo 79 .call [.t 72,.t 74,.t 76,.t 78]])
 .skip))))
 (rg [oo 80 (.bin .add) [.t 65,ki 1],ma 65 80])))))))
 (.seq (.seq
 (rg [ma 81 2,oo 82 .len [.t 81],oo 83 .mv [ki 0]])
 (.block 4 (.loop
 (sr [oo 84 (.bin .lss) [.t 83,.t 82]]
 (.seq (.cond (.t 84)
 .skip
 (.exit 4))
 (.seq (.block 5 (sr [oo 85 (.iad 1) [.t 81,.t 83],la 86 85,ma 17 86]
 (sr [ma 87 11,ma 88 17,oo 89 (.iad 1) [.t 87,.t 88],la 90 89,oo 91 (.bin .gtr) [.t 90,ki 0]]
 (.cond (.t 91)
 (rg [ma 92 10,ma 93 17,ca 94 zbk [.t 93],oo 95 .call [.t 92,.t 94,ki 1,ki 1]])
 .skip))))
 (rg [oo 96 (.bin .add) [.t 83,ki 1],ma 83 96])))))))
 (.seq (.seq
 (rg [oo 97 (.ld true 3) [.t 3],fa 98 2 4,la 99 98,ca 100 zcr [.t 97,.t 99],oo 101 (.fld false 1 1) [.t 100],oo 102 .len [.t 101],oo 103 .mv [ki 0]])
 (.block 6 (.loop
 (sr [oo 104 (.bin .lss) [.t 103,.t 102]]
 (.seq (.cond (.t 104)
 .skip
 (.exit 6))
 (.seq (.block 7 (sr [oo 105 (.iad 3) [.t 101,.t 103],oo 106 (.ld true 3) [.t 105],oo 19 (.alloc [v0,v0,v0]) [],ou (.st 3) [.t 19,.t 106]]
 (sr [ma 107 11,fa 108 0 19,la 109 108,oo 110 (.iad 1) [.t 107,.t 109],la 111 110,oo 112 (.bin .gtr) [.t 111,ki 0]]
 (.cond (.t 112)
 (.reg true [ma 113 10,fa 114 0 19,la 115 114,ca 116 zeH [.t 115],fa 117 1 19,la 118 117,ca 119 zbk [.t 118],oo 120 .call [.t 113,.t 116,.t 119,ki 64]] [[],[],[1],[2],[],[4],[5,3],[0,3,6,6]])
 .skip))))
 (rg [oo 121 (.bin .add) [.t 103,ki 1],ma 103 121])))))))
 (sr [oo 122 (.ld true 2) [.t 9],ou (.st 2) [.t 6,.t 122],oo 7 .mv [ki 0]]
 .ret)))))))))))⟩
def zln : AFun:=⟨6,[(2,none)],
 (sr [oo 2 .mv [kn]]
 (sr [ma 3 0,ca 4 zba [.t 3],ca 5 za5 [.t 4],ma 2 5]
 .ret))⟩
def zrR : AFun:=⟨16,[(2,none),(3,none)],
 (sr [oo 1 (.box 2) [.t 0],oo 2 .mv [kn],oo 3 .mv [ki 0]]
 (.seq (.seq
 (rg [oo 5 (.ld true 2) [.t 1],ca 6 zdE [.t 5],ma 4 6])
 (sr [ma 7 4,oo 8 (.bin .neq) [.t 7,ki 0]]
 (.cond (.t 8)
 (sr [ma 9 4,oo 2 .mv [kn],ma 3 9]
 .ret)
 .skip)))
 (.seq (.reg true [oo 10 (.ld true 2) [.t 1],fa 11 1 1,la 12 11,oo 13 .len [.t 12],oo 14 (.mks 1 8 [v0]) [.t 13,.t 13],ca 15 zhU [.t 10,.t 14],ma 2 15,oo 3 .mv [ki 0]] [[],[],[1],[2],[3,3],[0,4],[5,5,0,1,2,3,4,5],[6,0,1,2,3,4,5,6]])
 .ret)))⟩
def zpv : AFun:=⟨54,[(4,some (true,4))],
 (sr [oo 2 (.box 2) [.t 0],oo 4 (.alloc [v0,vn,vn,vn]) []]
 (.seq (.reg true [oo 8 (.ld true 2) [.t 2],ma 9 1,fa 10 0 2,la 11 10,oo 12 (.mks 1 24 [vn]) [.t 11,.t 11],oo 13 (.build [v0,vn,vn,vn] [(0,2),(2,1),(3,1)]) [.t 8,.t 9,.t 12],oo 5 (.alloc [v0,vn,vn,vn]) [],ou (.st 4) [.t 5,.t 13]] [[],[],[],[2],[3,3],[0,1,4],[],[6,5,0,1,2,3,4,5,6]])
 (.seq (.seq
 (rg [fa 14 1 2,la 15 14,oo 16 .len [.t 15],oo 17 .mv [ki 0]])
 (.block 0 (.loop
 (sr [oo 18 (.bin .lss) [.t 17,.t 16]]
 (.seq (.cond (.t 18)
 .skip
 (.exit 0))
 (.seq (.block 1 (sr [ma 19 17,oo 20 (.iad 3) [.t 15,.t 17],oo 21 (.ld true 3) [.t 20],oo 7 (.alloc [v0,v0,v0]) [],ma 6 19,ou (.st 3) [.t 7,.t 21]]
 (.seq (.reg true [fa 22 3 5,la 23 22,fa 24 0 7,la 25 24,fa 26 3 5,la 27 26,fa 28 0 7,la 29 28,oo 30 (.iad 1) [.t 27,.t 29],la 31 30,ma 32 6,oo 33 (.build [v0,(.bool false)] [(0,1),(1,1)]) [.t 32,.c (.bool false)],oo 34 (.bsl 2 1 [v0,(.bool false)] [0]) [.t 33],oo 35 (.app 2 16) [.t 31,.t 34],oo 36 (.iad 1) [.t 23,.t 25],ou (.st 1) [.t 36,.t 35]] [[],[0],[],[2],[],[4],[],[6],[5,7],[8],[],[10],[11],[9,12],[1,3,0,1,2,3,4,5,6,7,8,9,10,11,12,13],[14,13,13,0,1,2,3,4,5,6,7,8,9,10,11,12,13]])
 (.reg true [fa 37 3 5,la 38 37,fa 39 1 7,la 40 39,fa 41 3 5,la 42 41,fa 43 1 7,la 44 43,oo 45 (.iad 1) [.t 42,.t 44],la 46 45,ma 47 6,oo 48 (.build [v0,(.bool false)] [(0,1),(1,1)]) [.t 47,.c (.bool true)],oo 49 (.bsl 2 1 [v0,(.bool false)] [0]) [.t 48],oo 50 (.app 2 16) [.t 46,.t 49],oo 51 (.iad 1) [.t 38,.t 40],ou (.st 1) [.t 51,.t 50]] [[],[0],[],[2],[],[4],[],[6],[5,7],[8],[],[10],[11],[9,12],[1,3,0,1,2,3,4,5,6,7,8,9,10,11,12,13],[14,13,13,0,1,2,3,4,5,6,7,8,9,10,11,12,13]]))))
 (rg [oo 52 (.bin .add) [.t 17,ki 1],ma 17 52])))))))
 (sr [oo 53 (.ld true 4) [.t 5],ou (.st 4) [.t 4,.t 53]]
 .ret))))⟩
def zfD : AFun:=⟨59,[(2,none)],
 (sr [oo 1 (.box 4) [.t 0],oo 2 .mv [(.c (.map none))]]
 (sr [oo 11 .mkm [],oo 12 (.build [v0,(.bool false)] [(0,1)]) [ki (-1)],ou .mup [.t 11,ki 0,.t 12],ma 13 11,ma 3 13]
 (.seq (.seq
 (rg [oo 14 (.bsl 1 1 [v0] [0]) [ki 0],ma 4 14])
 (.block 0 (.loop
 (.seq (.seq
 (rg [ma 15 4,oo 16 .len [.t 15],oo 17 (.bin .gtr) [.t 16,ki 0]])
 (.cond (.t 17)
 .skip
 (.exit 0)))
 (.seq (.block 1 (.seq (.reg true [fa 20 3 1,la 21 20,ma 22 4,oo 23 (.iad 1) [.t 22,ki 0],la 24 23,oo 25 (.iad 1) [.t 21,.t 24],la 26 25,oo 27 .len [.t 26],oo 28 .mv [ki 0]] [[],[0],[],[2],[3],[1,4],[5],[6],[]])
 (.block 2 (.loop
 (sr [oo 29 (.bin .lss) [.t 28,.t 27]]
 (.seq (.cond (.t 29)
 .skip
 (.exit 2))
 (.seq (.block 3 (sr [oo 30 (.iad 2) [.t 26,.t 28],oo 31 (.ld true 2) [.t 30],oo 6 (.alloc [v0,(.bool false)]) [],ou (.st 2) [.t 6,.t 31]]
 (sr [oo 33 (.ld true 4) [.t 1],oo 34 (.ld true 2) [.t 6],ca 35 zbF [.t 33,.t 34],ma 32 35,oo 36 (.ext 0) [.t 32],oo 37 (.ext 1) [.t 32],ma 7 36,ma 8 37]
 (sr [ma 39 3,ma 40 8,oo 41 (.mlk (.agg #[v0,(.bool false)]) true) [.t 39,.t 40],ma 38 41,oo 42 (.ext 0) [.t 38],oo 43 (.ext 1) [.t 38],oo 9 (.alloc [v0,(.bool false)]) [],ou (.st 2) [.t 9,.t 42],ma 10 43]
 (sr [ma 44 7,oo 45 (.bin .gtr) [.t 44,ki 0],ma 46 45,mg 47 10 46,og 48 (.un .not) [.t 47] 46,oo 49 .pick [.t 46,.t 48,.c (.bool false)]]
 (.cond (.t 49)
 (sr [ma 50 3,ma 51 8,oo 52 (.ld true 2) [.t 6],ou .mup [.t 50,.t 51,.t 52]]
 (rg [ma 53 4,ma 54 8,oo 55 (.bsl 1 1 [v0] [0]) [.t 54],oo 56 (.app 1 8) [.t 53,.t 55],ma 4 56]))
 .skip))))))
 (rg [oo 57 (.bin .add) [.t 28,ki 1],ma 28 57]))))))))
 (rg [ma 18 4,oo 19 (.slc 1 true false false) [.t 18,ki 1],ma 4 19]))))))
 (sr [ma 58 3,ma 2 58]
 .ret))))⟩
def ziq : AFun:=⟨13,[(3,none)],
 (sr [oo 3 .mv [.c (.bool false)]]
 (sr [la 7 1,ma 8 0,oo 9 (.mlk (.agg #[v0,(.bool false)]) true) [.t 7,.t 8],ma 6 9,oo 10 (.ext 0) [.t 6],oo 11 (.ext 1) [.t 6],oo 4 (.alloc [v0,(.bool false)]) [],ou (.st 2) [.t 4,.t 10],ma 5 11]
 (sr [ma 12 5,ma 3 12]
 .ret)))⟩
def znf : AFun:=⟨19,[(4,none)],
 (sr [oo 2 (.box 3) [.t 0],oo 4 .mv [ki 0]]
 (.seq (.block 0 (sr [ma 6 1,oo 7 (.bin .lss) [.t 6,ki 0],ma 5 7]
 (.cond (.t 5)
 (sr [oo 4 .mv [ki 0]]
 .ret)
 (sr [ma 9 1,fa 10 1 2,la 11 10,oo 12 .len [.t 11],oo 13 (.bin .lss) [.t 9,.t 12],ma 8 13]
 (.cond (.t 8)
 (sr [fa 14 1 2,la 15 14,ma 16 1,oo 17 (.iad 1) [.t 15,.t 16],la 18 17,ma 4 18]
 .ret)
 .skip)))))
 (sr [oo 4 .mv [ki 1]]
 .ret)))⟩
def zos : AFun:=⟨21,[(2,none)],
 (sr [oo 1 (.box 2) [.t 0],oo 2 .mv [ki 0]]
 (sr [oo 4 (.mkf zc8) [.t 1],ma 3 4]
 (.seq (.seq
 (rg [fa 5 0 1,la 6 5,ca 7 zaO [.t 6,ki 2,ki 130],oo 8 (.un .not) [.t 7],ma 9 8,fh 10 1 1 9,lh 11 10 9,oh 12 .len [.t 11] 9,oh 13 (.bin .gtr) [.t 12,ki 1200] 9,oo 14 .pick [.t 9,.c (.bool true),.t 13],ma 15 14,fh 16 1 1 15,lh 17 16 15,mh 18 3 15,oh 19 .call [.f zaQ,.t 17,.t 18] 15,oo 20 .pick [.t 15,.c (.bool true),.t 19]])
 (.cond (.t 20)
 (sr [oo 2 .mv [ki 16]]
 .ret)
 .skip))
 (sr [oo 2 .mv [ki 0]]
 .ret))))⟩
def zlB : AFun:=⟨43,[(4,none)],
 (sr [oo 2 (.box 2) [.t 0],oo 4 .mv [kn]]
 (sr [fa 8 0 2,la 9 8,oo 10 (.mks 1 8 [v0]) [.t 9,.t 9],ma 5 10]
 (.seq (.seq
 (rg [fa 11 1 2,la 12 11,oo 13 .len [.t 12],oo 14 .mv [ki 0]])
 (.block 0 (.loop
 (sr [oo 15 (.bin .lss) [.t 14,.t 13]]
 (.seq (.cond (.t 15)
 .skip
 (.exit 0))
 (.seq (.block 1 (sr [ma 16 14,oo 17 (.iad 3) [.t 12,.t 14],oo 18 (.ld true 3) [.t 17],oo 7 (.alloc [v0,v0,v0]) [],ma 6 16,ou (.st 3) [.t 7,.t 18]]
 (.seq (.reg true [ma 19 5,fa 20 0 7,la 21 20,oo 22 (.iad 1) [.t 19,.t 21],la 23 22,ma 24 1,ma 25 6,oo 26 (.iad 1) [.t 24,.t 25],la 27 26,oo 28 (.bin .add) [.t 23,.t 27],oo 29 (.iad 1) [.t 19,.t 21],ou (.st 1) [.t 29,.t 28]] [[],[],[1],[0,2],[3],[],[],[5,6],[7],[4,8],[0,2,0,1,2,3,4,5,6,7,8,9],[10,9,0,1,2,3,4,5,6,7,8,9]])
 (.reg true [ma 30 5,fa 31 1 7,la 32 31,oo 33 (.iad 1) [.t 30,.t 32],la 34 33,ma 35 1,ma 36 6,oo 37 (.iad 1) [.t 35,.t 36],la 38 37,oo 39 (.bin .sub) [.t 34,.t 38],oo 40 (.iad 1) [.t 30,.t 32],ou (.st 1) [.t 40,.t 39]] [[],[],[1],[0,2],[3],[],[],[5,6],[7],[4,8],[0,2,0,1,2,3,4,5,6,7,8,9],[10,9,0,1,2,3,4,5,6,7,8,9]]))))
 (rg [oo 41 (.bin .add) [.t 14,ki 1],ma 14 41])))))))
 (sr [ma 42 5,ma 4 42]
 .ret))))⟩
def zj9 : AFun:=⟨5,[(2,none)],
 (sr [oo 2 .mv [.c (.bool false)]]
 (sr [ma 3 0,oo 4 (.bin .neq) [.t 3,ki 0],ma 2 4]
 .ret))⟩
def zl4 : AFun:=⟨6,[(2,none)],
 (sr [oo 2 .mv [ki 0]]
 (sr [ma 3 0,oo 4 (.bin .mul) [ki 2,.t 3],oo 5 (.bin .add) [ki 2,.t 4],ma 2 5]
 .ret))⟩
def zjv : AFun:=⟨46,[(6,none),(7,none)],
 (sr [oo 3 (.box 3) [.t 0],oo 4 (.box 3) [.t 1],oo 6 .mv [kn],oo 7 .mv [ki 0]]
 (.seq (.reg true [oo 13 (.ld true 3) [.t 3],oo 14 (.ld true 3) [.t 4],ma 15 2,ca 16 zba [.t 15],ca 17 za5 [.t 16],ca 18 zc3 [.t 13,.t 14,.t 17],ma 12 18,oo 19 (.ext 0) [.t 12],oo 20 (.ext 1) [.t 12],oo 8 (.alloc [v0,vn]) [],ou (.st 2) [.t 8,.t 19],ma 9 20] [[],[],[],[2],[3,3],[0,1,4,4],[5],[6],[6],[],[9,7,5,0,1,2,3,4,5,6,7,9],[8,10,0,1,2,3,4,5,6,7,8,9,10]])
 (.seq (.seq
 (rg [ma 21 9,oo 22 (.bin .neq) [.t 21,ki 0]])
 (.cond (.t 22)
 (sr [ma 23 9,oo 6 .mv [kn],ma 7 23]
 .ret)
 .skip))
 (sr [oo 25 (.ld true 2) [.t 8],ca 26 zgX [.t 25],ma 24 26,oo 27 (.ext 0) [.t 24],oo 28 (.ext 1) [.t 24],ma 10 27,ma 9 28]
 (.seq (.seq
 (rg [ma 29 9,oo 30 (.bin .neq) [.t 29,ki 0]])
 (.cond (.t 30)
 (sr [ma 31 9,oo 6 .mv [kn],ma 7 31]
 .ret)
 .skip))
 (sr [oo 33 (.ld true 2) [.t 8],ma 34 10,ca 35 zf7 [.t 33,.t 34],ma 32 35,oo 36 (.ext 0) [.t 32],oo 37 (.ext 1) [.t 32],ma 11 36,ma 9 37]
 (.seq (.seq
 (rg [ma 38 9,oo 39 (.bin .neq) [.t 38,ki 0]])
 (.cond (.t 39)
 (sr [ma 40 9,oo 6 .mv [kn],ma 7 40]
 .ret)
 .skip))
 (sr [ma 41 11,oo 42 (.mkf zbl) [.t 3,.t 8],ca 43 zbu [.t 41,.t 42],oo 44 (.ext 0) [.t 43],oo 45 (.ext 1) [.t 43],ma 6 44,ma 7 45]
 .ret))))))))⟩
def zbJ : AFun:=⟨19,[(4,none)],
 (sr [oo 4 .mv [ki 0]]
 (.seq (.seq
 (rg [ma 6 0,oo 7 .len [.t 6],oo 8 .mv [ki 0]])
 (.block 0 (.loop
 (sr [oo 9 (.bin .lss) [.t 8,.t 7]]
 (.seq (.cond (.t 9)
 .skip
 (.exit 0))
 (.seq (.block 1 (sr [ma 10 8,ma 5 10]
 (sr [ma 11 1,ma 12 0,ma 13 5,oo 14 (.iad 2) [.t 12,.t 13],oo 15 (.ld true 2) [.t 14],oo 16 .call [.t 11,.t 15]]
 (.cond (.t 16)
 (sr [ma 17 5,ma 4 17]
 .ret)
 .skip))))
 (rg [oo 18 (.bin .add) [.t 8,ki 1],ma 8 18])))))))
 (sr [oo 4 .mv [ki (-1)]]
 .ret)))⟩
def zfb : AFun:=⟨8,[(3,none)],
 (sr [oo 2 (.box 2) [.t 0],oo 3 .mv [.c (.bool false)]]
 (sr [fa 4 0 2,la 5 4,la 6 1,oo 7 (.bin .eql) [.t 5,.t 6],ma 3 7]
 .ret))⟩
def zhL : AFun:=⟨16,[],
 (rg [fa 7 1 3,la 8 7,ma 9 0,ma 10 1,ma 11 2,oo 12 (.build [v0,v0,v0] [(0,1),(1,1),(2,1)]) [.t 9,.t 10,.t 11],oo 13 (.bsl 3 1 [v0,v0,v0] [0]) [.t 12],oo 14 (.app 3 24) [.t 8,.t 13],fa 15 1 3,ou (.st 1) [.t 15,.t 14]])⟩
def znJ : AFun:=⟨6,[(2,none)],
 (sr [oo 2 .mv [ki 0]]
 (sr [ma 3 0,ca 4 zbk [.t 3],oo 5 (.bin .add) [.t 4,ki 1],ma 2 5]
 .ret))⟩
def zgD : AFun:=⟨9,[(2,none)],
 (sr [oo 2 .mv [kn]]
 (sr [ma 4 0,ca 5 zcm [.t 4],ma 3 5]
 (sr [ma 6 3,ca 7 za2 [.t 6]]
 (sr [ma 8 3,ma 2 8]
 .ret))))⟩
def zeE : AFun:=⟨4,[(2,none)],
 (sr [oo 1 (.box 1) [.t 0],oo 2 .mv [(.c .nilFunc)]]
 (sr [oo 3 (.mkf zbh) [.t 1],ma 2 3]
 .ret))⟩
def zqh : AFun:=⟨14,[(4,none)],
 (sr [oo 2 (.box 2) [.t 0],oo 4 .mv [kn]]
 (.seq (.reg true [oo 6 (.ld true 2) [.t 2],ma 7 1,ca 8 zaK [.t 7],ca 9 zfL [.t 6,.t 8],oo 5 (.alloc [v0,vn,vn,vn]) [],ou (.st 4) [.t 5,.t 9]] [[],[],[1],[0,2,2],[],[4,3,3,0,1,2,3,4]])
 (.seq (.block 0 (.loop
 (.seq (.seq
 (rg [oo 10 (.ld true 4) [.t 5],ca 11 zcn [.t 10]])
 (.cond (.t 11)
 .skip
 (.exit 0)))
 (.block 1
 .skip))))
 (sr [fa 12 2 5,la 13 12,ma 4 13]
 .ret))))⟩
def zgc : AFun:=⟨35,[(4,none),(5,none)],
 (sr [oo 2 (.box 4) [.t 0],oo 3 (.box 2) [.t 1],oo 4 .mv [ki 0],oo 5 .mv [ki 0]]
 (sr [fa 7 0 2,fa 8 1 7,la 9 8,fa 10 0 3,la 11 10,oo 12 (.iad 3) [.t 9,.t 11],oo 13 (.ld true 3) [.t 12],oo 6 (.alloc [v0,v0,v0]) [],ou (.st 3) [.t 6,.t 13]]
 (.seq (.seq
 (rg [fa 14 1 3,la 15 14])
 (.cond (.t 15)
 (.seq (.reg true [fa 16 2 2,la 17 16,fa 18 0 3,la 19 18,oo 20 (.iad 1) [.t 17,.t 19],la 21 20,fa 22 0 6,la 23 22,ma 4 21,ma 5 23] [[],[0],[],[2],[1,3],[4],[],[6],[5,0,1,2,3,4,5],[7,8,0,1,2,3,4,5,6,7,8]])
 .ret)
 .skip))
 (.seq (.reg true [fa 24 2 6,la 25 24,fa 26 2 2,la 27 26,fa 28 0 3,la 29 28,oo 30 (.iad 1) [.t 27,.t 29],la 31 30,oo 32 (.bin .sub) [.t 25,.t 31],fa 33 1 6,la 34 33,ma 4 32,ma 5 34] [[],[0],[],[2],[],[4],[3,5],[6],[1,7],[],[9],[8,0,1,2,3,4,5,6,7,8],[10,11,0,1,2,3,4,5,6,7,8,9,10,11]])
 .ret))))⟩
def zjU : AFun:=⟨43,[(3,none)],
 (sr [oo 2 (.box 3) [.t 0],oo 3 .mv [.c (.bool false)]]
 (sr [fa 4 0 2,la 5 4,fa 6 0 1,la 7 6,oo 8 (.bin .sub) [.t 7,ki 1],ca 9 zaO [.t 5,ki 0,.t 8],oo 10 (.un .not) [.t 9],ma 11 10,fh 12 1 2 11,lh 13 12 11,fh 14 0 1 11,lh 15 14 11,oh 16 (.bin .sub) [.t 15,ki 1] 11,oh 17 .call [.f zaO,.t 13,ki 0,.t 16] 11,oh 18 (.un .not) [.t 17] 11,oo 19 .pick [.t 11,.c (.bool true),.t 18],ma 20 19,fh 21 0 2 20,lh 22 21 20,fh 23 1 2 20,lh 24 23 20,oh 25 (.bin .eql) [.t 22,.t 24] 20,oo 26 .pick [.t 20,.c (.bool true),.t 25],ma 27 26,fh 28 1 2 27,lh 29 28 27,oh 30 (.bin .eql) [.t 29,ki 0] 27,oo 31 .pick [.t 27,.c (.bool true),.t 30],ma 32 31,fh 33 0 2 32,lh 34 33 32,oh 35 (.bin .eql) [.t 34,ki 1] 32,oo 36 .pick [.t 32,.c (.bool true),.t 35],ma 37 36,fh 38 2 2 37,lh 39 38 37,oh 40 .call [.f zaO,.t 39,ki 0,ki 1048576] 37,oh 41 (.un .not) [.t 40] 37,oo 42 .pick [.t 37,.c (.bool true),.t 41],ma 3 42]
 .ret))⟩
def zb7 : AFun:=⟨9,[(4,none)],
 (sr [oo 4 .mv [.c (.bool false)]]
 (sr [ma 5 0,ma 6 1,ca 7 zaM [.t 5,.t 6],oo 8 (.bin .geq) [.t 7,ki 0],ma 4 8]
 .ret))⟩
def zoj : AFun:=⟨119,[(4,none),(5,none)],
 (sr [oo 2 (.box 2) [.t 0],oo 4 .mv [kn],oo 5 .mv [ki 0]]
 (.seq (.seq
 (rg [oo 17 (.ld true 2) [.t 2],ca 18 zdE [.t 17],ma 6 18])
 (sr [ma 19 6,oo 20 (.bin .neq) [.t 19,ki 0]]
 (.cond (.t 20)
 (sr [ma 21 6,oo 4 .mv [kn],ma 5 21]
 .ret)
 .skip)))
 (.seq (.seq
 (rg [oo 22 (.ld true 2) [.t 2],ma 23 1,ca 24 zeT [.t 22,.t 23],oo 25 (.un .not) [.t 24]])
 (.cond (.t 25)
 (sr [oo 4 .mv [kn],oo 5 .mv [ki 17]]
 .ret)
 .skip))
 (sr [ma 26 1,ca 27 zaK [.t 26],ma 7 27]
 (sr [oo 8 .mv [kn]]
 (.seq (.seq
 (rg [oo 28 (.ld true 2) [.t 2],ma 29 1,ca 30 ze0 [.t 28,.t 29],oo 31 .mv [ki 0]])
 (.block 0 (.loop
 (sr [oo 32 (.bin .lss) [.t 31,.t 30]]
 (.seq (.cond (.t 32)
 .skip
 (.exit 0))
 (.seq (.block 1 (sr [oo 9 .mv [kn]]
 (sr [oo 33 .mkm [],ou .mup [.t 33,ki 0,ki 0],ma 34 33,ma 10 34]
 (.seq (.seq
 (rg [oo 11 (.alloc [v0]) [],ou (.st 1) [.t 11,ki 0]])
 (.block 2 (.loop
 (.seq (.seq
 (rg [la 35 11,oo 36 (.bin .neq) [.t 35,ki 1]])
 (.cond (.t 36)
 .skip
 (.exit 2)))
 (.seq (.block 3 (sr [fa 37 1 2,la 38 37,oo 39 (.mkf zc9) [.t 11],ca 40 zaM [.t 38,.t 39],ma 12 40]
 (.seq (.block 4 (.loop
 (.seq (.seq
 (.reg true [ma 41 12,fa 42 1 2,la 43 42,oo 44 .len [.t 43],oo 45 (.bin .lss) [.t 41,.t 44],ma 46 45,fg 47 1 2 46,lg 48 47 46,mg 49 12 46,og 50 (.iad 3) [.t 48,.t 49] 46,fg 51 0 50 46,lg 52 51 46,lg 53 11 46,og 54 (.bin .neq) [.t 52,.t 53] 46,mg 55 54 46,mh 56 7 55,mh 57 12 55,oh 58 (.iad 1) [.t 56,.t 57] 55,lh 59 58 55,oh 60 (.bin .eql) [.t 59,ki 0] 55,og 61 .pick [.t 55,.c (.bool true),.t 60] 46,oo 62 .pick [.t 46,.t 61,.c (.bool false)]] [[],[],[1],[2],[0,3],[4],[5],[6,5],[5],[7,8,5],[9,5],[10,5],[5],[11,12,5],[13,5,5],[14],[14],[15,16,14],[17,14],[18,14],[14,19,5],[5,20]])
 (.cond (.t 62)
 .skip
 (.exit 4)))
 (.block 5 (rg [ma 63 12,oo 64 (.bin .add) [.t 63,ki 1],ma 12 64])))))
 (sr [ma 65 7,ma 66 12,oo 67 (.iad 1) [.t 65,.t 66],la 68 67,oo 69 (.bin .sub) [.t 68,ki 1],oo 70 (.iad 1) [.t 65,.t 66],ou (.st 1) [.t 70,.t 69]]
 (.seq (.reg true [ma 71 9,ma 72 12,oo 73 (.bsl 1 1 [v0] [0]) [.t 72],oo 74 (.app 1 8) [.t 71,.t 73],fa 75 1 2,la 76 75,ma 77 12,oo 78 (.iad 3) [.t 76,.t 77],fa 79 1 78,la 80 79,ma 9 74,ou (.st 1) [.t 11,.t 80]] [[],[],[1],[0,2],[],[4],[],[5,6],[7],[8],[3,3,0,1,2,3],[9,10,0,1,2,3,4,5,6,7,8,9,10]])
 (.seq (.seq
 (rg [ma 82 10,la 83 11,oo 84 (.mlk v0 true) [.t 82,.t 83],ma 81 84,oo 85 (.ext 0) [.t 81],oo 86 (.ext 1) [.t 81],ma 13 85,ma 14 86])
 (sr [ma 87 14]
 (.cond (.t 87)
 (.seq (.seq
 (rg [ma 88 9,ma 89 13,oo 90 (.slc 1 true false false) [.t 88,.t 89],oo 91 .len [.t 90],oo 92 .mv [ki 0]])
 (.block 6 (.loop
 (sr [oo 93 (.bin .lss) [.t 92,.t 91]]
 (.seq (.cond (.t 93)
 .skip
 (.exit 6))
 (.seq (.block 7 (sr [oo 94 (.iad 1) [.t 90,.t 92],la 95 94,ma 16 95]
 (rg [ma 96 10,fa 97 1 2,la 98 97,ma 99 16,oo 100 (.iad 3) [.t 98,.t 99],fa 101 1 100,la 102 101,ou .mdl [.t 96,.t 102]])))
 (rg [oo 103 (.bin .add) [.t 92,ki 1],ma 92 103])))))))
 (rg [ma 104 9,ma 105 13,oo 106 (.slc 1 false true false) [.t 104,.t 105],ma 9 106]))
 .skip)))
 (rg [ma 107 10,la 108 11,ma 109 9,oo 110 .len [.t 109],ou .mup [.t 107,.t 108,.t 110]])))))))
 (sr [la 111 11]
 (rg [oo 11 (.alloc [v0]) [],ou (.st 1) [.t 11,.t 111]])))))))
 (rg [ma 112 8,ma 113 9,ca 114 zaK [.t 113],oo 115 (.bsl 1 1 [vn] [0]) [.t 114],oo 116 (.app 1 24) [.t 112,.t 115],ma 8 116])))))
 (rg [oo 117 (.bin .add) [.t 31,ki 1],ma 31 117])))))))
 (sr [ma 118 8,ma 4 118,oo 5 .mv [ki 0]]
 .ret)))))))⟩
def zea : AFun:=⟨32,[(4,none),(5,none)],
 (sr [oo 4 .mv [kn],oo 5 .mv [ki 0]]
 (sr [oo 6 .mv [kn]]
 (.seq (.seq
 (rg [ma 11 0,oo 12 .len [.t 11],oo 13 .mv [ki 0]])
 (.block 0 (.loop
 (sr [oo 14 (.bin .lss) [.t 13,.t 12]]
 (.seq (.cond (.t 14)
 .skip
 (.exit 0))
 (.seq (.block 1 (sr [oo 15 (.iad 1) [.t 11,.t 13],la 16 15,ma 8 16]
 (sr [ma 18 1,ma 19 8,oo 20 .call [.t 18,.t 19],ma 17 20,oo 21 (.ext 0) [.t 17],oo 22 (.ext 1) [.t 17],ma 9 21,ma 10 22]
 (.seq (.seq
 (rg [ma 23 10,oo 24 (.bin .neq) [.t 23,ki 0]])
 (.cond (.t 24)
 (sr [ma 25 10,oo 4 .mv [kn],ma 5 25]
 .ret)
 .skip))
 (rg [ma 26 6,ma 27 9,oo 28 (.bsl 1 1 [vn] [0]) [.t 27],oo 29 (.app 1 24) [.t 26,.t 28],ma 6 29])))))
 (rg [oo 30 (.bin .add) [.t 13,ki 1],ma 13 30])))))))
 (sr [ma 31 6,ma 4 31,oo 5 .mv [ki 0]]
 .ret))))⟩
def zhg : AFun:=⟨14,[(4,none),(5,none)],
 (sr [oo 4 .mv [kn],oo 5 .mv [ki 0]]
 (sr [fa 6 0 1,la 7 6,fa 8 1 2,la 9 8,ma 10 0,ca 11 zcF [.t 7,.t 9,.t 10],oo 12 (.ext 0) [.t 11],oo 13 (.ext 1) [.t 11],ma 4 12,ma 5 13]
 .ret))⟩
def zgm : AFun:=⟨5,[(2,none)],
 (sr [oo 2 .mv [kn]]
 (sr [ma 3 0,ca 4 zb3 [kn,.t 3],ma 2 4]
 .ret))⟩
def zgg : AFun:=⟨86,[(2,none)],
 (sr [oo 1 (.box 4) [.t 0],oo 2 .mv [.c (.bool false)]]
 (sr [oo 14 (.ld true 4) [.t 1],ca 15 zbp [.t 14],ma 3 15]
 (.seq (.seq
 (rg [ma 17 3,oo 18 (.mlk (.agg #[v0,(.bool false)]) true) [.t 17,ki 1],ma 16 18,oo 19 (.ext 0) [.t 16],oo 20 (.ext 1) [.t 16],oo 4 (.alloc [v0,(.bool false)]) [],ou (.st 2) [.t 4,.t 19],ma 5 20])
 (sr [ma 21 5,oo 22 (.un .not) [.t 21]]
 (.cond (.t 22)
 (sr [oo 2 .mv [.c (.bool false)]]
 .ret)
 .skip)))
 (sr [oo 6 .mv [kn]]
 (sr [oo 7 .mv [ki 1048576]]
 (.seq (.seq
 (rg [oo 8 .mv [ki 1]])
 (.block 0 (.loop
 (.seq (.seq
 (rg [ma 23 8,oo 24 (.bin .neq) [.t 23,ki 0]])
 (.cond (.t 24)
 .skip
 (.exit 0)))
 (.block 1 (sr [ma 25 3,ma 26 8,oo 27 (.mlk (.agg #[v0,(.bool false)]) false) [.t 25,.t 26],oo 9 (.alloc [v0,(.bool false)]) [],ou (.st 2) [.t 9,.t 27]]
 (sr [oo 29 (.ld true 4) [.t 1],oo 30 (.ld true 2) [.t 9],ca 31 zbF [.t 29,.t 30],ma 28 31,oo 32 (.ext 0) [.t 28],oo 33 (.ext 1) [.t 28],ma 10 32,ma 11 33]
 (sr [ma 34 6,oo 35 (.ld true 2) [.t 9],oo 36 (.bsl 2 1 [v0,(.bool false)] [0]) [.t 35],oo 37 (.app 2 16) [.t 34,.t 36],ma 38 7,ma 39 10,oo 40 .mn2 [.t 38,.t 39],ma 6 37,ma 7 40]
 (sr [fa 41 0 1,fa 42 1 41,la 43 42,fa 44 0 9,la 45 44,oo 46 (.iad 3) [.t 43,.t 45],fa 47 0 46,la 48 47,ma 8 48]
 (sr [fa 49 1 9,la 50 49]
 (.cond (.t 50)
 (rg [fa 51 0 1,fa 52 1 51,la 53 52,fa 54 0 9,la 55 54,oo 56 (.iad 3) [.t 53,.t 55],fa 57 1 56,la 58 57,ma 8 58])
 .skip)))))))))))
 (.seq (.seq
 (rg [ma 59 6,oo 60 .len [.t 59],oo 61 .mv [ki 0]])
 (.block 2 (.loop
 (sr [oo 62 (.bin .lss) [.t 61,.t 60]]
 (.seq (.cond (.t 62)
 .skip
 (.exit 2))
 (.seq (.block 3 (sr [oo 63 (.iad 2) [.t 59,.t 61],oo 64 (.ld true 2) [.t 63],oo 13 (.alloc [v0,(.bool false)]) [],ou (.st 2) [.t 13,.t 64]]
 (sr [fa 65 1 13,la 66 65]
 (.cond (.t 66)
 (rg [fa 67 2 1,la 68 67,fa 69 0 13,la 70 69,oo 71 (.iad 1) [.t 68,.t 70],la 72 71,ma 73 7,oo 74 (.bin .sub) [.t 72,.t 73],oo 75 (.iad 1) [.t 68,.t 70],ou (.st 1) [.t 75,.t 74]])
 (rg [fa 76 2 1,la 77 76,fa 78 0 13,la 79 78,oo 80 (.iad 1) [.t 77,.t 79],la 81 80,ma 82 7,oo 83 (.bin .add) [.t 81,.t 82],oo 84 (.iad 1) [.t 77,.t 79],ou (.st 1) [.t 84,.t 83]])))))
 (rg [oo 85 (.bin .add) [.t 61,ki 1],ma 61 85])))))))
 (sr [oo 2 .mv [.c (.bool true)]]
 .ret))))))))⟩
def zcw : AFun:=⟨19,[(4,none)],
 (sr [oo 4 .mv [ki 0]]
 (.seq (.seq
 (rg [ma 6 0,oo 7 .len [.t 6],oo 8 .mv [ki 0]])
 (.block 0 (.loop
 (sr [oo 9 (.bin .lss) [.t 8,.t 7]]
 (.seq (.cond (.t 9)
 .skip
 (.exit 0))
 (.seq (.block 1 (sr [ma 10 8,ma 5 10]
 (sr [ma 11 1,ma 12 0,ma 13 5,oo 14 (.iad 3) [.t 12,.t 13],oo 15 (.ld true 3) [.t 14],oo 16 .call [.t 11,.t 15]]
 (.cond (.t 16)
 (sr [ma 17 5,ma 4 17]
 .ret)
 .skip))))
 (rg [oo 18 (.bin .add) [.t 8,ki 1],ma 8 18])))))))
 (sr [oo 4 .mv [ki (-1)]]
 .ret)))⟩
def zkr : AFun:=⟨8,[(3,none)],
 (sr [oo 2 (.box 3) [.t 0],oo 3 .mv [.c (.bool false)]]
 (sr [fa 4 0 2,la 5 4,la 6 1,oo 7 (.bin .eql) [.t 5,.t 6],ma 3 7]
 .ret))⟩
end Go.Proofs.YteiabadhhhckfaaGreat
