/- Texts of this claim,merged. -/
import Derived.Test.YtklclphfcibagaaGreatRy5
import Derived.Test.YtklclphfcibagaaGreatRy7
import Derived.Test.YtklclphfcibagaaGreatProg
import Derived.KernelRfl
import Derived.Test.YtklclphfcibagaaGreatRy8
set_option linter.unusedSimpArgs false
set_option linter.unusedVariables false
set_option linter.unusedSectionVars false
namespace Go.Proofs.YtklclphfcibagaaGreat
open Go
set_option maxRecDepth 100000
def zdB : AFun:=⟨138,[(4,none)],
 (sr [oo 4 .mv [.c (.bool false)]]
 (sr [ma 21 0,oo 22 (.cvt .i64) [.t 21],oo 23 (.bin .rem) [.t 22,ki 6],oo 24 (.bin .add) [ki 1,.t 23],ma 25 1,oo 26 (.cvt .i64) [.t 25],oo 27 (.bin .rem) [.t 26,ki 6],ma 5 24,ma 6 27]
 (sr [oo 28 (.bsl 1 1 [v0] [0]) [ki 0],oo 29 (.bsl 1 1 [v0] [0]) [ki 0],ma 30 5,oo 31 (.bsl 1 2 [v0] [0,1]) [.t 30,ki 1],oo 32 (.build [vn,vn,v0] [(0,1),(1,1),(2,1)]) [.t 29,.t 31,ki 2],oo 33 (.build [vn,vn,vn,v0,v0,v0,v0] [(0,1),(1,3),(4,1),(5,1)]) [.t 28,.t 32,ki 1,ki 10],oo 7 (.alloc [vn,vn,vn,v0,v0,v0,v0]) [],ou (.st 7) [.t 7,.t 33]]
 (sr [oo 34 (.build [v0,vn] [(0,1)]) [ki 0],oo 8 (.alloc [v0,vn]) [],ou (.st 2) [.t 8,.t 34]]
 (.seq (.seq
 (rg [oo 9 .mv [ki 0]])
 (.block 0 (.loop
 (.seq (.seq
 (rg [ma 35 9,ma 36 6,oo 37 (.bin .lss) [.t 35,.t 36]])
 (.cond (.t 37)
 .skip
 (.exit 0)))
 (.seq (.block 1 (sr [oo 41 (.ld true 2) [.t 8],ma 42 9,oo 43 (.bin .add) [ki 5,.t 42],ma 44 9,oo 45 (.bin .rem) [.t 44,ki 2],oo 46 (.bin .add) [ki 2,.t 45],oo 47 (.build [v0,v0,v0,v0,vn,vn] [(0,1),(1,1),(2,1),(3,1)]) [ki 1,.t 43,.t 46,ki 15],ca 48 zaP [.t 41,.t 47,ki 3],ma 40 48,oo 49 (.ext 0) [.t 40],oo 50 (.ext 1) [.t 40],oo 51 (.ext 2) [.t 40],oo 10 (.alloc [v0,vn]) [],oo 11 (.alloc [v0,v0,ve,v0,v0,v0,v0,v0,vn,vn,ve,v0,ve]) [],ou (.st 2) [.t 10,.t 49],ou (.st 13) [.t 11,.t 50],ma 12 51]
 (.seq (.seq
 (rg [ma 52 12,oo 53 (.bin .neq) [.t 52,ki 0]])
 (.cond (.t 53)
 (sr [oo 4 .mv [.c (.bool false)]]
 .ret)
 .skip))
 (rg [oo 54 (.ld true 2) [.t 10],ou (.st 2) [.t 8,.t 54]]))))
 (rg [ma 38 9,oo 39 (.bin .add) [.t 38,ki 1],ma 9 39]))))))
 (sr [oo 56 (.ld true 2) [.t 8],oo 57 (.build [v0,v0,v0,v0,vn,vn] [(0,1),(1,1),(2,1),(3,1)]) [ki 1,ki 4,ki 1,ki 90],ca 58 zaP [.t 56,.t 57,ki 3],ma 55 58,oo 59 (.ext 0) [.t 55],oo 60 (.ext 1) [.t 55],oo 61 (.ext 2) [.t 55],oo 13 (.alloc [v0,vn]) [],oo 14 (.alloc [v0,v0,ve,v0,v0,v0,v0,v0,vn,vn,ve,v0,ve]) [],ou (.st 2) [.t 13,.t 59],ou (.st 13) [.t 14,.t 60],ma 15 61]
 (.seq (.reg true [oo 63 (.ld true 7) [.t 7],fa 64 1 13,oo 65 (.ld true 1) [.t 64],ca 66 zaN [.t 65],ca 67 zab [.t 63,.t 66,ki 0],ma 62 67,oo 68 (.ext 0) [.t 62],oo 69 (.ext 1) [.t 62],ma 16 68,ma 17 69] [[],[],[1],[2],[0,3,3],[4],[5],[5],[6,4,0,1,2,3,4,5,6],[7,8,0,1,2,3,4,5,6,7,8]])
 (.seq (.reg true [oo 71 (.ld true 7) [.t 7],fa 72 1 13,oo 73 (.ld true 1) [.t 72],ca 74 zaN [.t 73],ca 75 zab [.t 71,.t 74,ki 1],ma 70 75,oo 76 (.ext 0) [.t 70],oo 77 (.ext 1) [.t 70],ma 18 76,ma 19 77] [[],[],[1],[2],[0,3,3],[4],[5],[5],[6,4,0,1,2,3,4,5,6],[7,8,0,1,2,3,4,5,6,7,8]])
 (.seq (.seq
 (rg [ma 78 15,oo 79 (.bin .neq) [.t 78,ki 0],ma 80 79,mh 81 17 80,oh 82 (.bin .neq) [.t 81,ki 0] 80,oo 83 .pick [.t 80,.c (.bool true),.t 82],ma 84 83,mh 85 19 84,oh 86 (.bin .neq) [.t 85,ki 0] 84,oo 87 .pick [.t 84,.c (.bool true),.t 86],ma 88 87,mh 89 16 88,oh 90 .len [.t 89] 88,mh 91 6 88,mh 92 5 88,oh 93 (.bin .sub) [.t 92,ki 1] 88,oh 94 .mn2 [.t 91,.t 93] 88,oh 95 (.bin .add) [ki 1,.t 94] 88,oh 96 (.bin .neq) [.t 90,.t 95] 88,oo 97 .pick [.t 88,.c (.bool true),.t 96],ma 98 97,mh 99 18 98,oh 100 .len [.t 99] 98,oh 101 (.bin .neq) [.t 100,ki 1] 98,oo 102 .pick [.t 98,.c (.bool true),.t 101]])
 (.cond (.t 102)
 (sr [oo 4 .mv [.c (.bool false)]]
 .ret)
 .skip))
 (.seq (.seq
 (rg [oo 20 .mv [ki 0]])
 (.block 2 (.loop
 (.seq (.seq
 (rg [ma 103 20,ma 104 16,oo 105 .len [.t 104],oo 106 (.bin .lss) [.t 103,.t 105]])
 (.cond (.t 106)
 .skip
 (.exit 2)))
 (.seq (.block 3 (sr [ma 109 20,oo 110 (.bin .gtr) [.t 109,ki 0],ma 111 110,mg 112 16 111,mg 113 20 111,og 114 (.iad 1) [.t 112,.t 113] 111,lg 115 114 111,mg 116 20 111,og 117 (.bin .add) [ki 4,.t 116] 111,og 118 (.bin .neq) [.t 115,.t 117] 111,oo 119 .pick [.t 111,.t 118,.c (.bool false)],ma 120 119,mh 121 20 120,oh 122 (.bin .eql) [.t 121,ki 0] 120,mh 123 122 120,mg 124 16 123,mg 125 20 123,og 126 (.iad 1) [.t 124,.t 125] 123,lg 127 126 123,og 128 (.bin .neq) [.t 127,ki 0] 123,oh 129 .pick [.t 123,.t 128,.c (.bool false)] 120,oo 130 .pick [.t 120,.c (.bool true),.t 129]]
 (.cond (.t 130)
 (sr [oo 4 .mv [.c (.bool false)]]
 .ret)
 .skip)))
 (rg [ma 107 20,oo 108 (.bin .add) [.t 107,ki 1],ma 20 108]))))))
 (sr [ma 131 18,oo 132 (.iad 1) [.t 131,ki 0],la 133 132,oo 134 (.bin .eql) [.t 133,ki 0],ma 135 134,og 136 .call [.f zdZ] 135,oo 137 .pick [.t 135,.t 136,.c (.bool false)],ma 4 137]
 .ret)))))))))))⟩
def zjm : AFun:=⟨36,[(0,none)],
 (sr [oo 0 .mv [.c (.bool false)]]
 (sr [oo 6 (.bsl 1 2 [v0] [0,1]) [ki 0,ki 1],oo 7 (.bsl 1 2 [v0] [0,1]) [ki 0,ki 1],oo 8 (.bsl 1 1 [v0] [0]) [ki 2],oo 9 (.build [vn,vn,v0] [(0,1),(1,1),(2,1)]) [.t 7,.t 8,ki 1],oo 10 (.build [vn,vn,vn,v0,v0,v0,v0] [(0,1),(1,3),(4,1),(5,1)]) [.t 6,.t 9,ki 2,ki 5],oo 1 (.alloc [vn,vn,vn,v0,v0,v0,v0]) [],ou (.st 7) [.t 1,.t 10]]
 (sr [oo 12 (.ld true 7) [.t 1],ca 13 zab [.t 12,kn,ki 0],ma 11 13,oo 14 (.ext 0) [.t 11],oo 15 (.ext 1) [.t 11],ma 2 14,ma 3 15]
 (sr [oo 17 (.ld true 7) [.t 1],ca 18 zar [.t 17,ki 1],ma 16 18,oo 19 (.ext 0) [.t 16],oo 20 (.ext 1) [.t 16],ma 4 19,ma 5 20]
 (sr [ma 21 3,oo 22 (.bin .eql) [.t 21,ki 0],ma 23 22,mg 24 5 23,og 25 (.bin .eql) [.t 24,ki 0] 23,oo 26 .pick [.t 23,.t 25,.c (.bool false)],ma 27 26,mg 28 4 27,og 29 (.bin .eql) [.t 28,ki 10] 27,oo 30 .pick [.t 27,.t 29,.c (.bool false)],ma 31 30,mg 32 2 31,og 33 (.bsl 1 2 [v0] [0,1]) [ki 0,ki 1] 31,og 34 .call [.f zeE,.t 32,.t 33] 31,oo 35 .pick [.t 31,.t 34,.c (.bool false)],ma 0 35]
 .ret)))))⟩
def zeD : AFun:=⟨28,[(6,some (true,3)),(7,none)],
 (sr [oo 3 (.box 7) [.t 0],oo 6 (.alloc [v0,vn,vn]) [],oo 7 .mv [ki 0]]
 (sr [oo 11 (.ld true 7) [.t 3],ma 12 2,ca 13 zar [.t 11,.t 12],ma 10 13,oo 14 (.ext 0) [.t 10],oo 15 (.ext 1) [.t 10],ma 8 14,ma 9 15]
 (.seq (.seq
 (rg [ma 16 9,oo 17 (.bin .neq) [.t 16,ki 0]])
 (.cond (.t 17)
 (sr [oo 18 (.build [v0,vn,vn] []) [],ma 19 9,ou (.st 3) [.t 6,.t 18],ma 7 19]
 .ret)
 .skip))
 (sr [ma 20 1,ma 21 8,fa 22 1 3,fa 23 2 22,la 24 23,ca 25 zaR [.t 20,.t 21,.t 24],oo 26 (.ext 0) [.t 25],oo 27 (.ext 1) [.t 25],ou (.st 3) [.t 6,.t 26],ma 7 27]
 .ret))))⟩
def zep : AFun:=⟨33,[(6,none),(7,none)],
 (sr [oo 3 (.box 7) [.t 0],oo 6 .mv [kn],oo 7 .mv [ki 0]]
 (sr [oo 12 (.ld true 7) [.t 3],ma 13 1,ma 14 2,ca 15 zdr [.t 12,.t 13,.t 14],ma 11 15,oo 16 (.ext 0) [.t 11],oo 17 (.ext 1) [.t 11],oo 8 (.alloc [v0,vn,vn]) [],ou (.st 3) [.t 8,.t 16],ma 9 17]
 (.seq (.seq
 (rg [ma 18 9,oo 19 (.bin .neq) [.t 18,ki 0]])
 (.cond (.t 19)
 (sr [ma 20 9,oo 6 .mv [kn],ma 7 20]
 .ret)
 .skip))
 (sr [oo 22 (.ld true 3) [.t 8],fa 23 1 3,oo 24 (.ld true 3) [.t 23],ca 25 zaq [.t 22,.t 24],ma 21 25,oo 26 (.ext 0) [.t 21],oo 27 (.ext 1) [.t 21],oo 10 (.alloc [vn,vn,vn]) [],ou (.st 3) [.t 10,.t 26],ma 9 27]
 (.seq (.seq
 (rg [ma 28 9,oo 29 (.bin .neq) [.t 28,ki 0]])
 (.cond (.t 29)
 (sr [ma 30 9,oo 6 .mv [kn],ma 7 30]
 .ret)
 .skip))
 (sr [fa 31 0 10,la 32 31,ma 6 32,oo 7 .mv [ki 0]]
 .ret))))))⟩
def zfd : AFun:=⟨23,[(4,none),(5,none)],
 (sr [oo 2 (.box 7) [.t 0],oo 4 .mv [ki 0],oo 5 .mv [ki 0]]
 (.seq (.seq
 (rg [oo 7 (.ld true 7) [.t 2],ca 8 zea [.t 7],ma 6 8])
 (sr [ma 9 6,oo 10 (.bin .neq) [.t 9,ki 0]]
 (.cond (.t 10)
 (sr [ma 11 6,oo 4 .mv [ki 0],ma 5 11]
 .ret)
 .skip)))
 (.seq (.seq
 (rg [ma 12 1,oo 13 (.bin .lss) [.t 12,ki 0],ma 14 13,mh 15 1 14,oh 16 (.bin .geq) [.t 15,ki 40] 14,oo 17 .pick [.t 14,.c (.bool true),.t 16]])
 (.cond (.t 17)
 (sr [oo 4 .mv [ki 0],oo 5 .mv [ki 2]]
 .ret)
 .skip))
 (sr [ma 18 1,oo 19 (.bin .add) [.t 18,ki 1],fa 20 5 2,la 21 20,oo 22 (.bin .mul) [.t 19,.t 21],ma 4 22,oo 5 .mv [ki 0]]
 .ret))))⟩
def zlV : AFun:=⟨32,[(6,some (true,2)),(7,some (true,13)),(8,none)],
 (sr [oo 3 (.box 2) [.t 0],oo 4 (.box 6) [.t 1],oo 6 (.alloc [v0,vn]) [],oo 7 (.alloc [v0,v0,ve,v0,v0,v0,v0,v0,vn,vn,ve,v0,ve]) [],oo 8 .mv [ki 0]]
 (.seq (.reg true [oo 9 (.ld true 2) [.t 3],ma 10 2,fa 11 0 4,la 12 11,fa 13 1 4,la 14 13,fa 15 2 4,la 16 15,fa 17 3 4,la 18 17,oo 19 (.bsl 1 0 [v0] []) [],fa 20 4 4,la 21 20,oo 22 (.app 1 8) [.t 19,.t 21],oo 23 (.bsl 3 0 [v0,v0,ve] []) [],fa 24 5 4,la 25 24,oo 26 (.app 3 32) [.t 23,.t 25],oo 27 (.build [v0,v0,ve,v0,v0,v0,v0,v0,vn,vn,ve,v0,ve] [(3,1),(4,1),(5,1),(6,1),(7,1),(8,1),(9,1)]) [.t 10,.t 12,.t 14,.t 16,.t 18,.t 22,.t 26],ca 28 zi6 [.t 9,.t 27],oo 29 (.ext 0) [.t 28],oo 30 (.ext 1) [.t 28],oo 31 (.ext 2) [.t 28],ou (.st 2) [.t 6,.t 29],ou (.st 13) [.t 7,.t 30],ma 8 31] [[],[],[],[2],[],[4],[],[6],[],[8],[],[],[11],[10,12],[],[],[15],[14,16,13],[1,3,5,7,9,13,17],[0,18,17],[19],[19],[19],[20,19,0,1,2,3,4,5,6,7,8,9,10,11,12,13,14,15,16,17,18,19,20,21,22],[21,23,0,1,2,3,4,5,6,7,8,9,10,11,12,13,14,15,16,17,18,19,20,21,22,23],[22,24,0,1,2,3,4,5,6,7,8,9,10,11,12,13,14,15,16,17,18,19,20,21,22,23,24]])
 .ret))⟩
def zgb : AFun:=⟨26,[(4,none)],
 (sr [oo 4 .mv [.c (.bool false)]]
 (.seq (.seq
 (rg [ma 6 0,oo 7 .len [.t 6],ma 8 1,oo 9 .len [.t 8],oo 10 (.bin .neq) [.t 7,.t 9]])
 (.cond (.t 10)
 (sr [oo 4 .mv [.c (.bool false)]]
 .ret)
 .skip))
 (.seq (.seq
 (rg [oo 5 .mv [ki 0]])
 (.block 0 (.loop
 (.seq (.seq
 (rg [ma 11 5,ma 12 0,oo 13 .len [.t 12],oo 14 (.bin .lss) [.t 11,.t 13]])
 (.cond (.t 14)
 .skip
 (.exit 0)))
 (.seq (.block 1 (.seq (.reg true [ma 17 0,ma 18 5,oo 19 (.iad 1) [.t 17,.t 18],la 20 19,ma 21 1,ma 22 5,oo 23 (.iad 1) [.t 21,.t 22],la 24 23,oo 25 (.bin .neq) [.t 20,.t 24]] [[],[],[0,1],[2],[],[],[4,5],[6],[3,7]])
 (.cond (.t 25)
 (sr [oo 4 .mv [.c (.bool false)]]
 .ret)
 .skip)))
 (rg [ma 15 5,oo 16 (.bin .add) [.t 15,ki 1],ma 5 16]))))))
 (sr [oo 4 .mv [.c (.bool true)]]
 .ret))))⟩
def zlS : AFun:=⟨40,[(4,some (true,1)),(5,none),(6,none)],
 (sr [oo 2 (.box 1) [.t 0],oo 3 (.box 13) [.t 1],oo 4 (.alloc [vn]) [],oo 5 .mv [.c (.bool false)],oo 6 .mv [ki 0]]
 (sr [oo 10 (.ld true 1) [.t 2],ca 11 zfA [.t 10],ou (.st 1) [.t 2,.t 11]]
 (.seq (.seq
 (rg [oo 12 (.ld true 1) [.t 2],ca 13 zeY [.t 12],oo 14 (.un .not) [.t 13]])
 (.cond (.t 14)
 (sr [oo 15 (.ld true 1) [.t 2],ou (.st 1) [.t 4,.t 15],oo 5 .mv [.c (.bool false)],oo 6 .mv [ki 1]]
 .ret)
 .skip))
 (.seq (.seq
 (rg [oo 16 (.ld true 13) [.t 3],ca 17 zcG [.t 16],ma 7 17])
 (sr [ma 18 7,oo 19 (.bin .neq) [.t 18,ki 0]]
 (.cond (.t 19)
 (sr [oo 20 (.ld true 1) [.t 2],ma 21 7,ou (.st 1) [.t 4,.t 20],oo 5 .mv [.c (.bool false)],ma 6 21]
 .ret)
 .skip)))
 (.seq (.seq
 (rg [oo 22 (.ld true 13) [.t 3],ca 23 zcI [.t 22],oo 24 (.un .not) [.t 23]])
 (.cond (.t 24)
 (sr [oo 25 (.ld true 1) [.t 2],ou (.st 1) [.t 4,.t 25],oo 5 .mv [.c (.bool false)],oo 6 .mv [ki 6]]
 .ret)
 .skip))
 (sr [fa 27 0 2,la 28 27,oo 29 (.ld true 13) [.t 3],ca 30 zin [.t 28,.t 29],ma 26 30,oo 31 (.ext 0) [.t 26],oo 32 (.ext 1) [.t 26],ma 8 31,ma 9 32]
 (.seq (.seq
 (rg [ma 33 8,oo 34 .len [.t 33],oo 35 (.bin .gtr) [.t 34,ki 1000]])
 (.cond (.t 35)
 (sr [oo 36 (.ld true 1) [.t 2],ou (.st 1) [.t 4,.t 36],oo 5 .mv [.c (.bool false)],oo 6 .mv [ki 3]]
 .ret)
 .skip))
 (sr [ma 37 8,oo 38 (.build [vn] [(0,1)]) [.t 37],ma 39 9,ou (.st 1) [.t 4,.t 38],ma 5 39,oo 6 .mv [ki 0]]
 .ret))))))))⟩
def zk6 : AFun:=⟨50,[(6,some (true,3)),(7,none)],
 (sr [oo 6 (.alloc [v0,vn,vn]) [],oo 7 .mv [ki 0]]
 (.seq (.seq
 (rg [ma 11 2,ca 12 zaY [.t 11,ki 1,ki 3],oo 13 (.un .not) [.t 12]])
 (.cond (.t 13)
 (sr [oo 14 (.build [v0,vn,vn] []) [],ou (.st 3) [.t 6,.t 14],oo 7 .mv [ki 2]]
 .ret)
 .skip))
 (sr [ma 15 0,ma 16 1,ca 17 zeL [.t 15,.t 16],oo 18 (.build [v0,vn,vn] [(0,1),(2,1)]) [ki 64,.t 17],oo 8 (.alloc [v0,vn,vn]) [],ou (.st 3) [.t 8,.t 18]]
 (.seq (.seq
 (rg [ma 19 0,ma 20 1,ca 21 zeb [.t 19,.t 20],oo 22 .len [.t 21],oo 23 .mv [ki 0]])
 (.block 0 (.loop
 (sr [oo 24 (.bin .lss) [.t 23,.t 22]]
 (.seq (.cond (.t 24)
 .skip
 (.exit 0))
 (.seq (.block 1 (sr [oo 25 (.iad 7) [.t 21,.t 23],oo 26 (.ld true 7) [.t 25],oo 10 (.alloc [v0,v0,v0,v0,v0,v0,v0]) [],ou (.st 7) [.t 10,.t 26]]
 (sr [fa 27 2 10,la 28 27,ma 29 2,oo 30 (.bin .geq) [.t 28,.t 29]]
 (.cond (.t 30)
 (rg [fa 31 1 8,la 32 31,fa 33 0 10,la 34 33,fa 35 1 10,la 36 35,fa 37 2 10,la 38 37,oo 39 (.build [v0,v0,v0] [(0,1),(1,1),(2,1)]) [.t 34,.t 36,.t 38],oo 40 (.bsl 3 1 [v0,v0,v0] [0]) [.t 39],oo 41 (.app 3 24) [.t 32,.t 40],fa 42 1 8,ou (.st 1) [.t 42,.t 41]])
 .skip))))
 (rg [oo 43 (.bin .add) [.t 23,ki 1],ma 23 43])))))))
 (.seq (.seq
 (rg [fa 44 1 8,la 45 44,oo 46 .len [.t 45],oo 47 (.bin .gtr) [.t 46,ki 500]])
 (.cond (.t 47)
 (sr [oo 48 (.build [v0,vn,vn] []) [],ou (.st 3) [.t 6,.t 48],oo 7 .mv [ki 3]]
 .ret)
 .skip))
 (sr [oo 49 (.ld true 3) [.t 8],ou (.st 3) [.t 6,.t 49],oo 7 .mv [ki 0]]
 .ret))))))⟩
def zpt : AFun:=⟨72,[(4,some (true,3)),(5,none)],
 (sr [oo 2 (.box 3) [.t 0],oo 3 (.box 3) [.t 1],oo 4 (.alloc [vn,vn,vn]) [],oo 5 .mv [ki 0]]
 (.seq (.seq
 (rg [oo 14 (.ld true 3) [.t 2],oo 15 (.ld true 3) [.t 3],ca 16 zbP [.t 14,.t 15],ma 6 16])
 (sr [ma 17 6,oo 18 (.bin .neq) [.t 17,ki 0]]
 (.cond (.t 18)
 (sr [oo 19 (.build [vn,vn,vn] []) [],ma 20 6,ou (.st 3) [.t 4,.t 19],ma 5 20]
 .ret)
 .skip)))
 (sr [oo 7 (.alloc [vn,vn,vn]) []]
 (.seq (.seq
 (rg [oo 21 (.ld true 3) [.t 2],oo 22 (.ld true 3) [.t 3],ca 23 zfU [.t 21,.t 22],oo 24 .len [.t 23],oo 25 .mv [ki 0]])
 (.block 0 (.loop
 (sr [oo 26 (.bin .lss) [.t 25,.t 24]]
 (.seq (.cond (.t 26)
 .skip
 (.exit 0))
 (.seq (.block 1 (sr [oo 27 (.iad 1) [.t 23,.t 25],la 28 27,ma 9 28]
 (sr [fa 29 0 7,la 30 29,ma 31 9,ca 32 zgp [.t 30,.t 31],ma 10 32]
 (sr [oo 33 (.ld true 3) [.t 2],oo 34 (.ld true 3) [.t 3],ma 35 10,ca 36 zdi [.t 33,.t 34,.t 35],oo 11 (.alloc [v0,vn]) [],ou (.st 2) [.t 11,.t 36]]
 (sr [oo 38 (.ld true 2) [.t 11],ma 39 10,oo 40 .len [.t 39],ca 41 zdo [.t 38,.t 40],ma 37 41,oo 42 (.ext 0) [.t 37],oo 43 (.ext 1) [.t 37],ma 12 42,ma 13 43]
 (.seq (.seq
 (rg [ma 44 13])
 (.cond (.t 44)
 (sr [ma 45 10,fa 46 0 7,ou (.st 1) [.t 46,.t 45]]
 (.exit 1))
 .skip))
 (.reg true [fa 47 2 7,la 48 47,ma 49 9,oo 50 (.ld true 2) [.t 11],ma 51 12,ca 52 zfv [.t 50,.t 51],oo 53 (.build [v0,vn] [(0,1),(1,1)]) [.t 49,.t 52],oo 54 (.bsl 2 1 [v0,vn] [0]) [.t 53],oo 55 (.app 2 32) [.t 48,.t 54],fa 56 2 7,ou (.st 1) [.t 56,.t 55]] [[],[0],[],[],[],[3,4],[2,5],[6],[1,7,5],[0,1,2,3,4,5,6,7,8],[9,8,8,0,1,2,3,4,5,6,7,8]])))))))
 (rg [oo 57 (.bin .add) [.t 25,ki 1],ma 25 57])))))))
 (.seq (.reg true [oo 59 (.ld true 3) [.t 2],oo 60 (.ld true 3) [.t 3],fa 61 0 7,la 62 61,ca 63 zdi [.t 59,.t 60,.t 62],fa 64 0 7,la 65 64,oo 66 .len [.t 65],ca 67 zdo [.t 63,.t 66],ma 58 67,oo 68 (.ext 0) [.t 58],oo 69 (.ext 1) [.t 58],fa 70 1 7,ou (.st 1) [.t 70,.t 68]] [[],[],[],[2],[0,1,3],[],[5],[6],[4,7,4],[8],[9],[9],[0,1,2,3,4,5,6,7,8,9,10],[12,10,8,0,1,2,3,4,5,6,7,8,9,10]])
 (sr [oo 71 (.ld true 3) [.t 7],ou (.st 3) [.t 4,.t 71],oo 5 .mv [ki 0]]
 .ret))))))⟩
def zfV : AFun:=⟨43,[(2,none)],
 (sr [oo 1 (.box 7) [.t 0],oo 2 .mv [ki 0]]
 (.seq (.seq
 (rg [fa 4 0 1,la 5 4,ca 6 zej [.t 5],oo 7 (.un .not) [.t 6]])
 (.cond (.t 7)
 (sr [oo 2 .mv [ki 43]]
 .ret)
 .skip))
 (.seq (.seq
 (rg [oo 8 (.build [v0,vn,vn] [(0,1)]) [ki 64],fa 9 1 1,oo 10 (.ld true 3) [.t 9],ca 11 zbP [.t 8,.t 10],ma 3 11])
 (sr [ma 12 3,oo 13 (.bin .neq) [.t 12,ki 0]]
 (.cond (.t 13)
 (sr [ma 14 3,ma 2 14]
 .ret)
 .skip)))
 (.seq (.seq
 (rg [fa 15 4 1,la 16 15,oo 17 (.bin .lss) [.t 16,ki 1],ma 18 17,fh 19 4 1 18,lh 20 19 18,oh 21 (.bin .gtr) [.t 20,ki 9] 18,oo 22 .pick [.t 18,.c (.bool true),.t 21],ma 23 22,fh 24 5 1 23,lh 25 24 23,oh 26 (.bin .lss) [.t 25,ki 1] 23,oo 27 .pick [.t 23,.c (.bool true),.t 26],ma 28 27,fh 29 5 1 28,lh 30 29 28,oh 31 (.bin .gtr) [.t 30,ki 1000000] 28,oo 32 .pick [.t 28,.c (.bool true),.t 31],ma 33 32,fh 34 6 1 33,lh 35 34 33,oh 36 (.bin .lss) [.t 35,ki 0] 33,oo 37 .pick [.t 33,.c (.bool true),.t 36],ma 38 37,fh 39 6 1 38,lh 40 39 38,oh 41 (.bin .gtr) [.t 40,ki 64] 38,oo 42 .pick [.t 38,.c (.bool true),.t 41]])
 (.cond (.t 42)
 (sr [oo 2 .mv [ki 40]]
 .ret)
 .skip))
 (sr [oo 2 .mv [ki 0]]
 .ret)))))⟩
def zlO : AFun:=⟨74,[(4,some (true,2)),(5,some (true,13)),(6,none)],
 (sr [oo 2 (.box 2) [.t 0],oo 3 (.box 13) [.t 1],oo 4 (.alloc [v0,vn]) [],oo 5 (.alloc [v0,v0,ve,v0,v0,v0,v0,v0,vn,vn,ve,v0,ve]) [],oo 6 .mv [ki 0]]
 (sr [oo 13 (.ld true 2) [.t 2],ca 14 zhm [.t 13],ou (.st 2) [.t 2,.t 14]]
 (.seq (.seq
 (rg [oo 15 (.ld true 2) [.t 2],ca 16 zgd [.t 15],oo 17 (.un .not) [.t 16]])
 (.cond (.t 17)
 (sr [oo 18 (.ld true 2) [.t 2],oo 19 (.build [v0,v0,ve,v0,v0,v0,v0,v0,vn,vn,ve,v0,ve] []) [],ou (.st 2) [.t 4,.t 18],ou (.st 13) [.t 5,.t 19],oo 6 .mv [ki 1]]
 .ret)
 .skip))
 (sr [fa 20 1 2,oo 21 (.ld true 1) [.t 20],fa 22 0 2,la 23 22,ca 24 zfo [.t 21,.t 23],ma 7 24]
 (sr [fa 25 0 2,la 26 25,ma 27 7,ca 28 zcp [.t 26,.t 27],ma 8 28]
 (.seq (.seq
 (rg [fa 29 1 2,oo 30 (.ld true 1) [.t 29],fa 31 0 2,la 32 31,ca 33 zhu [.t 30,.t 32],oo 34 (.bin .geq) [.t 33,ki 0],ma 35 34,mh 36 8 35,oh 37 .len [.t 36] 35,mh 38 7 35,oh 39 .len [.t 38] 35,oh 40 (.bin .neq) [.t 37,.t 39] 35,oo 41 .pick [.t 35,.c (.bool true),.t 40]])
 (.cond (.t 41)
 (sr [oo 42 (.ld true 2) [.t 2],oo 43 (.build [v0,v0,ve,v0,v0,v0,v0,v0,vn,vn,ve,v0,ve] []) [],ou (.st 2) [.t 4,.t 42],ou (.st 13) [.t 5,.t 43],oo 6 .mv [ki 10]]
 .ret)
 .skip))
 (sr [fa 45 0 2,la 46 45,ma 47 8,oo 48 (.ld true 13) [.t 3],ca 49 zg1 [.t 46,.t 47,.t 48],ma 44 49,oo 50 (.ext 0) [.t 44],oo 51 (.ext 1) [.t 44],oo 9 (.alloc [v0,v0,ve,v0,v0,v0,v0,v0,vn,vn,ve,v0,ve]) [],ou (.st 13) [.t 9,.t 50],ma 10 51]
 (.seq (.seq
 (rg [ma 52 10,oo 53 (.bin .neq) [.t 52,ki 0]])
 (.cond (.t 53)
 (sr [oo 54 (.ld true 2) [.t 2],oo 55 (.build [v0,v0,ve,v0,v0,v0,v0,v0,vn,vn,ve,v0,ve] []) [],ma 56 10,ou (.st 2) [.t 4,.t 54],ou (.st 13) [.t 5,.t 55],ma 6 56]
 .ret)
 .skip))
 (sr [fa 58 1 2,oo 59 (.ld true 1) [.t 58],oo 60 (.ld true 13) [.t 9],ca 61 ziG [.t 59,.t 60],ma 57 61,oo 62 (.ext 0) [.t 57],oo 63 (.ext 1) [.t 57],oo 64 (.ext 2) [.t 57],oo 11 (.alloc [vn]) [],ou (.st 1) [.t 11,.t 62],ma 12 63,ma 10 64]
 (.seq (.seq
 (rg [ma 65 10,oo 66 (.bin .neq) [.t 65,ki 0]])
 (.cond (.t 66)
 (sr [oo 67 (.ld true 2) [.t 2],oo 68 (.build [v0,v0,ve,v0,v0,v0,v0,v0,vn,vn,ve,v0,ve] []) [],ma 69 10,ou (.st 2) [.t 4,.t 67],ou (.st 13) [.t 5,.t 68],ma 6 69]
 .ret)
 .skip))
 (sr [oo 70 (.ld true 1) [.t 11],fa 71 1 2,ou (.st 1) [.t 71,.t 70]]
 (.seq (.reg true [oo 72 (.ld true 2) [.t 2],oo 73 (.ld true 13) [.t 9],ou (.st 2) [.t 4,.t 72],ou (.st 13) [.t 5,.t 73],oo 6 .mv [ki 0]] [[],[],[0,0],[1,2,0,1,2],[3,0,1,2,3]])
 .ret))))))))))))⟩
def zkl : AFun:=⟨7,[(2,some (true,1))],
 (sr [oo 1 (.box 1) [.t 0],oo 2 (.alloc [vn]) []]
 (sr [fa 3 0 1,la 4 3,ca 5 zeH [.t 4],oo 6 (.build [vn] [(0,1)]) [.t 5],ou (.st 1) [.t 2,.t 6]]
 .ret))⟩
def zjx : AFun:=⟨50,[(2,none)],
 (sr [oo 1 (.box 1) [.t 0],oo 2 .mv [.c (.bool false)]]
 (.seq (.seq
 (rg [oo 3 .mv [ki 0]])
 (.block 0 (.loop
 (.seq (.seq
 (rg [ma 4 3,fa 5 0 1,la 6 5,oo 7 .len [.t 6],oo 8 (.bin .lss) [.t 4,.t 7]])
 (.cond (.t 8)
 .skip
 (.exit 0)))
 (.seq (.block 1 (.seq (.reg true [fa 11 0 1,la 12 11,ma 13 3,oo 14 (.iad 13) [.t 12,.t 13],oo 15 (.ld true 13) [.t 14],ca 16 zcG [.t 15],oo 17 (.bin .neq) [.t 16,ki 0],ma 18 17,fh 19 0 1 18,lh 20 19 18,mh 21 3 18,oh 22 (.iad 13) [.t 20,.t 21] 18,oh 23 (.ld true 13) [.t 22] 18,oh 24 .call [.f zcI,.t 23] 18,oh 25 (.un .not) [.t 24] 18,oo 26 .pick [.t 18,.c (.bool true),.t 25],ma 27 26,mh 28 3 27,oh 29 (.bin .gtr) [.t 28,ki 0] 27,mh 30 29 27,fg 31 0 1 30,lg 32 31 30,mg 33 3 30,og 34 (.bin .sub) [.t 33,ki 1] 30,og 35 (.iad 13) [.t 32,.t 34] 30,og 36 (.ld true 13) [.t 35] 30,fg 37 0 1 30,lg 38 37 30,mg 39 3 30,og 40 (.iad 13) [.t 38,.t 39] 30,og 41 (.ld true 13) [.t 40] 30,og 42 .call [.f zed,.t 36,.t 41] 30,og 43 (.un .not) [.t 42] 30,oh 44 .pick [.t 30,.t 43,.c (.bool false)] 27,oo 45 .pick [.t 27,.c (.bool true),.t 44]] [[],[0],[],[1,2],[3],[4],[5],[6,5],[7],[8,7],[7],[9,10,7],[11,7],[12,7,7],[13,7],[7,14],[15,13],[16],[17,16],[18,16,16],[19],[20,19],[19],[22,19],[21,23,19],[24,19],[19],[26,19],[19],[27,28,19],[29,19],[25,30,19,19],[31,19],[19,32,16],[16,33]])
 (.cond (.t 45)
 (sr [oo 2 .mv [.c (.bool false)]]
 .ret)
 .skip)))
 (rg [ma 9 3,oo 10 (.bin .add) [.t 9,ki 1],ma 3 10]))))))
 (sr [fa 46 0 1,la 47 46,oo 48 .len [.t 47],oo 49 (.bin .leq) [.t 48,ki 1000],ma 2 49]
 .ret)))⟩
def zer : AFun:=⟨65,[(4,none)],
 (sr [oo 2 (.box 3) [.t 0],oo 3 (.box 3) [.t 1],oo 4 .mv [ki 0]]
 (.seq (.seq
 (rg [oo 8 (.ld true 3) [.t 2],ca 9 zdY [.t 8],ma 5 9])
 (sr [ma 10 5,oo 11 (.bin .neq) [.t 10,ki 0]]
 (.cond (.t 11)
 (sr [ma 12 5,ma 4 12]
 .ret)
 .skip)))
 (.seq (.seq
 (rg [fa 13 0 3,la 14 13,oo 15 .len [.t 14],oo 16 (.bin .eql) [.t 15,ki 0],ma 17 16,fh 18 0 3 17,lh 19 18 17,fh 20 0 2 17,lh 21 20 17,oh 22 (.bin .sub) [.t 21,ki 1] 17,oh 23 .call [.f zbB,.t 19,ki 0,.t 22] 17,oh 24 (.un .not) [.t 23] 17,oo 25 .pick [.t 17,.c (.bool true),.t 24],ma 26 25,fh 27 1 3 26,lh 28 27 26,oh 29 .len [.t 28] 26,oh 30 .call [.f zaY,.t 29,ki 1,ki 8] 26,oh 31 (.un .not) [.t 30] 26,oo 32 .pick [.t 26,.c (.bool true),.t 31],ma 33 32,fh 34 2 3 33,lh 35 34 33,oh 36 .call [.f zaY,.t 35,ki 1,ki 3] 33,oh 37 (.un .not) [.t 36] 33,oo 38 .pick [.t 33,.c (.bool true),.t 37]])
 (.cond (.t 38)
 (sr [oo 4 .mv [ki 15]]
 .ret)
 .skip))
 (.seq (.seq
 (rg [fa 39 1 3,la 40 39,oo 41 .len [.t 40],oo 42 .mv [ki 0]])
 (.block 0 (.loop
 (sr [oo 43 (.bin .lss) [.t 42,.t 41]]
 (.seq (.cond (.t 43)
 .skip
 (.exit 0))
 (.seq (.block 1 (sr [ma 44 42,oo 45 (.iad 1) [.t 40,.t 42],la 46 45,ma 6 44,ma 7 46]
 (sr [ma 47 7,ca 48 zaY [.t 47,ki 1,ki 1000],oo 49 (.un .not) [.t 48],ma 50 49,mh 51 6 50,oh 52 (.bin .gtr) [.t 51,ki 0] 50,mh 53 52 50,mg 54 7 53,fg 55 1 3 53,lg 56 55 53,mg 57 6 53,og 58 (.bin .sub) [.t 57,ki 1] 53,og 59 (.iad 1) [.t 56,.t 58] 53,lg 60 59 53,og 61 (.bin .gtr) [.t 54,.t 60] 53,oh 62 .pick [.t 53,.t 61,.c (.bool false)] 50,oo 63 .pick [.t 50,.c (.bool true),.t 62]]
 (.cond (.t 63)
 (sr [oo 4 .mv [ki 15]]
 .ret)
 .skip))))
 (rg [oo 64 (.bin .add) [.t 42,ki 1],ma 42 64])))))))
 (sr [oo 4 .mv [ki 0]]
 .ret)))))⟩
def zmF : AFun:=⟨12,[(4,none)],
 (sr [oo 2 (.box 3) [.t 0],oo 3 (.box 3) [.t 1],oo 4 .mv [kn]]
 (.seq (.reg true [oo 5 (.ld true 3) [.t 2],fa 6 2 3,la 7 6,ca 8 zd0 [.t 5,.t 7],fa 9 0 3,la 10 9,ca 11 zez [.t 8,.t 10],ma 4 11] [[],[],[1],[0,2],[],[4],[3,5,3],[6,6,0,1,2,3,4,5,6]])
 .ret))⟩
def znZ : AFun:=⟨14,[(4,none)],
 (sr [oo 4 .mv [kn]]
 (sr [ma 5 0,ma 6 0,oo 7 .len [.t 6],ma 8 0,oo 9 .len [.t 8],oo 10 (.slc 1 false true true) [.t 5,.t 7,.t 9],ma 11 1,oo 12 (.bsl 1 1 [v0] [0]) [.t 11],oo 13 (.app 1 8) [.t 10,.t 12],ma 4 13]
 .ret))⟩
def zkN : AFun:=⟨18,[(6,some (true,2))],
 (sr [oo 3 (.box 3) [.t 0],oo 4 (.box 3) [.t 1],oo 6 (.alloc [v0,vn]) []]
 (.seq (.reg true [oo 10 (.ld true 3) [.t 3],oo 11 (.ld true 3) [.t 4],ma 12 2,ca 13 zds [.t 12],ca 14 zfc [.t 10,.t 11,.t 13],ma 9 14,oo 15 (.ext 0) [.t 9],oo 16 (.ext 1) [.t 9],oo 7 (.alloc [v0,vn]) [],ou (.st 2) [.t 7,.t 15],ma 8 16] [[],[],[],[2],[0,1,3,3],[4],[5],[5],[],[8,6,4,0,1,2,3,4,5,6,8],[7,9,0,1,2,3,4,5,6,7,8,9]])
 (sr [oo 17 (.ld true 2) [.t 7],ou (.st 2) [.t 6,.t 17]]
 .ret)))⟩
def znn : AFun:=⟨19,[(4,none),(5,none)],
 (sr [oo 2 (.box 2) [.t 0],oo 4 .mv [kn],oo 5 .mv [.c (.bool false)]]
 (sr [oo 9 (.ld true 2) [.t 2],ca 10 zkv [.t 9],ma 8 10,oo 11 (.ext 0) [.t 8],oo 12 (.ext 1) [.t 8],ma 6 11,ma 7 12]
 (sr [ma 13 6,oo 14 (.ld true 2) [.t 2],ma 15 6,ca 16 zhj [.t 14,.t 15],ma 17 1,oo 18 (.bin .eql) [.t 16,.t 17],ma 4 13,ma 5 18]
 .ret)))⟩
def zmL : AFun:=⟨14,[(4,none)],
 (sr [oo 2 (.box 2) [.t 0],oo 4 .mv [kn]]
 (sr [oo 6 (.ld true 2) [.t 2],ma 7 1,ca 8 zgG [.t 6,.t 7],ca 9 zbZ [.t 8],oo 5 (.alloc [(.map none)]) [],ou (.st 1) [.t 5,.t 9]]
 (sr [fa 10 0 2,la 11 10,oo 12 (.mkf zaQ) [.t 5],ca 13 zcC [.t 11,.t 12],ma 4 13]
 .ret)))⟩
def zfP : AFun:=⟨33,[(2,none)],
 (sr [oo 2 .mv [.c (.bool false)]]
 (.seq (.seq
 (rg [ma 5 0,oo 6 .len [.t 5],oo 7 .mv [ki 0]])
 (.block 0 (.loop
 (sr [oo 8 (.bin .lss) [.t 7,.t 6]]
 (.seq (.cond (.t 8)
 .skip
 (.exit 0))
 (.seq (.block 1 (sr [ma 9 7,oo 10 (.iad 1) [.t 5,.t 7],la 11 10,ma 3 9,ma 4 11]
 (sr [ma 12 4,ca 13 zeA [.t 12],oo 14 (.un .not) [.t 13],ma 15 14,mh 16 3 15,oh 17 (.bin .gtr) [.t 16,ki 0] 15,mh 18 17 15,mg 19 0 18,mg 20 3 18,og 21 (.bin .sub) [.t 20,ki 1] 18,og 22 (.iad 1) [.t 19,.t 21] 18,lg 23 22 18,mg 24 4 18,og 25 (.bin .geq) [.t 23,.t 24] 18,oh 26 .pick [.t 18,.t 25,.c (.bool false)] 15,oo 27 .pick [.t 15,.c (.bool true),.t 26]]
 (.cond (.t 27)
 (sr [oo 2 .mv [.c (.bool false)]]
 .ret)
 .skip))))
 (rg [oo 28 (.bin .add) [.t 7,ki 1],ma 7 28])))))))
 (sr [ma 29 0,ca 30 zgH [.t 29],oo 31 (.build [(.bool false),(.bool false),(.bool false),(.bool false),(.bool false),(.bool false),(.bool false),(.bool false),(.bool false),(.bool false),(.bool false),(.bool false),(.bool false),(.bool false),(.bool false),(.bool false),(.bool false),(.bool false),(.bool false),(.bool false),(.bool false),(.bool false),(.bool false),(.bool false),(.bool false),(.bool false),(.bool false),(.bool false),(.bool false),(.bool false),(.bool false),(.bool false),(.bool false),(.bool false),(.bool false),(.bool false),(.bool false),(.bool false),(.bool false),(.bool false),(.bool false),(.bool false),(.bool false),(.bool false),(.bool false),(.bool false),(.bool false),(.bool false),(.bool false),(.bool false),(.bool false),(.bool false),(.bool false),(.bool false),(.bool false),(.bool false),(.bool false),(.bool false),(.bool false),(.bool false),(.bool false),(.bool false),(.bool false),(.bool false)] []) [],oo 32 (.aeq true [1,1,1,1,1,1,1,1,1,1,1,1,1,1,1,1,1,1,1,1,1,1,1,1,1,1,1,1,1,1,1,1,1,1,1,1,1,1,1,1,1,1,1,1,1,1,1,1,1,1,1,1,1,1,1,1,1,1,1,1,1,1,1,1]) [.t 30,.t 31],ma 2 32]
 .ret)))⟩
def zk2 : AFun:=⟨9,[(2,some (true,2))],
 (sr [oo 1 (.box 2) [.t 0],oo 2 (.alloc [v0,vn]) []]
 (.seq (.reg true [fa 3 0 1,la 4 3,fa 5 1 1,oo 6 (.ld true 1) [.t 5],ca 7 zfA [.t 6],oo 8 (.build [v0,vn] [(0,1),(1,1)]) [.t 4,.t 7],ou (.st 2) [.t 2,.t 8]] [[],[0],[],[2],[3],[1,4],[5,4,0,1,2,3,4,5]])
 .ret))⟩
def zjr : AFun:=⟨16,[(2,none)],
 (sr [oo 1 (.box 2) [.t 0],oo 2 .mv [.c (.bool false)]]
 (sr [fa 3 0 1,la 4 3,oo 5 (.bin .geq) [.t 4,ki 0],ma 6 5,fg 7 0 1 6,lg 8 7 6,og 9 (.bin .lss) [.t 8,ki 64] 6,oo 10 .pick [.t 6,.t 9,.c (.bool false)],ma 11 10,fg 12 1 1 11,og 13 (.ld true 1) [.t 12] 11,og 14 .call [.f zeY,.t 13] 11,oo 15 .pick [.t 11,.t 14,.c (.bool false)],ma 2 15]
 .ret))⟩
def zla : AFun:=⟨19,[(4,none)],
 (sr [oo 2 (.box 1) [.t 0],oo 4 .mv [ki 0]]
 (.seq (.seq
 (rg [ma 8 1,oo 9 (.ld true 1) [.t 2],ma 10 1,ca 11 zfo [.t 9,.t 10],ca 12 zhh [.t 8,.t 11],ma 7 12,oo 13 (.ext 0) [.t 7],oo 14 (.ext 1) [.t 7],oo 5 (.alloc [v0,v0,ve,v0,v0,v0,v0,v0,vn,vn,ve,v0,ve,v0,v0,ve,v0,v0,v0,v0,v0,vn,vn,ve,v0,ve]) [],ou (.st 26) [.t 5,.t 13],ma 6 14])
 (sr [ma 15 6]
 (.cond (.t 15)
 (sr [fa 16 0 5,fa 17 1 16,la 18 17,ma 4 18]
 .ret)
 .skip)))
 (sr [oo 4 .mv [ki (-1)]]
 .ret)))⟩
def znb : AFun:=⟨30,[(4,none)],
 (sr [oo 2 (.box 3) [.t 0],oo 3 (.box 3) [.t 1],oo 4 .mv [kn]]
 (.seq (.reg true [oo 8 (.ld true 3) [.t 2],fa 9 2 3,la 10 9,ca 11 zd0 [.t 8,.t 10],fa 12 0 3,la 13 12,ca 14 zei [.t 11,.t 13],ma 5 14] [[],[],[1],[0,2],[],[4],[3,5,3],[6,6,0,1,2,3,4,5,6]])
 (.seq (.seq
 (rg [ma 15 5,oo 16 .len [.t 15],oo 17 .mv [ki 0]])
 (.block 0 (.loop
 (sr [oo 18 (.bin .lss) [.t 17,.t 16]]
 (.seq (.cond (.t 18)
 .skip
 (.exit 0))
 (.seq (.block 1 (sr [ma 19 17,oo 20 (.iad 1) [.t 15,.t 17],la 21 20,ma 6 19,ma 7 21]
 (rg [ma 22 5,ma 23 6,oo 24 (.ld true 3) [.t 3],ma 25 7,ca 26 zgy [.t 24,.t 25],oo 27 (.iad 1) [.t 22,.t 23],ou (.st 1) [.t 27,.t 26]])))
 (rg [oo 28 (.bin .add) [.t 17,ki 1],ma 17 28])))))))
 (sr [ma 29 5,ma 4 29]
 .ret))))⟩
def zlg : AFun:=⟨123,[(6,some (true,2)),(7,none)],
 (sr [oo 3 (.box 3) [.t 0],oo 4 (.box 3) [.t 1],oo 6 (.alloc [v0,vn]) [],oo 7 .mv [ki 0]]
 (.seq (.seq
 (rg [oo 20 (.ld true 3) [.t 3],oo 21 (.ld true 3) [.t 4],ca 22 zbP [.t 20,.t 21],ma 8 22])
 (sr [ma 23 8,oo 24 (.bin .neq) [.t 23,ki 0]]
 (.cond (.t 24)
 (sr [oo 25 (.build [v0,vn] []) [],ma 26 8,ou (.st 2) [.t 6,.t 25],ma 7 26]
 .ret)
 .skip)))
 (.seq (.seq
 (rg [ma 27 2,fa 28 0 3,la 29 28,oo 30 (.bin .sub) [.t 29,ki 1],ca 31 zbB [.t 27,ki 0,.t 30],oo 32 (.un .not) [.t 31]])
 (.cond (.t 32)
 (sr [oo 33 (.build [v0,vn] []) [],ou (.st 2) [.t 6,.t 33],oo 7 .mv [ki 4]]
 .ret)
 .skip))
 (sr [fa 34 0 3,la 35 34,ca 36 zcf [.t 35],oo 37 (.build [v0,vn] [(0,1)]) [.t 36],oo 9 (.alloc [v0,vn]) [],ou (.st 2) [.t 9,.t 37]]
 (sr [oo 38 (.mkf zaO) [.t 9],ma 10 38]
 (sr [oo 39 (.ld true 3) [.t 3],oo 40 (.ld true 3) [.t 4],ca 41 zfO [.t 39,.t 40],ma 11 41]
 (.seq (.seq
 (rg [fa 42 0 4,la 43 42,oo 44 .len [.t 43],oo 45 .mv [ki 0]])
 (.block 0 (.loop
 (sr [oo 46 (.bin .lss) [.t 45,.t 44]]
 (.seq (.cond (.t 46)
 .skip
 (.exit 0))
 (.seq (.block 1 (sr [oo 47 (.iad 1) [.t 43,.t 45],la 48 47,ma 13 48]
 (sr [ma 49 11,ma 50 13,oo 51 (.iad 1) [.t 49,.t 50],la 52 51,oo 53 (.bin .gtr) [.t 52,ki 0]]
 (.cond (.t 53)
 (.reg true [ma 54 10,ma 55 13,ca 56 zcf [.t 55],ma 57 11,ma 58 13,oo 59 (.iad 1) [.t 57,.t 58],la 60 59,oo 61 .call [.t 54,ki 0,.t 56,.t 60]] [[],[],[1],[],[],[3,4],[5],[0,2,6,2]])
 .skip))))
 (rg [oo 62 (.bin .add) [.t 45,ki 1],ma 45 62])))))))
 (.seq (.seq
 (rg [ma 63 11,oo 64 .len [.t 63],oo 65 .mv [ki 0]])
 (.block 2 (.loop
 (sr [oo 66 (.bin .lss) [.t 65,.t 64]]
 (.seq (.cond (.t 66)
 .skip
 (.exit 2))
 (.seq (.block 3 (sr [ma 67 65,oo 68 (.iad 1) [.t 63,.t 65],la 69 68,ma 14 67,ma 15 69]
 (sr [ma 70 15,oo 71 (.bin .gtr) [.t 70,ki 0]]
 (.cond (.t 71)
 (rg [ma 72 10,ma 73 14,ca 74 zcf [.t 73],ma 75 14,ca 76 zfJ [.t 75],ma 77 15,oo 78 (.bin .sub) [.t 77,ki 1],oo 79 .call [.t 72,.t 74,.t 76,.t 78]])
 .skip))))
 (rg [oo 80 (.bin .add) [.t 65,ki 1],ma 65 80])))))))
 (.seq (.seq
 (rg [ma 81 2,oo 82 .len [.t 81],oo 83 .mv [ki 0]])
 (.block 4 (.loop
 (sr [oo 84 (.bin .lss) [.t 83,.t 82]]
 (.seq (.cond (.t 84)
 .skip
 (.exit 4))
 (.seq (.block 5 (sr [oo 85 (.iad 1) [.t 81,.t 83],la 86 85,ma 17 86]
 (sr [ma 87 11,ma 88 17,oo 89 (.iad 1) [.t 87,.t 88],la 90 89,oo 91 (.bin .gtr) [.t 90,ki 0]]
 (.cond (.t 91)
 (rg [ma 92 10,ma 93 17,ca 94 zcf [.t 93],oo 95 .call [.t 92,.t 94,ki 1,ki 1]])
 .skip))))
 (rg [oo 96 (.bin .add) [.t 83,ki 1],ma 83 96])))))))
 (.seq (.seq
 (rg [oo 97 (.ld true 3) [.t 3],fa 98 2 4,la 99 98,ca 100 zd0 [.t 97,.t 99],oo 101 (.fld false 1 1) [.t 100],oo 102 .len [.t 101],oo 103 .mv [ki 0]])
 (.block 6 (.loop
 (sr [oo 104 (.bin .lss) [.t 103,.t 102]]
 (.seq (.cond (.t 104)
 .skip
 (.exit 6))
 (.seq (.block 7 (sr [oo 105 (.iad 3) [.t 101,.t 103],oo 106 (.ld true 3) [.t 105],oo 19 (.alloc [v0,v0,v0]) [],ou (.st 3) [.t 19,.t 106]]
 (sr [ma 107 11,fa 108 0 19,la 109 108,oo 110 (.iad 1) [.t 107,.t 109],la 111 110,oo 112 (.bin .gtr) [.t 111,ki 0]]
 (.cond (.t 112)
 (.reg true [ma 113 10,fa 114 0 19,la 115 114,ca 116 zfJ [.t 115],fa 117 1 19,la 118 117,ca 119 zcf [.t 118],oo 120 .call [.t 113,.t 116,.t 119,ki 64]] [[],[],[1],[2],[],[4],[5,3],[0,3,6,6]])
 .skip))))
 (rg [oo 121 (.bin .add) [.t 103,ki 1],ma 103 121])))))))
 (sr [oo 122 (.ld true 2) [.t 9],ou (.st 2) [.t 6,.t 122],oo 7 .mv [ki 0]]
 .ret)))))))))))⟩
def znf : AFun:=⟨6,[(2,none)],
 (sr [oo 2 .mv [kn]]
 (sr [ma 3 0,ca 4 zcj [.t 3],ca 5 zcv [.t 4],ma 2 5]
 .ret))⟩
def zsq : AFun:=⟨16,[(2,none),(3,none)],
 (sr [oo 1 (.box 2) [.t 0],oo 2 .mv [kn],oo 3 .mv [ki 0]]
 (.seq (.seq
 (rg [oo 5 (.ld true 2) [.t 1],ca 6 zfz [.t 5],ma 4 6])
 (sr [ma 7 4,oo 8 (.bin .neq) [.t 7,ki 0]]
 (.cond (.t 8)
 (sr [ma 9 4,oo 2 .mv [kn],ma 3 9]
 .ret)
 .skip)))
 (.seq (.reg true [oo 10 (.ld true 2) [.t 1],fa 11 1 1,la 12 11,oo 13 .len [.t 12],oo 14 (.mks 1 8 [v0]) [.t 13,.t 13],ca 15 ziU [.t 10,.t 14],ma 2 15,oo 3 .mv [ki 0]] [[],[],[1],[2],[3,3],[0,4],[5,5,0,1,2,3,4,5],[6,0,1,2,3,4,5,6]])
 .ret)))⟩
def zpu : AFun:=⟨14,[(4,none)],
 (sr [oo 2 (.box 2) [.t 0],oo 4 .mv [ki 0]]
 (.seq (.seq
 (rg [oo 5 (.ld true 2) [.t 2],ma 6 1,ca 7 zg6 [.t 5,.t 6],oo 8 (.un .not) [.t 7]])
 (.cond (.t 8)
 (sr [oo 4 .mv [ki 0]]
 .ret)
 .skip))
 (sr [oo 9 (.ld true 2) [.t 2],ma 10 1,ca 11 zeg [.t 9,.t 10],oo 12 (.iad 1) [.t 11,ki 0],la 13 12,ma 4 13]
 .ret)))⟩
def zrk : AFun:=⟨54,[(4,some (true,4))],
 (sr [oo 2 (.box 2) [.t 0],oo 4 (.alloc [v0,vn,vn,vn]) []]
 (.seq (.reg true [oo 8 (.ld true 2) [.t 2],ma 9 1,fa 10 0 2,la 11 10,oo 12 (.mks 1 24 [vn]) [.t 11,.t 11],oo 13 (.build [v0,vn,vn,vn] [(0,2),(2,1),(3,1)]) [.t 8,.t 9,.t 12],oo 5 (.alloc [v0,vn,vn,vn]) [],ou (.st 4) [.t 5,.t 13]] [[],[],[],[2],[3,3],[0,1,4],[],[6,5,0,1,2,3,4,5,6]])
 (.seq (.seq
 (rg [fa 14 1 2,la 15 14,oo 16 .len [.t 15],oo 17 .mv [ki 0]])
 (.block 0 (.loop
 (sr [oo 18 (.bin .lss) [.t 17,.t 16]]
 (.seq (.cond (.t 18)
 .skip
 (.exit 0))
 (.seq (.block 1 (sr [ma 19 17,oo 20 (.iad 3) [.t 15,.t 17],oo 21 (.ld true 3) [.t 20],oo 7 (.alloc [v0,v0,v0]) [],ma 6 19,ou (.st 3) [.t 7,.t 21]]
 (.seq (.reg true [fa 22 3 5,la 23 22,fa 24 0 7,la 25 24,fa 26 3 5,la 27 26,fa 28 0 7,la 29 28,oo 30 (.iad 1) [.t 27,.t 29],la 31 30,ma 32 6,oo 33 (.build [v0,(.bool false)] [(0,1),(1,1)]) [.t 32,.c (.bool false)],oo 34 (.bsl 2 1 [v0,(.bool false)] [0]) [.t 33],oo 35 (.app 2 16) [.t 31,.t 34],oo 36 (.iad 1) [.t 23,.t 25],ou (.st 1) [.t 36,.t 35]] [[],[0],[],[2],[],[4],[],[6],[5,7],[8],[],[10],[11],[9,12],[1,3,0,1,2,3,4,5,6,7,8,9,10,11,12,13],[14,13,13,0,1,2,3,4,5,6,7,8,9,10,11,12,13]])
 (.reg true [fa 37 3 5,la 38 37,fa 39 1 7,la 40 39,fa 41 3 5,la 42 41,fa 43 1 7,la 44 43,oo 45 (.iad 1) [.t 42,.t 44],la 46 45,ma 47 6,oo 48 (.build [v0,(.bool false)] [(0,1),(1,1)]) [.t 47,.c (.bool true)],oo 49 (.bsl 2 1 [v0,(.bool false)] [0]) [.t 48],oo 50 (.app 2 16) [.t 46,.t 49],oo 51 (.iad 1) [.t 38,.t 40],ou (.st 1) [.t 51,.t 50]] [[],[0],[],[2],[],[4],[],[6],[5,7],[8],[],[10],[11],[9,12],[1,3,0,1,2,3,4,5,6,7,8,9,10,11,12,13],[14,13,13,0,1,2,3,4,5,6,7,8,9,10,11,12,13]]))))
 (rg [oo 52 (.bin .add) [.t 17,ki 1],ma 17 52])))))))
 (sr [oo 53 (.ld true 4) [.t 5],ou (.st 4) [.t 4,.t 53]]
 .ret))))⟩
def zgl : AFun:=⟨59,[(2,none)],
 (sr [oo 1 (.box 4) [.t 0],oo 2 .mv [(.c (.map none))]]
 (sr [oo 11 .mkm [],oo 12 (.build [v0,(.bool false)] [(0,1)]) [ki (-1)],ou .mup [.t 11,ki 0,.t 12],ma 13 11,ma 3 13]
 (.seq (.seq
 (rg [oo 14 (.bsl 1 1 [v0] [0]) [ki 0],ma 4 14])
 (.block 0 (.loop
 (.seq (.seq
 (rg [ma 15 4,oo 16 .len [.t 15],oo 17 (.bin .gtr) [.t 16,ki 0]])
 (.cond (.t 17)
 .skip
 (.exit 0)))
 (.seq (.block 1 (.seq (.reg true [fa 20 3 1,la 21 20,ma 22 4,oo 23 (.iad 1) [.t 22,ki 0],la 24 23,oo 25 (.iad 1) [.t 21,.t 24],la 26 25,oo 27 .len [.t 26],oo 28 .mv [ki 0]] [[],[0],[],[2],[3],[1,4],[5],[6],[]])
 (.block 2 (.loop
 (sr [oo 29 (.bin .lss) [.t 28,.t 27]]
 (.seq (.cond (.t 29)
 .skip
 (.exit 2))
 (.seq (.block 3 (sr [oo 30 (.iad 2) [.t 26,.t 28],oo 31 (.ld true 2) [.t 30],oo 6 (.alloc [v0,(.bool false)]) [],ou (.st 2) [.t 6,.t 31]]
 (sr [oo 33 (.ld true 4) [.t 1],oo 34 (.ld true 2) [.t 6],ca 35 zck [.t 33,.t 34],ma 32 35,oo 36 (.ext 0) [.t 32],oo 37 (.ext 1) [.t 32],ma 7 36,ma 8 37]
 (sr [ma 39 3,ma 40 8,oo 41 (.mlk (.agg #[v0,(.bool false)]) true) [.t 39,.t 40],ma 38 41,oo 42 (.ext 0) [.t 38],oo 43 (.ext 1) [.t 38],oo 9 (.alloc [v0,(.bool false)]) [],ou (.st 2) [.t 9,.t 42],ma 10 43]
 (sr [ma 44 7,oo 45 (.bin .gtr) [.t 44,ki 0],ma 46 45,mg 47 10 46,og 48 (.un .not) [.t 47] 46,oo 49 .pick [.t 46,.t 48,.c (.bool false)]]
 (.cond (.t 49)
 (sr [ma 50 3,ma 51 8,oo 52 (.ld true 2) [.t 6],ou .mup [.t 50,.t 51,.t 52]]
 (rg [ma 53 4,ma 54 8,oo 55 (.bsl 1 1 [v0] [0]) [.t 54],oo 56 (.app 1 8) [.t 53,.t 55],ma 4 56]))
 .skip))))))
 (rg [oo 57 (.bin .add) [.t 28,ki 1],ma 28 57]))))))))
 (rg [ma 18 4,oo 19 (.slc 1 true false false) [.t 18,ki 1],ma 4 19]))))))
 (sr [ma 58 3,ma 2 58]
 .ret))))⟩
def zjH : AFun:=⟨13,[(3,none)],
 (sr [oo 3 .mv [.c (.bool false)]]
 (sr [la 7 1,ma 8 0,oo 9 (.mlk (.agg #[v0,(.bool false)]) true) [.t 7,.t 8],ma 6 9,oo 10 (.ext 0) [.t 6],oo 11 (.ext 1) [.t 6],oo 4 (.alloc [v0,(.bool false)]) [],ou (.st 2) [.t 4,.t 10],ma 5 11]
 (sr [ma 12 5,ma 3 12]
 .ret)))⟩
def zhx : AFun:=⟨9,[(2,none)],
 (sr [oo 2 .mv [.c (.bool false)]]
 (sr [ma 3 0,oo 4 (.bin .geq) [.t 3,ki 0],ma 5 4,mg 6 0 5,og 7 (.bin .lss) [.t 6,ki 64] 5,oo 8 .pick [.t 5,.t 7,.c (.bool false)],ma 2 8]
 .ret))⟩
def ziz : AFun:=⟨18,[(2,some (true,64))],
 (sr [oo 2 (.alloc [(.bool false),(.bool false),(.bool false),(.bool false),(.bool false),(.bool false),(.bool false),(.bool false),(.bool false),(.bool false),(.bool false),(.bool false),(.bool false),(.bool false),(.bool false),(.bool false),(.bool false),(.bool false),(.bool false),(.bool false),(.bool false),(.bool false),(.bool false),(.bool false),(.bool false),(.bool false),(.bool false),(.bool false),(.bool false),(.bool false),(.bool false),(.bool false),(.bool false),(.bool false),(.bool false),(.bool false),(.bool false),(.bool false),(.bool false),(.bool false),(.bool false),(.bool false),(.bool false),(.bool false),(.bool false),(.bool false),(.bool false),(.bool false),(.bool false),(.bool false),(.bool false),(.bool false),(.bool false),(.bool false),(.bool false),(.bool false),(.bool false),(.bool false),(.bool false),(.bool false),(.bool false),(.bool false),(.bool false),(.bool false)]) []]
 (sr [oo 3 (.alloc [(.bool false),(.bool false),(.bool false),(.bool false),(.bool false),(.bool false),(.bool false),(.bool false),(.bool false),(.bool false),(.bool false),(.bool false),(.bool false),(.bool false),(.bool false),(.bool false),(.bool false),(.bool false),(.bool false),(.bool false),(.bool false),(.bool false),(.bool false),(.bool false),(.bool false),(.bool false),(.bool false),(.bool false),(.bool false),(.bool false),(.bool false),(.bool false),(.bool false),(.bool false),(.bool false),(.bool false),(.bool false),(.bool false),(.bool false),(.bool false),(.bool false),(.bool false),(.bool false),(.bool false),(.bool false),(.bool false),(.bool false),(.bool false),(.bool false),(.bool false),(.bool false),(.bool false),(.bool false),(.bool false),(.bool false),(.bool false),(.bool false),(.bool false),(.bool false),(.bool false),(.bool false),(.bool false),(.bool false),(.bool false)]) []]
 (.seq (.seq
 (rg [ma 6 0,oo 7 .len [.t 6],oo 8 .mv [ki 0]])
 (.block 0 (.loop
 (sr [oo 9 (.bin .lss) [.t 8,.t 7]]
 (.seq (.cond (.t 9)
 .skip
 (.exit 0))
 (.seq (.block 1 (sr [oo 10 (.iad 1) [.t 6,.t 8],la 11 10,ma 5 11]
 (sr [ma 12 5,ca 13 zeA [.t 12]]
 (.cond (.t 13)
 (rg [ma 14 5,oo 15 (.iaa 64 1) [.t 3,.t 14],ou (.st 1) [.t 15,.c (.bool true)]])
 .skip))))
 (rg [oo 16 (.bin .add) [.t 8,ki 1],ma 8 16])))))))
 (sr [oo 17 (.ld true 64) [.t 3],ou (.st 64) [.t 2,.t 17]]
 .ret))))⟩
def zkM : AFun:=⟨41,[(4,some (true,26)),(5,none)],
 (sr [oo 4 (.alloc [v0,v0,ve,v0,v0,v0,v0,v0,vn,vn,ve,v0,ve,v0,v0,ve,v0,v0,v0,v0,v0,vn,vn,ve,v0,ve]) [],oo 5 .mv [.c (.bool false)]]
 (sr [ma 8 0,ma 9 1,ca 10 zfq [.t 8,.t 9],ma 6 10]
 (.seq (.seq
 (rg [oo 7 .mv [ki 0]])
 (.block 0 (.loop
 (.seq (.seq
 (rg [ma 11 7,oo 12 (.bin .add) [.t 11,ki 1],ma 13 6,oo 14 .len [.t 13],oo 15 (.bin .lss) [.t 12,.t 14]])
 (.cond (.t 15)
 .skip
 (.exit 0)))
 (.seq (.block 1 (.seq (.reg true [ma 18 6,ma 19 7,oo 20 (.iad 13) [.t 18,.t 19],fa 21 1 20,la 22 21,ma 23 6,ma 24 7,oo 25 (.bin .add) [.t 24,ki 1],oo 26 (.iad 13) [.t 23,.t 25],fa 27 1 26,la 28 27,oo 29 (.bin .eql) [.t 22,.t 28]] [[],[],[0,1],[2],[3],[],[],[6],[5,7],[8],[9],[4,10]])
 (.cond (.t 29)
 (.seq (.reg true [ma 30 6,ma 31 7,oo 32 (.iad 13) [.t 30,.t 31],oo 33 (.ld true 13) [.t 32],ma 34 6,ma 35 7,oo 36 (.bin .add) [.t 35,ki 1],oo 37 (.iad 13) [.t 34,.t 36],oo 38 (.ld true 13) [.t 37],oo 39 (.build [v0,v0,ve,v0,v0,v0,v0,v0,vn,vn,ve,v0,ve,v0,v0,ve,v0,v0,v0,v0,v0,vn,vn,ve,v0,ve] [(0,13),(13,13)]) [.t 33,.t 38],ou (.st 26) [.t 4,.t 39],oo 5 .mv [.c (.bool true)]] [[],[],[0,1],[2],[],[],[5],[4,6],[7],[3,8],[9,0,1,2,3,4,5,6,7,8,9],[10,0,1,2,3,4,5,6,7,8,9,10]])
 .ret)
 .skip)))
 (rg [ma 16 7,oo 17 (.bin .add) [.t 16,ki 1],ma 7 17]))))))
 (sr [oo 40 (.build [v0,v0,ve,v0,v0,v0,v0,v0,vn,vn,ve,v0,ve,v0,v0,ve,v0,v0,v0,v0,v0,vn,vn,ve,v0,ve] []) [],ou (.st 26) [.t 4,.t 40],oo 5 .mv [.c (.bool false)]]
 .ret))))⟩
def zov : AFun:=⟨19,[(4,none)],
 (sr [oo 2 (.box 3) [.t 0],oo 4 .mv [ki 0]]
 (.seq (.block 0 (sr [ma 6 1,oo 7 (.bin .lss) [.t 6,ki 0],ma 5 7]
 (.cond (.t 5)
 (sr [oo 4 .mv [ki 0]]
 .ret)
 (sr [ma 9 1,fa 10 1 2,la 11 10,oo 12 .len [.t 11],oo 13 (.bin .lss) [.t 9,.t 12],ma 8 13]
 (.cond (.t 8)
 (sr [fa 14 1 2,la 15 14,ma 16 1,oo 17 (.iad 1) [.t 15,.t 16],la 18 17,ma 4 18]
 .ret)
 .skip)))))
 (sr [oo 4 .mv [ki 1]]
 .ret)))⟩
def zon : AFun:=⟨6,[(2,none)],
 (sr [oo 2 .mv [ki 0]]
 (sr [ma 3 0,oo 4 (.bin .mul) [ki 2,.t 3],oo 5 (.bin .add) [ki 2,.t 4],ma 2 5]
 .ret))⟩
def ziQ : AFun:=⟨16,[],
 (rg [fa 7 1 3,la 8 7,ma 9 0,ma 10 1,ma 11 2,oo 12 (.build [v0,v0,v0] [(0,1),(1,1),(2,1)]) [.t 9,.t 10,.t 11],oo 13 (.bsl 3 1 [v0,v0,v0] [0]) [.t 12],oo 14 (.app 3 24) [.t 8,.t 13],fa 15 1 3,ou (.st 1) [.t 15,.t 14]])⟩
def zo7 : AFun:=⟨6,[(2,none)],
 (sr [oo 2 .mv [ki 0]]
 (sr [ma 3 0,ca 4 zcf [.t 3],oo 5 (.bin .add) [.t 4,ki 1],ma 2 5]
 .ret))⟩
def zhM : AFun:=⟨9,[(2,none)],
 (sr [oo 2 .mv [kn]]
 (sr [ma 4 0,ca 5 zc6 [.t 4],ma 3 5]
 (sr [ma 6 3,ca 7 zaZ [.t 6]]
 (sr [ma 8 3,ma 2 8]
 .ret))))⟩
def zfx : AFun:=⟨4,[(2,none)],
 (sr [oo 1 (.box 1) [.t 0],oo 2 .mv [(.c .nilFunc)]]
 (sr [oo 3 (.mkf zbX) [.t 1],ma 2 3]
 .ret))⟩
def zpA : AFun:=⟨21,[(2,none)],
 (sr [oo 1 (.box 2) [.t 0],oo 2 .mv [ki 0]]
 (sr [oo 4 (.mkf zdN) [.t 1],ma 3 4]
 (.seq (.seq
 (rg [fa 5 0 1,la 6 5,ca 7 zaY [.t 6,ki 2,ki 130],oo 8 (.un .not) [.t 7],ma 9 8,fh 10 1 1 9,lh 11 10 9,oh 12 .len [.t 11] 9,oh 13 (.bin .gtr) [.t 12,ki 1200] 9,oo 14 .pick [.t 9,.c (.bool true),.t 13],ma 15 14,fh 16 1 1 15,lh 17 16 15,mh 18 3 15,oh 19 .call [.f zbd,.t 17,.t 18] 15,oo 20 .pick [.t 15,.c (.bool true),.t 19]])
 (.cond (.t 20)
 (sr [oo 2 .mv [ki 16]]
 .ret)
 .skip))
 (sr [oo 2 .mv [ki 0]]
 .ret))))⟩
def zq2 : AFun:=⟨14,[(4,none)],
 (sr [oo 2 (.box 2) [.t 0],oo 4 .mv [kn]]
 (.seq (.reg true [oo 6 (.ld true 2) [.t 2],ma 7 1,ca 8 zbs [.t 7],ca 9 zgG [.t 6,.t 8],oo 5 (.alloc [v0,vn,vn,vn]) [],ou (.st 4) [.t 5,.t 9]] [[],[],[1],[0,2,2],[],[4,3,3,0,1,2,3,4]])
 (.seq (.block 0 (.loop
 (.seq (.seq
 (rg [oo 10 (.ld true 4) [.t 5],ca 11 zc3 [.t 10]])
 (.cond (.t 11)
 .skip
 (.exit 0)))
 (.block 1
 .skip))))
 (sr [fa 12 2 5,la 13 12,ma 4 13]
 .ret))))⟩
def zoY : AFun:=⟨41,[(4,none)],
 (sr [oo 2 (.box 2) [.t 0],oo 4 .mv [.c (.bool false)]]
 (.seq (.seq
 (rg [oo 7 (.ld true 2) [.t 2],ca 8 zfz [.t 7],oo 9 (.bin .neq) [.t 8,ki 0],ma 10 9,mh 11 1 10,oh 12 .len [.t 11] 10,fh 13 1 2 10,lh 14 13 10,oh 15 .len [.t 14] 10,oh 16 (.bin .neq) [.t 12,.t 15] 10,oo 17 .pick [.t 10,.c (.bool true),.t 16]])
 (.cond (.t 17)
 (sr [oo 4 .mv [.c (.bool false)]]
 .ret)
 .skip))
 (.seq (.seq
 (rg [fa 18 1 2,la 19 18,oo 20 .len [.t 19],oo 21 .mv [ki 0]])
 (.block 0 (.loop
 (sr [oo 22 (.bin .lss) [.t 21,.t 20]]
 (.seq (.cond (.t 22)
 .skip
 (.exit 0))
 (.seq (.block 1 (sr [ma 23 21,oo 24 (.iad 3) [.t 19,.t 21],oo 25 (.ld true 3) [.t 24],oo 6 (.alloc [v0,v0,v0]) [],ma 5 23,ou (.st 3) [.t 6,.t 25]]
 (.seq (.reg true [ma 26 1,ma 27 5,oo 28 (.iad 1) [.t 26,.t 27],la 29 28,fa 30 2 6,la 31 30,ca 32 zaY [.t 29,ki 0,.t 31],oo 33 (.un .not) [.t 32]] [[],[],[0,1],[2],[],[4],[3,5],[6]])
 (.cond (.t 33)
 (sr [oo 4 .mv [.c (.bool false)]]
 .ret)
 .skip))))
 (rg [oo 34 (.bin .add) [.t 21,ki 1],ma 21 34])))))))
 (sr [oo 35 (.ld true 2) [.t 2],ma 36 1,ca 37 zeg [.t 35,.t 36],oo 38 (.slc 1 true false false) [.t 37,ki 2],ca 39 zbL [.t 38,(.f zdU)],oo 40 (.un .not) [.t 39],ma 4 40]
 .ret))))⟩
def zmp : AFun:=⟨43,[(4,none)],
 (sr [oo 2 (.box 2) [.t 0],oo 4 .mv [kn]]
 (sr [fa 8 0 2,la 9 8,oo 10 (.mks 1 8 [v0]) [.t 9,.t 9],ma 5 10]
 (.seq (.seq
 (rg [fa 11 1 2,la 12 11,oo 13 .len [.t 12],oo 14 .mv [ki 0]])
 (.block 0 (.loop
 (sr [oo 15 (.bin .lss) [.t 14,.t 13]]
 (.seq (.cond (.t 15)
 .skip
 (.exit 0))
 (.seq (.block 1 (sr [ma 16 14,oo 17 (.iad 3) [.t 12,.t 14],oo 18 (.ld true 3) [.t 17],oo 7 (.alloc [v0,v0,v0]) [],ma 6 16,ou (.st 3) [.t 7,.t 18]]
 (.seq (.reg true [ma 19 5,fa 20 0 7,la 21 20,oo 22 (.iad 1) [.t 19,.t 21],la 23 22,ma 24 1,ma 25 6,oo 26 (.iad 1) [.t 24,.t 25],la 27 26,oo 28 (.bin .add) [.t 23,.t 27],oo 29 (.iad 1) [.t 19,.t 21],ou (.st 1) [.t 29,.t 28]] [[],[],[1],[0,2],[3],[],[],[5,6],[7],[4,8],[0,2,0,1,2,3,4,5,6,7,8,9],[10,9,0,1,2,3,4,5,6,7,8,9]])
 (.reg true [ma 30 5,fa 31 1 7,la 32 31,oo 33 (.iad 1) [.t 30,.t 32],la 34 33,ma 35 1,ma 36 6,oo 37 (.iad 1) [.t 35,.t 36],la 38 37,oo 39 (.bin .sub) [.t 34,.t 38],oo 40 (.iad 1) [.t 30,.t 32],ou (.st 1) [.t 40,.t 39]] [[],[],[1],[0,2],[3],[],[],[5,6],[7],[4,8],[0,2,0,1,2,3,4,5,6,7,8,9],[10,9,0,1,2,3,4,5,6,7,8,9]]))))
 (rg [oo 41 (.bin .add) [.t 14,ki 1],ma 14 41])))))))
 (sr [ma 42 5,ma 4 42]
 .ret))))⟩
def zg4 : AFun:=⟨35,[(4,none),(5,none)],
 (sr [oo 2 (.box 4) [.t 0],oo 3 (.box 2) [.t 1],oo 4 .mv [ki 0],oo 5 .mv [ki 0]]
 (sr [fa 7 0 2,fa 8 1 7,la 9 8,fa 10 0 3,la 11 10,oo 12 (.iad 3) [.t 9,.t 11],oo 13 (.ld true 3) [.t 12],oo 6 (.alloc [v0,v0,v0]) [],ou (.st 3) [.t 6,.t 13]]
 (.seq (.seq
 (rg [fa 14 1 3,la 15 14])
 (.cond (.t 15)
 (.seq (.reg true [fa 16 2 2,la 17 16,fa 18 0 3,la 19 18,oo 20 (.iad 1) [.t 17,.t 19],la 21 20,fa 22 0 6,la 23 22,ma 4 21,ma 5 23] [[],[0],[],[2],[1,3],[4],[],[6],[5,0,1,2,3,4,5],[7,8,0,1,2,3,4,5,6,7,8]])
 .ret)
 .skip))
 (.seq (.reg true [fa 24 2 6,la 25 24,fa 26 2 2,la 27 26,fa 28 0 3,la 29 28,oo 30 (.iad 1) [.t 27,.t 29],la 31 30,oo 32 (.bin .sub) [.t 25,.t 31],fa 33 1 6,la 34 33,ma 4 32,ma 5 34] [[],[0],[],[2],[],[4],[3,5],[6],[1,7],[],[9],[8,0,1,2,3,4,5,6,7,8],[10,11,0,1,2,3,4,5,6,7,8,9,10,11]])
 .ret))))⟩
def zhb : AFun:=⟨5,[(2,none)],
 (sr [oo 2 .mv [kn]]
 (sr [ma 3 0,ca 4 zcJ [kn,.t 3],ma 2 4]
 .ret))⟩
def zlq : AFun:=⟨43,[(3,none)],
 (sr [oo 2 (.box 3) [.t 0],oo 3 .mv [.c (.bool false)]]
 (sr [fa 4 0 2,la 5 4,fa 6 0 1,la 7 6,oo 8 (.bin .sub) [.t 7,ki 1],ca 9 zaY [.t 5,ki 0,.t 8],oo 10 (.un .not) [.t 9],ma 11 10,fh 12 1 2 11,lh 13 12 11,fh 14 0 1 11,lh 15 14 11,oh 16 (.bin .sub) [.t 15,ki 1] 11,oh 17 .call [.f zaY,.t 13,ki 0,.t 16] 11,oh 18 (.un .not) [.t 17] 11,oo 19 .pick [.t 11,.c (.bool true),.t 18],ma 20 19,fh 21 0 2 20,lh 22 21 20,fh 23 1 2 20,lh 24 23 20,oh 25 (.bin .eql) [.t 22,.t 24] 20,oo 26 .pick [.t 20,.c (.bool true),.t 25],ma 27 26,fh 28 1 2 27,lh 29 28 27,oh 30 (.bin .eql) [.t 29,ki 0] 27,oo 31 .pick [.t 27,.c (.bool true),.t 30],ma 32 31,fh 33 0 2 32,lh 34 33 32,oh 35 (.bin .eql) [.t 34,ki 1] 32,oo 36 .pick [.t 32,.c (.bool true),.t 35],ma 37 36,fh 38 2 2 37,lh 39 38 37,oh 40 .call [.f zaY,.t 39,ki 0,ki 1048576] 37,oh 41 (.un .not) [.t 40] 37,oo 42 .pick [.t 37,.c (.bool true),.t 41],ma 3 42]
 .ret))⟩
def zcO : AFun:=⟨9,[(4,none)],
 (sr [oo 4 .mv [.c (.bool false)]]
 (sr [ma 5 0,ma 6 1,ca 7 zbk [.t 5,.t 6],oo 8 (.bin .geq) [.t 7,ki 0],ma 4 8]
 .ret))⟩
def zht : AFun:=⟨86,[(2,none)],
 (sr [oo 1 (.box 4) [.t 0],oo 2 .mv [.c (.bool false)]]
 (sr [oo 14 (.ld true 4) [.t 1],ca 15 zbZ [.t 14],ma 3 15]
 (.seq (.seq
 (rg [ma 17 3,oo 18 (.mlk (.agg #[v0,(.bool false)]) true) [.t 17,ki 1],ma 16 18,oo 19 (.ext 0) [.t 16],oo 20 (.ext 1) [.t 16],oo 4 (.alloc [v0,(.bool false)]) [],ou (.st 2) [.t 4,.t 19],ma 5 20])
 (sr [ma 21 5,oo 22 (.un .not) [.t 21]]
 (.cond (.t 22)
 (sr [oo 2 .mv [.c (.bool false)]]
 .ret)
 .skip)))
 (sr [oo 6 .mv [kn]]
 (sr [oo 7 .mv [ki 1048576]]
 (.seq (.seq
 (rg [oo 8 .mv [ki 1]])
 (.block 0 (.loop
 (.seq (.seq
 (rg [ma 23 8,oo 24 (.bin .neq) [.t 23,ki 0]])
 (.cond (.t 24)
 .skip
 (.exit 0)))
 (.block 1 (sr [ma 25 3,ma 26 8,oo 27 (.mlk (.agg #[v0,(.bool false)]) false) [.t 25,.t 26],oo 9 (.alloc [v0,(.bool false)]) [],ou (.st 2) [.t 9,.t 27]]
 (sr [oo 29 (.ld true 4) [.t 1],oo 30 (.ld true 2) [.t 9],ca 31 zck [.t 29,.t 30],ma 28 31,oo 32 (.ext 0) [.t 28],oo 33 (.ext 1) [.t 28],ma 10 32,ma 11 33]
 (sr [ma 34 6,oo 35 (.ld true 2) [.t 9],oo 36 (.bsl 2 1 [v0,(.bool false)] [0]) [.t 35],oo 37 (.app 2 16) [.t 34,.t 36],ma 38 7,ma 39 10,oo 40 .mn2 [.t 38,.t 39],ma 6 37,ma 7 40]
 (sr [fa 41 0 1,fa 42 1 41,la 43 42,fa 44 0 9,la 45 44,oo 46 (.iad 3) [.t 43,.t 45],fa 47 0 46,la 48 47,ma 8 48]
 (sr [fa 49 1 9,la 50 49]
 (.cond (.t 50)
 (rg [fa 51 0 1,fa 52 1 51,la 53 52,fa 54 0 9,la 55 54,oo 56 (.iad 3) [.t 53,.t 55],fa 57 1 56,la 58 57,ma 8 58])
 .skip)))))))))))
 (.seq (.seq
 (rg [ma 59 6,oo 60 .len [.t 59],oo 61 .mv [ki 0]])
 (.block 2 (.loop
 (sr [oo 62 (.bin .lss) [.t 61,.t 60]]
 (.seq (.cond (.t 62)
 .skip
 (.exit 2))
 (.seq (.block 3 (sr [oo 63 (.iad 2) [.t 59,.t 61],oo 64 (.ld true 2) [.t 63],oo 13 (.alloc [v0,(.bool false)]) [],ou (.st 2) [.t 13,.t 64]]
 (sr [fa 65 1 13,la 66 65]
 (.cond (.t 66)
 (rg [fa 67 2 1,la 68 67,fa 69 0 13,la 70 69,oo 71 (.iad 1) [.t 68,.t 70],la 72 71,ma 73 7,oo 74 (.bin .sub) [.t 72,.t 73],oo 75 (.iad 1) [.t 68,.t 70],ou (.st 1) [.t 75,.t 74]])
 (rg [fa 76 2 1,la 77 76,fa 78 0 13,la 79 78,oo 80 (.iad 1) [.t 77,.t 79],la 81 80,ma 82 7,oo 83 (.bin .add) [.t 81,.t 82],oo 84 (.iad 1) [.t 77,.t 79],ou (.st 1) [.t 84,.t 83]])))))
 (rg [oo 85 (.bin .add) [.t 61,ki 1],ma 61 85])))))))
 (sr [oo 2 .mv [.c (.bool true)]]
 .ret))))))))⟩
def zlr : AFun:=⟨5,[(2,none)],
 (sr [oo 2 .mv [.c (.bool false)]]
 (sr [ma 3 0,oo 4 (.bin .neq) [.t 3,ki 0],ma 2 4]
 .ret))⟩
def zdg : AFun:=⟨19,[(4,none)],
 (sr [oo 4 .mv [ki 0]]
 (.seq (.seq
 (rg [ma 6 0,oo 7 .len [.t 6],oo 8 .mv [ki 0]])
 (.block 0 (.loop
 (sr [oo 9 (.bin .lss) [.t 8,.t 7]]
 (.seq (.cond (.t 9)
 .skip
 (.exit 0))
 (.seq (.block 1 (sr [ma 10 8,ma 5 10]
 (sr [ma 11 1,ma 12 0,ma 13 5,oo 14 (.iad 3) [.t 12,.t 13],oo 15 (.ld true 3) [.t 14],oo 16 .call [.t 11,.t 15]]
 (.cond (.t 16)
 (sr [ma 17 5,ma 4 17]
 .ret)
 .skip))))
 (rg [oo 18 (.bin .add) [.t 8,ki 1],ma 8 18])))))))
 (sr [oo 4 .mv [ki (-1)]]
 .ret)))⟩
theorem zf6 : Src Tryz.prog zdA zdB:=mkS Tryz.f5
theorem zn6 : Src Tryz.prog zdZ zjm:=mkS Tryz.f9
theorem zgg : Src Tryz.prog zdr zeD:=mkS Tryz.f13
theorem zgw : Src Tryz.prog zab zep:=mkS Tryz.f14
theorem zgY : Src Tryz.prog zar zfd:=mkS Tryz.f18
theorem zqU : Src Tryz.prog zaP zlV:=mkS Tryz.f20
theorem zkF : Src Tryz.prog zeE zgb:=mkS Tryz.f22
theorem zrb : Src Tryz.prog ziG zlS:=mkS Tryz.f37
theorem znV : Src Tryz.prog zaR zk6:=mkS Tryz.f45
theorem zpC : Src Tryz.prog zaq zpt:=mkS Tryz.f46
theorem zig : Src Tryz.prog zea zfV:=mkS Tryz.f52
theorem zrq : Src Tryz.prog zi6 zlO:=mkS Tryz.f54
theorem zpJ : Src Tryz.prog zfA zkl:=mkS Tryz.f69
theorem zob : Src Tryz.prog zeY zjx:=mkS Tryz.f70
theorem zeq : Src Tryz.prog zbP zer:=mkS Tryz.f87
theorem zm2 : Src Tryz.prog zfU zmF:=mkS Tryz.f88
theorem zoA : Src Tryz.prog zgp znZ:=mkS Tryz.f89
theorem zkh : Src Tryz.prog zdi zkN:=mkS Tryz.f90
theorem zmJ : Src Tryz.prog zdo znn:=mkS Tryz.f91
theorem znt : Src Tryz.prog zfv zmL:=mkS Tryz.f92
theorem zh2 : Src Tryz.prog zej zfP:=mkS Tryz.f97
theorem zpM : Src Tryz.prog zhm zk2:=mkS Tryz.f98
theorem znu : Src Tryz.prog zgd zjr:=mkS Tryz.f99
theorem zpn : Src Tryz.prog zhu zla:=mkS Tryz.f100
theorem zmX : Src Tryz.prog zfO znb:=mkS Tryz.f116
theorem zlh : Src Tryz.prog zfc zlg:=mkS Tryz.f143
theorem zmw : Src Tryz.prog zds znf:=mkS Tryz.f144
theorem zsL : Src Tryz.prog zkv zsq:=mkS Tryz.f145
theorem zpr : Src Tryz.prog zhj zpu:=mkS Tryz.f146
theorem zrm : Src Tryz.prog zgG zrk:=mkS Tryz.f147
theorem zgr : Src Tryz.prog zbZ zgl:=mkS Tryz.f148
theorem zjB : Src Tryz.prog zaQ zjH:=mkS Tryz.f150
theorem zks : Src Tryz.prog zeA zhx:=mkS Tryz.f151
theorem zlC : Src Tryz.prog zgH ziz:=mkS Tryz.f152
theorem zpo : Src Tryz.prog zhh zkM:=mkS Tryz.f153
theorem znU : Src Tryz.prog zgy zov:=mkS Tryz.f171
theorem zoj : Src Tryz.prog zcf zon:=mkS Tryz.f205
theorem zi3 : Src Tryz.prog zaO ziQ:=mkS Tryz.f206
theorem zph : Src Tryz.prog zfJ zo7:=mkS Tryz.f207
theorem zh9 : Src Tryz.prog zcv zhM:=mkS Tryz.f208
theorem zfT : Src Tryz.prog zcj zfx:=mkS Tryz.f209
theorem zoI : Src Tryz.prog zfz zpA:=mkS Tryz.f210
theorem zra : Src Tryz.prog ziU zq2:=mkS Tryz.f211
theorem zpc : Src Tryz.prog zg6 zoY:=mkS Tryz.f212
theorem zm0 : Src Tryz.prog zeg zmp:=mkS Tryz.f213
theorem zhv : Src Tryz.prog zck zg4:=mkS Tryz.f214
theorem zg9 : Src Tryz.prog zc6 zhb:=mkS Tryz.f271
theorem zli : Src Tryz.prog zdN zlq:=mkS Tryz.f273
theorem zcN : Src Tryz.prog zbd zcO:=mkS Tryz.f274
theorem zhs : Src Tryz.prog zc3 zht:=mkS Tryz.f275
theorem zlw : Src Tryz.prog zdU zlr:=mkS Tryz.f276
theorem zdf : Src Tryz.prog zbk zdg:=mkS Tryz.f300
theorem zat.k1 {rs : List (Nat × Option (Bool × Nat))} {st : St} {vs : List AV} {res : AV} {e : Ent} (h1 : ze0 st rs = some vs) (hw : Wk (conv [(0,0)] [] st.hp 4 (resV vs)) res) (he : (st.hp 0).map (zaw [(0,0)] [] st.hp 4) = some e) : zat rs 1 st res [some e] :=
 ⟨vs,h1,[],[],by decide,by simp,by simp,hw,by simpa using he⟩
theorem GrOk.lt {g : Gr} (h : GrOk g) : ∀ (j i : Nat) (hi : i < g.edges.length) (hj : j < g.edges.length),i < j → Bef g.edges[i] g.edges[j]
 | 0,_,_,_,h0=>by omega
 | j + 1,i,hi,hj,hij=>by
   have h1 : Bef g.edges[j] g.edges[j + 1]:=zoR.1 ((h.2 (j + 1) hj).2.2.2 (by omega))
   rcases Nat.lt_or_ge i j with h2 | h2
   ·have h3:=GrOk.lt h j i hi (by omega) h2
    unfold Bef at *
    omega
   ·obtain rfl : i = j:=by omega
    exact h1
theorem GrOk.mono {g : Gr} (h : GrOk g) (e : Ed) : ∀ (i j : Nat) (hi : i < g.edges.length) (hj : j < g.edges.length),i ≤ j → Bef g.edges[j] e → Bef g.edges[i] e:=by
 intro i j hi hj hij hb
 rcases Nat.lt_or_ge i j with h2 | h2
 ·have h3:=h.lt j i hi hj h2
  unfold Bef at *
  omega
 ·obtain rfl : i = j:=by omega
  exact hb
section
variable {P : Program} {np id : Nat} {h : Nat → Option Ent} {K : AV → List Nat → List (Nat × Option Ent) → Prop} {f : FuncId} {first capt args args' : List AV} {res : AV}
theorem zwq {i j : Nat} {e e' ej : Ent} {hs' : List (Option Ent)} (hij : j ≠ i) (hnp : np ≤ j) (hi : h i = some e) (hj : h j = some ej) (hee : zaw [(i,0)] [j] h 4 e = e') (hc : zao P f args' [e'] res hs') (h8 : hs'.length ≤ 9) (he : (first ++ args ++ capt).map (conv [(i,0)] [j] h 4) = args')
  (hk : K (conv (swp [i] id) [] (fun _=>none) 4 res) [i,j] ((hs'.zipIdx.map fun (e,k)=>((i :: (List.range 8).map (id + ·)).getD k 0,e.map (zaw (swp [i] id) [] (fun _=>none) 4))) ++ [(j,some { ej with ro:=ej.rows.length })])) : aK P np id .call (.fn (.func f) first capt :: args) h K :=
 ⟨[i],[j],true,args',[e'],res,hs',by simp,by simpa using hij,by simpa using hnp,by rw [show [i].zipIdx = [(i,0)] from rfl,he]; exact zcY _,by rw [show [i].zipIdx = [(i,0)] from rfl]; simpa [hi] using hee,hc,by simpa using h8,.inl rfl,by simpa [swp,hj] using hk⟩
end
theorem zba.eq {nl : List (Nat × Nat)} {e e' : Ent} (h : e = e') (hr : e'.ro ≤ e'.rows.length) : zba nl e e':=by
 subst h
 exact zba.rfl' hr
theorem zba.row {nl : List (Nat × Nat)} {s ro : Nat} {e : Ent} {r r' : List AV} (h : e = ⟨s,[r],ro⟩) (hr : ro ≤ 1) (hu : UpL nl r r') (hs : s ≠ 0:=by decide) : zba nl e ⟨s,[r'],ro⟩:=by
 subst h
 refine ⟨rfl,Nat.le_refl _,hr,.inr ⟨hs,rfl,fun i=>?_⟩⟩
 match i with
 | 0=>exact hu
 | _ + 1=>exact trivial
theorem Le.ents {np : Nat} {st st' : St} (ρ : List (Nat × Nat)) (sn : List Nat) (hsz : st'.sz = st.sz)
  (h0 : (ρ.map (·.1)).Nodup) (h1 : (ρ.map (·.2)).Nodup) (h2 : ∀ p ∈ ρ,p.2 < st'.n ∧ (p.2 < np → p.1 = p.2)) (h4 : ∀ i ∈ sn,np ≤ i ∧ i ∉ ρ.map (·.1)) (h5 : np ≤ st'.n)
  (ht : ∀ p ∈ st'.t,Wk (conv ρ sn st.hp 4 (st.get p.1)) p.2)
  (hh : ∀ p ∈ st'.h,∃ q e e',p.2 = some e' ∧ (q,p.1) ∈ ρ ∧ st.hp q = some e ∧ zba [] (zaw ρ sn st.hp 4 e) e') : Le np st st' :=
 Le.lst ρ sn [] hsz h0 h1 h2 (by simp) h4 h5 (by simp) (fun p hp=>.inl (ht p hp)) fun p hp e' he'=>by
  obtain ⟨q,e,e2,h1,h2,h3,h4⟩:=hh p hp
  rw [he'] at h1
  cases h1
  exact .inl ⟨(q,p.1),h2,rfl,e,h3,h4⟩
abbrev zG : Ent:=⟨3,[[.I 0,.nilS,.nilS]],0⟩
def famH (s N : Nat) (E : Nat → List (List AV)) : List (Nat × Option Ent):=(List.range N).map fun k=>(k + 1000,some ⟨s,E k,0⟩)
def famV (E : Nat → List (List AV)) (k : Nat) : AV:=.rs (k + 1000) 0 (E k).length
def famO (N : Nat) (E : Nat → List (List AV)) : List (List AV):=(List.range N).map fun k=>[famV E k]
theorem zhX (N : Nat) (E : Nat → List (List AV)) : (famO N E).length = N:=by simp [famO]
theorem zhK {N k : Nat} {E : Nat → List (List AV)} (h : k < N) : (famO N E)[k]? = some [famV E k]:=by simp [famO,h]
@[simp] theorem zzu {N k : Nat} {E : Nat → List (List AV)} (h : k < (famO N E).length) : (famO N E)[k] = [famV E k]:=by simp [famO]
theorem zen {α β : Type} {f : α → β} (hf : ∀ i j,f i = f j → i = j) : ∀ {l : List α},l.Nodup → (l.map f).Nodup
 | [],_=>List.nodup_nil
 | x :: l,h=>by
   rw [List.nodup_cons] at h
   rw [List.map_cons,List.nodup_cons]
   refine ⟨fun hx=>?_,zen hf h.2⟩
   obtain ⟨y,hy,e⟩:=List.mem_map.1 hx
   exact h.1 (hf _ _ e ▸ hy)
theorem zmu {α : Type} (f : Nat → Nat) (hf : ∀ i j,f i = f j → i = j) (g : Nat → α) (l : List Nat) (k : Nat) : lkp (l.map fun k=>(f k,g k)) (f k) = if k ∈ l then some (g k) else none:=by
 induction l with
 | nil=>simp [lkp]
 | cons i l ih =>
   simp only [List.map_cons,lkp]
   by_cases h : i = k
   ·subst h; simp
   ·have h1 : f i ≠ f k:=fun e=>h (hf _ _ e)
    have h2 : ¬ k = i:=fun e=>h e.symm
    simp [h1,ih,h2]
theorem znY {α : Type} (f : Nat → Nat) (g : Nat → α) (l : List Nat) (j : Nat) (h : ∀ k ∈ l,f k ≠ j) : lkp (l.map fun k=>(f k,g k)) j = none:=by
 induction l with
 | nil=>simp [lkp]
 | cons i l ih =>
   simp only [List.map_cons,lkp]
   rw [if_neg (h i (by simp)),ih fun k hk=>h k (by simp [hk])]
theorem zwd {s N : Nat} {E : Nat → List (List AV)} {r : List (Nat × Option Ent)} {k : Nat} (h : k < N) : lkp (famH s N E ++ r) (k + 1000) = some (some ⟨s,E k,0⟩):=by
 rw [zfl,famH,zmu (fun k=>k + 1000) (fun i j h=>by simpa using h)]
 simp [h]
theorem zp7 {s N : Nat} {E : Nat → List (List AV)} {r : List (Nat × Option Ent)} {j : Nat} (h : j < 1000 ∨ 1000 + N ≤ j) : lkp (famH s N E ++ r) j = lkp r j:=by
 rw [zfl,famH,znY (fun k=>k + 1000) _ _ _ (fun k hk e=>by have:=List.mem_range.1 hk; omega)]
 simp
section
variable {sz n s N : Nat} {t : List (Nat × AV)} {E : Nat → List (List AV)} {r : List (Nat × Option Ent)}
theorem zxA {k : Nat} (h : k < N) : (⟨sz,t,famH s N E ++ r,n⟩ : St).hp (k + 1000) = some ⟨s,E k,0⟩:=by
 show (lkp _ _).getD none = _
 rw [zwd h]
 rfl
theorem zki {j : Nat} (h : j < 1000) : (⟨sz,t,famH s N E ++ r,n⟩ : St).hp j = (⟨sz,t,r,n⟩ : St).hp j:=by
 show (lkp _ _).getD none = (lkp _ _).getD none
 rw [zp7 (.inl h)]
theorem zwo {j : Nat} (h : 1000 + N ≤ j) : (⟨sz,t,famH s N E ++ r,n⟩ : St).hp j = (⟨sz,t,r,n⟩ : St).hp j:=by
 show (lkp _ _).getD none = (lkp _ _).getD none
 rw [zp7 (.inr h)]
end
def famR (m a N : Nat) (L : List Nat) : List (Nat × Nat):=(m,a + 1000) :: (L ++ ((List.range N).filter (· ≠ a)).map (· + 1000)).map fun j=>(j,j)
theorem ztV {m a N : Nat} {L : List Nat} (hL : L.Nodup) (h1 : ∀ j ∈ L,j < 1000) (hm : m ∉ L) (hm1 : m < 1000 ∨ 1000 + N ≤ m) : ((famR m a N L).map (·.1)).Nodup:=by
 simp only [famR,List.map_cons,List.map_map,fcd,List.map_id',List.nodup_cons,List.mem_append,List.mem_map,List.mem_filter,List.mem_range]
 refine ⟨?_,?_⟩
 ·rintro (h | ⟨k,⟨h,_⟩,e⟩)
  ·exact hm h
  ·omega
 ·refine List.nodup_append.2 ⟨hL,?_,?_⟩
  ·exact zen (fun i j h=>by simpa using h) (List.nodup_range.filter _)
  ·intro x hx y hy e
   simp only [List.mem_map] at hy
   obtain ⟨k,_,e2⟩:=hy
   have:=h1 x hx
   omega
theorem zur {m a N : Nat} {L : List Nat} (hL : L.Nodup) (h1 : ∀ j ∈ L,j < 1000) : ((famR m a N L).map (·.2)).Nodup:=by
 simp only [famR,List.map_cons,List.map_map,fcd,List.map_id',List.nodup_cons,List.mem_append,List.mem_map,List.mem_filter,List.mem_range]
 refine ⟨?_,?_⟩
 ·rintro (h | ⟨k,⟨_,h⟩,e⟩)
  ·have:=h1 _ h; omega
  ·simp at h; omega
 ·refine List.nodup_append.2 ⟨hL,?_,?_⟩
  ·exact zen (fun i j h=>by simpa using h) (List.nodup_range.filter _)
  ·intro x hx y hy e
   simp only [List.mem_map] at hy
   obtain ⟨k,_,e2⟩:=hy
   have:=h1 x hx
   omega
theorem zn7 {m a N : Nat} {L : List Nat} : lkp (famR m a N L) m = some (a + 1000):=by simp [famR,lkp]
theorem zfE {m a N j : Nat} {L : List Nat} (hm : m ≠ j) (h : j ∈ L ∨ ∃ k < N,k ≠ a ∧ j = k + 1000) : lkp (famR m a N L) j = some j:=by
 rw [famR,lkp,if_neg hm,zmu (fun j=>j) (fun i j h=>h) (fun j=>j),if_pos]
 rcases h with h | ⟨k,h1,h2,rfl⟩
 ·simp [h]
 ·simp [h1,h2]
def grow {α : Type} (E : Nat → List α) (a : Nat) (r : α) : Nat → List α:=fun k=>if k = a then E a ++ [r] else E k
theorem zgv (f : AV → AV) (hf : ∀ v,f (.sc v) = .sc v) (rows : List (List AV)) (hr : ∀ r ∈ rows,∀ x ∈ r,∃ v,x = .sc v) : rows.map (·.map f) = rows:=by
 conv=>rhs; rw [← List.map_id rows]
 refine List.map_congr_left fun r hr'=>?_
 conv=>rhs; rw [id,← List.map_id r]
 refine List.map_congr_left fun x hx=>?_
 obtain ⟨v,rfl⟩:=hr r hr' x hx
 exact hf v
theorem zsB {m a N : Nat} {L : List Nat} {E : Nat → List (List AV)} {row : List AV} {h : Nat → Option Ent} {len : Nat} (ha : a < N) (hm : m < 1000 ∨ 1000 + N ≤ m) (hlen : len = (E a).length + 1) :
  ((famO N E).set a [.rs m 0 len]).map (·.map (conv (famR m a N L) [] h 4)) = famO N (grow E a row):=by
 apply List.ext_getElem?
 intro j
 rw [List.getElem?_map,List.getElem?_set,zhX]
 by_cases hj : a = j
 ·subst hj
  rw [if_pos rfl,if_pos ha,zhK ha]
  simp [zn7,famV,grow,hlen]
 ·rw [if_neg hj]
  by_cases hjN : j < N
  ·rw [zhK hjN,zhK hjN]
   have h1 : lkp (famR m a N L) (j + 1000) = some (j + 1000):=zfE (by omega) (.inr ⟨j,hjN,fun e=>hj e.symm,rfl⟩)
   have h2 : j ≠ a:=fun e=>hj e.symm
   simp [famV,h1,grow,h2]
  ·simp [famO,hjN]
theorem Le.fam {np s N a m : Nat} {E : Nat → List (List AV)} {row : List AV} (L : List Nat) {st st' : St} (hsz : st'.sz = st.sz)
  (ha : a < N) (hL : L.Nodup) (h1 : ∀ j ∈ L,j < 1000) (hm1 : 1000 + N ≤ m) (hn : 1000 + N ≤ st'.n) (hnp : np ≤ 1000)
  (hE : ∀ k < N,∀ r ∈ E k,∀ x ∈ r,∃ v,x = .sc v) (hrow : ∀ x ∈ row,∃ v,x = .sc v)
  (hst : ∀ k < N,k ≠ a → st.hp (k + 1000) = some ⟨s,E k,0⟩) (hsm : st.hp m = some ⟨s,E a ++ [row],0⟩)
  (hst' : ∀ k < N,st'.hp (k + 1000) = some ⟨s,grow E a row k,0⟩)
  (hout : ∀ j,j ∉ L → (j < 1000 ∨ 1000 + N ≤ j) → st'.hp j = none)
  (ht : ∀ p ∈ st'.t,Wk (conv (famR m a N L) [] st.hp 4 (st.get p.1)) p.2)
  (hb : ∀ j ∈ L,∀ e',st'.hp j = some e' → ∃ e,st.hp j = some e ∧ zba [] (zaw (famR m a N L) [] st.hp 4 e) e') : Le np st st':=by
 have hm : m ∉ L:=fun h=>by have:=h1 m h; omega
 refine Le.mk (famR m a N L) [] [] hsz (ztV hL h1 hm (.inr hm1)) (zur hL h1) ?_ (by simp) (by simp) (by omega) (by simp) (fun i=>?_) ?_
 ·intro p hp
  simp only [famR,List.mem_cons,List.mem_map,List.mem_append,List.mem_filter,List.mem_range] at hp
  rcases hp with rfl | ⟨j,h | ⟨k,⟨h2,_⟩,rfl⟩,rfl⟩
  ·exact ⟨by simp only; omega,fun h=>by simp only at h; omega⟩
  ·have:=h1 j h
   exact ⟨by simp only; omega,fun _=>rfl⟩
  ·exact ⟨by simp only; omega,fun _=>rfl⟩
 ·unfold St.get at *
  cases hl : lkp st'.t i with
  | none=>exact .inl (.dead _)
  | some v=>exact .inl (ht _ (zbK hl))
 ·intro j e' he
  left
  by_cases hj : j ∈ L
  ·obtain ⟨e,h2,h3⟩:=hb j hj e' he
   refine ⟨j,e,?_,h2,h3⟩
   simp only [famR,List.mem_cons,List.mem_map,List.mem_append]
   exact .inr ⟨j,.inl hj,rfl⟩
  ·by_cases hr : j < 1000 ∨ 1000 + N ≤ j
   ·rw [hout j hj hr] at he; cases he
   ·obtain ⟨k,rfl⟩ : ∃ k,j = k + 1000:=⟨j - 1000,by omega⟩
    have hk : k < N:=by omega
    rw [hst' k hk] at he
    cases he
    by_cases hka : k = a
    ·subst hka
     rw [show grow E k row k = E k ++ [row] from if_pos rfl]
     refine ⟨m,_,by simp [famR],hsm,?_⟩
     have : zaw (famR m k N L) [] st.hp 4 ⟨s,E k ++ [row],0⟩ = ⟨s,E k ++ [row],0⟩:=by
      simp only [zaw]
      rw [zgv _ fun v=>by simp [conv]]
      intro r hr x hx
      rcases List.mem_append.1 hr with h | h
      ·exact hE k hk r h x hx
      ·rw [List.mem_singleton.1 h] at hx; exact hrow x hx
     rw [this]
     exact zba.rfl' (Nat.zero_le _)
    ·simp only [grow,if_neg hka]
     refine ⟨k + 1000,_,?_,hst k hk hka,?_⟩
     ·simp only [famR,List.mem_cons,List.mem_map,List.mem_append,List.mem_filter,List.mem_range]
      exact .inr ⟨k + 1000,.inr ⟨k,⟨hk,by simpa using hka⟩,rfl⟩,rfl⟩
     ·have : zaw (famR m a N L) [] st.hp 4 ⟨s,E k,0⟩ = ⟨s,E k,0⟩:=by
       simp only [zaw]
       rw [zgv _ (fun v=>by simp [conv]) _ (hE k hk)]
      rw [this]
      exact zba.rfl' (Nat.zero_le _)
theorem Le.fam0 {np s N o : Nat} (L : List Nat) {st st' : St} (hsz : st'.sz = st.sz) (hs : s ≠ 0) (hL : (o :: L).Nodup) (h1 : ∀ j ∈ o :: L,j < 1000 ∧ np ≤ 1000) (hn : 1000 + N ≤ st'.n)
  (ho : st.hp o = some ⟨1,(List.range N).map fun _=>[.nilS],0⟩) (ho' : st'.hp o = some ⟨1,famO N fun _=>[],0⟩)
  (hst' : ∀ k < N,st'.hp (k + 1000) = some ⟨s,[],0⟩)
  (hout : ∀ j,j ∉ o :: L → (j < 1000 ∨ 1000 + N ≤ j) → st'.hp j = none)
  (ht : ∀ p ∈ st'.t,Wk (conv ((o :: L).map fun j=>(j,j)) [] st.hp 4 (st.get p.1)) p.2)
  (hb : ∀ j ∈ L,∀ e',st'.hp j = some e' → ∃ e,st.hp j = some e ∧ zba [] (zaw ((o :: L).map fun j=>(j,j)) [] st.hp 4 e) e') : Le np st st':=by
 have hnl : ∀ p,p ∈ (List.range N).map (fun k=>(k + 1000,s)) ↔ ∃ k < N,p = (k + 1000,s):=fun p=>by
  rw [List.mem_map]
  exact ⟨fun ⟨k,h,e⟩=>⟨k,List.mem_range.1 h,e.symm⟩,fun ⟨k,h,e⟩=>⟨k,List.mem_range.2 h,e.symm⟩⟩
 have hid : ((o :: L).map fun j=>(j,j)).map (·.1) = o :: L:=by simp [fcd]
 have hid2 : ((o :: L).map fun j=>(j,j)).map (·.2) = o :: L:=by simp [fcd]
 refine Le.mk ((o :: L).map fun j=>(j,j)) [] ((List.range N).map fun k=>(k + 1000,s)) hsz (by rw [hid]; exact hL) (by rw [hid2]; exact hL) ?_ ?_ (by simp) (by have:=h1 o (by simp); omega) ?_ (fun i=>?_) ?_
 ·intro p hp
  obtain ⟨j,hj,rfl⟩:=List.mem_map.1 hp
  have:=h1 j hj
  exact ⟨by simp only; omega,fun _=>rfl⟩
 ·intro p hp
  obtain ⟨k,hk,rfl⟩:=(hnl p).1 hp
  have:=h1 o (by simp)
  refine ⟨by simp only; omega,by simp only; omega,?_,hs⟩
  rw [hid2]
  intro h
  have:=h1 _ h
  omega
 ·rw [List.map_map]
  exact zen (fun i j h=>by simpa using h) List.nodup_range
 ·unfold St.get at *
  cases hl : lkp st'.t i with
  | none=>exact .inl (.dead _)
  | some v=>exact .inl (ht _ (zbK hl))
 ·intro j e' he
  by_cases hjo : j = o
  ·subst hjo
   left
   rw [ho'] at he
   cases he
   refine ⟨j,_,by simp,ho,rfl,Nat.le_refl _,Nat.zero_le _,.inr ⟨by simp [zaw],by simp [zaw,famO],fun i=>?_⟩⟩
   by_cases hi : i < N
   ·simp only [zaw,List.map_map,fcd,List.map_cons,List.map_nil,List.getD_eq_getElem?_getD,List.getElem?_map,List.getElem?_range hi,Option.map_some,Option.getD_some,famO,famV,List.length_nil]
    exact ⟨.inr ⟨by simp [conv],i + 1000,s,rfl,(hnl _).2 ⟨i,hi,rfl⟩⟩,trivial⟩
   ·simp [zaw,famO,List.getD_eq_getElem?_getD,hi,UpL]
  ·by_cases hj : j ∈ L
   ·left
    obtain ⟨e,h2,h3⟩:=hb j hj e' he
    refine ⟨j,e,by simp [hj],h2,h3.1,h3.2.1,h3.2.2.1,?_⟩
    rcases h3.2.2.2 with h | ⟨q1,q2,q3⟩
    ·exact .inl h
    ·refine .inr ⟨q1,q2,fun i=>?_⟩
     have key : ∀ {xs ys : List AV},UpL [] xs ys → UpL ((List.range N).map fun k=>(k + 1000,s)) xs ys:=by
      intro xs
      induction xs with
      | nil=>intro ys h; cases ys <;> exact h
      | cons x xs ih =>
        intro ys h
        cases ys with
        | nil=>exact h
        | cons y ys =>
          refine ⟨?_,ih h.2⟩
          rcases h.1 with h | ⟨_,_,_,_,h⟩
          ·exact .inl h
          ·simp at h
     exact key (q3 i)
   ·by_cases hr : j < 1000 ∨ 1000 + N ≤ j
    ·rw [hout j (by simp [hjo,hj]) hr] at he; cases he
    ·obtain ⟨k,rfl⟩ : ∃ k,j = k + 1000:=⟨j - 1000,by omega⟩
     have hk : k < N:=by omega
     rw [hst' k hk] at he
     cases he
     exact .inr ⟨(hnl _).2 ⟨k,hk,rfl⟩,rfl,rfl⟩
def famI (N : Nat) : List Nat:=(List.range N).map (· + 1000)
theorem zeV {N j : Nat} : j ∈ famI N ↔ 1000 ≤ j ∧ j < 1000 + N:=by
 simp only [famI,List.mem_map,List.mem_range]
 exact ⟨fun ⟨k,h,e⟩=>by omega,fun h=>⟨j - 1000,by omega,by omega⟩⟩
theorem zuH {s N o : Nat} {ρ : List (Nat × Nat)} {sn : List Nat} {hp : Nat → Option Ent} {E : Nat → List (List AV)} (hE : ∀ k < N,∀ r ∈ E k,∀ x ∈ r,∃ v,x = .sc v)
  (hρ : lkp ρ o = none) (hsn : o ∈ sn) (hf : ∀ k < N,k + 1000 ∈ sn) (ho : hp o = some ⟨1,famO N E,0⟩) (hh : ∀ k < N,hp (k + 1000) = some ⟨s,E k,0⟩) :
  conv ρ sn hp 4 (.rs o 0 N) = .vs 1 false ((List.range N).map fun k=>[.vs s false (E k)]):=by
 simp only [conv,hρ,hsn,if_true,ho,zhX,Nat.zero_add,Nat.le_refl,List.drop_zero]
 rw [List.take_of_length_le (by rw [zhX]; exact Nat.le_refl _),famO,List.map_map]
 congr 1
 refine List.map_congr_left fun k hk=>?_
 have hk:=List.mem_range.1 hk
 simp only [fcd,List.map_cons,List.map_nil,famV,conv,lkp,hf k hk,if_true,hh k hk,Nat.zero_add,Nat.le_refl,List.drop_zero,List.take_length]
 rw [zgv _ (fun v=>by simp [conv]) _ (hE k hk)]
theorem Le.famOut {np N o : Nat} {L : List Nat} {st st' : St} (hsz : st'.sz = st.sz) (hL : L.Nodup) (h1 : ∀ j ∈ L,j < 1000) (hoL : o ∉ L) (hn : 1000 ≤ st'.n) (hnp : np ≤ o) (hnp2 : np ≤ 1000)
  (hout : ∀ j,j ∉ L → st'.hp j = none)
  (ht : ∀ p ∈ st'.t,Wk (conv (L.map fun j=>(j,j)) (o :: famI N) st.hp 4 (st.get p.1)) p.2)
  (hb : ∀ j ∈ L,∀ e',st'.hp j = some e' → ∃ e,st.hp j = some e ∧ zba [] (zaw (L.map fun j=>(j,j)) (o :: famI N) st.hp 4 e) e') : Le np st st':=by
 have hid : (L.map fun j=>(j,j)).map (·.1) = L:=by simp [fcd]
 have hid2 : (L.map fun j=>(j,j)).map (·.2) = L:=by simp [fcd]
 refine Le.mk (L.map fun j=>(j,j)) (o :: famI N) [] hsz (by rw [hid]; exact hL) (by rw [hid2]; exact hL) ?_ (by simp) ?_ (by omega) (by simp) (fun i=>?_) ?_
 ·intro p hp
  obtain ⟨j,hj,rfl⟩:=List.mem_map.1 hp
  have:=h1 j hj
  exact ⟨by simp only; omega,fun _=>rfl⟩
 ·intro i hi
  rw [hid]
  rcases List.mem_cons.1 hi with rfl | hi
  ·exact ⟨hnp,hoL⟩
  ·have:=zeV.1 hi
   exact ⟨by omega,fun h=>by have:=h1 i h; omega⟩
 ·unfold St.get at *
  cases hl : lkp st'.t i with
  | none=>exact .inl (.dead _)
  | some v=>exact .inl (ht _ (zbK hl))
 ·intro j e' he
  left
  by_cases hj : j ∈ L
  ·obtain ⟨e,h2,h3⟩:=hb j hj e' he
   exact ⟨j,e,by simp [hj],h2,h3⟩
  ·rw [hout j hj] at he; cases he
def sumF (φ : Ed → Int → Int) : List Ed → List Int → Int
 | e :: A,v :: f=>φ e v + sumF φ A f
 | _,_=>0
def outF (A : List Ed) (f : List Int) (x : Int) : Int:=sumF (fun e v=>if e.f = x then v else 0) A f
def inF (A : List Ed) (f : List Int) (x : Int) : Int:=sumF (fun e v=>if e.t = x then v else 0) A f
structure zeF (N : Nat) (A : List Ed) : Prop where
 two : 2 ≤ N
 arc : ∀ e ∈ A,0 ≤ e.f ∧ e.f < N ∧ 0 ≤ e.t ∧ e.t < N ∧ e.f ≠ e.t ∧ e.t ≠ 0 ∧ e.f ≠ 1 ∧ 0 ≤ e.v
def Fit2 : List Ed → List Int → Prop
 | e :: A,v :: f=>(0 ≤ v ∧ v ≤ e.v) ∧ Fit2 A f
 | [],[]=>True
 | _,_=>False
structure zaS (N : Nat) (A : List Ed) (f : List Int) : Prop where
 fit : Fit2 A f
 bal : ∀ x : Nat,2 ≤ x → x < N → outF A f x = inF A f x
def valF (A : List Ed) (f : List Int) : Int:=outF A f 0
theorem Fit2.len : ∀ {A : List Ed} {f : List Int},Fit2 A f → f.length = A.length
 | [],[],_=>rfl
 | _ :: _,_ :: _,h=>by simp [h.2.len]
 | [],_ :: _,h=>h.elim
 | _ :: _,[],h=>h.elim
theorem zqb (φ ψ : Ed → Int → Int) : ∀ (A : List Ed) (f : List Int),sumF (fun e v=>φ e v + ψ e v) A f = sumF φ A f + sumF ψ A f
 | [],_=>by simp [sumF]
 | _ :: _,[]=>by simp [sumF]
 | e :: A,v :: f=>by
   simp only [sumF]
   rw [zqb φ ψ A f]
   omega
theorem zni (φ ψ : Ed → Int → Int) : ∀ (A : List Ed) (f : List Int),sumF (fun e v=>φ e v - ψ e v) A f = sumF φ A f - sumF ψ A f
 | [],_=>by simp [sumF]
 | _ :: _,[]=>by simp [sumF]
 | e :: A,v :: f=>by
   simp only [sumF]
   rw [zni φ ψ A f]
   omega
theorem zdH {φ ψ : Ed → Int → Int} : ∀ {A : List Ed} {f : List Int},(∀ e ∈ A,∀ v,φ e v = ψ e v) → sumF φ A f = sumF ψ A f
 | [],_,_=>by simp [sumF]
 | _ :: _,[],_=>by simp [sumF]
 | e :: A,v :: f,h=>by
   simp only [sumF]
   rw [h e List.mem_cons_self v,zdH fun x hx=>h x (List.mem_cons_of_mem _ hx)]
theorem zf8 : ∀ {A : List Ed} {f : List Int},sumF (fun _ _=>0) A f = 0
 | [],_=>by simp [sumF]
 | _ :: _,[]=>by simp [sumF]
 | e :: A,v :: f=>by simp [sumF,zf8 (A:=A) (f:=f)]
theorem zpg {φ ψ : Ed → Int → Int} : ∀ {A : List Ed} {f : List Int},Fit2 A f → (∀ e ∈ A,∀ v,0 ≤ v → v ≤ e.v → φ e v ≤ ψ e v) → sumF φ A f ≤ sumF ψ A f
 | [],[],_,_=>by simp [sumF]
 | [],_ :: _,h,_=>h.elim
 | _ :: _,[],h,_=>h.elim
 | e :: A,v :: f,h,hh=>by
   simp only [sumF]
   have h1:=hh e List.mem_cons_self v h.1.1 h.1.2
   have h2:=zpg h.2 fun x hx=>hh x (List.mem_cons_of_mem _ hx)
   omega
def zd7 (S : Int → Bool) (g : Int → Int) : Nat → Int
 | 0=>0
 | n + 1=>zd7 S g n + if S n then g n else 0
theorem zkf (S : Int → Bool) (g h : Int → Int) : ∀ n,zd7 S (fun x=>g x - h x) n = zd7 S g n - zd7 S h n
 | 0=>rfl
 | n + 1=>by
   simp only [zd7]
   rw [zkf S g h n]
   split <;> omega
theorem zhg (S : Int → Bool) (A : List Ed) (f : List Int) (π : Ed → Int) : ∀ n : Nat,(∀ e ∈ A,0 ≤ π e) → zd7 S (fun x=>sumF (fun e v=>if π e = x then v else 0) A f) n = sumF (fun e v=>if π e < n ∧ S (π e) = true then v else 0) A f
 | 0,h=>by
   rw [zdH (ψ:=fun _ _=>0) fun e he v=>if_neg fun h2=>by have:=h e he; omega,zf8]
   rfl
 | n + 1,h=>by
   have ih:=zhg S A f π n h
   simp only [zd7]
   rw [ih]
   by_cases hs : S n = true
   ·rw [if_pos hs,← zqb]
    refine zdH fun e he v=>?_
    have h0:=h e he
    by_cases h1 : π e = n
    ·have h2 : ¬ (π e < (n : Int) ∧ S (π e) = true):=by omega
     have h3 : π e < ((n + 1 : Nat) : Int) ∧ S (π e) = true:=⟨by omega,by rw [h1]; exact hs⟩
     rw [if_neg h2,if_pos h1,if_pos h3,Int.zero_add]
    ·rw [if_neg h1,Int.add_zero]
     by_cases h2 : π e < (n : Int) ∧ S (π e) = true
     ·rw [if_pos h2,if_pos ⟨by omega,h2.2⟩]
     ·rw [if_neg h2,if_neg fun h3=>h2 ⟨by omega,h3.2⟩]
   ·rw [if_neg hs,Int.add_zero]
    refine zdH fun e he v=>?_
    have h0:=h e he
    by_cases h2 : π e < (n : Int) ∧ S (π e) = true
    ·rw [if_pos h2,if_pos ⟨by omega,h2.2⟩]
    ·rw [if_neg h2,if_neg fun h3=>h2 ⟨?_,h3.2⟩]
     have h4 : π e ≠ n:=fun h5=>hs (h5 ▸ h3.2)
     omega
def outS (S : Int → Bool) (A : List Ed) (f : List Int) : Int:=sumF (fun e v=>if S e.f = true ∧ S e.t = false then v else 0) A f
def inS (S : Int → Bool) (A : List Ed) (f : List Int) : Int:=sumF (fun e v=>if S e.f = false ∧ S e.t = true then v else 0) A f
def capS (S : Int → Bool) (A : List Ed) : Int:=sumF (fun e _=>if S e.f = true ∧ S e.t = false then e.v else 0) A (A.map fun _=>0)
theorem zj3 (S : Int → Bool) (g : Int → Int) (N : Nat) (h0 : S 0 = true) (h1 : S 1 = false) (hg : ∀ x : Nat,2 ≤ x → x < N → g x = 0) : ∀ n,n ≤ N → 1 ≤ n → zd7 S g n = g 0
 | 0,_,h=>by omega
 | 1,_,_=>by simp [zd7,h0]
 | n + 2,h,_=>by
   have ih:=zj3 S g N h0 h1 hg (n + 1) (by omega) (by omega)
   simp only [zd7] at ih ⊢
   rw [ih]
   cases n with
   | zero=>simp [h1]
   | succ n =>
     have:=hg (n + 1 + 1) (by omega) (by omega)
     split <;> omega
theorem znd {N : Nat} {A : List Ed} {f : List Int} (hn : zeF N A) (hf : zaS N A f) {S : Int → Bool} (h0 : S 0 = true) (h1 : S 1 = false) : valF A f = outS S A f - inS S A f:=by
 have e1:=zj3 S (fun x=>outF A f x - inF A f x) N h0 h1 (fun x h2 h3=>by have:=hf.bal x h2 h3; omega) N (Nat.le_refl _) (by have:=hn.two; omega)
 have e2 : inF A f 0 = 0:=by
  unfold inF
  rw [zdH (ψ:=fun _ _=>0) fun e he v=>if_neg (hn.arc e he).2.2.2.2.2.1,zf8]
 rw [zkf] at e1
 have e3:=zhg S A f (·.f) N fun e he=>(hn.arc e he).1
 have e4:=zhg S A f (·.t) N fun e he=>(hn.arc e he).2.2.1
 have e5 : zd7 S (outF A f) N = _:=e3
 have e6 : zd7 S (inF A f) N = _:=e4
 rw [e5,e6,← zni] at e1
 unfold valF outS inS
 rw [← zni]
 have e7 : outF A f 0 = outF A f 0 - inF A f 0:=by omega
 rw [e7,← e1]
 refine zdH fun e he v=>?_
 obtain ⟨q1,q2,q3,q4,_⟩:=hn.arc e he
 cases hf1 : S e.f <;> cases ht1 : S e.t <;> simp [q2,q4]
theorem zpB {A : List Ed} {f : List Int} (hf : Fit2 A f) (S : Int → Bool) : outS S A f ≤ capS S A:=by
 have key : ∀ {A : List Ed} {f : List Int},Fit2 A f → sumF (fun e _=>if S e.f = true ∧ S e.t = false then e.v else 0) A (A.map fun _=>0) = sumF (fun e _=>if S e.f = true ∧ S e.t = false then e.v else 0) A f:=by
  intro A
  induction A with
  | nil=>intro f _; simp [sumF]
  | cons e A ih =>
    intro f h
    cases f with
    | nil=>exact h.elim
    | cons v f=>simp only [sumF,List.map_cons]; rw [ih h.2]
 unfold outS capS
 rw [key hf]
 exact zpg hf fun e _ v h1 h2=>by split <;> omega
theorem ziW {A : List Ed} {f : List Int} (hf : Fit2 A f) (S : Int → Bool) : 0 ≤ inS S A f:=by
 have : sumF (fun _ _=>0) A f ≤ inS S A f:=zpg hf fun e _ v h1 h2=>by split <;> omega
 rw [zf8] at this
 exact this
theorem zfi {N : Nat} {A : List Ed} {f : List Int} (hn : zeF N A) (hf : zaS N A f) {S : Int → Bool} (h0 : S 0 = true) (h1 : S 1 = false) : valF A f ≤ capS S A:=by
 rw [znd hn hf h0 h1]
 have:=zpB hf.fit S
 have:=ziW hf.fit S
 omega
def arcD (A : List Ed) (i : Nat) : Ed:=A.getD i ⟨0,0,0⟩
theorem zfS {A : List Ed} {i : Nat} (h : i < A.length) : arcD A i ∈ A:=by
 unfold arcD
 rw [List.getD_eq_getElem?_getD,List.getElem?_eq_getElem h]
 exact List.getElem_mem h
abbrev Stp:=Nat × Bool
def stF (A : List Ed) (s : Stp) : Int:=if s.2 then (arcD A s.1).t else (arcD A s.1).f
def stT (A : List Ed) (s : Stp) : Int:=if s.2 then (arcD A s.1).f else (arcD A s.1).t
def zcz (A : List Ed) (f : List Int) (s : Stp) : Int:=if s.2 then f.getD s.1 0 else (arcD A s.1).v - f.getD s.1 0
def zhH (δ : Int) (f : List Int) (s : Stp) : List Int:=f.set s.1 (f.getD s.1 0 + if s.2 then -δ else δ)
def zhd (δ : Int) (f : List Int) (l : List Stp) : List Int:=l.foldl (zhH δ) f
theorem znh (φ : Ed → Int → Int) : ∀ (A : List Ed) (f : List Int) (i : Nat) (v : Int),i < A.length → f.length = A.length → sumF φ A (f.set i v) = sumF φ A f + (φ (arcD A i) v - φ (arcD A i) (f.getD i 0))
 | [],_,_,_,h,_=>by simp at h
 | _ :: _,[],_,_,_,h=>by simp at h
 | e :: A,w :: f,0,v,_,_=>by
   simp only [List.set_cons_zero,sumF]
   have h1 : arcD (e :: A) 0 = e:=rfl
   have h2 : (w :: f).getD 0 0 = w:=rfl
   rw [h1,h2]
   omega
 | e :: A,w :: f,i + 1,v,h,hl=>by
   simp only [List.set_cons_succ,sumF]
   have h1 : arcD (e :: A) (i + 1) = arcD A i:=by simp [arcD]
   have h2 : (w :: f).getD (i + 1) 0 = f.getD i 0:=by simp
   rw [znh φ A f i v (by simpa using h) (by simpa using hl),h1,h2]
   omega
def exF (A : List Ed) (f : List Int) (x : Int) : Int:=outF A f x - inF A f x
theorem zkk {δ : Int} {f : List Int} {s : Stp} : (zhH δ f s).length = f.length:=List.length_set ..
theorem zf7 {δ : Int} : ∀ {l : List Stp} {f : List Int},(zhd δ f l).length = f.length
 | [],_=>rfl
 | s :: l,f=>by
   show (zhd δ (zhH δ f s) l).length = _
   rw [zf7,zkk]
theorem zqi {A : List Ed} {f : List Int} {δ : Int} {s : Stp} (hs : s.1 < A.length) (hl : f.length = A.length) (x : Int) :
  exF A (zhH δ f s) x = exF A f x + (if stF A s = x then δ else 0) - if stT A s = x then δ else 0:=by
 unfold exF outF inF zhH
 rw [znh _ A f s.1 _ hs hl,znh _ A f s.1 _ hs hl]
 unfold stF stT
 generalize arcD A s.1 = e
 generalize f.getD s.1 0 = v
 generalize sumF _ A f = p
 generalize sumF _ A f = q
 obtain ⟨i,b⟩:=s
 cases b
 ·simp only [Bool.false_eq_true,if_false]
  by_cases h1 : e.f = x <;> by_cases h2 : e.t = x <;> simp only [h1,h2,if_true,if_false] <;> omega
 ·simp only [if_true]
  by_cases h1 : e.f = x <;> by_cases h2 : e.t = x <;> simp only [h1,h2,if_true,if_false] <;> omega
def WayS (A : List Ed) : Int → List Stp → Int → Prop
 | u,[],w=>u = w
 | u,s :: l,w=>s.1 < A.length ∧ stF A s = u ∧ WayS A (stT A s) l w
theorem zpZ {A : List Ed} {δ : Int} (x w : Int) : ∀ {l : List Stp} {f : List Int} {u : Int},f.length = A.length → WayS A u l w → exF A (zhd δ f l) x = exF A f x + (if u = x then δ else 0) - if w = x then δ else 0
 | [],f,u,_,h=>by
   have h' : u = w:=h
   subst h'
   show exF A f x = _
   omega
 | s :: l,f,u,hl,h=>by
   obtain ⟨h1,h2,h3⟩:=h
   show exF A (zhd δ (zhH δ f s) l) x = _
   rw [zpZ x w (by rw [zkk,hl]) h3,zqi h1 hl x,h2]
   omega
theorem zeZ {A : List Ed} {f : List Int} : Fit2 A f ↔ f.length = A.length ∧ ∀ i,i < A.length → 0 ≤ f.getD i 0 ∧ f.getD i 0 ≤ (arcD A i).v:=by
 induction A generalizing f with
 | nil =>
   cases f with
   | nil=>simp [Fit2]
   | cons v f=>simp [Fit2]
 | cons e A ih =>
   cases f with
   | nil=>simp [Fit2]
   | cons v f =>
     show (0 ≤ v ∧ v ≤ e.v) ∧ Fit2 A f ↔ _
     rw [ih]
     constructor
     ·rintro ⟨h1,h2,h3⟩
      refine ⟨by simp [h2],fun i hi=>?_⟩
      cases i with
      | zero=>exact h1
      | succ i =>
        have:=h3 i (by simpa using hi)
        simpa [arcD] using this
     ·rintro ⟨h1,h2⟩
      refine ⟨h2 0 (by simp),by simpa using h1,fun i hi=>?_⟩
      have:=h2 (i + 1) (by simpa using hi)
      simpa [arcD] using this
theorem zgq {δ : Int} : ∀ {l : List Stp} {f : List Int} {i : Nat},(l.map (·.1)).Nodup → (∀ s ∈ l,s.1 < f.length) →
  (i ∉ l.map (·.1) → (zhd δ f l).getD i 0 = f.getD i 0) ∧ ∀ b,(i,b) ∈ l → (zhd δ f l).getD i 0 = f.getD i 0 + if b then -δ else δ
 | [],f,i,_,_=>⟨fun _=>rfl,fun b hb=>by simp at hb⟩
 | s :: l,f,i,hn,hr=>by
   rw [List.map_cons,List.nodup_cons] at hn
   have ih:=zgq (δ:=δ) (l:=l) (f:=zhH δ f s) (i:=i) hn.2 fun x hx=>by rw [zkk]; exact hr x (List.mem_cons_of_mem _ hx)
   have hs:=hr s (List.mem_cons_self ..)
   have hget : ∀ j,(zhH δ f s).getD j 0 = if s.1 = j then f.getD j 0 + (if s.2 then -δ else δ) else f.getD j 0:=fun j=>by
    unfold zhH
    by_cases hj : s.1 = j
    ·subst hj
     rw [if_pos rfl,List.getD_eq_getElem?_getD,List.getElem?_set_self hs,Option.getD_some]
    ·rw [if_neg hj,List.getD_eq_getElem?_getD,List.getElem?_set_ne hj,List.getD_eq_getElem?_getD]
   refine ⟨fun hi=>?_,fun b hb=>?_⟩
   ·rw [List.map_cons,List.mem_cons,not_or] at hi
    show (zhd δ (zhH δ f s) l).getD i 0 = _
    rw [ih.1 hi.2,hget,if_neg fun e=>hi.1 e.symm]
   ·show (zhd δ (zhH δ f s) l).getD i 0 = _
    rcases List.mem_cons.1 hb with hb | hb
    ·subst hb
     rw [ih.1 hn.1,hget,if_pos rfl]
    ·have hne : s.1 ≠ i:=fun e=>hn.1 (e ▸ List.mem_map.2 ⟨_,hb,rfl⟩)
     rw [ih.2 b hb,hget,if_neg hne]
theorem zs2 {A : List Ed} {f : List Int} {δ : Int} {l : List Stp} (hf : Fit2 A f) (h0 : 0 ≤ δ) (hn : (l.map (·.1)).Nodup) (hr : ∀ s ∈ l,s.1 < A.length ∧ δ ≤ zcz A f s) : Fit2 A (zhd δ f l):=by
 rw [zeZ] at hf ⊢
 refine ⟨by rw [zf7,hf.1],fun i hi=>?_⟩
 have hg:=zgq (δ:=δ) (f:=f) (i:=i) hn fun s hs=>by rw [hf.1]; exact (hr s hs).1
 have hfi:=hf.2 i hi
 by_cases hm : i ∈ l.map (·.1)
 ·obtain ⟨⟨j,b⟩,hs,rfl⟩:=List.mem_map.1 hm
  have h1:=hg.2 b hs
  have h2:=(hr _ hs).2
  simp only at h1 h2 hfi ⊢
  rw [h1]
  unfold zcz at h2
  cases b
  ·simp only [Bool.false_eq_true,if_false] at h2 ⊢
   omega
  ·simp only [if_true] at h2 ⊢
   omega
 ·rw [hg.1 hm]
  exact hfi
theorem zkx {N : Nat} {A : List Ed} (hn : zeF N A) (f : List Int) : inF A f 0 = 0:=by
 unfold inF
 rw [zdH (ψ:=fun _ _=>0) fun e he v=>if_neg (hn.arc e he).2.2.2.2.2.1,zf8]
theorem zww {N : Nat} {A : List Ed} {f : List Int} {δ : Int} {l : List Stp} (hn : zeF N A) (hf : zaS N A f) (h0 : 0 ≤ δ) (hw : WayS A 0 l 1) (hd : (l.map (·.1)).Nodup) (hr : ∀ s ∈ l,s.1 < A.length ∧ δ ≤ zcz A f s) :
  zaS N A (zhd δ f l) ∧ valF A (zhd δ f l) = valF A f + δ:=by
 have hl:=hf.fit.len
 have hx:=fun x=>zpZ (A:=A) (δ:=δ) x 1 (l:=l) (f:=f) hl hw
 refine ⟨⟨zs2 hf.fit h0 hd hr,fun x h2 hN=>?_⟩,?_⟩
 ·have h3:=hx x
  have h4:=hf.bal x h2 hN
  rw [if_neg (by omega),if_neg (by omega)] at h3
  unfold exF at h3
  omega
 ·have h3:=hx 0
  rw [if_pos rfl,if_neg (by omega)] at h3
  unfold exF at h3
  rw [zkx hn,zkx hn] at h3
  unfold valF
  omega
theorem zq6 {N : Nat} {A : List Ed} {f : List Int} (hn : zeF N A) (hf : zaS N A f) {S : Int → Bool} (h0 : S 0 = true) (h1 : S 1 = false)
  (hc : ∀ s : Stp,s.1 < A.length → S (stF A s) = true → 0 < zcz A f s → S (stT A s) = true) : valF A f = capS S A:=by
 rw [znd hn hf h0 h1]
 have key : ∀ {A : List Ed} {f : List Int},Fit2 A f → (∀ s : Stp,s.1 < A.length → S (stF A s) = true → 0 < zcz A f s → S (stT A s) = true) → outS S A f = capS S A ∧ inS S A f = 0:=by
  intro A
  induction A with
  | nil=>intro f _ _; simp [outS,inS,capS,sumF]
  | cons e A ih =>
    intro f hf hc
    cases f with
    | nil=>exact hf.elim
    | cons v f =>
      have h2:=ih hf.2 fun s hs hsf hr=>by
       have:=hc (s.1 + 1,s.2) (by simpa using hs) (by simpa [stF,arcD] using hsf) (by simpa [zcz,arcD] using hr)
       simpa [stT,arcD] using this
      have ha:=hc (0,false) (by simp)
      have hb:=hc (0,true) (by simp)
      simp [stF,stT,zcz,arcD] at ha hb
      have hv:=hf.1
      unfold outS inS capS at h2 ⊢
      simp only [sumF,List.map_cons]
      obtain ⟨p1,p2⟩:=h2
      rw [p1,p2]
      cases hF : S e.f <;> cases hT : S e.t <;> simp [hF,hT] at ha hb ⊢ <;> omega
 obtain ⟨p1,p2⟩:=key hf.fit hc
 rw [p1,p2]
 omega
theorem WayS.snoc {A : List Ed} : ∀ {l : List Stp} {u w : Int} {s : Stp},WayS A u l w → s.1 < A.length → stF A s = w → WayS A u (l ++ [s]) (stT A s)
 | [],u,w,s,h,h1,h2=>⟨h1,by rw [h2]; exact (show u = w from h).symm,rfl⟩
 | t :: l,u,w,s,h,h1,h2=>⟨h.1,h.2.1,WayS.snoc h.2.2 h1 h2⟩
structure zsI (A : List Ed) (f : List Int) (D : List Int) (by_ : Int → Stp) : Prop where
 zero : D.head? = some 0
 nodup : D.Nodup
 step : ∀ j (h : j < D.length),0 < j → (by_ D[j]).1 < A.length ∧ stT A (by_ D[j]) = D[j] ∧ stF A (by_ D[j]) ∈ D.take j ∧ 0 < zcz A f (by_ D[j])
theorem zoX {A : List Ed} {s t : Stp} (h : s.1 = t.1) : (stF A s = stF A t ∧ stT A s = stT A t) ∨ (stF A s = stT A t ∧ stT A s = stF A t):=by
 obtain ⟨i,b⟩:=s
 obtain ⟨j,c⟩:=t
 simp only at h
 subst h
 unfold stF stT
 cases b <;> cases c <;> simp
theorem zsI.way {A : List Ed} {f D : List Int} {by_ : Int → Stp} (h : zsI A f D by_) : ∀ (n j : Nat) (hj : j < D.length),j ≤ n →
  ∃ l,WayS A 0 l D[j] ∧ (l.map (·.1)).Nodup ∧ ∀ s ∈ l,s.1 < A.length ∧ 0 < zcz A f s ∧ by_ (stT A s) = s ∧ stT A s ≠ 0 ∧ stF A s ∈ D.take (j + 1) ∧ stT A s ∈ D.take (j + 1)
 | n,0,hj,_=>by
   refine ⟨[],?_,by simp,by simp⟩
   show (0 : Int) = D[0]
   have h0:=h.zero
   rw [List.head?_eq_getElem?,List.getElem?_eq_getElem hj] at h0
   exact (Option.some.inj h0).symm
 | 0,j + 1,_,hn=>by omega
 | n + 1,j + 1,hj,hn=>by
   obtain ⟨h1,h2,h3,h4⟩:=h.step (j + 1) hj (by omega)
   obtain ⟨i,hi,hiF⟩:=List.mem_iff_getElem.1 h3
   rw [List.length_take] at hi
   rw [List.getElem_take] at hiF
   have hij : i < j + 1:=by omega
   obtain ⟨l,w1,w2,w3⟩:=h.way n i (by omega) (by omega)
   have hne : ∀ (k m : Nat) (hk : k < D.length) (hm : m < D.length),k ≠ m → D[k] ≠ D[m]:=fun k m hk hm hkm he=>by
    rcases Nat.lt_or_ge k m with hlt | hge
    ·exact List.pairwise_iff_getElem.1 h.nodup k m hk hm hlt he
    ·exact List.pairwise_iff_getElem.1 h.nodup m k hm hk (by omega) he.symm
   have hnot : D[j + 1] ∉ D.take (i + 1):=fun hm=>by
    obtain ⟨k,hk,hkD⟩:=List.mem_iff_getElem.1 hm
    rw [List.length_take] at hk
    rw [List.getElem_take] at hkD
    exact hne k (j + 1) (by omega) hj (by omega) hkD
   have hup : ∀ x,x ∈ D.take (i + 1) → x ∈ D.take (j + 1 + 1):=fun x hx=>(List.take_sublist_take_left (by omega : i + 1 ≤ j + 1 + 1)).subset hx
   have h0 : D[j + 1] ≠ 0:=fun he=>by
    have hz:=h.zero
    rw [List.head?_eq_getElem?,List.getElem?_eq_getElem (by omega)] at hz
    exact hne 0 (j + 1) (by omega) hj (by omega) ((Option.some.inj hz).trans he.symm)
   refine ⟨l ++ [by_ D[j + 1]],?_,?_,fun s hs=>?_⟩
   ·have:=WayS.snoc (s:=by_ D[j + 1]) w1 h1 hiF.symm
    rw [h2] at this
    exact this
   ·rw [List.map_append,List.nodup_append]
    refine ⟨w2,by simp,fun a ha b hb=>?_⟩
    obtain ⟨t,ht,rfl⟩:=List.mem_map.1 ha
    simp only [List.map_cons,List.map_nil,List.mem_singleton] at hb
    subst hb
    intro he
    obtain ⟨_,_,_,_,q1,q2⟩:=w3 t ht
    rcases zoX (A:=A) he with ⟨e1,e2⟩ | ⟨e1,e2⟩
    ·rw [e2,h2] at q2
     exact hnot q2
    ·rw [e1,h2] at q1
     exact hnot q1
   ·rcases List.mem_append.1 hs with hs | hs
    ·obtain ⟨p1,p2,p3,p4,p5,p6⟩:=w3 s hs
     exact ⟨p1,p2,p3,p4,hup _ p5,hup _ p6⟩
    ·rw [List.mem_singleton] at hs
     subst hs
     refine ⟨h1,h4,by rw [h2],by rw [h2]; exact h0,?_,?_⟩
     ·exact (List.take_sublist_take_left (by omega : j + 1 ≤ j + 1 + 1)).subset h3
     ·rw [h2]
      refine List.mem_iff_getElem.2 ⟨j + 1,by rw [List.length_take]; omega,by rw [List.getElem_take]⟩
def zgn (A : List Ed) (f D : List Int) : Prop:=∀ s : Stp,s.1 < A.length → stF A s ∈ D → 0 < zcz A f s → stT A s ∈ D
theorem zmv {N : Nat} {A : List Ed} {f D : List Int} (hn : zeF N A) (hf : zaS N A f) (h0 : (0 : Int) ∈ D) (h1 : (1 : Int) ∉ D) (hc : zgn A f D) : valF A f = capS (fun x=>decide (x ∈ D)) A ∧ ∀ f',zaS N A f' → valF A f' ≤ valF A f:=by
 have e:=zq6 (S:=fun x=>decide (x ∈ D)) hn hf (by simpa using h0) (by simpa using h1) fun s hs hF hr=>by
  have:=hc s hs (by simpa using hF) hr
  simpa using this
 refine ⟨e,fun f' hf'=>?_⟩
 rw [e]
 exact zfi hn hf' (by simpa using h0) (by simpa using h1)
theorem zl8 {N : Nat} {A : List Ed} {f D : List Int} {by_ : Int → Stp} (hn : zeF N A) (hf : zaS N A f) (ht : zsI A f D by_) {S : Int → Bool} (h0 : S 0 = true) (h1 : S 1 = false) (hS : capS S A = valF A f) : ∀ x ∈ D,S x = true:=by
 have hv:=znd hn hf h0 h1
 have ho:=zpB hf.fit S
 have hi:=ziW hf.fit S
 have ho2 : outS S A f = capS S A:=by omega
 have hi2 : inS S A f = 0:=by omega
 have key : ∀ {A : List Ed} {f : List Int},Fit2 A f → outS S A f = capS S A → inS S A f = 0 → ∀ s : Stp,s.1 < A.length → S (stF A s) = true → 0 < zcz A f s → S (stT A s) = true:=by
  intro A
  induction A with
  | nil=>intro f _ _ _ s hs; simp at hs
  | cons e A ih =>
    intro f hf ho hi s hs hF hr
    cases f with
    | nil=>exact hf.elim
    | cons v f =>
      have k1:=zpB hf.2 S
      have k2:=ziW hf.2 S
      have hv:=hf.1
      have e1 : outS S (e :: A) (v :: f) = (if S e.f = true ∧ S e.t = false then v else 0) + outS S A f:=rfl
      have e2 : inS S (e :: A) (v :: f) = (if S e.f = false ∧ S e.t = true then v else 0) + inS S A f:=rfl
      have e3 : capS S (e :: A) = (if S e.f = true ∧ S e.t = false then e.v else 0) + capS S A:=rfl
      rw [e1,e3] at ho
      rw [e2] at hi
      obtain ⟨i,b⟩:=s
      cases i with
      | zero =>
        cases b
        ·simp [stF,stT,zcz,arcD] at hF hr ⊢
         cases hT : S e.t
         ·simp [hF,hT] at ho
          omega
         ·rfl
        ·simp [stF,stT,zcz,arcD] at hF hr ⊢
         cases hT : S e.f
         ·simp [hF,hT] at hi
          omega
         ·rfl
      | succ i =>
        have q1 : outS S A f = capS S A:=by
         split at ho <;> omega
        have q2 : inS S A f = 0:=by
         split at hi <;> omega
        have:=ih hf.2 q1 q2 (i,b) (by simpa using hs) (by simpa [stF,arcD] using hF) (by simpa [zcz,arcD] using hr)
        simpa [stT,arcD] using this
 have hcl:=key hf.fit ho2 hi2
 have hind : ∀ (n j : Nat) (hj : j < D.length),j ≤ n → S D[j] = true:=by
  intro n
  induction n with
  | zero =>
    intro j hj hn
    have hj0 : j = 0:=by omega
    subst hj0
    have hz:=ht.zero
    rw [List.head?_eq_getElem?,List.getElem?_eq_getElem hj] at hz
    rw [Option.some.inj hz]
    exact h0
  | succ n ih =>
    intro j hj hn
    rcases Nat.eq_zero_or_pos j with hj0 | hj0
    ·exact ih j hj (by omega)
    ·obtain ⟨q1,q2,q3,q4⟩:=ht.step j hj hj0
     obtain ⟨i,hi,hiF⟩:=List.mem_iff_getElem.1 q3
     rw [List.length_take] at hi
     rw [List.getElem_take] at hiF
     have:=hcl _ q1 (by rw [← hiF]; exact ih i (by omega) (by omega)) q4
     rw [q2] at this
     exact this
 intro x hx
 obtain ⟨j,hj,rfl⟩:=List.mem_iff_getElem.1 hx
 exact hind j j hj (Nat.le_refl _)
end Go.Proofs.YtklclphfcibagaaGreat
