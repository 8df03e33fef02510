/- Texts of this claim,merged. -/
import Derived.Test.YteiabadhhhckfaaGreatRc5
set_option linter.unusedSimpArgs false
set_option linter.unusedVariables false
set_option linter.unusedSectionVars false
namespace Go.Proofs.YteiabadhhhckfaaGreat
open Go
set_option maxRecDepth 100000
def zgM : AFun:=⟨148,[(2,none)],
 (.seq (.reg false [oo 2 .mv [.c (.bool false)]] [])
 (.seq (.seq
 (.reg false [oo 17 .mv [.t 0],oo 18 .call [.f zen,.t 17],oo 19 (.un .not) [.t 18]] [])
 (.cond (.t 19)
 (.seq (.reg false [
 oo 20 .call [.f zcq],
 oo 2 .mv [.t 20]] [])
 .ret)
 .skip))
 (.seq (.reg false [oo 21 .mv [.t 0],oo 22 .call [.f zfF,.t 21],oo 3 .mv [.t 22]] [])
 (.seq (.reg false [oo 23 .mv [.t 3],oo 24 .call [.f zbF,.t 23],oo 4 (.alloc [v0,vn,vn]) [],ou (.st 3) [.t 4,.t 24]] [])
 (.seq (.reg false [oo 25 .mv [.t 3],oo 26 (.ld true 3) [.t 4],oo 27 .call [.f zbY,.t 25,.t 26],oo 5 (.alloc [vn,vn,v0]) [],ou (.st 3) [.t 5,.t 27]] [])
 (.seq (.reg false [oo 29 (.ld true 3) [.t 4],oo 30 (.ld true 3) [.t 5],oo 31 .call [.f zdI,.t 29,.t 30],oo 28 .mv [.t 31],oo 32 (.ext 0) [.t 28],oo 33 (.ext 1) [.t 28],oo 6 (.alloc [vn,vn,vn]) [],ou (.st 3) [.t 6,.t 32],oo 7 .mv [.t 33]] [])
 (.seq (.reg true [oo 34 (.ld true 3) [.t 4],oo 35 (.fad 2) [.t 5],oo 36 (.ld false 1) [.t 35],oo 37 .call [.f zcp,.t 34,.t 36],oo 38 (.fad 0) [.t 5],oo 39 (.ld false 1) [.t 38],oo 40 .call [.f zfq,.t 37,.t 39],oo 8 .mv [.t 40]] [[],[],[1],[0,2],[],[4],[3,5,3],[6,6,0,1,2,3,4,5,6]])
 (.seq (.reg false [oo 9 .mv [kn]] [])
 (.seq (.reg false [oo 10 .mv [ki 0]] [])
 (.seq (.seq
 (.reg false [oo 11 .mv [ki 0]] [])
 (.block 0 (.loop
 (.seq (.seq
 (.reg false [oo 41 .mv [.t 11],oo 42 .mv [.t 8],oo 43 .len [.t 42],oo 44 (.bin .lss) [.t 41,.t 43],oo 45 .mv [.t 44],og 46 .mv [.t 7] 45,og 47 (.bin .eql) [.t 46,ki 0] 45,oo 48 .pick [.t 45,.t 47,.c (.bool false)]] [])
 (.cond (.t 48)
 .skip
 (.exit 0)))
 (.seq (.block 1 (.seq (.seq
 (.reg true [oo 51 (.fad 0) [.t 6],oo 52 (.ld false 1) [.t 51],oo 53 .mv [.t 8],oo 54 .mv [.t 11],oo 55 (.iad 1) [.t 53,.t 54],oo 56 (.ld false 1) [.t 55],oo 57 .call [.f zaO,.t 52,.t 56]] [[],[0],[],[],[2,3],[4],[1,5]])
 (.cond (.t 57)
 (.seq (.reg false [
 oo 58 .mv [.t 9],
 oo 59 .mv [.t 8],
 oo 60 .mv [.t 11],
 oo 61 (.iad 1) [.t 59,.t 60],
 oo 62 (.ld false 1) [.t 61],
 oo 63 .call [.f zds,.t 58,.t 62],
 oo 9 .mv [.t 63]] [])
 (.exit 1))
 .skip))
 (.seq (.seq
 (.reg true [oo 64 .mv [.t 10],oo 65 (.fad 2) [.t 6],oo 66 (.ld false 1) [.t 65],oo 67 .len [.t 66],oo 68 (.bin .geq) [.t 64,.t 67],oo 69 .mv [.t 68],oh 70 (.fad 2) [.t 6] 69,oh 71 (.ld false 1) [.t 70] 69,oh 72 .mv [.t 10] 69,oh 73 (.iad 2) [.t 71,.t 72] 69,oh 74 (.fad 0) [.t 73] 69,oh 75 (.ld false 1) [.t 74] 69,oh 76 .mv [.t 8] 69,oh 77 .mv [.t 11] 69,oh 78 (.iad 1) [.t 76,.t 77] 69,oh 79 (.ld false 1) [.t 78] 69,oh 80 (.bin .neq) [.t 75,.t 79] 69,oo 81 .pick [.t 69,.c (.bool true),.t 80]] [[],[],[1],[2],[0,3],[4],[5],[6,5],[5],[7,8,5],[9,5],[10,5],[5],[5],[12,13,5],[14,5],[11,15,5],[5,16]])
 (.cond (.t 81)
 (.seq (.reg false [
 oo 2 .mv [.c (.bool false)]] [])
 .ret)
 .skip))
 (.seq (.reg true [oo 83 (.ld true 3) [.t 4],oo 84 (.ld true 3) [.t 5],oo 85 .mv [.t 9],oo 86 .mv [.t 8],oo 87 .mv [.t 11],oo 88 (.iad 1) [.t 86,.t 87],oo 89 (.ld false 1) [.t 88],oo 90 .call [.f zds,.t 85,.t 89],oo 91 .call [.f zcY,.t 83,.t 84,.t 90],oo 82 .mv [.t 91],oo 92 (.ext 0) [.t 82],oo 93 (.ext 1) [.t 82],oo 12 (.alloc [v0,vn]) [],ou (.st 2) [.t 12,.t 92],oo 13 .mv [.t 93]] [[],[],[],[],[],[3,4],[5],[2,6],[0,1,7,7],[8],[9],[9],[],[12,10,8,0,1,2,3,4,5,6,7,8,9,10,12],[11,13,0,1,2,3,4,5,6,7,8,9,10,11,12,13]])
 (.seq (.reg false [oo 94 (.fad 2) [.t 6],oo 95 (.ld false 1) [.t 94],oo 96 .mv [.t 10],oo 97 (.iad 2) [.t 95,.t 96],oo 98 (.fad 1) [.t 97],oo 99 (.ld false 1) [.t 98],oo 14 .mv [.t 99]] [])
 (.seq (.seq
 (.reg false [oo 100 (.ld true 2) [.t 12],oo 101 .mv [.t 14],oo 102 .call [.f zdW,.t 100,.t 101],oo 103 (.un .not) [.t 102],oo 104 .mv [.t 103],oh 105 (.ld true 2) [.t 12] 104,oh 106 .mv [.t 14] 104,oh 107 .call [.f zdy,.t 105,.t 106] 104,oh 108 .mv [.t 9] 104,oh 109 .len [.t 108] 104,oh 110 (.bin .neq) [.t 107,.t 109] 104,oo 111 .pick [.t 104,.c (.bool true),.t 110]] [])
 (.cond (.t 111)
 (.seq (.reg false [
 oo 2 .mv [.c (.bool false)]] [])
 .ret)
 .skip))
 (.reg false [oo 112 .mv [.t 10],oo 113 (.bin .add) [.t 112,ki 1],oo 10 .mv [.t 113]] [])))))))
 (.reg false [oo 49 .mv [.t 11],oo 50 (.bin .add) [.t 49,ki 1],oo 11 .mv [.t 50]] []))))))
 (.seq (.reg false [oo 115 (.ld true 3) [.t 4],oo 116 (.ld true 3) [.t 5],oo 117 .mv [.t 9],oo 118 .call [.f zcY,.t 115,.t 116,.t 117],oo 114 .mv [.t 118],oo 119 (.ext 0) [.t 114],oo 120 (.ext 1) [.t 114],oo 15 (.alloc [v0,vn]) [],ou (.st 2) [.t 15,.t 119],oo 16 .mv [.t 120]] [])
 (.seq (.reg false [oo 121 .call [.f zcq],oo 122 .mv [.t 121],og 123 .mv [.t 7] 122,og 124 (.bin .eql) [.t 123,ki 0] 122,oo 125 .pick [.t 122,.t 124,.c (.bool false)],oo 126 .mv [.t 125],og 127 .mv [.t 10] 126,og 128 (.fad 2) [.t 6] 126,og 129 (.ld false 1) [.t 128] 126,og 130 .len [.t 129] 126,og 131 (.bin .eql) [.t 127,.t 130] 126,oo 132 .pick [.t 126,.t 131,.c (.bool false)],oo 133 .mv [.t 132],og 134 (.ld true 2) [.t 15] 133,og 135 (.fad 1) [.t 6] 133,og 136 (.ld false 1) [.t 135] 133,og 137 .call [.f ze3,.t 134,.t 136] 133,og 138 .mv [.t 9] 133,og 139 .len [.t 138] 133,og 140 (.bin .eql) [.t 137,.t 139] 133,oo 141 .pick [.t 133,.t 140,.c (.bool false)],oo 142 .mv [.t 141],og 143 (.ld true 2) [.t 15] 142,og 144 .call [.f zeA,.t 143] 142,og 145 .mv [.t 9] 142,og 146 .call [.f zdF,.t 144,.t 145] 142,oo 147 .pick [.t 142,.t 146,.c (.bool false)],oo 2 .mv [.t 147]] [])
 .ret))))))))))))⟩
def zgC : AFun:=⟨112,[(2,none)],
 (.seq (.reg false [oo 2 .mv [.c (.bool false)]] [])
 (.seq (.seq
 (.reg false [oo 14 .mv [.t 0],oo 15 .call [.f zen,.t 14],oo 16 (.un .not) [.t 15]] [])
 (.cond (.t 16)
 (.seq (.reg false [
 oo 17 .call [.f zcq],
 oo 2 .mv [.t 17]] [])
 .ret)
 .skip))
 (.seq (.reg false [oo 18 .mv [.t 0],oo 19 .call [.f zfF,.t 18],oo 3 .mv [.t 19]] [])
 (.seq (.reg false [oo 20 .mv [.t 3],oo 21 .call [.f zbF,.t 20],oo 4 (.alloc [v0,vn,vn]) [],ou (.st 3) [.t 4,.t 21]] [])
 (.seq (.reg false [oo 22 .mv [.t 3],oo 23 (.ld true 3) [.t 4],oo 24 .call [.f zbY,.t 22,.t 23],oo 5 (.alloc [vn,vn,v0]) [],ou (.st 3) [.t 5,.t 24]] [])
 (.seq (.reg false [oo 26 (.ld true 3) [.t 4],oo 27 (.ld true 3) [.t 5],oo 28 .call [.f zdI,.t 26,.t 27],oo 25 .mv [.t 28],oo 29 (.ext 0) [.t 25],oo 30 (.ext 1) [.t 25],oo 6 (.alloc [vn,vn,vn]) [],ou (.st 3) [.t 6,.t 29],oo 7 .mv [.t 30]] [])
 (.seq (.reg false [oo 8 .mv [ki 0]] [])
 (.seq (.seq
 (.reg false [oo 9 .mv [ki 0]] [])
 (.block 0 (.loop
 (.seq (.seq
 (.reg false [oo 31 .mv [.t 9],oo 32 (.fad 0) [.t 5],oo 33 (.ld false 1) [.t 32],oo 34 .len [.t 33],oo 35 (.bin .lss) [.t 31,.t 34]] [])
 (.cond (.t 35)
 .skip
 (.exit 0)))
 (.seq (.block 1 (.seq (.seq
 (.reg true [oo 38 (.fad 2) [.t 4],oo 39 (.ld false 1) [.t 38],oo 40 (.fad 0) [.t 5],oo 41 (.ld false 1) [.t 40],oo 42 .mv [.t 9],oo 43 (.iad 1) [.t 41,.t 42],oo 44 (.ld false 1) [.t 43],oo 45 .call [.f zaO,.t 39,.t 44]] [[],[0],[],[2],[],[3,4],[5],[1,6]])
 (.cond (.t 45)
 (.exit 1)
 .skip))
 (.seq (.seq
 (.reg true [oo 46 .mv [.t 8],oo 47 (.fad 0) [.t 6],oo 48 (.ld false 1) [.t 47],oo 49 .len [.t 48],oo 50 (.bin .geq) [.t 46,.t 49],oo 51 .mv [.t 50],oh 52 (.fad 0) [.t 6] 51,oh 53 (.ld false 1) [.t 52] 51,oh 54 .mv [.t 8] 51,oh 55 (.iad 1) [.t 53,.t 54] 51,oh 56 (.ld false 1) [.t 55] 51,oh 57 (.fad 0) [.t 5] 51,oh 58 (.ld false 1) [.t 57] 51,oh 59 .mv [.t 9] 51,oh 60 (.iad 1) [.t 58,.t 59] 51,oh 61 (.ld false 1) [.t 60] 51,oh 62 (.bin .neq) [.t 56,.t 61] 51,oo 63 .pick [.t 51,.c (.bool true),.t 62]] [[],[],[1],[2],[0,3],[4],[5],[6,5],[5],[7,8,5],[9,5],[5],[11,5],[5],[12,13,5],[14,5],[10,15,5],[5,16]])
 (.cond (.t 63)
 (.seq (.reg false [
 oo 2 .mv [.c (.bool false)]] [])
 .ret)
 .skip))
 (.reg false [oo 64 .mv [.t 8],oo 65 (.bin .add) [.t 64,ki 1],oo 8 .mv [.t 65]] []))))
 (.reg false [oo 36 .mv [.t 9],oo 37 (.bin .add) [.t 36,ki 1],oo 9 .mv [.t 37]] []))))))
 (.seq (.reg true [oo 66 (.ld true 3) [.t 4],oo 67 (.fad 2) [.t 5],oo 68 (.ld false 1) [.t 67],oo 69 .call [.f zcp,.t 66,.t 68],oo 70 (.fad 0) [.t 5],oo 71 (.ld false 1) [.t 70],oo 72 .call [.f zdq,.t 69,.t 71],oo 10 .mv [.t 72]] [[],[],[1],[0,2],[],[4],[3,5,3],[6,6,0,1,2,3,4,5,6]])
 (.seq (.seq
 (.reg false [oo 11 .mv [ki 0]] [])
 (.block 2 (.loop
 (.seq (.seq
 (.reg false [oo 73 .mv [.t 11],oo 74 (.fad 0) [.t 4],oo 75 (.ld false 1) [.t 74],oo 76 (.bin .lss) [.t 73,.t 75]] [])
 (.cond (.t 76)
 .skip
 (.exit 2)))
 (.seq (.block 3 (.seq (.reg false [oo 79 (.ld true 3) [.t 6],oo 80 .mv [.t 11],oo 81 .call [.f zbR,.t 79,.t 80],oo 12 .mv [.t 81]] [])
 (.seq (.seq
 (.reg false [oo 13 .mv [ki 0]] [])
 (.block 4 (.loop
 (.seq (.seq
 (.reg false [oo 82 .mv [.t 13],oo 83 (.fad 2) [.t 6],oo 84 (.ld false 1) [.t 83],oo 85 .len [.t 84],oo 86 (.bin .lss) [.t 82,.t 85]] [])
 (.cond (.t 86)
 .skip
 (.exit 4)))
 (.seq (.block 5 (.reg false [oo 89 .mv [.t 12],oo 90 .mv [.t 89],oh 91 (.fad 2) [.t 6] 90,oh 92 (.ld false 1) [.t 91] 90,oh 93 .mv [.t 13] 90,oh 94 (.iad 2) [.t 92,.t 93] 90,oh 95 (.fad 0) [.t 94] 90,oh 96 (.ld false 1) [.t 95] 90,oh 97 .mv [.t 11] 90,oh 98 (.bin .eql) [.t 96,.t 97] 90,oo 99 .pick [.t 90,.c (.bool true),.t 98],oo 12 .mv [.t 99]] []))
 (.reg false [oo 87 .mv [.t 13],oo 88 (.bin .add) [.t 87,ki 1],oo 13 .mv [.t 88]] []))))))
 (.seq (.reg false [oo 100 .mv [.t 12],oo 101 .mv [.t 10],oo 102 .mv [.t 11],oo 103 (.iad 1) [.t 101,.t 102],oo 104 (.ld false 1) [.t 103],oo 105 (.bin .geq) [.t 104,ki 0],oo 106 (.beq true) [.t 100,.t 105]] [])
 (.cond (.t 106)
 (.seq (.reg false [
 oo 2 .mv [.c (.bool false)]] [])
 .ret)
 .skip)))))
 (.reg false [oo 77 .mv [.t 11],oo 78 (.bin .add) [.t 77,ki 1],oo 11 .mv [.t 78]] []))))))
 (.seq (.reg false [oo 107 .call [.f zcq],oo 108 .mv [.t 107],og 109 .mv [.t 7] 108,og 110 (.bin .eql) [.t 109,ki 0] 108,oo 111 .pick [.t 108,.t 110,.c (.bool false)],oo 2 .mv [.t 111]] [])
 .ret)))))))))))⟩
def zl7 : AFun:=⟨73,[(0,none)],
 (.seq (.reg false [oo 0 .mv [.c (.bool false)]] [])
 (.seq (.reg false [oo 6 .call [.f zhd],oo 5 .mv [.t 6],oo 7 (.ext 0) [.t 5],oo 8 (.ext 1) [.t 5],oo 1 (.alloc [v0,vn,vn]) [],oo 2 (.alloc [vn,vn,v0]) [],ou (.st 3) [.t 1,.t 7],ou (.st 3) [.t 2,.t 8]] [])
 (.seq (.reg false [oo 10 (.ld true 3) [.t 1],oo 11 (.ld true 3) [.t 2],oo 12 .call [.f zdI,.t 10,.t 11],oo 9 .mv [.t 12],oo 13 (.ext 0) [.t 9],oo 14 (.ext 1) [.t 9],oo 3 (.alloc [vn,vn,vn]) [],ou (.st 3) [.t 3,.t 13],oo 4 .mv [.t 14]] [])
 (.seq (.reg false [oo 15 .mv [.t 4],oo 16 (.bin .eql) [.t 15,ki 0],oo 17 .mv [.t 16],og 18 (.fad 0) [.t 3] 17,og 19 (.ld false 1) [.t 18] 17,og 20 .len [.t 19] 17,og 21 (.bin .eql) [.t 20,ki 2] 17,oo 22 .pick [.t 17,.t 21,.c (.bool false)],oo 23 .mv [.t 22],og 24 (.fad 0) [.t 3] 23,og 25 (.ld false 1) [.t 24] 23,og 26 (.iad 1) [.t 25,ki 1] 23,og 27 (.ld false 1) [.t 26] 23,og 28 (.bin .eql) [.t 27,ki 1] 23,oo 29 .pick [.t 23,.t 28,.c (.bool false)],oo 30 .mv [.t 29],og 31 (.fad 2) [.t 3] 30,og 32 (.ld false 1) [.t 31] 30,og 33 .len [.t 32] 30,og 34 (.bin .eql) [.t 33,ki 1] 30,oo 35 .pick [.t 30,.t 34,.c (.bool false)],oo 36 .mv [.t 35],og 37 (.fad 2) [.t 3] 36,og 38 (.ld false 1) [.t 37] 36,og 39 (.iad 2) [.t 38,ki 0] 36,og 40 (.fad 0) [.t 39] 36,og 41 (.ld false 1) [.t 40] 36,og 42 (.bin .eql) [.t 41,ki 2] 36,oo 43 .pick [.t 36,.t 42,.c (.bool false)],oo 44 .mv [.t 43],og 45 (.ld true 3) [.t 1] 44,og 46 (.ld true 3) [.t 2] 44,og 47 (.ld true 3) [.t 3] 44,og 48 .call [.f zey,.t 45,.t 46,.t 47] 44,og 49 (.bin .eql) [.t 48,ki 0] 44,oo 50 .pick [.t 44,.t 49,.c (.bool false)],oo 51 .mv [.t 50],og 52 (.ld true 3) [.t 3] 51,og 53 .call [.f zbR,.t 52,ki 1] 51,oo 54 .pick [.t 51,.t 53,.c (.bool false)],oo 55 .mv [.t 54],og 56 (.ld true 3) [.t 3] 55,og 57 .call [.f zbR,.t 56,ki 2] 55,og 58 (.un .not) [.t 57] 55,oo 59 .pick [.t 55,.t 58,.c (.bool false)],oo 60 .mv [.t 59],og 61 (.ld true 3) [.t 1] 60,og 62 (.ld true 3) [.t 2] 60,og 63 (.bsl 1 2 [v0] [0,1]) [ki 0,ki 2] 60,og 64 .call [.f zc1,.t 61,.t 62,.t 63] 60,oo 65 .pick [.t 60,.t 64,.c (.bool false)],oo 66 .mv [.t 65],og 67 (.ld true 3) [.t 1] 66,og 68 (.ld true 3) [.t 2] 66,og 69 (.bsl 1 3 [v0] [0,1,2]) [ki 0,ki 1,ki 2] 66,og 70 .call [.f zc1,.t 67,.t 68,.t 69] 66,og 71 (.un .not) [.t 70] 66,oo 72 .pick [.t 66,.t 71,.c (.bool false)],oo 0 .mv [.t 72]] [])
 .ret))))⟩
def zhD : AFun:=⟨50,[(4,some (true,3))],
 (.seq (.reg false [oo 3 (.box 3) [.t 1],oo 4 (.alloc [vn,vn,v0]) []] [])
 (.seq (.reg false [oo 8 .mv [.t 0],oo 9 (.fad 0) [.t 3],oo 10 (.ld false 1) [.t 9],oo 11 .call [.f zaC,.t 8,.t 10],oo 12 (.bsl 1 1 [v0] [0]) [.t 11],oo 13 .mv [.t 0],oo 14 (.bsl 1 4 [v0] [0,1,2,3]) [ki 1,ki 1,ki 2,ki 3],oo 15 .call [.f zcB,.t 13,.t 14],oo 16 (.build [vn,vn,v0] [(0,1),(2,1)]) [.t 12,.t 15],oo 5 (.alloc [vn,vn,v0]) [],ou (.st 3) [.t 5,.t 16]] [])
 (.seq (.seq
 (.reg false [oo 17 .mv [.t 0],oo 18 .call [.f zb9,.t 17,ki 3]] [])
 (.cond (.t 18)
 (.reg true [
 oo 19 (.fad 0) [.t 5],
 oo 20 (.ld false 1) [.t 19],
 oo 21 .mv [.t 0],
 oo 22 (.fad 0) [.t 3],
 oo 23 (.ld false 1) [.t 22],
 oo 24 .call [.f zaC,.t 21,.t 23],
 oo 25 .call [.f zds,.t 20,.t 24],
 oo 26 (.fad 0) [.t 5],
 ou (.st 1) [.t 26,.t 25]] [[],[0],[],[],[3],[2,4],[1,5,5],[0,1,2,3,4,5,6],[7,6,6,0,1,2,3,4,5,6]])
 .skip))
 (.seq (.reg false [oo 27 .mv [.t 0],oo 28 (.bsl 1 5 [v0] [0,1,2,3,4]) [ki 3,ki 2,ki 1,ki 6,ki 0],oo 29 .call [.f zcB,.t 27,.t 28],oo 30 (.bin .add) [ki 1,.t 29],oo 6 .mv [.t 30]] [])
 (.seq (.seq
 (.reg false [oo 31 .mv [.t 0],oo 32 .call [.f zaC,.t 31,ki 4],oo 33 (.bin .add) [ki 1,.t 32],oo 7 .mv [.t 33]] [])
 (.block 0 (.loop
 (.seq (.seq
 (.reg false [oo 34 .mv [.t 7],oo 35 (.bin .gtr) [.t 34,ki 0]] [])
 (.cond (.t 35)
 .skip
 (.exit 0)))
 (.seq (.block 1 (.seq (.reg false [oo 38 (.fad 1) [.t 5],oo 39 (.ld false 1) [.t 38],oo 40 .mv [.t 6],oo 41 (.bsl 1 1 [v0] [0]) [.t 40],oo 42 (.app 1 8) [.t 39,.t 41],oo 43 (.fad 1) [.t 5],ou (.st 1) [.t 43,.t 42]] [])
 (.reg false [oo 44 .mv [.t 6],oo 45 .mv [.t 0],oo 46 .call [.f zaC,.t 45,ki 3],oo 47 (.bin .sub) [.t 44,.t 46],oo 48 .mx2 [ki 1,.t 47],oo 6 .mv [.t 48]] [])))
 (.reg false [oo 36 .mv [.t 7],oo 37 (.bin .sub) [.t 36,ki 1],oo 7 .mv [.t 37]] []))))))
 (.seq (.reg false [oo 49 (.ld true 3) [.t 5],ou (.st 3) [.t 4,.t 49]] [])
 .ret))))))⟩
def zna : AFun:=⟨72,[(4,some (true,3)),(5,none)],
 (.seq (.reg false [oo 2 (.box 3) [.t 0],oo 3 (.box 3) [.t 1],oo 4 (.alloc [vn,vn,vn]) [],oo 5 .mv [ki 0]] [])
 (.seq (.seq
 (.reg false [oo 14 (.ld true 3) [.t 2],oo 15 (.ld true 3) [.t 3],oo 16 .call [.f zbs,.t 14,.t 15],oo 6 .mv [.t 16]] [])
 (.seq (.reg false [oo 17 .mv [.t 6],oo 18 (.bin .neq) [.t 17,ki 0]] [])
 (.cond (.t 18)
 (.seq (.reg false [
 oo 19 (.build [vn,vn,vn] []) [],
 oo 20 .mv [.t 6],
 ou (.st 3) [.t 4,.t 19],
 oo 5 .mv [.t 20]] [])
 .ret)
 .skip)))
 (.seq (.reg false [oo 7 (.alloc [vn,vn,vn]) []] [])
 (.seq (.seq
 (.reg false [oo 21 (.ld true 3) [.t 2],oo 22 (.ld true 3) [.t 3],oo 23 .call [.f zdn,.t 21,.t 22],oo 24 .len [.t 23],oo 25 .mv [ki 0]] [])
 (.block 0 (.loop
 (.seq (.reg false [oo 26 (.bin .lss) [.t 25,.t 24]] [])
 (.seq (.cond (.t 26)
 .skip
 (.exit 0))
 (.seq (.block 1 (.seq (.reg false [oo 27 (.iad 1) [.t 23,.t 25],oo 28 (.ld false 1) [.t 27],oo 9 .mv [.t 28]] [])
 (.seq (.reg false [oo 29 (.fad 0) [.t 7],oo 30 (.ld false 1) [.t 29],oo 31 .mv [.t 9],oo 32 .call [.f zd4,.t 30,.t 31],oo 10 .mv [.t 32]] [])
 (.seq (.reg false [oo 33 (.ld true 3) [.t 2],oo 34 (.ld true 3) [.t 3],oo 35 .mv [.t 10],oo 36 .call [.f zbc,.t 33,.t 34,.t 35],oo 11 (.alloc [v0,vn]) [],ou (.st 2) [.t 11,.t 36]] [])
 (.seq (.reg false [oo 38 (.ld true 2) [.t 11],oo 39 .mv [.t 10],oo 40 .len [.t 39],oo 41 .call [.f zbZ,.t 38,.t 40],oo 37 .mv [.t 41],oo 42 (.ext 0) [.t 37],oo 43 (.ext 1) [.t 37],oo 12 .mv [.t 42],oo 13 .mv [.t 43]] [])
 (.seq (.seq
 (.reg false [oo 44 .mv [.t 13]] [])
 (.cond (.t 44)
 (.seq (.reg false [
 oo 45 .mv [.t 10],
 oo 46 (.fad 0) [.t 7],
 ou (.st 1) [.t 46,.t 45]] [])
 (.exit 1))
 .skip))
 (.reg true [oo 47 (.fad 2) [.t 7],oo 48 (.ld false 1) [.t 47],oo 49 .mv [.t 9],oo 50 (.ld true 2) [.t 11],oo 51 .mv [.t 12],oo 52 .call [.f zeP,.t 50,.t 51],oo 53 (.build [v0,vn] [(0,1),(1,1)]) [.t 49,.t 52],oo 54 (.bsl 2 1 [v0,vn] [0]) [.t 53],oo 55 (.app 2 32) [.t 48,.t 54],oo 56 (.fad 2) [.t 7],ou (.st 1) [.t 56,.t 55]] [[],[0],[],[],[],[3,4],[2,5],[6],[1,7,5],[0,1,2,3,4,5,6,7,8],[9,8,8,0,1,2,3,4,5,6,7,8]])))))))
 (.reg false [oo 57 (.bin .add) [.t 25,ki 1],oo 25 .mv [.t 57]] [])))))))
 (.seq (.reg true [oo 59 (.ld true 3) [.t 2],oo 60 (.ld true 3) [.t 3],oo 61 (.fad 0) [.t 7],oo 62 (.ld false 1) [.t 61],oo 63 .call [.f zbc,.t 59,.t 60,.t 62],oo 64 (.fad 0) [.t 7],oo 65 (.ld false 1) [.t 64],oo 66 .len [.t 65],oo 67 .call [.f zbZ,.t 63,.t 66],oo 58 .mv [.t 67],oo 68 (.ext 0) [.t 58],oo 69 (.ext 1) [.t 58],oo 70 (.fad 1) [.t 7],ou (.st 1) [.t 70,.t 68]] [[],[],[],[2],[0,1,3],[],[5],[6],[4,7,4],[8],[9],[9],[0,1,2,3,4,5,6,7,8,9,10],[12,10,8,0,1,2,3,4,5,6,7,8,9,10]])
 (.seq (.reg false [oo 71 (.ld true 3) [.t 7],ou (.st 3) [.t 4,.t 71],oo 5 .mv [ki 0]] [])
 .ret))))))⟩
def ziv : AFun:=⟨9,[(4,none)],
 (.seq (.reg false [oo 2 (.box 3) [.t 0],oo 4 .mv [.c (.bool false)]] [])
 (.seq (.reg false [oo 5 (.fad 0) [.t 2],oo 6 (.ld false 1) [.t 5],oo 7 .mv [.t 1],oo 8 .call [.f zas,.t 6,.t 7],oo 4 .mv [.t 8]] [])
 .ret))⟩
def zjB : AFun:=⟨39,[(6,none)],
 (.seq (.reg false [oo 3 (.box 3) [.t 0],oo 4 (.box 3) [.t 1],oo 6 .mv [.c (.bool false)]] [])
 (.seq (.seq
 (.reg false [oo 10 (.ld true 3) [.t 3],oo 11 (.ld true 3) [.t 4],oo 12 .call [.f zbs,.t 10,.t 11],oo 13 (.bin .neq) [.t 12,ki 0],oo 14 .mv [.t 13],oh 15 .mv [.t 2] 14,oh 16 (.fad 0) [.t 3] 14,oh 17 (.ld false 1) [.t 16] 14,oh 18 (.bin .sub) [.t 17,ki 1] 14,oh 19 .call [.f za8,.t 15,ki 0,.t 18] 14,oh 20 (.un .not) [.t 19] 14,oo 21 .pick [.t 14,.c (.bool true),.t 20]] [])
 (.cond (.t 21)
 (.seq (.reg false [
 oo 6 .mv [.c (.bool false)]] [])
 .ret)
 .skip))
 (.seq (.reg false [oo 22 (.ld true 3) [.t 3],oo 23 (.ld true 3) [.t 4],oo 24 .call [.f zdi,.t 22,.t 23],oo 7 (.alloc [vn]) [],ou (.st 1) [.t 7,.t 24]] [])
 (.seq (.seq
 (.reg false [oo 25 .mv [.t 2],oo 26 (.mkf zb0) [.t 7],oo 27 .call [.f zaR,.t 25,.t 26]] [])
 (.cond (.t 27)
 (.seq (.reg false [
 oo 6 .mv [.c (.bool false)]] [])
 .ret)
 .skip))
 (.seq (.reg false [oo 29 (.ld true 3) [.t 3],oo 30 (.ld true 3) [.t 4],oo 31 .mv [.t 2],oo 32 .call [.f zbc,.t 29,.t 30,.t 31],oo 33 .mv [.t 2],oo 34 .len [.t 33],oo 35 .call [.f zbZ,.t 32,.t 34],oo 28 .mv [.t 35],oo 36 (.ext 0) [.t 28],oo 37 (.ext 1) [.t 28],oo 8 .mv [.t 36],oo 9 .mv [.t 37]] [])
 (.seq (.reg false [oo 38 .mv [.t 9],oo 6 .mv [.t 38]] [])
 .ret))))))⟩
def zkV : AFun:=⟨80,[(6,none)],
 (.seq (.reg false [oo 3 (.box 3) [.t 0],oo 4 (.box 3) [.t 1],oo 5 (.box 3) [.t 2],oo 6 .mv [ki 0]] [])
 (.seq (.seq
 (.reg false [oo 14 (.ld true 3) [.t 3],oo 15 (.ld true 3) [.t 4],oo 16 .call [.f zbs,.t 14,.t 15],oo 7 .mv [.t 16]] [])
 (.seq (.reg false [oo 17 .mv [.t 7],oo 18 (.bin .neq) [.t 17,ki 0]] [])
 (.cond (.t 18)
 (.seq (.reg false [
 oo 19 .mv [.t 7],
 oo 6 .mv [.t 19]] [])
 .ret)
 .skip)))
 (.seq (.reg true [oo 21 (.ld true 3) [.t 3],oo 22 (.ld true 3) [.t 4],oo 23 .call [.f zdn,.t 21,.t 22],oo 24 (.ld true 3) [.t 5],oo 25 .call [.f zea,.t 23,.t 24],oo 20 .mv [.t 25],oo 26 (.ext 0) [.t 20],oo 27 (.ext 1) [.t 20],oo 8 .mv [.t 26],oo 9 .mv [.t 27]] [[],[],[0,1],[],[2,3,2],[4],[5],[5],[6,4,0,1,2,3,4,5,6],[7,8,0,1,2,3,4,5,6,7,8]])
 (.seq (.seq
 (.reg false [oo 28 .mv [.t 9],oo 29 (.un .not) [.t 28]] [])
 (.cond (.t 29)
 (.seq (.reg false [
 oo 6 .mv [ki 1]] [])
 .ret)
 .skip))
 (.seq (.seq
 (.reg false [oo 30 (.ld true 3) [.t 3],oo 31 (.ld true 3) [.t 4],oo 32 (.fad 0) [.t 5],oo 33 (.ld false 1) [.t 32],oo 34 .call [.f zbc,.t 30,.t 31,.t 33],oo 10 (.alloc [v0,vn]) [],ou (.st 2) [.t 10,.t 34]] [])
 (.seq (.reg true [oo 35 (.ld true 2) [.t 10],oo 36 (.fad 1) [.t 5],oo 37 (.ld false 1) [.t 36],oo 38 .call [.f zeN,.t 35,.t 37],oo 39 (.un .not) [.t 38],oo 40 .mv [.t 39],oh 41 (.ld true 2) [.t 10] 40,oh 42 (.fad 1) [.t 5] 40,oh 43 (.ld false 1) [.t 42] 40,oh 44 .call [.f zeo,.t 41,.t 43] 40,oh 45 (.fad 0) [.t 5] 40,oh 46 (.ld false 1) [.t 45] 40,oh 47 .len [.t 46] 40,oh 48 (.bin .neq) [.t 44,.t 47] 40,oo 49 .pick [.t 40,.c (.bool true),.t 48]] [[],[],[1],[0,2],[3],[4,3],[5],[5],[7,5],[6,8,5,5],[5],[10,5],[11,5],[9,12,5],[5,13]])
 (.cond (.t 49)
 (.seq (.reg false [
 oo 6 .mv [ki 17]] [])
 .ret)
 .skip)))
 (.seq (.seq
 (.reg false [oo 50 (.fad 2) [.t 5],oo 51 (.ld false 1) [.t 50],oo 52 .len [.t 51],oo 53 .mv [ki 0]] [])
 (.block 0 (.loop
 (.seq (.reg false [oo 54 (.bin .lss) [.t 53,.t 52]] [])
 (.seq (.cond (.t 54)
 .skip
 (.exit 0))
 (.seq (.block 1 (.seq (.reg false [oo 55 .mv [.t 53],oo 56 (.iad 2) [.t 51,.t 53],oo 57 (.ld true 2) [.t 56],oo 12 (.alloc [v0,vn]) [],oo 11 .mv [.t 55],ou (.st 2) [.t 12,.t 57]] [])
 (.seq (.reg true [oo 58 (.fad 0) [.t 5],oo 59 (.ld false 1) [.t 58],oo 60 .mv [.t 8],oo 61 .mv [.t 11],oo 62 (.iad 1) [.t 60,.t 61],oo 63 (.ld false 1) [.t 62],oo 64 (.slc 1 false true false) [.t 59,.t 63],oo 65 (.fad 0) [.t 12],oo 66 (.ld false 1) [.t 65],oo 67 .call [.f zd4,.t 64,.t 66],oo 13 .mv [.t 67]] [[],[0],[],[],[2,3],[4],[1,5],[],[7],[6,8],[9,9,0,1,2,3,4,5,6,7,8,9]])
 (.seq (.reg true [oo 68 (.ld true 3) [.t 3],oo 69 (.ld true 3) [.t 4],oo 70 .mv [.t 13],oo 71 .call [.f zbc,.t 68,.t 69,.t 70],oo 72 (.fad 1) [.t 12],oo 73 (.ld false 1) [.t 72],oo 74 .mv [.t 13],oo 75 .len [.t 74],oo 76 (.bin .sub) [.t 75,ki 1],oo 77 .call [.f zgj,.t 71,.t 73,.t 76],oo 78 (.un .not) [.t 77]] [[],[],[],[0,1,2],[],[4],[],[6],[7],[3,5,8,3],[9]])
 (.cond (.t 78)
 (.seq (.reg false [
 oo 6 .mv [ki 18]] [])
 .ret)
 .skip)))))
 (.reg false [oo 79 (.bin .add) [.t 53,ki 1],oo 53 .mv [.t 79]] [])))))))
 (.seq (.reg false [oo 6 .mv [ki 0]] [])
 .ret)))))))⟩
def zmf : AFun:=⟨12,[(4,none)],
 (.seq (.reg false [oo 2 (.box 3) [.t 0],oo 3 (.box 3) [.t 1],oo 4 .mv [ki 0]] [])
 (.seq (.seq
 (.reg false [oo 5 (.ld true 3) [.t 2],oo 6 .call [.f zd2,.t 5],oo 7 (.bin .neq) [.t 6,ki 0]] [])
 (.cond (.t 7)
 (.seq (.reg false [
 oo 4 .mv [ki 14]] [])
 .ret)
 .skip))
 (.seq (.seq
 (.reg false [oo 8 (.ld true 3) [.t 2],oo 9 (.ld true 3) [.t 3],oo 10 .call [.f zeK,.t 8,.t 9],oo 11 (.un .not) [.t 10]] [])
 (.cond (.t 11)
 (.seq (.reg false [
 oo 4 .mv [ki 15]] [])
 .ret)
 .skip))
 (.seq (.reg false [oo 4 .mv [ki 0]] [])
 .ret))))⟩
def zo6 : AFun:=⟨31,[(4,none)],
 (.seq (.reg false [oo 2 (.box 3) [.t 0],oo 3 (.box 3) [.t 1],oo 4 .mv [kn]] [])
 (.seq (.reg true [oo 8 (.ld true 3) [.t 2],oo 9 (.fad 2) [.t 3],oo 10 (.ld false 1) [.t 9],oo 11 .call [.f zcp,.t 8,.t 10],oo 12 (.fad 0) [.t 3],oo 13 (.ld false 1) [.t 12],oo 14 .call [.f zdq,.t 11,.t 13],oo 5 .mv [.t 14]] [[],[],[1],[0,2],[],[4],[3,5,3],[6,6,0,1,2,3,4,5,6]])
 (.seq (.reg false [oo 6 .mv [kn]] [])
 (.seq (.seq
 (.reg false [oo 7 .mv [ki 0]] [])
 (.block 0 (.loop
 (.seq (.seq
 (.reg false [oo 15 .mv [.t 7],oo 16 .mv [.t 5],oo 17 .len [.t 16],oo 18 (.bin .lss) [.t 15,.t 17]] [])
 (.cond (.t 18)
 .skip
 (.exit 0)))
 (.seq (.block 1 (.reg true [oo 21 .mv [.t 6],oo 22 (.ld true 3) [.t 3],oo 23 .mv [.t 5],oo 24 .mv [.t 7],oo 25 (.iad 1) [.t 23,.t 24],oo 26 (.ld false 1) [.t 25],oo 27 .call [.f zi9,.t 22,.t 26],oo 28 (.bsl 1 1 [v0] [0]) [.t 27],oo 29 (.app 1 8) [.t 21,.t 28],oo 6 .mv [.t 29]] [[],[],[],[],[2,3],[4],[1,5],[6],[0,7,6],[8,8,0,1,2,3,4,5,6,7,8]]))
 (.reg false [oo 19 .mv [.t 7],oo 20 (.bin .add) [.t 19,ki 1],oo 7 .mv [.t 20]] []))))))
 (.seq (.reg false [oo 30 .mv [.t 6],oo 4 .mv [.t 30]] [])
 .ret)))))⟩
def zjy : AFun:=⟨158,[(6,some (true,2)),(7,none)],
 (.seq (.reg false [oo 3 (.box 3) [.t 0],oo 4 (.box 3) [.t 1],oo 6 (.alloc [v0,vn]) [],oo 7 .mv [ki 0]] [])
 (.seq (.seq
 (.reg false [oo 18 (.ld true 3) [.t 3],oo 19 (.ld true 3) [.t 4],oo 20 .call [.f zfu,.t 18,.t 19],oo 8 .mv [.t 20]] [])
 (.seq (.reg false [oo 21 .mv [.t 8],oo 22 (.bin .neq) [.t 21,ki 0]] [])
 (.cond (.t 22)
 (.seq (.reg false [
 oo 23 (.build [v0,vn] []) [],
 oo 24 .mv [.t 8],
 ou (.st 2) [.t 6,.t 23],
 oo 7 .mv [.t 24]] [])
 .ret)
 .skip)))
 (.seq (.seq
 (.reg false [oo 25 .mv [.t 2],oo 26 (.fad 0) [.t 3],oo 27 (.ld false 1) [.t 26],oo 28 .call [.f zcl,.t 25,.t 27],oo 29 (.un .not) [.t 28]] [])
 (.cond (.t 29)
 (.seq (.reg false [
 oo 30 (.build [v0,vn] []) [],
 ou (.st 2) [.t 6,.t 30],
 oo 7 .mv [ki 4]] [])
 .ret)
 .skip))
 (.seq (.reg false [oo 31 (.ld true 3) [.t 3],oo 32 (.fad 2) [.t 4],oo 33 (.ld false 1) [.t 32],oo 34 .call [.f zcp,.t 31,.t 33],ou (.st 3) [.t 3,.t 34]] [])
 (.seq (.reg true [oo 35 (.ld true 3) [.t 3],oo 36 (.fad 0) [.t 4],oo 37 (.ld false 1) [.t 36],oo 38 .call [.f zdq,.t 35,.t 37],oo 39 (.ld true 3) [.t 3],oo 40 (.ld true 3) [.t 4],oo 41 .call [.f zhj,.t 39,.t 40],oo 9 .mv [.t 38],oo 10 .mv [.t 41]] [[],[],[1],[0,2],[],[],[4,5,3],[3,6,0,1,2,3],[6,7,0,1,2,3,4,5,6,7]])
 (.seq (.reg false [oo 42 (.fad 0) [.t 3],oo 43 (.ld false 1) [.t 42],oo 44 (.bin .mul) [ki 2,.t 43],oo 45 (.bin .add) [ki 2,.t 44],oo 46 (.build [v0,vn] [(0,1)]) [.t 45],oo 11 (.alloc [v0,vn]) [],ou (.st 2) [.t 11,.t 46]] [])
 (.seq (.seq
 (.reg false [oo 12 .mv [ki 0]] [])
 (.block 0 (.loop
 (.seq (.seq
 (.reg false [oo 47 .mv [.t 12],oo 48 (.fad 0) [.t 4],oo 49 (.ld false 1) [.t 48],oo 50 .len [.t 49],oo 51 (.bin .lss) [.t 47,.t 50]] [])
 (.cond (.t 51)
 .skip
 (.exit 0)))
 (.seq (.block 1 (.seq (.reg false [oo 54 (.fad 0) [.t 4],oo 55 (.ld false 1) [.t 54],oo 56 .mv [.t 12],oo 57 (.iad 1) [.t 55,.t 56],oo 58 (.ld false 1) [.t 57],oo 13 .mv [.t 58]] [])
 (.seq (.reg false [oo 59 .mv [.t 9],oo 60 .mv [.t 13],oo 61 (.iad 1) [.t 59,.t 60],oo 62 (.ld false 1) [.t 61],oo 63 (.bin .geq) [.t 62,ki 0]] [])
 (.cond (.t 63)
 (.reg true [
 oo 64 (.fad 1) [.t 11],
 oo 65 (.ld false 1) [.t 64],
 oo 66 .mv [.t 13],
 oo 67 .call [.f zcs,.t 66],
 oo 68 .mv [.t 10],
 oo 69 .mv [.t 13],
 oo 70 (.iad 1) [.t 68,.t 69],
 oo 71 (.ld false 1) [.t 70],
 oo 72 (.build [v0,v0,v0] [(0,1),(1,1),(2,1)]) [ki 0,.t 67,.t 71],
 oo 73 (.bsl 3 1 [v0,v0,v0] [0]) [.t 72],
 oo 74 (.app 3 24) [.t 65,.t 73],
 oo 75 (.fad 1) [.t 11],
 ou (.st 1) [.t 75,.t 74]] [[],[0],[],[2],[],[],[4,5],[6],[3,7],[8],[1,9,3],[0,1,2,3,4,5,6,7,8,9,10],[11,10,10,0,1,2,3,4,5,6,7,8,9,10]])
 .skip))))
 (.reg false [oo 52 .mv [.t 12],oo 53 (.bin .add) [.t 52,ki 1],oo 12 .mv [.t 53]] []))))))
 (.seq (.seq
 (.reg false [oo 14 .mv [ki 0]] [])
 (.block 2 (.loop
 (.seq (.seq
 (.reg false [oo 76 .mv [.t 14],oo 77 (.fad 0) [.t 3],oo 78 (.ld false 1) [.t 77],oo 79 (.bin .lss) [.t 76,.t 78]] [])
 (.cond (.t 79)
 .skip
 (.exit 2)))
 (.seq (.block 3 (.seq (.reg false [oo 82 .mv [.t 9],oo 83 .mv [.t 14],oo 84 (.iad 1) [.t 82,.t 83],oo 85 (.ld false 1) [.t 84],oo 86 (.bin .geq) [.t 85,ki 0]] [])
 (.cond (.t 86)
 (.reg true [
 oo 87 (.fad 1) [.t 11],
 oo 88 (.ld false 1) [.t 87],
 oo 89 .mv [.t 14],
 oo 90 .call [.f zcs,.t 89],
 oo 91 .mv [.t 14],
 oo 92 .call [.f zes,.t 91],
 oo 93 .mv [.t 10],
 oo 94 .mv [.t 14],
 oo 95 (.iad 1) [.t 93,.t 94],
 oo 96 (.ld false 1) [.t 95],
 oo 97 (.bin .sub) [.t 96,ki 1],
 oo 98 (.build [v0,v0,v0] [(0,1),(1,1),(2,1)]) [.t 90,.t 92,.t 97],
 oo 99 (.bsl 3 1 [v0,v0,v0] [0]) [.t 98],
 oo 100 (.app 3 24) [.t 88,.t 99],
 oo 101 (.fad 1) [.t 11],
 ou (.st 1) [.t 101,.t 100]] [[],[0],[],[2],[],[4,3],[],[],[6,7],[8],[9],[3,5,10],[11],[1,12,5],[0,1,2,3,4,5,6,7,8,9,10,11,12,13],[14,13,13,0,1,2,3,4,5,6,7,8,9,10,11,12,13]])
 .skip)))
 (.reg false [oo 80 .mv [.t 14],oo 81 (.bin .add) [.t 80,ki 1],oo 14 .mv [.t 81]] []))))))
 (.seq (.seq
 (.reg false [oo 15 .mv [ki 0]] [])
 (.block 4 (.loop
 (.seq (.seq
 (.reg false [oo 102 .mv [.t 15],oo 103 .mv [.t 2],oo 104 .len [.t 103],oo 105 (.bin .lss) [.t 102,.t 104]] [])
 (.cond (.t 105)
 .skip
 (.exit 4)))
 (.seq (.block 5 (.seq (.reg false [oo 108 .mv [.t 9],oo 109 .mv [.t 2],oo 110 .mv [.t 15],oo 111 (.iad 1) [.t 109,.t 110],oo 112 (.ld false 1) [.t 111],oo 113 (.iad 1) [.t 108,.t 112],oo 114 (.ld false 1) [.t 113],oo 115 (.bin .geq) [.t 114,ki 0]] [])
 (.cond (.t 115)
 (.reg true [
 oo 116 (.fad 1) [.t 11],
 oo 117 (.ld false 1) [.t 116],
 oo 118 .mv [.t 2],
 oo 119 .mv [.t 15],
 oo 120 (.iad 1) [.t 118,.t 119],
 oo 121 (.ld false 1) [.t 120],
 oo 122 .call [.f zcs,.t 121],
 oo 123 (.build [v0,v0,v0] [(0,1),(1,1),(2,1)]) [.t 122,ki 1,ki 1],
 oo 124 (.bsl 3 1 [v0,v0,v0] [0]) [.t 123],
 oo 125 (.app 3 24) [.t 117,.t 124],
 oo 126 (.fad 1) [.t 11],
 ou (.st 1) [.t 126,.t 125]] [[],[0],[],[],[2,3],[4],[5],[6],[7],[1,8,6],[0,1,2,3,4,5,6,7,8,9],[10,9,9,0,1,2,3,4,5,6,7,8,9]])
 .skip)))
 (.reg false [oo 106 .mv [.t 15],oo 107 (.bin .add) [.t 106,ki 1],oo 15 .mv [.t 107]] []))))))
 (.seq (.seq
 (.reg false [oo 16 .mv [ki 0]] [])
 (.block 6 (.loop
 (.seq (.seq
 (.reg false [oo 127 .mv [.t 16],oo 128 (.fad 1) [.t 3],oo 129 (.ld false 1) [.t 128],oo 130 .len [.t 129],oo 131 (.bin .lss) [.t 127,.t 130]] [])
 (.cond (.t 131)
 .skip
 (.exit 6)))
 (.seq (.block 7 (.seq (.reg false [oo 134 (.fad 1) [.t 3],oo 135 (.ld false 1) [.t 134],oo 136 .mv [.t 16],oo 137 (.iad 3) [.t 135,.t 136],oo 138 (.ld true 3) [.t 137],oo 17 (.alloc [v0,v0,v0]) [],ou (.st 3) [.t 17,.t 138]] [])
 (.seq (.reg false [oo 139 .mv [.t 9],oo 140 (.fad 0) [.t 17],oo 141 (.ld false 1) [.t 140],oo 142 (.iad 1) [.t 139,.t 141],oo 143 (.ld false 1) [.t 142],oo 144 (.bin .geq) [.t 143,ki 0]] [])
 (.cond (.t 144)
 (.reg true [
 oo 145 (.fad 1) [.t 11],
 oo 146 (.ld false 1) [.t 145],
 oo 147 (.fad 0) [.t 17],
 oo 148 (.ld false 1) [.t 147],
 oo 149 .call [.f zes,.t 148],
 oo 150 (.fad 1) [.t 17],
 oo 151 (.ld false 1) [.t 150],
 oo 152 .call [.f zcs,.t 151],
 oo 153 (.build [v0,v0,v0] [(0,1),(1,1),(2,1)]) [.t 149,.t 152,ki 64],
 oo 154 (.bsl 3 1 [v0,v0,v0] [0]) [.t 153],
 oo 155 (.app 3 24) [.t 146,.t 154],
 oo 156 (.fad 1) [.t 11],
 ou (.st 1) [.t 156,.t 155]] [[],[0],[],[2],[3],[],[5],[6,4],[4,7],[8],[1,9,7],[0,1,2,3,4,5,6,7,8,9,10],[11,10,10,0,1,2,3,4,5,6,7,8,9,10]])
 .skip))))
 (.reg false [oo 132 .mv [.t 16],oo 133 (.bin .add) [.t 132,ki 1],oo 16 .mv [.t 133]] []))))))
 (.seq (.reg false [oo 157 (.ld true 2) [.t 11],ou (.st 2) [.t 6,.t 157],oo 7 .mv [ki 0]] [])
 .ret)))))))))))⟩
def zma : AFun:=⟨31,[(4,none)],
 (.seq (.reg false [oo 2 (.box 2) [.t 0],oo 4 .mv [ki 0]] [])
 (.seq (.seq
 (.reg false [oo 7 (.ld true 2) [.t 2],oo 8 .mv [.t 1],oo 9 .call [.f ze9,.t 7,.t 8],oo 10 (.un .not) [.t 9]] [])
 (.cond (.t 10)
 (.seq (.reg false [
 oo 4 .mv [ki 0]] [])
 .ret)
 .skip))
 (.seq (.reg false [oo 5 .mv [ki 0]] [])
 (.seq (.seq
 (.reg false [oo 6 .mv [ki 0]] [])
 (.block 0 (.loop
 (.seq (.seq
 (.reg false [oo 11 .mv [.t 6],oo 12 .mv [.t 1],oo 13 .len [.t 12],oo 14 (.bin .lss) [.t 11,.t 13]] [])
 (.cond (.t 14)
 .skip
 (.exit 0)))
 (.seq (.block 1 (.seq (.reg false [oo 17 (.fad 1) [.t 2],oo 18 (.ld false 1) [.t 17],oo 19 .mv [.t 6],oo 20 (.iad 3) [.t 18,.t 19],oo 21 (.fad 0) [.t 20],oo 22 (.ld false 1) [.t 21],oo 23 (.bin .eql) [.t 22,ki 0]] [])
 (.cond (.t 23)
 (.reg false [
 oo 24 .mv [.t 5],
 oo 25 .mv [.t 1],
 oo 26 .mv [.t 6],
 oo 27 (.iad 1) [.t 25,.t 26],
 oo 28 (.ld false 1) [.t 27],
 oo 29 (.bin .add) [.t 24,.t 28],
 oo 5 .mv [.t 29]] [])
 .skip)))
 (.reg false [oo 15 .mv [.t 6],oo 16 (.bin .add) [.t 15,ki 1],oo 6 .mv [.t 16]] []))))))
 (.seq (.reg false [oo 30 .mv [.t 5],oo 4 .mv [.t 30]] [])
 .ret)))))⟩
def zlX : AFun:=⟨23,[(4,none)],
 (.seq (.reg false [oo 2 (.box 2) [.t 0],oo 4 .mv [.c (.bool false)]] [])
 (.seq (.reg false [oo 5 (.ld true 2) [.t 2],oo 6 .call [.f zdV,.t 5],oo 7 (.bin .eql) [.t 6,ki 0],oo 8 .mv [.t 7],og 9 .mv [.t 1] 8,og 10 (.fad 0) [.t 2] 8,og 11 (.ld false 1) [.t 10] 8,og 12 .call [.f zcl,.t 9,.t 11] 8,oo 13 .pick [.t 8,.t 12,.c (.bool false)],oo 14 .mv [.t 13],og 15 .mv [.t 1] 14,og 16 .call [.f zaO,.t 15,ki 0] 14,oo 17 .pick [.t 14,.t 16,.c (.bool false)],oo 18 .mv [.t 17],og 19 .mv [.t 1] 18,og 20 .call [.f zaO,.t 19,ki 1] 18,og 21 (.un .not) [.t 20] 18,oo 22 .pick [.t 18,.t 21,.c (.bool false)],oo 4 .mv [.t 22]] [])
 .ret))⟩
def ziJ : AFun:=⟨46,[(4,none)],
 (.seq (.reg false [oo 2 (.box 2) [.t 0],oo 4 .mv [ki 0]] [])
 (.seq (.seq
 (.reg false [oo 7 (.ld true 2) [.t 2],oo 8 .mv [.t 1],oo 9 .call [.f zdW,.t 7,.t 8],oo 10 (.un .not) [.t 9]] [])
 (.cond (.t 10)
 (.seq (.reg false [
 oo 4 .mv [ki 0]] [])
 .ret)
 .skip))
 (.seq (.reg false [oo 5 .mv [ki 0]] [])
 (.seq (.seq
 (.reg false [oo 6 .mv [ki 0]] [])
 (.block 0 (.loop
 (.seq (.seq
 (.reg false [oo 11 .mv [.t 6],oo 12 (.fad 1) [.t 2],oo 13 (.ld false 1) [.t 12],oo 14 .len [.t 13],oo 15 (.bin .lss) [.t 11,.t 14]] [])
 (.cond (.t 15)
 .skip
 (.exit 0)))
 (.seq (.block 1 (.seq (.reg false [oo 18 .mv [.t 1],oo 19 (.fad 1) [.t 2],oo 20 (.ld false 1) [.t 19],oo 21 .mv [.t 6],oo 22 (.iad 3) [.t 20,.t 21],oo 23 (.fad 0) [.t 22],oo 24 (.ld false 1) [.t 23],oo 25 .call [.f zaO,.t 18,.t 24],oo 26 .mv [.t 25],og 27 .mv [.t 1] 26,og 28 (.fad 1) [.t 2] 26,og 29 (.ld false 1) [.t 28] 26,og 30 .mv [.t 6] 26,og 31 (.iad 3) [.t 29,.t 30] 26,og 32 (.fad 1) [.t 31] 26,og 33 (.ld false 1) [.t 32] 26,og 34 .call [.f zaO,.t 27,.t 33] 26,og 35 (.un .not) [.t 34] 26,oo 36 .pick [.t 26,.t 35,.c (.bool false)]] [])
 (.cond (.t 36)
 (.reg false [
 oo 37 .mv [.t 5],
 oo 38 (.fad 1) [.t 2],
 oo 39 (.ld false 1) [.t 38],
 oo 40 .mv [.t 6],
 oo 41 (.iad 3) [.t 39,.t 40],
 oo 42 (.fad 2) [.t 41],
 oo 43 (.ld false 1) [.t 42],
 oo 44 (.bin .add) [.t 37,.t 43],
 oo 5 .mv [.t 44]] [])
 .skip)))
 (.reg false [oo 16 .mv [.t 6],oo 17 (.bin .add) [.t 16,ki 1],oo 6 .mv [.t 17]] []))))))
 (.seq (.reg false [oo 45 .mv [.t 5],oo 4 .mv [.t 45]] [])
 .ret)))))⟩
def zlt : AFun:=⟨30,[(2,none)],
 (.seq (.reg false [oo 1 (.box 2) [.t 0],oo 2 .mv [kn]] [])
 (.seq (.reg false [oo 3 .mv [kn]] [])
 (.seq (.seq
 (.reg false [oo 4 .mv [ki 0]] [])
 (.block 0 (.loop
 (.seq (.seq
 (.reg false [oo 5 .mv [.t 4],oo 6 (.fad 1) [.t 1],oo 7 (.ld false 1) [.t 6],oo 8 .len [.t 7],oo 9 (.bin .lss) [.t 5,.t 8]] [])
 (.cond (.t 9)
 .skip
 (.exit 0)))
 (.seq (.block 1 (.seq (.reg false [oo 12 (.fad 1) [.t 1],oo 13 (.ld false 1) [.t 12],oo 14 .mv [.t 4],oo 15 (.iad 3) [.t 13,.t 14],oo 16 (.fad 1) [.t 15],oo 17 (.ld false 1) [.t 16],oo 18 (.bin .eql) [.t 17,ki 1]] [])
 (.cond (.t 18)
 (.reg false [
 oo 19 .mv [.t 3],
 oo 20 (.fad 1) [.t 1],
 oo 21 (.ld false 1) [.t 20],
 oo 22 .mv [.t 4],
 oo 23 (.iad 3) [.t 21,.t 22],
 oo 24 (.fad 0) [.t 23],
 oo 25 (.ld false 1) [.t 24],
 oo 26 (.bin .sub) [.t 25,ki 2],
 oo 27 (.bin .quo) [.t 26,ki 2],
 oo 28 .call [.f zds,.t 19,.t 27],
 oo 3 .mv [.t 28]] [])
 .skip)))
 (.reg false [oo 10 .mv [.t 4],oo 11 (.bin .add) [.t 10,ki 1],oo 4 .mv [.t 11]] []))))))
 (.seq (.reg false [oo 29 .mv [.t 3],oo 2 .mv [.t 29]] [])
 .ret))))⟩
def zpc : AFun:=⟨9,[(0,some (true,3)),(1,some (true,3))],
 (.seq (.reg false [oo 0 (.alloc [v0,vn,vn]) [],oo 1 (.alloc [vn,vn,v0]) []] [])
 (.seq (.reg false [oo 2 (.build [v0,v0,v0] [(0,1),(1,1),(2,1)]) [ki 0,ki 1,ki 1],oo 3 (.build [v0,v0,v0] [(0,1),(1,1),(2,1)]) [ki 0,ki 2,ki 1],oo 4 (.bsl 3 2 [v0,v0,v0] [0,1]) [.t 2,.t 3],oo 5 (.build [v0,vn,vn] [(0,1),(1,1)]) [ki 3,.t 4],oo 6 (.bsl 1 1 [v0] [0]) [ki 0],oo 7 (.bsl 1 2 [v0] [0,1]) [ki 2,ki 1],oo 8 (.build [vn,vn,v0] [(0,1),(1,1),(2,1)]) [.t 6,.t 7,ki 1],ou (.st 3) [.t 0,.t 5],ou (.st 3) [.t 1,.t 8]] [])
 .ret))⟩
def ziM : AFun:=⟨65,[(4,none)],
 (.seq (.reg false [oo 2 (.box 3) [.t 0],oo 3 (.box 3) [.t 1],oo 4 .mv [ki 0]] [])
 (.seq (.seq
 (.reg false [oo 8 (.ld true 3) [.t 2],oo 9 .call [.f zfo,.t 8],oo 5 .mv [.t 9]] [])
 (.seq (.reg false [oo 10 .mv [.t 5],oo 11 (.bin .neq) [.t 10,ki 0]] [])
 (.cond (.t 11)
 (.seq (.reg false [
 oo 12 .mv [.t 5],
 oo 4 .mv [.t 12]] [])
 .ret)
 .skip)))
 (.seq (.seq
 (.reg false [oo 13 (.fad 0) [.t 3],oo 14 (.ld false 1) [.t 13],oo 15 .len [.t 14],oo 16 (.bin .eql) [.t 15,ki 0],oo 17 .mv [.t 16],oh 18 (.fad 0) [.t 3] 17,oh 19 (.ld false 1) [.t 18] 17,oh 20 (.fad 0) [.t 2] 17,oh 21 (.ld false 1) [.t 20] 17,oh 22 (.bin .sub) [.t 21,ki 1] 17,oh 23 .call [.f za8,.t 19,ki 0,.t 22] 17,oh 24 (.un .not) [.t 23] 17,oo 25 .pick [.t 17,.c (.bool true),.t 24],oo 26 .mv [.t 25],oh 27 (.fad 1) [.t 3] 26,oh 28 (.ld false 1) [.t 27] 26,oh 29 .len [.t 28] 26,oh 30 .call [.f zaL,.t 29,ki 1,ki 8] 26,oh 31 (.un .not) [.t 30] 26,oo 32 .pick [.t 26,.c (.bool true),.t 31],oo 33 .mv [.t 32],oh 34 (.fad 2) [.t 3] 33,oh 35 (.ld false 1) [.t 34] 33,oh 36 .call [.f zaL,.t 35,ki 1,ki 3] 33,oh 37 (.un .not) [.t 36] 33,oo 38 .pick [.t 33,.c (.bool true),.t 37]] [])
 (.cond (.t 38)
 (.seq (.reg false [
 oo 4 .mv [ki 15]] [])
 .ret)
 .skip))
 (.seq (.seq
 (.reg false [oo 39 (.fad 1) [.t 3],oo 40 (.ld false 1) [.t 39],oo 41 .len [.t 40],oo 42 .mv [ki 0]] [])
 (.block 0 (.loop
 (.seq (.reg false [oo 43 (.bin .lss) [.t 42,.t 41]] [])
 (.seq (.cond (.t 43)
 .skip
 (.exit 0))
 (.seq (.block 1 (.seq (.reg false [oo 44 .mv [.t 42],oo 45 (.iad 1) [.t 40,.t 42],oo 46 (.ld false 1) [.t 45],oo 6 .mv [.t 44],oo 7 .mv [.t 46]] [])
 (.seq (.reg false [oo 47 .mv [.t 7],oo 48 .call [.f zaL,.t 47,ki 1,ki 1000],oo 49 (.un .not) [.t 48],oo 50 .mv [.t 49],oh 51 .mv [.t 6] 50,oh 52 (.bin .gtr) [.t 51,ki 0] 50,oh 53 .mv [.t 52] 50,og 54 .mv [.t 7] 53,og 55 (.fad 1) [.t 3] 53,og 56 (.ld false 1) [.t 55] 53,og 57 .mv [.t 6] 53,og 58 (.bin .sub) [.t 57,ki 1] 53,og 59 (.iad 1) [.t 56,.t 58] 53,og 60 (.ld false 1) [.t 59] 53,og 61 (.bin .gtr) [.t 54,.t 60] 53,oh 62 .pick [.t 53,.t 61,.c (.bool false)] 50,oo 63 .pick [.t 50,.c (.bool true),.t 62]] [])
 (.cond (.t 63)
 (.seq (.reg false [
 oo 4 .mv [ki 15]] [])
 .ret)
 .skip))))
 (.reg false [oo 64 (.bin .add) [.t 42,ki 1],oo 42 .mv [.t 64]] [])))))))
 (.seq (.reg false [oo 4 .mv [ki 0]] [])
 .ret)))))⟩
def zlk : AFun:=⟨12,[(4,none)],
 (.seq (.reg false [oo 2 (.box 3) [.t 0],oo 3 (.box 3) [.t 1],oo 4 .mv [kn]] [])
 (.seq (.reg true [oo 5 (.ld true 3) [.t 2],oo 6 (.fad 2) [.t 3],oo 7 (.ld false 1) [.t 6],oo 8 .call [.f zc7,.t 5,.t 7],oo 9 (.fad 0) [.t 3],oo 10 (.ld false 1) [.t 9],oo 11 .call [.f zdz,.t 8,.t 10],oo 4 .mv [.t 11]] [[],[],[1],[0,2],[],[4],[3,5,3],[6,6,0,1,2,3,4,5,6]])
 .ret))⟩
def zmy : AFun:=⟨14,[(4,none)],
 (.seq (.reg false [oo 4 .mv [kn]] [])
 (.seq (.reg false [oo 5 .mv [.t 0],oo 6 .mv [.t 0],oo 7 .len [.t 6],oo 8 .mv [.t 0],oo 9 .len [.t 8],oo 10 (.slc 1 false true true) [.t 5,.t 7,.t 9],oo 11 .mv [.t 1],oo 12 (.bsl 1 1 [v0] [0]) [.t 11],oo 13 (.app 1 8) [.t 10,.t 12],oo 4 .mv [.t 13]] [])
 .ret))⟩
def ziH : AFun:=⟨18,[(6,some (true,2))],
 (.seq (.reg false [oo 3 (.box 3) [.t 0],oo 4 (.box 3) [.t 1],oo 6 (.alloc [v0,vn]) []] [])
 (.seq (.reg true [oo 10 (.ld true 3) [.t 3],oo 11 (.ld true 3) [.t 4],oo 12 .mv [.t 2],oo 13 .call [.f zem,.t 12],oo 14 .call [.f zd8,.t 10,.t 11,.t 13],oo 9 .mv [.t 14],oo 15 (.ext 0) [.t 9],oo 16 (.ext 1) [.t 9],oo 7 (.alloc [v0,vn]) [],ou (.st 2) [.t 7,.t 15],oo 8 .mv [.t 16]] [[],[],[],[2],[0,1,3,3],[4],[5],[5],[],[8,6,4,0,1,2,3,4,5,6,8],[7,9,0,1,2,3,4,5,6,7,8,9]])
 (.seq (.reg false [oo 17 (.ld true 2) [.t 7],ou (.st 2) [.t 6,.t 17]] [])
 .ret)))⟩
def zkB : AFun:=⟨19,[(4,none),(5,none)],
 (.seq (.reg false [oo 2 (.box 2) [.t 0],oo 4 .mv [kn],oo 5 .mv [.c (.bool false)]] [])
 (.seq (.reg false [oo 9 (.ld true 2) [.t 2],oo 10 .call [.f ziL,.t 9],oo 8 .mv [.t 10],oo 11 (.ext 0) [.t 8],oo 12 (.ext 1) [.t 8],oo 6 .mv [.t 11],oo 7 .mv [.t 12]] [])
 (.seq (.reg false [oo 13 .mv [.t 6],oo 14 (.ld true 2) [.t 2],oo 15 .mv [.t 6],oo 16 .call [.f zeo,.t 14,.t 15],oo 17 .mv [.t 1],oo 18 (.bin .eql) [.t 16,.t 17],oo 4 .mv [.t 13],oo 5 .mv [.t 18]] [])
 .ret)))⟩
def zkZ : AFun:=⟨14,[(4,none)],
 (.seq (.reg false [oo 2 (.box 2) [.t 0],oo 4 .mv [kn]] [])
 (.seq (.reg false [oo 6 (.ld true 2) [.t 2],oo 7 .mv [.t 1],oo 8 .call [.f zfN,.t 6,.t 7],oo 9 .call [.f zbj,.t 8],oo 5 (.alloc [(.map none)]) [],ou (.st 1) [.t 5,.t 9]] [])
 (.seq (.reg false [oo 10 (.fad 0) [.t 2],oo 11 (.ld false 1) [.t 10],oo 12 (.mkf zaH) [.t 5],oo 13 .call [.f zbN,.t 11,.t 12],oo 4 .mv [.t 13]] [])
 .ret)))⟩
def zkI : AFun:=⟨30,[(4,none)],
 (.seq (.reg false [oo 2 (.box 3) [.t 0],oo 3 (.box 3) [.t 1],oo 4 .mv [kn]] [])
 (.seq (.reg true [oo 8 (.ld true 3) [.t 2],oo 9 (.fad 2) [.t 3],oo 10 (.ld false 1) [.t 9],oo 11 .call [.f zc7,.t 8,.t 10],oo 12 (.fad 0) [.t 3],oo 13 (.ld false 1) [.t 12],oo 14 .call [.f zdg,.t 11,.t 13],oo 5 .mv [.t 14]] [[],[],[1],[0,2],[],[4],[3,5,3],[6,6,0,1,2,3,4,5,6]])
 (.seq (.seq
 (.reg false [oo 15 .mv [.t 5],oo 16 .len [.t 15],oo 17 .mv [ki 0]] [])
 (.block 0 (.loop
 (.seq (.reg false [oo 18 (.bin .lss) [.t 17,.t 16]] [])
 (.seq (.cond (.t 18)
 .skip
 (.exit 0))
 (.seq (.block 1 (.seq (.reg false [oo 19 .mv [.t 17],oo 20 (.iad 1) [.t 15,.t 17],oo 21 (.ld false 1) [.t 20],oo 6 .mv [.t 19],oo 7 .mv [.t 21]] [])
 (.reg false [oo 22 .mv [.t 5],oo 23 .mv [.t 6],oo 24 (.ld true 3) [.t 3],oo 25 .mv [.t 7],oo 26 .call [.f zff,.t 24,.t 25],oo 27 (.iad 1) [.t 22,.t 23],ou (.st 1) [.t 27,.t 26]] [])))
 (.reg false [oo 28 (.bin .add) [.t 17,ki 1],oo 17 .mv [.t 28]] [])))))))
 (.seq (.reg false [oo 29 .mv [.t 5],oo 4 .mv [.t 29]] [])
 .ret))))⟩
def zho : AFun:=⟨9,[(3,none)],
 (.seq (.reg false [oo 3 .mv [.c (.bool false)]] [])
 (.seq (.reg false [oo 4 (.ld false 1) [.t 1],oo 5 .mv [.t 0],oo 6 (.iad 1) [.t 4,.t 5],oo 7 (.ld false 1) [.t 6],oo 8 (.bin .eql) [.t 7,ki 0],oo 3 .mv [.t 8]] [])
 .ret))⟩
def zj7 : AFun:=⟨70,[(4,none),(5,none)],
 (.seq (.reg false [oo 3 (.box 3) [.t 1],oo 4 .mv [kn],oo 5 .mv [.c (.bool false)]] [])
 (.seq (.reg false [oo 6 .mv [kn]] [])
 (.seq (.reg false [oo 7 .mv [ki 0],oo 8 .mv [ki 0]] [])
 (.seq (.seq
 (.reg false [oo 11 .mv [.t 0],oo 12 .len [.t 11],oo 13 .mv [ki 0]] [])
 (.block 0 (.loop
 (.seq (.reg false [oo 14 (.bin .lss) [.t 13,.t 12]] [])
 (.seq (.cond (.t 14)
 .skip
 (.exit 0))
 (.seq (.block 1 (.seq (.reg false [oo 15 (.iad 1) [.t 11,.t 13],oo 16 (.ld false 1) [.t 15],oo 10 .mv [.t 16]] [])
 (.block 2 (.seq (.reg false [oo 18 .mv [.t 7],oo 19 (.fad 0) [.t 3],oo 20 (.ld false 1) [.t 19],oo 21 .len [.t 20],oo 22 (.bin .lss) [.t 18,.t 21],oo 23 .mv [.t 22],og 24 (.fad 0) [.t 3] 23,og 25 (.ld false 1) [.t 24] 23,og 26 .mv [.t 7] 23,og 27 (.iad 1) [.t 25,.t 26] 23,og 28 (.ld false 1) [.t 27] 23,og 29 .mv [.t 10] 23,og 30 (.bin .eql) [.t 28,.t 29] 23,oo 31 .pick [.t 23,.t 30,.c (.bool false)],oo 17 .mv [.t 31]] [])
 (.cond (.t 17)
 (.reg false [
 oo 32 .mv [.t 7],
 oo 33 (.bin .add) [.t 32,ki 1],
 oo 7 .mv [.t 33]] [])
 (.seq (.reg false [
 oo 35 .mv [.t 8],
 oo 36 (.fad 2) [.t 3],
 oo 37 (.ld false 1) [.t 36],
 oo 38 .len [.t 37],
 oo 39 (.bin .lss) [.t 35,.t 38],
 oo 40 .mv [.t 39],
 og 41 (.fad 2) [.t 3] 40,
 og 42 (.ld false 1) [.t 41] 40,
 og 43 .mv [.t 8] 40,
 og 44 (.iad 2) [.t 42,.t 43] 40,
 og 45 (.fad 0) [.t 44] 40,
 og 46 (.ld false 1) [.t 45] 40,
 og 47 .mv [.t 10] 40,
 og 48 (.bin .eql) [.t 46,.t 47] 40,
 oo 49 .pick [.t 40,.t 48,.c (.bool false)],
 oo 34 .mv [.t 49]] [])
 (.cond (.t 34)
 (.seq (.reg false [
 oo 50 .mv [.t 8],
 oo 51 (.bin .add) [.t 50,ki 1],
 oo 8 .mv [.t 51]] [])
 (.reg false [
 oo 52 .mv [.t 6],
 oo 53 .mv [.t 7],
 oo 54 (.bsl 1 1 [v0] [0]) [.t 53],
 oo 55 (.app 1 8) [.t 52,.t 54],
 oo 6 .mv [.t 55]] []))
 (.seq (.reg false [
 oo 4 .mv [kn],
 oo 5 .mv [.c (.bool false)]] [])
 .ret))))))))
 (.reg false [oo 56 (.bin .add) [.t 13,ki 1],oo 13 .mv [.t 56]] [])))))))
 (.seq (.reg true [oo 57 .mv [.t 6],oo 58 .mv [.t 7],oo 59 (.fad 0) [.t 3],oo 60 (.ld false 1) [.t 59],oo 61 .len [.t 60],oo 62 (.bin .eql) [.t 58,.t 61],oo 63 .mv [.t 62],og 64 .mv [.t 8] 63,og 65 (.fad 2) [.t 3] 63,og 66 (.ld false 1) [.t 65] 63,og 67 .len [.t 66] 63,og 68 (.bin .eql) [.t 64,.t 67] 63,oo 69 .pick [.t 63,.t 68,.c (.bool false)],oo 4 .mv [.t 57],oo 5 .mv [.t 69]] [[],[],[],[2],[3],[1,4],[5],[6],[6],[8,6],[9,6],[7,10,6],[6,11],[0,6,0],[12,13,0,1,2,3,4,5,6,7,8,9,10,11,12,13]])
 .ret)))))⟩
def znq : AFun:=⟨41,[(4,none)],
 (.seq (.reg false [oo 2 (.box 2) [.t 0],oo 4 .mv [.c (.bool false)]] [])
 (.seq (.seq
 (.reg false [oo 7 (.ld true 2) [.t 2],oo 8 .call [.f zdB,.t 7],oo 9 (.bin .neq) [.t 8,ki 0],oo 10 .mv [.t 9],oh 11 .mv [.t 1] 10,oh 12 .len [.t 11] 10,oh 13 (.fad 1) [.t 2] 10,oh 14 (.ld false 1) [.t 13] 10,oh 15 .len [.t 14] 10,oh 16 (.bin .neq) [.t 12,.t 15] 10,oo 17 .pick [.t 10,.c (.bool true),.t 16]] [])
 (.cond (.t 17)
 (.seq (.reg false [
 oo 4 .mv [.c (.bool false)]] [])
 .ret)
 .skip))
 (.seq (.seq
 (.reg false [oo 18 (.fad 1) [.t 2],oo 19 (.ld false 1) [.t 18],oo 20 .len [.t 19],oo 21 .mv [ki 0]] [])
 (.block 0 (.loop
 (.seq (.reg false [oo 22 (.bin .lss) [.t 21,.t 20]] [])
 (.seq (.cond (.t 22)
 .skip
 (.exit 0))
 (.seq (.block 1 (.seq (.reg false [oo 23 .mv [.t 21],oo 24 (.iad 3) [.t 19,.t 21],oo 25 (.ld true 3) [.t 24],oo 6 (.alloc [v0,v0,v0]) [],oo 5 .mv [.t 23],ou (.st 3) [.t 6,.t 25]] [])
 (.seq (.reg true [oo 26 .mv [.t 1],oo 27 .mv [.t 5],oo 28 (.iad 1) [.t 26,.t 27],oo 29 (.ld false 1) [.t 28],oo 30 (.fad 2) [.t 6],oo 31 (.ld false 1) [.t 30],oo 32 .call [.f zaL,.t 29,ki 0,.t 31],oo 33 (.un .not) [.t 32]] [[],[],[0,1],[2],[],[4],[3,5],[6]])
 (.cond (.t 33)
 (.seq (.reg false [
 oo 4 .mv [.c (.bool false)]] [])
 .ret)
 .skip))))
 (.reg false [oo 34 (.bin .add) [.t 21,ki 1],oo 21 .mv [.t 34]] [])))))))
 (.seq (.reg false [oo 35 (.ld true 2) [.t 2],oo 36 .mv [.t 1],oo 37 .call [.f zdk,.t 35,.t 36],oo 38 (.slc 1 true false false) [.t 37,ki 2],oo 39 .call [.f zaR,.t 38,(.f zcZ)],oo 40 (.un .not) [.t 39],oo 4 .mv [.t 40]] [])
 .ret))))⟩
def zng : AFun:=⟨14,[(4,none)],
 (.seq (.reg false [oo 2 (.box 2) [.t 0],oo 4 .mv [ki 0]] [])
 (.seq (.seq
 (.reg false [oo 5 (.ld true 2) [.t 2],oo 6 .mv [.t 1],oo 7 .call [.f zeN,.t 5,.t 6],oo 8 (.un .not) [.t 7]] [])
 (.cond (.t 8)
 (.seq (.reg false [
 oo 4 .mv [ki 0]] [])
 .ret)
 .skip))
 (.seq (.reg false [oo 9 (.ld true 2) [.t 2],oo 10 .mv [.t 1],oo 11 .call [.f zdk,.t 9,.t 10],oo 12 (.iad 1) [.t 11,ki 0],oo 13 (.ld false 1) [.t 12],oo 4 .mv [.t 13]] [])
 .ret)))⟩
def zny : AFun:=⟨17,[(6,none)],
 (.seq (.reg false [oo 3 (.box 2) [.t 0],oo 6 .mv [.c (.bool false)]] [])
 (.seq (.reg false [oo 7 (.ld true 2) [.t 3],oo 8 .mv [.t 1],oo 9 .call [.f zfB,.t 7,.t 8],oo 10 .mv [.t 9],og 11 (.ld true 2) [.t 3] 10,og 12 .mv [.t 1] 10,og 13 .call [.f zeu,.t 11,.t 12] 10,og 14 .mv [.t 2] 10,og 15 (.bin .leq) [.t 13,.t 14] 10,oo 16 .pick [.t 10,.t 15,.c (.bool false)],oo 6 .mv [.t 16]] [])
 .ret))⟩
def zmR : AFun:=⟨87,[(4,none)],
 (.seq (.reg false [oo 2 (.box 2) [.t 0],oo 4 .mv [.c (.bool false)]] [])
 (.seq (.seq
 (.reg false [oo 8 (.ld true 2) [.t 2],oo 9 .call [.f zdV,.t 8],oo 10 (.bin .neq) [.t 9,ki 0],oo 11 .mv [.t 10],oh 12 .mv [.t 1] 11,oh 13 .len [.t 12] 11,oh 14 (.fad 1) [.t 2] 11,oh 15 (.ld false 1) [.t 14] 11,oh 16 .len [.t 15] 11,oh 17 (.bin .neq) [.t 13,.t 16] 11,oo 18 .pick [.t 11,.c (.bool true),.t 17]] [])
 (.cond (.t 18)
 (.seq (.reg false [
 oo 4 .mv [.c (.bool false)]] [])
 .ret)
 .skip))
 (.seq (.reg false [oo 19 (.fad 0) [.t 2],oo 20 (.ld false 1) [.t 19],oo 21 (.mks 1 8 [v0]) [.t 20,.t 20],oo 5 .mv [.t 21]] [])
 (.seq (.seq
 (.reg false [oo 6 .mv [ki 0]] [])
 (.block 0 (.loop
 (.seq (.seq
 (.reg false [oo 22 .mv [.t 6],oo 23 .mv [.t 1],oo 24 .len [.t 23],oo 25 (.bin .lss) [.t 22,.t 24]] [])
 (.cond (.t 25)
 .skip
 (.exit 0)))
 (.seq (.block 1 (.seq (.seq
 (.reg true [oo 28 .mv [.t 1],oo 29 .mv [.t 6],oo 30 (.iad 1) [.t 28,.t 29],oo 31 (.ld false 1) [.t 30],oo 32 (.bin .lss) [.t 31,ki 0],oo 33 .mv [.t 32],oh 34 .mv [.t 1] 33,oh 35 .mv [.t 6] 33,oh 36 (.iad 1) [.t 34,.t 35] 33,oh 37 (.ld false 1) [.t 36] 33,oh 38 (.fad 1) [.t 2] 33,oh 39 (.ld false 1) [.t 38] 33,oh 40 .mv [.t 6] 33,oh 41 (.iad 3) [.t 39,.t 40] 33,oh 42 (.fad 2) [.t 41] 33,oh 43 (.ld false 1) [.t 42] 33,oh 44 (.bin .gtr) [.t 37,.t 43] 33,oo 45 .pick [.t 33,.c (.bool true),.t 44]] [[],[],[0,1],[2],[3],[4],[5],[5],[6,7,5],[8,5],[5],[10,5],[5],[11,12,5],[13,5],[14,5],[9,15,5],[5,16]])
 (.cond (.t 45)
 (.seq (.reg false [
 oo 4 .mv [.c (.bool false)]] [])
 .ret)
 .skip))
 (.seq (.reg true [oo 46 .mv [.t 5],oo 47 (.fad 1) [.t 2],oo 48 (.ld false 1) [.t 47],oo 49 .mv [.t 6],oo 50 (.iad 3) [.t 48,.t 49],oo 51 (.fad 0) [.t 50],oo 52 (.ld false 1) [.t 51],oo 53 (.iad 1) [.t 46,.t 52],oo 54 (.ld false 1) [.t 53],oo 55 .mv [.t 1],oo 56 .mv [.t 6],oo 57 (.iad 1) [.t 55,.t 56],oo 58 (.ld false 1) [.t 57],oo 59 (.bin .sub) [.t 54,.t 58],oo 60 (.iad 1) [.t 46,.t 52],ou (.st 1) [.t 60,.t 59]] [[],[],[1],[],[2,3],[4],[5],[0,6],[7],[],[],[9,10],[11],[8,12],[0,6,0,1,2,3,4,5,6,7,8,9,10,11,12,13],[14,13,0,1,2,3,4,5,6,7,8,9,10,11,12,13]])
 (.reg true [oo 61 .mv [.t 5],oo 62 (.fad 1) [.t 2],oo 63 (.ld false 1) [.t 62],oo 64 .mv [.t 6],oo 65 (.iad 3) [.t 63,.t 64],oo 66 (.fad 1) [.t 65],oo 67 (.ld false 1) [.t 66],oo 68 (.iad 1) [.t 61,.t 67],oo 69 (.ld false 1) [.t 68],oo 70 .mv [.t 1],oo 71 .mv [.t 6],oo 72 (.iad 1) [.t 70,.t 71],oo 73 (.ld false 1) [.t 72],oo 74 (.bin .add) [.t 69,.t 73],oo 75 (.iad 1) [.t 61,.t 67],ou (.st 1) [.t 75,.t 74]] [[],[],[1],[],[2,3],[4],[5],[0,6],[7],[],[],[9,10],[11],[8,12],[0,6,0,1,2,3,4,5,6,7,8,9,10,11,12,13],[14,13,0,1,2,3,4,5,6,7,8,9,10,11,12,13]]))))
 (.reg false [oo 26 .mv [.t 6],oo 27 (.bin .add) [.t 26,ki 1],oo 6 .mv [.t 27]] []))))))
 (.seq (.seq
 (.reg false [oo 7 .mv [ki 2]] [])
 (.block 2 (.loop
 (.seq (.seq
 (.reg false [oo 76 .mv [.t 7],oo 77 (.fad 0) [.t 2],oo 78 (.ld false 1) [.t 77],oo 79 (.bin .lss) [.t 76,.t 78]] [])
 (.cond (.t 79)
 .skip
 (.exit 2)))
 (.seq (.block 3 (.seq (.reg false [oo 82 .mv [.t 5],oo 83 .mv [.t 7],oo 84 (.iad 1) [.t 82,.t 83],oo 85 (.ld false 1) [.t 84],oo 86 (.bin .neq) [.t 85,ki 0]] [])
 (.cond (.t 86)
 (.seq (.reg false [
 oo 4 .mv [.c (.bool false)]] [])
 .ret)
 .skip)))
 (.reg false [oo 80 .mv [.t 7],oo 81 (.bin .add) [.t 80,ki 1],oo 7 .mv [.t 81]] []))))))
 (.seq (.reg false [oo 4 .mv [.c (.bool true)]] [])
 .ret))))))⟩
def zkC : AFun:=⟨79,[(4,none)],
 (.seq (.reg false [oo 2 (.box 3) [.t 0],oo 3 (.box 3) [.t 1],oo 4 .mv [.c (.bool false)]] [])
 (.seq (.seq
 (.reg false [oo 6 (.fad 0) [.t 3],oo 7 (.ld false 1) [.t 6],oo 8 .len [.t 7],oo 9 (.bin .eql) [.t 8,ki 0],oo 10 .mv [.t 9],oh 11 (.fad 0) [.t 3] 10,oh 12 (.ld false 1) [.t 11] 10,oh 13 (.fad 0) [.t 2] 10,oh 14 (.ld false 1) [.t 13] 10,oh 15 .call [.f zcl,.t 12,.t 14] 10,oh 16 (.un .not) [.t 15] 10,oo 17 .pick [.t 10,.c (.bool true),.t 16],oo 18 .mv [.t 17],oh 19 (.fad 1) [.t 3] 18,oh 20 (.ld false 1) [.t 19] 18,oh 21 .len [.t 20] 18,oh 22 (.bin .lss) [.t 21,ki 1] 18,oo 23 .pick [.t 18,.c (.bool true),.t 22],oo 24 .mv [.t 23],oh 25 (.fad 1) [.t 3] 24,oh 26 (.ld false 1) [.t 25] 24,oh 27 .len [.t 26] 24,oh 28 (.bin .gtr) [.t 27,ki 8] 24,oo 29 .pick [.t 24,.c (.bool true),.t 28],oo 30 .mv [.t 29],oh 31 (.fad 2) [.t 3] 30,oh 32 (.ld false 1) [.t 31] 30,oh 33 (.bin .lss) [.t 32,ki 1] 30,oo 34 .pick [.t 30,.c (.bool true),.t 33],oo 35 .mv [.t 34],oh 36 (.fad 2) [.t 3] 35,oh 37 (.ld false 1) [.t 36] 35,oh 38 (.bin .gtr) [.t 37,ki 3] 35,oo 39 .pick [.t 35,.c (.bool true),.t 38]] [])
 (.cond (.t 39)
 (.seq (.reg false [
 oo 4 .mv [.c (.bool false)]] [])
 .ret)
 .skip))
 (.seq (.seq
 (.reg false [oo 5 .mv [ki 0]] [])
 (.block 0 (.loop
 (.seq (.seq
 (.reg false [oo 40 .mv [.t 5],oo 41 (.fad 1) [.t 3],oo 42 (.ld false 1) [.t 41],oo 43 .len [.t 42],oo 44 (.bin .lss) [.t 40,.t 43]] [])
 (.cond (.t 44)
 .skip
 (.exit 0)))
 (.seq (.block 1 (.seq (.reg true [oo 47 (.fad 1) [.t 3],oo 48 (.ld false 1) [.t 47],oo 49 .mv [.t 5],oo 50 (.iad 1) [.t 48,.t 49],oo 51 (.ld false 1) [.t 50],oo 52 (.bin .lss) [.t 51,ki 1],oo 53 .mv [.t 52],oh 54 (.fad 1) [.t 3] 53,oh 55 (.ld false 1) [.t 54] 53,oh 56 .mv [.t 5] 53,oh 57 (.iad 1) [.t 55,.t 56] 53,oh 58 (.ld false 1) [.t 57] 53,oh 59 (.bin .gtr) [.t 58,ki 1000] 53,oo 60 .pick [.t 53,.c (.bool true),.t 59],oo 61 .mv [.t 60],oh 62 .mv [.t 5] 61,oh 63 (.bin .gtr) [.t 62,ki 0] 61,oh 64 .mv [.t 63] 61,og 65 (.fad 1) [.t 3] 64,og 66 (.ld false 1) [.t 65] 64,og 67 .mv [.t 5] 64,og 68 (.iad 1) [.t 66,.t 67] 64,og 69 (.ld false 1) [.t 68] 64,og 70 (.fad 1) [.t 3] 64,og 71 (.ld false 1) [.t 70] 64,og 72 .mv [.t 5] 64,og 73 (.bin .sub) [.t 72,ki 1] 64,og 74 (.iad 1) [.t 71,.t 73] 64,og 75 (.ld false 1) [.t 74] 64,og 76 (.bin .gtr) [.t 69,.t 75] 64,oh 77 .pick [.t 64,.t 76,.c (.bool false)] 61,oo 78 .pick [.t 61,.c (.bool true),.t 77]] [[],[0],[],[1,2],[3],[4],[5],[6],[7,6],[6],[8,9,6],[10,6],[11,6],[6,12],[13,6],[14],[15,14],[16,14,14],[17],[18,17],[17],[19,20,17],[21,17],[17],[23,17],[17],[25,17],[24,26,17],[27,17],[22,28,17],[17,29,14],[14,30]])
 (.cond (.t 78)
 (.seq (.reg false [
 oo 4 .mv [.c (.bool false)]] [])
 .ret)
 .skip)))
 (.reg false [oo 45 .mv [.t 5],oo 46 (.bin .add) [.t 45,ki 1],oo 5 .mv [.t 46]] []))))))
 (.seq (.reg false [oo 4 .mv [.c (.bool true)]] [])
 .ret))))⟩
def zqf : AFun:=⟨17,[(4,none)],
 (.seq (.reg false [oo 2 (.box 3) [.t 0],oo 4 .mv [ki 0]] [])
 (.seq (.seq
 (.reg false [oo 5 .mv [.t 1],oo 6 (.bin .lss) [.t 5,ki 0]] [])
 (.cond (.t 6)
 (.seq (.reg false [
 oo 4 .mv [ki 0]] [])
 .ret)
 .skip))
 (.seq (.seq
 (.reg false [oo 7 .mv [.t 1],oo 8 (.fad 1) [.t 2],oo 9 (.ld false 1) [.t 8],oo 10 .len [.t 9],oo 11 (.bin .lss) [.t 7,.t 10]] [])
 (.cond (.t 11)
 (.seq (.reg false [
 oo 12 (.fad 1) [.t 2],
 oo 13 (.ld false 1) [.t 12],
 oo 14 .mv [.t 1],
 oo 15 (.iad 1) [.t 13,.t 14],
 oo 16 (.ld false 1) [.t 15],
 oo 4 .mv [.t 16]] [])
 .ret)
 .skip))
 (.seq (.reg false [oo 4 .mv [ki 1]] [])
 .ret))))⟩
def zmG : AFun:=⟨6,[(2,none)],
 (.seq (.reg false [oo 2 .mv [ki 0]] [])
 (.seq (.reg false [oo 3 .mv [.t 0],oo 4 (.bin .mul) [ki 2,.t 3],oo 5 (.bin .add) [ki 2,.t 4],oo 2 .mv [.t 5]] [])
 .ret))⟩
def znn : AFun:=⟨6,[(2,none)],
 (.seq (.reg false [oo 2 .mv [ki 0]] [])
 (.seq (.reg false [oo 3 .mv [.t 0],oo 4 (.bin .mul) [ki 2,.t 3],oo 5 (.bin .add) [ki 3,.t 4],oo 2 .mv [.t 5]] [])
 .ret))⟩
def zl2 : AFun:=⟨80,[(2,none)],
 (.seq (.reg false [oo 1 (.box 2) [.t 0],oo 2 .mv [ki 0]] [])
 (.seq (.seq
 (.reg false [oo 5 (.fad 0) [.t 1],oo 6 (.ld false 1) [.t 5],oo 7 (.bin .lss) [.t 6,ki 2],oo 8 .mv [.t 7],oh 9 (.fad 0) [.t 1] 8,oh 10 (.ld false 1) [.t 9] 8,oh 11 (.bin .gtr) [.t 10,ki 130] 8,oo 12 .pick [.t 8,.c (.bool true),.t 11],oo 13 .mv [.t 12],oh 14 (.fad 1) [.t 1] 13,oh 15 (.ld false 1) [.t 14] 13,oh 16 .len [.t 15] 13,oh 17 (.bin .gtr) [.t 16,ki 1200] 13,oo 18 .pick [.t 13,.c (.bool true),.t 17]] [])
 (.cond (.t 18)
 (.seq (.reg false [
 oo 2 .mv [ki 16]] [])
 .ret)
 .skip))
 (.seq (.seq
 (.reg false [oo 3 .mv [ki 0]] [])
 (.block 0 (.loop
 (.seq (.seq
 (.reg false [oo 19 .mv [.t 3],oo 20 (.fad 1) [.t 1],oo 21 (.ld false 1) [.t 20],oo 22 .len [.t 21],oo 23 (.bin .lss) [.t 19,.t 22]] [])
 (.cond (.t 23)
 .skip
 (.exit 0)))
 (.seq (.block 1 (.seq (.reg false [oo 26 (.fad 1) [.t 1],oo 27 (.ld false 1) [.t 26],oo 28 .mv [.t 3],oo 29 (.iad 3) [.t 27,.t 28],oo 30 (.ld true 3) [.t 29],oo 4 (.alloc [v0,v0,v0]) [],ou (.st 3) [.t 4,.t 30]] [])
 (.seq (.reg false [oo 31 (.fad 0) [.t 4],oo 32 (.ld false 1) [.t 31],oo 33 (.bin .lss) [.t 32,ki 0],oo 34 .mv [.t 33],oh 35 (.fad 0) [.t 4] 34,oh 36 (.ld false 1) [.t 35] 34,oh 37 (.fad 0) [.t 1] 34,oh 38 (.ld false 1) [.t 37] 34,oh 39 (.bin .geq) [.t 36,.t 38] 34,oo 40 .pick [.t 34,.c (.bool true),.t 39],oo 41 .mv [.t 40],oh 42 (.fad 1) [.t 4] 41,oh 43 (.ld false 1) [.t 42] 41,oh 44 (.bin .lss) [.t 43,ki 0] 41,oo 45 .pick [.t 41,.c (.bool true),.t 44],oo 46 .mv [.t 45],oh 47 (.fad 1) [.t 4] 46,oh 48 (.ld false 1) [.t 47] 46,oh 49 (.fad 0) [.t 1] 46,oh 50 (.ld false 1) [.t 49] 46,oh 51 (.bin .geq) [.t 48,.t 50] 46,oo 52 .pick [.t 46,.c (.bool true),.t 51],oo 53 .mv [.t 52],oh 54 (.fad 0) [.t 4] 53,oh 55 (.ld false 1) [.t 54] 53,oh 56 (.fad 1) [.t 4] 53,oh 57 (.ld false 1) [.t 56] 53,oh 58 (.bin .eql) [.t 55,.t 57] 53,oo 59 .pick [.t 53,.c (.bool true),.t 58],oo 60 .mv [.t 59],oh 61 (.fad 1) [.t 4] 60,oh 62 (.ld false 1) [.t 61] 60,oh 63 (.bin .eql) [.t 62,ki 0] 60,oo 64 .pick [.t 60,.c (.bool true),.t 63],oo 65 .mv [.t 64],oh 66 (.fad 0) [.t 4] 65,oh 67 (.ld false 1) [.t 66] 65,oh 68 (.bin .eql) [.t 67,ki 1] 65,oo 69 .pick [.t 65,.c (.bool true),.t 68],oo 70 .mv [.t 69],oh 71 (.fad 2) [.t 4] 70,oh 72 (.ld false 1) [.t 71] 70,oh 73 (.bin .lss) [.t 72,ki 0] 70,oo 74 .pick [.t 70,.c (.bool true),.t 73],oo 75 .mv [.t 74],oh 76 (.fad 2) [.t 4] 75,oh 77 (.ld false 1) [.t 76] 75,oh 78 (.bin .gtr) [.t 77,ki 1048576] 75,oo 79 .pick [.t 75,.c (.bool true),.t 78]] [])
 (.cond (.t 79)
 (.seq (.reg false [
 oo 2 .mv [ki 16]] [])
 .ret)
 .skip))))
 (.reg false [oo 24 .mv [.t 3],oo 25 (.bin .add) [.t 24,ki 1],oo 3 .mv [.t 25]] []))))))
 (.seq (.reg false [oo 2 .mv [ki 0]] [])
 .ret))))⟩
def zjY : AFun:=⟨123,[(6,some (true,2)),(7,none)],
 (.seq (.reg false [oo 3 (.box 3) [.t 0],oo 4 (.box 3) [.t 1],oo 6 (.alloc [v0,vn]) [],oo 7 .mv [ki 0]] [])
 (.seq (.seq
 (.reg false [oo 20 (.ld true 3) [.t 3],oo 21 (.ld true 3) [.t 4],oo 22 .call [.f zbs,.t 20,.t 21],oo 8 .mv [.t 22]] [])
 (.seq (.reg false [oo 23 .mv [.t 8],oo 24 (.bin .neq) [.t 23,ki 0]] [])
 (.cond (.t 24)
 (.seq (.reg false [
 oo 25 (.build [v0,vn] []) [],
 oo 26 .mv [.t 8],
 ou (.st 2) [.t 6,.t 25],
 oo 7 .mv [.t 26]] [])
 .ret)
 .skip)))
 (.seq (.seq
 (.reg false [oo 27 .mv [.t 2],oo 28 (.fad 0) [.t 3],oo 29 (.ld false 1) [.t 28],oo 30 (.bin .sub) [.t 29,ki 1],oo 31 .call [.f za8,.t 27,ki 0,.t 30],oo 32 (.un .not) [.t 31]] [])
 (.cond (.t 32)
 (.seq (.reg false [
 oo 33 (.build [v0,vn] []) [],
 ou (.st 2) [.t 6,.t 33],
 oo 7 .mv [ki 4]] [])
 .ret)
 .skip))
 (.seq (.reg false [oo 34 (.fad 0) [.t 3],oo 35 (.ld false 1) [.t 34],oo 36 .call [.f zbz,.t 35],oo 37 (.build [v0,vn] [(0,1)]) [.t 36],oo 9 (.alloc [v0,vn]) [],ou (.st 2) [.t 9,.t 37]] [])
 (.seq (.reg false [oo 38 (.mkf zaF) [.t 9],oo 10 .mv [.t 38]] [])
 (.seq (.reg false [oo 39 (.ld true 3) [.t 3],oo 40 (.ld true 3) [.t 4],oo 41 .call [.f zdi,.t 39,.t 40],oo 11 .mv [.t 41]] [])
 (.seq (.seq
 (.reg false [oo 42 (.fad 0) [.t 4],oo 43 (.ld false 1) [.t 42],oo 44 .len [.t 43],oo 45 .mv [ki 0]] [])
 (.block 0 (.loop
 (.seq (.reg false [oo 46 (.bin .lss) [.t 45,.t 44]] [])
 (.seq (.cond (.t 46)
 .skip
 (.exit 0))
 (.seq (.block 1 (.seq (.reg false [oo 47 (.iad 1) [.t 43,.t 45],oo 48 (.ld false 1) [.t 47],oo 13 .mv [.t 48]] [])
 (.seq (.reg false [oo 49 .mv [.t 11],oo 50 .mv [.t 13],oo 51 (.iad 1) [.t 49,.t 50],oo 52 (.ld false 1) [.t 51],oo 53 (.bin .gtr) [.t 52,ki 0]] [])
 (.cond (.t 53)
 (.reg true [
 oo 54 .mv [.t 10],
 oo 55 .mv [.t 13],
 oo 56 .call [.f zbz,.t 55],
 oo 57 .mv [.t 11],
 oo 58 .mv [.t 13],
 oo 59 (.iad 1) [.t 57,.t 58],
 oo 60 (.ld false 1) [.t 59],
 oo 61 .call [.t 54,ki 0,.t 56,.t 60]] [[],[],[1],[],[],[3,4],[5],[0,2,6,2]])
 .skip))))
 (.reg false [oo 62 (.bin .add) [.t 45,ki 1],oo 45 .mv [.t 62]] [])))))))
 (.seq (.seq
 (.reg false [oo 63 .mv [.t 11],oo 64 .len [.t 63],oo 65 .mv [ki 0]] [])
 (.block 2 (.loop
 (.seq (.reg false [oo 66 (.bin .lss) [.t 65,.t 64]] [])
 (.seq (.cond (.t 66)
 .skip
 (.exit 2))
 (.seq (.block 3 (.seq (.reg false [oo 67 .mv [.t 65],oo 68 (.iad 1) [.t 63,.t 65],oo 69 (.ld false 1) [.t 68],oo 14 .mv [.t 67],oo 15 .mv [.t 69]] [])
 (.seq (.reg false [oo 70 .mv [.t 15],oo 71 (.bin .gtr) [.t 70,ki 0]] [])
 (.cond (.t 71)
 (.reg false [
 oo 72 .mv [.t 10],
 oo 73 .mv [.t 14],
 oo 74 .call [.f zbz,.t 73],
 oo 75 .mv [.t 14],
 oo 76 .call [.f zeM,.t 75],
 oo 77 .mv [.t 15],
 oo 78 (.bin .sub) [.t 77,ki 1],
 oo 79 .call [.t 72,.t 74,.t 76,.t 78]] [])
 .skip))))
 (.reg false [oo 80 (.bin .add) [.t 65,ki 1],oo 65 .mv [.t 80]] [])))))))
 (.seq (.seq
 (.reg false [oo 81 .mv [.t 2],oo 82 .len [.t 81],oo 83 .mv [ki 0]] [])
 (.block 4 (.loop
 (.seq (.reg false [oo 84 (.bin .lss) [.t 83,.t 82]] [])
 (.seq (.cond (.t 84)
 .skip
 (.exit 4))
 (.seq (.block 5 (.seq (.reg false [oo 85 (.iad 1) [.t 81,.t 83],oo 86 (.ld false 1) [.t 85],oo 17 .mv [.t 86]] [])
 (.seq (.reg false [oo 87 .mv [.t 11],oo 88 .mv [.t 17],oo 89 (.iad 1) [.t 87,.t 88],oo 90 (.ld false 1) [.t 89],oo 91 (.bin .gtr) [.t 90,ki 0]] [])
 (.cond (.t 91)
 (.reg false [
 oo 92 .mv [.t 10],
 oo 93 .mv [.t 17],
 oo 94 .call [.f zbz,.t 93],
 oo 95 .call [.t 92,.t 94,ki 1,ki 1]] [])
 .skip))))
 (.reg false [oo 96 (.bin .add) [.t 83,ki 1],oo 83 .mv [.t 96]] [])))))))
 (.seq (.seq
 (.reg false [oo 97 (.ld true 3) [.t 3],oo 98 (.fad 2) [.t 4],oo 99 (.ld false 1) [.t 98],oo 100 .call [.f zc7,.t 97,.t 99],oo 101 (.fld false 1 1) [.t 100],oo 102 .len [.t 101],oo 103 .mv [ki 0]] [])
 (.block 6 (.loop
 (.seq (.reg false [oo 104 (.bin .lss) [.t 103,.t 102]] [])
 (.seq (.cond (.t 104)
 .skip
 (.exit 6))
 (.seq (.block 7 (.seq (.reg false [oo 105 (.iad 3) [.t 101,.t 103],oo 106 (.ld true 3) [.t 105],oo 19 (.alloc [v0,v0,v0]) [],ou (.st 3) [.t 19,.t 106]] [])
 (.seq (.reg false [oo 107 .mv [.t 11],oo 108 (.fad 0) [.t 19],oo 109 (.ld false 1) [.t 108],oo 110 (.iad 1) [.t 107,.t 109],oo 111 (.ld false 1) [.t 110],oo 112 (.bin .gtr) [.t 111,ki 0]] [])
 (.cond (.t 112)
 (.reg true [
 oo 113 .mv [.t 10],
 oo 114 (.fad 0) [.t 19],
 oo 115 (.ld false 1) [.t 114],
 oo 116 .call [.f zeM,.t 115],
 oo 117 (.fad 1) [.t 19],
 oo 118 (.ld false 1) [.t 117],
 oo 119 .call [.f zbz,.t 118],
 oo 120 .call [.t 113,.t 116,.t 119,ki 64]] [[],[],[1],[2],[],[4],[5,3],[0,3,6,6]])
 .skip))))
 (.reg false [oo 121 (.bin .add) [.t 103,ki 1],oo 103 .mv [.t 121]] [])))))))
 (.seq (.reg false [oo 122 (.ld true 2) [.t 9],ou (.st 2) [.t 6,.t 122],oo 7 .mv [ki 0]] [])
 .ret)))))))))))⟩
def zlx : AFun:=⟨6,[(2,none)],
 (.seq (.reg false [oo 2 .mv [kn]] [])
 (.seq (.reg false [oo 3 .mv [.t 0],oo 4 .call [.f zbD,.t 3],oo 5 .call [.f zbL,.t 4],oo 2 .mv [.t 5]] [])
 .ret))⟩
def zpR : AFun:=⟨16,[(2,none),(3,none)],
 (.seq (.reg false [oo 1 (.box 2) [.t 0],oo 2 .mv [kn],oo 3 .mv [ki 0]] [])
 (.seq (.seq
 (.reg false [oo 5 (.ld true 2) [.t 1],oo 6 .call [.f zdB,.t 5],oo 4 .mv [.t 6]] [])
 (.seq (.reg false [oo 7 .mv [.t 4],oo 8 (.bin .neq) [.t 7,ki 0]] [])
 (.cond (.t 8)
 (.seq (.reg false [
 oo 9 .mv [.t 4],
 oo 2 .mv [kn],
 oo 3 .mv [.t 9]] [])
 .ret)
 .skip)))
 (.seq (.reg true [oo 10 (.ld true 2) [.t 1],oo 11 (.fad 1) [.t 1],oo 12 (.ld false 1) [.t 11],oo 13 .len [.t 12],oo 14 (.mks 1 8 [v0]) [.t 13,.t 13],oo 15 .call [.f zhe,.t 10,.t 14],oo 2 .mv [.t 15],oo 3 .mv [ki 0]] [[],[],[1],[2],[3,3],[0,4],[5,5,0,1,2,3,4,5],[6,0,1,2,3,4,5,6]])
 .ret)))⟩
def zpb : AFun:=⟨54,[(4,some (true,4))],
 (.seq (.reg false [oo 2 (.box 2) [.t 0],oo 4 (.alloc [v0,vn,vn,vn]) []] [])
 (.seq (.reg true [oo 8 (.ld true 2) [.t 2],oo 9 .mv [.t 1],oo 10 (.fad 0) [.t 2],oo 11 (.ld false 1) [.t 10],oo 12 (.mks 1 24 [vn]) [.t 11,.t 11],oo 13 (.build [v0,vn,vn,vn] [(0,2),(2,1),(3,1)]) [.t 8,.t 9,.t 12],oo 5 (.alloc [v0,vn,vn,vn]) [],ou (.st 4) [.t 5,.t 13]] [[],[],[],[2],[3,3],[0,1,4],[],[6,5,0,1,2,3,4,5,6]])
 (.seq (.seq
 (.reg false [oo 14 (.fad 1) [.t 2],oo 15 (.ld false 1) [.t 14],oo 16 .len [.t 15],oo 17 .mv [ki 0]] [])
 (.block 0 (.loop
 (.seq (.reg false [oo 18 (.bin .lss) [.t 17,.t 16]] [])
 (.seq (.cond (.t 18)
 .skip
 (.exit 0))
 (.seq (.block 1 (.seq (.reg false [oo 19 .mv [.t 17],oo 20 (.iad 3) [.t 15,.t 17],oo 21 (.ld true 3) [.t 20],oo 7 (.alloc [v0,v0,v0]) [],oo 6 .mv [.t 19],ou (.st 3) [.t 7,.t 21]] [])
 (.seq (.reg true [oo 22 (.fad 3) [.t 5],oo 23 (.ld false 1) [.t 22],oo 24 (.fad 0) [.t 7],oo 25 (.ld false 1) [.t 24],oo 26 (.fad 3) [.t 5],oo 27 (.ld false 1) [.t 26],oo 28 (.fad 0) [.t 7],oo 29 (.ld false 1) [.t 28],oo 30 (.iad 1) [.t 27,.t 29],oo 31 (.ld false 1) [.t 30],oo 32 .mv [.t 6],oo 33 (.build [v0,(.bool false)] [(0,1),(1,1)]) [.t 32,.c (.bool false)],oo 34 (.bsl 2 1 [v0,(.bool false)] [0]) [.t 33],oo 35 (.app 2 16) [.t 31,.t 34],oo 36 (.iad 1) [.t 23,.t 25],ou (.st 1) [.t 36,.t 35]] [[],[0],[],[2],[],[4],[],[6],[5,7],[8],[],[10],[11],[9,12],[1,3,0,1,2,3,4,5,6,7,8,9,10,11,12,13],[14,13,13,0,1,2,3,4,5,6,7,8,9,10,11,12,13]])
 (.reg true [oo 37 (.fad 3) [.t 5],oo 38 (.ld false 1) [.t 37],oo 39 (.fad 1) [.t 7],oo 40 (.ld false 1) [.t 39],oo 41 (.fad 3) [.t 5],oo 42 (.ld false 1) [.t 41],oo 43 (.fad 1) [.t 7],oo 44 (.ld false 1) [.t 43],oo 45 (.iad 1) [.t 42,.t 44],oo 46 (.ld false 1) [.t 45],oo 47 .mv [.t 6],oo 48 (.build [v0,(.bool false)] [(0,1),(1,1)]) [.t 47,.c (.bool true)],oo 49 (.bsl 2 1 [v0,(.bool false)] [0]) [.t 48],oo 50 (.app 2 16) [.t 46,.t 49],oo 51 (.iad 1) [.t 38,.t 40],ou (.st 1) [.t 51,.t 50]] [[],[0],[],[2],[],[4],[],[6],[5,7],[8],[],[10],[11],[9,12],[1,3,0,1,2,3,4,5,6,7,8,9,10,11,12,13],[14,13,13,0,1,2,3,4,5,6,7,8,9,10,11,12,13]]))))
 (.reg false [oo 52 (.bin .add) [.t 17,ki 1],oo 17 .mv [.t 52]] [])))))))
 (.seq (.reg false [oo 53 (.ld true 4) [.t 5],ou (.st 4) [.t 4,.t 53]] [])
 .ret))))⟩
def zfc : AFun:=⟨59,[(2,none)],
 (.seq (.reg false [oo 1 (.box 4) [.t 0],oo 2 .mv [(.c (.map none))]] [])
 (.seq (.reg false [oo 11 .mkm [],oo 12 (.build [v0,(.bool false)] [(0,1)]) [ki (-1)],ou .mup [.t 11,ki 0,.t 12],oo 13 .mv [.t 11],oo 3 .mv [.t 13]] [])
 (.seq (.seq
 (.reg false [oo 14 (.bsl 1 1 [v0] [0]) [ki 0],oo 4 .mv [.t 14]] [])
 (.block 0 (.loop
 (.seq (.seq
 (.reg false [oo 15 .mv [.t 4],oo 16 .len [.t 15],oo 17 (.bin .gtr) [.t 16,ki 0]] [])
 (.cond (.t 17)
 .skip
 (.exit 0)))
 (.seq (.block 1 (.seq (.reg true [oo 20 (.fad 3) [.t 1],oo 21 (.ld false 1) [.t 20],oo 22 .mv [.t 4],oo 23 (.iad 1) [.t 22,ki 0],oo 24 (.ld false 1) [.t 23],oo 25 (.iad 1) [.t 21,.t 24],oo 26 (.ld false 1) [.t 25],oo 27 .len [.t 26],oo 28 .mv [ki 0]] [[],[0],[],[2],[3],[1,4],[5],[6],[]])
 (.block 2 (.loop
 (.seq (.reg false [oo 29 (.bin .lss) [.t 28,.t 27]] [])
 (.seq (.cond (.t 29)
 .skip
 (.exit 2))
 (.seq (.block 3 (.seq (.reg false [oo 30 (.iad 2) [.t 26,.t 28],oo 31 (.ld true 2) [.t 30],oo 6 (.alloc [v0,(.bool false)]) [],ou (.st 2) [.t 6,.t 31]] [])
 (.seq (.reg false [oo 33 (.ld true 4) [.t 1],oo 34 (.ld true 2) [.t 6],oo 35 .call [.f zbB,.t 33,.t 34],oo 32 .mv [.t 35],oo 36 (.ext 0) [.t 32],oo 37 (.ext 1) [.t 32],oo 7 .mv [.t 36],oo 8 .mv [.t 37]] [])
 (.seq (.reg false [oo 39 .mv [.t 3],oo 40 .mv [.t 8],oo 41 (.mlk (.agg #[v0,(.bool false)]) true) [.t 39,.t 40],oo 38 .mv [.t 41],oo 42 (.ext 0) [.t 38],oo 43 (.ext 1) [.t 38],oo 9 (.alloc [v0,(.bool false)]) [],ou (.st 2) [.t 9,.t 42],oo 10 .mv [.t 43]] [])
 (.seq (.reg false [oo 44 .mv [.t 7],oo 45 (.bin .gtr) [.t 44,ki 0],oo 46 .mv [.t 45],og 47 .mv [.t 10] 46,og 48 (.un .not) [.t 47] 46,oo 49 .pick [.t 46,.t 48,.c (.bool false)]] [])
 (.cond (.t 49)
 (.seq (.reg false [
 oo 50 .mv [.t 3],
 oo 51 .mv [.t 8],
 oo 52 (.ld true 2) [.t 6],
 ou .mup [.t 50,.t 51,.t 52]] [])
 (.reg false [
 oo 53 .mv [.t 4],
 oo 54 .mv [.t 8],
 oo 55 (.bsl 1 1 [v0] [0]) [.t 54],
 oo 56 (.app 1 8) [.t 53,.t 55],
 oo 4 .mv [.t 56]] []))
 .skip))))))
 (.reg false [oo 57 (.bin .add) [.t 28,ki 1],oo 28 .mv [.t 57]] []))))))))
 (.reg false [oo 18 .mv [.t 4],oo 19 (.slc 1 true false false) [.t 18,ki 1],oo 4 .mv [.t 19]] []))))))
 (.seq (.reg false [oo 58 .mv [.t 3],oo 2 .mv [.t 58]] [])
 .ret))))⟩
def zh6 : AFun:=⟨13,[(3,none)],
 (.seq (.reg false [oo 3 .mv [.c (.bool false)]] [])
 (.seq (.reg false [oo 7 (.ld false 1) [.t 1],oo 8 .mv [.t 0],oo 9 (.mlk (.agg #[v0,(.bool false)]) true) [.t 7,.t 8],oo 6 .mv [.t 9],oo 10 (.ext 0) [.t 6],oo 11 (.ext 1) [.t 6],oo 4 (.alloc [v0,(.bool false)]) [],ou (.st 2) [.t 4,.t 10],oo 5 .mv [.t 11]] [])
 (.seq (.reg false [oo 12 .mv [.t 5],oo 3 .mv [.t 12]] [])
 .ret)))⟩
def zmz : AFun:=⟨19,[(4,none)],
 (.seq (.reg false [oo 2 (.box 3) [.t 0],oo 4 .mv [ki 0]] [])
 (.seq (.block 0 (.seq (.reg false [oo 6 .mv [.t 1],oo 7 (.bin .lss) [.t 6,ki 0],oo 5 .mv [.t 7]] [])
 (.cond (.t 5)
 (.seq (.reg false [
 oo 4 .mv [ki 0]] [])
 .ret)
 (.seq (.reg false [
 oo 9 .mv [.t 1],
 oo 10 (.fad 1) [.t 2],
 oo 11 (.ld false 1) [.t 10],
 oo 12 .len [.t 11],
 oo 13 (.bin .lss) [.t 9,.t 12],
 oo 8 .mv [.t 13]] [])
 (.cond (.t 8)
 (.seq (.reg false [
 oo 14 (.fad 1) [.t 2],
 oo 15 (.ld false 1) [.t 14],
 oo 16 .mv [.t 1],
 oo 17 (.iad 1) [.t 15,.t 16],
 oo 18 (.ld false 1) [.t 17],
 oo 4 .mv [.t 18]] [])
 .ret)
 .skip)))))
 (.seq (.reg false [oo 4 .mv [ki 1]] [])
 .ret)))⟩
def znU : AFun:=⟨21,[(2,none)],
 (.seq (.reg false [oo 1 (.box 2) [.t 0],oo 2 .mv [ki 0]] [])
 (.seq (.reg false [oo 4 (.mkf zcW) [.t 1],oo 3 .mv [.t 4]] [])
 (.seq (.seq
 (.reg false [oo 5 (.fad 0) [.t 1],oo 6 (.ld false 1) [.t 5],oo 7 .call [.f zaL,.t 6,ki 2,ki 130],oo 8 (.un .not) [.t 7],oo 9 .mv [.t 8],oh 10 (.fad 1) [.t 1] 9,oh 11 (.ld false 1) [.t 10] 9,oh 12 .len [.t 11] 9,oh 13 (.bin .gtr) [.t 12,ki 1200] 9,oo 14 .pick [.t 9,.c (.bool true),.t 13],oo 15 .mv [.t 14],oh 16 (.fad 1) [.t 1] 15,oh 17 (.ld false 1) [.t 16] 15,oh 18 .mv [.t 3] 15,oh 19 .call [.f zaN,.t 17,.t 18] 15,oo 20 .pick [.t 15,.c (.bool true),.t 19]] [])
 (.cond (.t 20)
 (.seq (.reg false [
 oo 2 .mv [ki 16]] [])
 .ret)
 .skip))
 (.seq (.reg false [oo 2 .mv [ki 0]] [])
 .ret))))⟩
def zlp : AFun:=⟨43,[(4,none)],
 (.seq (.reg false [oo 2 (.box 2) [.t 0],oo 4 .mv [kn]] [])
 (.seq (.reg false [oo 8 (.fad 0) [.t 2],oo 9 (.ld false 1) [.t 8],oo 10 (.mks 1 8 [v0]) [.t 9,.t 9],oo 5 .mv [.t 10]] [])
 (.seq (.seq
 (.reg false [oo 11 (.fad 1) [.t 2],oo 12 (.ld false 1) [.t 11],oo 13 .len [.t 12],oo 14 .mv [ki 0]] [])
 (.block 0 (.loop
 (.seq (.reg false [oo 15 (.bin .lss) [.t 14,.t 13]] [])
 (.seq (.cond (.t 15)
 .skip
 (.exit 0))
 (.seq (.block 1 (.seq (.reg false [oo 16 .mv [.t 14],oo 17 (.iad 3) [.t 12,.t 14],oo 18 (.ld true 3) [.t 17],oo 7 (.alloc [v0,v0,v0]) [],oo 6 .mv [.t 16],ou (.st 3) [.t 7,.t 18]] [])
 (.seq (.reg true [oo 19 .mv [.t 5],oo 20 (.fad 0) [.t 7],oo 21 (.ld false 1) [.t 20],oo 22 (.iad 1) [.t 19,.t 21],oo 23 (.ld false 1) [.t 22],oo 24 .mv [.t 1],oo 25 .mv [.t 6],oo 26 (.iad 1) [.t 24,.t 25],oo 27 (.ld false 1) [.t 26],oo 28 (.bin .add) [.t 23,.t 27],oo 29 (.iad 1) [.t 19,.t 21],ou (.st 1) [.t 29,.t 28]] [[],[],[1],[0,2],[3],[],[],[5,6],[7],[4,8],[0,2,0,1,2,3,4,5,6,7,8,9],[10,9,0,1,2,3,4,5,6,7,8,9]])
 (.reg true [oo 30 .mv [.t 5],oo 31 (.fad 1) [.t 7],oo 32 (.ld false 1) [.t 31],oo 33 (.iad 1) [.t 30,.t 32],oo 34 (.ld false 1) [.t 33],oo 35 .mv [.t 1],oo 36 .mv [.t 6],oo 37 (.iad 1) [.t 35,.t 36],oo 38 (.ld false 1) [.t 37],oo 39 (.bin .sub) [.t 34,.t 38],oo 40 (.iad 1) [.t 30,.t 32],ou (.st 1) [.t 40,.t 39]] [[],[],[1],[0,2],[3],[],[],[5,6],[7],[4,8],[0,2,0,1,2,3,4,5,6,7,8,9],[10,9,0,1,2,3,4,5,6,7,8,9]]))))
 (.reg false [oo 41 (.bin .add) [.t 14,ki 1],oo 14 .mv [.t 41]] [])))))))
 (.seq (.reg false [oo 42 .mv [.t 5],oo 4 .mv [.t 42]] [])
 .ret))))⟩
def zjV : AFun:=⟨5,[(2,none)],
 (.seq (.reg false [oo 2 .mv [.c (.bool false)]] [])
 (.seq (.reg false [oo 3 .mv [.t 0],oo 4 (.bin .neq) [.t 3,ki 0],oo 2 .mv [.t 4]] [])
 .ret))⟩
def zpd : AFun:=⟨24,[(4,none)],
 (.seq (.reg false [oo 2 (.box 2) [.t 0],oo 4 .mv [.c (.bool false)]] [])
 (.seq (.reg false [oo 5 (.ld true 2) [.t 2],oo 6 .call [.f zdB,.t 5],oo 7 (.bin .eql) [.t 6,ki 0],oo 8 .mv [.t 7],og 9 .mv [.t 1] 8,og 10 (.fad 0) [.t 2] 8,og 11 (.ld false 1) [.t 10] 8,og 12 (.bin .sub) [.t 11,ki 1] 8,og 13 .call [.f za8,.t 9,ki 0,.t 12] 8,oo 14 .pick [.t 8,.t 13,.c (.bool false)],oo 15 .mv [.t 14],og 16 .mv [.t 1] 15,og 17 .call [.f zas,.t 16,ki 0] 15,oo 18 .pick [.t 15,.t 17,.c (.bool false)],oo 19 .mv [.t 18],og 20 .mv [.t 1] 19,og 21 .call [.f zas,.t 20,ki 1] 19,og 22 (.un .not) [.t 21] 19,oo 23 .pick [.t 19,.t 22,.c (.bool false)],oo 4 .mv [.t 23]] [])
 .ret))⟩
def zk2 : AFun:=⟨54,[(4,none)],
 (.seq (.reg false [oo 2 (.box 2) [.t 0],oo 4 .mv [ki 0]] [])
 (.seq (.seq
 (.reg false [oo 11 (.ld true 2) [.t 2],oo 12 .mv [.t 1],oo 13 .call [.f zfB,.t 11,.t 12],oo 14 (.un .not) [.t 13]] [])
 (.cond (.t 14)
 (.seq (.reg false [
 oo 4 .mv [ki 0]] [])
 .ret)
 .skip))
 (.seq (.reg false [oo 15 (.fad 0) [.t 2],oo 16 (.ld false 1) [.t 15],oo 17 (.mks 1 1 [(.bool false)]) [.t 16,.t 16],oo 5 .mv [.t 17]] [])
 (.seq (.seq
 (.reg false [oo 18 .mv [.t 1],oo 19 .len [.t 18],oo 20 .mv [ki 0]] [])
 (.block 0 (.loop
 (.seq (.reg false [oo 21 (.bin .lss) [.t 20,.t 19]] [])
 (.seq (.cond (.t 21)
 .skip
 (.exit 0))
 (.seq (.block 1 (.seq (.reg false [oo 22 (.iad 1) [.t 18,.t 20],oo 23 (.ld false 1) [.t 22],oo 7 .mv [.t 23]] [])
 (.reg false [oo 24 .mv [.t 5],oo 25 .mv [.t 7],oo 26 (.iad 1) [.t 24,.t 25],ou (.st 1) [.t 26,.c (.bool true)]] [])))
 (.reg false [oo 27 (.bin .add) [.t 20,ki 1],oo 20 .mv [.t 27]] [])))))))
 (.seq (.reg false [oo 8 .mv [ki 0]] [])
 (.seq (.seq
 (.reg false [oo 28 (.fad 1) [.t 2],oo 29 (.ld false 1) [.t 28],oo 30 .len [.t 29],oo 31 .mv [ki 0]] [])
 (.block 2 (.loop
 (.seq (.reg false [oo 32 (.bin .lss) [.t 31,.t 30]] [])
 (.seq (.cond (.t 32)
 .skip
 (.exit 2))
 (.seq (.block 3 (.seq (.reg false [oo 33 (.iad 3) [.t 29,.t 31],oo 34 (.ld true 3) [.t 33],oo 10 (.alloc [v0,v0,v0]) [],ou (.st 3) [.t 10,.t 34]] [])
 (.seq (.reg false [oo 35 .mv [.t 5],oo 36 (.fad 0) [.t 10],oo 37 (.ld false 1) [.t 36],oo 38 (.iad 1) [.t 35,.t 37],oo 39 (.ld false 1) [.t 38],oo 40 .mv [.t 39],og 41 .mv [.t 5] 40,og 42 (.fad 1) [.t 10] 40,og 43 (.ld false 1) [.t 42] 40,og 44 (.iad 1) [.t 41,.t 43] 40,og 45 (.ld false 1) [.t 44] 40,og 46 (.un .not) [.t 45] 40,oo 47 .pick [.t 40,.t 46,.c (.bool false)]] [])
 (.cond (.t 47)
 (.reg false [
 oo 48 .mv [.t 8],
 oo 49 (.fad 2) [.t 10],
 oo 50 (.ld false 1) [.t 49],
 oo 51 (.bin .add) [.t 48,.t 50],
 oo 8 .mv [.t 51]] [])
 .skip))))
 (.reg false [oo 52 (.bin .add) [.t 31,ki 1],oo 31 .mv [.t 52]] [])))))))
 (.seq (.reg false [oo 53 .mv [.t 8],oo 4 .mv [.t 53]] [])
 .ret)))))))⟩
def zl1 : AFun:=⟨6,[(2,none)],
 (.seq (.reg false [oo 2 .mv [ki 0]] [])
 (.seq (.reg false [oo 3 .mv [.t 0],oo 4 (.bin .mul) [ki 2,.t 3],oo 5 (.bin .add) [ki 2,.t 4],oo 2 .mv [.t 5]] [])
 .ret))⟩
def zhl : AFun:=⟨16,[],
 (.reg false [oo 7 (.fad 1) [.t 3],oo 8 (.ld false 1) [.t 7],oo 9 .mv [.t 0],oo 10 .mv [.t 1],oo 11 .mv [.t 2],oo 12 (.build [v0,v0,v0] [(0,1),(1,1),(2,1)]) [.t 9,.t 10,.t 11],oo 13 (.bsl 3 1 [v0,v0,v0] [0]) [.t 12],oo 14 (.app 3 24) [.t 8,.t 13],oo 15 (.fad 1) [.t 3],ou (.st 1) [.t 15,.t 14]] [])⟩
def znE : AFun:=⟨6,[(2,none)],
 (.seq (.reg false [oo 2 .mv [ki 0]] [])
 (.seq (.reg false [oo 3 .mv [.t 0],oo 4 .call [.f zbz,.t 3],oo 5 (.bin .add) [.t 4,ki 1],oo 2 .mv [.t 5]] [])
 .ret))⟩
def zgW : AFun:=⟨9,[(2,none)],
 (.seq (.reg false [oo 2 .mv [kn]] [])
 (.seq (.reg false [oo 4 .mv [.t 0],oo 5 .call [.f zcg,.t 4],oo 3 .mv [.t 5]] [])
 (.seq (.reg false [oo 6 .mv [.t 3],oo 7 .call [.f za3,.t 6]] [])
 (.seq (.reg false [oo 8 .mv [.t 3],oo 2 .mv [.t 8]] [])
 .ret))))⟩
def zeH : AFun:=⟨4,[(2,none)],
 (.seq (.reg false [oo 1 (.box 1) [.t 0],oo 2 .mv [(.c .nilFunc)]] [])
 (.seq (.reg false [oo 3 (.mkf zbh) [.t 1],oo 2 .mv [.t 3]] [])
 .ret))⟩
def zpw : AFun:=⟨14,[(4,none)],
 (.seq (.reg false [oo 2 (.box 2) [.t 0],oo 4 .mv [kn]] [])
 (.seq (.reg true [oo 6 (.ld true 2) [.t 2],oo 7 .mv [.t 1],oo 8 .call [.f zbd,.t 7],oo 9 .call [.f zfN,.t 6,.t 8],oo 5 (.alloc [v0,vn,vn,vn]) [],ou (.st 4) [.t 5,.t 9]] [[],[],[1],[0,2,2],[],[4,3,3,0,1,2,3,4]])
 (.seq (.block 0 (.loop
 (.seq (.seq
 (.reg false [oo 10 (.ld true 4) [.t 5],oo 11 .call [.f zch,.t 10]] [])
 (.cond (.t 11)
 .skip
 (.exit 0)))
 (.block 1
 .skip))))
 (.seq (.reg false [oo 12 (.fad 2) [.t 5],oo 13 (.ld false 1) [.t 12],oo 4 .mv [.t 13]] [])
 .ret))))⟩
def zgo : AFun:=⟨35,[(4,none),(5,none)],
 (.seq (.reg false [oo 2 (.box 4) [.t 0],oo 3 (.box 2) [.t 1],oo 4 .mv [ki 0],oo 5 .mv [ki 0]] [])
 (.seq (.reg false [oo 7 (.fad 0) [.t 2],oo 8 (.fad 1) [.t 7],oo 9 (.ld false 1) [.t 8],oo 10 (.fad 0) [.t 3],oo 11 (.ld false 1) [.t 10],oo 12 (.iad 3) [.t 9,.t 11],oo 13 (.ld true 3) [.t 12],oo 6 (.alloc [v0,v0,v0]) [],ou (.st 3) [.t 6,.t 13]] [])
 (.seq (.seq
 (.reg false [oo 14 (.fad 1) [.t 3],oo 15 (.ld false 1) [.t 14]] [])
 (.cond (.t 15)
 (.seq (.reg true [
 oo 16 (.fad 2) [.t 2],
 oo 17 (.ld false 1) [.t 16],
 oo 18 (.fad 0) [.t 3],
 oo 19 (.ld false 1) [.t 18],
 oo 20 (.iad 1) [.t 17,.t 19],
 oo 21 (.ld false 1) [.t 20],
 oo 22 (.fad 0) [.t 6],
 oo 23 (.ld false 1) [.t 22],
 oo 4 .mv [.t 21],
 oo 5 .mv [.t 23]] [[],[0],[],[2],[1,3],[4],[],[6],[5,0,1,2,3,4,5],[7,8,0,1,2,3,4,5,6,7,8]])
 .ret)
 .skip))
 (.seq (.reg true [oo 24 (.fad 2) [.t 6],oo 25 (.ld false 1) [.t 24],oo 26 (.fad 2) [.t 2],oo 27 (.ld false 1) [.t 26],oo 28 (.fad 0) [.t 3],oo 29 (.ld false 1) [.t 28],oo 30 (.iad 1) [.t 27,.t 29],oo 31 (.ld false 1) [.t 30],oo 32 (.bin .sub) [.t 25,.t 31],oo 33 (.fad 1) [.t 6],oo 34 (.ld false 1) [.t 33],oo 4 .mv [.t 32],oo 5 .mv [.t 34]] [[],[0],[],[2],[],[4],[3,5],[6],[1,7],[],[9],[8,0,1,2,3,4,5,6,7,8],[10,11,0,1,2,3,4,5,6,7,8,9,10,11]])
 .ret))))⟩
def zjK : AFun:=⟨43,[(3,none)],
 (.seq (.reg false [oo 2 (.box 3) [.t 0],oo 3 .mv [.c (.bool false)]] [])
 (.seq (.reg false [oo 4 (.fad 0) [.t 2],oo 5 (.ld false 1) [.t 4],oo 6 (.fad 0) [.t 1],oo 7 (.ld false 1) [.t 6],oo 8 (.bin .sub) [.t 7,ki 1],oo 9 .call [.f zaL,.t 5,ki 0,.t 8],oo 10 (.un .not) [.t 9],oo 11 .mv [.t 10],oh 12 (.fad 1) [.t 2] 11,oh 13 (.ld false 1) [.t 12] 11,oh 14 (.fad 0) [.t 1] 11,oh 15 (.ld false 1) [.t 14] 11,oh 16 (.bin .sub) [.t 15,ki 1] 11,oh 17 .call [.f zaL,.t 13,ki 0,.t 16] 11,oh 18 (.un .not) [.t 17] 11,oo 19 .pick [.t 11,.c (.bool true),.t 18],oo 20 .mv [.t 19],oh 21 (.fad 0) [.t 2] 20,oh 22 (.ld false 1) [.t 21] 20,oh 23 (.fad 1) [.t 2] 20,oh 24 (.ld false 1) [.t 23] 20,oh 25 (.bin .eql) [.t 22,.t 24] 20,oo 26 .pick [.t 20,.c (.bool true),.t 25],oo 27 .mv [.t 26],oh 28 (.fad 1) [.t 2] 27,oh 29 (.ld false 1) [.t 28] 27,oh 30 (.bin .eql) [.t 29,ki 0] 27,oo 31 .pick [.t 27,.c (.bool true),.t 30],oo 32 .mv [.t 31],oh 33 (.fad 0) [.t 2] 32,oh 34 (.ld false 1) [.t 33] 32,oh 35 (.bin .eql) [.t 34,ki 1] 32,oo 36 .pick [.t 32,.c (.bool true),.t 35],oo 37 .mv [.t 36],oh 38 (.fad 2) [.t 2] 37,oh 39 (.ld false 1) [.t 38] 37,oh 40 .call [.f zaL,.t 39,ki 0,ki 1048576] 37,oh 41 (.un .not) [.t 40] 37,oo 42 .pick [.t 37,.c (.bool true),.t 41],oo 3 .mv [.t 42]] [])
 .ret))⟩
def zb7 : AFun:=⟨9,[(4,none)],
 (.seq (.reg false [oo 4 .mv [.c (.bool false)]] [])
 (.seq (.reg false [oo 5 .mv [.t 0],oo 6 .mv [.t 1],oo 7 .call [.f zaS,.t 5,.t 6],oo 8 (.bin .geq) [.t 7,ki 0],oo 4 .mv [.t 8]] [])
 .ret))⟩
def zge : AFun:=⟨5,[(2,none)],
 (.seq (.reg false [oo 2 .mv [kn]] [])
 (.seq (.reg false [oo 3 .mv [.t 0],oo 4 .call [.f zb3,kn,.t 3],oo 2 .mv [.t 4]] [])
 .ret))⟩
def zf7 : AFun:=⟨86,[(2,none)],
 (.seq (.reg false [oo 1 (.box 4) [.t 0],oo 2 .mv [.c (.bool false)]] [])
 (.seq (.reg false [oo 14 (.ld true 4) [.t 1],oo 15 .call [.f zbj,.t 14],oo 3 .mv [.t 15]] [])
 (.seq (.seq
 (.reg false [oo 17 .mv [.t 3],oo 18 (.mlk (.agg #[v0,(.bool false)]) true) [.t 17,ki 1],oo 16 .mv [.t 18],oo 19 (.ext 0) [.t 16],oo 20 (.ext 1) [.t 16],oo 4 (.alloc [v0,(.bool false)]) [],ou (.st 2) [.t 4,.t 19],oo 5 .mv [.t 20]] [])
 (.seq (.reg false [oo 21 .mv [.t 5],oo 22 (.un .not) [.t 21]] [])
 (.cond (.t 22)
 (.seq (.reg false [
 oo 2 .mv [.c (.bool false)]] [])
 .ret)
 .skip)))
 (.seq (.reg false [oo 6 .mv [kn]] [])
 (.seq (.reg false [oo 7 .mv [ki 1048576]] [])
 (.seq (.seq
 (.reg false [oo 8 .mv [ki 1]] [])
 (.block 0 (.loop
 (.seq (.seq
 (.reg false [oo 23 .mv [.t 8],oo 24 (.bin .neq) [.t 23,ki 0]] [])
 (.cond (.t 24)
 .skip
 (.exit 0)))
 (.block 1 (.seq (.reg false [oo 25 .mv [.t 3],oo 26 .mv [.t 8],oo 27 (.mlk (.agg #[v0,(.bool false)]) false) [.t 25,.t 26],oo 9 (.alloc [v0,(.bool false)]) [],ou (.st 2) [.t 9,.t 27]] [])
 (.seq (.reg false [oo 29 (.ld true 4) [.t 1],oo 30 (.ld true 2) [.t 9],oo 31 .call [.f zbB,.t 29,.t 30],oo 28 .mv [.t 31],oo 32 (.ext 0) [.t 28],oo 33 (.ext 1) [.t 28],oo 10 .mv [.t 32],oo 11 .mv [.t 33]] [])
 (.seq (.reg false [oo 34 .mv [.t 6],oo 35 (.ld true 2) [.t 9],oo 36 (.bsl 2 1 [v0,(.bool false)] [0]) [.t 35],oo 37 (.app 2 16) [.t 34,.t 36],oo 38 .mv [.t 7],oo 39 .mv [.t 10],oo 40 .mn2 [.t 38,.t 39],oo 6 .mv [.t 37],oo 7 .mv [.t 40]] [])
 (.seq (.reg false [oo 41 (.fad 0) [.t 1],oo 42 (.fad 1) [.t 41],oo 43 (.ld false 1) [.t 42],oo 44 (.fad 0) [.t 9],oo 45 (.ld false 1) [.t 44],oo 46 (.iad 3) [.t 43,.t 45],oo 47 (.fad 0) [.t 46],oo 48 (.ld false 1) [.t 47],oo 8 .mv [.t 48]] [])
 (.seq (.reg false [oo 49 (.fad 1) [.t 9],oo 50 (.ld false 1) [.t 49]] [])
 (.cond (.t 50)
 (.reg false [
 oo 51 (.fad 0) [.t 1],
 oo 52 (.fad 1) [.t 51],
 oo 53 (.ld false 1) [.t 52],
 oo 54 (.fad 0) [.t 9],
 oo 55 (.ld false 1) [.t 54],
 oo 56 (.iad 3) [.t 53,.t 55],
 oo 57 (.fad 1) [.t 56],
 oo 58 (.ld false 1) [.t 57],
 oo 8 .mv [.t 58]] [])
 .skip)))))))))))
 (.seq (.seq
 (.reg false [oo 59 .mv [.t 6],oo 60 .len [.t 59],oo 61 .mv [ki 0]] [])
 (.block 2 (.loop
 (.seq (.reg false [oo 62 (.bin .lss) [.t 61,.t 60]] [])
 (.seq (.cond (.t 62)
 .skip
 (.exit 2))
 (.seq (.block 3 (.seq (.reg false [oo 63 (.iad 2) [.t 59,.t 61],oo 64 (.ld true 2) [.t 63],oo 13 (.alloc [v0,(.bool false)]) [],ou (.st 2) [.t 13,.t 64]] [])
 (.seq (.reg false [oo 65 (.fad 1) [.t 13],oo 66 (.ld false 1) [.t 65]] [])
 (.cond (.t 66)
 (.reg false [
 oo 67 (.fad 2) [.t 1],
 oo 68 (.ld false 1) [.t 67],
 oo 69 (.fad 0) [.t 13],
 oo 70 (.ld false 1) [.t 69],
 oo 71 (.iad 1) [.t 68,.t 70],
 oo 72 (.ld false 1) [.t 71],
 oo 73 .mv [.t 7],
 oo 74 (.bin .sub) [.t 72,.t 73],
 oo 75 (.iad 1) [.t 68,.t 70],
 ou (.st 1) [.t 75,.t 74]] [])
 (.reg false [
 oo 76 (.fad 2) [.t 1],
 oo 77 (.ld false 1) [.t 76],
 oo 78 (.fad 0) [.t 13],
 oo 79 (.ld false 1) [.t 78],
 oo 80 (.iad 1) [.t 77,.t 79],
 oo 81 (.ld false 1) [.t 80],
 oo 82 .mv [.t 7],
 oo 83 (.bin .add) [.t 81,.t 82],
 oo 84 (.iad 1) [.t 77,.t 79],
 ou (.st 1) [.t 84,.t 83]] [])))))
 (.reg false [oo 85 (.bin .add) [.t 61,ki 1],oo 61 .mv [.t 85]] [])))))))
 (.seq (.reg false [oo 2 .mv [.c (.bool true)]] [])
 .ret))))))))⟩
def zcx : AFun:=⟨19,[(4,none)],
 (.seq (.reg false [oo 4 .mv [ki 0]] [])
 (.seq (.seq
 (.reg false [oo 6 .mv [.t 0],oo 7 .len [.t 6],oo 8 .mv [ki 0]] [])
 (.block 0 (.loop
 (.seq (.reg false [oo 9 (.bin .lss) [.t 8,.t 7]] [])
 (.seq (.cond (.t 9)
 .skip
 (.exit 0))
 (.seq (.block 1 (.seq (.reg false [oo 10 .mv [.t 8],oo 5 .mv [.t 10]] [])
 (.seq (.reg false [oo 11 .mv [.t 1],oo 12 .mv [.t 0],oo 13 .mv [.t 5],oo 14 (.iad 3) [.t 12,.t 13],oo 15 (.ld true 3) [.t 14],oo 16 .call [.t 11,.t 15]] [])
 (.cond (.t 16)
 (.seq (.reg false [
 oo 17 .mv [.t 5],
 oo 4 .mv [.t 17]] [])
 .ret)
 .skip))))
 (.reg false [oo 18 (.bin .add) [.t 8,ki 1],oo 8 .mv [.t 18]] [])))))))
 (.seq (.reg false [oo 4 .mv [ki (-1)]] [])
 .ret)))⟩
end Go.Proofs.YteiabadhhhckfaaGreat
