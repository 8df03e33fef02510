/- Texts of this claim,merged. -/
import Derived.Test.YteiabadhhhckfaaGreatRd5
set_option linter.unusedSimpArgs false
set_option linter.unusedVariables false
set_option linter.unusedSectionVars false
namespace Go.Proofs.YteiabadhhhckfaaGreat
open Go
set_option maxRecDepth 100000
def zgI : AFun:=⟨133,[(2,none)],
 (.seq (.reg false [oo 2 .mv [.c (.bool false)]] [])
 (.seq (.seq
 (.reg false [oo 17 .mv [.t 0],oo 18 .call [.f zdh,.t 17],oo 19 (.un .not) [.t 18]] [])
 (.cond (.t 19)
 (.seq (.reg false [
 oo 20 .call [.f za9],
 oo 2 .mv [.t 20]] [])
 .ret)
 .skip))
 (.seq (.reg false [oo 21 .mv [.t 0],oo 22 .call [.f zdY,.t 21],oo 3 .mv [.t 22]] [])
 (.seq (.reg false [oo 23 .mv [.t 3],oo 24 .call [.f zbk,.t 23],oo 4 (.alloc [v0,vn,vn]) [],ou (.st 3) [.t 4,.t 24]] [])
 (.seq (.reg false [oo 25 .mv [.t 3],oo 26 (.ld true 3) [.t 4],oo 27 .call [.f zbv,.t 25,.t 26],oo 5 (.alloc [vn,vn,v0]) [],ou (.st 3) [.t 5,.t 27]] [])
 (.seq (.reg false [oo 28 .mv [.t 3],oo 29 (.fad 0) [.t 4],oo 30 (.ld false 1) [.t 29],oo 31 .call [.f zcx,.t 28,.t 30],oo 6 .mv [.t 31]] [])
 (.seq (.reg false [oo 33 (.ld true 3) [.t 4],oo 34 (.ld true 3) [.t 5],oo 35 .call [.f zce,.t 33,.t 34],oo 32 .mv [.t 35],oo 36 (.ext 0) [.t 32],oo 37 (.ext 1) [.t 32],oo 7 (.alloc [vn,vn,vn]) [],ou (.st 3) [.t 7,.t 36],oo 8 .mv [.t 37]] [])
 (.seq (.seq
 (.reg false [oo 38 .mv [.t 8],oo 39 (.bin .neq) [.t 38,ki 0]] [])
 (.cond (.t 39)
 (.seq (.reg false [
 oo 2 .mv [.c (.bool false)]] [])
 .ret)
 .skip))
 (.seq (.reg false [oo 9 .mv [ki 0]] [])
 (.seq (.seq
 (.reg false [oo 10 .mv [ki 0]] [])
 (.block 0 (.loop
 (.seq (.seq
 (.reg false [oo 40 .mv [.t 10],oo 41 (.fad 0) [.t 7],oo 42 (.ld false 1) [.t 41],oo 43 .len [.t 42],oo 44 (.bin .lss) [.t 40,.t 43]] [])
 (.cond (.t 44)
 .skip
 (.exit 0)))
 (.seq (.block 1 (.seq (.reg false [oo 47 .mv [.t 6],oo 48 (.fad 0) [.t 7],oo 49 (.ld false 1) [.t 48],oo 50 .mv [.t 10],oo 51 (.iad 1) [.t 49,.t 50],oo 52 (.ld false 1) [.t 51],oo 53 .call [.f zaJ,.t 47,.t 52]] [])
 (.cond (.t 53)
 (.reg false [
 oo 54 .mv [.t 9],
 oo 55 (.bin .add) [.t 54,ki 1],
 oo 9 .mv [.t 55]] [])
 .skip)))
 (.reg false [oo 45 .mv [.t 10],oo 46 (.bin .add) [.t 45,ki 1],oo 10 .mv [.t 46]] []))))))
 (.seq (.reg false [oo 56 (.ld true 3) [.t 4],oo 57 (.ld true 3) [.t 5],oo 58 .call [.f zfh,.t 56,.t 57],oo 11 .mv [.t 58],oo 12 .mv [ki 0]] [])
 (.seq (.seq
 (.reg false [oo 13 .mv [ki 0]] [])
 (.block 2 (.loop
 (.seq (.seq
 (.reg false [oo 59 .mv [.t 13],oo 60 (.fad 0) [.t 4],oo 61 (.ld false 1) [.t 60],oo 62 (.bin .lss) [.t 59,.t 61]] [])
 (.cond (.t 62)
 .skip
 (.exit 2)))
 (.seq (.block 3 (.seq (.reg false [oo 14 .mv [.c (.bool false)]] [])
 (.seq (.seq
 (.reg false [oo 15 .mv [ki 0]] [])
 (.block 4 (.loop
 (.seq (.seq
 (.reg false [oo 65 .mv [.t 15],oo 66 (.fad 1) [.t 4],oo 67 (.ld false 1) [.t 66],oo 68 .len [.t 67],oo 69 (.bin .lss) [.t 65,.t 68]] [])
 (.cond (.t 69)
 .skip
 (.exit 4)))
 (.seq (.block 5 (.seq (.reg false [oo 72 (.fad 1) [.t 4],oo 73 (.ld false 1) [.t 72],oo 74 .mv [.t 15],oo 75 (.iad 3) [.t 73,.t 74],oo 76 (.ld true 3) [.t 75],oo 16 (.alloc [v0,v0,v0]) [],ou (.st 3) [.t 16,.t 76]] [])
 (.reg false [oo 77 .mv [.t 14],oo 78 .mv [.t 77],oh 79 (.fad 0) [.t 16] 78,oh 80 (.ld false 1) [.t 79] 78,oh 81 .mv [.t 13] 78,oh 82 (.bin .eql) [.t 80,.t 81] 78,oh 83 .mv [.t 82] 78,og 84 (.fad 2) [.t 16] 83,og 85 (.ld false 1) [.t 84] 83,og 86 (.fad 2) [.t 5] 83,og 87 (.ld false 1) [.t 86] 83,og 88 (.bin .geq) [.t 85,.t 87] 83,oh 89 .pick [.t 83,.t 88,.c (.bool false)] 78,oh 90 .mv [.t 89] 78,og 91 .mv [.t 6] 90,og 92 (.fad 1) [.t 16] 90,og 93 (.ld false 1) [.t 92] 90,og 94 .call [.f zaJ,.t 91,.t 93] 90,oh 95 .pick [.t 90,.t 94,.c (.bool false)] 78,oo 96 .pick [.t 78,.c (.bool true),.t 95],oo 14 .mv [.t 96]] [])))
 (.reg false [oo 70 .mv [.t 15],oo 71 (.bin .add) [.t 70,ki 1],oo 15 .mv [.t 71]] []))))))
 (.seq (.reg false [oo 97 .mv [.t 6],oo 98 .mv [.t 13],oo 99 .call [.f zaJ,.t 97,.t 98],oo 100 .mv [.t 99],og 101 (.fad 0) [.t 5] 100,og 102 (.ld false 1) [.t 101] 100,og 103 .mv [.t 13] 100,og 104 .call [.f zaJ,.t 102,.t 103] 100,oo 105 .pick [.t 100,.t 104,.c (.bool false)]] [])
 (.cond (.t 105)
 (.reg false [
 oo 106 .mv [.t 12],
 oo 107 .mv [.t 11],
 oo 108 .mv [.t 13],
 oo 109 (.iad 1) [.t 107,.t 108],
 oo 110 (.ld false 1) [.t 109],
 oo 111 (.bin .add) [.t 106,.t 110],
 oo 12 .mv [.t 111]] [])
 (.seq (.reg false [
 oo 112 .mv [.t 6],
 oo 113 .mv [.t 13],
 oo 114 .call [.f zaJ,.t 112,.t 113],
 oo 115 (.un .not) [.t 114],
 oo 116 .mv [.t 115],
 og 117 .mv [.t 14] 116,
 oo 118 .pick [.t 116,.t 117,.c (.bool false)]] [])
 (.cond (.t 118)
 (.reg false [
 oo 119 .mv [.t 12],
 oo 120 .mv [.t 11],
 oo 121 .mv [.t 13],
 oo 122 (.iad 1) [.t 120,.t 121],
 oo 123 (.ld false 1) [.t 122],
 oo 124 (.bin .sub) [.t 123,ki 1],
 oo 125 .mx2 [ki 0,.t 124],
 oo 126 (.bin .add) [.t 119,.t 125],
 oo 12 .mv [.t 126]] [])
 .skip)))))))
 (.reg false [oo 63 .mv [.t 13],oo 64 (.bin .add) [.t 63,ki 1],oo 13 .mv [.t 64]] []))))))
 (.seq (.reg false [oo 127 .call [.f za9],oo 128 .mv [.t 127],og 129 .mv [.t 9] 128,og 130 .mv [.t 12] 128,og 131 (.bin .leq) [.t 129,.t 130] 128,oo 132 .pick [.t 128,.t 131,.c (.bool false)],oo 2 .mv [.t 132]] [])
 .ret)))))))))))))⟩
def zg5 : AFun:=⟨92,[(2,none)],
 (.seq (.reg false [oo 2 .mv [.c (.bool false)]] [])
 (.seq (.seq
 (.reg false [oo 15 .mv [.t 0],oo 16 .call [.f zdh,.t 15],oo 17 (.un .not) [.t 16]] [])
 (.cond (.t 17)
 (.seq (.reg false [
 oo 18 .call [.f za9],
 oo 2 .mv [.t 18]] [])
 .ret)
 .skip))
 (.seq (.reg false [oo 19 .mv [.t 0],oo 20 .call [.f zdY,.t 19],oo 3 .mv [.t 20]] [])
 (.seq (.reg false [oo 21 .mv [.t 3],oo 22 .call [.f zbk,.t 21],oo 4 (.alloc [v0,vn,vn]) [],ou (.st 3) [.t 4,.t 22]] [])
 (.seq (.reg false [oo 23 .mv [.t 3],oo 24 (.ld true 3) [.t 4],oo 25 .call [.f zbv,.t 23,.t 24],oo 5 (.alloc [vn,vn,v0]) [],ou (.st 3) [.t 5,.t 25]] [])
 (.seq (.reg false [oo 26 .mv [.t 3],oo 27 (.fad 0) [.t 4],oo 28 (.ld false 1) [.t 27],oo 29 .call [.f zcx,.t 26,.t 28],oo 6 .mv [.t 29]] [])
 (.seq (.seq
 (.reg false [oo 7 .mv [ki 0]] [])
 (.block 0 (.loop
 (.seq (.seq
 (.reg false [oo 30 .mv [.t 7],oo 31 .mv [.t 6],oo 32 .len [.t 31],oo 33 (.bin .lss) [.t 30,.t 32]] [])
 (.cond (.t 33)
 .skip
 (.exit 0)))
 (.seq (.block 1 (.seq (.reg false [oo 8 .mv [ki 0]] [])
 (.block 2 (.loop
 (.seq (.seq
 (.reg false [oo 36 .mv [.t 8],oo 37 .mv [.t 6],oo 38 .len [.t 37],oo 39 (.bin .lss) [.t 36,.t 38]] [])
 (.cond (.t 39)
 .skip
 (.exit 2)))
 (.seq (.block 3 (.seq (.reg true [oo 43 (.ld true 3) [.t 4],oo 44 .mv [.t 6],oo 45 .mv [.t 7],oo 46 (.iad 1) [.t 44,.t 45],oo 47 (.ld false 1) [.t 46],oo 48 .mv [.t 6],oo 49 .mv [.t 8],oo 50 (.iad 1) [.t 48,.t 49],oo 51 (.ld false 1) [.t 50],oo 52 (.build [v0,v0,v0] [(0,1),(1,1),(2,1)]) [.t 47,.t 51,ki 3],oo 53 .call [.f zex,.t 43,.t 52],oo 42 .mv [.t 53],oo 54 (.ext 0) [.t 42],oo 55 (.ext 1) [.t 42],oo 9 (.alloc [v0,vn,vn]) [],ou (.st 3) [.t 9,.t 54],oo 10 .mv [.t 55]] [[],[],[],[1,2],[3],[],[],[5,6],[7],[4,8],[0,9],[10],[11],[11],[],[14,12,10,0,1,2,3,4,5,6,7,8,9,10,11,12,14],[13,15,0,1,2,3,4,5,6,7,8,9,10,11,12,13,14,15]])
 (.seq (.reg false [oo 56 .mv [.t 10],oo 57 (.bin .eql) [.t 56,ki 0]] [])
 (.cond (.t 57)
 (.reg false [
 oo 58 (.ld true 3) [.t 9],
 ou (.st 3) [.t 4,.t 58]] [])
 .skip))))
 (.reg false [oo 40 .mv [.t 8],oo 41 (.bin .add) [.t 40,ki 1],oo 8 .mv [.t 41]] [])))))))
 (.reg false [oo 34 .mv [.t 7],oo 35 (.bin .add) [.t 34,ki 1],oo 7 .mv [.t 35]] []))))))
 (.seq (.reg false [oo 60 (.ld true 3) [.t 4],oo 61 (.ld true 3) [.t 5],oo 62 .call [.f zce,.t 60,.t 61],oo 59 .mv [.t 62],oo 63 (.ext 0) [.t 59],oo 64 (.ext 1) [.t 59],oo 11 (.alloc [vn,vn,vn]) [],ou (.st 3) [.t 11,.t 63],oo 12 .mv [.t 64]] [])
 (.seq (.reg false [oo 13 .mv [ki 0]] [])
 (.seq (.seq
 (.reg false [oo 14 .mv [ki 0]] [])
 (.block 4 (.loop
 (.seq (.seq
 (.reg false [oo 65 .mv [.t 14],oo 66 .mv [.t 6],oo 67 .len [.t 66],oo 68 (.bin .lss) [.t 65,.t 67]] [])
 (.cond (.t 68)
 .skip
 (.exit 4)))
 (.seq (.block 5 (.seq (.reg true [oo 71 (.ld true 3) [.t 11],oo 72 .mv [.t 6],oo 73 .mv [.t 14],oo 74 (.iad 1) [.t 72,.t 73],oo 75 (.ld false 1) [.t 74],oo 76 .call [.f zbO,.t 71,.t 75]] [[],[],[],[1,2],[3],[0,4]])
 (.cond (.t 76)
 (.reg false [
 oo 77 .mv [.t 13],
 oo 78 (.bin .add) [.t 77,ki 1],
 oo 13 .mv [.t 78]] [])
 .skip)))
 (.reg false [oo 69 .mv [.t 14],oo 70 (.bin .add) [.t 69,ki 1],oo 14 .mv [.t 70]] []))))))
 (.seq (.reg false [oo 79 .call [.f za9],oo 80 .mv [.t 79],og 81 .mv [.t 12] 80,og 82 (.bin .eql) [.t 81,ki 0] 80,oo 83 .pick [.t 80,.t 82,.c (.bool false)],oo 84 .mv [.t 83],og 85 .mv [.t 13] 84,og 86 (.ld true 3) [.t 4] 84,og 87 (.ld true 3) [.t 5] 84,og 88 .mv [.t 6] 84,og 89 .call [.f zeM,.t 86,.t 87,.t 88] 84,og 90 (.bin .leq) [.t 85,.t 89] 84,oo 91 .pick [.t 84,.t 90,.c (.bool false)],oo 2 .mv [.t 91]] [])
 .ret)))))))))))⟩
def zhn : AFun:=⟨138,[(2,none)],
 (.seq (.reg false [oo 2 .mv [.c (.bool false)]] [])
 (.seq (.seq
 (.reg false [oo 18 .mv [.t 0],oo 19 .call [.f zdh,.t 18],oo 20 (.un .not) [.t 19]] [])
 (.cond (.t 20)
 (.seq (.reg false [
 oo 21 .call [.f za9],
 oo 2 .mv [.t 21]] [])
 .ret)
 .skip))
 (.seq (.reg false [oo 22 .mv [.t 0],oo 23 .call [.f zdY,.t 22],oo 3 .mv [.t 23]] [])
 (.seq (.reg false [oo 24 .mv [.t 3],oo 25 .call [.f zbk,.t 24],oo 4 (.alloc [v0,vn,vn]) [],ou (.st 3) [.t 4,.t 25]] [])
 (.seq (.reg false [oo 26 .mv [.t 3],oo 27 (.ld true 3) [.t 4],oo 28 .call [.f zbv,.t 26,.t 27],oo 5 (.alloc [vn,vn,v0]) [],ou (.st 3) [.t 5,.t 28]] [])
 (.seq (.reg true [oo 29 (.ld true 3) [.t 4],oo 30 (.fad 2) [.t 5],oo 31 (.ld false 1) [.t 30],oo 32 .call [.f zdI,.t 29,.t 31],oo 33 (.fad 0) [.t 5],oo 34 (.ld false 1) [.t 33],oo 35 .call [.f zfd,.t 32,.t 34],oo 6 .mv [.t 35]] [[],[],[1],[0,2],[],[4],[3,5,3],[6,6,0,1,2,3,4,5,6]])
 (.seq (.seq
 (.reg false [oo 36 .mv [.t 6],oo 37 .len [.t 36],oo 38 (.bin .eql) [.t 37,ki 0]] [])
 (.cond (.t 38)
 (.seq (.reg false [
 oo 39 .call [.f za9],
 oo 2 .mv [.t 39]] [])
 .ret)
 .skip))
 (.seq (.reg false [oo 40 .mv [.t 6],oo 41 .mv [.t 6],oo 42 .len [.t 41],oo 43 (.bin .sub) [.t 42,ki 1],oo 44 (.iad 1) [.t 40,.t 43],oo 45 (.ld false 1) [.t 44],oo 7 .mv [.t 45]] [])
 (.seq (.seq
 (.reg false [oo 46 (.fad 0) [.t 5],oo 47 (.ld false 1) [.t 46],oo 48 .mv [.t 7],oo 49 .call [.f zaJ,.t 47,.t 48]] [])
 (.cond (.t 49)
 (.seq (.reg false [
 oo 50 .call [.f za9],
 oo 2 .mv [.t 50]] [])
 .ret)
 .skip))
 (.seq (.reg true [oo 51 (.ld true 3) [.t 4],oo 52 .call [.f zcE,.t 51],oo 53 (.ld true 3) [.t 4],oo 54 .call [.f zcE,.t 53],oo 8 (.alloc [v0,vn,vn]) [],oo 9 (.alloc [v0,vn,vn]) [],ou (.st 3) [.t 8,.t 52],ou (.st 3) [.t 9,.t 54]] [[],[0],[],[2,1],[],[],[4,1,3,0,1,4,5],[5,3,6,0,1,2,3,4,5,6]])
 (.seq (.reg false [oo 55 (.fad 1) [.t 8],ou (.st 1) [.t 55,kn],oo 56 (.fad 1) [.t 9],ou (.st 1) [.t 56,kn]] [])
 (.seq (.seq
 (.reg false [oo 10 .mv [ki 0]] [])
 (.block 0 (.loop
 (.seq (.seq
 (.reg false [oo 57 .mv [.t 10],oo 58 (.fad 1) [.t 4],oo 59 (.ld false 1) [.t 58],oo 60 .len [.t 59],oo 61 (.bin .lss) [.t 57,.t 60]] [])
 (.cond (.t 61)
 .skip
 (.exit 0)))
 (.seq (.block 1 (.seq (.reg false [oo 64 (.fad 1) [.t 4],oo 65 (.ld false 1) [.t 64],oo 66 .mv [.t 10],oo 67 (.iad 3) [.t 65,.t 66],oo 68 (.ld true 3) [.t 67],oo 11 (.alloc [v0,v0,v0]) [],ou (.st 3) [.t 11,.t 68]] [])
 (.seq (.reg false [oo 69 (.fad 0) [.t 11],oo 70 (.ld false 1) [.t 69],oo 71 .mv [.t 7],oo 72 (.bin .neq) [.t 70,.t 71]] [])
 (.cond (.t 72)
 (.seq (.reg false [
 oo 73 (.fad 1) [.t 8],
 oo 74 (.ld false 1) [.t 73],
 oo 75 (.ld true 3) [.t 11],
 oo 76 (.bsl 3 1 [v0,v0,v0] [0]) [.t 75],
 oo 77 (.app 3 24) [.t 74,.t 76],
 oo 78 (.fad 1) [.t 8],
 ou (.st 1) [.t 78,.t 77]] [])
 (.seq (.reg false [
 oo 79 (.fad 1) [.t 11],
 oo 80 (.ld false 1) [.t 79],
 oo 81 .mv [.t 7],
 oo 82 (.bin .neq) [.t 80,.t 81]] [])
 (.cond (.t 82)
 (.reg false [
 oo 83 (.fad 1) [.t 9],
 oo 84 (.ld false 1) [.t 83],
 oo 85 (.ld true 3) [.t 11],
 oo 86 (.bsl 3 1 [v0,v0,v0] [0]) [.t 85],
 oo 87 (.app 3 24) [.t 84,.t 86],
 oo 88 (.fad 1) [.t 9],
 ou (.st 1) [.t 88,.t 87]] [])
 .skip)))
 .skip))))
 (.reg false [oo 62 .mv [.t 10],oo 63 (.bin .add) [.t 62,ki 1],oo 10 .mv [.t 63]] []))))))
 (.seq (.reg false [oo 90 (.ld true 3) [.t 8],oo 91 (.ld true 3) [.t 5],oo 92 .call [.f zce,.t 90,.t 91],oo 89 .mv [.t 92],oo 93 (.ext 0) [.t 89],oo 94 (.ext 1) [.t 89],oo 12 (.alloc [vn,vn,vn]) [],ou (.st 3) [.t 12,.t 93],oo 13 .mv [.t 94]] [])
 (.seq (.reg false [oo 96 (.ld true 3) [.t 9],oo 97 (.ld true 3) [.t 5],oo 98 .call [.f zce,.t 96,.t 97],oo 95 .mv [.t 98],oo 99 (.ext 0) [.t 95],oo 100 (.ext 1) [.t 95],oo 14 (.alloc [vn,vn,vn]) [],ou (.st 3) [.t 14,.t 99],oo 15 .mv [.t 100]] [])
 (.seq (.reg false [oo 16 .mv [kn]] [])
 (.seq (.seq
 (.reg false [oo 17 .mv [ki 0]] [])
 (.block 2 (.loop
 (.seq (.seq
 (.reg false [oo 101 .mv [.t 17],oo 102 (.fad 0) [.t 12],oo 103 (.ld false 1) [.t 102],oo 104 .len [.t 103],oo 105 (.bin .lss) [.t 101,.t 104]] [])
 (.cond (.t 105)
 .skip
 (.exit 2)))
 (.seq (.block 3 (.seq (.reg false [oo 108 (.fad 0) [.t 12],oo 109 (.ld false 1) [.t 108],oo 110 .mv [.t 17],oo 111 (.iad 1) [.t 109,.t 110],oo 112 (.ld false 1) [.t 111],oo 113 .mv [.t 7],oo 114 (.bin .neq) [.t 112,.t 113]] [])
 (.cond (.t 114)
 (.reg false [
 oo 115 .mv [.t 16],
 oo 116 (.fad 0) [.t 12],
 oo 117 (.ld false 1) [.t 116],
 oo 118 .mv [.t 17],
 oo 119 (.iad 1) [.t 117,.t 118],
 oo 120 (.ld false 1) [.t 119],
 oo 121 (.bsl 1 1 [v0] [0]) [.t 120],
 oo 122 (.app 1 8) [.t 115,.t 121],
 oo 16 .mv [.t 122]] [])
 .skip)))
 (.reg false [oo 106 .mv [.t 17],oo 107 (.bin .add) [.t 106,ki 1],oo 17 .mv [.t 107]] []))))))
 (.seq (.reg false [oo 123 .call [.f za9],oo 124 .mv [.t 123],og 125 .mv [.t 13] 124,og 126 (.bin .eql) [.t 125,ki 0] 124,oo 127 .pick [.t 124,.t 126,.c (.bool false)],oo 128 .mv [.t 127],og 129 .mv [.t 15] 128,og 130 (.bin .eql) [.t 129,ki 0] 128,oo 131 .pick [.t 128,.t 130,.c (.bool false)],oo 132 .mv [.t 131],og 133 .mv [.t 16] 132,og 134 (.fad 0) [.t 14] 132,og 135 (.ld false 1) [.t 134] 132,og 136 .call [.f zdw,.t 133,.t 135] 132,oo 137 .pick [.t 132,.t 136,.c (.bool false)],oo 2 .mv [.t 137]] [])
 .ret)))))))))))))))))⟩
def zml : AFun:=⟨73,[(0,none)],
 (.seq (.reg false [oo 0 .mv [.c (.bool false)]] [])
 (.seq (.reg false [oo 6 .call [.f zg4],oo 5 .mv [.t 6],oo 7 (.ext 0) [.t 5],oo 8 (.ext 1) [.t 5],oo 1 (.alloc [v0,vn,vn]) [],oo 2 (.alloc [vn,vn,v0]) [],ou (.st 3) [.t 1,.t 7],ou (.st 3) [.t 2,.t 8]] [])
 (.seq (.reg false [oo 10 (.ld true 3) [.t 1],oo 11 (.ld true 3) [.t 2],oo 12 .call [.f zce,.t 10,.t 11],oo 9 .mv [.t 12],oo 13 (.ext 0) [.t 9],oo 14 (.ext 1) [.t 9],oo 3 (.alloc [vn,vn,vn]) [],ou (.st 3) [.t 3,.t 13],oo 4 .mv [.t 14]] [])
 (.seq (.reg false [oo 15 .mv [.t 4],oo 16 (.bin .eql) [.t 15,ki 0],oo 17 .mv [.t 16],og 18 (.fad 0) [.t 3] 17,og 19 (.ld false 1) [.t 18] 17,og 20 .len [.t 19] 17,og 21 (.bin .eql) [.t 20,ki 2] 17,oo 22 .pick [.t 17,.t 21,.c (.bool false)],oo 23 .mv [.t 22],og 24 (.fad 0) [.t 3] 23,og 25 (.ld false 1) [.t 24] 23,og 26 (.iad 1) [.t 25,ki 1] 23,og 27 (.ld false 1) [.t 26] 23,og 28 (.bin .eql) [.t 27,ki 1] 23,oo 29 .pick [.t 23,.t 28,.c (.bool false)],oo 30 .mv [.t 29],og 31 (.fad 2) [.t 3] 30,og 32 (.ld false 1) [.t 31] 30,og 33 .len [.t 32] 30,og 34 (.bin .eql) [.t 33,ki 1] 30,oo 35 .pick [.t 30,.t 34,.c (.bool false)],oo 36 .mv [.t 35],og 37 (.fad 2) [.t 3] 36,og 38 (.ld false 1) [.t 37] 36,og 39 (.iad 2) [.t 38,ki 0] 36,og 40 (.fad 0) [.t 39] 36,og 41 (.ld false 1) [.t 40] 36,og 42 (.bin .eql) [.t 41,ki 2] 36,oo 43 .pick [.t 36,.t 42,.c (.bool false)],oo 44 .mv [.t 43],og 45 (.ld true 3) [.t 1] 44,og 46 (.ld true 3) [.t 2] 44,og 47 (.ld true 3) [.t 3] 44,og 48 .call [.f zev,.t 45,.t 46,.t 47] 44,og 49 (.bin .eql) [.t 48,ki 0] 44,oo 50 .pick [.t 44,.t 49,.c (.bool false)],oo 51 .mv [.t 50],og 52 (.ld true 3) [.t 3] 51,og 53 .call [.f zbO,.t 52,ki 1] 51,oo 54 .pick [.t 51,.t 53,.c (.bool false)],oo 55 .mv [.t 54],og 56 (.ld true 3) [.t 3] 55,og 57 .call [.f zbO,.t 56,ki 2] 55,og 58 (.un .not) [.t 57] 55,oo 59 .pick [.t 55,.t 58,.c (.bool false)],oo 60 .mv [.t 59],og 61 (.ld true 3) [.t 1] 60,og 62 (.ld true 3) [.t 2] 60,og 63 (.bsl 1 2 [v0] [0,1]) [ki 0,ki 2] 60,og 64 .call [.f zcR,.t 61,.t 62,.t 63] 60,oo 65 .pick [.t 60,.t 64,.c (.bool false)],oo 66 .mv [.t 65],og 67 (.ld true 3) [.t 1] 66,og 68 (.ld true 3) [.t 2] 66,og 69 (.bsl 1 3 [v0] [0,1,2]) [ki 0,ki 1,ki 2] 66,og 70 .call [.f zcR,.t 67,.t 68,.t 69] 66,og 71 (.un .not) [.t 70] 66,oo 72 .pick [.t 66,.t 71,.c (.bool false)],oo 0 .mv [.t 72]] [])
 .ret))))⟩
def zg2 : AFun:=⟨50,[(4,some (true,3))],
 (.seq (.reg false [oo 3 (.box 3) [.t 1],oo 4 (.alloc [vn,vn,v0]) []] [])
 (.seq (.reg false [oo 8 .mv [.t 0],oo 9 (.fad 0) [.t 3],oo 10 (.ld false 1) [.t 9],oo 11 .call [.f zax,.t 8,.t 10],oo 12 (.bsl 1 1 [v0] [0]) [.t 11],oo 13 .mv [.t 0],oo 14 (.bsl 1 4 [v0] [0,1,2,3]) [ki 1,ki 1,ki 2,ki 3],oo 15 .call [.f zcu,.t 13,.t 14],oo 16 (.build [vn,vn,v0] [(0,1),(2,1)]) [.t 12,.t 15],oo 5 (.alloc [vn,vn,v0]) [],ou (.st 3) [.t 5,.t 16]] [])
 (.seq (.seq
 (.reg false [oo 17 .mv [.t 0],oo 18 .call [.f zb7,.t 17,ki 3]] [])
 (.cond (.t 18)
 (.reg true [
 oo 19 (.fad 0) [.t 5],
 oo 20 (.ld false 1) [.t 19],
 oo 21 .mv [.t 0],
 oo 22 (.fad 0) [.t 3],
 oo 23 (.ld false 1) [.t 22],
 oo 24 .call [.f zax,.t 21,.t 23],
 oo 25 .call [.f zhg,.t 20,.t 24],
 oo 26 (.fad 0) [.t 5],
 ou (.st 1) [.t 26,.t 25]] [[],[0],[],[],[3],[2,4],[1,5,5],[0,1,2,3,4,5,6],[7,6,6,0,1,2,3,4,5,6]])
 .skip))
 (.seq (.reg false [oo 27 .mv [.t 0],oo 28 (.bsl 1 5 [v0] [0,1,2,3,4]) [ki 3,ki 2,ki 1,ki 6,ki 0],oo 29 .call [.f zcu,.t 27,.t 28],oo 30 (.bin .add) [ki 1,.t 29],oo 6 .mv [.t 30]] [])
 (.seq (.seq
 (.reg false [oo 31 .mv [.t 0],oo 32 .call [.f zax,.t 31,ki 4],oo 33 (.bin .add) [ki 1,.t 32],oo 7 .mv [.t 33]] [])
 (.block 0 (.loop
 (.seq (.seq
 (.reg false [oo 34 .mv [.t 7],oo 35 (.bin .gtr) [.t 34,ki 0]] [])
 (.cond (.t 35)
 .skip
 (.exit 0)))
 (.seq (.block 1 (.seq (.reg false [oo 38 (.fad 1) [.t 5],oo 39 (.ld false 1) [.t 38],oo 40 .mv [.t 6],oo 41 (.bsl 1 1 [v0] [0]) [.t 40],oo 42 (.app 1 8) [.t 39,.t 41],oo 43 (.fad 1) [.t 5],ou (.st 1) [.t 43,.t 42]] [])
 (.reg false [oo 44 .mv [.t 6],oo 45 .mv [.t 0],oo 46 .call [.f zax,.t 45,ki 3],oo 47 (.bin .sub) [.t 44,.t 46],oo 48 .mx2 [ki 1,.t 47],oo 6 .mv [.t 48]] [])))
 (.reg false [oo 36 .mv [.t 7],oo 37 (.bin .sub) [.t 36,ki 1],oo 7 .mv [.t 37]] []))))))
 (.seq (.reg false [oo 49 (.ld true 3) [.t 5],ou (.st 3) [.t 4,.t 49]] [])
 .ret))))))⟩
def znr : AFun:=⟨72,[(4,some (true,3)),(5,none)],
 (.seq (.reg false [oo 2 (.box 3) [.t 0],oo 3 (.box 3) [.t 1],oo 4 (.alloc [vn,vn,vn]) [],oo 5 .mv [ki 0]] [])
 (.seq (.seq
 (.reg false [oo 14 (.ld true 3) [.t 2],oo 15 (.ld true 3) [.t 3],oo 16 .call [.f zbw,.t 14,.t 15],oo 6 .mv [.t 16]] [])
 (.seq (.reg false [oo 17 .mv [.t 6],oo 18 (.bin .neq) [.t 17,ki 0]] [])
 (.cond (.t 18)
 (.seq (.reg false [
 oo 19 (.build [vn,vn,vn] []) [],
 oo 20 .mv [.t 6],
 ou (.st 3) [.t 4,.t 19],
 oo 5 .mv [.t 20]] [])
 .ret)
 .skip)))
 (.seq (.reg false [oo 7 (.alloc [vn,vn,vn]) []] [])
 (.seq (.seq
 (.reg false [oo 21 (.ld true 3) [.t 2],oo 22 (.ld true 3) [.t 3],oo 23 .call [.f zc7,.t 21,.t 22],oo 24 .len [.t 23],oo 25 .mv [ki 0]] [])
 (.block 0 (.loop
 (.seq (.reg false [oo 26 (.bin .lss) [.t 25,.t 24]] [])
 (.seq (.cond (.t 26)
 .skip
 (.exit 0))
 (.seq (.block 1 (.seq (.reg false [oo 27 (.iad 1) [.t 23,.t 25],oo 28 (.ld false 1) [.t 27],oo 9 .mv [.t 28]] [])
 (.seq (.reg false [oo 29 (.fad 0) [.t 7],oo 30 (.ld false 1) [.t 29],oo 31 .mv [.t 9],oo 32 .call [.f zdH,.t 30,.t 31],oo 10 .mv [.t 32]] [])
 (.seq (.reg false [oo 33 (.ld true 3) [.t 2],oo 34 (.ld true 3) [.t 3],oo 35 .mv [.t 10],oo 36 .call [.f zbe,.t 33,.t 34,.t 35],oo 11 (.alloc [v0,vn]) [],ou (.st 2) [.t 11,.t 36]] [])
 (.seq (.reg false [oo 38 (.ld true 2) [.t 11],oo 39 .mv [.t 10],oo 40 .len [.t 39],oo 41 .call [.f zbZ,.t 38,.t 40],oo 37 .mv [.t 41],oo 42 (.ext 0) [.t 37],oo 43 (.ext 1) [.t 37],oo 12 .mv [.t 42],oo 13 .mv [.t 43]] [])
 (.seq (.seq
 (.reg false [oo 44 .mv [.t 13]] [])
 (.cond (.t 44)
 (.seq (.reg false [
 oo 45 .mv [.t 10],
 oo 46 (.fad 0) [.t 7],
 ou (.st 1) [.t 46,.t 45]] [])
 (.exit 1))
 .skip))
 (.reg true [oo 47 (.fad 2) [.t 7],oo 48 (.ld false 1) [.t 47],oo 49 .mv [.t 9],oo 50 (.ld true 2) [.t 11],oo 51 .mv [.t 12],oo 52 .call [.f zeu,.t 50,.t 51],oo 53 (.build [v0,vn] [(0,1),(1,1)]) [.t 49,.t 52],oo 54 (.bsl 2 1 [v0,vn] [0]) [.t 53],oo 55 (.app 2 32) [.t 48,.t 54],oo 56 (.fad 2) [.t 7],ou (.st 1) [.t 56,.t 55]] [[],[0],[],[],[],[3,4],[2,5],[6],[1,7,5],[0,1,2,3,4,5,6,7,8],[9,8,8,0,1,2,3,4,5,6,7,8]])))))))
 (.reg false [oo 57 (.bin .add) [.t 25,ki 1],oo 25 .mv [.t 57]] [])))))))
 (.seq (.reg true [oo 59 (.ld true 3) [.t 2],oo 60 (.ld true 3) [.t 3],oo 61 (.fad 0) [.t 7],oo 62 (.ld false 1) [.t 61],oo 63 .call [.f zbe,.t 59,.t 60,.t 62],oo 64 (.fad 0) [.t 7],oo 65 (.ld false 1) [.t 64],oo 66 .len [.t 65],oo 67 .call [.f zbZ,.t 63,.t 66],oo 58 .mv [.t 67],oo 68 (.ext 0) [.t 58],oo 69 (.ext 1) [.t 58],oo 70 (.fad 1) [.t 7],ou (.st 1) [.t 70,.t 68]] [[],[],[],[2],[0,1,3],[],[5],[6],[4,7,4],[8],[9],[9],[0,1,2,3,4,5,6,7,8,9,10],[12,10,8,0,1,2,3,4,5,6,7,8,9,10]])
 (.seq (.reg false [oo 71 (.ld true 3) [.t 7],ou (.st 3) [.t 4,.t 71],oo 5 .mv [ki 0]] [])
 .ret))))))⟩
def zjo : AFun:=⟨9,[(4,none)],
 (.seq (.reg false [oo 2 (.box 3) [.t 0],oo 4 .mv [.c (.bool false)]] [])
 (.seq (.reg false [oo 5 (.fad 0) [.t 2],oo 6 (.ld false 1) [.t 5],oo 7 .mv [.t 1],oo 8 .call [.f zas,.t 6,.t 7],oo 4 .mv [.t 8]] [])
 .ret))⟩
def zjV : AFun:=⟨39,[(6,none)],
 (.seq (.reg false [oo 3 (.box 3) [.t 0],oo 4 (.box 3) [.t 1],oo 6 .mv [.c (.bool false)]] [])
 (.seq (.seq
 (.reg false [oo 10 (.ld true 3) [.t 3],oo 11 (.ld true 3) [.t 4],oo 12 .call [.f zbw,.t 10,.t 11],oo 13 (.bin .neq) [.t 12,ki 0],oo 14 .mv [.t 13],oh 15 .mv [.t 2] 14,oh 16 (.fad 0) [.t 3] 14,oh 17 (.ld false 1) [.t 16] 14,oh 18 (.bin .sub) [.t 17,ki 1] 14,oh 19 .call [.f za7,.t 15,ki 0,.t 18] 14,oh 20 (.un .not) [.t 19] 14,oo 21 .pick [.t 14,.c (.bool true),.t 20]] [])
 (.cond (.t 21)
 (.seq (.reg false [
 oo 6 .mv [.c (.bool false)]] [])
 .ret)
 .skip))
 (.seq (.reg false [oo 22 (.ld true 3) [.t 3],oo 23 (.ld true 3) [.t 4],oo 24 .call [.f zdc,.t 22,.t 23],oo 7 (.alloc [vn]) [],ou (.st 1) [.t 7,.t 24]] [])
 (.seq (.seq
 (.reg false [oo 25 .mv [.t 2],oo 26 (.mkf zbY) [.t 7],oo 27 .call [.f zaR,.t 25,.t 26]] [])
 (.cond (.t 27)
 (.seq (.reg false [
 oo 6 .mv [.c (.bool false)]] [])
 .ret)
 .skip))
 (.seq (.reg false [oo 29 (.ld true 3) [.t 3],oo 30 (.ld true 3) [.t 4],oo 31 .mv [.t 2],oo 32 .call [.f zbe,.t 29,.t 30,.t 31],oo 33 .mv [.t 2],oo 34 .len [.t 33],oo 35 .call [.f zbZ,.t 32,.t 34],oo 28 .mv [.t 35],oo 36 (.ext 0) [.t 28],oo 37 (.ext 1) [.t 28],oo 8 .mv [.t 36],oo 9 .mv [.t 37]] [])
 (.seq (.reg false [oo 38 .mv [.t 9],oo 6 .mv [.t 38]] [])
 .ret))))))⟩
def zls : AFun:=⟨80,[(6,none)],
 (.seq (.reg false [oo 3 (.box 3) [.t 0],oo 4 (.box 3) [.t 1],oo 5 (.box 3) [.t 2],oo 6 .mv [ki 0]] [])
 (.seq (.seq
 (.reg false [oo 14 (.ld true 3) [.t 3],oo 15 (.ld true 3) [.t 4],oo 16 .call [.f zbw,.t 14,.t 15],oo 7 .mv [.t 16]] [])
 (.seq (.reg false [oo 17 .mv [.t 7],oo 18 (.bin .neq) [.t 17,ki 0]] [])
 (.cond (.t 18)
 (.seq (.reg false [
 oo 19 .mv [.t 7],
 oo 6 .mv [.t 19]] [])
 .ret)
 .skip)))
 (.seq (.reg true [oo 21 (.ld true 3) [.t 3],oo 22 (.ld true 3) [.t 4],oo 23 .call [.f zc7,.t 21,.t 22],oo 24 (.ld true 3) [.t 5],oo 25 .call [.f zdS,.t 23,.t 24],oo 20 .mv [.t 25],oo 26 (.ext 0) [.t 20],oo 27 (.ext 1) [.t 20],oo 8 .mv [.t 26],oo 9 .mv [.t 27]] [[],[],[0,1],[],[2,3,2],[4],[5],[5],[6,4,0,1,2,3,4,5,6],[7,8,0,1,2,3,4,5,6,7,8]])
 (.seq (.seq
 (.reg false [oo 28 .mv [.t 9],oo 29 (.un .not) [.t 28]] [])
 (.cond (.t 29)
 (.seq (.reg false [
 oo 6 .mv [ki 1]] [])
 .ret)
 .skip))
 (.seq (.seq
 (.reg false [oo 30 (.ld true 3) [.t 3],oo 31 (.ld true 3) [.t 4],oo 32 (.fad 0) [.t 5],oo 33 (.ld false 1) [.t 32],oo 34 .call [.f zbe,.t 30,.t 31,.t 33],oo 10 (.alloc [v0,vn]) [],ou (.st 2) [.t 10,.t 34]] [])
 (.seq (.reg true [oo 35 (.ld true 2) [.t 10],oo 36 (.fad 1) [.t 5],oo 37 (.ld false 1) [.t 36],oo 38 .call [.f zd7,.t 35,.t 37],oo 39 (.un .not) [.t 38],oo 40 .mv [.t 39],oh 41 (.ld true 2) [.t 10] 40,oh 42 (.fad 1) [.t 5] 40,oh 43 (.ld false 1) [.t 42] 40,oh 44 .call [.f zep,.t 41,.t 43] 40,oh 45 (.fad 0) [.t 5] 40,oh 46 (.ld false 1) [.t 45] 40,oh 47 .len [.t 46] 40,oh 48 (.bin .neq) [.t 44,.t 47] 40,oo 49 .pick [.t 40,.c (.bool true),.t 48]] [[],[],[1],[0,2],[3],[4,3],[5],[5],[7,5],[6,8,5,5],[5],[10,5],[11,5],[9,12,5],[5,13]])
 (.cond (.t 49)
 (.seq (.reg false [
 oo 6 .mv [ki 17]] [])
 .ret)
 .skip)))
 (.seq (.seq
 (.reg false [oo 50 (.fad 2) [.t 5],oo 51 (.ld false 1) [.t 50],oo 52 .len [.t 51],oo 53 .mv [ki 0]] [])
 (.block 0 (.loop
 (.seq (.reg false [oo 54 (.bin .lss) [.t 53,.t 52]] [])
 (.seq (.cond (.t 54)
 .skip
 (.exit 0))
 (.seq (.block 1 (.seq (.reg false [oo 55 .mv [.t 53],oo 56 (.iad 2) [.t 51,.t 53],oo 57 (.ld true 2) [.t 56],oo 12 (.alloc [v0,vn]) [],oo 11 .mv [.t 55],ou (.st 2) [.t 12,.t 57]] [])
 (.seq (.reg true [oo 58 (.fad 0) [.t 5],oo 59 (.ld false 1) [.t 58],oo 60 .mv [.t 8],oo 61 .mv [.t 11],oo 62 (.iad 1) [.t 60,.t 61],oo 63 (.ld false 1) [.t 62],oo 64 (.slc 1 false true false) [.t 59,.t 63],oo 65 (.fad 0) [.t 12],oo 66 (.ld false 1) [.t 65],oo 67 .call [.f zdH,.t 64,.t 66],oo 13 .mv [.t 67]] [[],[0],[],[],[2,3],[4],[1,5],[],[7],[6,8],[9,9,0,1,2,3,4,5,6,7,8,9]])
 (.seq (.reg true [oo 68 (.ld true 3) [.t 3],oo 69 (.ld true 3) [.t 4],oo 70 .mv [.t 13],oo 71 .call [.f zbe,.t 68,.t 69,.t 70],oo 72 (.fad 1) [.t 12],oo 73 (.ld false 1) [.t 72],oo 74 .mv [.t 13],oo 75 .len [.t 74],oo 76 (.bin .sub) [.t 75,ki 1],oo 77 .call [.f zfR,.t 71,.t 73,.t 76],oo 78 (.un .not) [.t 77]] [[],[],[],[0,1,2],[],[4],[],[6],[7],[3,5,8,3],[9]])
 (.cond (.t 78)
 (.seq (.reg false [
 oo 6 .mv [ki 18]] [])
 .ret)
 .skip)))))
 (.reg false [oo 79 (.bin .add) [.t 53,ki 1],oo 53 .mv [.t 79]] [])))))))
 (.seq (.reg false [oo 6 .mv [ki 0]] [])
 .ret)))))))⟩
def zo1 : AFun:=⟨31,[(4,none)],
 (.seq (.reg false [oo 2 (.box 3) [.t 0],oo 3 (.box 3) [.t 1],oo 4 .mv [kn]] [])
 (.seq (.reg true [oo 8 (.ld true 3) [.t 2],oo 9 (.fad 2) [.t 3],oo 10 (.ld false 1) [.t 9],oo 11 .call [.f zdI,.t 8,.t 10],oo 12 (.fad 0) [.t 3],oo 13 (.ld false 1) [.t 12],oo 14 .call [.f zfi,.t 11,.t 13],oo 5 .mv [.t 14]] [[],[],[1],[0,2],[],[4],[3,5,3],[6,6,0,1,2,3,4,5,6]])
 (.seq (.reg false [oo 6 .mv [kn]] [])
 (.seq (.seq
 (.reg false [oo 7 .mv [ki 0]] [])
 (.block 0 (.loop
 (.seq (.seq
 (.reg false [oo 15 .mv [.t 7],oo 16 .mv [.t 5],oo 17 .len [.t 16],oo 18 (.bin .lss) [.t 15,.t 17]] [])
 (.cond (.t 18)
 .skip
 (.exit 0)))
 (.seq (.block 1 (.reg true [oo 21 .mv [.t 6],oo 22 (.ld true 3) [.t 3],oo 23 .mv [.t 5],oo 24 .mv [.t 7],oo 25 (.iad 1) [.t 23,.t 24],oo 26 (.ld false 1) [.t 25],oo 27 .call [.f zi4,.t 22,.t 26],oo 28 (.bsl 1 1 [v0] [0]) [.t 27],oo 29 (.app 1 8) [.t 21,.t 28],oo 6 .mv [.t 29]] [[],[],[],[],[2,3],[4],[1,5],[6],[0,7,6],[8,8,0,1,2,3,4,5,6,7,8]]))
 (.reg false [oo 19 .mv [.t 7],oo 20 (.bin .add) [.t 19,ki 1],oo 7 .mv [.t 20]] []))))))
 (.seq (.reg false [oo 30 .mv [.t 6],oo 4 .mv [.t 30]] [])
 .ret)))))⟩
def zmh : AFun:=⟨77,[(6,none)],
 (.seq (.reg false [oo 3 (.box 3) [.t 0],oo 4 (.box 3) [.t 1],oo 6 .mv [ki 0]] [])
 (.seq (.reg false [oo 13 (.ld true 3) [.t 3],oo 14 (.ld true 3) [.t 4],oo 15 .call [.f zfh,.t 13,.t 14],oo 7 .mv [.t 15]] [])
 (.seq (.reg false [oo 8 .mv [ki 0]] [])
 (.seq (.seq
 (.reg false [oo 9 .mv [ki 0]] [])
 (.block 0 (.loop
 (.seq (.seq
 (.reg false [oo 16 .mv [.t 9],oo 17 (.fad 0) [.t 3],oo 18 (.ld false 1) [.t 17],oo 19 (.bin .lss) [.t 16,.t 18]] [])
 (.cond (.t 19)
 .skip
 (.exit 0)))
 (.seq (.block 1 (.seq (.seq
 (.reg false [oo 22 .mv [.t 2],oo 23 .mv [.t 9],oo 24 .call [.f zaJ,.t 22,.t 23]] [])
 (.cond (.t 24)
 (.seq (.seq
 (.reg false [
 oo 25 (.fad 0) [.t 4],
 oo 26 (.ld false 1) [.t 25],
 oo 27 .mv [.t 9],
 oo 28 .call [.f zaJ,.t 26,.t 27]] [])
 (.cond (.t 28)
 (.reg false [
 oo 29 .mv [.t 8],
 oo 30 .mv [.t 7],
 oo 31 .mv [.t 9],
 oo 32 (.iad 1) [.t 30,.t 31],
 oo 33 (.ld false 1) [.t 32],
 oo 34 (.bin .add) [.t 29,.t 33],
 oo 8 .mv [.t 34]] [])
 .skip))
 (.exit 1))
 .skip))
 (.seq (.reg false [oo 10 .mv [.c (.bool false)]] [])
 (.seq (.seq
 (.reg false [oo 11 .mv [ki 0]] [])
 (.block 2 (.loop
 (.seq (.seq
 (.reg false [oo 35 .mv [.t 11],oo 36 (.fad 1) [.t 3],oo 37 (.ld false 1) [.t 36],oo 38 .len [.t 37],oo 39 (.bin .lss) [.t 35,.t 38]] [])
 (.cond (.t 39)
 .skip
 (.exit 2)))
 (.seq (.block 3 (.seq (.reg false [oo 42 (.fad 1) [.t 3],oo 43 (.ld false 1) [.t 42],oo 44 .mv [.t 11],oo 45 (.iad 3) [.t 43,.t 44],oo 46 (.ld true 3) [.t 45],oo 12 (.alloc [v0,v0,v0]) [],ou (.st 3) [.t 12,.t 46]] [])
 (.reg false [oo 47 .mv [.t 10],oo 48 .mv [.t 47],oh 49 (.fad 0) [.t 12] 48,oh 50 (.ld false 1) [.t 49] 48,oh 51 .mv [.t 9] 48,oh 52 (.bin .eql) [.t 50,.t 51] 48,oh 53 .mv [.t 52] 48,og 54 (.fad 2) [.t 12] 53,og 55 (.ld false 1) [.t 54] 53,og 56 (.fad 2) [.t 4] 53,og 57 (.ld false 1) [.t 56] 53,og 58 (.bin .geq) [.t 55,.t 57] 53,oh 59 .pick [.t 53,.t 58,.c (.bool false)] 48,oh 60 .mv [.t 59] 48,og 61 .mv [.t 2] 60,og 62 (.fad 1) [.t 12] 60,og 63 (.ld false 1) [.t 62] 60,og 64 .call [.f zaJ,.t 61,.t 63] 60,oh 65 .pick [.t 60,.t 64,.c (.bool false)] 48,oo 66 .pick [.t 48,.c (.bool true),.t 65],oo 10 .mv [.t 66]] [])))
 (.reg false [oo 40 .mv [.t 11],oo 41 (.bin .add) [.t 40,ki 1],oo 11 .mv [.t 41]] []))))))
 (.seq (.reg false [oo 67 .mv [.t 10]] [])
 (.cond (.t 67)
 (.reg false [
 oo 68 .mv [.t 8],
 oo 69 .mv [.t 7],
 oo 70 .mv [.t 9],
 oo 71 (.iad 1) [.t 69,.t 70],
 oo 72 (.ld false 1) [.t 71],
 oo 73 (.bin .sub) [.t 72,ki 1],
 oo 74 .mx2 [ki 0,.t 73],
 oo 75 (.bin .add) [.t 68,.t 74],
 oo 8 .mv [.t 75]] [])
 .skip))))))
 (.reg false [oo 20 .mv [.t 9],oo 21 (.bin .add) [.t 20,ki 1],oo 9 .mv [.t 21]] []))))))
 (.seq (.reg false [oo 76 .mv [.t 8],oo 6 .mv [.t 76]] [])
 .ret)))))⟩
def zox : AFun:=⟨9,[(0,some (true,3)),(1,some (true,3))],
 (.seq (.reg false [oo 0 (.alloc [v0,vn,vn]) [],oo 1 (.alloc [vn,vn,v0]) []] [])
 (.seq (.reg false [oo 2 (.build [v0,v0,v0] [(0,1),(1,1),(2,1)]) [ki 0,ki 1,ki 1],oo 3 (.build [v0,v0,v0] [(0,1),(1,1),(2,1)]) [ki 0,ki 2,ki 1],oo 4 (.bsl 3 2 [v0,v0,v0] [0,1]) [.t 2,.t 3],oo 5 (.build [v0,vn,vn] [(0,1),(1,1)]) [ki 3,.t 4],oo 6 (.bsl 1 1 [v0] [0]) [ki 0],oo 7 (.bsl 1 2 [v0] [0,1]) [ki 2,ki 1],oo 8 (.build [vn,vn,v0] [(0,1),(1,1),(2,1)]) [.t 6,.t 7,ki 1],ou (.st 3) [.t 0,.t 5],ou (.st 3) [.t 1,.t 8]] [])
 .ret))⟩
def zi7 : AFun:=⟨65,[(4,none)],
 (.seq (.reg false [oo 2 (.box 3) [.t 0],oo 3 (.box 3) [.t 1],oo 4 .mv [ki 0]] [])
 (.seq (.seq
 (.reg false [oo 8 (.ld true 3) [.t 2],oo 9 .call [.f zeZ,.t 8],oo 5 .mv [.t 9]] [])
 (.seq (.reg false [oo 10 .mv [.t 5],oo 11 (.bin .neq) [.t 10,ki 0]] [])
 (.cond (.t 11)
 (.seq (.reg false [
 oo 12 .mv [.t 5],
 oo 4 .mv [.t 12]] [])
 .ret)
 .skip)))
 (.seq (.seq
 (.reg false [oo 13 (.fad 0) [.t 3],oo 14 (.ld false 1) [.t 13],oo 15 .len [.t 14],oo 16 (.bin .eql) [.t 15,ki 0],oo 17 .mv [.t 16],oh 18 (.fad 0) [.t 3] 17,oh 19 (.ld false 1) [.t 18] 17,oh 20 (.fad 0) [.t 2] 17,oh 21 (.ld false 1) [.t 20] 17,oh 22 (.bin .sub) [.t 21,ki 1] 17,oh 23 .call [.f za7,.t 19,ki 0,.t 22] 17,oh 24 (.un .not) [.t 23] 17,oo 25 .pick [.t 17,.c (.bool true),.t 24],oo 26 .mv [.t 25],oh 27 (.fad 1) [.t 3] 26,oh 28 (.ld false 1) [.t 27] 26,oh 29 .len [.t 28] 26,oh 30 .call [.f zaL,.t 29,ki 1,ki 8] 26,oh 31 (.un .not) [.t 30] 26,oo 32 .pick [.t 26,.c (.bool true),.t 31],oo 33 .mv [.t 32],oh 34 (.fad 2) [.t 3] 33,oh 35 (.ld false 1) [.t 34] 33,oh 36 .call [.f zaL,.t 35,ki 1,ki 3] 33,oh 37 (.un .not) [.t 36] 33,oo 38 .pick [.t 33,.c (.bool true),.t 37]] [])
 (.cond (.t 38)
 (.seq (.reg false [
 oo 4 .mv [ki 15]] [])
 .ret)
 .skip))
 (.seq (.seq
 (.reg false [oo 39 (.fad 1) [.t 3],oo 40 (.ld false 1) [.t 39],oo 41 .len [.t 40],oo 42 .mv [ki 0]] [])
 (.block 0 (.loop
 (.seq (.reg false [oo 43 (.bin .lss) [.t 42,.t 41]] [])
 (.seq (.cond (.t 43)
 .skip
 (.exit 0))
 (.seq (.block 1 (.seq (.reg false [oo 44 .mv [.t 42],oo 45 (.iad 1) [.t 40,.t 42],oo 46 (.ld false 1) [.t 45],oo 6 .mv [.t 44],oo 7 .mv [.t 46]] [])
 (.seq (.reg false [oo 47 .mv [.t 7],oo 48 .call [.f zaL,.t 47,ki 1,ki 1000],oo 49 (.un .not) [.t 48],oo 50 .mv [.t 49],oh 51 .mv [.t 6] 50,oh 52 (.bin .gtr) [.t 51,ki 0] 50,oh 53 .mv [.t 52] 50,og 54 .mv [.t 7] 53,og 55 (.fad 1) [.t 3] 53,og 56 (.ld false 1) [.t 55] 53,og 57 .mv [.t 6] 53,og 58 (.bin .sub) [.t 57,ki 1] 53,og 59 (.iad 1) [.t 56,.t 58] 53,og 60 (.ld false 1) [.t 59] 53,og 61 (.bin .gtr) [.t 54,.t 60] 53,oh 62 .pick [.t 53,.t 61,.c (.bool false)] 50,oo 63 .pick [.t 50,.c (.bool true),.t 62]] [])
 (.cond (.t 63)
 (.seq (.reg false [
 oo 4 .mv [ki 15]] [])
 .ret)
 .skip))))
 (.reg false [oo 64 (.bin .add) [.t 42,ki 1],oo 42 .mv [.t 64]] [])))))))
 (.seq (.reg false [oo 4 .mv [ki 0]] [])
 .ret)))))⟩
def zkK : AFun:=⟨12,[(4,none)],
 (.seq (.reg false [oo 2 (.box 3) [.t 0],oo 3 (.box 3) [.t 1],oo 4 .mv [kn]] [])
 (.seq (.reg true [oo 5 (.ld true 3) [.t 2],oo 6 (.fad 2) [.t 3],oo 7 (.ld false 1) [.t 6],oo 8 .call [.f zcY,.t 5,.t 7],oo 9 (.fad 0) [.t 3],oo 10 (.ld false 1) [.t 9],oo 11 .call [.f zdk,.t 8,.t 10],oo 4 .mv [.t 11]] [[],[],[1],[0,2],[],[4],[3,5,3],[6,6,0,1,2,3,4,5,6]])
 .ret))⟩
def zmB : AFun:=⟨14,[(4,none)],
 (.seq (.reg false [oo 4 .mv [kn]] [])
 (.seq (.reg false [oo 5 .mv [.t 0],oo 6 .mv [.t 0],oo 7 .len [.t 6],oo 8 .mv [.t 0],oo 9 .len [.t 8],oo 10 (.slc 1 false true true) [.t 5,.t 7,.t 9],oo 11 .mv [.t 1],oo 12 (.bsl 1 1 [v0] [0]) [.t 11],oo 13 (.app 1 8) [.t 10,.t 12],oo 4 .mv [.t 13]] [])
 .ret))⟩
def ziM : AFun:=⟨18,[(6,some (true,2))],
 (.seq (.reg false [oo 3 (.box 3) [.t 0],oo 4 (.box 3) [.t 1],oo 6 (.alloc [v0,vn]) []] [])
 (.seq (.reg true [oo 10 (.ld true 3) [.t 3],oo 11 (.ld true 3) [.t 4],oo 12 .mv [.t 2],oo 13 .call [.f zeo,.t 12],oo 14 .call [.f zdV,.t 10,.t 11,.t 13],oo 9 .mv [.t 14],oo 15 (.ext 0) [.t 9],oo 16 (.ext 1) [.t 9],oo 7 (.alloc [v0,vn]) [],ou (.st 2) [.t 7,.t 15],oo 8 .mv [.t 16]] [[],[],[],[2],[0,1,3,3],[4],[5],[5],[],[8,6,4,0,1,2,3,4,5,6,8],[7,9,0,1,2,3,4,5,6,7,8,9]])
 (.seq (.reg false [oo 17 (.ld true 2) [.t 7],ou (.st 2) [.t 6,.t 17]] [])
 .ret)))⟩
def zk3 : AFun:=⟨19,[(4,none),(5,none)],
 (.seq (.reg false [oo 2 (.box 2) [.t 0],oo 4 .mv [kn],oo 5 .mv [.c (.bool false)]] [])
 (.seq (.reg false [oo 9 (.ld true 2) [.t 2],oo 10 .call [.f zjc,.t 9],oo 8 .mv [.t 10],oo 11 (.ext 0) [.t 8],oo 12 (.ext 1) [.t 8],oo 6 .mv [.t 11],oo 7 .mv [.t 12]] [])
 (.seq (.reg false [oo 13 .mv [.t 6],oo 14 (.ld true 2) [.t 2],oo 15 .mv [.t 6],oo 16 .call [.f zep,.t 14,.t 15],oo 17 .mv [.t 1],oo 18 (.bin .eql) [.t 16,.t 17],oo 4 .mv [.t 13],oo 5 .mv [.t 18]] [])
 .ret)))⟩
def zkA : AFun:=⟨14,[(4,none)],
 (.seq (.reg false [oo 2 (.box 2) [.t 0],oo 4 .mv [kn]] [])
 (.seq (.reg false [oo 6 (.ld true 2) [.t 2],oo 7 .mv [.t 1],oo 8 .call [.f zfn,.t 6,.t 7],oo 9 .call [.f zbm,.t 8],oo 5 (.alloc [(.map none)]) [],ou (.st 1) [.t 5,.t 9]] [])
 (.seq (.reg false [oo 10 (.fad 0) [.t 2],oo 11 (.ld false 1) [.t 10],oo 12 (.mkf zaH) [.t 5],oo 13 .call [.f zbT,.t 11,.t 12],oo 4 .mv [.t 13]] [])
 .ret)))⟩
def zlz : AFun:=⟨30,[(4,none)],
 (.seq (.reg false [oo 2 (.box 3) [.t 0],oo 3 (.box 3) [.t 1],oo 4 .mv [kn]] [])
 (.seq (.reg true [oo 8 (.ld true 3) [.t 2],oo 9 (.fad 2) [.t 3],oo 10 (.ld false 1) [.t 9],oo 11 .call [.f zcY,.t 8,.t 10],oo 12 (.fad 0) [.t 3],oo 13 (.ld false 1) [.t 12],oo 14 .call [.f zdd,.t 11,.t 13],oo 5 .mv [.t 14]] [[],[],[1],[0,2],[],[4],[3,5,3],[6,6,0,1,2,3,4,5,6]])
 (.seq (.seq
 (.reg false [oo 15 .mv [.t 5],oo 16 .len [.t 15],oo 17 .mv [ki 0]] [])
 (.block 0 (.loop
 (.seq (.reg false [oo 18 (.bin .lss) [.t 17,.t 16]] [])
 (.seq (.cond (.t 18)
 .skip
 (.exit 0))
 (.seq (.block 1 (.seq (.reg false [oo 19 .mv [.t 17],oo 20 (.iad 1) [.t 15,.t 17],oo 21 (.ld false 1) [.t 20],oo 6 .mv [.t 19],oo 7 .mv [.t 21]] [])
 (.reg false [oo 22 .mv [.t 5],oo 23 .mv [.t 6],oo 24 (.ld true 3) [.t 3],oo 25 .mv [.t 7],oo 26 .call [.f ze3,.t 24,.t 25],oo 27 (.iad 1) [.t 22,.t 23],ou (.st 1) [.t 27,.t 26]] [])))
 (.reg false [oo 28 (.bin .add) [.t 17,ki 1],oo 17 .mv [.t 28]] [])))))))
 (.seq (.reg false [oo 29 .mv [.t 5],oo 4 .mv [.t 29]] [])
 .ret))))⟩
def zhd : AFun:=⟨9,[(3,none)],
 (.seq (.reg false [oo 3 .mv [.c (.bool false)]] [])
 (.seq (.reg false [oo 4 (.ld false 1) [.t 1],oo 5 .mv [.t 0],oo 6 (.iad 1) [.t 4,.t 5],oo 7 (.ld false 1) [.t 6],oo 8 (.bin .eql) [.t 7,ki 0],oo 3 .mv [.t 8]] [])
 .ret))⟩
def zjS : AFun:=⟨70,[(4,none),(5,none)],
 (.seq (.reg false [oo 3 (.box 3) [.t 1],oo 4 .mv [kn],oo 5 .mv [.c (.bool false)]] [])
 (.seq (.reg false [oo 6 .mv [kn]] [])
 (.seq (.reg false [oo 7 .mv [ki 0],oo 8 .mv [ki 0]] [])
 (.seq (.seq
 (.reg false [oo 11 .mv [.t 0],oo 12 .len [.t 11],oo 13 .mv [ki 0]] [])
 (.block 0 (.loop
 (.seq (.reg false [oo 14 (.bin .lss) [.t 13,.t 12]] [])
 (.seq (.cond (.t 14)
 .skip
 (.exit 0))
 (.seq (.block 1 (.seq (.reg false [oo 15 (.iad 1) [.t 11,.t 13],oo 16 (.ld false 1) [.t 15],oo 10 .mv [.t 16]] [])
 (.block 2 (.seq (.reg false [oo 18 .mv [.t 7],oo 19 (.fad 0) [.t 3],oo 20 (.ld false 1) [.t 19],oo 21 .len [.t 20],oo 22 (.bin .lss) [.t 18,.t 21],oo 23 .mv [.t 22],og 24 (.fad 0) [.t 3] 23,og 25 (.ld false 1) [.t 24] 23,og 26 .mv [.t 7] 23,og 27 (.iad 1) [.t 25,.t 26] 23,og 28 (.ld false 1) [.t 27] 23,og 29 .mv [.t 10] 23,og 30 (.bin .eql) [.t 28,.t 29] 23,oo 31 .pick [.t 23,.t 30,.c (.bool false)],oo 17 .mv [.t 31]] [])
 (.cond (.t 17)
 (.reg false [
 oo 32 .mv [.t 7],
 oo 33 (.bin .add) [.t 32,ki 1],
 oo 7 .mv [.t 33]] [])
 (.seq (.reg false [
 oo 35 .mv [.t 8],
 oo 36 (.fad 2) [.t 3],
 oo 37 (.ld false 1) [.t 36],
 oo 38 .len [.t 37],
 oo 39 (.bin .lss) [.t 35,.t 38],
 oo 40 .mv [.t 39],
 og 41 (.fad 2) [.t 3] 40,
 og 42 (.ld false 1) [.t 41] 40,
 og 43 .mv [.t 8] 40,
 og 44 (.iad 2) [.t 42,.t 43] 40,
 og 45 (.fad 0) [.t 44] 40,
 og 46 (.ld false 1) [.t 45] 40,
 og 47 .mv [.t 10] 40,
 og 48 (.bin .eql) [.t 46,.t 47] 40,
 oo 49 .pick [.t 40,.t 48,.c (.bool false)],
 oo 34 .mv [.t 49]] [])
 (.cond (.t 34)
 (.seq (.reg false [
 oo 50 .mv [.t 8],
 oo 51 (.bin .add) [.t 50,ki 1],
 oo 8 .mv [.t 51]] [])
 (.reg false [
 oo 52 .mv [.t 6],
 oo 53 .mv [.t 7],
 oo 54 (.bsl 1 1 [v0] [0]) [.t 53],
 oo 55 (.app 1 8) [.t 52,.t 54],
 oo 6 .mv [.t 55]] []))
 (.seq (.reg false [
 oo 4 .mv [kn],
 oo 5 .mv [.c (.bool false)]] [])
 .ret))))))))
 (.reg false [oo 56 (.bin .add) [.t 13,ki 1],oo 13 .mv [.t 56]] [])))))))
 (.seq (.reg true [oo 57 .mv [.t 6],oo 58 .mv [.t 7],oo 59 (.fad 0) [.t 3],oo 60 (.ld false 1) [.t 59],oo 61 .len [.t 60],oo 62 (.bin .eql) [.t 58,.t 61],oo 63 .mv [.t 62],og 64 .mv [.t 8] 63,og 65 (.fad 2) [.t 3] 63,og 66 (.ld false 1) [.t 65] 63,og 67 .len [.t 66] 63,og 68 (.bin .eql) [.t 64,.t 67] 63,oo 69 .pick [.t 63,.t 68,.c (.bool false)],oo 4 .mv [.t 57],oo 5 .mv [.t 69]] [[],[],[],[2],[3],[1,4],[5],[6],[6],[8,6],[9,6],[7,10,6],[6,11],[0,6,0],[12,13,0,1,2,3,4,5,6,7,8,9,10,11,12,13]])
 .ret)))))⟩
def zmV : AFun:=⟨41,[(4,none)],
 (.seq (.reg false [oo 2 (.box 2) [.t 0],oo 4 .mv [.c (.bool false)]] [])
 (.seq (.seq
 (.reg false [oo 7 (.ld true 2) [.t 2],oo 8 .call [.f zdp,.t 7],oo 9 (.bin .neq) [.t 8,ki 0],oo 10 .mv [.t 9],oh 11 .mv [.t 1] 10,oh 12 .len [.t 11] 10,oh 13 (.fad 1) [.t 2] 10,oh 14 (.ld false 1) [.t 13] 10,oh 15 .len [.t 14] 10,oh 16 (.bin .neq) [.t 12,.t 15] 10,oo 17 .pick [.t 10,.c (.bool true),.t 16]] [])
 (.cond (.t 17)
 (.seq (.reg false [
 oo 4 .mv [.c (.bool false)]] [])
 .ret)
 .skip))
 (.seq (.seq
 (.reg false [oo 18 (.fad 1) [.t 2],oo 19 (.ld false 1) [.t 18],oo 20 .len [.t 19],oo 21 .mv [ki 0]] [])
 (.block 0 (.loop
 (.seq (.reg false [oo 22 (.bin .lss) [.t 21,.t 20]] [])
 (.seq (.cond (.t 22)
 .skip
 (.exit 0))
 (.seq (.block 1 (.seq (.reg false [oo 23 .mv [.t 21],oo 24 (.iad 3) [.t 19,.t 21],oo 25 (.ld true 3) [.t 24],oo 6 (.alloc [v0,v0,v0]) [],oo 5 .mv [.t 23],ou (.st 3) [.t 6,.t 25]] [])
 (.seq (.reg true [oo 26 .mv [.t 1],oo 27 .mv [.t 5],oo 28 (.iad 1) [.t 26,.t 27],oo 29 (.ld false 1) [.t 28],oo 30 (.fad 2) [.t 6],oo 31 (.ld false 1) [.t 30],oo 32 .call [.f zaL,.t 29,ki 0,.t 31],oo 33 (.un .not) [.t 32]] [[],[],[0,1],[2],[],[4],[3,5],[6]])
 (.cond (.t 33)
 (.seq (.reg false [
 oo 4 .mv [.c (.bool false)]] [])
 .ret)
 .skip))))
 (.reg false [oo 34 (.bin .add) [.t 21,ki 1],oo 21 .mv [.t 34]] [])))))))
 (.seq (.reg false [oo 35 (.ld true 2) [.t 2],oo 36 .mv [.t 1],oo 37 .call [.f zc9,.t 35,.t 36],oo 38 (.slc 1 true false false) [.t 37,ki 2],oo 39 .call [.f zaR,.t 38,(.f zcU)],oo 40 (.un .not) [.t 39],oo 4 .mv [.t 40]] [])
 .ret))))⟩
def zmR : AFun:=⟨14,[(4,none)],
 (.seq (.reg false [oo 2 (.box 2) [.t 0],oo 4 .mv [ki 0]] [])
 (.seq (.seq
 (.reg false [oo 5 (.ld true 2) [.t 2],oo 6 .mv [.t 1],oo 7 .call [.f zd7,.t 5,.t 6],oo 8 (.un .not) [.t 7]] [])
 (.cond (.t 8)
 (.seq (.reg false [
 oo 4 .mv [ki 0]] [])
 .ret)
 .skip))
 (.seq (.reg false [oo 9 (.ld true 2) [.t 2],oo 10 .mv [.t 1],oo 11 .call [.f zc9,.t 9,.t 10],oo 12 (.iad 1) [.t 11,ki 0],oo 13 (.ld false 1) [.t 12],oo 4 .mv [.t 13]] [])
 .ret)))⟩
def zno : AFun:=⟨17,[(6,none)],
 (.seq (.reg false [oo 3 (.box 2) [.t 0],oo 6 .mv [.c (.bool false)]] [])
 (.seq (.reg false [oo 7 (.ld true 2) [.t 3],oo 8 .mv [.t 1],oo 9 .call [.f zfp,.t 7,.t 8],oo 10 .mv [.t 9],og 11 (.ld true 2) [.t 3] 10,og 12 .mv [.t 1] 10,og 13 .call [.f zer,.t 11,.t 12] 10,og 14 .mv [.t 2] 10,og 15 (.bin .leq) [.t 13,.t 14] 10,oo 16 .pick [.t 10,.t 15,.c (.bool false)],oo 6 .mv [.t 16]] [])
 .ret))⟩
def zq2 : AFun:=⟨17,[(4,none)],
 (.seq (.reg false [oo 2 (.box 3) [.t 0],oo 4 .mv [ki 0]] [])
 (.seq (.seq
 (.reg false [oo 5 .mv [.t 1],oo 6 (.bin .lss) [.t 5,ki 0]] [])
 (.cond (.t 6)
 (.seq (.reg false [
 oo 4 .mv [ki 0]] [])
 .ret)
 .skip))
 (.seq (.seq
 (.reg false [oo 7 .mv [.t 1],oo 8 (.fad 1) [.t 2],oo 9 (.ld false 1) [.t 8],oo 10 .len [.t 9],oo 11 (.bin .lss) [.t 7,.t 10]] [])
 (.cond (.t 11)
 (.seq (.reg false [
 oo 12 (.fad 1) [.t 2],
 oo 13 (.ld false 1) [.t 12],
 oo 14 .mv [.t 1],
 oo 15 (.iad 1) [.t 13,.t 14],
 oo 16 (.ld false 1) [.t 15],
 oo 4 .mv [.t 16]] [])
 .ret)
 .skip))
 (.seq (.reg false [oo 4 .mv [ki 1]] [])
 .ret))))⟩
def zjz : AFun:=⟨123,[(6,some (true,2)),(7,none)],
 (.seq (.reg false [oo 3 (.box 3) [.t 0],oo 4 (.box 3) [.t 1],oo 6 (.alloc [v0,vn]) [],oo 7 .mv [ki 0]] [])
 (.seq (.seq
 (.reg false [oo 20 (.ld true 3) [.t 3],oo 21 (.ld true 3) [.t 4],oo 22 .call [.f zbw,.t 20,.t 21],oo 8 .mv [.t 22]] [])
 (.seq (.reg false [oo 23 .mv [.t 8],oo 24 (.bin .neq) [.t 23,ki 0]] [])
 (.cond (.t 24)
 (.seq (.reg false [
 oo 25 (.build [v0,vn] []) [],
 oo 26 .mv [.t 8],
 ou (.st 2) [.t 6,.t 25],
 oo 7 .mv [.t 26]] [])
 .ret)
 .skip)))
 (.seq (.seq
 (.reg false [oo 27 .mv [.t 2],oo 28 (.fad 0) [.t 3],oo 29 (.ld false 1) [.t 28],oo 30 (.bin .sub) [.t 29,ki 1],oo 31 .call [.f za7,.t 27,ki 0,.t 30],oo 32 (.un .not) [.t 31]] [])
 (.cond (.t 32)
 (.seq (.reg false [
 oo 33 (.build [v0,vn] []) [],
 ou (.st 2) [.t 6,.t 33],
 oo 7 .mv [ki 4]] [])
 .ret)
 .skip))
 (.seq (.reg false [oo 34 (.fad 0) [.t 3],oo 35 (.ld false 1) [.t 34],oo 36 .call [.f zbz,.t 35],oo 37 (.build [v0,vn] [(0,1)]) [.t 36],oo 9 (.alloc [v0,vn]) [],ou (.st 2) [.t 9,.t 37]] [])
 (.seq (.reg false [oo 38 (.mkf zaE) [.t 9],oo 10 .mv [.t 38]] [])
 (.seq (.reg false [oo 39 (.ld true 3) [.t 3],oo 40 (.ld true 3) [.t 4],oo 41 .call [.f zdc,.t 39,.t 40],oo 11 .mv [.t 41]] [])
 (.seq (.seq
 (.reg false [oo 42 (.fad 0) [.t 4],oo 43 (.ld false 1) [.t 42],oo 44 .len [.t 43],oo 45 .mv [ki 0]] [])
 (.block 0 (.loop
 (.seq (.reg false [oo 46 (.bin .lss) [.t 45,.t 44]] [])
 (.seq (.cond (.t 46)
 .skip
 (.exit 0))
 (.seq (.block 1 (.seq (.reg false [oo 47 (.iad 1) [.t 43,.t 45],oo 48 (.ld false 1) [.t 47],oo 13 .mv [.t 48]] [])
 (.seq (.reg false [oo 49 .mv [.t 11],oo 50 .mv [.t 13],oo 51 (.iad 1) [.t 49,.t 50],oo 52 (.ld false 1) [.t 51],oo 53 (.bin .gtr) [.t 52,ki 0]] [])
 (.cond (.t 53)
 (.reg true [
 oo 54 .mv [.t 10],
 oo 55 .mv [.t 13],
 oo 56 .call [.f zbz,.t 55],
 oo 57 .mv [.t 11],
 oo 58 .mv [.t 13],
 oo 59 (.iad 1) [.t 57,.t 58],
 oo 60 (.ld false 1) [.t 59],
 oo 61 .call [.t 54,ki 0,.t 56,.t 60]] [[],[],[1],[],[],[3,4],[5],[0,2,6,2]])
 .skip))))
 (.reg false [oo 62 (.bin .add) [.t 45,ki 1],oo 45 .mv [.t 62]] [])))))))
 (.seq (.seq
 (.reg false [oo 63 .mv [.t 11],oo 64 .len [.t 63],oo 65 .mv [ki 0]] [])
 (.block 2 (.loop
 (.seq (.reg false [oo 66 (.bin .lss) [.t 65,.t 64]] [])
 (.seq (.cond (.t 66)
 .skip
 (.exit 2))
 (.seq (.block 3 (.seq (.reg false [oo 67 .mv [.t 65],oo 68 (.iad 1) [.t 63,.t 65],oo 69 (.ld false 1) [.t 68],oo 14 .mv [.t 67],oo 15 .mv [.t 69]] [])
 (.seq (.reg false [oo 70 .mv [.t 15],oo 71 (.bin .gtr) [.t 70,ki 0]] [])
 (.cond (.t 71)
 (.reg false [
 oo 72 .mv [.t 10],
 oo 73 .mv [.t 14],
 oo 74 .call [.f zbz,.t 73],
 oo 75 .mv [.t 14],
 oo 76 .call [.f zez,.t 75],
 oo 77 .mv [.t 15],
 oo 78 (.bin .sub) [.t 77,ki 1],
 oo 79 .call [.t 72,.t 74,.t 76,.t 78]] [])
 .skip))))
 (.reg false [oo 80 (.bin .add) [.t 65,ki 1],oo 65 .mv [.t 80]] [])))))))
 (.seq (.seq
 (.reg false [oo 81 .mv [.t 2],oo 82 .len [.t 81],oo 83 .mv [ki 0]] [])
 (.block 4 (.loop
 (.seq (.reg false [oo 84 (.bin .lss) [.t 83,.t 82]] [])
 (.seq (.cond (.t 84)
 .skip
 (.exit 4))
 (.seq (.block 5 (.seq (.reg false [oo 85 (.iad 1) [.t 81,.t 83],oo 86 (.ld false 1) [.t 85],oo 17 .mv [.t 86]] [])
 (.seq (.reg false [oo 87 .mv [.t 11],oo 88 .mv [.t 17],oo 89 (.iad 1) [.t 87,.t 88],oo 90 (.ld false 1) [.t 89],oo 91 (.bin .gtr) [.t 90,ki 0]] [])
 (.cond (.t 91)
 (.reg false [
 oo 92 .mv [.t 10],
 oo 93 .mv [.t 17],
 oo 94 .call [.f zbz,.t 93],
 oo 95 .call [.t 92,.t 94,ki 1,ki 1]] [])
 .skip))))
 (.reg false [oo 96 (.bin .add) [.t 83,ki 1],oo 83 .mv [.t 96]] [])))))))
 (.seq (.seq
 (.reg false [oo 97 (.ld true 3) [.t 3],oo 98 (.fad 2) [.t 4],oo 99 (.ld false 1) [.t 98],oo 100 .call [.f zcY,.t 97,.t 99],oo 101 (.fld false 1 1) [.t 100],oo 102 .len [.t 101],oo 103 .mv [ki 0]] [])
 (.block 6 (.loop
 (.seq (.reg false [oo 104 (.bin .lss) [.t 103,.t 102]] [])
 (.seq (.cond (.t 104)
 .skip
 (.exit 6))
 (.seq (.block 7 (.seq (.reg false [oo 105 (.iad 3) [.t 101,.t 103],oo 106 (.ld true 3) [.t 105],oo 19 (.alloc [v0,v0,v0]) [],ou (.st 3) [.t 19,.t 106]] [])
 (.seq (.reg false [oo 107 .mv [.t 11],oo 108 (.fad 0) [.t 19],oo 109 (.ld false 1) [.t 108],oo 110 (.iad 1) [.t 107,.t 109],oo 111 (.ld false 1) [.t 110],oo 112 (.bin .gtr) [.t 111,ki 0]] [])
 (.cond (.t 112)
 (.reg true [
 oo 113 .mv [.t 10],
 oo 114 (.fad 0) [.t 19],
 oo 115 (.ld false 1) [.t 114],
 oo 116 .call [.f zez,.t 115],
 oo 117 (.fad 1) [.t 19],
 oo 118 (.ld false 1) [.t 117],
 oo 119 .call [.f zbz,.t 118],
 oo 120 .call [.t 113,.t 116,.t 119,ki 64]] [[],[],[1],[2],[],[4],[5,3],[0,3,6,6]])
 .skip))))
 (.reg false [oo 121 (.bin .add) [.t 103,ki 1],oo 103 .mv [.t 121]] [])))))))
 (.seq (.reg false [oo 122 (.ld true 2) [.t 9],ou (.st 2) [.t 6,.t 122],oo 7 .mv [ki 0]] [])
 .ret)))))))))))⟩
def zk8 : AFun:=⟨6,[(2,none)],
 (.seq (.reg false [oo 2 .mv [kn]] [])
 (.seq (.reg false [oo 3 .mv [.t 0],oo 4 .call [.f zbB,.t 3],oo 5 .call [.f zbJ,.t 4],oo 2 .mv [.t 5]] [])
 .ret))⟩
def zqB : AFun:=⟨16,[(2,none),(3,none)],
 (.seq (.reg false [oo 1 (.box 2) [.t 0],oo 2 .mv [kn],oo 3 .mv [ki 0]] [])
 (.seq (.seq
 (.reg false [oo 5 (.ld true 2) [.t 1],oo 6 .call [.f zdp,.t 5],oo 4 .mv [.t 6]] [])
 (.seq (.reg false [oo 7 .mv [.t 4],oo 8 (.bin .neq) [.t 7,ki 0]] [])
 (.cond (.t 8)
 (.seq (.reg false [
 oo 9 .mv [.t 4],
 oo 2 .mv [kn],
 oo 3 .mv [.t 9]] [])
 .ret)
 .skip)))
 (.seq (.reg true [oo 10 (.ld true 2) [.t 1],oo 11 (.fad 1) [.t 1],oo 12 (.ld false 1) [.t 11],oo 13 .len [.t 12],oo 14 (.mks 1 8 [v0]) [.t 13,.t 13],oo 15 .call [.f zgQ,.t 10,.t 14],oo 2 .mv [.t 15],oo 3 .mv [ki 0]] [[],[],[1],[2],[3,3],[0,4],[5,5,0,1,2,3,4,5],[6,0,1,2,3,4,5,6]])
 .ret)))⟩
def zoO : AFun:=⟨54,[(4,some (true,4))],
 (.seq (.reg false [oo 2 (.box 2) [.t 0],oo 4 (.alloc [v0,vn,vn,vn]) []] [])
 (.seq (.reg true [oo 8 (.ld true 2) [.t 2],oo 9 .mv [.t 1],oo 10 (.fad 0) [.t 2],oo 11 (.ld false 1) [.t 10],oo 12 (.mks 1 24 [vn]) [.t 11,.t 11],oo 13 (.build [v0,vn,vn,vn] [(0,2),(2,1),(3,1)]) [.t 8,.t 9,.t 12],oo 5 (.alloc [v0,vn,vn,vn]) [],ou (.st 4) [.t 5,.t 13]] [[],[],[],[2],[3,3],[0,1,4],[],[6,5,0,1,2,3,4,5,6]])
 (.seq (.seq
 (.reg false [oo 14 (.fad 1) [.t 2],oo 15 (.ld false 1) [.t 14],oo 16 .len [.t 15],oo 17 .mv [ki 0]] [])
 (.block 0 (.loop
 (.seq (.reg false [oo 18 (.bin .lss) [.t 17,.t 16]] [])
 (.seq (.cond (.t 18)
 .skip
 (.exit 0))
 (.seq (.block 1 (.seq (.reg false [oo 19 .mv [.t 17],oo 20 (.iad 3) [.t 15,.t 17],oo 21 (.ld true 3) [.t 20],oo 7 (.alloc [v0,v0,v0]) [],oo 6 .mv [.t 19],ou (.st 3) [.t 7,.t 21]] [])
 (.seq (.reg true [oo 22 (.fad 3) [.t 5],oo 23 (.ld false 1) [.t 22],oo 24 (.fad 0) [.t 7],oo 25 (.ld false 1) [.t 24],oo 26 (.fad 3) [.t 5],oo 27 (.ld false 1) [.t 26],oo 28 (.fad 0) [.t 7],oo 29 (.ld false 1) [.t 28],oo 30 (.iad 1) [.t 27,.t 29],oo 31 (.ld false 1) [.t 30],oo 32 .mv [.t 6],oo 33 (.build [v0,(.bool false)] [(0,1),(1,1)]) [.t 32,.c (.bool false)],oo 34 (.bsl 2 1 [v0,(.bool false)] [0]) [.t 33],oo 35 (.app 2 16) [.t 31,.t 34],oo 36 (.iad 1) [.t 23,.t 25],ou (.st 1) [.t 36,.t 35]] [[],[0],[],[2],[],[4],[],[6],[5,7],[8],[],[10],[11],[9,12],[1,3,0,1,2,3,4,5,6,7,8,9,10,11,12,13],[14,13,13,0,1,2,3,4,5,6,7,8,9,10,11,12,13]])
 (.reg true [oo 37 (.fad 3) [.t 5],oo 38 (.ld false 1) [.t 37],oo 39 (.fad 1) [.t 7],oo 40 (.ld false 1) [.t 39],oo 41 (.fad 3) [.t 5],oo 42 (.ld false 1) [.t 41],oo 43 (.fad 1) [.t 7],oo 44 (.ld false 1) [.t 43],oo 45 (.iad 1) [.t 42,.t 44],oo 46 (.ld false 1) [.t 45],oo 47 .mv [.t 6],oo 48 (.build [v0,(.bool false)] [(0,1),(1,1)]) [.t 47,.c (.bool true)],oo 49 (.bsl 2 1 [v0,(.bool false)] [0]) [.t 48],oo 50 (.app 2 16) [.t 46,.t 49],oo 51 (.iad 1) [.t 38,.t 40],ou (.st 1) [.t 51,.t 50]] [[],[0],[],[2],[],[4],[],[6],[5,7],[8],[],[10],[11],[9,12],[1,3,0,1,2,3,4,5,6,7,8,9,10,11,12,13],[14,13,13,0,1,2,3,4,5,6,7,8,9,10,11,12,13]]))))
 (.reg false [oo 52 (.bin .add) [.t 17,ki 1],oo 17 .mv [.t 52]] [])))))))
 (.seq (.reg false [oo 53 (.ld true 4) [.t 5],ou (.st 4) [.t 4,.t 53]] [])
 .ret))))⟩
def zeR : AFun:=⟨59,[(2,none)],
 (.seq (.reg false [oo 1 (.box 4) [.t 0],oo 2 .mv [(.c (.map none))]] [])
 (.seq (.reg false [oo 11 .mkm [],oo 12 (.build [v0,(.bool false)] [(0,1)]) [ki (-1)],ou .mup [.t 11,ki 0,.t 12],oo 13 .mv [.t 11],oo 3 .mv [.t 13]] [])
 (.seq (.seq
 (.reg false [oo 14 (.bsl 1 1 [v0] [0]) [ki 0],oo 4 .mv [.t 14]] [])
 (.block 0 (.loop
 (.seq (.seq
 (.reg false [oo 15 .mv [.t 4],oo 16 .len [.t 15],oo 17 (.bin .gtr) [.t 16,ki 0]] [])
 (.cond (.t 17)
 .skip
 (.exit 0)))
 (.seq (.block 1 (.seq (.reg true [oo 20 (.fad 3) [.t 1],oo 21 (.ld false 1) [.t 20],oo 22 .mv [.t 4],oo 23 (.iad 1) [.t 22,ki 0],oo 24 (.ld false 1) [.t 23],oo 25 (.iad 1) [.t 21,.t 24],oo 26 (.ld false 1) [.t 25],oo 27 .len [.t 26],oo 28 .mv [ki 0]] [[],[0],[],[2],[3],[1,4],[5],[6],[]])
 (.block 2 (.loop
 (.seq (.reg false [oo 29 (.bin .lss) [.t 28,.t 27]] [])
 (.seq (.cond (.t 29)
 .skip
 (.exit 2))
 (.seq (.block 3 (.seq (.reg false [oo 30 (.iad 2) [.t 26,.t 28],oo 31 (.ld true 2) [.t 30],oo 6 (.alloc [v0,(.bool false)]) [],ou (.st 2) [.t 6,.t 31]] [])
 (.seq (.reg false [oo 33 (.ld true 4) [.t 1],oo 34 (.ld true 2) [.t 6],oo 35 .call [.f zbA,.t 33,.t 34],oo 32 .mv [.t 35],oo 36 (.ext 0) [.t 32],oo 37 (.ext 1) [.t 32],oo 7 .mv [.t 36],oo 8 .mv [.t 37]] [])
 (.seq (.reg false [oo 39 .mv [.t 3],oo 40 .mv [.t 8],oo 41 (.mlk (.agg #[v0,(.bool false)]) true) [.t 39,.t 40],oo 38 .mv [.t 41],oo 42 (.ext 0) [.t 38],oo 43 (.ext 1) [.t 38],oo 9 (.alloc [v0,(.bool false)]) [],ou (.st 2) [.t 9,.t 42],oo 10 .mv [.t 43]] [])
 (.seq (.reg false [oo 44 .mv [.t 7],oo 45 (.bin .gtr) [.t 44,ki 0],oo 46 .mv [.t 45],og 47 .mv [.t 10] 46,og 48 (.un .not) [.t 47] 46,oo 49 .pick [.t 46,.t 48,.c (.bool false)]] [])
 (.cond (.t 49)
 (.seq (.reg false [
 oo 50 .mv [.t 3],
 oo 51 .mv [.t 8],
 oo 52 (.ld true 2) [.t 6],
 ou .mup [.t 50,.t 51,.t 52]] [])
 (.reg false [
 oo 53 .mv [.t 4],
 oo 54 .mv [.t 8],
 oo 55 (.bsl 1 1 [v0] [0]) [.t 54],
 oo 56 (.app 1 8) [.t 53,.t 55],
 oo 4 .mv [.t 56]] []))
 .skip))))))
 (.reg false [oo 57 (.bin .add) [.t 28,ki 1],oo 28 .mv [.t 57]] []))))))))
 (.reg false [oo 18 .mv [.t 4],oo 19 (.slc 1 true false false) [.t 18,ki 1],oo 4 .mv [.t 19]] []))))))
 (.seq (.reg false [oo 58 .mv [.t 3],oo 2 .mv [.t 58]] [])
 .ret))))⟩
def zhG : AFun:=⟨13,[(3,none)],
 (.seq (.reg false [oo 3 .mv [.c (.bool false)]] [])
 (.seq (.reg false [oo 7 (.ld false 1) [.t 1],oo 8 .mv [.t 0],oo 9 (.mlk (.agg #[v0,(.bool false)]) true) [.t 7,.t 8],oo 6 .mv [.t 9],oo 10 (.ext 0) [.t 6],oo 11 (.ext 1) [.t 6],oo 4 (.alloc [v0,(.bool false)]) [],ou (.st 2) [.t 4,.t 10],oo 5 .mv [.t 11]] [])
 (.seq (.reg false [oo 12 .mv [.t 5],oo 3 .mv [.t 12]] [])
 .ret)))⟩
def zmd : AFun:=⟨19,[(4,none)],
 (.seq (.reg false [oo 2 (.box 3) [.t 0],oo 4 .mv [ki 0]] [])
 (.seq (.block 0 (.seq (.reg false [oo 6 .mv [.t 1],oo 7 (.bin .lss) [.t 6,ki 0],oo 5 .mv [.t 7]] [])
 (.cond (.t 5)
 (.seq (.reg false [
 oo 4 .mv [ki 0]] [])
 .ret)
 (.seq (.reg false [
 oo 9 .mv [.t 1],
 oo 10 (.fad 1) [.t 2],
 oo 11 (.ld false 1) [.t 10],
 oo 12 .len [.t 11],
 oo 13 (.bin .lss) [.t 9,.t 12],
 oo 8 .mv [.t 13]] [])
 (.cond (.t 8)
 (.seq (.reg false [
 oo 14 (.fad 1) [.t 2],
 oo 15 (.ld false 1) [.t 14],
 oo 16 .mv [.t 1],
 oo 17 (.iad 1) [.t 15,.t 16],
 oo 18 (.ld false 1) [.t 17],
 oo 4 .mv [.t 18]] [])
 .ret)
 .skip)))))
 (.seq (.reg false [oo 4 .mv [ki 1]] [])
 .ret)))⟩
def znx : AFun:=⟨21,[(2,none)],
 (.seq (.reg false [oo 1 (.box 2) [.t 0],oo 2 .mv [ki 0]] [])
 (.seq (.reg false [oo 4 (.mkf zcQ) [.t 1],oo 3 .mv [.t 4]] [])
 (.seq (.seq
 (.reg false [oo 5 (.fad 0) [.t 1],oo 6 (.ld false 1) [.t 5],oo 7 .call [.f zaL,.t 6,ki 2,ki 130],oo 8 (.un .not) [.t 7],oo 9 .mv [.t 8],oh 10 (.fad 1) [.t 1] 9,oh 11 (.ld false 1) [.t 10] 9,oh 12 .len [.t 11] 9,oh 13 (.bin .gtr) [.t 12,ki 1200] 9,oo 14 .pick [.t 9,.c (.bool true),.t 13],oo 15 .mv [.t 14],oh 16 (.fad 1) [.t 1] 15,oh 17 (.ld false 1) [.t 16] 15,oh 18 .mv [.t 3] 15,oh 19 .call [.f zaN,.t 17,.t 18] 15,oo 20 .pick [.t 15,.c (.bool true),.t 19]] [])
 (.cond (.t 20)
 (.seq (.reg false [
 oo 2 .mv [ki 16]] [])
 .ret)
 .skip))
 (.seq (.reg false [oo 2 .mv [ki 0]] [])
 .ret))))⟩
def zk5 : AFun:=⟨43,[(4,none)],
 (.seq (.reg false [oo 2 (.box 2) [.t 0],oo 4 .mv [kn]] [])
 (.seq (.reg false [oo 8 (.fad 0) [.t 2],oo 9 (.ld false 1) [.t 8],oo 10 (.mks 1 8 [v0]) [.t 9,.t 9],oo 5 .mv [.t 10]] [])
 (.seq (.seq
 (.reg false [oo 11 (.fad 1) [.t 2],oo 12 (.ld false 1) [.t 11],oo 13 .len [.t 12],oo 14 .mv [ki 0]] [])
 (.block 0 (.loop
 (.seq (.reg false [oo 15 (.bin .lss) [.t 14,.t 13]] [])
 (.seq (.cond (.t 15)
 .skip
 (.exit 0))
 (.seq (.block 1 (.seq (.reg false [oo 16 .mv [.t 14],oo 17 (.iad 3) [.t 12,.t 14],oo 18 (.ld true 3) [.t 17],oo 7 (.alloc [v0,v0,v0]) [],oo 6 .mv [.t 16],ou (.st 3) [.t 7,.t 18]] [])
 (.seq (.reg true [oo 19 .mv [.t 5],oo 20 (.fad 0) [.t 7],oo 21 (.ld false 1) [.t 20],oo 22 (.iad 1) [.t 19,.t 21],oo 23 (.ld false 1) [.t 22],oo 24 .mv [.t 1],oo 25 .mv [.t 6],oo 26 (.iad 1) [.t 24,.t 25],oo 27 (.ld false 1) [.t 26],oo 28 (.bin .add) [.t 23,.t 27],oo 29 (.iad 1) [.t 19,.t 21],ou (.st 1) [.t 29,.t 28]] [[],[],[1],[0,2],[3],[],[],[5,6],[7],[4,8],[0,2,0,1,2,3,4,5,6,7,8,9],[10,9,0,1,2,3,4,5,6,7,8,9]])
 (.reg true [oo 30 .mv [.t 5],oo 31 (.fad 1) [.t 7],oo 32 (.ld false 1) [.t 31],oo 33 (.iad 1) [.t 30,.t 32],oo 34 (.ld false 1) [.t 33],oo 35 .mv [.t 1],oo 36 .mv [.t 6],oo 37 (.iad 1) [.t 35,.t 36],oo 38 (.ld false 1) [.t 37],oo 39 (.bin .sub) [.t 34,.t 38],oo 40 (.iad 1) [.t 30,.t 32],ou (.st 1) [.t 40,.t 39]] [[],[],[1],[0,2],[3],[],[],[5,6],[7],[4,8],[0,2,0,1,2,3,4,5,6,7,8,9],[10,9,0,1,2,3,4,5,6,7,8,9]]))))
 (.reg false [oo 41 (.bin .add) [.t 14,ki 1],oo 14 .mv [.t 41]] [])))))))
 (.seq (.reg false [oo 42 .mv [.t 5],oo 4 .mv [.t 42]] [])
 .ret))))⟩
def zjR : AFun:=⟨5,[(2,none)],
 (.seq (.reg false [oo 2 .mv [.c (.bool false)]] [])
 (.seq (.reg false [oo 3 .mv [.t 0],oo 4 (.bin .neq) [.t 3,ki 0],oo 2 .mv [.t 4]] [])
 .ret))⟩
def zpb : AFun:=⟨24,[(4,none)],
 (.seq (.reg false [oo 2 (.box 2) [.t 0],oo 4 .mv [.c (.bool false)]] [])
 (.seq (.reg false [oo 5 (.ld true 2) [.t 2],oo 6 .call [.f zdp,.t 5],oo 7 (.bin .eql) [.t 6,ki 0],oo 8 .mv [.t 7],og 9 .mv [.t 1] 8,og 10 (.fad 0) [.t 2] 8,og 11 (.ld false 1) [.t 10] 8,og 12 (.bin .sub) [.t 11,ki 1] 8,og 13 .call [.f za7,.t 9,ki 0,.t 12] 8,oo 14 .pick [.t 8,.t 13,.c (.bool false)],oo 15 .mv [.t 14],og 16 .mv [.t 1] 15,og 17 .call [.f zas,.t 16,ki 0] 15,oo 18 .pick [.t 15,.t 17,.c (.bool false)],oo 19 .mv [.t 18],og 20 .mv [.t 1] 19,og 21 .call [.f zas,.t 20,ki 1] 19,og 22 (.un .not) [.t 21] 19,oo 23 .pick [.t 19,.t 22,.c (.bool false)],oo 4 .mv [.t 23]] [])
 .ret))⟩
def zkT : AFun:=⟨54,[(4,none)],
 (.seq (.reg false [oo 2 (.box 2) [.t 0],oo 4 .mv [ki 0]] [])
 (.seq (.seq
 (.reg false [oo 11 (.ld true 2) [.t 2],oo 12 .mv [.t 1],oo 13 .call [.f zfp,.t 11,.t 12],oo 14 (.un .not) [.t 13]] [])
 (.cond (.t 14)
 (.seq (.reg false [
 oo 4 .mv [ki 0]] [])
 .ret)
 .skip))
 (.seq (.reg false [oo 15 (.fad 0) [.t 2],oo 16 (.ld false 1) [.t 15],oo 17 (.mks 1 1 [(.bool false)]) [.t 16,.t 16],oo 5 .mv [.t 17]] [])
 (.seq (.seq
 (.reg false [oo 18 .mv [.t 1],oo 19 .len [.t 18],oo 20 .mv [ki 0]] [])
 (.block 0 (.loop
 (.seq (.reg false [oo 21 (.bin .lss) [.t 20,.t 19]] [])
 (.seq (.cond (.t 21)
 .skip
 (.exit 0))
 (.seq (.block 1 (.seq (.reg false [oo 22 (.iad 1) [.t 18,.t 20],oo 23 (.ld false 1) [.t 22],oo 7 .mv [.t 23]] [])
 (.reg false [oo 24 .mv [.t 5],oo 25 .mv [.t 7],oo 26 (.iad 1) [.t 24,.t 25],ou (.st 1) [.t 26,.c (.bool true)]] [])))
 (.reg false [oo 27 (.bin .add) [.t 20,ki 1],oo 20 .mv [.t 27]] [])))))))
 (.seq (.reg false [oo 8 .mv [ki 0]] [])
 (.seq (.seq
 (.reg false [oo 28 (.fad 1) [.t 2],oo 29 (.ld false 1) [.t 28],oo 30 .len [.t 29],oo 31 .mv [ki 0]] [])
 (.block 2 (.loop
 (.seq (.reg false [oo 32 (.bin .lss) [.t 31,.t 30]] [])
 (.seq (.cond (.t 32)
 .skip
 (.exit 2))
 (.seq (.block 3 (.seq (.reg false [oo 33 (.iad 3) [.t 29,.t 31],oo 34 (.ld true 3) [.t 33],oo 10 (.alloc [v0,v0,v0]) [],ou (.st 3) [.t 10,.t 34]] [])
 (.seq (.reg false [oo 35 .mv [.t 5],oo 36 (.fad 0) [.t 10],oo 37 (.ld false 1) [.t 36],oo 38 (.iad 1) [.t 35,.t 37],oo 39 (.ld false 1) [.t 38],oo 40 .mv [.t 39],og 41 .mv [.t 5] 40,og 42 (.fad 1) [.t 10] 40,og 43 (.ld false 1) [.t 42] 40,og 44 (.iad 1) [.t 41,.t 43] 40,og 45 (.ld false 1) [.t 44] 40,og 46 (.un .not) [.t 45] 40,oo 47 .pick [.t 40,.t 46,.c (.bool false)]] [])
 (.cond (.t 47)
 (.reg false [
 oo 48 .mv [.t 8],
 oo 49 (.fad 2) [.t 10],
 oo 50 (.ld false 1) [.t 49],
 oo 51 (.bin .add) [.t 48,.t 50],
 oo 8 .mv [.t 51]] [])
 .skip))))
 (.reg false [oo 52 (.bin .add) [.t 31,ki 1],oo 31 .mv [.t 52]] [])))))))
 (.seq (.reg false [oo 53 .mv [.t 8],oo 4 .mv [.t 53]] [])
 .ret)))))))⟩
def zlZ : AFun:=⟨6,[(2,none)],
 (.seq (.reg false [oo 2 .mv [ki 0]] [])
 (.seq (.reg false [oo 3 .mv [.t 0],oo 4 (.bin .mul) [ki 2,.t 3],oo 5 (.bin .add) [ki 2,.t 4],oo 2 .mv [.t 5]] [])
 .ret))⟩
def zgX : AFun:=⟨16,[],
 (.reg false [oo 7 (.fad 1) [.t 3],oo 8 (.ld false 1) [.t 7],oo 9 .mv [.t 0],oo 10 .mv [.t 1],oo 11 .mv [.t 2],oo 12 (.build [v0,v0,v0] [(0,1),(1,1),(2,1)]) [.t 9,.t 10,.t 11],oo 13 (.bsl 3 1 [v0,v0,v0] [0]) [.t 12],oo 14 (.app 3 24) [.t 8,.t 13],oo 15 (.fad 1) [.t 3],ou (.st 1) [.t 15,.t 14]] [])⟩
def znp : AFun:=⟨6,[(2,none)],
 (.seq (.reg false [oo 2 .mv [ki 0]] [])
 (.seq (.reg false [oo 3 .mv [.t 0],oo 4 .call [.f zbz,.t 3],oo 5 (.bin .add) [.t 4,ki 1],oo 2 .mv [.t 5]] [])
 .ret))⟩
def zf3 : AFun:=⟨9,[(2,none)],
 (.seq (.reg false [oo 2 .mv [kn]] [])
 (.seq (.reg false [oo 4 .mv [.t 0],oo 5 .call [.f zcf,.t 4],oo 3 .mv [.t 5]] [])
 (.seq (.reg false [oo 6 .mv [.t 3],oo 7 .call [.f za0,.t 6]] [])
 (.seq (.reg false [oo 8 .mv [.t 3],oo 2 .mv [.t 8]] [])
 .ret))))⟩
def zeq : AFun:=⟨4,[(2,none)],
 (.seq (.reg false [oo 1 (.box 1) [.t 0],oo 2 .mv [(.c .nilFunc)]] [])
 (.seq (.reg false [oo 3 (.mkf zbj) [.t 1],oo 2 .mv [.t 3]] [])
 .ret))⟩
def zoY : AFun:=⟨14,[(4,none)],
 (.seq (.reg false [oo 2 (.box 2) [.t 0],oo 4 .mv [kn]] [])
 (.seq (.reg true [oo 6 (.ld true 2) [.t 2],oo 7 .mv [.t 1],oo 8 .call [.f zbg,.t 7],oo 9 .call [.f zfn,.t 6,.t 8],oo 5 (.alloc [v0,vn,vn,vn]) [],ou (.st 4) [.t 5,.t 9]] [[],[],[1],[0,2,2],[],[4,3,3,0,1,2,3,4]])
 (.seq (.block 0 (.loop
 (.seq (.seq
 (.reg false [oo 10 (.ld true 4) [.t 5],oo 11 .call [.f zcg,.t 10]] [])
 (.cond (.t 11)
 .skip
 (.exit 0)))
 (.block 1
 .skip))))
 (.seq (.reg false [oo 12 (.fad 2) [.t 5],oo 13 (.ld false 1) [.t 12],oo 4 .mv [.t 13]] [])
 .ret))))⟩
def zfK : AFun:=⟨35,[(4,none),(5,none)],
 (.seq (.reg false [oo 2 (.box 4) [.t 0],oo 3 (.box 2) [.t 1],oo 4 .mv [ki 0],oo 5 .mv [ki 0]] [])
 (.seq (.reg false [oo 7 (.fad 0) [.t 2],oo 8 (.fad 1) [.t 7],oo 9 (.ld false 1) [.t 8],oo 10 (.fad 0) [.t 3],oo 11 (.ld false 1) [.t 10],oo 12 (.iad 3) [.t 9,.t 11],oo 13 (.ld true 3) [.t 12],oo 6 (.alloc [v0,v0,v0]) [],ou (.st 3) [.t 6,.t 13]] [])
 (.seq (.seq
 (.reg false [oo 14 (.fad 1) [.t 3],oo 15 (.ld false 1) [.t 14]] [])
 (.cond (.t 15)
 (.seq (.reg true [
 oo 16 (.fad 2) [.t 2],
 oo 17 (.ld false 1) [.t 16],
 oo 18 (.fad 0) [.t 3],
 oo 19 (.ld false 1) [.t 18],
 oo 20 (.iad 1) [.t 17,.t 19],
 oo 21 (.ld false 1) [.t 20],
 oo 22 (.fad 0) [.t 6],
 oo 23 (.ld false 1) [.t 22],
 oo 4 .mv [.t 21],
 oo 5 .mv [.t 23]] [[],[0],[],[2],[1,3],[4],[],[6],[5,0,1,2,3,4,5],[7,8,0,1,2,3,4,5,6,7,8]])
 .ret)
 .skip))
 (.seq (.reg true [oo 24 (.fad 2) [.t 6],oo 25 (.ld false 1) [.t 24],oo 26 (.fad 2) [.t 2],oo 27 (.ld false 1) [.t 26],oo 28 (.fad 0) [.t 3],oo 29 (.ld false 1) [.t 28],oo 30 (.iad 1) [.t 27,.t 29],oo 31 (.ld false 1) [.t 30],oo 32 (.bin .sub) [.t 25,.t 31],oo 33 (.fad 1) [.t 6],oo 34 (.ld false 1) [.t 33],oo 4 .mv [.t 32],oo 5 .mv [.t 34]] [[],[0],[],[2],[],[4],[3,5],[6],[1,7],[],[9],[8,0,1,2,3,4,5,6,7,8],[10,11,0,1,2,3,4,5,6,7,8,9,10,11]])
 .ret))))⟩
def zjA : AFun:=⟨43,[(3,none)],
 (.seq (.reg false [oo 2 (.box 3) [.t 0],oo 3 .mv [.c (.bool false)]] [])
 (.seq (.reg false [oo 4 (.fad 0) [.t 2],oo 5 (.ld false 1) [.t 4],oo 6 (.fad 0) [.t 1],oo 7 (.ld false 1) [.t 6],oo 8 (.bin .sub) [.t 7,ki 1],oo 9 .call [.f zaL,.t 5,ki 0,.t 8],oo 10 (.un .not) [.t 9],oo 11 .mv [.t 10],oh 12 (.fad 1) [.t 2] 11,oh 13 (.ld false 1) [.t 12] 11,oh 14 (.fad 0) [.t 1] 11,oh 15 (.ld false 1) [.t 14] 11,oh 16 (.bin .sub) [.t 15,ki 1] 11,oh 17 .call [.f zaL,.t 13,ki 0,.t 16] 11,oh 18 (.un .not) [.t 17] 11,oo 19 .pick [.t 11,.c (.bool true),.t 18],oo 20 .mv [.t 19],oh 21 (.fad 0) [.t 2] 20,oh 22 (.ld false 1) [.t 21] 20,oh 23 (.fad 1) [.t 2] 20,oh 24 (.ld false 1) [.t 23] 20,oh 25 (.bin .eql) [.t 22,.t 24] 20,oo 26 .pick [.t 20,.c (.bool true),.t 25],oo 27 .mv [.t 26],oh 28 (.fad 1) [.t 2] 27,oh 29 (.ld false 1) [.t 28] 27,oh 30 (.bin .eql) [.t 29,ki 0] 27,oo 31 .pick [.t 27,.c (.bool true),.t 30],oo 32 .mv [.t 31],oh 33 (.fad 0) [.t 2] 32,oh 34 (.ld false 1) [.t 33] 32,oh 35 (.bin .eql) [.t 34,ki 1] 32,oo 36 .pick [.t 32,.c (.bool true),.t 35],oo 37 .mv [.t 36],oh 38 (.fad 2) [.t 2] 37,oh 39 (.ld false 1) [.t 38] 37,oh 40 .call [.f zaL,.t 39,ki 0,ki 1048576] 37,oh 41 (.un .not) [.t 40] 37,oo 42 .pick [.t 37,.c (.bool true),.t 41],oo 3 .mv [.t 42]] [])
 .ret))⟩
def zb3 : AFun:=⟨9,[(4,none)],
 (.seq (.reg false [oo 4 .mv [.c (.bool false)]] [])
 (.seq (.reg false [oo 5 .mv [.t 0],oo 6 .mv [.t 1],oo 7 .call [.f zaS,.t 5,.t 6],oo 8 (.bin .geq) [.t 7,ki 0],oo 4 .mv [.t 8]] [])
 .ret))⟩
def zfL : AFun:=⟨5,[(2,none)],
 (.seq (.reg false [oo 2 .mv [kn]] [])
 (.seq (.reg false [oo 3 .mv [.t 0],oo 4 .call [.f zb1,kn,.t 3],oo 2 .mv [.t 4]] [])
 .ret))⟩
def zfX : AFun:=⟨86,[(2,none)],
 (.seq (.reg false [oo 1 (.box 4) [.t 0],oo 2 .mv [.c (.bool false)]] [])
 (.seq (.reg false [oo 14 (.ld true 4) [.t 1],oo 15 .call [.f zbm,.t 14],oo 3 .mv [.t 15]] [])
 (.seq (.seq
 (.reg false [oo 17 .mv [.t 3],oo 18 (.mlk (.agg #[v0,(.bool false)]) true) [.t 17,ki 1],oo 16 .mv [.t 18],oo 19 (.ext 0) [.t 16],oo 20 (.ext 1) [.t 16],oo 4 (.alloc [v0,(.bool false)]) [],ou (.st 2) [.t 4,.t 19],oo 5 .mv [.t 20]] [])
 (.seq (.reg false [oo 21 .mv [.t 5],oo 22 (.un .not) [.t 21]] [])
 (.cond (.t 22)
 (.seq (.reg false [
 oo 2 .mv [.c (.bool false)]] [])
 .ret)
 .skip)))
 (.seq (.reg false [oo 6 .mv [kn]] [])
 (.seq (.reg false [oo 7 .mv [ki 1048576]] [])
 (.seq (.seq
 (.reg false [oo 8 .mv [ki 1]] [])
 (.block 0 (.loop
 (.seq (.seq
 (.reg false [oo 23 .mv [.t 8],oo 24 (.bin .neq) [.t 23,ki 0]] [])
 (.cond (.t 24)
 .skip
 (.exit 0)))
 (.block 1 (.seq (.reg false [oo 25 .mv [.t 3],oo 26 .mv [.t 8],oo 27 (.mlk (.agg #[v0,(.bool false)]) false) [.t 25,.t 26],oo 9 (.alloc [v0,(.bool false)]) [],ou (.st 2) [.t 9,.t 27]] [])
 (.seq (.reg false [oo 29 (.ld true 4) [.t 1],oo 30 (.ld true 2) [.t 9],oo 31 .call [.f zbA,.t 29,.t 30],oo 28 .mv [.t 31],oo 32 (.ext 0) [.t 28],oo 33 (.ext 1) [.t 28],oo 10 .mv [.t 32],oo 11 .mv [.t 33]] [])
 (.seq (.reg false [oo 34 .mv [.t 6],oo 35 (.ld true 2) [.t 9],oo 36 (.bsl 2 1 [v0,(.bool false)] [0]) [.t 35],oo 37 (.app 2 16) [.t 34,.t 36],oo 38 .mv [.t 7],oo 39 .mv [.t 10],oo 40 .mn2 [.t 38,.t 39],oo 6 .mv [.t 37],oo 7 .mv [.t 40]] [])
 (.seq (.reg false [oo 41 (.fad 0) [.t 1],oo 42 (.fad 1) [.t 41],oo 43 (.ld false 1) [.t 42],oo 44 (.fad 0) [.t 9],oo 45 (.ld false 1) [.t 44],oo 46 (.iad 3) [.t 43,.t 45],oo 47 (.fad 0) [.t 46],oo 48 (.ld false 1) [.t 47],oo 8 .mv [.t 48]] [])
 (.seq (.reg false [oo 49 (.fad 1) [.t 9],oo 50 (.ld false 1) [.t 49]] [])
 (.cond (.t 50)
 (.reg false [
 oo 51 (.fad 0) [.t 1],
 oo 52 (.fad 1) [.t 51],
 oo 53 (.ld false 1) [.t 52],
 oo 54 (.fad 0) [.t 9],
 oo 55 (.ld false 1) [.t 54],
 oo 56 (.iad 3) [.t 53,.t 55],
 oo 57 (.fad 1) [.t 56],
 oo 58 (.ld false 1) [.t 57],
 oo 8 .mv [.t 58]] [])
 .skip)))))))))))
 (.seq (.seq
 (.reg false [oo 59 .mv [.t 6],oo 60 .len [.t 59],oo 61 .mv [ki 0]] [])
 (.block 2 (.loop
 (.seq (.reg false [oo 62 (.bin .lss) [.t 61,.t 60]] [])
 (.seq (.cond (.t 62)
 .skip
 (.exit 2))
 (.seq (.block 3 (.seq (.reg false [oo 63 (.iad 2) [.t 59,.t 61],oo 64 (.ld true 2) [.t 63],oo 13 (.alloc [v0,(.bool false)]) [],ou (.st 2) [.t 13,.t 64]] [])
 (.seq (.reg false [oo 65 (.fad 1) [.t 13],oo 66 (.ld false 1) [.t 65]] [])
 (.cond (.t 66)
 (.reg false [
 oo 67 (.fad 2) [.t 1],
 oo 68 (.ld false 1) [.t 67],
 oo 69 (.fad 0) [.t 13],
 oo 70 (.ld false 1) [.t 69],
 oo 71 (.iad 1) [.t 68,.t 70],
 oo 72 (.ld false 1) [.t 71],
 oo 73 .mv [.t 7],
 oo 74 (.bin .sub) [.t 72,.t 73],
 oo 75 (.iad 1) [.t 68,.t 70],
 ou (.st 1) [.t 75,.t 74]] [])
 (.reg false [
 oo 76 (.fad 2) [.t 1],
 oo 77 (.ld false 1) [.t 76],
 oo 78 (.fad 0) [.t 13],
 oo 79 (.ld false 1) [.t 78],
 oo 80 (.iad 1) [.t 77,.t 79],
 oo 81 (.ld false 1) [.t 80],
 oo 82 .mv [.t 7],
 oo 83 (.bin .add) [.t 81,.t 82],
 oo 84 (.iad 1) [.t 77,.t 79],
 ou (.st 1) [.t 84,.t 83]] [])))))
 (.reg false [oo 85 (.bin .add) [.t 61,ki 1],oo 61 .mv [.t 85]] [])))))))
 (.seq (.reg false [oo 2 .mv [.c (.bool true)]] [])
 .ret))))))))⟩
def zcs : AFun:=⟨19,[(4,none)],
 (.seq (.reg false [oo 4 .mv [ki 0]] [])
 (.seq (.seq
 (.reg false [oo 6 .mv [.t 0],oo 7 .len [.t 6],oo 8 .mv [ki 0]] [])
 (.block 0 (.loop
 (.seq (.reg false [oo 9 (.bin .lss) [.t 8,.t 7]] [])
 (.seq (.cond (.t 9)
 .skip
 (.exit 0))
 (.seq (.block 1 (.seq (.reg false [oo 10 .mv [.t 8],oo 5 .mv [.t 10]] [])
 (.seq (.reg false [oo 11 .mv [.t 1],oo 12 .mv [.t 0],oo 13 .mv [.t 5],oo 14 (.iad 3) [.t 12,.t 13],oo 15 (.ld true 3) [.t 14],oo 16 .call [.t 11,.t 15]] [])
 (.cond (.t 16)
 (.seq (.reg false [
 oo 17 .mv [.t 5],
 oo 4 .mv [.t 17]] [])
 .ret)
 .skip))))
 (.reg false [oo 18 (.bin .add) [.t 8,ki 1],oo 8 .mv [.t 18]] [])))))))
 (.seq (.reg false [oo 4 .mv [ki (-1)]] [])
 .ret)))⟩
end Go.Proofs.YteiabadhhhckfaaGreat
