/- Texts of this claim,merged. -/
import Derived.Test.YtfdbhehkkobfgaaRt7
import Derived.Test.YtfdbhehkkobfgaaRt5
import Derived.Test.YtfdbhehkkobfgaaRt6
import Derived.Test.YtfdbhehkkobfgaaProg
import Derived.KernelRfl
set_option linter.unusedSimpArgs false
set_option linter.unusedVariables false
set_option linter.unusedSectionVars false
namespace Go.Proofs.Ytfdbhehkkobfgaa
open Go
def outs (l : List Ed) (key : Int) : List Int:=l.filterMap fun e=>if e.f = key then some e.t else none
theorem zk2 (l : List Ed) (key : Int) (k : Nat) (h : k < l.length) : outs (l.take (k + 1)) key = outs (l.take k) key ++ if l[k].f = key then [l[k].t] else []:=by
 unfold outs
 rw [← List.take_concat_get h,List.concat_eq_append,List.filterMap_append]
 congr 1
 by_cases hc : l[k].f = key <;> simp [hc]
theorem zlC (l : List Ed) (key : Int) : (outs l key).length ≤ l.length:=List.length_filterMap_le _ _
theorem zk3 (g : Gr) (key : Int) (hl : g.edges.length ≤ 1099511627776) : zaj Try.prog zgc [eG g,.I key] [] (.rs 0 0 (outs g.edges key).length) [some ⟨1,((outs g.edges key).mergeSort fun x y=>decide (x ≤ y)).map fun n=>[AV.I n],0⟩]:=by
 refine znv.acalls (nbz rfl) (nbz rfl) (Nat.zero_le _) ?_
 show awp _ 0 _ _ ⟨28,[(0,eG g),(1,.I key)],[],16⟩
 refine zaa ?_
 refine zac (s:=?s0) rfl ?o0 ?q0
 case o0=>simp; rfl
 refine zaa ?_
 refine zac (s:=?s1) rfl ?o1 ?q1
 case o1=>simp; rfl
 refine zaa ?_
 refine zaa ?_
 refine zac (s:=?s2) rfl ?o2 ?q2
 case o2=>simp; rfl
 refine zaf ?_
 refine zap (ι:=Nat) (fun k=>⟨28,[(1,.I key),(5,.rs 16 0 (outs (g.edges.take k) key).length),(9,eEs g.edges),(10,.I g.edges.length),(11,.I k)],[(16,some ⟨1,(outs (g.edges.take k) key).map fun n=>[AV.I n],0⟩)],24⟩) (fun k=>k ≤ g.edges.length) (fun k=>g.edges.length - k) (0) ?_ (Le.lst [] [] [(16,1)] rfl (by simp) (by simp) (by simp) (by simp) (by simp) (by simp) (by simp) (by simp [Up,outs]) (by simp [outs])) ?_
 ·simp
 rintro k hk
 have hol : (outs (g.edges.take k) key).length ≤ k:=Nat.le_trans (zlC _ _) (by simp; exact Nat.min_le_left _ _)
 refine zaa ?_
 refine zac (s:=?s3) rfl ?o3 ?q3
 case o3=>simp; rfl
 refine zaa ?_
 refine zad _ rfl (fun h4=>?_) fun h4=>?_
 ·try simp at h4
  have hw2 : IntKind.i64.wrap ((k : Int) + 1) = (k : Int) + 1:=w64 (by omega) (by omega)
  have hwp : 0 < k → IntKind.i64.wrap ((k : Int) - 1) = ((k - 1 : Nat) : Int):=fun h=>by rw [w64 (by omega) (by omega)]; omega
  have hkp : k - 1 < g.edges.length:=by omega
  refine zae ?_
  refine zaa ?_
  refine zaf ?_
  refine zab ⟨28,[(1,.I key),(5,.rs 16 0 (outs (g.edges.take k) key).length),(7,.pv (eC g.edges[k])),(9,eEs g.edges),(10,.I g.edges.length),(11,.I k)],[(16,some ⟨1,(outs (g.edges.take k) key).map fun n=>[AV.I n],0⟩)],24⟩ rfl ?_ ?_
  ·simp [h4,hw2,hwp,hkp]
   exact Le.var1 16 [48] rfl rfl (nbz rfl) (by decide) rfl (by simp [fcd]) (by simp) (by simp [h4,hw2,hwp,hkp])
  refine zaa ?_
  refine zac (s:=?s5) rfl ?o5 ?q5
  case o5=>simp [h4,hw2,hwp,hkp]; rfl
  refine zad _ rfl (fun h6=>?_) fun h6=>?_
  ·try simp at h6
   refine zac (s:=?s7) rfl ?o7 ?q7
   case o7 =>
    simp [h4,hw2,hwp,hkp,List.replicate]
    refine ⟨by omega,by omega,?_⟩
    rfl
   refine zac (s:=?s8) rfl ?o8 ?q8
   case o8=>simp [h4,hw2,hwp,hkp]; rfl
   have hs:=zk2 g.edges key k h4
   rw [if_pos h6] at hs
   refine ⟨k + 1,h4,by omega,Le.ren1 88 16 [] rfl rfl (nbz rfl) (by decide) rfl (by simp [hs,fcd,zaD]) (by simp) (by simp [hs,hw2])⟩
  try simp at h6
  refine zae ?_
  refine zac (s:=?s9) rfl ?o9 ?q9
  case o9=>simp [h4,hw2,hwp,hkp]; rfl
  have hs:=zk2 g.edges key k h4
  rw [if_neg h6,List.append_nil] at hs
  refine ⟨k + 1,h4,by omega,Le.var1 16 [] rfl rfl (nbz rfl) (by decide) rfl (by simp [hs,fcd,zaD]) (by simp) (by simp [hs,hw2])⟩
 try simp at h4
 have hkl : k = g.edges.length:=by omega
 subst hkl
 have hol2:=zlC g.edges key
 refine zal ?_
 refine hit ?_
 refine zaa ?_
 refine zac (s:=?s10) rfl ?o10 ?q10
 case o10 =>
  simp
  refine zbh (i:=16) rfl (e':=⟨1,zdf (outs g.edges key),0⟩) (by simp [zdf,fcd]) (zph (outs g.edges key) (by omega)) (by simp) (by simp) ?_
  simp [zdf,fcd]
  rfl
 refine zaa ?_
 refine zac (s:=?s11) rfl ?o11 ?q11
 case o11=>simp; rfl
 refine zag ?_
 exact ⟨.inr rfl,zao.out [16] [] rfl (by simp) (by simp) (by simp) (by simp [fcd])⟩
@[simp] theorem zuv {ρ : List (Nat × Nat)} {sn : List Nat} {h : Nat → Option Ent} {n : Nat} {f : Fn} {a b : List AV} : conv ρ sn h (n + 1) (.fn f a b) = .fn f (a.map (conv ρ sn h n)) (b.map (conv ρ sn h n)):=(rfl)
set_option maxRecDepth 100000
def zdH : AFun:=⟨209,[(2,none)],
 (sr [oo 2 .mv [.c (.bool false)]]
 (.seq (.seq
 (rg [ma 19 0,ca 20 zcX [.t 19],oo 21 (.un .not) [.t 20]])
 (.cond (.t 21)
 (sr [ca 22 zaN [],ma 2 22]
 .ret)
 .skip))
 (sr [ma 23 0,ca 24 zdN [.t 23],ma 3 24]
 (sr [ma 25 3,ca 26 za8 [.t 25],oo 4 (.alloc [v0,vn,vn]) [],ou (.st 3) [.t 4,.t 26]]
 (sr [ma 27 3,oo 28 (.ld true 3) [.t 4],ca 29 zbi [.t 27,.t 28],oo 5 (.alloc [vn,vn,v0]) [],ou (.st 3) [.t 5,.t 29]]
 (sr [ma 30 3,ca 31 zat [.t 30,ki 5],oo 32 (.bin .add) [ki 1,.t 31],ma 6 32]
 (sr [oo 34 (.ld true 3) [.t 4],oo 35 (.ld true 3) [.t 5],ma 36 6,ca 37 zaB [.t 34,.t 35,.t 36],ma 33 37,oo 38 (.ext 0) [.t 33],oo 39 (.ext 1) [.t 33],ma 7 38,ma 8 39]
 (sr [oo 40 (.ld true 3) [.t 4],fa 41 2 5,la 42 41,ca 43 zcE [.t 40,.t 42],oo 9 (.alloc [v0,vn,vn]) [],ou (.st 3) [.t 9,.t 43]]
 (sr [oo 44 (.ld true 3) [.t 9],fa 45 0 5,la 46 45,ca 47 zdz [.t 44,.t 46],ma 10 47]
 (.seq (.seq
 (rg [ma 48 8,oo 49 (.bin .neq) [.t 48,ki 0]])
 (.cond (.t 49)
 (sr [ca 50 zaN [],ma 51 50,og 52 (.ld true 3) [.t 9] 51,fg 53 0 5 51,lg 54 53 51,og 55 .call [.f zeJ,.t 52,.t 54] 51,og 56 .len [.t 55] 51,og 57 (.bin .eql) [.t 56,ki 0] 51,oo 58 .pick [.t 51,.t 57,.c (.bool false)],ma 2 58]
 .ret)
 .skip))
 (.seq (.seq
 (rg [ma 59 7,oo 60 .len [.t 59],fa 61 0 4,la 62 61,oo 63 (.bin .neq) [.t 60,.t 62]])
 (.cond (.t 63)
 (sr [oo 2 .mv [.c (.bool false)]]
 .ret)
 .skip))
 (sr [oo 11 .mv [ki 1],oo 12 .mv [ki 0]]
 (.seq (.seq
 (rg [oo 13 .mv [ki 0]])
 (.block 0 (.loop
 (.seq (.seq
 (rg [ma 64 13,fa 65 0 4,la 66 65,oo 67 (.bin .lss) [.t 64,.t 66]])
 (.cond (.t 67)
 .skip
 (.exit 0)))
 (.seq (.block 1 (.seq (.seq
 (.reg true [ma 70 10,ma 71 13,oo 72 (.iad 1) [.t 70,.t 71],la 73 72,oo 74 (.bin .geq) [.t 73,ki 0],ma 75 7,ma 76 13,oo 77 (.iad 1) [.t 75,.t 76],la 78 77,oo 79 (.bin .gtr) [.t 78,ki 0],oo 80 (.beq true) [.t 74,.t 79],ma 81 80,mh 82 7 81,mh 83 13 81,oh 84 (.iad 1) [.t 82,.t 83] 81,lh 85 84 81,oh 86 (.bin .lss) [.t 85,ki 0] 81,oo 87 .pick [.t 81,.c (.bool true),.t 86]] [[],[],[0,1],[2],[3],[],[],[5,6],[7],[8],[4,9],[10],[11],[11],[12,13,11],[14,11],[15,11],[11,16]])
 (.cond (.t 87)
 (sr [oo 2 .mv [.c (.bool false)]]
 .ret)
 .skip))
 (sr [ma 88 10,ma 89 13,oo 90 (.iad 1) [.t 88,.t 89],la 91 90,oo 92 (.bin .geq) [.t 91,ki 0]]
 (.cond (.t 92)
 (sr [ma 93 11,oo 94 (.ld true 3) [.t 4],oo 95 (.ld true 3) [.t 5],ma 96 6,ma 97 13,ca 98 zbq [.t 94,.t 95,.t 96,.t 97],ca 99 zc4 [.t 93,.t 98],ma 11 99]
 (rg [ma 100 7,ma 101 13,oo 102 (.iad 1) [.t 100,.t 101],la 103 102,ma 104 12,ca 105 zeZ [.t 103,.t 104],ma 12 105]))
 .skip))))
 (rg [ma 68 13,oo 69 (.bin .add) [.t 68,ki 1],ma 13 69]))))))
 (.seq (.seq
 (rg [ma 106 11,oo 107 (.bin .lss) [.t 106,ki 1],ma 108 107,mh 109 11 108,oh 110 (.bin .gtr) [.t 109,ki 16777216] 108,oo 111 .pick [.t 108,.c (.bool true),.t 110]])
 (.cond (.t 111)
 (sr [ca 112 zaN [],ma 2 112]
 .ret)
 .skip))
 (.seq (.seq
 (rg [oo 14 .mv [ki 0]])
 (.block 2 (.loop
 (.seq (.seq
 (rg [ma 113 14,fa 114 0 4,la 115 114,oo 116 (.bin .lss) [.t 113,.t 115]])
 (.cond (.t 116)
 .skip
 (.exit 2)))
 (.seq (.block 3 (.seq (.seq
 (rg [ma 119 10,ma 120 14,oo 121 (.iad 1) [.t 119,.t 120],la 122 121,oo 123 (.bin .lss) [.t 122,ki 0]])
 (.cond (.t 123)
 (.exit 3)
 .skip))
 (sr [oo 15 .mv [(.c (.int .u64 0))]]
 (.seq (.seq
 (rg [oo 16 .mv [ki 0]])
 (.block 4 (.loop
 (.seq (.seq
 (rg [ma 124 16,fa 125 0 4,la 126 125,oo 127 (.bin .lss) [.t 124,.t 126]])
 (.cond (.t 127)
 .skip
 (.exit 4)))
 (.seq (.block 5 (.seq (.seq
 (rg [ma 130 10,ma 131 16,oo 132 (.iad 1) [.t 130,.t 131],la 133 132,oo 134 (.bin .lss) [.t 133,ki 0]])
 (.cond (.t 134)
 (.exit 5)
 .skip))
 (sr [oo 17 .mv [ki 0]]
 (.seq (.seq
 (rg [oo 18 .mv [ki 0]])
 (.block 6 (.loop
 (.seq (.seq
 (rg [ma 135 18,fa 136 1 9,la 137 136,oo 138 .len [.t 137],oo 139 (.bin .lss) [.t 135,.t 138]])
 (.cond (.t 139)
 .skip
 (.exit 6)))
 (.seq (.block 7 (sr [fa 142 1 9,la 143 142,ma 144 18,oo 145 (.iad 3) [.t 143,.t 144],fa 146 0 145,la 147 146,ma 148 16,oo 149 (.bin .eql) [.t 147,.t 148],ma 150 149,fg 151 1 9 150,lg 152 151 150,mg 153 18 150,og 154 (.iad 3) [.t 152,.t 153] 150,fg 155 1 154 150,lg 156 155 150,mg 157 14 150,og 158 (.bin .eql) [.t 156,.t 157] 150,oo 159 .pick [.t 150,.t 158,.c (.bool false)]]
 (.cond (.t 159)
 (rg [ma 160 17,fa 161 1 9,la 162 161,ma 163 18,oo 164 (.iad 3) [.t 162,.t 163],fa 165 2 164,la 166 165,oo 167 (.bin .add) [.t 160,.t 166],ma 17 167])
 .skip)))
 (rg [ma 140 18,oo 141 (.bin .add) [.t 140,ki 1],ma 18 141]))))))
 (.seq (.seq
 (rg [fa 168 0 5,la 169 168,ma 170 14,ca 171 zaS [.t 169,.t 170]])
 (.cond (.t 171)
 (rg [ma 172 17,ma 173 6,oo 174 (.bin .add) [.t 172,.t 173],ma 17 174])
 .skip))
 (.reg true [ma 175 15,ma 176 7,ma 177 16,oo 178 (.iad 1) [.t 176,.t 177],la 179 178,oo 180 (.cvt .u64) [.t 179],ma 181 17,oo 182 (.cvt .u64) [.t 181],oo 183 (.bin .mul) [.t 180,.t 182],ma 184 11,oo 185 (.ld true 3) [.t 4],oo 186 (.ld true 3) [.t 5],ma 187 6,ma 188 16,ca 189 zbq [.t 185,.t 186,.t 187,.t 188],oo 190 (.bin .quo) [.t 184,.t 189],oo 191 (.cvt .u64) [.t 190],oo 192 (.bin .mul) [.t 183,.t 191],oo 193 (.bin .add) [.t 175,.t 192],ma 15 193] [[],[],[],[1,2],[3],[4],[],[6],[5,7],[],[],[],[],[],[10,11,12,13],[9,14],[15],[8,16],[0,17],[18,14,0,1,2,3,4,5,6,7,8,9,10,11,12,13,14,15,16,17,18]]))))))
 (rg [ma 128 16,oo 129 (.bin .add) [.t 128,ki 1],ma 16 129]))))))
 (sr [ma 194 15,ma 195 7,ma 196 14,oo 197 (.iad 1) [.t 195,.t 196],la 198 197,oo 199 (.cvt .u64) [.t 198],ma 200 11,oo 201 (.cvt .u64) [.t 200],oo 202 (.bin .mul) [.t 199,.t 201],oo 203 (.bin .neq) [.t 194,.t 202]]
 (.cond (.t 203)
 (sr [oo 2 .mv [.c (.bool false)]]
 .ret)
 .skip))))))
 (rg [ma 117 14,oo 118 (.bin .add) [.t 117,ki 1],ma 14 118]))))))
 (sr [ca 204 zaN [],ma 205 204,mg 206 12 205,og 207 (.bin .eql) [.t 206,ki 1] 205,oo 208 .pick [.t 205,.t 207,.c (.bool false)],ma 2 208]
 .ret))))))))))))))))⟩
def zeM : AFun:=⟨119,[(2,none)],
 (sr [oo 2 .mv [.c (.bool false)]]
 (.seq (.seq
 (rg [ma 14 0,ca 15 zcX [.t 14],oo 16 (.un .not) [.t 15]])
 (.cond (.t 16)
 (sr [ca 17 zaN [],ma 2 17]
 .ret)
 .skip))
 (sr [ma 18 0,ca 19 zdN [.t 18],ma 3 19]
 (sr [ma 20 3,ca 21 za8 [.t 20],oo 4 (.alloc [v0,vn,vn]) [],ou (.st 3) [.t 4,.t 21]]
 (sr [ma 22 3,oo 23 (.ld true 3) [.t 4],ca 24 zbi [.t 22,.t 23],oo 5 (.alloc [vn,vn,v0]) [],ou (.st 3) [.t 5,.t 24]]
 (.seq (.seq
 (.reg true [fa 25 0 4,la 26 25,oo 27 (.bin .gtr) [.t 26,ki 7],ma 28 27,oh 29 (.ld true 3) [.t 4] 28,fh 30 2 5 28,lh 31 30 28,oh 32 .call [.f zcE,.t 29,.t 31] 28,fh 33 0 5 28,lh 34 33 28,oh 35 .call [.f zdz,.t 32,.t 34] 28,mh 36 3 28,fh 37 0 4 28,lh 38 37 28,oh 39 .call [.f zat,.t 36,.t 38] 28,oh 40 (.iad 1) [.t 35,.t 39] 28,lh 41 40 28,oh 42 (.bin .lss) [.t 41,ki 0] 28,oo 43 .pick [.t 28,.c (.bool true),.t 42]] [[],[0],[1],[2],[3],[3],[5,3],[4,6,3,3],[3],[8,3],[7,9,7,3],[3],[3],[12,3],[11,13,10,3],[10,14,3],[15,3],[16,3],[3,17]])
 (.cond (.t 43)
 (sr [ca 44 zaN [],ma 2 44]
 .ret)
 .skip))
 (sr [fa 45 0 5,la 46 45,oo 47 (.iad 1) [.t 46,ki 0],la 48 47,ma 6 48]
 (.seq (.seq
 (rg [fa 49 2 4,la 50 49,ma 51 6,ca 52 zaS [.t 50,.t 51]])
 (.cond (.t 52)
 (sr [ca 53 zaN [],ma 2 53]
 .ret)
 .skip))
 (sr [oo 54 (.ld true 3) [.t 4],ca 55 zcY [.t 54],oo 7 (.alloc [v0,vn,vn]) [],ou (.st 3) [.t 7,.t 55]]
 (sr [fa 56 0 7,la 57 56,oo 58 (.bin .add) [.t 57,ki 2],fa 59 0 7,ou (.st 1) [.t 59,.t 58]]
 (.seq (.reg true [fa 60 0 4,la 61 60,fa 62 0 4,la 63 62,oo 64 (.bin .add) [.t 63,ki 1],ma 8 61,ma 9 64] [[],[0],[],[2],[3],[1,0,1],[4,5,0,1,2,3,4,5]])
 (.seq (.seq
 (rg [ma 65 6,ma 66 8,oo 67 (.build [v0,v0,v0] [(0,1),(1,1),(2,1)]) [.t 65,.t 66,ki 3],ma 68 8,ma 69 9,oo 70 (.build [v0,v0,v0] [(0,1),(1,1),(2,1)]) [.t 68,.t 69,ki 3],ma 71 9,ma 72 8,oo 73 (.build [v0,v0,v0] [(0,1),(1,1),(2,1)]) [.t 71,.t 72,ki 3],oo 74 (.bsl 3 3 [v0,v0,v0] [0,1,2]) [.t 67,.t 70,.t 73],oo 75 .len [.t 74],oo 76 .mv [ki 0]])
 (.block 0 (.loop
 (sr [oo 77 (.bin .lss) [.t 76,.t 75]]
 (.seq (.cond (.t 77)
 .skip
 (.exit 0))
 (.seq (.block 1 (sr [oo 78 (.iad 3) [.t 74,.t 76],oo 79 (.ld true 3) [.t 78],oo 11 (.alloc [v0,v0,v0]) [],ou (.st 3) [.t 11,.t 79]]
 (rg [oo 81 (.ld true 3) [.t 7],oo 82 (.ld true 3) [.t 11],ca 83 zdQ [.t 81,.t 82],ma 80 83,oo 84 (.ext 0) [.t 80],oo 85 (.ext 1) [.t 80],ou (.st 3) [.t 7,.t 84]])))
 (rg [oo 86 (.bin .add) [.t 76,ki 1],ma 76 86])))))))
 (sr [oo 88 (.ld true 3) [.t 7],oo 89 (.ld true 3) [.t 5],ca 90 zaB [.t 88,.t 89,ki 1],ma 87 90,oo 91 (.ext 0) [.t 87],oo 92 (.ext 1) [.t 87],ma 12 91,ma 13 92]
 (sr [ca 93 zaN [],ma 94 93,mg 95 13 94,og 96 (.bin .eql) [.t 95,ki 0] 94,oo 97 .pick [.t 94,.t 96,.c (.bool false)],ma 98 97,mg 99 12 98,og 100 .len [.t 99] 98,fg 101 0 7 98,lg 102 101 98,og 103 (.bin .eql) [.t 100,.t 102] 98,oo 104 .pick [.t 98,.t 103,.c (.bool false)],ma 105 104,mg 106 12 105,mg 107 8 105,og 108 (.iad 1) [.t 106,.t 107] 105,lg 109 108 105,og 110 (.bin .gtr) [.t 109,ki 0] 105,oo 111 .pick [.t 105,.t 110,.c (.bool false)],ma 112 111,mg 113 12 112,mg 114 9 112,og 115 (.iad 1) [.t 113,.t 114] 112,lg 116 115 112,og 117 (.bin .gtr) [.t 116,ki 0] 112,oo 118 .pick [.t 112,.t 117,.c (.bool false)],ma 2 118]
 .ret))))))))))))))⟩
def zej : AFun:=⟨91,[(2,none)],
 (sr [oo 2 .mv [.c (.bool false)]]
 (.seq (.seq
 (rg [ma 15 0,ca 16 zcX [.t 15],oo 17 (.un .not) [.t 16]])
 (.cond (.t 17)
 (sr [ca 18 zaN [],ma 2 18]
 .ret)
 .skip))
 (sr [ma 19 0,ca 20 zdN [.t 19],ma 3 20]
 (sr [ma 21 3,ca 22 za8 [.t 21],oo 4 (.alloc [v0,vn,vn]) [],ou (.st 3) [.t 4,.t 22]]
 (sr [ma 23 3,oo 24 (.ld true 3) [.t 4],ca 25 zbi [.t 23,.t 24],oo 5 (.alloc [vn,vn,v0]) [],ou (.st 3) [.t 5,.t 25]]
 (sr [ma 26 3,ca 27 zat [.t 26,ki 5],oo 28 (.bin .add) [ki 1,.t 27],ma 6 28]
 (sr [fa 30 0 4,la 31 30,oo 32 (.build [v0,vn,vn] [(0,1)]) [.t 31],oo 33 (.ld true 3) [.t 5],ma 34 6,ca 35 zaB [.t 32,.t 33,.t 34],ma 29 35,oo 36 (.ext 0) [.t 29],oo 37 (.ext 1) [.t 29],ma 7 36,ma 8 37]
 (.seq (.seq
 (rg [ma 38 8,oo 39 (.bin .neq) [.t 38,ki 0],ma 40 39,mh 41 7 40,oh 42 .len [.t 41] 40,fh 43 0 4 40,lh 44 43 40,oh 45 (.bin .neq) [.t 42,.t 44] 40,oo 46 .pick [.t 40,.c (.bool true),.t 45]])
 (.cond (.t 46)
 (sr [oo 2 .mv [.c (.bool false)]]
 .ret)
 .skip))
 (.seq (.seq
 (rg [oo 9 .mv [ki 0]])
 (.block 0 (.loop
 (.seq (.seq
 (rg [ma 47 9,fa 48 0 4,la 49 48,oo 50 (.bin .lss) [.t 47,.t 49]])
 (.cond (.t 50)
 .skip
 (.exit 0)))
 (.seq (.block 1 (sr [oo 10 .mv [ki 0]]
 (.seq (.seq
 (rg [fa 53 0 5,la 54 53,ma 55 9,ca 56 zaS [.t 54,.t 55]])
 (.cond (.t 56)
 (rg [oo 10 .mv [ki 1]])
 .skip))
 (sr [ma 57 7,ma 58 9,oo 59 (.iad 1) [.t 57,.t 58],la 60 59,ma 61 10,oo 62 (.bin .neq) [.t 60,.t 61]]
 (.cond (.t 62)
 (sr [oo 2 .mv [.c (.bool false)]]
 .ret)
 .skip)))))
 (rg [ma 51 9,oo 52 (.bin .add) [.t 51,ki 1],ma 9 52]))))))
 (sr [oo 64 (.ld true 3) [.t 4],oo 65 (.ld true 3) [.t 5],ma 66 6,ca 67 zaB [.t 64,.t 65,.t 66],ma 63 67,oo 68 (.ext 0) [.t 63],oo 69 (.ext 1) [.t 63],ma 11 68,ma 12 69]
 (.seq (.reg true [oo 71 (.ld true 3) [.t 4],fa 72 2 5,la 73 72,ca 74 zcE [.t 71,.t 73],oo 75 (.ld true 3) [.t 5],ma 76 6,ca 77 zaB [.t 74,.t 75,.t 76],ma 70 77,oo 78 (.ext 0) [.t 70],oo 79 (.ext 1) [.t 70],ma 13 78,ma 14 79] [[],[],[1],[0,2],[],[],[3,4,5,3],[6],[7],[7],[8,6,0,1,2,3,4,5,6,7,8],[9,10,0,1,2,3,4,5,6,7,8,9,10]])
 (sr [ca 80 zaN [],ma 81 80,mg 82 12 81,mg 83 14 81,og 84 (.bin .eql) [.t 82,.t 83] 81,oo 85 .pick [.t 81,.t 84,.c (.bool false)],ma 86 85,mg 87 11 86,mg 88 13 86,og 89 .call [.f zcV,.t 87,.t 88] 86,oo 90 .pick [.t 86,.t 89,.c (.bool false)],ma 2 90]
 .ret))))))))))))⟩
def zlj : AFun:=⟨55,[(0,none)],
 (sr [oo 0 .mv [.c (.bool false)]]
 (sr [oo 5 (.build [v0,v0,v0] [(0,1),(1,1),(2,1)]) [ki 0,ki 1,ki 1],oo 6 (.bsl 3 1 [v0,v0,v0] [0]) [.t 5],oo 7 (.build [v0,vn,vn] [(0,1),(1,1)]) [ki 2,.t 6],oo 1 (.alloc [v0,vn,vn]) [],ou (.st 3) [.t 1,.t 7]]
 (sr [oo 8 (.bsl 1 1 [v0] [0]) [ki 0],oo 9 (.bsl 1 1 [v0] [0]) [ki 2],oo 10 (.build [vn,vn,v0] [(0,1),(1,1),(2,1)]) [.t 8,.t 9,ki 1],oo 2 (.alloc [vn,vn,v0]) [],ou (.st 3) [.t 2,.t 10]]
 (sr [oo 12 (.ld true 3) [.t 1],oo 13 (.ld true 3) [.t 2],ca 14 zaB [.t 12,.t 13,ki 1],ma 11 14,oo 15 (.ext 0) [.t 11],oo 16 (.ext 1) [.t 11],ma 3 15,ma 4 16]
 (sr [ma 17 4,oo 18 (.bin .eql) [.t 17,ki 0],ma 19 18,mg 20 3 19,og 21 .len [.t 20] 19,og 22 (.bin .eql) [.t 21,ki 2] 19,oo 23 .pick [.t 19,.t 22,.c (.bool false)],ma 24 23,mg 25 3 24,og 26 (.iad 1) [.t 25,ki 0] 24,lg 27 26 24,og 28 (.bin .eql) [.t 27,ki 2] 24,oo 29 .pick [.t 24,.t 28,.c (.bool false)],ma 30 29,mg 31 3 30,og 32 (.iad 1) [.t 31,ki 1] 30,lg 33 32 30,og 34 (.bin .eql) [.t 33,ki 1] 30,oo 35 .pick [.t 30,.t 34,.c (.bool false)],ma 36 35,og 37 (.ld true 3) [.t 1] 36,og 38 (.ld true 3) [.t 2] 36,og 39 .call [.f zbq,.t 37,.t 38,ki 1,ki 0] 36,og 40 (.bin .eql) [.t 39,ki 2] 36,oo 41 .pick [.t 36,.t 40,.c (.bool false)],ma 42 41,og 43 (.ld true 3) [.t 1] 42,og 44 (.ld true 3) [.t 2] 42,mg 45 3 42,og 46 .call [.f zbF,.t 43,.t 44,ki 1,.t 45] 42,oo 47 .pick [.t 42,.t 46,.c (.bool false)],ma 48 47,og 49 (.ld true 3) [.t 1] 48,og 50 (.ld true 3) [.t 2] 48,og 51 (.bsl 1 2 [v0] [0,1]) [ki 4,ki 2] 48,og 52 .call [.f zbF,.t 49,.t 50,ki 1,.t 51] 48,og 53 (.un .not) [.t 52] 48,oo 54 .pick [.t 48,.t 53,.c (.bool false)],ma 0 54]
 .ret)))))⟩
def zf7 : AFun:=⟨50,[(4,some (true,3))],
 (sr [oo 3 (.box 3) [.t 1],oo 4 (.alloc [vn,vn,v0]) []]
 (sr [ma 8 0,fa 9 0 3,la 10 9,ca 11 zat [.t 8,.t 10],oo 12 (.bsl 1 1 [v0] [0]) [.t 11],ma 13 0,oo 14 (.bsl 1 4 [v0] [0,1,2,3]) [ki 1,ki 1,ki 2,ki 3],ca 15 zcb [.t 13,.t 14],oo 16 (.build [vn,vn,v0] [(0,1),(2,1)]) [.t 12,.t 15],oo 5 (.alloc [vn,vn,v0]) [],ou (.st 3) [.t 5,.t 16]]
 (.seq (.seq
 (rg [ma 17 0,ca 18 zbR [.t 17,ki 3]])
 (.cond (.t 18)
 (.reg true [fa 19 0 5,la 20 19,ma 21 0,fa 22 0 3,la 23 22,ca 24 zat [.t 21,.t 23],ca 25 zgh [.t 20,.t 24],fa 26 0 5,ou (.st 1) [.t 26,.t 25]] [[],[0],[],[],[3],[2,4],[1,5,5],[0,1,2,3,4,5,6],[7,6,6,0,1,2,3,4,5,6]])
 .skip))
 (sr [ma 27 0,oo 28 (.bsl 1 5 [v0] [0,1,2,3,4]) [ki 3,ki 2,ki 1,ki 6,ki 0],ca 29 zcb [.t 27,.t 28],oo 30 (.bin .add) [ki 1,.t 29],ma 6 30]
 (.seq (.seq
 (rg [ma 31 0,ca 32 zat [.t 31,ki 4],oo 33 (.bin .add) [ki 1,.t 32],ma 7 33])
 (.block 0 (.loop
 (.seq (.seq
 (rg [ma 34 7,oo 35 (.bin .gtr) [.t 34,ki 0]])
 (.cond (.t 35)
 .skip
 (.exit 0)))
 (.seq (.block 1 (sr [fa 38 1 5,la 39 38,ma 40 6,oo 41 (.bsl 1 1 [v0] [0]) [.t 40],oo 42 (.app 1 8) [.t 39,.t 41],fa 43 1 5,ou (.st 1) [.t 43,.t 42]]
 (rg [ma 44 6,ma 45 0,ca 46 zat [.t 45,ki 3],oo 47 (.bin .sub) [.t 44,.t 46],oo 48 .mx2 [ki 1,.t 47],ma 6 48])))
 (rg [ma 36 7,oo 37 (.bin .sub) [.t 36,ki 1],ma 7 37]))))))
 (sr [oo 49 (.ld true 3) [.t 5],ou (.st 3) [.t 4,.t 49]]
 .ret))))))⟩
def zfi : AFun:=⟨81,[(6,none),(7,none)],
 (sr [oo 3 (.box 3) [.t 0],oo 4 (.box 3) [.t 1],oo 6 .mv [kn],oo 7 .mv [ki 0]]
 (sr [oo 17 (.ld true 3) [.t 3],oo 18 (.ld true 3) [.t 4],ma 19 2,ca 20 zbI [.t 17,.t 18,.t 19],ma 16 20,oo 21 (.ext 0) [.t 16],oo 22 (.ext 1) [.t 16],oo 8 (.alloc [vn,vn]) [],ou (.st 2) [.t 8,.t 21],ma 9 22]
 (.seq (.block 0 (sr [ma 24 9,oo 25 (.bin .neq) [.t 24,ki 0],ma 23 25]
 (.cond (.t 23)
 (sr [ma 26 9,oo 6 .mv [kn],ma 7 26]
 .ret)
 (sr [fa 28 0 8,la 29 28,oo 30 .len [.t 29],oo 31 (.bin .eql) [.t 30,ki 0],ma 27 31]
 (.cond (.t 27)
 (sr [oo 6 .mv [kn],oo 7 .mv [ki 11]]
 .ret)
 (sr [fa 33 0 8,la 34 33,oo 35 .len [.t 34],oo 36 (.bin .gtr) [.t 35,ki 9],ma 32 36]
 (.cond (.t 32)
 (sr [oo 6 .mv [kn],oo 7 .mv [ki 3]]
 .ret)
 .skip)))))))
 (sr [fa 37 0 3,la 38 37,oo 39 (.mks 1 8 [v0]) [.t 38,.t 38],ma 10 39]
 (sr [oo 11 .mv [ki 0]]
 (.seq (.seq
 (rg [fa 40 0 8,la 41 40,oo 42 .len [.t 41],oo 43 .mv [ki 0]])
 (.block 1 (.loop
 (sr [oo 44 (.bin .lss) [.t 43,.t 42]]
 (.seq (.cond (.t 44)
 .skip
 (.exit 1))
 (.seq (.block 2 (sr [ma 45 43,oo 46 (.iad 1) [.t 41,.t 43],la 47 46,ma 12 45,ma 13 47]
 (.seq (.reg true [ma 48 10,ma 49 13,oo 50 (.ld true 2) [.t 8],ma 51 12,ca 52 zaG [.t 50,.t 51],oo 53 (.ld true 2) [.t 8],ma 54 12,ca 55 za2 [.t 53,.t 54],oo 56 (.bin .mul) [.t 52,.t 55],oo 57 (.iad 1) [.t 48,.t 49],ou (.st 1) [.t 57,.t 56]] [[],[],[],[],[2,3],[],[],[5,6,4],[4,7],[0,1,0,1,2,3,4,5,6,7,8],[9,8,7,0,1,2,3,4,5,6,7,8]])
 (rg [ma 58 11,ma 59 10,ma 60 13,oo 61 (.iad 1) [.t 59,.t 60],la 62 61,ca 63 zcd [.t 58,.t 62],ma 11 63]))))
 (rg [oo 64 (.bin .add) [.t 43,ki 1],ma 43 64])))))))
 (.seq (.seq
 (rg [fa 65 0 8,la 66 65,oo 67 .len [.t 66],oo 68 .mv [ki 0]])
 (.block 3 (.loop
 (sr [oo 69 (.bin .lss) [.t 68,.t 67]]
 (.seq (.cond (.t 69)
 .skip
 (.exit 3))
 (.seq (.block 4 (sr [oo 70 (.iad 1) [.t 66,.t 68],la 71 70,ma 15 71]
 (rg [ma 72 10,ma 73 15,oo 74 (.iad 1) [.t 72,.t 73],la 75 74,ma 76 11,oo 77 (.bin .quo) [.t 75,.t 76],oo 78 (.iad 1) [.t 72,.t 73],ou (.st 1) [.t 78,.t 77]])))
 (rg [oo 79 (.bin .add) [.t 68,ki 1],ma 68 79])))))))
 (sr [ma 80 10,ma 6 80,oo 7 .mv [ki 0]]
 .ret))))))))⟩
def zhv : AFun:=⟨18,[(4,none)],
 (sr [oo 4 .mv [ki 0]]
 (.seq (.seq
 (rg [ma 5 0,oo 6 (.bin .lss) [.t 5,ki 1],ma 7 6,mh 8 1 7,oh 9 (.bin .lss) [.t 8,ki 1] 7,oo 10 .pick [.t 7,.c (.bool true),.t 9]])
 (.cond (.t 10)
 (sr [oo 4 .mv [ki 0]]
 .ret)
 .skip))
 (sr [ma 11 0,ma 12 0,ma 13 1,ca 14 zeZ [.t 12,.t 13],oo 15 (.bin .quo) [.t 11,.t 14],ma 16 1,oo 17 (.bin .mul) [.t 15,.t 16],ma 4 17]
 .ret)))⟩
def zgx : AFun:=⟨32,[(8,none)],
 (sr [oo 4 (.box 3) [.t 0],oo 5 (.box 3) [.t 1],oo 8 .mv [ki 0]]
 (sr [oo 13 (.ld true 3) [.t 4],oo 14 (.ld true 3) [.t 5],ma 15 2,ca 16 zbI [.t 13,.t 14,.t 15],ma 12 16,oo 17 (.ext 0) [.t 12],oo 18 (.ext 1) [.t 12],oo 9 (.alloc [vn,vn]) [],ou (.st 2) [.t 9,.t 17],ma 10 18]
 (.seq (.seq
 (rg [fa 19 0 9,la 20 19,ma 21 3,ca 22 zaJ [.t 20,.t 21],ma 11 22])
 (sr [ma 23 10,oo 24 (.bin .eql) [.t 23,ki 0],ma 25 24,mg 26 11 25,og 27 (.bin .geq) [.t 26,ki 0] 25,oo 28 .pick [.t 25,.t 27,.c (.bool false)]]
 (.cond (.t 28)
 (sr [oo 29 (.ld true 2) [.t 9],ma 30 11,ca 31 zaG [.t 29,.t 30],ma 8 31]
 .ret)
 .skip)))
 (sr [oo 8 .mv [ki 0]]
 .ret))))⟩
def znb : AFun:=⟨12,[(4,none)],
 (sr [oo 4 .mv [ki 0]]
 (.seq (.block 0 (.loop
 (.seq (.seq
 (rg [ma 5 1,oo 6 (.bin .neq) [.t 5,ki 0]])
 (.cond (.t 6)
 .skip
 (.exit 0)))
 (.block 1 (.reg true [ma 7 1,ma 8 0,ma 9 1,oo 10 (.bin .rem) [.t 8,.t 9],ma 0 7,ma 1 10] [[],[],[],[1,2],[0,0,1],[3,4,0,1,2,3,4]])))))
 (sr [ma 11 0,ma 4 11]
 .ret)))⟩
def zfU : AFun:=⟨25,[(8,none)],
 (sr [oo 4 (.box 3) [.t 0],oo 5 (.box 3) [.t 1],oo 8 .mv [.c (.bool false)]]
 (sr [oo 12 (.ld true 3) [.t 4],oo 13 (.ld true 3) [.t 5],ma 14 2,ca 15 zaB [.t 12,.t 13,.t 14],ma 11 15,oo 16 (.ext 0) [.t 11],oo 17 (.ext 1) [.t 11],ma 9 16,ma 10 17]
 (sr [ma 18 10,oo 19 (.bin .eql) [.t 18,ki 0],ma 20 19,mg 21 3 20,mg 22 9 20,og 23 .call [.f zbx,.t 21,.t 22] 20,oo 24 .pick [.t 20,.t 23,.c (.bool false)],ma 8 24]
 .ret)))⟩
def zgb : AFun:=⟨99,[(6,some (true,2)),(7,none)],
 (sr [oo 3 (.box 3) [.t 0],oo 4 (.box 3) [.t 1],oo 6 (.alloc [vn,vn]) [],oo 7 .mv [ki 0]]
 (.seq (.seq
 (rg [oo 18 (.ld true 3) [.t 3],oo 19 (.ld true 3) [.t 4],ca 20 zcS [.t 18,.t 19],ma 8 20])
 (sr [ma 21 8,oo 22 (.bin .neq) [.t 21,ki 0]]
 (.cond (.t 22)
 (sr [oo 23 (.build [vn,vn] []) [],ma 24 8,ou (.st 2) [.t 6,.t 23],ma 7 24]
 .ret)
 .skip)))
 (.seq (.seq
 (rg [ma 25 2,ca 26 zaV [.t 25,ki 1,ki 5],oo 27 (.un .not) [.t 26]])
 (.cond (.t 27)
 (sr [oo 28 (.build [vn,vn] []) [],ou (.st 2) [.t 6,.t 28],oo 7 .mv [ki 2]]
 .ret)
 .skip))
 (sr [oo 29 (.ld true 3) [.t 3],fa 30 2 4,la 31 30,ca 32 zeu [.t 29,.t 31],oo 9 (.alloc [v0,vn,vn]) [],ou (.st 3) [.t 9,.t 32]]
 (sr [oo 33 (.ld true 3) [.t 9],fa 34 0 4,la 35 34,ca 36 zc8 [.t 33,.t 35],ca 37 zdS [.t 36],oo 38 (.build [vn,vn] [(0,1)]) [.t 37],oo 10 (.alloc [vn,vn]) [],ou (.st 2) [.t 10,.t 38]]
 (.seq (.seq
 (rg [fa 39 0 10,la 40 39,oo 41 .len [.t 40],oo 42 .mv [ki 0]])
 (.block 0 (.loop
 (sr [oo 43 (.bin .lss) [.t 42,.t 41]]
 (.seq (.cond (.t 43)
 .skip
 (.exit 0))
 (.seq (.block 1 (sr [oo 44 (.iad 1) [.t 40,.t 42],la 45 44,ma 12 45]
 (sr [fa 46 0 10,la 47 46,oo 48 .len [.t 47],oo 49 (.mks 1 8 [v0]) [.t 48,.t 48],ma 13 49]
 (.seq (.seq
 (rg [fa 50 0 10,la 51 50,oo 52 .len [.t 51],oo 53 .mv [ki 0]])
 (.block 2 (.loop
 (sr [oo 54 (.bin .lss) [.t 53,.t 52]]
 (.seq (.cond (.t 54)
 .skip
 (.exit 2))
 (.seq (.block 3 (sr [ma 55 53,oo 56 (.iad 1) [.t 51,.t 53],la 57 56,ma 14 55,ma 15 57]
 (sr [fa 58 0 4,la 59 58,ma 60 15,ca 61 zaq [.t 59,.t 60]]
 (.cond (.t 61)
 (rg [ma 62 13,ma 63 14,ma 64 2,oo 65 (.iad 1) [.t 62,.t 63],ou (.st 1) [.t 65,.t 64]])
 .skip))))
 (rg [oo 66 (.bin .add) [.t 53,ki 1],ma 53 66])))))))
 (.seq (.seq
 (rg [fa 67 1 9,la 68 67,oo 69 .len [.t 68],oo 70 .mv [ki 0]])
 (.block 4 (.loop
 (sr [oo 71 (.bin .lss) [.t 70,.t 69]]
 (.seq (.cond (.t 71)
 .skip
 (.exit 4))
 (.seq (.block 5 (sr [oo 72 (.iad 3) [.t 68,.t 70],oo 73 (.ld true 3) [.t 72],oo 17 (.alloc [v0,v0,v0]) [],ou (.st 3) [.t 17,.t 73]]
 (sr [fa 74 0 17,la 75 74,ma 76 12,oo 77 (.bin .eql) [.t 75,.t 76]]
 (.cond (.t 77)
 (.reg true [ma 78 13,fa 79 0 10,la 80 79,fa 81 1 17,la 82 81,ca 83 zaJ [.t 80,.t 82],oo 84 (.iad 1) [.t 78,.t 83],la 85 84,fa 86 2 17,la 87 86,oo 88 (.bin .add) [.t 85,.t 87],oo 89 (.iad 1) [.t 78,.t 83],ou (.st 1) [.t 89,.t 88]] [[],[],[1],[],[3],[2,4],[0,5],[6],[],[8],[7,9],[0,5,0,1,2,3,4,5,6,7,8,9,10],[11,10,5,0,1,2,3,4,5,6,7,8,9,10]])
 .skip))))
 (rg [oo 90 (.bin .add) [.t 70,ki 1],ma 70 90])))))))
 (rg [fa 91 1 10,la 92 91,ma 93 13,oo 94 (.bsl 1 1 [vn] [0]) [.t 93],oo 95 (.app 1 24) [.t 92,.t 94],fa 96 1 10,ou (.st 1) [.t 96,.t 95]]))))))
 (rg [oo 97 (.bin .add) [.t 42,ki 1],ma 42 97])))))))
 (sr [oo 98 (.ld true 2) [.t 10],ou (.st 2) [.t 6,.t 98],oo 7 .mv [ki 0]]
 .ret)))))))⟩
def zes : AFun:=⟨23,[(4,none)],
 (sr [oo 2 (.box 2) [.t 0],oo 4 .mv [ki 0]]
 (sr [oo 5 .mv [ki 0]]
 (.seq (.seq
 (rg [fa 8 1 2,la 9 8,ma 10 1,oo 11 (.iad 1) [.t 9,.t 10],la 12 11,oo 13 .len [.t 12],oo 14 .mv [ki 0]])
 (.block 0 (.loop
 (sr [oo 15 (.bin .lss) [.t 14,.t 13]]
 (.seq (.cond (.t 15)
 .skip
 (.exit 0))
 (.seq (.block 1 (sr [oo 16 (.iad 1) [.t 12,.t 14],la 17 16,ma 7 17]
 (rg [ma 18 5,ma 19 7,oo 20 (.bin .add) [.t 18,.t 19],ma 5 20])))
 (rg [oo 21 (.bin .add) [.t 14,ki 1],ma 14 21])))))))
 (sr [ma 22 5,ma 4 22]
 .ret))))⟩
def zek : AFun:=⟨139,[(4,none)],
 (sr [oo 2 (.box 2) [.t 0],oo 4 .mv [ki 0]]
 (sr [oo 5 .mv [kn]]
 (.seq (.seq
 (rg [fa 17 1 2,la 18 17,oo 19 .len [.t 18],oo 20 .mv [ki 0]])
 (.block 0 (.loop
 (sr [oo 21 (.bin .lss) [.t 20,.t 19]]
 (.seq (.cond (.t 21)
 .skip
 (.exit 0))
 (.seq (.block 1 (sr [ma 22 20,oo 23 (.iad 1) [.t 18,.t 20],la 24 23,ma 6 22,ma 7 24]
 (.seq (.seq
 (rg [ma 25 6,ma 26 1,oo 27 (.bin .eql) [.t 25,.t 26]])
 (.cond (.t 27)
 (.exit 1)
 .skip))
 (sr [oo 8 .mv [kn]]
 (.seq (.seq
 (rg [ma 28 7,oo 29 .len [.t 28],oo 30 .mv [ki 0]])
 (.block 2 (.loop
 (sr [oo 31 (.bin .lss) [.t 30,.t 29]]
 (.seq (.cond (.t 31)
 .skip
 (.exit 2))
 (.seq (.block 3 (sr [ma 32 30,oo 33 (.iad 1) [.t 28,.t 30],la 34 33,ma 9 32,ma 10 34]
 (.block 4 (sr [ma 43 9,ma 44 1,oo 45 (.bin .eql) [.t 43,.t 44],ma 42 45]
 (.cond (.t 42)
 .skip
 (sr [ma 47 9,ma 48 6,oo 49 (.bin .eql) [.t 47,.t 48],ma 46 49]
 (.cond (.t 46)
 (rg [ma 50 8,oo 51 (.ld true 2) [.t 2],ma 52 6,ca 53 zaG [.t 51,.t 52],ma 54 10,oo 55 (.bin .sub) [.t 53,.t 54],oo 56 (.cvt .u64) [.t 55],oo 57 (.bsl 1 1 [(.int .u64 0)] [0]) [.t 56],oo 58 (.app 1 8) [.t 50,.t 57],ma 8 58])
 (rg [ma 35 8,ma 36 10,oo 37 (.cvt .u64) [.t 36],oo 38 (.bin .sub) [(.c (.int .u64 2305843009213693951)),.t 37],oo 39 (.bin .rem) [.t 38,(.c (.int .u64 2305843009213693951))],oo 40 (.bsl 1 1 [(.int .u64 0)] [0]) [.t 39],oo 41 (.app 1 8) [.t 35,.t 40],ma 8 41]))))))))
 (rg [oo 59 (.bin .add) [.t 30,ki 1],ma 30 59])))))))
 (rg [ma 60 5,ma 61 8,oo 62 (.bsl 1 1 [vn] [0]) [.t 61],oo 63 (.app 1 24) [.t 60,.t 62],ma 5 63]))))))
 (rg [oo 64 (.bin .add) [.t 20,ki 1],ma 20 64])))))))
 (sr [oo 11 .mv [(.c (.int .u64 1))]]
 (.seq (.seq
 (rg [ma 65 5,oo 66 .len [.t 65],oo 67 .mv [ki 0]])
 (.block 5 (.loop
 (sr [oo 68 (.bin .lss) [.t 67,.t 66]]
 (.seq (.cond (.t 68)
 .skip
 (.exit 5))
 (.seq (.block 6 (sr [ma 69 67,ma 12 69]
 (sr [ma 70 11,ma 71 5,ma 72 12,oo 73 (.iad 1) [.t 71,.t 72],la 74 73,ma 75 12,oo 76 (.iad 1) [.t 74,.t 75],la 77 76,ca 78 zaM [.t 70,.t 77],ma 11 78]
 (sr [ma 79 5,ma 80 12,oo 81 (.iad 1) [.t 79,.t 80],la 82 81,ma 83 12,oo 84 (.iad 1) [.t 82,.t 83],la 85 84,ca 86 zbZ [.t 85],ma 13 86]
 (sr [ma 87 12,oo 88 (.bin .add) [.t 87,ki 1],ma 14 88]
 (.block 7 (.loop
 (.seq (.seq
 (rg [ma 89 14,ma 90 5,oo 91 .len [.t 90],oo 92 (.bin .lss) [.t 89,.t 91]])
 (.cond (.t 92)
 .skip
 (.exit 7)))
 (.seq (.block 8 (sr [ma 95 5,ma 96 14,oo 97 (.iad 1) [.t 95,.t 96],la 98 97,ma 99 12,oo 100 (.iad 1) [.t 98,.t 99],la 101 100,ma 102 13,ca 103 zaM [.t 101,.t 102],ma 15 103]
 (sr [ma 104 12,ma 16 104]
 (.block 9 (.loop
 (.seq (.seq
 (rg [ma 105 16,ma 106 5,oo 107 .len [.t 106],oo 108 (.bin .lss) [.t 105,.t 107]])
 (.cond (.t 108)
 .skip
 (.exit 9)))
 (.seq (.block 10 (.reg true [ma 111 5,ma 112 14,oo 113 (.iad 1) [.t 111,.t 112],la 114 113,ma 115 16,ma 116 5,ma 117 14,oo 118 (.iad 1) [.t 116,.t 117],la 119 118,ma 120 16,oo 121 (.iad 1) [.t 119,.t 120],la 122 121,oo 123 (.bin .add) [.t 122,(.c (.int .u64 2305843009213693951))],ma 124 15,ma 125 5,ma 126 12,oo 127 (.iad 1) [.t 125,.t 126],la 128 127,ma 129 16,oo 130 (.iad 1) [.t 128,.t 129],la 131 130,ca 132 zaM [.t 124,.t 131],oo 133 (.bin .sub) [.t 123,.t 132],oo 134 (.bin .rem) [.t 133,(.c (.int .u64 2305843009213693951))],oo 135 (.iad 1) [.t 114,.t 115],ou (.st 1) [.t 135,.t 134]] [[],[],[0,1],[2],[],[],[],[5,6],[7],[],[8,9],[10],[11],[],[],[],[14,15],[16],[],[17,18],[19],[13,20],[12,21],[22],[3,4,0,1,2,3,4,5,6,7,8,9,10,11,12,13,14,15,16,17,18,19,20,21,22,23],[24,23,21,0,1,2,3,4,5,6,7,8,9,10,11,12,13,14,15,16,17,18,19,20,21,22,23]]))
 (rg [ma 109 16,oo 110 (.bin .add) [.t 109,ki 1],ma 16 110]))))))))
 (rg [ma 93 14,oo 94 (.bin .add) [.t 93,ki 1],ma 14 94]))))))))))
 (rg [oo 136 (.bin .add) [.t 67,ki 1],ma 67 136])))))))
 (sr [ma 137 11,oo 138 (.cvt .i64) [.t 137],ma 4 138]
 .ret))))))⟩
def zfI : AFun:=⟨12,[(4,none)],
 (sr [oo 4 .mv [ki 0]]
 (.seq (.block 0 (.loop
 (.seq (.seq
 (rg [ma 5 1,oo 6 (.bin .neq) [.t 5,ki 0]])
 (.cond (.t 6)
 .skip
 (.exit 0)))
 (.block 1 (.reg true [ma 7 1,ma 8 0,ma 9 1,oo 10 (.bin .rem) [.t 8,.t 9],ma 0 7,ma 1 10] [[],[],[],[1,2],[0,0,1],[3,4,0,1,2,3,4]])))))
 (sr [ma 11 0,ma 4 11]
 .ret)))⟩
def zhw : AFun:=⟨65,[(4,none)],
 (sr [oo 2 (.box 3) [.t 0],oo 3 (.box 3) [.t 1],oo 4 .mv [ki 0]]
 (.seq (.seq
 (rg [oo 8 (.ld true 3) [.t 2],ca 9 zex [.t 8],ma 5 9])
 (sr [ma 10 5,oo 11 (.bin .neq) [.t 10,ki 0]]
 (.cond (.t 11)
 (sr [ma 12 5,ma 4 12]
 .ret)
 .skip)))
 (.seq (.seq
 (rg [fa 13 0 3,la 14 13,oo 15 .len [.t 14],oo 16 (.bin .eql) [.t 15,ki 0],ma 17 16,fh 18 0 3 17,lh 19 18 17,fh 20 0 2 17,lh 21 20 17,oh 22 (.bin .sub) [.t 21,ki 1] 17,oh 23 .call [.f zbo,.t 19,ki 0,.t 22] 17,oh 24 (.un .not) [.t 23] 17,oo 25 .pick [.t 17,.c (.bool true),.t 24],ma 26 25,fh 27 1 3 26,lh 28 27 26,oh 29 .len [.t 28] 26,oh 30 .call [.f zaV,.t 29,ki 1,ki 8] 26,oh 31 (.un .not) [.t 30] 26,oo 32 .pick [.t 26,.c (.bool true),.t 31],ma 33 32,fh 34 2 3 33,lh 35 34 33,oh 36 .call [.f zaV,.t 35,ki 1,ki 3] 33,oh 37 (.un .not) [.t 36] 33,oo 38 .pick [.t 33,.c (.bool true),.t 37]])
 (.cond (.t 38)
 (sr [oo 4 .mv [ki 15]]
 .ret)
 .skip))
 (.seq (.seq
 (rg [fa 39 1 3,la 40 39,oo 41 .len [.t 40],oo 42 .mv [ki 0]])
 (.block 0 (.loop
 (sr [oo 43 (.bin .lss) [.t 42,.t 41]]
 (.seq (.cond (.t 43)
 .skip
 (.exit 0))
 (.seq (.block 1 (sr [ma 44 42,oo 45 (.iad 1) [.t 40,.t 42],la 46 45,ma 6 44,ma 7 46]
 (sr [ma 47 7,ca 48 zaV [.t 47,ki 1,ki 1000],oo 49 (.un .not) [.t 48],ma 50 49,mh 51 6 50,oh 52 (.bin .gtr) [.t 51,ki 0] 50,mh 53 52 50,mg 54 7 53,fg 55 1 3 53,lg 56 55 53,mg 57 6 53,og 58 (.bin .sub) [.t 57,ki 1] 53,og 59 (.iad 1) [.t 56,.t 58] 53,lg 60 59 53,og 61 (.bin .gtr) [.t 54,.t 60] 53,oh 62 .pick [.t 53,.t 61,.c (.bool false)] 50,oo 63 .pick [.t 50,.c (.bool true),.t 62]]
 (.cond (.t 63)
 (sr [oo 4 .mv [ki 15]]
 .ret)
 .skip))))
 (rg [oo 64 (.bin .add) [.t 42,ki 1],ma 42 64])))))))
 (sr [oo 4 .mv [ki 0]]
 .ret)))))⟩
def zj8 : AFun:=⟨6,[(2,none)],
 (sr [oo 2 .mv [kn]]
 (sr [ma 3 0,ca 4 zbk [.t 3],ca 5 zbA [.t 4],ma 2 5]
 .ret))⟩
def zfY : AFun:=⟨22,[(4,none)],
 (sr [oo 4 .mv [(.c (.int .u64 0))]]
 (sr [ma 10 0,ma 11 1,ca 12 zbs [.t 10,.t 11],ma 9 12,oo 13 (.ext 0) [.t 9],oo 14 (.ext 1) [.t 9],ma 5 13,ma 6 14]
 (sr [ma 16 5,ma 17 6,ca 18 zcK [.t 16,.t 17,(.c (.int .u64 2305843009213693951))],ma 15 18,oo 19 (.ext 0) [.t 15],oo 20 (.ext 1) [.t 15],ma 7 19,ma 8 20]
 (sr [ma 21 8,ma 4 21]
 .ret))))⟩
def zfa : AFun:=⟨19,[(2,none)],
 (sr [oo 2 .mv [(.c (.int .u64 0))]]
 (sr [oo 3 .mv [(.c (.int .u64 1))]]
 (.seq (.seq
 (rg [oo 4 .mv [(.c (.int .u64 2305843009213693949))]])
 (.block 0 (.loop
 (.seq (.seq
 (rg [ma 5 4,oo 6 (.bin .gtr) [.t 5,(.c (.int .u64 0))]])
 (.cond (.t 6)
 .skip
 (.exit 0)))
 (.seq (.block 1 (.seq (.seq
 (rg [ma 9 4,oo 10 (.bin .and) [.t 9,(.c (.int .u64 1))],oo 11 (.bin .eql) [.t 10,(.c (.int .u64 1))]])
 (.cond (.t 11)
 (rg [ma 12 3,ma 13 0,ca 14 zaM [.t 12,.t 13],ma 3 14])
 .skip))
 (rg [ma 15 0,ma 16 0,ca 17 zaM [.t 15,.t 16],ma 0 17])))
 (rg [ma 7 4,oo 8 (.bin .shr) [.t 7,(.c (.int .u64 1))],ma 4 8]))))))
 (sr [ma 18 3,ma 2 18]
 .ret))))⟩
def zfA : AFun:=⟨9,[(2,none)],
 (sr [oo 2 .mv [kn]]
 (sr [ma 4 0,ca 5 zb1 [.t 4],ma 3 5]
 (sr [ma 6 3,ca 7 zaU [.t 6]]
 (sr [ma 8 3,ma 2 8]
 .ret))))⟩
def zd3 : AFun:=⟨4,[(2,none)],
 (sr [oo 1 (.box 1) [.t 0],oo 2 .mv [(.c .nilFunc)]]
 (sr [oo 3 (.mkf za7) [.t 1],ma 2 3]
 .ret))⟩
def zgL : AFun:=⟨135,[(6,none),(7,none)],
 (sr [oo 6 .mv [(.c (.int .u64 0))],oo 7 .mv [(.c (.int .u64 0))]]
 (.seq (.seq
 (rg [ma 19 2,oo 20 (.bin .eql) [.t 19,(.c (.int .u64 0))]])
 (.cond (.t 20)
 (rg [oo 21 (.ld false 1) [(.c (.pointer (some ⟨0,0,none⟩)))],ou .bad []])
 .skip))
 (.seq (.seq
 (rg [ma 22 2,ma 23 0,oo 24 (.bin .leq) [.t 22,.t 23]])
 (.cond (.t 24)
 (rg [oo 25 (.ld false 1) [(.c (.pointer (some ⟨1,0,none⟩)))],ou .bad []])
 .skip))
 (.seq (.seq
 (rg [ma 26 0,oo 27 (.bin .eql) [.t 26,(.c (.int .u64 0))]])
 (.cond (.t 27)
 (.seq (.reg true [ma 28 1,ma 29 2,oo 30 (.bin .quo) [.t 28,.t 29],ma 31 1,ma 32 2,oo 33 (.bin .rem) [.t 31,.t 32],ma 6 30,ma 7 33] [[],[],[0,1],[],[],[3,4],[2,0,1,2],[5,6,0,1,2,3,4,5,6]])
 .ret)
 .skip))
 (sr [ma 34 2,ca 35 zbe [.t 34],oo 36 (.cvt .u64) [.t 35],ma 8 36]
 (sr [ma 37 2,ma 38 8,oo 39 (.bin .shl) [.t 37,.t 38],ma 2 39]
 (sr [ma 40 2,oo 41 (.bin .shr) [.t 40,(.c (.int .u64 32))],ma 9 41]
 (sr [ma 42 2,oo 43 (.bin .and) [.t 42,(.c (.int .u64 4294967295))],ma 10 43]
 (sr [ma 44 0,ma 45 8,oo 46 (.bin .shl) [.t 44,.t 45],ma 47 1,ma 48 8,oo 49 (.bin .sub) [(.c (.int .u64 64)),.t 48],oo 50 (.bin .shr) [.t 47,.t 49],oo 51 (.bin .or) [.t 46,.t 50],ma 11 51]
 (sr [ma 52 1,ma 53 8,oo 54 (.bin .shl) [.t 52,.t 53],ma 12 54]
 (sr [ma 55 12,oo 56 (.bin .shr) [.t 55,(.c (.int .u64 32))],ma 13 56]
 (sr [ma 57 12,oo 58 (.bin .and) [.t 57,(.c (.int .u64 4294967295))],ma 14 58]
 (sr [ma 59 11,ma 60 9,oo 61 (.bin .quo) [.t 59,.t 60],ma 15 61]
 (sr [ma 62 11,ma 63 15,ma 64 9,oo 65 (.bin .mul) [.t 63,.t 64],oo 66 (.bin .sub) [.t 62,.t 65],ma 16 66]
 (.seq (.block 0 (.loop
 (.seq (.seq
 (rg [ma 67 15,oo 68 (.bin .geq) [.t 67,(.c (.int .u64 4294967296))],ma 69 68,mh 70 15 69,mh 71 10 69,oh 72 (.bin .mul) [.t 70,.t 71] 69,mh 73 16 69,oh 74 (.bin .mul) [(.c (.int .u64 4294967296)),.t 73] 69,mh 75 13 69,oh 76 (.bin .add) [.t 74,.t 75] 69,oh 77 (.bin .gtr) [.t 72,.t 76] 69,oo 78 .pick [.t 69,.c (.bool true),.t 77]])
 (.cond (.t 78)
 .skip
 (.exit 0)))
 (.block 1 (sr [ma 79 15,oo 80 (.bin .sub) [.t 79,(.c (.int .u64 1))],ma 15 80]
 (sr [ma 81 16,ma 82 9,oo 83 (.bin .add) [.t 81,.t 82],ma 16 83]
 (sr [ma 84 16,oo 85 (.bin .geq) [.t 84,(.c (.int .u64 4294967296))]]
 (.cond (.t 85)
 (.exit 0)
 .skip))))))))
 (sr [ma 86 11,oo 87 (.bin .mul) [.t 86,(.c (.int .u64 4294967296))],ma 88 13,oo 89 (.bin .add) [.t 87,.t 88],ma 90 15,ma 91 2,oo 92 (.bin .mul) [.t 90,.t 91],oo 93 (.bin .sub) [.t 89,.t 92],ma 17 93]
 (sr [ma 94 17,ma 95 9,oo 96 (.bin .quo) [.t 94,.t 95],ma 18 96]
 (sr [ma 97 17,ma 98 18,ma 99 9,oo 100 (.bin .mul) [.t 98,.t 99],oo 101 (.bin .sub) [.t 97,.t 100],ma 16 101]
 (.seq (.block 2 (.loop
 (.seq (.seq
 (rg [ma 102 18,oo 103 (.bin .geq) [.t 102,(.c (.int .u64 4294967296))],ma 104 103,mh 105 18 104,mh 106 10 104,oh 107 (.bin .mul) [.t 105,.t 106] 104,mh 108 16 104,oh 109 (.bin .mul) [(.c (.int .u64 4294967296)),.t 108] 104,mh 110 14 104,oh 111 (.bin .add) [.t 109,.t 110] 104,oh 112 (.bin .gtr) [.t 107,.t 111] 104,oo 113 .pick [.t 104,.c (.bool true),.t 112]])
 (.cond (.t 113)
 .skip
 (.exit 2)))
 (.block 3 (sr [ma 114 18,oo 115 (.bin .sub) [.t 114,(.c (.int .u64 1))],ma 18 115]
 (sr [ma 116 16,ma 117 9,oo 118 (.bin .add) [.t 116,.t 117],ma 16 118]
 (sr [ma 119 16,oo 120 (.bin .geq) [.t 119,(.c (.int .u64 4294967296))]]
 (.cond (.t 120)
 (.exit 2)
 .skip))))))))
 (sr [ma 121 15,oo 122 (.bin .mul) [.t 121,(.c (.int .u64 4294967296))],ma 123 18,oo 124 (.bin .add) [.t 122,.t 123],ma 125 17,oo 126 (.bin .mul) [.t 125,(.c (.int .u64 4294967296))],ma 127 14,oo 128 (.bin .add) [.t 126,.t 127],ma 129 18,ma 130 2,oo 131 (.bin .mul) [.t 129,.t 130],oo 132 (.bin .sub) [.t 128,.t 131],ma 133 8,oo 134 (.bin .shr) [.t 132,.t 133],ma 6 124,ma 7 134]
 .ret))))))))))))))))))))⟩
def zfk : AFun:=⟨5,[(2,none)],
 (sr [oo 2 .mv [kn]]
 (sr [ma 3 0,ca 4 zbK [kn,.t 3],ma 2 4]
 .ret))⟩
def zdn : AFun:=⟨6,[(2,none)],
 (sr [oo 2 .mv [ki 0]]
 (sr [ma 3 0,ca 4 zcH [.t 3],oo 5 (.bin .sub) [ki 64,.t 4],ma 2 5]
 .ret))⟩
theorem zdJ : Src Try.prog zb5 zdH:=⟨mixed,Try.f3,by kernel_rfl,by kernel_rfl,by decide⟩
theorem zeG : Src Try.prog zcG zeM:=⟨mixed,Try.f4,by kernel_rfl,by kernel_rfl,by decide⟩
theorem zel : Src Try.prog zcm zej:=⟨mixed,Try.f5,by kernel_rfl,by kernel_rfl,by decide⟩
theorem zlh : Src Try.prog zaN zlj:=⟨mixed,Try.f7,by kernel_rfl,by kernel_rfl,by decide⟩
theorem zgd : Src Try.prog zbi zf7:=⟨mixed,Try.f10,by kernel_rfl,by kernel_rfl,by decide⟩
theorem zfl : Src Try.prog zaB zfi:=⟨mixed,Try.f12,by kernel_rfl,by kernel_rfl,by decide⟩
theorem zg7 : Src Try.prog zc4 zhv:=⟨mixed,Try.f16,by kernel_rfl,by kernel_rfl,by decide⟩
theorem zgI : Src Try.prog zbq zgx:=⟨mixed,Try.f17,by kernel_rfl,by kernel_rfl,by decide⟩
theorem znH : Src Try.prog zeZ znb:=⟨mixed,Try.f18,by kernel_rfl,by kernel_rfl,by decide⟩
theorem zf5 : Src Try.prog zbF zfU:=⟨mixed,Try.f23,by kernel_rfl,by kernel_rfl,by decide⟩
theorem zgn : Src Try.prog zbI zgb:=⟨mixed,Try.f28,by kernel_rfl,by kernel_rfl,by decide⟩
theorem zeD : Src Try.prog zaG zes:=⟨mixed,Try.f29,by kernel_rfl,by kernel_rfl,by decide⟩
theorem zeh : Src Try.prog za2 zek:=⟨mixed,Try.f30,by kernel_rfl,by kernel_rfl,by decide⟩
theorem zfE : Src Try.prog zcd zfI:=⟨mixed,Try.f31,by kernel_rfl,by kernel_rfl,by decide⟩
theorem zh5 : Src Try.prog zcS zhw:=⟨mixed,Try.f36,by kernel_rfl,by kernel_rfl,by decide⟩
theorem zjI : Src Try.prog zdS zj8:=⟨mixed,Try.f39,by kernel_rfl,by kernel_rfl,by decide⟩
theorem zf2 : Src Try.prog zaM zfY:=⟨mixed,Try.f42,by kernel_rfl,by kernel_rfl,by decide⟩
theorem ze5 : Src Try.prog zbZ zfa:=⟨mixed,Try.f43,by kernel_rfl,by kernel_rfl,by decide⟩
theorem zfK : Src Try.prog zbA zfA:=⟨mixed,Try.f51,by kernel_rfl,by kernel_rfl,by decide⟩
theorem zdX : Src Try.prog zbk zd3:=⟨mixed,Try.f52,by kernel_rfl,by kernel_rfl,by decide⟩
theorem zgK : Src Try.prog zcK zgL:=⟨mixed,Try.f60,by kernel_rfl,by kernel_rfl,by decide⟩
theorem zfc : Src Try.prog zb1 zfk:=⟨mixed,Try.f66,by kernel_rfl,by kernel_rfl,by decide⟩
theorem zdo : Src Try.prog zbe zdn:=⟨mixed,Try.f77,by kernel_rfl,by kernel_rfl,by decide⟩
def modI (n m : Int) : Int:=if m < 1 then 0 else n % m
theorem zn9 {n m : Int} (hm : 0 < m) : n.tmod m % m = n % m:=by
 have h:=Int.mul_tdiv_add_tmod n m
 conv=>rhs; rw [← h]
 rw [Int.add_comm,Int.add_mul_emod_self_left]
theorem zns {n m : Int} (hm : 0 < m) : -m < n.tmod m ∧ n.tmod m < m:=⟨Int.lt_tmod_of_pos n hm,Int.tmod_lt_of_pos n hm⟩
def zas (L : List Int) (a : Nat) (n : Int) : Int × Nat:=if h : a < L.length then (modI L[a] n,a + 1) else (0,a)
abbrev dice (L : List Int) (a : Nat) : Ent:=⟨2,[[ints L,.I a]],0⟩
theorem zao.k1 {rs : List (Nat × Option (Bool × Nat))} {st : St} {vs : List AV} {res : AV} {e : Ent} (h1 : ze3 st rs = some vs) (hw : Wk (conv [(0,0)] [] st.hp 4 (resV vs)) res) (he : (st.hp 0).map (zaA [(0,0)] [] st.hp 4) = some e) : zao rs 1 st res [some e] :=
 ⟨vs,h1,[],[],by decide,by simp,by simp,hw,by simpa using he⟩
theorem zj3 (L : List Int) : zaj Try.prog zcX [ints L] [] (.B (decide (L.length ≤ 400))) []:=by
 refine zlZ.acalls (nbz rfl) (nbz rfl) (Nat.le_refl _) ?_
 show awp _ 0 _ _ ⟨6,[(0,ints L)],[],16⟩
 refine zaa ?_
 refine zac (s:=?s1) rfl ?o1 ?q1
 case o1=>simp; rfl
 refine zab ⟨6,[(2,.B (decide (L.length ≤ 400)))],[],16⟩ rfl ?_ ?_
 ·simp
  exact Le.snap [] rfl rfl (by simp <;> exact wkB (by simp; omega))
 refine zag ?_
 exact ⟨.inr rfl,zao.one (by simp)⟩
theorem ztd (n m : Int) (hm : m ≤ 9223372036854775807) : zaj Try.prog zhV [.I n,.I m] [] (.I (modI n m)) []:=by
 refine zpb.acalls (nbz rfl) (nbz rfl) (Nat.le_refl _) ?_
 show awp _ 0 _ _ ⟨16,[(0,.I n),(1,.I m)],[],16⟩
 refine zaa ?_
 refine zac (s:=?s1) rfl ?o1 ?q1
 case o1=>simp; rfl
 refine zaa ?_
 refine zaa ?_
 refine zac (s:=?s2) rfl ?o2 ?q2
 case o2=>simp; rfl
 refine zad _ rfl (fun h3=>?_) fun h3=>?_
 ·try simp at h3
  refine zaa ?_
  refine zac (s:=?s4) rfl ?o4 ?q4
  case o4=>simp; rfl
  refine zag ?_
  exact ⟨.inr rfl,zao.one (by simp [modI,h3])⟩
 try simp at h3
 have hm0 : m ≠ 0:=by omega
 have hlt : ¬ m < 1:=by omega
 obtain ⟨t1,t2⟩:=zns (n:=n) (m:=m) (by omega)
 have te:=zn9 (n:=n) (m:=m) (by omega)
 refine zae ?_
 refine zaa ?_
 refine zac (s:=?s5) rfl ?o5 ?q5
 case o5=>simp [hm0]; rfl
 refine zaa ?_
 refine zaa ?_
 refine zac (s:=?s6) rfl ?o6 ?q6
 case o6=>simp; rfl
 refine zad _ rfl (fun h7=>?_) fun h7=>?_
 ·try simp at h7
  have hw : IntKind.i64.wrap (n.tmod m + m) = n.tmod m + m:=w64 (by omega) (by omega)
  have hr : n % m = n.tmod m + m:=by rw [← te,← Int.add_emod_right,Int.emod_eq_of_lt (by omega) (by omega)]
  refine zac (s:=?s8) rfl ?o8 ?q8
  case o8=>simp [hw]; rfl
  refine zaa ?_
  refine zac (s:=?s9) rfl ?o9 ?q9
  case o9=>simp; rfl
  refine zag ?_
  exact ⟨.inr rfl,zao.one (by simp [modI,hlt,hr])⟩
 try simp at h7
 have hr : n % m = n.tmod m:=by rw [← te,Int.emod_eq_of_lt (by omega) (by omega)]
 refine zae ?_
 refine zaa ?_
 refine zac (s:=?s10) rfl ?o10 ?q10
 case o10=>simp; rfl
 refine zag ?_
 exact ⟨.inr rfl,zao.one (by simp [modI,hlt,hr])⟩
theorem zlX (L : List Int) : zaj Try.prog zdN [ints L] [] (.pt 0 0 0) [some (dice L 0)]:=by
 refine znF.acalls (nbz rfl) (nbz rfl) (Nat.zero_le _) ?_
 show awp _ 0 _ _ ⟨6,[(0,ints L)],[],16⟩
 refine zaa ?_
 refine zac (s:=?s1) rfl ?o1 ?q1
 case o1=>simp; rfl
 refine zaa ?_
 refine zac (s:=?s2) rfl ?o2 ?q2
 case o2=>simp; rfl
 refine zag ?_
 exact ⟨.inr rfl,zao.out [40] [] rfl (by simp) (by simp) (by simp) (by simp)⟩
theorem zjT (L : List Int) (a : Nat) (n : Int) (hl : L.length ≤ 1099511627776) (ha : a ≤ L.length) (hn : n ≤ 9223372036854775807) : zaj Try.prog zat [.pt 0 0 0,.I n] [dice L a] (.I (zas L a n).1) [some (dice L (zas L a n).2)]:=by
 refine zhY.acalls (nbz rfl) (nbz rfl) (Nat.le_refl _) ?_
 show awp _ 1 _ _ ⟨35,[(0,.pt 0 0 0),(1,.I n)],[(0,some (dice L a))],16⟩
 refine zaa ?_
 refine zac (s:=?s1) rfl ?o1 ?q1
 case o1=>simp; rfl
 refine zaa ?_
 refine zaa ?_
 refine zcO (s:=?s2) (tr:=?t2) rfl ?o2 ?r2 ?q2
 case o2=>simp; constructor <;> rfl
 case r2=>rfl
 refine zad _ rfl (fun h3=>?_) fun h3=>?_
 ·try simp at h3
  refine zaa ?_
  refine zac (s:=?s4) rfl ?o4 ?q4
  case o4=>simp; rfl
  refine zag ?_
  have hr : zas L a n = (0,a):=by unfold zas; rw [dif_neg (by omega)]
  rw [hr]
  exact ⟨.inr rfl,zao.k1 rfl (by simp) (by simp [fcd])⟩
 try simp at h3
 have hw : IntKind.i64.wrap ((a : Int) + 1) = (a : Int) + 1:=w64 (by omega) (by omega)
 have hw0 : IntKind.i64.wrap (a : Int) = (a : Int):=w64 (by omega) (by omega)
 refine zae ?_
 refine zaa ?_
 refine zac (s:=?s5) rfl ?o5 ?q5
 case o5=>simp [hw]; rfl
 refine zaa ?_
 refine zcO (s:=?s6) (tr:=?t6) rfl ?o6 ?r6 ?q6
 case o6=>simp [hw0,h3]; refine zan (ztd _ _ hn) rfl ?_; simp; constructor <;> rfl
 case r6=>rfl
 refine zag ?_
 have hr : zas L a n = (modI L[a] n,a + 1):=by unfold zas; rw [dif_pos h3]
 rw [hr]
 exact ⟨.inr rfl,zao.k1 rfl (by simp) (by simp [fcd])⟩
theorem zrY {n m : Int} (hm : 0 < m) : 0 ≤ modI n m ∧ modI n m < m:=by
 unfold modI
 rw [if_neg (by omega)]
 exact ⟨Int.emod_nonneg _ (by omega),Int.emod_lt_of_pos _ hm⟩
theorem zdj {L : List Int} {a : Nat} {n : Int} (hn : 0 < n) : 0 ≤ (zas L a n).1 ∧ (zas L a n).1 < n:=by
 unfold zas
 split
 ·exact zrY hn
 ·exact ⟨Int.le_refl _,hn⟩
theorem zbm {L : List Int} {a : Nat} {n : Int} (ha : a ≤ L.length) : (zas L a n).2 ≤ L.length:=by
 unfold zas
 split
 ·simp only; omega
 ·exact ha
def ofD (L : List Int) (a : Nat) (l : List Int) : Int:=l.getD (zas L a l.length).1.toNat 0
theorem zrl (L : List Int) (a : Nat) (n : Int) (hl : L.length ≤ 1099511627776) (ha : a ≤ L.length) (hn0 : 0 ≤ n) (hn : n ≤ 9223372036854775807) : zaj Try.prog zbR [.pt 0 0 0,.I n] [dice L a] (.B (decide ((zas L a n).1 = n - 1))) [some (dice L (zas L a n).2)]:=by
 refine ziq.acalls (nbz rfl) (nbz rfl) (Nat.le_refl _) ?_
 show awp _ 1 _ _ ⟨11,[(0,.pt 0 0 0),(1,.I n)],[(0,some (dice L a))],16⟩
 have hw : IntKind.i64.wrap (n - 1) = n - 1:=w64 (by omega) (by omega)
 refine zaa ?_
 refine zac (s:=?s1) rfl ?o1 ?q1
 case o1=>simp; rfl
 refine zaa ?_
 refine zac (s:=?s2) rfl ?o2 ?q2
 case o2 =>
  simp
  refine zbh (i:=0) rfl (e':=dice L a) (by simp [fcd]) (zjT L a n hl ha hn) (by simp) (by simp) ?_
  simp [hw,fcd]
  rfl
 refine zag ?_
 exact ⟨.inr rfl,zao.k1 rfl (by simp <;> exact wkB rfl) (by simp [fcd])⟩
theorem zuc (L : List Int) (a : Nat) (l : List Int) (hl : L.length ≤ 1099511627776) (ha : a ≤ L.length) (h0 : 0 < l.length) (hl2 : l.length ≤ 1099511627776) : zaj Try.prog zcb [.pt 0 0 0,ints l] [dice L a] (.I (ofD L a l)) [some (dice L (zas L a l.length).2)]:=by
 refine zi5.acalls (nbz rfl) (nbz rfl) (Nat.le_refl _) ?_
 show awp _ 1 _ _ ⟨12,[(0,.pt 0 0 0),(1,ints l)],[(0,some (dice L a))],16⟩
 obtain ⟨q,hq,hql⟩ : ∃ q : Nat,(zas L a l.length).1 = q ∧ q < l.length:=by
  have:=zdj (L:=L) (a:=a) (n:=l.length) (by omega)
  exact ⟨(zas L a l.length).1.toNat,by omega,by omega⟩
 have ho : ofD L a l = l[q]:=by unfold ofD; rw [hq]; simp [hql]
 refine zaa ?_
 refine zac (s:=?s1) rfl ?o1 ?q1
 case o1=>simp; rfl
 refine zaa ?_
 refine zac (s:=?s2) rfl ?o2 ?q2
 case o2 =>
  simp
  refine zbh (i:=0) rfl (e':=dice L a) (by simp [fcd]) (zjT L a l.length hl ha (by omega)) (by simp) (by simp) ?_
  simp [hq,hql,fcd]
  rfl
 refine zag ?_
 rw [ho]
 exact ⟨.inr rfl,zao.k1 rfl (by simp) (by simp [fcd])⟩
section
variable {P : Program} {np id : Nat} {h : Nat → Option Ent} {K : AV → List Nat → List (Nat × Option Ent) → Prop} {s i off len c k l m : Nat}
@[simp] theorem zuP : aK P np id (.slc s true false false) [.rk i off len c,.sc (.int .i64 (k : Int))] h K = (k ≤ len ∧ len ≤ c ∧ (∃ e,h i = some e ∧ e.s = s) ∧ K (.rk i (off + k) (len - k) (c - k)) [i] []):=by
 rw [zju]
 refine propext ⟨?_,?_⟩
 ·rintro ⟨l,r,m,n,h1,h2,h4,h5,h6,h7,h3,h10,h11,h8,h9⟩
  obtain rfl:=h6 rfl
  simp at h4 h1
  subst h1
  have : k = l:=by omega
  subst this
  obtain rfl:=h11 rfl
  exact ⟨h2,h3,h8,h9⟩
 ·rintro ⟨h1,h2,h3,h4⟩
  exact ⟨k,len,c,len,rfl,h1,by simp,(fun h=>by cases h),fun _=>rfl,(fun h=>by cases h),h2,Nat.le_refl _,fun _=>rfl,h3,h4⟩
@[simp] theorem zuG : aK P np id (.slc s false true false) [.rk i off len c,.sc (.int .i64 (k : Int))] h K = (k ≤ c ∧ (∃ e,h i = some e ∧ e.s = s) ∧ K (.rk i off k c) [i] []):=by
 rw [zju]
 refine propext ⟨?_,?_⟩
 ·rintro ⟨l,r,m,n,h1,h2,h4,h5,h6,h7,h3,h10,h11,h8,h9⟩
  obtain rfl:=h5 rfl
  simp at h4 h1
  have : k = r:=by omega
  subst this
  obtain rfl:=h11 rfl
  exact ⟨h3,h8,by simpa using h9⟩
 ·rintro ⟨h1,h3,h4⟩
  exact ⟨0,k,c,len,rfl,Nat.zero_le _,by simp,fun _=>rfl,(fun h=>by cases h),(fun h=>by cases h),h1,Nat.le_refl _,fun _=>rfl,h3,by simpa using h4⟩
@[simp] theorem zuj : aK P np id (.slc s true true false) [.rk i off len c,.sc (.int .i64 (l : Int)),.sc (.int .i64 (k : Int))] h K = (l ≤ k ∧ k ≤ c ∧ (∃ e,h i = some e ∧ e.s = s) ∧ K (.rk i (off + l) (k - l) (c - l)) [i] []):=by
 rw [zju]
 refine propext ⟨?_,?_⟩
 ·rintro ⟨l',r,m,n,h1,h2,h4,h5,h6,h7,h3,h10,h11,h8,h9⟩
  simp at h4 h1
  have : k = r:=by omega
  subst this
  have : l = l':=by omega
  subst this
  obtain rfl:=h11 rfl
  exact ⟨h2,h3,h8,h9⟩
 ·rintro ⟨h1,h2,h3,h4⟩
  exact ⟨l,k,c,len,rfl,h1,by simp,(fun h=>by cases h),(fun h=>by cases h),(fun h=>by cases h),h2,Nat.le_refl _,fun _=>rfl,h3,h4⟩
@[simp] theorem zuS : aK P np id (.slc s true true true) [.rk i off len c,.sc (.int .i64 (l : Int)),.sc (.int .i64 (k : Int)),.sc (.int .i64 (m : Int))] h K = (l ≤ k ∧ k ≤ m ∧ m ≤ c ∧ (∃ e,h i = some e ∧ e.s = s) ∧ K (.rk i (off + l) (k - l) (m - l)) [i] []):=by
 rw [zju]
 refine propext ⟨?_,?_⟩
 ·rintro ⟨l',r,m',n,h1,h2,h4,h5,h6,h7,h3,h10,h11,h8,h9⟩
  simp at h4 h1
  have : k = r:=by omega
  subst this
  have : l = l':=by omega
  subst this
  have : m = m':=by omega
  subst this
  exact ⟨h2,h3,h10,h8,h9⟩
 ·rintro ⟨h1,h2,h3,h4,h5⟩
  exact ⟨l,k,m,len,rfl,h1,by simp,(fun h=>by cases h),(fun h=>by cases h),(fun _=>rfl),h2,h3,(fun h=>by cases h),h4,h5⟩
@[simp] theorem zuY : aK P np id (.slc s true false false) [.rs i off len,.sc (.int .i64 (k : Int))] h K = (k ≤ len ∧ (∃ e,h i = some e ∧ e.s = s) ∧ K (.rs i (off + k) (len - k)) [i] []):=by
 rw [zju]
 refine propext ⟨?_,?_⟩
 ·rintro ⟨l,r,m,n,h1,h2,h4,h5,h6,h7,h3,h10,h8,h9⟩
  obtain rfl:=h6 rfl
  simp at h4 h1
  subst h1
  have : k = l:=by omega
  subst this
  exact ⟨h2,h8,h9⟩
 ·rintro ⟨h1,h3,h4⟩
  exact ⟨k,len,0,len,rfl,h1,by simp,(fun h=>by cases h),fun _=>rfl,(fun h=>by cases h),Nat.le_refl _,rfl,h3,h4⟩
@[simp] theorem zuF : aK P np id (.slc s false true false) [.rs i off len,.sc (.int .i64 (k : Int))] h K = (k ≤ len ∧ (∃ e,h i = some e ∧ e.s = s) ∧ K (.rs i off k) [i] []):=by
 rw [zju]
 refine propext ⟨?_,?_⟩
 ·rintro ⟨l,r,m,n,h1,h2,h4,h5,h6,h7,h3,h10,h8,h9⟩
  obtain rfl:=h5 rfl
  simp at h4 h1
  have : k = r:=by omega
  subst this
  exact ⟨by omega,h8,by simpa using h9⟩
 ·rintro ⟨h1,h3,h4⟩
  exact ⟨0,k,0,len,rfl,Nat.zero_le _,by simp,fun _=>rfl,(fun h=>by cases h),(fun h=>by cases h),h1,rfl,h3,by simpa using h4⟩
end
theorem Le.keep {np : Nat} {st st' : St} (hsz : st'.sz = st.sz) (hn : st.n ≤ st'.n) (ht : ∀ p ∈ st'.t,st.get p.1 = p.2) (hh : ∀ p ∈ st'.h,∀ e,p.2 = some e → st.hp p.1 = some e) : Le np st st':=by
 intro T0 M0 w0 T M a w ok hnp
 have hp : ∀ id e,st'.hp id = some e → st.hp id = some e:=by
  intro id e he
  unfold St.hp at he
  cases hl : lkp st'.h id with
  | none=>rw [hl] at he; cases he
  | some v =>
    rw [hl] at he
    exact hh _ (za0 hl) e he
 refine ⟨T,M,⟨ok.sz.trans hsz.symm,ok.df,fun i=>?_,⟨fun id e he=>ok.hs.ent id e (hp id e he),fun id id' e e' g g' b h1 h2=>ok.hs.inj id id' e e' g g' b (hp _ _ h1) (hp _ _ h2)⟩,fun id g hg=>Nat.lt_of_lt_of_le (ok.dom id g hg) hn,ok.after⟩,Nat.le_trans hnp hn⟩
 unfold St.get at *
 cases hl : lkp st'.t i with
 | none=>exact .dead _ _
 | some v =>
   have:=ht _ (za0 hl)
   simp only at this
   show Rep T w M v _
   rw [← this]
   exact ok.tm i
theorem zao.m1 {rs : List (Nat × Option (Bool × Nat))} {st : St} {vs : List AV} {res : AV} {e : Ent} (i : Nat) (hi : 1 ≤ i) (h1 : ze3 st rs = some vs) (hw : Wk (conv [(0,0),(i,1)] [] st.hp 4 (resV vs)) res) (h0 : st.hp 0 = none) (he : (st.hp i).map (zaA [(0,0),(i,1)] [] st.hp 4) = some e) : zao rs 1 st res [none,some e] :=
 ⟨vs,h1,[i],[],by simp [List.range,List.range.loop]; omega,by simpa using hi,by simp,by simpa [List.range,List.range.loop] using hw,by simpa [List.range,List.range.loop,h0] using he⟩
theorem GrOk.lt {g : Gr} (h : GrOk g) : ∀ (j i : Nat) (hi : i < g.edges.length) (hj : j < g.edges.length),i < j → Bef g.edges[i] g.edges[j]
 | 0,_,_,_,h0=>by omega
 | j + 1,i,hi,hj,hij=>by
   have h1 : Bef g.edges[j] g.edges[j + 1]:=zhX.1 ((h.2 (j + 1) hj).2.2.2 (by omega))
   rcases Nat.lt_or_ge i j with h2 | h2
   ·have h3:=GrOk.lt h j i hi (by omega) h2
    unfold Bef at *
    omega
   ·obtain rfl : i = j:=by omega
    exact h1
theorem GrOk.mono {g : Gr} (h : GrOk g) (e : Ed) : ∀ (i j : Nat) (hi : i < g.edges.length) (hj : j < g.edges.length),i ≤ j → Bef g.edges[j] e → Bef g.edges[i] e:=by
 intro i j hi hj hij hb
 rcases Nat.lt_or_ge i j with h2 | h2
 ·have h3:=h.lt j i hi hj h2
  unfold Bef at *
  omega
 ·obtain rfl : i = j:=by omega
  exact hb
section
variable {P : Program} {np id : Nat} {h : Nat → Option Ent} {K : AV → List Nat → List (Nat × Option Ent) → Prop} {f : FuncId} {first capt args args' : List AV} {res : AV}
theorem zlL {i j : Nat} {e e' ej : Ent} {hs' : List (Option Ent)} (hij : j ≠ i) (hnp : np ≤ j) (hi : h i = some e) (hj : h j = some ej) (hee : zaA [(i,0)] [j] h 4 e = e') (hc : zaj P f args' [e'] res hs') (h8 : hs'.length ≤ 9) (he : (first ++ args ++ capt).map (conv [(i,0)] [j] h 4) = args')
  (hk : K (conv (swp [i] id) [] (fun _=>none) 4 res) [i,j] ((hs'.zipIdx.map fun (e,k)=>((i :: (List.range 8).map (id + ·)).getD k 0,e.map (zaA (swp [i] id) [] (fun _=>none) 4))) ++ [(j,some { ej with ro:=ej.rows.length })])) : aK P np id .call (.fn (.func f) first capt :: args) h K :=
 ⟨[i],[j],true,args',[e'],res,hs',by simp,by simpa using hij,by simpa using hnp,by rw [show [i].zipIdx = [(i,0)] from rfl,he]; exact zcB _,by rw [show [i].zipIdx = [(i,0)] from rfl]; simpa [hi] using hee,hc,by simpa using h8,.inl rfl,by simpa [swp,hj] using hk⟩
end
theorem zqr {l : List Ed} {e : Ed} {i : Nat} (h : i < idxE l e) (hi : i < l.length) : Bef l[i] e:=by
 have:=List.not_of_lt_findIdx h
 simpa using this
theorem zpV {l : List Ed} {e : Ed} (h : idxE l e < l.length) : ¬ Bef l[idxE l e] e:=by
 have h1 : l.findIdx (fun x=>!decide (Bef x e)) < l.length:=h
 have:=List.findIdx_getElem (w:=h1)
 intro hb
 have h2 : decide (Bef l[l.findIdx (fun x=>!decide (Bef x e))] e) = true:=decide_eq_true hb
 simp only [h2] at this
 cases this
theorem zq4 {g : Gr} {e : Ed} (hg : GrOk g) (hf : Fits g e) (h1 : 1 ≤ e.v) (h3 : e.v ≤ 3) (ha : ¬ AtE g.edges (idxE g.edges ⟨e.f,e.t,0⟩) e.f e.t) (hl : g.edges.length < 500) : GrOk (zhu g e):=by
 have hle:=zof g.edges ⟨e.f,e.t,0⟩
 have hb : ∀ i (hi : i < g.edges.length),i < idxE g.edges ⟨e.f,e.t,0⟩ → Bef g.edges[i] e:=fun i hi h=>by
  have:=zqr h hi
  exact this
 have hn : ∀ (h : idxE g.edges ⟨e.f,e.t,0⟩ < g.edges.length),Bef e g.edges[idxE g.edges ⟨e.f,e.t,0⟩]:=fun h=>by
  have h2:=zpV h
  have h4 : ¬ (g.edges[idxE g.edges ⟨e.f,e.t,0⟩].f = e.f ∧ g.edges[idxE g.edges ⟨e.f,e.t,0⟩].t = e.t):=fun q=>ha ⟨h,q⟩
  simp only [Bef] at h2 ⊢
  omega
 unfold zhu
 generalize idxE g.edges ⟨e.f,e.t,0⟩ = k at *
 have hlen : (g.edges.take k ++ e :: g.edges.drop k).length = g.edges.length + 1:=by simp; omega
 have hget : ∀ i (hi : i < (g.edges.take k ++ e :: g.edges.drop k).length),(g.edges.take k ++ e :: g.edges.drop k)[i] = if h : i < k then g.edges[i]'(by omega) else if h2 : i = k then e else g.edges[i - 1]'(by omega):=by
  intro i hi
  have htl : (g.edges.take k).length = k:=by simp; omega
  by_cases h : i < k
  ·rw [dif_pos h,List.getElem_append_left (by omega),List.getElem_take]
  ·rw [dif_neg h,List.getElem_append_right (by omega)]
   by_cases h2 : i = k
   ·subst h2
    simp [htl]
   ·rw [dif_neg h2]
    rw [List.getElem_cons]
    rw [dif_neg (by omega),List.getElem_drop]
    congr 1
    omega
 refine ⟨⟨hg.1.1,hg.1.2.1,by simp only [hlen]; omega,hg.1.2.2.2⟩,fun i hi=>?_⟩
 simp only at hi
 have hfit : ∀ x : Ed,Fits ⟨g.size,g.edges.take k ++ e :: g.edges.drop k,g.gone⟩ x ↔ Fits g x:=fun x=>Iff.rfl
 simp only [hfit,zhX,hget]
 have hE:=fun j (hj : j < g.edges.length)=>hg.2 j hj
 by_cases h : i < k
 ·simp only [dif_pos h]
  refine ⟨(hE i (by omega)).1,(hE i (by omega)).2.1,(hE i (by omega)).2.2.1,fun h0=>?_⟩
  rw [dif_pos (by omega)]
  exact zhX.1 ((hE i (by omega)).2.2.2 h0)
 ·simp only [dif_neg h]
  by_cases h2 : i = k
  ·subst h2
   simp only [dif_pos]
   refine ⟨hf,h1,h3,fun h0=>?_⟩
   rw [dif_pos (by omega)]
   exact hb _ _ (by omega)
  ·simp only [dif_neg h2]
   refine ⟨(hE (i - 1) (by omega)).1,(hE (i - 1) (by omega)).2.1,(hE (i - 1) (by omega)).2.2.1,fun h0=>?_⟩
   rw [dif_neg (by omega)]
   by_cases h4 : i - 1 = k
   ·rw [dif_pos h4]
    subst h4
    exact hn _
   ·rw [dif_neg h4]
    exact hg.lt _ _ _ _ (by omega)
theorem zi6 {g : Gr} {e : Ed} (h : (zbM g e).2 = 0) : GrOk g ∧ Fits g e ∧ (1 ≤ e.v ∧ e.v ≤ 3) ∧ ¬ AtE g.edges (idxE g.edges ⟨e.f,e.t,0⟩) e.f e.t ∧ g.edges.length < 500 ∧ (zbM g e).1 = zhu g e ∧ GrOk (zhu g e):=by
 have key : GrOk g ∧ Fits g e ∧ (1 ≤ e.v ∧ e.v ≤ 3) ∧ ¬ AtE g.edges (idxE g.edges ⟨e.f,e.t,0⟩) e.f e.t ∧ g.edges.length ≠ 500 ∧ (zbM g e).1 = zhu g e:=by
  unfold zbM at *
  split at h
  ·simp at h
  split at h
  ·simp at h
  split at h
  ·simp at h
  split at h
  ·simp at h
  split at h
  ·simp at h
  simp_all
 obtain ⟨h1,h2,h3,h4,h5,h6⟩:=key
 have h7 : g.edges.length < 500:=by have:=h1.1.2.2.1; omega
 exact ⟨h1,h2,h3,h4,h7,h6,zq4 h1 h2 h3.1 h3.2 h4 h7⟩
noncomputable def zkO (L : List Int) (p : Gr × Nat) : Gr × Nat :=
 (if (zbM p.1 ⟨(zas L p.2 p.1.size).1,(zas L (zas L p.2 p.1.size).2 p.1.size).1,1 + (zas L (zas L (zas L p.2 p.1.size).2 p.1.size).2 3).1⟩).2 = 0
  then (zbM p.1 ⟨(zas L p.2 p.1.size).1,(zas L (zas L p.2 p.1.size).2 p.1.size).1,1 + (zas L (zas L (zas L p.2 p.1.size).2 p.1.size).2 3).1⟩).1 else p.1,
  (zas L (zas L (zas L p.2 p.1.size).2 p.1.size).2 3).2)
noncomputable def zqA (L : List Int) : Nat → Gr × Nat → Gr × Nat
 | 0,p=>p
 | n + 1,p=>zqA L n (zkO L p)
def zdZ (L : List Int) (a : Nat) : Int:=if L.length = 0 then 4 else 2 + (zas L a 8).1
def zb2 (L : List Int) (a : Nat) : Gr × Nat :=
 if (zas L (zas L a 8).2 8).1 = 7 then (⟨zdZ L a,[],[(zas L (zas L (zas L a 8).2 8).2 (zdZ L a)).1]⟩,(zas L (zas L (zas L a 8).2 8).2 (zdZ L a)).2)
 else (⟨zdZ L a,[],[]⟩,(zas L (zas L a 8).2 8).2)
noncomputable def zi0 (L : List Int) (a : Nat) : Gr × Nat:=zqA L (zas L (zb2 L a).2 23).1.toNat ((zb2 L a).1,(zas L (zb2 L a).2 23).2)
structure zlE (L : List Int) (p : Gr × Nat) : Prop where
 ok : GrOk p.1
 lo : 2 ≤ p.1.size
 hi : p.1.size ≤ 9
 at_ : p.2 ≤ L.length
 few : p.1.gone.length ≤ 1
theorem zh1 (L : List Int) (a : Nat) : 2 ≤ zdZ L a ∧ zdZ L a ≤ 9:=by
 have:=zdj (L:=L) (a:=a) (n:=8) (by omega)
 unfold zdZ
 split <;> omega
theorem zhc (L : List Int) (a : Nat) (ha : a ≤ L.length) : zlE L (zb2 L a):=by
 have hs:=zh1 L a
 have h1:=zbm (L:=L) (a:=a) (n:=8) ha
 have h2:=zbm (L:=L) (a:=(zas L a 8).2) (n:=8) h1
 have hq:=zdj (L:=L) (a:=(zas L (zas L a 8).2 8).2) (n:=zdZ L a) (by omega)
 unfold zb2
 split
 ·refine ⟨⟨⟨by simp only; omega,by simp only; omega,by simp,fun i hi=>?_⟩,fun i hi=>absurd hi (by simp)⟩,hs.1,hs.2,zbm h2,by simp⟩
  obtain rfl : i = 0:=by simpa using hi
  refine ⟨hq.1,?_,fun h=>by omega⟩
  have:=hq.2
  simp only [List.getElem_cons_zero]
  omega
 ·exact ⟨⟨⟨by simp only; omega,by simp only; omega,by simp,fun i hi=>absurd hi (by simp)⟩,fun i hi=>absurd hi (by simp)⟩,hs.1,hs.2,h2,by simp⟩
theorem ziO {L : List Int} {p : Gr × Nat} (h : zlE L p) : zlE L (zkO L p):=by
 have h3:=zbm (n:=3) (zbm (n:=p.1.size) (zbm (n:=p.1.size) h.at_))
 unfold zkO
 by_cases hw : (zbM p.1 ⟨(zas L p.2 p.1.size).1,(zas L (zas L p.2 p.1.size).2 p.1.size).1,1 + (zas L (zas L (zas L p.2 p.1.size).2 p.1.size).2 3).1⟩).2 = 0
 ·rw [if_pos hw]
  obtain ⟨_,_,_,_,_,q6,q7⟩:=zi6 hw
  rw [q6]
  exact ⟨q7,h.lo,h.hi,h3,h.few⟩
 ·rw [if_neg hw]
  exact ⟨h.ok,h.lo,h.hi,h3,h.few⟩
theorem ziy {L : List Int} : ∀ (n : Nat) {p : Gr × Nat},zlE L p → zlE L (zqA L n p)
 | 0,_,h=>h
 | n + 1,_,h=>ziy n (ziO h)
theorem zls (L : List Int) (a : Nat) (ha : a ≤ L.length) : zlE L (zi0 L a):=by
 have h:=zhc L a ha
 exact ziy _ ⟨h.ok,h.lo,h.hi,zbm h.at_,h.few⟩
theorem zaH.eq {nl : List (Nat × Nat)} {e e' : Ent} (h : e = e') (hr : e'.ro ≤ e'.rows.length) : zaH nl e e':=by
 subst h
 exact zaH.rfl' hr
theorem zaH.row {nl : List (Nat × Nat)} {s ro : Nat} {e : Ent} {r r' : List AV} (h : e = ⟨s,[r],ro⟩) (hr : ro ≤ 1) (hu : UpL nl r r') (hs : s ≠ 0:=by decide) : zaH nl e ⟨s,[r'],ro⟩:=by
 subst h
 refine ⟨rfl,Nat.le_refl _,hr,.inr ⟨hs,rfl,fun i=>?_⟩⟩
 match i with
 | 0=>exact hu
 | _ + 1=>exact trivial
theorem zpC {nl : List (Nat × Nat)} : ∀ {xs ys : List AV},WkL xs ys → UpL nl xs ys
 | [],[],_=>trivial
 | _ :: _,_ :: _,h=>⟨.inl h.1,zpC h.2⟩
 | [],_ :: _,h=>False.elim h
 | _ :: _,[],h=>False.elim h
theorem Le.ents {np : Nat} {st st' : St} (ρ : List (Nat × Nat)) (sn : List Nat) (hsz : st'.sz = st.sz)
  (h0 : (ρ.map (·.1)).Nodup) (h1 : (ρ.map (·.2)).Nodup) (h2 : ∀ p ∈ ρ,p.2 < st'.n ∧ (p.2 < np → p.1 = p.2)) (h4 : ∀ i ∈ sn,np ≤ i ∧ i ∉ ρ.map (·.1)) (h5 : np ≤ st'.n)
  (ht : ∀ p ∈ st'.t,Wk (conv ρ sn st.hp 4 (st.get p.1)) p.2)
  (hh : ∀ p ∈ st'.h,∃ q e e',p.2 = some e' ∧ (q,p.1) ∈ ρ ∧ st.hp q = some e ∧ zaH [] (zaA ρ sn st.hp 4 e) e') : Le np st st' :=
 Le.lst ρ sn [] hsz h0 h1 h2 (by simp) h4 h5 (by simp) (fun p hp=>.inl (ht p hp)) fun p hp e' he'=>by
  obtain ⟨q,e,e2,h1,h2,h3,h4⟩:=hh p hp
  rw [he'] at h1
  cases h1
  exact .inl ⟨(q,p.1),h2,rfl,e,h3,h4⟩
theorem zeU (L : List Int) (a : Nat) (n : Int) (hl : L.length ≤ 400) (ha : a ≤ L.length) (hn : n ≤ 9223372036854775807) : zaj Try.prog zat [.pt 0 0 0,.I n] [dice L a] (.I (zas L a n).1) [some (dice L (zas L a n).2)]:=zjT L a n (by omega) ha hn
abbrev zG : Ent:=⟨3,[[.I 0,.nilS,.nilS]],0⟩
abbrev rowG (g : Gr) : Ent:=⟨3,[gC g],0⟩
set_option maxRecDepth 100000 in
theorem zqw (L : List Int) (a : Nat) (hl : L.length ≤ 400) (ha : a ≤ L.length) : zaj Try.prog za8 [.pt 0 0 0] [dice L a] (eG (zi0 L a).1) [some (dice L (zi0 L a).2)]:=by
 refine zgy.acalls (nbz rfl) (nbz rfl) (Nat.le_refl _) ?_
 show awp _ 1 _ _ ⟨53,[(0,.pt 0 0 0)],[(0,some (dice L a))],16⟩
 have a1:=zbm (L:=L) (a:=a) (n:=8) ha
 have r1:=zdj (L:=L) (a:=a) (n:=8) (by omega)
 have hs:=zh1 L a
 have a2:=zbm (L:=L) (a:=(zas L a 8).2) (n:=8) a1
 have hw1 : IntKind.i64.wrap (2 + (zas L a 8).1) = 2 + (zas L a 8).1:=w64 (by omega) (by omega)
 have hm:=zhc L a ha
 refine zab ⟨53,[(0,.pt 0 0 0),(2,.pt 16 0 0)],[(0,some (dice L a)),(16,some zG)],24⟩ rfl ?_ ?_
 ·simp
  exact Le.keep rfl (Nat.le_refl _) (by simp) (by simp)
 refine zab ⟨53,[(0,.pt 0 0 0),(2,.pt 16 0 0),(3,.pt 56 0 0)],[(0,some (dice L (zas L a 8).2)),(16,some zG),(56,some ⟨3,[[.I (2 + (zas L a 8).1),.nilS,.nilS]],0⟩)],72⟩ rfl ?_ ?_
 ·simp
  refine zbh (i:=0) rfl (e':=dice L a) (by simp [fcd]) (zeU L a 8 hl ha (by omega)) (by simp) (by simp) ?_
  simp [hw1,fcd]
  exact Le.keep rfl (Nat.le_refl _) (by simp) (by simp)
 refine zaw (ι:=Unit) (fun _=>⟨53,[(0,.pt 0 0 0),(2,.pt 16 0 0),(3,.pt 56 0 0)],[(0,some (dice L (zas L a 8).2)),(16,some zG),(56,some ⟨3,[[.I (zdZ L a),.nilS,.nilS]],0⟩)],136⟩) (fun _=>True) ?_ fun _ _=>?_
 ·refine zab ⟨53,[(0,.pt 0 0 0),(2,.pt 16 0 0),(3,.pt 56 0 0),(16,.B (decide (L.length = 0)))],[(0,some (dice L (zas L a 8).2)),(16,some zG),(56,some ⟨3,[[.I (2 + (zas L a 8).1),.nilS,.nilS]],0⟩)],120⟩ rfl ?_ ?_
  ·simp
   exact Le.keep rfl (Nat.le_refl _) (by simp <;> rw [Bool.eq_iff_iff] <;> simp) (by simp)
  refine zad _ rfl (fun h=>?_) fun h=>zae ?_
  ·simp only [decide_eq_true_eq] at h
   have hz : zdZ L a = 4:=by unfold zdZ; rw [if_pos h]
   refine zaC rfl ?_
   simp
   exact Le.keep rfl (Nat.le_refl _) (by simp) (by simp [hz])
  ·simp only [decide_eq_false_iff_not] at h
   have hz : zdZ L a = 2 + (zas L a 8).1:=by unfold zdZ; rw [if_neg h]
   exact ⟨(),trivial,Le.keep rfl (nbz rfl) (by simp) (by simp [hz])⟩
 refine zaw (ι:=Unit) (fun _=>⟨53,[(0,.pt 0 0 0),(2,.pt 16 0 0),(3,.pt 56 0 0)],[(0,some (dice L (zb2 L a).2)),(16,some zG),(56,some (rowG (zb2 L a).1))],208⟩) (fun _=>True) ?_ fun _ _=>?_
 ·refine zab ⟨53,[(0,.pt 0 0 0),(2,.pt 16 0 0),(3,.pt 56 0 0),(19,.B (decide ((zas L (zas L a 8).2 8).1 = 7)))],[(0,some (dice L (zas L (zas L a 8).2 8).2)),(16,some zG),(56,some ⟨3,[[.I (zdZ L a),.nilS,.nilS]],0⟩)],152⟩ rfl ?_ ?_
  ·simp
   refine zbh (i:=0) rfl (e':=dice L (zas L a 8).2) (by simp [fcd]) (zrl L _ 8 (by omega) a1 (by omega) (by omega)) (by simp) (by simp) ?_
   simp [fcd]
   exact Le.keep rfl (Nat.le_refl _) (by simp) (by simp)
  refine zad _ rfl (fun h=>?_) fun h=>zae ?_
  ·simp only [decide_eq_true_eq] at h
   have hz : zb2 L a = (⟨zdZ L a,[],[(zas L (zas L (zas L a 8).2 8).2 (zdZ L a)).1]⟩,(zas L (zas L (zas L a 8).2 8).2 (zdZ L a)).2):=by unfold zb2; rw [if_pos h]
   rw [hz]
   refine zaC rfl ?_
   simp
   refine zbh (i:=0) rfl (e':=dice L (zas L (zas L a 8).2 8).2) (by simp [fcd]) (zeU L (zas L (zas L a 8).2 8).2 (zdZ L a) hl a2 (by omega)) (by simp) (by simp) ?_
   simp [fcd]
   refine Le.ents [(0,0),(16,16),(56,56)] [184] rfl (by simp) (by simp) (by simp) (by simp) (by simp) (by simp) fun p hp=>?_
   simp at hp
   rcases hp with rfl | rfl | rfl
   ·exact ⟨0,_,_,rfl,by simp,rfl,zaH.eq (by simp) (by simp)⟩
   ·exact ⟨16,_,_,rfl,by simp,rfl,zaH.eq (by simp) (by simp)⟩
   ·exact ⟨56,_,_,rfl,by simp,rfl,zaH.row (by simp; rfl) (by simp) (zpC (by simp; exact ⟨.nil _ _,.refl _⟩))⟩
  ·simp only [decide_eq_false_iff_not] at h
   have hz : zb2 L a = (⟨zdZ L a,[],[]⟩,(zas L (zas L a 8).2 8).2):=by unfold zb2; rw [if_neg h]
   rw [hz]
   refine ⟨(),trivial,Le.ents [(0,0),(16,16),(56,56)] [] rfl (by simp) (by simp) (by simp) (by simp) (by simp) (by simp) fun p hp=>?_⟩
   simp at hp
   rcases hp with rfl | rfl | rfl
   ·exact ⟨0,_,_,rfl,by simp,rfl,zaH.eq (by simp) (by simp)⟩
   ·exact ⟨16,_,_,rfl,by simp,rfl,zaH.eq (by simp) (by simp)⟩
   ·exact ⟨56,_,_,rfl,by simp,rfl,zaH.row (by simp; rfl) (by simp) (zpC (by simp; exact ⟨.nil _ _,.nil _ _⟩))⟩
 have r4:=zdj (L:=L) (a:=(zb2 L a).2) (n:=23) (by omega)
 obtain ⟨n0,hn0⟩ : ∃ n0 : Nat,(zas L (zb2 L a).2 23).1 = n0:=⟨(zas L (zb2 L a).2 23).1.toNat,by omega⟩
 refine zaa ?_
 refine zab ⟨53,[(0,.pt 0 0 0),(2,.pt 16 0 0),(3,.pt 56 0 0),(4,.I n0)],[(0,some (dice L (zas L (zb2 L a).2 23).2)),(16,some zG),(56,some (rowG (zb2 L a).1))],232⟩ rfl ?_ ?_
 ·simp
  refine zbh (i:=0) rfl (e':=dice L (zb2 L a).2) (by simp [fcd]) (zeU L (zb2 L a).2 23 hl hm.at_ (by omega)) (by simp) (by simp) ?_
  simp [fcd,hn0]
  exact Le.keep rfl (Nat.le_refl _) (by simp) (by simp)
 refine zaf ?_
 refine zap (ι:=Nat × Gr × Nat) (fun q=>⟨53,[(0,.pt 0 0 0),(2,.pt 16 0 0),(3,.pt 56 0 0),(4,.I q.1)],[(0,some (dice L q.2.2)),(16,some zG),(56,some (rowG q.2.1))],232⟩)
  (fun q=>q.1 ≤ 23 ∧ zlE L q.2 ∧ zqA L q.1 q.2 = zi0 L a) (fun q=>q.1) (n0,(zb2 L a).1,(zas L (zb2 L a).2 23).2) ?_ (Le.refl _ _) ?_
 ·refine ⟨by simp only; omega,⟨hm.ok,hm.lo,hm.hi,zbm hm.at_,hm.few⟩,?_⟩
  unfold zi0
  rw [hn0]
  rfl
 rintro ⟨k,p⟩ ⟨hk,hp,hit⟩
 simp only at hk hp hit ⊢
 refine zaa ?_
 refine zab ⟨53,[(0,.pt 0 0 0),(2,.pt 16 0 0),(3,.pt 56 0 0),(4,.I k),(29,.B (decide (0 < k)))],[(0,some (dice L p.2)),(16,some zG),(56,some (rowG p.1))],248⟩ rfl ?_ ?_
 ·simp
  exact Le.keep rfl (Nat.le_refl _) (by simp) (by simp)
 refine zad _ rfl (fun h=>zae ?_) fun h=>zal (Go.Proofs.Ytfdbhehkkobfgaa.hit ?_)
 ·simp only [decide_eq_true_eq] at h
  refine zaw (ι:=Unit) (fun _=>⟨53,[(0,.pt 0 0 0),(2,.pt 16 0 0),(3,.pt 56 0 0),(4,.I k)],[(0,some (dice L (zkO L p).2)),(16,some zG),(56,some (rowG (zkO L p).1))],440⟩) (fun _=>True) ?_ fun _ _=>?_
  ·refine zaf ?_
   have q1:=zbm (n:=p.1.size) hp.at_
   have q2:=zbm (n:=p.1.size) q1
   have hlo:=hp.lo
   have hhi:=hp.hi
   have l3:=zdj (L:=L) (a:=(zas L (zas L p.2 p.1.size).2 p.1.size).2) (n:=3) (by omega)
   have hwv : IntKind.i64.wrap (1 + (zas L (zas L (zas L p.2 p.1.size).2 p.1.size).2 3).1) = 1 + (zas L (zas L (zas L p.2 p.1.size).2 p.1.size).2 3).1:=w64 (by omega) (by omega)
   obtain ⟨w,hw⟩ : ∃ w,w = zbM p.1 ⟨(zas L p.2 p.1.size).1,(zas L (zas L p.2 p.1.size).2 p.1.size).1,1 + (zas L (zas L (zas L p.2 p.1.size).2 p.1.size).2 3).1⟩:=⟨_,rfl⟩
   have hst : zkO L p = (if w.2 = 0 then w.1 else p.1,(zas L (zas L (zas L p.2 p.1.size).2 p.1.size).2 3).2):=by rw [hw]; rfl
   have h500:=hp.ok.1.2.2.1
   have hfew:=hp.few
   have hwith:=zfH p.1 ⟨(zas L p.2 p.1.size).1,(zas L (zas L p.2 p.1.size).2 p.1.size).1,1 + (zas L (zas L (zas L p.2 p.1.size).2 p.1.size).2 3).1⟩ (by omega) (by omega)
   rw [← hw] at hwith
   rw [hst]
   refine zbb ⟨53,[(0,.pt 0 0 0),(2,.pt 16 0 0),(3,.pt 56 0 0),(4,.I k),(5,.pv (gC w.1)),(6,.I w.2)],[(0,some (dice L (zas L (zas L (zas L p.2 p.1.size).2 p.1.size).2 3).2)),(16,some zG),(56,some (rowG p.1))],408⟩ rfl ?_ ?_
   ·simp
    refine zbh (i:=0) rfl (e':=dice L p.2) (by simp [fcd]) (zeU L p.2 p.1.size hl hp.at_ (by omega)) (by simp) (by simp) ?_
    simp [fcd]
    refine zbh (i:=0) rfl (e':=dice L (zas L p.2 p.1.size).2) (by simp [fcd]) (zeU L (zas L p.2 p.1.size).2 p.1.size hl q1 (by omega)) (by simp) (by simp) ?_
    simp [fcd]
    refine zbh (i:=0) rfl (e':=dice L (zas L (zas L p.2 p.1.size).2 p.1.size).2) (by simp [fcd]) (zeU L (zas L (zas L p.2 p.1.size).2 p.1.size).2 3 hl q2 (by omega)) (by simp) (by simp) ?_
    simp [fcd,hwv]
    refine zan hwith rfl ?_
    simp
    refine ⟨rfl,Le.ents [(0,0),(16,16),(56,56)] [384] rfl (by simp) (by simp) (by simp) (by simp) (by simp) (by simp) fun p hp=>?_⟩
    simp at hp
    rcases hp with rfl | rfl | rfl
    ·exact ⟨0,_,_,rfl,by simp,rfl,zaH.eq (by simp [fcd]) (by simp)⟩
    ·exact ⟨16,_,_,rfl,by simp,rfl,zaH.eq (by simp) (by simp)⟩
    ·exact ⟨56,_,_,rfl,by simp,rfl,zaH.eq (by simp) (by simp)⟩
   refine zab ⟨53,[(0,.pt 0 0 0),(2,.pt 16 0 0),(3,.pt 56 0 0),(4,.I k),(5,.pv (gC w.1)),(50,.B (decide (w.2 = 0)))],[(0,some (dice L (zas L (zas L (zas L p.2 p.1.size).2 p.1.size).2 3).2)),(16,some zG),(56,some (rowG p.1))],424⟩ rfl ?_ ?_
   ·simp
    exact Le.keep rfl (Nat.le_refl _) (by simp <;> rw [Bool.eq_iff_iff] <;> simp) (by simp)
   refine zad _ rfl (fun h=>?_) fun h=>zae ?_
   ·simp only [decide_eq_true_eq] at h
    refine zaC rfl ?_
    simp [h]
    exact Le.keep rfl (nbz rfl) (by simp) (by simp)
   ·simp only [decide_eq_false_iff_not] at h
    rw [if_neg h]
    exact ⟨(),trivial,Le.keep rfl (nbz rfl) (by simp) (by simp)⟩
  have hwk : IntKind.i64.wrap ((k : Int) - 1) = ((k - 1 : Nat) : Int):=by rw [w64 (by omega) (by omega)]; omega
  refine zaC rfl ?_
  simp [hwk]
  refine ⟨k - 1,(zkO L p).1,(zkO L p).2,⟨by omega,ziO hp,?_⟩,by omega,Le.ents [(0,0),(16,16),(56,56)] [] rfl (by simp) (by simp) (by simp) (by simp) (by simp) (by simp) fun p hp=>?_⟩
  ·rw [← hit]
   obtain ⟨k,rfl⟩ : ∃ j,k = j + 1:=⟨k - 1,by omega⟩
   rfl
  ·simp at hp
   rcases hp with rfl | rfl | rfl
   ·exact ⟨0,_,_,rfl,by simp,rfl,zaH.eq (by simp [fcd]) (by simp)⟩
   ·exact ⟨16,_,_,rfl,by simp,rfl,zaH.eq (by simp) (by simp)⟩
   ·exact ⟨56,_,_,rfl,by simp,rfl,zaH.eq (by simp) (by simp)⟩
 simp only [decide_eq_false_iff_not] at h
 obtain rfl : k = 0:=by omega
 have hpe : p = zi0 L a:=hit
 rw [← hpe]
 refine zab ⟨53,[(2,.pt 16 0 0)],[(0,some (dice L p.2)),(16,some (rowG p.1))],264⟩ rfl ?_ ?_
 ·simp
  exact Le.keep rfl (Nat.le_refl _) (by simp) (by simp)
 refine zag ?_
 exact ⟨.inr rfl,zao.k1 (vs:=[eG p.1]) rfl (by simp) (by simp [fcd])⟩
def zkq (capt : List AV) : Prop:=∀ ρ sn h n,capt.map (conv ρ sn h (n + 1)) = capt
def idxQ {α : Type} (l : List α) (q : α → Bool) : Int:=if l.findIdx q < l.length then (l.findIdx q : Int) else -1
theorem zoc {α : Type} {l : List α} {q : α → Bool} {k : Nat} (hk : k < l.length) (h1 : ∀ i,i < k → ∀ h : i < l.length,q l[i] = false) (h2 : q l[k] = true) : idxQ l q = k:=by
 have : l.findIdx q = k:=by
  rw [List.findIdx_eq hk]
  exact ⟨h2,fun j hj=>by simpa using h1 j hj (by omega)⟩
 unfold idxQ
 rw [this,if_pos hk]
theorem zoi {α : Type} {l : List α} {q : α → Bool} (h1 : ∀ i,i < l.length → ∀ h : i < l.length,q l[i] = false) : idxQ l q = -1:=by
 have : l.findIdx q = l.length:=by
  rw [List.findIdx_eq_length]
  intro x hx
  obtain ⟨i,hi,rfl⟩:=List.mem_iff_getElem.1 hx
  exact h1 i hi hi
 unfold idxQ
 rw [this,if_neg (by omega)]
theorem zjJ (f : FuncId) (capt : List AV) (q : Ed → Bool) (l : List Ed) (hl : l.length ≤ 1099511627776) (hs : zkq capt) (hc : ∀ e ∈ l,zaj Try.prog f (eE e :: capt) [] (.B (q e)) []) : zaj Try.prog zaK [eEs l,.fn (.func f) [] capt] [] (.I (idxQ l q)) []:=by
 have hs2 : ∀ ρ sn h,capt.map (conv ρ sn h 2) = capt:=fun _ _ _=>hs _ _ _ 1
 have hs3 : ∀ ρ sn h,capt.map (conv ρ sn h 3) = capt:=fun _ _ _=>hs _ _ _ 2
 have hs4 : ∀ ρ sn h,capt.map (conv ρ sn h 4) = capt:=fun _ _ _=>hs _ _ _ 3
 refine zbO.acalls (nbz rfl) (nbz rfl) (Nat.le_refl _) ?_
 show awp _ 0 _ _ ⟨19,[(0,eEs l),(1,.fn (.func f) [] capt)],[],16⟩
 refine zaa ?_
 refine zac (s:=?s1) rfl ?o1 ?q1
 case o1=>simp; rfl
 refine zaa ?_
 refine zaa ?_
 refine zac (s:=?s2) rfl ?o2 ?q2
 case o2=>simp; rfl
 refine zaf ?_
 refine zap (ι:=Nat) (fun k=>⟨19,[(0,eEs l),(1,.fn (.func f) [] capt),(7,.I l.length),(8,.I k)],[],16⟩) (fun k=>k ≤ l.length ∧ ∀ i,i < k → ∀ h : i < l.length,q l[i] = false) (fun k=>l.length - k) (0) ?_ (Le.snap [] rfl rfl (by simp [hs2,hs3,hs4])) ?_
 ·simp
 rintro k ⟨hk,hp⟩
 refine zaa ?_
 refine zac (s:=?s3) rfl ?o3 ?q3
 case o3=>simp; rfl
 refine zaa ?_
 refine zad _ rfl (fun h4=>?_) fun h4=>?_
 ·try simp at h4
  have hw2 : IntKind.i64.wrap ((k : Int) + 1) = (k : Int) + 1:=w64 (by omega) (by omega)
  have hck:=hc l[k] (List.getElem_mem h4)
  refine zae ?_
  refine zaa ?_
  refine zaf ?_
  refine zaa ?_
  refine zac (s:=?s5) rfl ?o5 ?q5
  case o5=>simp [h4,hw2]; rfl
  refine zaa ?_
  refine zac (s:=?s6) rfl ?o6 ?q6
  case o6 =>
   simp [h4,hw2]
   refine zan hck ?_ ?_
   ·simp [hs2,hs3,hs4]
   simp [h4,hw2]; rfl
  refine zad _ rfl (fun h7=>?_) fun h7=>?_
  ·try simp at h7
   refine zaa ?_
   refine zac (s:=?s8) rfl ?o8 ?q8
   case o8=>simp [h4,hw2]; rfl
   refine zag ?_
   exact ⟨.inr rfl,zao.one (by simp [zoc h4 hp h7])⟩
  try simp at h7
  refine zae ?_
  refine zac (s:=?s9) rfl ?o9 ?q9
  case o9=>simp [h4,hw2]; rfl
  refine ⟨k + 1,⟨h4,fun i hi=>?_⟩,by omega,Le.snap [] rfl rfl (by simp [h4,hw2,hs2,hs3,hs4])⟩
  rcases Nat.lt_succ_iff_lt_or_eq.1 hi with h | rfl
  ·exact hp i h
  ·exact fun _=>h7
 try simp at h4
 have hall : ∀ i,i < l.length → ∀ h : i < l.length,q l[i] = false:=fun i hi=>hp i (by omega)
 refine zal ?_
 refine hit ?_
 refine zaa ?_
 refine zac (s:=?s10) rfl ?o10 ?q10
 case o10=>simp; rfl
 refine zag ?_
 exact ⟨.inr rfl,zao.one (by simp [zoi hall])⟩
abbrev zbE (l : List Ed) : List (List AV):=l.map fun e=>[AV.I e.f,AV.I e.t,AV.I e.v]
theorem zfQ {l : List Ed} {q : Ed → Bool} (h : ∀ i,i < l.length → ∀ h : i < l.length,q l[i] = false) : l.filter (fun e=>!q e) = l:=by
 rw [List.filter_eq_self]
 intro x hx
 obtain ⟨i,hi,rfl⟩:=List.mem_iff_getElem.1 hx
 simp [h i hi hi]
theorem zed (l : List Ed) (q : Ed → Bool) (j : Nat) (h : j < l.length) : (l.take (j + 1)).filter (fun e=>!q e) = (l.take j).filter (fun e=>!q e) ++ if q l[j] = true then [] else [l[j]]:=by
 rw [← List.take_concat_get h,List.concat_eq_append,List.filter_append]
 congr 1
 cases hq : q l[j] <;> simp [hq]
set_option maxRecDepth 100000 in
theorem zis (f : FuncId) (capt : List AV) (q : Ed → Bool) (l : List Ed) (n m : Nat) (hn : l.length = n) (hm : (l.filter fun e=>!q e).length = m) (hl : n ≤ 1099511627776) (hs : zkq capt) (hc : ∀ e ∈ l,zaj Try.prog f (eE e :: capt) [] (.B (q e)) []) :
  zaj Try.prog zaI [.rs 0 0 n,.fn (.func f) [] capt] [⟨3,zbE l,0⟩] (.rs 0 0 m) [some ⟨3,zbE (l.filter fun e=>!q e) ++ List.replicate (n - m) [.I 0,.I 0,.I 0],0⟩]:=by
 have hs2 : ∀ ρ sn h,capt.map (conv ρ sn h 2) = capt:=fun _ _ _=>hs _ _ _ 1
 have hs3 : ∀ ρ sn h,capt.map (conv ρ sn h 3) = capt:=fun _ _ _=>hs _ _ _ 2
 have hs4 : ∀ ρ sn h,capt.map (conv ρ sn h 4) = capt:=fun _ _ _=>hs _ _ _ 3
 refine zbL.acalls (nbz rfl) (nbz rfl) (nbz rfl) ?_
 show awp _ 1 _ _ ⟨42,[(0,.rs 0 0 n),(1,.fn (.func f) [] capt)],[(0,some ⟨3,zbE l,0⟩)],16⟩
 have hmn : m ≤ n:=by rw [← hm,← hn]; exact List.length_filter_le _ _
 refine zab ⟨42,[(0,.rs 0 0 n),(1,.fn (.func f) [] capt)],[(0,some ⟨3,zbE l,0⟩)],24⟩ rfl ?_ ?_
 ·simp
  exact Le.keep rfl (Nat.le_refl _) (by simp) (by simp)
 refine zab ⟨42,[(0,.rs 0 0 n),(1,.fn (.func f) [] capt),(5,.I (idxQ l q))],[(0,some ⟨3,zbE l,0⟩)],56⟩ rfl ?_ ?_
 ·simp
  refine zmC [0] (zjJ f capt q l (by omega) hs hc) ?_ (.sc _) ?_
  ·simp [hs2,hs3,hs4,← hn,fcd,zaD]
  simp
  exact Le.keep rfl (Nat.le_refl _) (by simp) (by simp)
 refine zaa ?_
 refine zab ⟨42,[(0,.rs 0 0 n),(1,.fn (.func f) [] capt),(5,.I (idxQ l q)),(12,.B (decide (idxQ l q = -1)))],[(0,some ⟨3,zbE l,0⟩)],72⟩ rfl ?_ ?_
 ·simp
  exact Le.keep rfl (Nat.le_refl _) (by simp <;> rw [Bool.eq_iff_iff] <;> simp) (by simp)
 refine zad _ rfl (fun h=>?_) fun h=>zae ?_
 ·simp only [decide_eq_true_eq] at h
  have hno : ∀ i,i < l.length → ∀ h : i < l.length,q l[i] = false:=by
   intro i hi _
   unfold idxQ at h
   split at h
   ·omega
   ·rename_i hnl
    have : l.findIdx q = l.length:=by have:=List.findIdx_le_length (xs:=l) (p:=q); omega
    rw [List.findIdx_eq_length] at this
    exact this _ (List.getElem_mem hi)
  have hf:=zfQ hno
  rw [hf] at hm ⊢
  obtain rfl : n = m:=by omega
  refine zaa ?_
  refine zac (s:=?s1) rfl ?o1 ?q1
  case o1=>simp; rfl
  refine zag ?_
  refine ⟨.inr rfl,⟨[.rs 0 0 n],rfl,[],[],by simp [List.range,List.range.loop],by simp,by simp,?_,?_⟩⟩
  ·simp [List.range,List.range.loop]
  ·simp [List.range,List.range.loop,fcd]
 simp only [decide_eq_false_iff_not] at h
 obtain ⟨i0,hi0,hlt,hbef,hat⟩ : ∃ i0 : Nat,idxQ l q = i0 ∧ i0 < l.length ∧ (∀ i,i < i0 → ∀ h : i < l.length,q l[i] = false) ∧ ∀ h : i0 < l.length,q l[i0] = true:=by
  unfold idxQ at h ⊢
  split at h
  ·rename_i hlt
   refine ⟨l.findIdx q,by rw [if_pos hlt],hlt,fun i hi _=>?_,fun h=>List.findIdx_getElem (w:=h)⟩
   simpa using List.not_of_lt_findIdx hi
  ·omega
 rw [hi0]
 have hA0 : (l.take (i0 + 1)).filter (fun e=>!q e) = l.take i0:=by
  rw [zed l q i0 hlt,if_pos (hat hlt),List.append_nil]
  refine zfQ fun i hi h=>?_
  rw [List.length_take] at hi
  simp only [List.getElem_take]
  exact hbef i (by omega) (by omega)
 have hw0 : IntKind.i64.wrap ((i0 : Int) + 1) = ((i0 + 1 : Nat) : Int):=by rw [w64 (by omega) (by omega)]; omega
 let C : Nat × List Ed → St:=fun p=>⟨42,[(0,.rs 0 0 n),(1,.fn (.func f) [] capt),(5,.I ((l.take p.1).filter fun e=>!q e).length),(6,.I p.1)],[(0,some ⟨3,zbE ((l.take p.1).filter (fun e=>!q e) ++ p.2 ++ l.drop p.1),0⟩)],96⟩
 refine zaa ?_
 refine zab (C (i0 + 1,[l[i0]])) rfl ?_ ?_
 ·simp [hw0]
  refine Le.keep rfl (Nat.le_refl _) ?_ ?_
  ·simp only [C,hA0]
   simp
   omega
  ·simp only [C,hA0]
   simp
 refine zaf ?_
 refine zap C (fun p : Nat × List Ed=>p.1 ≤ n ∧ p.2 ≠ [] ∧ ((l.take p.1).filter fun e=>!q e).length + p.2.length = p.1) (fun p : Nat × List Ed=>n - p.1) (i0 + 1,[l[i0]]) ?_ (Le.refl _ _) ?_
 ·simp only [hA0]
  simp
  omega
 rintro ⟨j,M⟩ ⟨hj,hM,hlen⟩
 simp only at hj hM hlen ⊢
 obtain ⟨A,hA⟩ : ∃ A,A = (l.take j).filter fun e=>!q e:=⟨_,rfl⟩
 rw [← hA] at hlen
 have hC : C (j,M) = ⟨42,[(0,.rs 0 0 n),(1,.fn (.func f) [] capt),(5,.I A.length),(6,.I j)],[(0,some ⟨3,zbE (A ++ M ++ l.drop j),0⟩)],96⟩:=by subst hA; rfl
 rw [hC]
 refine zaa ?_
 refine zab ⟨42,[(0,.rs 0 0 n),(1,.fn (.func f) [] capt),(5,.I A.length),(6,.I j),(19,.B (decide (j < n)))],[(0,some ⟨3,zbE (A ++ M ++ l.drop j),0⟩)],128⟩ rfl ?_ ?_
 ·simp
  exact Le.keep rfl (Nat.le_refl _) (by simp) (by simp)
 refine zad _ rfl (fun h=>zae ?_) fun h=>zal (hit ?_)
 ·simp only [decide_eq_true_eq] at h
  have hjl : j < l.length:=by omega
  match M,hM,hlen with
  | m0 :: M1,_,hlen =>
  simp only [List.length_cons] at hlen
  have hnext:=zed l q j hjl
  rw [← hA] at hnext
  have hget : (zbE (A ++ m0 :: M1 ++ l.drop j))[j]? = some [AV.I l[j].f,AV.I l[j].t,AV.I l[j].v]:=by
   rw [List.getElem?_map,List.getElem?_append_right (by simp; omega),List.getElem?_drop,show j + (j - (A ++ m0 :: M1).length) = j by simp; omega,List.getElem?_eq_getElem hjl]
   rfl
  have hget2 : (zbE (A ++ m0 :: M1 ++ l.drop j))[A.length]? = some [AV.I m0.f,AV.I m0.t,AV.I m0.v]:=by
   rw [List.getElem?_map,List.append_assoc,List.getElem?_append_right (by omega)]
   simp
  have hset : (zbE (A ++ m0 :: M1 ++ l.drop j)).set A.length [AV.I l[j].f,AV.I l[j].t,AV.I l[j].v] = zbE ((A ++ [l[j]]) ++ (M1 ++ [l[j]]) ++ l.drop (j + 1)):=by
   have e1 : l.drop j = l[j] :: l.drop (j + 1):=List.drop_eq_getElem_cons hjl
   rw [e1]
   simp [zbE,List.set_append]
  have hmore : A ++ m0 :: M1 ++ l.drop j = A ++ (m0 :: M1 ++ [l[j]]) ++ l.drop (j + 1):=by
   have e1 : l.drop j = l[j] :: l.drop (j + 1):=List.drop_eq_getElem_cons hjl
   rw [e1]
   simp
  generalize hrows : zbE (A ++ m0 :: M1 ++ l.drop j) = R at *
  have hRl : R.length = n:=by rw [← hrows]; simp; omega
  have hck:=hc l[j] (List.getElem_mem hjl)
  generalize hv : l[j] = v at *
  refine zaw (ι:=List Ed × List Ed) (fun p=>⟨42,[(0,.rs 0 0 n),(1,.fn (.func f) [] capt),(5,.I p.1.length),(6,.I j)],[(0,some ⟨3,zbE (p.1 ++ p.2 ++ l.drop (j + 1)),0⟩)],272⟩)
   (fun p=>p.1 = (l.take (j + 1)).filter (fun e=>!q e) ∧ p.2 ≠ [] ∧ p.1.length + p.2.length = j + 1) ?_ ?_
  ·refine zaf ?_
   refine zab ⟨42,[(0,.rs 0 0 n),(1,.fn (.func f) [] capt),(5,.I A.length),(6,.I j),(7,.pt 160 0 0)],[(0,some ⟨3,R,0⟩),(160,some ⟨3,[[.I v.f,.I v.t,.I v.v]],0⟩)],176⟩ rfl ?_ ?_
   ·simp [h,hget]
    exact Le.keep rfl (Nat.le_refl _) (by simp) (by simp)
   refine zab ⟨42,[(0,.rs 0 0 n),(1,.fn (.func f) [] capt),(5,.I A.length),(6,.I j),(7,.pt 160 0 0),(29,.B (!q v))],[(0,some ⟨3,R,0⟩),(160,some ⟨3,[[.I v.f,.I v.t,.I v.v]],0⟩)],208⟩ rfl ?_ ?_
   ·simp
    refine zan hck ?_ ?_
    ·simp [hs2,hs3,hs4]
    simp
    exact Le.keep rfl (Nat.le_refl _) (by simp) (by simp)
   refine zad _ rfl (fun h5=>?_) fun h5=>zae ?_
   ·simp only [Bool.not_eq_true'] at h5
    rw [h5] at hnext
    refine zab ⟨42,[(0,.rs 0 0 n),(1,.fn (.func f) [] capt),(5,.I A.length),(6,.I j)],[(0,some ⟨3,zbE ((A ++ [v]) ++ (M1 ++ [v]) ++ l.drop (j + 1)),0⟩)],248⟩ rfl ?_ ?_
    ·simp [hget2,show A.length < n by omega,zbJ,hset]
     exact Le.keep rfl (Nat.le_refl _) (by simp) (by simp)
    have hwA : IntKind.i64.wrap ((A.length : Int) + 1) = ((A.length + 1 : Nat) : Int):=by rw [w64 (by omega) (by omega)]; omega
    refine zaC rfl ?_
    simp [hwA]
    refine ⟨A ++ [v],M1 ++ [v],⟨by rw [hnext]; simp,by simp,by simp; omega⟩,Le.keep rfl (Nat.le_refl _) (by simp) (by simp)⟩
   ·simp only [Bool.not_eq_false'] at h5
    rw [h5] at hnext
    refine ⟨(A,m0 :: M1 ++ [v]),⟨by rw [hnext]; simp,by simp,by simp; omega⟩,Le.keep rfl (nbz rfl) (by simp) ?_⟩
    rw [← hmore,hrows]
    simp
  rintro ⟨A',M'⟩ ⟨p1,p2,p3⟩
  simp only at p1 p2 p3 ⊢
  have hwj : IntKind.i64.wrap ((j : Int) + 1) = ((j + 1 : Nat) : Int):=by rw [w64 (by omega) (by omega)]; omega
  refine zaC rfl ?_
  simp [hwj]
  refine ⟨j + 1,M',⟨by omega,p2,by rw [← p1]; omega⟩,by omega,?_⟩
  have hD : C (j + 1,M') = ⟨42,[(0,.rs 0 0 n),(1,.fn (.func f) [] capt),(5,.I A'.length),(6,.I ((j + 1 : Nat) : Int))],[(0,some ⟨3,zbE (A' ++ M' ++ l.drop (j + 1)),0⟩)],96⟩:=by rw [p1]
  rw [hD]
  refine Le.ents [(0,0)] [] rfl (by simp) (by simp) (by simp) (by simp) (by simp) (by simp [hs2,hs3,hs4]) fun p hp=>?_
  simp at hp
  subst hp
  exact ⟨0,_,_,rfl,by simp,rfl,zaH.eq (by simp [fcd]) (by simp)⟩
 simp only [decide_eq_false_iff_not] at h
 obtain rfl : j = n:=by omega
 have hd : l.drop j = []:=List.drop_eq_nil_of_le (by omega)
 have ht : l.take j = l:=List.take_of_length_le (by omega)
 rw [ht] at hA
 rw [hd,List.append_nil]
 rw [← hA] at hm ⊢
 subst hm
 have hAM : (zbE (A ++ M)).take A.length = zbE A:=by simp [zbE]
 have hAd : (zbE (A ++ M)).drop (A.length + (j - A.length)) = []:=List.drop_eq_nil_of_le (by simp; omega)
 have hAl : (zbE (A ++ M)).length = j:=by simp; omega
 generalize zbE (A ++ M) = R at *
 refine zab ⟨42,[(0,.rs 0 0 j),(5,.I A.length)],[(0,some ⟨3,zbE A ++ List.replicate (j - A.length) [.I 0,.I 0,.I 0],0⟩)],160⟩ rfl ?_ ?_
 ·simp
  refine ⟨by omega,by omega,?_⟩
  rw [hAM,hAd]
  exact Le.keep rfl (Nat.le_refl _) (by simp) (by simp)
 refine zaa ?_
 refine zac (s:=?s2) rfl ?o2 ?q2
 case o2 =>
  simp
  refine ⟨by omega,?_⟩
  rfl
 refine zag ?_
 refine ⟨.inr rfl,⟨[.rs 0 0 A.length],rfl,[],[],by simp [List.range,List.range.loop],by simp,by simp,?_,?_⟩⟩
 ·simp [List.range,List.range.loop]
 ·simp [List.range,List.range.loop,fcd]
def zam (g : Gr) (v : Int) : Gr:=⟨g.size,g.edges.filter fun e=>!decide (e.v < v),g.gone⟩
theorem zgi (e : Ed) (v : Int) : zaj Try.prog zcc [eE e,.pv [.I v]] [] (.B (decide (e.v < v))) []:=by
 refine zhZ.acalls (nbz rfl) (nbz rfl) (Nat.le_refl _) ?_
 show awp _ 0 _ _ ⟨8,[(0,eE e),(1,.pv [.I v])],[],16⟩
 refine zab ⟨8,[(1,.pv [.I v]),(2,.pv (eC e))],[],16⟩ rfl ?_ ?_
 ·simp
  exact Le.snap [16] rfl rfl (by simp)
 refine zaa ?_
 refine zac (s:=?s1) rfl ?o1 ?q1
 case o1=>simp; rfl
 refine zag ?_
 exact ⟨.inr rfl,zao.one (by simp)⟩
set_option maxRecDepth 100000 in
theorem ziu (g : Gr) (v : Int) (hl : g.edges.length ≤ 1099511627776) (hl2 : g.gone.length ≤ 1099511627776) : zaj Try.prog zeu [eG g,.I v] [] (eG (zam g v)) []:=by
 refine zks.acalls (nbz rfl) (nbz rfl) (Nat.le_refl _) ?_
 show awp _ 0 _ _ ⟨14,[(0,eG g),(1,.I v)],[],16⟩
 obtain ⟨E,hE⟩ : ∃ E,E = g.edges.filter fun e=>!decide (e.v < v):=⟨_,rfl⟩
 have hEl : E.length ≤ g.edges.length:=by rw [hE]; exact List.length_filter_le _ _
 have hdel:=zis zcc [.pv [.I v]] (fun e=>decide (e.v < v)) g.edges g.edges.length E.length rfl (by rw [hE]) hl (fun ρ sn h n=>by simp) (fun e _=>zgi e v)
 rw [← hE] at hdel
 have hres : zam g v = ⟨g.size,E,g.gone⟩:=by rw [hE]; rfl
 rw [hres]
 refine zab ⟨14,[(2,.pv (gC g)),(3,.pt 24 0 0),(4,.pt 32 0 0)],[(24,some ⟨1,[[.I v]],0⟩),(32,some zG)],40⟩ rfl ?_ ?_
 ·simp
  refine Le.ents [(24,24),(32,32)] [16] rfl (by simp) (by simp) (by simp) (by simp) (by simp) (by simp) fun p hp=>?_
  simp at hp
  rcases hp with rfl | rfl
  ·exact ⟨24,_,_,rfl,by simp,rfl,zaH.eq (by simp) (by simp)⟩
  ·exact ⟨32,_,_,rfl,by simp,rfl,zaH.eq (by simp) (by simp)⟩
 refine zab ⟨14,[(3,.pt 24 0 0),(4,.pt 32 0 0),(5,.pt 56 0 0)],[(24,some ⟨1,[[.I v]],0⟩),(32,some zG),(56,some ⟨3,[[.I g.size,.rs 48 0 g.edges.length,.rs 49 0 g.gone.length]],0⟩),(48,some ⟨3,zbE g.edges,0⟩),(49,some ⟨1,g.gone.map fun n=>[AV.I n],0⟩)],72⟩ rfl ?_ ?_
 ·simp
  refine zmk (zg5 g (by omega) (by omega)) rfl ?_
  simp [fcd]
  exact Le.keep rfl (Nat.le_refl _) (by simp) (by simp)
 refine zab ⟨14,[(4,.pt 32 0 0),(5,.pt 56 0 0)],[(32,some zG),(56,some ⟨3,[[.I g.size,.rs 48 0 E.length,.rs 49 0 g.gone.length]],0⟩),(48,some ⟨3,zbE E ++ List.replicate (g.edges.length - E.length) [.I 0,.I 0,.I 0],0⟩),(49,some ⟨1,g.gone.map fun n=>[AV.I n],0⟩)],120⟩ rfl ?_ ?_
 ·simp
  refine zlL (i:=48) (j:=24) (by decide) (Nat.zero_le _) rfl rfl ?_ hdel (by simp) ?_ ?_
  ·simp [fcd]
  ·simp
  simp [fcd]
  exact Le.keep rfl (Nat.le_refl _) (by simp) (by simp)
 refine zaa ?_
 refine zac (s:=?s21) rfl ?o21 ?q21
 case o21=>simp; rfl
 refine zag ?_
 refine ⟨.inr rfl,?_⟩
 show zao [(4,some (true,3))] 0 _ _ _
 refine zao.out (vs:=[.agg [.I g.size,.rs 48 0 E.length,.rs 49 0 g.gone.length]]) [] [48,49] (by simp) (by simp) (by simp) ?_ (by simp)
 simp [fcd,zaD]
theorem zkK (l : List Ed) (v : Int) (k : Nat) (h : k < l.length) : (l.take (k + 1)).filter (fun e=>!decide (e.v < v)) = (l.take k).filter (fun e=>!decide (e.v < v)) ++ if v ≤ l[k].v then [l[k]] else []:=by
 rw [← List.take_concat_get h,List.concat_eq_append,List.filter_append]
 congr 1
 by_cases hq : v ≤ l[k].v
 ·have : ¬ l[k].v < v:=by omega
  simp [hq,this]
 ·have : l[k].v < v:=by omega
  simp [hq,this]
set_option maxRecDepth 100000 in
theorem zdp (g : Gr) (v : Int) (hl : g.edges.length ≤ 1099511627776) (hl2 : g.gone.length ≤ 1099511627776) : zaj Try.prog zcE [eG g,.I v] [] (eG (zam g v)) []:=by
 refine zkb.acalls (nbz rfl) (nbz rfl) (Nat.le_refl _) ?_
 show awp _ 0 _ _ ⟨36,[(0,eG g),(1,.I v)],[],16⟩
 refine zab ⟨36,[(1,.I v),(2,.pv (gC g)),(4,.pt 24 0 0)],[(24,some zG)],32⟩ rfl ?_ ?_
 ·simp
  refine Le.ents [(24,24)] [16] rfl (by simp) (by simp) (by simp) (by simp) (by simp) (by simp) fun p hp=>?_
  simp at hp
  subst hp
  exact ⟨24,_,_,rfl,by simp,rfl,zaH.eq (by simp) (by simp)⟩
 refine zab ⟨36,[(1,.I v),(2,.pv (gC g)),(4,.pt 24 0 0),(5,.pt 48 0 0)],[(24,some zG),(48,some ⟨3,[[.I g.size,.rs 40 0 g.edges.length,.rs 41 0 g.gone.length]],0⟩),(40,some ⟨3,zbE g.edges,0⟩),(41,some ⟨1,g.gone.map fun n=>[AV.I n],0⟩)],64⟩ rfl ?_ ?_
 ·simp
  refine zmk (zdY g (by omega) (by omega)) rfl ?_
  simp [fcd]
  exact Le.keep rfl (Nat.le_refl _) (by simp) (by simp)
 refine zab ⟨36,[(1,.I v),(2,.pv (gC g)),(4,.pt 24 0 0),(5,.pt 48 0 0)],[(24,some zG),(48,some ⟨3,[[.I g.size,.nilS,ints g.gone]],0⟩)],80⟩ rfl ?_ ?_
 ·simp
  refine Le.ents [(24,24),(48,48)] [41] rfl (by simp) (by simp) (by simp) (by simp) (by simp) (by simp) fun p hp=>?_
  simp at hp
  rcases hp with rfl | rfl
  ·exact ⟨24,_,_,rfl,by simp,rfl,zaH.eq (by simp) (by simp)⟩
  ·exact ⟨48,_,_,rfl,by simp,rfl,zaH.eq (by simp [zbJ,fcd,zaD]) (by simp)⟩
 refine zaa ?_
 refine zab ⟨36,[(1,.I v),(2,.pv (gC g)),(4,.pt 24 0 0),(5,.pt 48 0 0),(6,.I 0)],[(24,some zG),(48,some ⟨3,[[.I g.size,.nilS,ints g.gone]],0⟩)],88⟩ rfl ?_ ?_
 ·simp
  exact Le.keep rfl (Nat.le_refl _) (by simp) (by simp)
 refine zaf ?_
 let F : Nat → List Ed:=fun k=>(g.edges.take k).filter fun e=>!decide (e.v < v)
 let C : Nat → St:=fun k=>⟨36,[(1,.I v),(2,.pv (gC g)),(4,.pt 24 0 0),(5,.pt 48 0 0),(6,.I k)],[(24,some zG),(48,some ⟨3,[[.I g.size,.rs 16 0 (F k).length,ints g.gone]],0⟩),(16,some ⟨3,zbE (F k),0⟩)],88⟩
 refine zap C (fun k=>k ≤ g.edges.length) (fun k=>g.edges.length - k) 0 (Nat.zero_le _) ?_ ?_
 ·refine Le.lst [(24,24),(48,48)] [] [(16,3)] rfl (by simp) (by simp) (by simp [C]) (by simp [C]) (by simp) (by simp) (by simp) (by simp [C,Up]) fun p hp e' he'=>?_
  simp [C] at hp
  rcases hp with rfl | rfl | rfl
  ·cases he'
   exact .inl ⟨(24,24),by simp,rfl,_,rfl,zaH.eq (by simp) (by simp)⟩
  ·cases he'
   refine .inl ⟨(48,48),by simp,rfl,_,rfl,zaH.row (by simp; rfl) (by simp) ?_⟩
   exact ⟨.inl (.refl _),.inr ⟨rfl,16,3,by simp [F],by simp⟩,.inl (.refl _),trivial⟩
  ·cases he'
   exact .inr ⟨by simp,by simp [F],rfl⟩
 intro k hk
 have hFl : (F k).length ≤ k:=by
  have h1 : (F k).length ≤ (g.edges.take k).length:=List.length_filter_le _ _
  simp at h1
  omega
 have hC : C k = ⟨36,[(1,.I v),(2,.pv (gC g)),(4,.pt 24 0 0),(5,.pt 48 0 0),(6,.I k)],[(24,some zG),(48,some ⟨3,[[.I g.size,.rs 16 0 (F k).length,ints g.gone]],0⟩),(16,some ⟨3,zbE (F k),0⟩)],88⟩:=rfl
 rw [hC]
 refine zaa ?_
 refine zab ⟨36,[(1,.I v),(2,.pv (gC g)),(4,.pt 24 0 0),(5,.pt 48 0 0),(6,.I k),(14,.B (decide (k < g.edges.length)))],[(24,some zG),(48,some ⟨3,[[.I g.size,.rs 16 0 (F k).length,ints g.gone]],0⟩),(16,some ⟨3,zbE (F k),0⟩)],128⟩ rfl ?_ ?_
 ·simp
  exact Le.keep rfl (Nat.le_refl _) (by simp) (by simp)
 refine zad _ rfl (fun h=>zae ?_) fun h=>zal (hit ?_)
 ·simp only [decide_eq_true_eq] at h
  have hnext:=zkK g.edges v k h
  have hFs : F (k + 1) = F k ++ if v ≤ g.edges[k].v then [g.edges[k]] else []:=hnext
  refine zaw (ι:=Unit) (fun _=>⟨36,[(1,.I v),(2,.pv (gC g)),(4,.pt 24 0 0),(5,.pt 48 0 0),(6,.I k)],[(24,some zG),(48,some ⟨3,[[.I g.size,.rs 16 0 (F (k + 1)).length,ints g.gone]],0⟩),(16,some ⟨3,zbE (F (k + 1)),0⟩)],280⟩) (fun _=>True) ?_ fun _ _=>?_
  ·rw [hFs]
   generalize F k = A at *
   refine zaf ?_
   refine zab ⟨36,[(1,.I v),(2,.pv (gC g)),(4,.pt 24 0 0),(5,.pt 48 0 0),(6,.I k),(24,.B (decide (v ≤ g.edges[k].v)))],[(24,some zG),(48,some ⟨3,[[.I g.size,.rs 16 0 A.length,ints g.gone]],0⟩),(16,some ⟨3,zbE A,0⟩)],192⟩ rfl ?_ ?_
   ·simp [h]
    exact Le.keep rfl (Nat.le_refl _) (by simp) (by simp)
   refine zad _ rfl (fun h5=>?_) fun h5=>zae ?_
   ·simp only [decide_eq_true_eq] at h5
    rw [if_pos h5]
    refine zc3 rfl ?_
    have hrl : (zbE A).length = A.length:=by simp
    simp [h,zbJ,List.replicate]
    refine ⟨by omega,by omega,rfl,?_⟩
    refine Le.ents [(24,24),(48,48),(256,16)] [] rfl (by simp) (by simp) (by simp) (by simp) (by simp) (by simp) fun p hp=>?_
    simp at hp
    rcases hp with rfl | rfl | rfl
    ·exact ⟨24,_,_,rfl,by simp,rfl,zaH.eq (by simp) (by simp)⟩
    ·exact ⟨48,_,_,rfl,by simp,rfl,zaH.eq (by simp) (by simp)⟩
    ·exact ⟨256,_,_,rfl,by simp,rfl,zaH.eq (by simp [fcd,zaD]) (by simp)⟩
   ·simp only [decide_eq_false_iff_not] at h5
    rw [if_neg h5,List.append_nil]
    exact ⟨(),trivial,Le.keep rfl (nbz rfl) (by simp) (by simp)⟩
  have hwj : IntKind.i64.wrap ((k : Int) + 1) = ((k + 1 : Nat) : Int):=by rw [w64 (by omega) (by omega)]; omega
  refine zaC rfl ?_
  simp [hwj]
  refine ⟨k + 1,by omega,by omega,?_⟩
  refine Le.ents [(24,24),(48,48),(16,16)] [] rfl (by simp) (by simp) (by simp [C]) (by simp) (by simp [C]) (by simp [C]) fun p hp=>?_
  simp [C] at hp
  rcases hp with rfl | rfl | rfl
  ·exact ⟨24,_,_,rfl,by simp,rfl,zaH.eq (by simp) (by simp)⟩
  ·exact ⟨48,_,_,rfl,by simp,rfl,zaH.eq (by simp) (by simp)⟩
  ·exact ⟨16,_,_,rfl,by simp,rfl,zaH.eq (by simp [fcd]) (by simp)⟩
 simp only [decide_eq_false_iff_not] at h
 obtain rfl : k = g.edges.length:=by omega
 have hF : F g.edges.length = (zam g v).edges:=by
  show (g.edges.take g.edges.length).filter _ = _
  rw [List.take_of_length_le (Nat.le_refl _)]
  rfl
 rw [hF]
 have hres : zam g v = ⟨g.size,(zam g v).edges,g.gone⟩:=rfl
 rw [hres]
 generalize (zam g v).edges = E at *
 refine zaa ?_
 refine zac (s:=?s21) rfl ?o21 ?q21
 case o21=>simp; rfl
 refine zag ?_
 refine ⟨.inr rfl,?_⟩
 show zao [(4,some (true,3))] 0 _ _ _
 refine zao.out (vs:=[.agg [.I g.size,.rs 16 0 E.length,ints g.gone]]) [] [16] (by simp) (by simp) (by simp) ?_ (by simp)
 simp [fcd,zaD]
end Go.Proofs.Ytfdbhehkkobfgaa
