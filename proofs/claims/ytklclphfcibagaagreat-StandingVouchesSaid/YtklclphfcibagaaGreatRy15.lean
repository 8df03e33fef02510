/- Texts of this claim,merged. -/
import Derived.Test.YtklclphfcibagaaGreatRy14
import Derived.Test.YtklclphfcibagaaGreatRy13
import Derived.Test.YtklclphfcibagaaGreatRy9
set_option linter.unusedSimpArgs false
set_option linter.unusedVariables false
set_option linter.unusedSectionVars false
namespace Go.Proofs.YtklclphfcibagaaGreat
open Go
set_option maxRecDepth 100000
def tblC : List (FuncId × AFun):=[(zcg,zhc),(zfo,zkS),(zeo,zi2),(zcQ,zkY),(zdS,zfe),(zek,zfQ),(zcG,zgm),(zcI,zfD),(zdk,zes),(zdq,zeK),(zdD,zg3),(zfq,ziA),(zdO,ze6),(zcp,ze2),(zaN,zgT)]
theorem srcC : ∀ q ∈ tblC,Src Tryz.prog q.1 q.2:=zaf zk5 (zaf zom (zaf zlY (zaf znT (zaf zgX (zaf zh4 (zaf zjs (zaf zh8 (zaf zgc (zaf zgB (zaf zkL (zaf zlU (zaf zgV (zaf zg0 (zaf zlk zaT))))))))))))))
def tblA : List (FuncId × AFun):=[(zaY,zhG),(zc0,zd4),(zdV,ze9),(zb7,zdP),(za5,zbq),(za0,zbW),(zaZ,zcA),(zbE,zcc),(zeL,zg8),(zdQ,zfb),(zaK,zbb),(zaH,zbl),(za9,zbw),(zaA,zbo),(za8,zbv),(zaM,za1),(za2,zc1),(zc5,zfH),(zeX,zgz),(zhT,zkp),(zbe,zbS),(zap,zbC),(zeW,zgC),(zeb,zfM),(zaR,zk6)]
theorem srcA : ∀ q ∈ tblA,Src Tryz.prog q.1 q.2:=zaf zih (zaf zfW (zaf zgZ (zaf zdR (zaf zb9 (zaf zcK (zaf zbY (zaf zdc (zaf zkU (zaf zgU (zaf zbG (zaf zbV (zaf zca (zaf zb3 (zaf zcb (zaf zbn (zaf zcV (zaf zfL (zaf zjw (zaf zoh (zaf zbT (zaf zbA (zaf zjq (zaf zhC (zaf znV zaT))))))))))))))))))))))))
def tblT : List (FuncId × AFun):=[(zeA,zhx),(zgH,ziz),(zej,zfP),(zaY,zhG),(zbB,zfN),(zbe,zbS),(zap,zbC),(zdK,zhn),(zb7,zdP),(za2,zc1),(zc5,zfH),(zcq,zfa),(zdY,zge),(zbP,zer),(zea,zfV),(zar,zfd)]
theorem srcT : ∀ q ∈ tblT,Src Tryz.prog q.1 q.2:=zaf zks (zaf zlC (zaf zh2 (zaf zih (zaf zfG (zaf zbT (zaf zbA (zaf zg2 (zaf zdR (zaf zcV (zaf zfL (zaf ze4 (zaf zgD (zaf zeq (zaf zig (zaf zgY zaT)))))))))))))))
abbrev sl0 : AV:=.vs 13 false [rw5]
abbrev sl1 : AV:=.vs 13 false [rw0,rw6]
abbrev sl2 : AV:=.vs 13 false [rw0,rw1,rw7]
abbrev sl3 : AV:=.vs 13 false [rw0,rw1,rw2,rw8]
abbrev sl4 : AV:=.vs 13 false [rw0,rw1,rw2,rw3,rw9]
abbrev sl5 : AV:=.vs 13 false [rw0,rw1,rw2,rw3,rw4,rw10]
abbrev fC0 : Fct:=⟨zaN,[.agg [sl0]],.rs 0 0 1,[some ⟨13,[(sR 0 ⟨#[]⟩ dg5 4 1 90 (.rs 1 0 0) (.rs 2 0 0))],0⟩,some ⟨1,[],0⟩,some ⟨3,[],0⟩]⟩
theorem zmc : fC0.Ok Tryz.prog:=zav (zaa zvg zae) srcC (by kernel_rfl : evN spV (zam [fV5]) tblC 1000 40 zaN [.agg [sl0]] [] = some (.rs 0 0 1,[some ⟨13,[(sR 0 ⟨#[]⟩ dg5 4 1 90 (.rs 1 0 0) (.rs 2 0 0))],0⟩,some ⟨1,[],0⟩,some ⟨3,[],0⟩]))
abbrev fC1 : Fct:=⟨zaN,[.agg [sl1]],.rs 0 0 2,[some ⟨13,[(sR 0 ⟨#[]⟩ dg0 5 2 15 (.rs 1 0 0) (.rs 2 0 0)),(sR 1 dg0 dg6 4 1 90 (.rs 3 0 0) (.rs 4 0 0))],0⟩,some ⟨1,[],0⟩,some ⟨3,[],0⟩,some ⟨1,[],0⟩,some ⟨3,[],0⟩]⟩
theorem zlI : fC1.Ok Tryz.prog:=zav (zaa zeI (zaa zvl zae)) srcC (by kernel_rfl : evN spV (zam [fV0,fV6]) tblC 1000 40 zaN [.agg [sl1]] [] = some (.rs 0 0 2,[some ⟨13,[(sR 0 ⟨#[]⟩ dg0 5 2 15 (.rs 1 0 0) (.rs 2 0 0)),(sR 1 dg0 dg6 4 1 90 (.rs 3 0 0) (.rs 4 0 0))],0⟩,some ⟨1,[],0⟩,some ⟨3,[],0⟩,some ⟨1,[],0⟩,some ⟨3,[],0⟩]))
abbrev fC2 : Fct:=⟨zaN,[.agg [sl2]],.rs 0 0 3,[some ⟨13,[(sR 0 ⟨#[]⟩ dg0 5 2 15 (.rs 1 0 0) (.rs 2 0 0)),(sR 1 dg0 dg1 6 3 15 (.rs 3 0 0) (.rs 4 0 0)),(sR 2 dg1 dg7 4 1 90 (.rs 5 0 0) (.rs 6 0 0))],0⟩,some ⟨1,[],0⟩,some ⟨3,[],0⟩,some ⟨1,[],0⟩,some ⟨3,[],0⟩,some ⟨1,[],0⟩,some ⟨3,[],0⟩]⟩
theorem zmi : fC2.Ok Tryz.prog:=zav (zaa zeI (zaa zfY (zaa zvw zae))) srcC (by kernel_rfl : evN spV (zam [fV0,fV1,fV7]) tblC 1000 40 zaN [.agg [sl2]] [] = some (.rs 0 0 3,[some ⟨13,[(sR 0 ⟨#[]⟩ dg0 5 2 15 (.rs 1 0 0) (.rs 2 0 0)),(sR 1 dg0 dg1 6 3 15 (.rs 3 0 0) (.rs 4 0 0)),(sR 2 dg1 dg7 4 1 90 (.rs 5 0 0) (.rs 6 0 0))],0⟩,some ⟨1,[],0⟩,some ⟨3,[],0⟩,some ⟨1,[],0⟩,some ⟨3,[],0⟩,some ⟨1,[],0⟩,some ⟨3,[],0⟩]))
abbrev fC3 : Fct:=⟨zaN,[.agg [sl3]],.rs 0 0 4,[some ⟨13,[rw0,rw1,rw2,rw8],0⟩]⟩
theorem zlA : fC3.Ok Tryz.prog:=zav (zaa zeI (zaa zfY (zaa zhS (zaa zvT zae)))) srcC (by kernel_rfl : evN spV (zam [fV0,fV1,fV2,fV8]) tblC 1000 40 zaN [.agg [sl3]] [] = some (.rs 0 0 4,[some ⟨13,[rw0,rw1,rw2,rw8],0⟩]))
abbrev fC4 : Fct:=⟨zaN,[.agg [sl4]],.rs 0 0 5,[some ⟨13,[rw0,rw1,rw2,rw3,rw9],0⟩]⟩
theorem zl5 : fC4.Ok Tryz.prog:=zav (zaa zeI (zaa zfY (zaa zhS (zaa zlZ (zaa zvV zae))))) srcC (by kernel_rfl : evN spV (zam [fV0,fV1,fV2,fV3,fV9]) tblC 1000 40 zaN [.agg [sl4]] [] = some (.rs 0 0 5,[some ⟨13,[rw0,rw1,rw2,rw3,rw9],0⟩]))
abbrev fC5 : Fct:=⟨zaN,[.agg [sl5]],.rs 0 0 6,[some ⟨13,[rw0,rw1,rw2,rw3,rw4,rw10],0⟩]⟩
theorem zlE : fC5.Ok Tryz.prog:=zav (zaa zeI (zaa zfY (zaa zhS (zaa zlZ (zaa zrz (zaa zsX zae)))))) srcC (by kernel_rfl : evN spV (zam [fV0,fV1,fV2,fV3,fV4,fV10]) tblC 1000 40 zaN [.agg [sl5]] [] = some (.rs 0 0 6,[some ⟨13,[rw0,rw1,rw2,rw3,rw4,rw10],0⟩]))
abbrev fA00 : Fct:=⟨zaR,[sl0,.I 10,.I 2],.tup [.agg [.I 64,.nilS,.nilS],.I 0],[]⟩
theorem ziD : fA00.Ok Tryz.prog:=zav zae srcA (by kernel_rfl : evN spV (zam []) tblA 1000 40 zaR [sl0,.I 10,.I 2] [] = some (.tup [.agg [.I 64,.nilS,.nilS],.I 0],[]))
abbrev fA01 : Fct:=⟨zaR,[sl0,.I 20,.I 2],.tup [.agg [.I 64,.nilS,.nilS],.I 0],[]⟩
theorem ziI : fA01.Ok Tryz.prog:=zav zae srcA (by kernel_rfl : evN spV (zam []) tblA 1000 40 zaR [sl0,.I 20,.I 2] [] = some (.tup [.agg [.I 64,.nilS,.nilS],.I 0],[]))
abbrev fA10 : Fct:=⟨zaR,[sl1,.I 10,.I 2],.tup [.agg [.I 64,.rs 0 0 1,.nilS],.I 0],[some ⟨3,[[.I 0,.I 5,.I 2]],0⟩]⟩
theorem ziN : fA10.Ok Tryz.prog:=zav zae srcA (by kernel_rfl : evN spV (zam []) tblA 1000 40 zaR [sl1,.I 10,.I 2] [] = some (.tup [.agg [.I 64,.rs 0 0 1,.nilS],.I 0],[some ⟨3,[[.I 0,.I 5,.I 2]],0⟩]))
abbrev fA11 : Fct:=⟨zaR,[sl1,.I 20,.I 2],.tup [.agg [.I 64,.nilS,.nilS],.I 0],[]⟩
theorem ziV : fA11.Ok Tryz.prog:=zav zae srcA (by kernel_rfl : evN spV (zam []) tblA 1000 40 zaR [sl1,.I 20,.I 2] [] = some (.tup [.agg [.I 64,.nilS,.nilS],.I 0],[]))
abbrev fA20 : Fct:=⟨zaR,[sl2,.I 10,.I 2],.tup [.agg [.I 64,.rs 0 0 2,.nilS],.I 0],[some ⟨3,[[.I 0,.I 5,.I 2],[.I 0,.I 6,.I 3]],0⟩]⟩
theorem ziu : fA20.Ok Tryz.prog:=zav zae srcA (by kernel_rfl : evN spV (zam []) tblA 1000 40 zaR [sl2,.I 10,.I 2] [] = some (.tup [.agg [.I 64,.rs 0 0 2,.nilS],.I 0],[some ⟨3,[[.I 0,.I 5,.I 2],[.I 0,.I 6,.I 3]],0⟩]))
abbrev fA21 : Fct:=⟨zaR,[sl2,.I 20,.I 2],.tup [.agg [.I 64,.nilS,.nilS],.I 0],[]⟩
theorem zi7 : fA21.Ok Tryz.prog:=zav zae srcA (by kernel_rfl : evN spV (zam []) tblA 1000 40 zaR [sl2,.I 20,.I 2] [] = some (.tup [.agg [.I 64,.nilS,.nilS],.I 0],[]))
abbrev fA30 : Fct:=⟨zaR,[sl3,.I 10,.I 2],.tup [.agg [.I 64,.rs 0 0 3,.nilS],.I 0],[some ⟨3,[[.I 0,.I 5,.I 2],[.I 0,.I 6,.I 3],[.I 0,.I 7,.I 2]],0⟩]⟩
theorem ziP : fA30.Ok Tryz.prog:=zav zae srcA (by kernel_rfl : evN spV (zam []) tblA 1000 40 zaR [sl3,.I 10,.I 2] [] = some (.tup [.agg [.I 64,.rs 0 0 3,.nilS],.I 0],[some ⟨3,[[.I 0,.I 5,.I 2],[.I 0,.I 6,.I 3],[.I 0,.I 7,.I 2]],0⟩]))
abbrev fA31 : Fct:=⟨zaR,[sl3,.I 20,.I 2],.tup [.agg [.I 64,.nilS,.nilS],.I 0],[]⟩
theorem ziC : fA31.Ok Tryz.prog:=zav zae srcA (by kernel_rfl : evN spV (zam []) tblA 1000 40 zaR [sl3,.I 20,.I 2] [] = some (.tup [.agg [.I 64,.nilS,.nilS],.I 0],[]))
abbrev fA40 : Fct:=⟨zaR,[sl4,.I 10,.I 2],.tup [.agg [.I 64,.rs 0 0 4,.nilS],.I 0],[some ⟨3,[[.I 0,.I 5,.I 2],[.I 0,.I 6,.I 3],[.I 0,.I 7,.I 2],[.I 0,.I 8,.I 3]],0⟩]⟩
theorem ziJ : fA40.Ok Tryz.prog:=zav zae srcA (by kernel_rfl : evN spV (zam []) tblA 1000 40 zaR [sl4,.I 10,.I 2] [] = some (.tup [.agg [.I 64,.rs 0 0 4,.nilS],.I 0],[some ⟨3,[[.I 0,.I 5,.I 2],[.I 0,.I 6,.I 3],[.I 0,.I 7,.I 2],[.I 0,.I 8,.I 3]],0⟩]))
abbrev fA41 : Fct:=⟨zaR,[sl4,.I 20,.I 2],.tup [.agg [.I 64,.nilS,.nilS],.I 0],[]⟩
theorem zja : fA41.Ok Tryz.prog:=zav zae srcA (by kernel_rfl : evN spV (zam []) tblA 1000 40 zaR [sl4,.I 20,.I 2] [] = some (.tup [.agg [.I 64,.nilS,.nilS],.I 0],[]))
abbrev fA50 : Fct:=⟨zaR,[sl5,.I 10,.I 2],.tup [.agg [.I 64,.rs 0 0 5,.nilS],.I 0],[some ⟨3,[[.I 0,.I 5,.I 2],[.I 0,.I 6,.I 3],[.I 0,.I 7,.I 2],[.I 0,.I 8,.I 3],[.I 0,.I 9,.I 2]],0⟩]⟩
theorem zje : fA50.Ok Tryz.prog:=zav zae srcA (by kernel_rfl : evN spV (zam []) tblA 1000 40 zaR [sl5,.I 10,.I 2] [] = some (.tup [.agg [.I 64,.rs 0 0 5,.nilS],.I 0],[some ⟨3,[[.I 0,.I 5,.I 2],[.I 0,.I 6,.I 3],[.I 0,.I 7,.I 2],[.I 0,.I 8,.I 3],[.I 0,.I 9,.I 2]],0⟩]))
abbrev fA51 : Fct:=⟨zaR,[sl5,.I 20,.I 2],.tup [.agg [.I 64,.nilS,.nilS],.I 0],[]⟩
theorem zjf : fA51.Ok Tryz.prog:=zav zae srcA (by kernel_rfl : evN spV (zam []) tblA 1000 40 zaR [sl5,.I 20,.I 2] [] = some (.tup [.agg [.I 64,.nilS,.nilS],.I 0],[]))
abbrev ru1 : AV:=.agg [.vs 1 false [[.I 0]],.vs 1 false [[.I 0]],.vs 1 false [[.I 1],[.I 1]],.I 2,.I 1,.I 10,.I 0]
abbrev ru2 : AV:=.agg [.vs 1 false [[.I 0]],.vs 1 false [[.I 0]],.vs 1 false [[.I 2],[.I 1]],.I 2,.I 1,.I 10,.I 0]
abbrev ru3 : AV:=.agg [.vs 1 false [[.I 0]],.vs 1 false [[.I 0]],.vs 1 false [[.I 3],[.I 1]],.I 2,.I 1,.I 10,.I 0]
abbrev ru4 : AV:=.agg [.vs 1 false [[.I 0]],.vs 1 false [[.I 0]],.vs 1 false [[.I 4],[.I 1]],.I 2,.I 1,.I 10,.I 0]
abbrev ru5 : AV:=.agg [.vs 1 false [[.I 0]],.vs 1 false [[.I 0]],.vs 1 false [[.I 5],[.I 1]],.I 2,.I 1,.I 10,.I 0]
abbrev ru6 : AV:=.agg [.vs 1 false [[.I 0]],.vs 1 false [[.I 0]],.vs 1 false [[.I 6],[.I 1]],.I 2,.I 1,.I 10,.I 0]
abbrev fT10 : Fct:=⟨zar,[ru1,.I 0],.tup [.I 10,.I 0],[]⟩
theorem zio : fT10.Ok Tryz.prog:=zav zae srcT (by kernel_rfl : evN spV (zam []) tblT 1000 40 zar [ru1,.I 0] [] = some (.tup [.I 10,.I 0],[]))
abbrev fT11 : Fct:=⟨zar,[ru1,.I 1],.tup [.I 20,.I 0],[]⟩
theorem zix : fT11.Ok Tryz.prog:=zav zae srcT (by kernel_rfl : evN spV (zam []) tblT 1000 40 zar [ru1,.I 1] [] = some (.tup [.I 20,.I 0],[]))
abbrev fT20 : Fct:=⟨zar,[ru2,.I 0],.tup [.I 10,.I 0],[]⟩
theorem zjd : fT20.Ok Tryz.prog:=zav zae srcT (by kernel_rfl : evN spV (zam []) tblT 1000 40 zar [ru2,.I 0] [] = some (.tup [.I 10,.I 0],[]))
abbrev fT21 : Fct:=⟨zar,[ru2,.I 1],.tup [.I 20,.I 0],[]⟩
theorem ziO : fT21.Ok Tryz.prog:=zav zae srcT (by kernel_rfl : evN spV (zam []) tblT 1000 40 zar [ru2,.I 1] [] = some (.tup [.I 20,.I 0],[]))
abbrev fT30 : Fct:=⟨zar,[ru3,.I 0],.tup [.I 10,.I 0],[]⟩
theorem ziq : fT30.Ok Tryz.prog:=zav zae srcT (by kernel_rfl : evN spV (zam []) tblT 1000 40 zar [ru3,.I 0] [] = some (.tup [.I 10,.I 0],[]))
abbrev fT31 : Fct:=⟨zar,[ru3,.I 1],.tup [.I 20,.I 0],[]⟩
theorem ziB : fT31.Ok Tryz.prog:=zav zae srcT (by kernel_rfl : evN spV (zam []) tblT 1000 40 zar [ru3,.I 1] [] = some (.tup [.I 20,.I 0],[]))
abbrev fT40 : Fct:=⟨zar,[ru4,.I 0],.tup [.I 10,.I 0],[]⟩
theorem ziy : fT40.Ok Tryz.prog:=zav zae srcT (by kernel_rfl : evN spV (zam []) tblT 1000 40 zar [ru4,.I 0] [] = some (.tup [.I 10,.I 0],[]))
abbrev fT41 : Fct:=⟨zar,[ru4,.I 1],.tup [.I 20,.I 0],[]⟩
theorem zi9 : fT41.Ok Tryz.prog:=zav zae srcT (by kernel_rfl : evN spV (zam []) tblT 1000 40 zar [ru4,.I 1] [] = some (.tup [.I 20,.I 0],[]))
abbrev fT50 : Fct:=⟨zar,[ru5,.I 0],.tup [.I 10,.I 0],[]⟩
theorem ziY : fT50.Ok Tryz.prog:=zav zae srcT (by kernel_rfl : evN spV (zam []) tblT 1000 40 zar [ru5,.I 0] [] = some (.tup [.I 10,.I 0],[]))
abbrev fT51 : Fct:=⟨zar,[ru5,.I 1],.tup [.I 20,.I 0],[]⟩
theorem ziL : fT51.Ok Tryz.prog:=zav zae srcT (by kernel_rfl : evN spV (zam []) tblT 1000 40 zar [ru5,.I 1] [] = some (.tup [.I 20,.I 0],[]))
abbrev fT60 : Fct:=⟨zar,[ru6,.I 0],.tup [.I 10,.I 0],[]⟩
theorem ziE : fT60.Ok Tryz.prog:=zav zae srcT (by kernel_rfl : evN spV (zam []) tblT 1000 40 zar [ru6,.I 0] [] = some (.tup [.I 10,.I 0],[]))
abbrev fT61 : Fct:=⟨zar,[ru6,.I 1],.tup [.I 20,.I 0],[]⟩
theorem ziX : fT61.Ok Tryz.prog:=zav zae srcT (by kernel_rfl : evN spV (zam []) tblT 1000 40 zar [ru6,.I 1] [] = some (.tup [.I 20,.I 0],[]))
section
variable {g : Gr} {p : Pol}
theorem zrl (hg : GrOk g) (hp : zcx g.size p) {a : List Int} (h : ∀ x ∈ a,x ∈ ordL (zas g p.lv) p.seeds) : zcs g p a:=by
 refine ⟨fun x hx=>?_,fun x hx=>?_⟩
 ·have h2:=zgJ (h x hx)
  exact h2
 ·have h2:=(znk (hg.level p.lv)).1 (h x hx)
  exact (ziF hp h2.1.1).2 ⟨h2.1.2,h2.2⟩
theorem zcs.join {a : List Int} (h : zcs g p a) : zcs g p (za3 a):=h.sub fun _ hx=>(zeG.1 hx).1
theorem zqX (hg : GrOk g) (hp : zcx g.size p) : zcs g p (ordL (zas g p.lv) p.seeds):=zrl hg hp fun _ h=>h
end
theorem zp5 (g : Gr) (p : Pol) : ∀ (n : Nat) (o : List Int),o.length = n → (refR g p o).length ≤ n
 | 0,o,h=>by
   obtain rfl:=List.eq_nil_of_length_eq_zero h
   exact Nat.le_refl _
 | n + 1,o,h=>by
   have hne : o ≠ []:=fun e=>by rw [e] at h; cases h
   rw [← List.dropLast_concat_getLast hne]
   have ih:=zp5 g p n o.dropLast (by rw [List.length_dropLast,h]; rfl)
   by_cases hc : zaC g p (za3 (accR g p o.dropLast ++ [o.getLast hne]))
   ·rw [zmD hc]; omega
   ·rw [zpN hc,List.length_append,List.length_singleton]; omega
theorem zsk (N : Nat) (A : List Ed) : (zhQ N A).length ≤ N:=by
 unfold zhQ
 exact Nat.le_trans (List.length_filter_le ..) (by simp)
set_option maxRecDepth 100000 in
set_option maxHeartbeats 8000000 in
theorem zjl (g : Gr) (p : Pol) (hg : GrOk g) (hp : zcx g.size p) (hs : p.seeds.length ≤ 64) (hN : g.size < 20 ∨ (ordL (zas g p.lv) p.seeds).length < 20) :
  ∃ f : List Int,zsp g p (za3 (accR g p (ordL (zas g p.lv) p.seeds))) f ∧
    zao Tryz.prog zaq [eG g,eP p] [] (.tup [eAcc (accR g p (ordL (zas g p.lv) p.seeds)) f (refR g p (ordL (zas g p.lv) p.seeds)),.I 0]) []:=by
 have hsz:=hg.1.1
 have hsz2:=hg.1.2.1
 have hel:=hg.edges_le
 have hgl:=hg.gone_le
 have hchk:=zfh g p (by omega) (by omega) (by omega) (by have:=hp.2.2.2.1; omega)
 rw [if_pos hg,if_pos hp] at hchk
 have hord:=zka g p hg hN (by omega)
 obtain ⟨o,ho⟩ : ∃ o,o = ordL (zas g p.lv) p.seeds:=⟨_,rfl⟩
 have hor : ∀ k ∈ o,0 ≤ k ∧ k < g.size:=fun k hk=>by rw [ho] at hk; have h:=zgJ hk; exact h
 have hon : o.Nodup:=by rw [ho]; exact zem _ _
 rw [← ho] at hord ⊢
 have hol : o.length ≤ 64:=by
  have:=zcm (b:=(List.range g.size.toNat).map fun i : Nat=>(i : Int)) hon fun x hx=>by
   have:=hor x hx
   exact List.mem_map.2 ⟨x.toNat,List.mem_range.2 (by omega),by omega⟩
  simp at this
  omega
 have h64 : ∀ a : List Int,(∀ x ∈ a,0 ≤ x ∧ x < g.size) → ∀ x ∈ a,0 ≤ x ∧ x < 64:=fun a h x hx=>by have:=h x hx; omega
 have hnv : ∀ a : List Int,(∀ x ∈ a,0 ≤ x ∧ x < g.size) → zcF ⟨netN g,netA g p (za3 a)⟩:=fun a h=>zuc hg hp (zwh (znN h)) hs (zn2 a)
 have hserve : ∀ a : List Int,a.Nodup → (∀ x ∈ a,0 ≤ x ∧ x < g.size) → ∃ f,zsp g p (za3 a) f ∧ zao Tryz.prog zdo [eN ⟨netN g,netA g p (za3 a)⟩,.I (a.length : Nat)] [] (.tup [.rs 0 0 (netA g p (za3 a)).length,.B (@decide (zaC g p (za3 a)) (Classical.propDecidable _))]) [some ⟨1,zaj f,0⟩]:=fun a h1 h2=>by
  obtain ⟨f,hf,hc⟩:=zle _ _ (a.length : Nat) (hnv a h2)
  have hmf:=zku hf.1 hf.2
  refine ⟨f,⟨hf.1,hf.2,hmf.symm⟩,?_⟩
  have hjl:=zqk h1 (h64 a h2)
  have : decide (valF (netA g p (za3 a)) f = (a.length : Nat)) = @decide (zaC g p (za3 a)) (Classical.propDecidable _):=by
   rw [decide_eq_decide]
   unfold zaC
   rw [hmf,hjl]
  rw [this] at hc
  exact hc
 have haccn : ∀ i,(accR g p (o.take i)).Nodup:=fun i=>(hon.sublist ((zhL _ _ rfl).trans (List.take_sublist _ _)))
 have haccr : ∀ i,∀ x ∈ accR g p (o.take i),0 ≤ x ∧ x < g.size:=fun i x hx=>hor x (List.mem_of_mem_take (zjZ hx))
 obtain ⟨f,hf,hlast⟩:=hserve (accR g p o) (by have:=haccn o.length; rwa [List.take_length] at this) (by have:=haccr o.length; rwa [List.take_length] at this)
 refine ⟨f,hf,?_⟩
 have hnl:=zfk g p (accR g p o) hg hp (by have:=haccn o.length; rwa [List.take_length] at this) (by have:=haccr o.length; rwa [List.take_length] at this) hs
 have hlf:=hf.ok.fit.len
 refine zpC.ac ?_
 show awp _ 0 _ _ ⟨72,[(0,eG g),(1,eP p)],[],16⟩
 refine rs [2,3,4] [32] [16,24] ?_
 refine zac ?_
 refine rx (s:=?s2) [2,3,4,6] [32] [] rfl ?o2 ?q2
 case o2=>simp; refine zaJ hchk (by simp) ?_; simp; rfl
 refine rs [2,3,4,18] [32] [] ?_
 refine zak _ rfl (fun h=>by cases h) fun _=>?_
 refine zal ?_
 refine zad ⟨72,[(2,.pv (gC g)),(3,.pv (pC p)),(4,.pt 32 0 0),(7,.pt 40 0 0)],[(32,some ⟨3,[[.nilS,.nilS,.nilS]],0⟩),(40,some ⟨3,[[.nilS,.nilS,.nilS]],0⟩)],200⟩ rfl ?_ ?_
 ·simp
  exact LeH [(32,32),(96,40)] []
 refine zac ?_
 refine zad ⟨72,[(2,.pv (gC g)),(3,.pv (pC p)),(4,.pt 32 0 0),(7,.pt 40 0 0),(23,ints o),(24,.I o.length),(25,.I 0)],[(32,some ⟨3,[[.nilS,.nilS,.nilS]],0⟩),(40,some ⟨3,[[.nilS,.nilS,.nilS]],0⟩)],400⟩ rfl ?_ ?_
 ·simp
  refine zcD hord (by simp) ?_
  simp
  exact Le.go [(32,32),(40,40)] [216] rfl rfl (by simp [fcd,zaU]) (by simp)
 refine zai ?_
 have hR0 : refR g p [] = []:=rfl
 refine zaI (ι:=Nat) (fun i=>⟨72,[(2,.pv (gC g)),(3,.pv (pC p)),(4,.pt 32 0 0),(7,.pt 40 0 0),(23,ints o),(24,.I o.length),(25,.I i)],
   [(32,some ⟨3,[[.nilS,.nilS,.nilS]],0⟩),(40,some ⟨3,[[ints (accR g p (o.take i)),.nilS,.rs 42 0 (refR g p (o.take i)).length]],0⟩),(42,some ⟨2,zjQ (refR g p (o.take i)),0⟩)],500⟩)
  (fun i=>i ≤ o.length) (fun i=>o.length - i) 0 (Nat.zero_le _)
  (Le.lst [(32,32),(40,40)] [] [(42,2)] rfl (by simp) (by simp) (by simp) (by simp) (by simp) (by simp) (by simp) (by simp [Up]) (by simp [zmY,hR0,fcd]; exact ⟨zba.rfl' (by simp),zba.row rfl (by omega) (by simp [UpL,Up,Wk.refl]; exact Wk.nil _ _)⟩)) ?_
 intro i hi
 have haN:=haccn i
 have haR:=haccr i
 have hal : (accR g p (o.take i)).length ≤ 64:=Nat.le_trans (zqx _) (Nat.le_trans (List.length_take_le' i o) hol)
 have hRl:=zp5 g p _ (o.take i) rfl
 have hRl2:=List.length_take_le' i o
 have hyes:=fun k=>zeU (g:=g) (p:=p) (o:=o.take i) (k:=k)
 have hno:=fun k=>zi4 (g:=g) (p:=p) (o:=o.take i) (k:=k)
 have hryes:=fun k=>zmD (g:=g) (p:=p) (o:=o.take i) (k:=k)
 have hrno:=fun k=>zpN (g:=g) (p:=p) (o:=o.take i) (k:=k)
 have hmem : ∀ x ∈ accR g p (o.take i),x ∈ o.take i:=fun x hx=>zjZ hx
 obtain ⟨acc,hacc⟩ : ∃ acc,acc = accR g p (o.take i):=⟨_,rfl⟩
 obtain ⟨R,hR⟩ : ∃ R,R = refR g p (o.take i):=⟨_,rfl⟩
 rw [← hacc] at haN haR hal hmem hyes hno hryes hrno
 rw [← hR] at hRl hryes hrno
 rw [← hacc,← hR]
 refine zad ⟨72,[(2,.pv (gC g)),(3,.pv (pC p)),(4,.pt 32 0 0),(7,.pt 40 0 0),(23,ints o),(24,.I o.length),(25,.I i),(26,.B (decide (i < o.length)))],
   [(32,some ⟨3,[[.nilS,.nilS,.nilS]],0⟩),(40,some ⟨3,[[ints acc,.nilS,.rs 42 0 R.length]],0⟩),(42,some ⟨2,zjQ R,0⟩)],600⟩ rfl ?_ ?_
 ·simp
  exact LeI [(32,32),(40,40),(42,42)] []
 refine zac ?_
 refine zak _ rfl (fun h11=>?_) fun h11=>?_
 ·simp at h11
  have hw1 : IntKind.i64.wrap ((i : Int) + 1) = (i : Int) + 1:=w6
  obtain ⟨k,hk⟩ : ∃ k,k = o[i]:=⟨_,rfl⟩
  have hkr:=hor _ (List.getElem_mem h11)
  rw [← hk] at hkr
  have hts : o.take (i + 1) = o.take i ++ [k]:=by rw [List.take_succ_eq_append_getElem h11,hk]
  have hkacc : k ∉ acc:=fun h=>by
   have h2:=hmem k h
   obtain ⟨j,hj,hjk⟩:=List.mem_iff_getElem.1 h2
   rw [List.getElem_take] at hjk
   rw [List.length_take] at hj
   have:=(List.pairwise_iff_getElem.1 hon) j i (by omega) h11 (by omega)
   exact this (hjk.trans hk)
  have hks : ∀ x ∈ acc ++ [k],0 ≤ x ∧ x < g.size:=fun x hx=>by
   rcases List.mem_append.1 hx with h | h
   ·exact haR x h
   ·rw [List.mem_singleton] at h; subst h; exact hkr
  have hkn : (acc ++ [k]).Nodup:=List.nodup_append.2 ⟨haN,by simp,fun a ha b hb=>by
   rw [List.mem_singleton] at hb
   subst hb
   rintro rfl
   exact hkacc ha⟩
  have hwith:=zlu acc k (by omega)
  have hnet:=zfk g p (acc ++ [k]) hg hp hkn hks hs
  obtain ⟨fl,hfl,hsv⟩:=hserve (acc ++ [k]) hkn hks
  have hreach:=zkc _ _ fl (hnv _ hks) hfl.ok hfl.most
  have hflen:=hfl.ok.fit.len
  have hnl2:=zsk (netN g) (netA g p (za3 (acc ++ [k])))
  have hyes:=hyes k
  have hno:=hno k
  have hryes:=hryes k
  have hrno:=hrno k
  rw [← hts] at hyes hno hryes hrno
  obtain ⟨A,hA⟩ : ∃ A,A = netA g p (za3 (acc ++ [k])):=⟨_,rfl⟩
  obtain ⟨side,hside⟩ : ∃ side,side = zhQ (netN g) A:=⟨_,rfl⟩
  rw [← hA] at hnet hsv hreach hflen hrno
  rw [← hside] at hreach hrno
  have htf : ∀ h : Int → List AV,List.take A.length (List.map h fl) = List.map h fl:=fun h=>List.take_of_length_le (by simp; omega)
  obtain ⟨W,hW⟩ : ∃ W,W = acc ++ [k]:=⟨_,rfl⟩
  have hWl : W.length = acc.length + 1:=by rw [hW]; simp
  rw [← hW] at hwith hnet hsv hyes hno hryes hrno
  rw [← hWl] at hwith
  refine zal ?_
  refine zbM (ι:=Unit) (fun _=>⟨72,[(2,.pv (gC g)),(3,.pv (pC p)),(4,.pt 32 0 0),(7,.pt 40 0 0),(23,ints o),(24,.I o.length),(25,.I i)],
   [(32,some ⟨3,[[.nilS,.nilS,.nilS]],0⟩),(40,some ⟨3,[[ints (accR g p (o.take (i + 1))),.nilS,.rs 42 0 (refR g p (o.take (i + 1))).length]],0⟩),(42,some ⟨2,zjQ (refR g p (o.take (i + 1))),0⟩)],3000⟩) (fun _=>True) ?_ fun _ _=>?_
  ·refine zai ?_
   refine zad ⟨72,[(2,.pv (gC g)),(3,.pv (pC p)),(4,.pt 32 0 0),(7,.pt 40 0 0),(9,.I k),(23,ints o),(24,.I o.length),(25,.I i)],
    [(32,some ⟨3,[[.nilS,.nilS,.nilS]],0⟩),(40,some ⟨3,[[ints acc,.nilS,.rs 42 0 R.length]],0⟩),(42,some ⟨2,zjQ R,0⟩)],700⟩ rfl ?_ ?_
   ·simp [h11,← hk]
    exact LeI [(32,32),(40,40),(42,42)] []
   refine zad ⟨72,[(2,.pv (gC g)),(3,.pv (pC p)),(4,.pt 32 0 0),(7,.pt 40 0 0),(9,.I k),(10,ints W),(23,ints o),(24,.I o.length),(25,.I i)],
    [(32,some ⟨3,[[.nilS,.nilS,.nilS]],0⟩),(40,some ⟨3,[[ints acc,.nilS,.rs 42 0 R.length]],0⟩),(42,some ⟨2,zjQ R,0⟩)],800⟩ rfl ?_ ?_
   ·simp
    refine zcD hwith (by simp) ?_
    simp
    exact Le.go [(32,32),(40,40),(42,42)] [724] rfl rfl (by simp [fcd,zaU]) (by simp [fcd])
   refine zad ⟨72,[(2,.pv (gC g)),(3,.pv (pC p)),(4,.pt 32 0 0),(7,.pt 40 0 0),(9,.I k),(10,ints W),(11,.pv (nC ⟨netN g,A⟩)),(23,ints o),(24,.I o.length),(25,.I i)],
    [(32,some ⟨3,[[.nilS,.nilS,.nilS]],0⟩),(40,some ⟨3,[[ints acc,.nilS,.rs 42 0 R.length]],0⟩),(42,some ⟨2,zjQ R,0⟩)],900⟩ rfl ?_ ?_
   ·simp
    refine zaJ hnet (by simp) ?_
    simp
    exact LeI [(32,32),(40,40),(42,42)] [832]
   refine zad ⟨72,[(2,.pv (gC g)),(3,.pv (pC p)),(4,.pt 32 0 0),(7,.pt 40 0 0),(9,.I k),(10,ints W),(11,.pv (nC ⟨netN g,A⟩)),(12,.rs 43 0 A.length),(13,.B (@decide (zaC g p (za3 W)) (Classical.propDecidable _))),(23,ints o),(24,.I o.length),(25,.I i)],
    [(32,some ⟨3,[[.nilS,.nilS,.nilS]],0⟩),(40,some ⟨3,[[ints acc,.nilS,.rs 42 0 R.length]],0⟩),(42,some ⟨2,zjQ R,0⟩),(43,some ⟨1,zaj fl,0⟩)],1000⟩ rfl ?_ ?_
   ·simp
    refine zcD hsv (by simp) ?_
    simp
    exact LeI [(32,32),(40,40),(42,42),(924,43)] []
   refine zac ?_
   refine zad ⟨72,[(2,.pv (gC g)),(3,.pv (pC p)),(4,.pt 32 0 0),(7,.pt 40 0 0),(9,.I k),(10,ints W),(11,.pv (nC ⟨netN g,A⟩)),(12,.rs 43 0 A.length),(44,.B (@decide (zaC g p (za3 W)) (Classical.propDecidable _))),(23,ints o),(24,.I o.length),(25,.I i)],
    [(32,some ⟨3,[[.nilS,.nilS,.nilS]],0⟩),(40,some ⟨3,[[ints acc,.nilS,.rs 42 0 R.length]],0⟩),(42,some ⟨2,zjQ R,0⟩),(43,some ⟨1,zaj fl,0⟩)],1100⟩ rfl ?_ ?_
   ·simp
    exact LeI [(32,32),(40,40),(42,42),(43,43)] []
   refine zak _ rfl (fun h15=>?_) fun h15=>?_
   ·have h15' : zaC g p (za3 W):=@of_decide_eq_true _ (Classical.propDecidable _) h15
    have hy:=hyes h15'
    have hry:=hryes h15'
    refine zad ⟨72,[(2,.pv (gC g)),(3,.pv (pC p)),(4,.pt 32 0 0),(7,.pt 40 0 0),(23,ints o),(24,.I o.length),(25,.I i)],
     [(32,some ⟨3,[[.nilS,.nilS,.nilS]],0⟩),(40,some ⟨3,[[ints W,.nilS,.rs 42 0 R.length]],0⟩),(42,some ⟨2,zjQ R,0⟩)],1200⟩ rfl ?_ ?_
    ·simp [zbR]
     exact LeI [(32,32),(40,40),(42,42)] []
    refine zaD ?_
    refine hit ?_
    exact ⟨(),trivial,Le.go [(32,32),(40,40),(42,42)] [] rfl rfl (by simp) (by simp [hy,hry,fcd])⟩
   ·have h15' : ¬ zaC g p (za3 W):=@of_decide_eq_false _ (Classical.propDecidable _) h15
    have hn':=hno h15'
    have hrn:=hrno h15'
    have htR : ∀ h : Int × List Int → List AV,List.take R.length (List.map h R) = List.map h R:=fun h=>List.take_of_length_le (by simp)
    refine zal ?_
    refine zdp rfl ?_
    simp
    refine zh1 (i:=43) rfl (by simp [fcd]) hreach (by simp) (by simp) ?_
    simp [htR,zbR]
    exact ⟨by omega,by omega,rfl,Le.go [(32,32),(40,40),(1164,42)] [1140] rfl rfl (by simp) (by simp [hn',hrn,fcd,zaU])⟩
  refine zaV rfl ?_
  simp [hw1]
  exact ⟨i + 1,by omega,by omega,Le.go [(32,32),(40,40),(42,42)] [] rfl rfl (by simp [hw1]) (by simp [fcd])⟩
 simp at h11
 obtain rfl : i = o.length:=by omega
 rw [List.take_length] at hacc hR
 rw [← hacc] at hlast hnl hlf
 have hl1 : ((acc.length : Nat) : Int) = acc.length:=rfl
 obtain ⟨A,hA⟩ : ∃ A,A = netA g p (za3 acc):=⟨_,rfl⟩
 rw [← hA] at hnl hlast hlf
 have htf : ∀ h : Int → List AV,List.take A.length (List.map h f) = List.map h f:=fun h=>List.take_of_length_le (by simp; omega)
 refine zaD ?_
 refine hit ?_
 refine za7 ⟨72,[(4,.pt 32 0 0),(7,.pt 40 0 0)],
   [(32,some ⟨3,[[.nilS,.nilS,.nilS]],0⟩),(40,some ⟨3,[[ints acc,ints f,.vs 2 false (zjQ R)]],0⟩)],1200⟩ rfl ?_ ?_
 ·simp
  refine zaJ hnl (by simp) ?_
  simp
  refine zcD hlast (by simp) ?_
  simp [zbR]
  exact ⟨rfl,Le.go [(32,32),(40,40)] [42,664] rfl rfl (by simp) (by simp [fcd,zaU,htf,hlf])⟩
 refine zad ⟨72,[(4,.pt 32 0 0),(5,.I 0)],[(32,some ⟨3,[[ints acc,ints f,.vs 2 false (zjQ R)]],0⟩)],1400⟩ rfl ?_ ?_
 ·simp [zbR]
  exact LeI [(32,32)] []
 refine zan ?_
 rw [← hacc,← hR]
 exact ⟨.inr rfl,zat.out [] [32] rfl (by simp) (by simp) (by simp) (by simp)⟩
section
variable {P : Program} {np id : Nat} {h : Nat → Option Ent} {K : AV → List Nat → List (Nat × Option Ent) → Prop} {f : FuncId} {first capt args args' : List AV} {res : AV}
end
variable {g : Gr} {p : Pol}
theorem Rise.pair {l : List Int} {lo hi : Int} (h : Rise l lo hi) : l.Pairwise (· < ·):=by
 have hlt : ∀ (j i : Nat) (hj : j < l.length) (hij : i < j),l[i] < l[j]:=by
  intro j
  induction j with
  | zero=>intro i _ hij; omega
  | succ j ih =>
    intro i hj hij
    have h1:=(h (j + 1) hj).2.2 (by omega)
    simp only [Nat.add_sub_cancel] at h1
    rcases Nat.lt_or_ge i j with h2 | h2
    ·have:=ih i (by omega) h2
     omega
    ·have : i = j:=by omega
     subst this
     exact h1
 exact List.pairwise_iff_getElem.2 fun i j hi hj hij=>hlt j i hj hij
variable {g : Gr} {p : Pol}
theorem h64 (hg : GrOk g) {a : List Int} (h : ∀ x ∈ a,0 ≤ x ∧ x < g.size) : ∀ x ∈ a,0 ≤ x ∧ x < 64:=fun x hx=>by
 have:=h x hx
 have:=hg.1.2.1
 omega
variable {g : Gr} {p : Pol}
def ze1 (g : Gr) (p : Pol) : List Int:=p.seeds.filter fun k=>!g.gone.contains k
theorem zsJ (w : Int → Int) (hw : ∀ x,0 ≤ w x) : ∀ {s a : List Int},s.Nodup → (∀ x ∈ s,x ∈ a) → (s.map w).sum ≤ (a.map w).sum
 | [],a,_,_=>by
   have : ∀ a : List Int,0 ≤ (a.map w).sum:=fun a=>by
    induction a with
    | nil=>exact Int.le_refl _
    | cons x a ih=>simp only [List.map_cons,List.sum_cons]; have:=hw x; omega
   exact this a
 | x :: s,a,hn,h=>by
   rw [List.nodup_cons] at hn
   have h1:=List.perm_cons_erase (h x (List.mem_cons_self ..))
   have ih:=zsJ w hw (s:=s) (a:=a.erase x) hn.2 fun y hy=>(List.mem_erase_of_ne (by rintro rfl; exact hn.1 hy)).2 (h y (List.mem_cons_of_mem _ hy))
   have h2 : (a.map w).sum = ((x :: a.erase x).map w).sum:=by
    have hp : ∀ {a b : List Int},a.Perm b → (a.map w).sum = (b.map w).sum:=fun h=>by
     induction h with
     | nil=>rfl
     | cons x _ ih=>simp only [List.map_cons,List.sum_cons,ih]
     | swap x y l=>simp only [List.map_cons,List.sum_cons]; omega
     | trans _ _ i1 i2=>exact i1.trans i2
    exact hp h1
   rw [h2]
   simp only [List.map_cons,List.sum_cons]
   omega
theorem ziv {α : Type} {w : α → Int} : ∀ {l : List α},(∀ x ∈ l,0 ≤ w x) → 0 ≤ (l.map w).sum
 | [],_=>Int.le_refl _
 | x :: l,h=>by
   have:=ziv (l:=l) fun y hy=>h y (List.mem_cons_of_mem _ hy)
   have:=h x (List.mem_cons_self ..)
   simp only [List.map_cons,List.sum_cons]
   omega
theorem zro (hp : zcx g.size p) (S : Int → Bool) (h0 : S 0 = true) : ((p.seeds.filter fun x=>decide (0 < (zaX g p).getD x.toNat 0)).map fun x=>if S (2 + 2 * x) = false then (zaX g p).getD x.toNat 0 else 0).sum ≤ zjJ g p S:=by
 unfold zjJ
 simp only [zj1,netA,zbm,List.map_append,List.sum_append,List.map_map,List.filter_nil,List.map_nil,List.sum_nil]
 have h1 : 0 ≤ (((List.range (zaX g p).length).filter fun i=>decide (0 < (zaX g p).getD i 0)).map ((fun e : Ed=>if S e.f = true ∧ S e.t = false then e.v else 0) ∘ fun i : Nat=>(⟨2 + 2 * (i : Int),3 + 2 * (i : Int),(zaX g p).getD i 0 - 1⟩ : Ed))).sum:=ziv fun i hi=>by
  have : 0 < (zaX g p).getD i 0:=by simpa using (List.mem_filter.1 hi).2
  simp only [Function.comp]
  split <;> omega
 have h2 : 0 ≤ (((zas g p.lv).edges.filter fun e=>decide (0 < (zaX g p).getD e.f.toNat 0)).map ((fun e : Ed=>if S e.f = true ∧ S e.t = false then e.v else 0) ∘ fun e : Ed=>(⟨3 + 2 * e.f,2 + 2 * e.t,64⟩ : Ed))).sum:=ziv fun e _=>by
  simp only [Function.comp]
  split <;> omega
 have h3 : ((p.seeds.filter fun x=>decide (0 < (zaX g p).getD x.toNat 0)).map ((fun e : Ed=>if S e.f = true ∧ S e.t = false then e.v else 0) ∘ fun x : Int=>(⟨0,2 + 2 * x,(zaX g p).getD x.toNat 0⟩ : Ed))) = (p.seeds.filter fun x=>decide (0 < (zaX g p).getD x.toNat 0)).map fun x=>if S (2 + 2 * x) = false then (zaX g p).getD x.toNat 0 else 0:=by
  refine List.map_congr_left fun x _=>?_
  simp only [Function.comp,h0,true_and]
 rw [h3]
 omega
theorem zrI (hg : GrOk g) (hp : zcx g.size p) {ks : List Int} (hn : ks.Nodup) (hs : ∀ k ∈ ks,k ∈ p.seeds) (hk : zcs g p ks) : zaC g p ks:=by
 rw [zda hg hp hk]
 intro S h0 h1
 have hb:=zro (g:=g) hp S h0
 have hcn:=zjo (g:=g) hp
 have hc0 : ∀ x : Int,0 ≤ (zaX g p).getD x.toNat 0:=fun x=>by
  rw [List.getD_eq_getElem?_getD]
  cases hh : (zaX g p)[x.toNat]? with
  | none=>simp
  | some v=>exact hcn v (List.mem_of_getElem? hh)
 have h2:=zsJ (fun x=>if S (2 + 2 * x) = false then (zaX g p).getD x.toNat 0 else 0) (fun x=>by have:=hc0 x; split <;> omega) hn (a:=p.seeds.filter fun x=>decide (0 < (zaX g p).getD x.toNat 0)) fun x hx=>List.mem_filter.2 ⟨hs x hx,decide_eq_true (hk.reach x hx)⟩
 have h3 : (ks.length : Int) ≤ (ks.map fun x=>if S (2 + 2 * x) = false then (zaX g p).getD x.toNat 0 else 0).sum + zc4 S ks:=by
  have key : ∀ l : List Int,(∀ x ∈ l,zn3 g p x) → (l.length : Int) ≤ (l.map fun x=>if S (2 + 2 * x) = false then (zaX g p).getD x.toNat 0 else 0).sum + zc4 S l:=by
   intro l
   induction l with
   | nil=>intro _; exact Int.le_refl _
   | cons x l ih =>
     intro h
     have ih:=ih fun y hy=>h y (List.mem_cons_of_mem _ hy)
     have hx : 0 < (zaX g p).getD x.toNat 0:=h x (List.mem_cons_self ..)
     have hs : zc4 S (x :: l) = (if S (2 + 2 * x) = true then 1 else 0) + zc4 S l:=by
      unfold zc4
      rfl
     rw [hs]
     simp only [List.map_cons,List.sum_cons,List.length_cons]
     cases hS : S (2 + 2 * x)
     ·rw [if_pos rfl,if_neg (by simp)]
      omega
     ·rw [if_neg (by simp),if_pos rfl]
      omega
  exact key ks hk.reach
 omega
theorem zqm (g : Gr) (S : List Int) : ∀ n,0 < n → ∃ l,ordN g S n = ordN g S 1 ++ l
 | 1,_=>⟨[],(List.append_nil _).symm⟩
 | n + 2,_=>by
   obtain ⟨l,hl⟩:=zqm g S (n + 1) (by omega)
   exact ⟨l ++ zbQ g.size.toNat fun k=>decide (dist g S k = ((n + 1 : Nat) : Int)),by rw [ordN,hl,List.append_assoc]⟩
theorem zrW (hg : GrOk g) (hp : zcx g.size p) : ∃ l,ordL (zas g p.lv) p.seeds = ze1 g p ++ l:=by
 by_cases hn : 0 < g.size.toNat
 ·obtain ⟨l,hl⟩:=zqm (zas g p.lv) p.seeds g.size.toNat hn
  refine ⟨l,?_⟩
  have h1 : ordN (zas g p.lv) p.seeds 1 = ze1 g p:=by
   refine zgN ?_ ?_ fun x=>?_
   ·exact zhq g.size.toNat _
   ·exact (hp.2.1.pair).filter _
   ·rw [zeh]
    have h2 : (0 ≤ dist (zas g p.lv) p.seeds x ∧ dist (zas g p.lv) p.seeds x < (1 : Nat)) ↔ zd8 g p.seeds x = true:=by
     rw [show zd8 g p.seeds x = zd8 (zas g p.lv) p.seeds x from rfl,← zkm (hg.level p.lv)]
     omega
    rw [h2]
    unfold zd8 ze1
    rw [List.mem_filter]
    simp only [Bool.and_eq_true,List.contains_iff_mem]
    constructor
    ·exact fun h=>h.2
    ·intro h
     have h3:=hp.2.1.nodup.2 x h.1
     exact ⟨⟨by omega,by show x < g.size.toNat; omega⟩,h⟩
  rw [← h1]
  exact hl
 ·have h0 : g.size.toNat = 0:=by omega
  refine ⟨[],?_⟩
  have h1 : ze1 g p = []:=by
   unfold ze1
   rw [List.filter_eq_nil_iff]
   intro x hx
   have h3:=hp.2.1.nodup.2 x hx
   omega
  rw [h1]
  show ordN _ _ (g.size.toNat) = _
  rw [h0]
  rfl
theorem zrv {o : List Int} (h : ∀ n,n < o.length → zaC g p (za3 (o.take (n + 1)))) : ∀ n,n ≤ o.length → accR g p (o.take n) = o.take n
 | 0,_=>rfl
 | n + 1,hn=>by
   have ih:=zrv h n (by omega)
   rw [List.take_succ_eq_append_getElem (by omega)]
   have h1:=h n (by omega)
   rw [List.take_succ_eq_append_getElem (by omega)] at h1
   rw [zeU (by rw [ih]; exact h1),ih]
theorem zsv (hg : GrOk g) (hp : zcx g.size p) : ∃ l,accR g p (ordL (zas g p.lv) p.seeds) = ze1 g p ++ l:=by
 obtain ⟨l,hl⟩:=zrW hg hp
 have hon:=zem (zas g p.lv) p.seeds
 have hok:=zqX hg hp
 rw [hl] at hon hok
 have hsn:=(List.nodup_append.1 hon).1
 have hsk : zcs g p (ze1 g p):=hok.sub fun x hx=>List.mem_append_left _ hx
 have h1 : accR g p (ze1 g p) = ze1 g p:=by
  have:=zrv (g:=g) (p:=p) (o:=ze1 g p) (fun n hn=>by
   have hk : zcs g p ((ze1 g p).take (n + 1)):=hsk.sub fun x hx=>List.mem_of_mem_take hx
   have hnn : ((ze1 g p).take (n + 1)).Nodup:=hsn.sublist (List.take_sublist _ _)
   refine (zrI hg hp hnn (fun k hk2=>(List.mem_filter.1 (List.mem_of_mem_take hk2)).1) hk).perm hg hp hk (zga hnn (h64 hg hk.rng))) _ (Nat.le_refl _)
  rwa [List.take_length] at this
 obtain ⟨l2,hl2,_⟩:=zmO (g:=g) (p:=p) l (ze1 g p)
 exact ⟨l2,by rw [hl,hl2,h1]⟩
theorem zo5 {φ : Ed → Int → Int} : ∀ {A : List Ed} {e : Ed},(∀ a ∈ A,0 ≤ φ a 0) → e ∈ A → φ e 0 ≤ sumF φ A (A.map fun _=>0)
 | [],_,_,h=>absurd h List.not_mem_nil
 | a :: A,e,h,he=>by
   have hz : 0 ≤ sumF φ A (A.map fun _=>0):=by
    have key : ∀ B : List Ed,(∀ a ∈ B,0 ≤ φ a 0) → 0 ≤ sumF φ B (B.map fun _=>0):=by
     intro B
     induction B with
     | nil=>intro _; simp [sumF]
     | cons b B ih =>
       intro h
       have h1:=ih fun x hx=>h x (List.mem_cons_of_mem _ hx)
       have h2:=h b List.mem_cons_self
       simp only [List.map_cons,sumF]
       omega
    exact key A fun x hx=>h x (List.mem_cons_of_mem _ hx)
   have h0:=h a List.mem_cons_self
   simp only [List.map_cons,sumF]
   rcases List.mem_cons.1 he with rfl | he
   ·omega
   ·have:=zo5 (fun x hx=>h x (List.mem_cons_of_mem _ hx)) he
    omega
theorem zmK {S : Int → Bool} {A : List Ed} {e : Ed} (h0 : ∀ a ∈ A,0 ≤ a.v) (he : e ∈ A) (h1 : S e.f = true) (h2 : S e.t = false) : e.v ≤ capS S A:=by
 have:=zo5 (φ:=fun e _=>if S e.f = true ∧ S e.t = false then e.v else 0) (A:=A) (e:=e) (fun a ha=>by
  have:=h0 a ha
  show 0 ≤ if S a.f = true ∧ S a.t = false then a.v else 0
  split <;> omega) he
 rw [if_pos ⟨h1,h2⟩] at this
 exact this
theorem zpX {S : Int → Bool} : ∀ A B : List Ed,capS S (A ++ B) = capS S A + capS S B
 | [],B=>by simp [capS,sumF]
 | a :: A,B=>by
   have ih:=zpX (S:=S) A B
   unfold capS at ih ⊢
   simp only [List.cons_append,List.map_cons,sumF,ih]
   omega
theorem GrOk.off {s : Int} {E : List Ed} {go : List Int} (h0 : 0 ≤ s) (h1 : s ≤ 64) (hl : E.length ≤ 500) (hg : Rise go 0 (s - 1)) (hp : E.Pairwise Bef) (hf : ∀ e ∈ E,Fits ⟨s,E,go⟩ e ∧ 1 ≤ e.v ∧ e.v ≤ 3) : GrOk ⟨s,E,go⟩ :=
 ⟨⟨h0,h1,hl,hg⟩,fun i hi=>⟨(hf _ (List.getElem_mem hi)).1,(hf _ (List.getElem_mem hi)).2.1,(hf _ (List.getElem_mem hi)).2.2,fun h0=>zoR.2 (List.pairwise_iff_getElem.1 hp (i - 1) i (by simp only at hi; omega) hi (by omega))⟩⟩
def stE (n : Nat) : List Ed:=(List.range n).map fun (i : Nat)=>⟨0,5 + (i : Int),2 + ((i % 2 : Nat) : Int)⟩
def stG (n : Nat) : Gr:=⟨64,stE n,[]⟩
def stP (c : Int) : Pol:=⟨[0],[c,1],2⟩
def stO (n : Nat) : List Int:=0 :: (List.range n).map fun (i : Nat)=>5 + (i : Int)
section
variable {n : Nat} {c : Int} (hn : n ≤ 5) (hc : 1 ≤ c ∧ c ≤ 6)
include hn
theorem zoa : GrOk (stG n):=by
 rcases (by omega : n = 0 ∨ n = 1 ∨ n = 2 ∨ n = 3 ∨ n = 4 ∨ n = 5) with rfl | rfl | rfl | rfl | rfl | rfl <;>
  exact GrOk.off (by decide) (by decide) (by decide) (fun i h=>by simp [stG] at h) (by decide +kernel) (by decide +kernel)
theorem zjX : zas (stG n) 2 = stG n:=by
 rcases (by omega : n = 0 ∨ n = 1 ∨ n = 2 ∨ n = 3 ∨ n = 4 ∨ n = 5) with rfl | rfl | rfl | rfl | rfl | rfl <;> simp [zas,stG,stE,List.range,List.range.loop]
theorem zqs {e : Ed} : e ∈ (stG n).edges ↔ ∃ i < n,e = ⟨0,5 + (i : Int),2 + ((i % 2 : Nat) : Int)⟩:=by
 show e ∈ stE n ↔ _
 unfold stE
 simp only [List.mem_map,List.mem_range]
 exact ⟨fun ⟨i,h,e⟩=>⟨i,h,e.symm⟩,fun ⟨i,h,e⟩=>⟨i,h,e.symm⟩⟩
theorem zgK {k : Int} : dist (stG n) [0] k = 0 ↔ k = 0:=by
 rw [zkm (zoa hn)]
 unfold zd8 stG
 simp
theorem znM {i : Nat} (hi : i < n) : dist (stG n) [0] (5 + (i : Int)) = 1:=by
 have h0:=(zgK hn (k:=0)).2 rfl
 have he : (⟨0,5 + (i : Int),2 + ((i % 2 : Nat) : Int)⟩ : Ed) ∈ (stG n).edges:=(zqs hn).2 ⟨i,hi,rfl⟩
 have h1:=zoo (S:=[0]) (zoa hn) he (by show 0 ≤ dist (stG n) [0] 0; omega)
 have h2 : dist (stG n) [0] (5 + (i : Int)) ≠ 0:=fun h=>by have:=(zgK hn).1 h; omega
 simp only [h0] at h1
 omega
theorem zwH {k : Int} (h : 0 ≤ dist (stG n) [0] k) : k = 0 ∨ ∃ i < n,k = 5 + (i : Int):=by
 by_cases h0 : dist (stG n) [0] k = 0
 ·exact .inl ((zgK hn).1 h0)
 ·obtain ⟨m,hm⟩ : ∃ m : Nat,dist (stG n) [0] k = (m : Int) + 1:=⟨(dist (stG n) [0] k - 1).toNat,by omega⟩
  obtain ⟨e,he,h1,_⟩:=zoD (zoa hn) hm
  obtain ⟨i,hi,rfl⟩:=(zqs hn).1 he
  exact .inr ⟨i,hi,h1.symm⟩
theorem zvJ : ordL (stG n) [0] = stO n:=by
 have hm : ∀ k,k ∈ ordL (stG n) [0] ↔ k = 0 ∨ ∃ i < n,k = 5 + (i : Int):=fun k=>by
  unfold ordL
  rw [zeh]
  constructor
  ·exact fun h=>zwH hn h.2.1
  ·rintro (rfl | ⟨i,hi,rfl⟩)
   ·rw [(zgK hn).2 rfl]
    exact ⟨⟨by omega,by simp [stG]⟩,by omega,by simp [stG]⟩
   ·rw [znM hn hi]
    exact ⟨⟨by omega,by show 5 + (i : Int) < (64 : Nat); omega⟩,by omega,by simp [stG]⟩
 refine zgN ?_ ?_ fun k=>?_
 ·have hp : (ordL (stG n) [0]).Pairwise (Lt (stG n) [0]):=zhF _
  refine hp.imp_of_mem fun {a b} ha hb hab=>?_
  have h1:=(hm a).1 ha
  have h2:=(hm b).1 hb
  unfold Lt at hab
  rcases h1 with rfl | ⟨i,hi,rfl⟩ <;> rcases h2 with rfl | ⟨j,hj,rfl⟩
  ·omega
  ·omega
  ·rw [znM hn hi,(zgK hn).2 rfl] at hab; omega
  ·rw [znM hn hi,znM hn hj] at hab; omega
 ·unfold stO
  rw [List.pairwise_cons]
  refine ⟨fun x hx=>?_,?_⟩
  ·obtain ⟨i,_,rfl⟩:=List.mem_map.1 hx
   omega
  ·rw [List.pairwise_map]
   exact List.pairwise_lt_range.imp fun h=>by omega
 ·rw [hm]
  unfold stO
  simp only [List.mem_cons,List.mem_map,List.mem_range]
  constructor
  ·rintro (h | ⟨i,hi,rfl⟩)
   ·exact .inl h
   ·exact .inr ⟨i,hi,rfl⟩
  ·rintro (h | ⟨i,hi,rfl⟩)
   ·exact .inl h
   ·exact .inr ⟨i,hi,rfl⟩
omit hn in
include hc in
theorem zvd : zcx 64 (stP c):=by
 refine ⟨by simp [stP],fun i h=>?_,by simp [stP],by simp [stP],by simp [stP],by simp [stP],fun i h=>?_⟩
 ·obtain rfl : i = 0:=by simp [stP] at h; omega
  exact ⟨by simp [stP],by simp [stP],fun h=>by omega⟩
 ·have : i = 0 ∨ i = 1:=by simp [stP] at h; omega
  rcases this with rfl | rfl
  ·simp [stP]; omega
  ·simp [stP]; omega
theorem zsE : (zaX (stG n) (stP c)).getD 0 0 = c:=by
 have h:=zkJ (g:=stG n) (p:=stP c) (k:=0) (by decide) (by simp [stG])
 have e : zas (stG n) (stP c).lv = stG n:=zjX hn
 rw [e] at h
 have h0 : dist (stG n) (stP c).seeds 0 = 0:=(zgK hn).2 rfl
 rw [h0] at h
 exact h
theorem zwF {i : Nat} (hi : i < n) : (zaX (stG n) (stP c)).getD (5 + (i : Int)).toNat 0 = 1:=by
 have h:=zkJ (g:=stG n) (p:=stP c) (k:=5 + (i : Int)) (by omega) (by show 5 + (i : Int) < 64; omega)
 have e : zas (stG n) (stP c).lv = stG n:=zjX hn
 rw [e] at h
 have h0 : dist (stG n) (stP c).seeds (5 + (i : Int)) = 1:=znM hn hi
 rw [h0] at h
 exact h
include hc
theorem ztz {k : Int} (hk : k ∈ stO n) : zn3 (stG n) (stP c) k:=by
 unfold zn3
 unfold stO at hk
 rcases List.mem_cons.1 hk with rfl | hk
 ·have:=zsE hn (c:=c)
  rw [show (0 : Int).toNat = 0 from rfl,this]
  omega
 ·obtain ⟨i,hi,rfl⟩:=List.mem_map.1 hk
  have hi:=List.mem_range.1 hi
  rw [zwF hn hi]
  omega
theorem zpK {ks : List Int} (h : ∀ k ∈ ks,k ∈ stO n) : zcs (stG n) (stP c) ks:=by
 refine ⟨fun k hk=>?_,fun k hk=>ztz hn hc (h k hk)⟩
 have hk:=h k hk
 unfold stO at hk
 rcases List.mem_cons.1 hk with rfl | hk
 ·exact ⟨by decide,by simp [stG]⟩
 ·obtain ⟨i,hi,rfl⟩:=List.mem_map.1 hk
  have hi:=List.mem_range.1 hi
  exact ⟨by omega,by show 5 + (i : Int) < 64; omega⟩
set_option maxHeartbeats 1000000 in
set_option maxRecDepth 100000 in
theorem zvK {ks : List Int} (hk : ∀ k ∈ ks,k ∈ stO n) (h0 : (0 : Int) ∈ ks) (hnd : ks.Nodup) : zaC (stG n) (stP c) ks ↔ (ks.length : Int) ≤ c:=by
 have hg:=zoa hn
 have hp:=zvd hc
 have hv0 : ∀ a ∈ netA (stG n) (stP c) [],0 ≤ a.v:=fun a ha=>((zk9 hg hp (ks:=[]) (by simp)).arc a ha).2.2.2.2.2.2.2
 have hl : zas (stG n) (stP c).lv = stG n:=zjX hn
 have hc0:=zsE hn (c:=c)
 have hlen : ks.length ≤ 64:=by
  have:=zcm (b:=stO n) hnd hk
  have h2 : (stO n).length ≤ 6:=by simp [stO]; omega
  omega
 rw [zda hg hp (zpK hn hc hk)]
 constructor
 ·intro h
  have:=h (fun x=>decide (x = 0)) (by simp) (by simp)
  have h2 : zc4 (fun x=>decide (x = 0)) ks = 0:=zlB fun k hk'=>by
   have hk2:=hk k hk'
   have : 0 ≤ k:=((zpK hn hc hk).rng k hk').1
   simp
   omega
  have h3 : zjJ (stG n) (stP c) (fun x=>decide (x = 0)) ≤ c:=by
   unfold zjJ netA zbm
   have hs : ∀ A B : List Ed,capS (fun x=>decide (x = 0)) (A ++ B) = capS (fun x=>decide (x = 0)) A + capS (fun x=>decide (x = 0)) B:=fun A B=>zpX _ _
   have hz : ∀ A : List Ed,(∀ a ∈ A,a.f ≠ 0) → capS (fun x=>decide (x = 0)) A = 0:=by
    intro A
    induction A with
    | nil=>intro _; rfl
    | cons a A ih =>
      intro h
      have h1:=h a List.mem_cons_self
      have h2:=ih fun x hx=>h x (List.mem_cons_of_mem _ hx)
      unfold capS at h2 ⊢
      simp only [List.map_cons,sumF]
      rw [h2,if_neg (by simp [h1])]
      rfl
   rw [hs,hs,hs]
   rw [hz (((List.range (zaX (stG n) (stP c)).length).filter fun i=>decide (0 < (zaX (stG n) (stP c)).getD i 0)).map fun (i : Nat)=>⟨2 + 2 * (i : Int),3 + 2 * (i : Int),(zaX (stG n) (stP c)).getD i 0 - 1⟩) (fun a ha=>by
    obtain ⟨i,_,rfl⟩:=List.mem_map.1 ha
    simp only
    omega)]
   rw [hz ((([] : List Int).filter fun x=>decide (0 < (zaX (stG n) (stP c)).getD x.toNat 0)).map fun x=>⟨2 + 2 * x,1,1⟩) (fun a ha=>by simp at ha)]
   rw [hz (((zas (stG n) (stP c).lv).edges.filter fun e=>decide (0 < (zaX (stG n) (stP c)).getD e.f.toNat 0)).map fun e=>⟨3 + 2 * e.f,2 + 2 * e.t,64⟩) (fun a ha=>by
    obtain ⟨e,he,rfl⟩:=List.mem_map.1 ha
    have he:=(List.mem_filter.1 he).1
    rw [hl] at he
    obtain ⟨i,_,rfl⟩:=(zqs hn).1 he
    simp)]
   have hf : ∀ C : List Int,C.getD 0 0 = c → ((stP c).seeds.filter fun x=>decide (0 < C.getD x.toNat 0)).map (fun x=>(⟨0,2 + 2 * x,C.getD x.toNat 0⟩ : Ed)) = [⟨0,2,c⟩]:=fun C hC=>by
    show (([0] : List Int).filter fun x=>decide (0 < C.getD x.toNat 0)).map (fun x=>(⟨0,2 + 2 * x,C.getD x.toNat 0⟩ : Ed)) = _
    rw [List.filter_cons,if_pos (by rw [Int.toNat_zero,hC]; exact decide_eq_true (by omega))]
    rw [List.filter_nil,List.map_cons,List.map_nil,Int.toNat_zero,hC]
    rfl
   rw [hf _ hc0]
   unfold capS
   simp [sumF]
  omega
 ·intro h S s0 s1
  have hsk:=zmI S ks
  have hsn:=zgj S ks
  cases h2 : S 2
  ·have ha : (⟨0,2,c⟩ : Ed) ∈ netA (stG n) (stP c) []:=by
    unfold netA zbm
    refine List.mem_append_left _ (List.mem_append_left _ (List.mem_append_left _ (List.mem_map.2 ⟨0,List.mem_filter.2 ⟨by simp [stP],?_⟩,?_⟩)))
    ·rw [Int.toNat_zero,hc0]; exact decide_eq_true (by omega)
    ·rw [Int.toNat_zero,hc0]; rfl
   have:=zmK hv0 ha s0 h2
   unfold zjJ
   simp only at this
   omega
  ·cases h3 : S 3
   ·have ha : (⟨2,3,c - 1⟩ : Ed) ∈ netA (stG n) (stP c) []:=by
     unfold netA zbm
     refine List.mem_append_left _ (List.mem_append_left _ (List.mem_append_right _ (List.mem_map.2 ⟨0,List.mem_filter.2 ⟨?_,?_⟩,?_⟩)))
     ·rw [List.mem_range,zcR]; simp [stG]
     ·rw [hc0]; exact decide_eq_true (by omega)
     ·rw [hc0]; rfl
    have h4:=zmK hv0 ha h2 h3
    have h5 : 1 ≤ zc4 S ks:=by
     have:=znQ S (s:=[0]) (a:=ks) (by simp) (by simpa using h0)
     have e : zc4 S [0] = 1:=by unfold zc4; simp [h2]
     omega
    unfold zjJ
    simp only at h4
    omega
   ·by_cases hall : ∀ k ∈ ks,S (2 + 2 * k) = true
    ·have e : zc4 S ks = ks.length:=by
      have key : ∀ l : List Int,(∀ k ∈ l,S (2 + 2 * k) = true) → zc4 S l = l.length:=by
       intro l
       induction l with
       | nil=>intro _; rfl
       | cons a l ih =>
         intro h
         have h1:=h a List.mem_cons_self
         have h2:=ih fun x hx=>h x (List.mem_cons_of_mem _ hx)
         unfold zc4 at h2 ⊢
         simp only [List.map_cons,List.sum_cons,List.length_cons]
         rw [h2,if_pos h1]
         omega
      exact key ks hall
     have h6 : 0 ≤ zjJ (stG n) (stP c) S:=by
      have hz:=zo5 (φ:=fun e _=>if S e.f = true ∧ S e.t = false then e.v else 0) (A:=⟨0,0,0⟩ :: netA (stG n) (stP c) []) (e:=⟨0,0,0⟩) (fun a ha=>by
       show 0 ≤ if S a.f = true ∧ S a.t = false then a.v else 0
       rcases List.mem_cons.1 ha with rfl | ha
       ·split <;> simp
       ·have:=hv0 a ha
        split <;> omega) List.mem_cons_self
      unfold zjJ capS
      simp only [List.map_cons,sumF] at hz
      omega
     omega
    ·obtain ⟨k,hkm,hks⟩ : ∃ k ∈ ks,S (2 + 2 * k) = false:=by
      refine Decidable.byContradiction fun hno=>hall fun k hk=>?_
      cases h7 : S (2 + 2 * k)
      ·exact absurd ⟨k,hk,h7⟩ hno
      ·rfl
     have hk2:=hk k hkm
     unfold stO at hk2
     rcases List.mem_cons.1 hk2 with rfl | hk2
     ·rw [show (2 : Int) + 2 * 0 = 2 from rfl,h2] at hks; cases hks
     ·obtain ⟨i,hi,rfl⟩:=List.mem_map.1 hk2
      have hi:=List.mem_range.1 hi
      have ha : (⟨3,2 + 2 * (5 + (i : Int)),64⟩ : Ed) ∈ netA (stG n) (stP c) []:=by
       unfold netA zbm
       refine List.mem_append_right _ (List.mem_map.2 ⟨⟨0,5 + (i : Int),2 + ((i % 2 : Nat) : Int)⟩,List.mem_filter.2 ⟨?_,?_⟩,rfl⟩)
       ·rw [hl]; exact (zqs hn).2 ⟨i,hi,rfl⟩
       ·refine decide_eq_true ?_
        show 0 < (zaX (stG n) (stP c)).getD ((0 : Int).toNat) 0
        rw [Int.toNat_zero,hc0]
        omega
      have:=zmK hv0 ha h3 hks
      unfold zjJ
      simp only at this
      omega
theorem zye : accR (stG n) (stP c) (stO n) = (stO n).take c.toNat:=by
 have hol : (stO n).length = n + 1:=by simp [stO]
 have hnd : (stO n).Nodup:=by rw [← zvJ hn]; exact zem _ _
 have key : ∀ j,j ≤ n + 1 → accR (stG n) (stP c) ((stO n).take j) = (stO n).take (min j c.toNat):=by
  intro j
  induction j with
  | zero=>intro _; simp [zmY]
  | succ j ih =>
    intro hj
    have ih:=ih (by omega)
    have hlt : j < (stO n).length:=by omega
    rw [List.take_succ_eq_append_getElem hlt]
    have hr : ∀ k ∈ stO n,0 ≤ k ∧ k < 64:=fun k hk=>by
     have:=(zpK hn hc (ks:=stO n) fun _ h=>h).rng k hk
     exact ⟨this.1,this.2⟩
    by_cases hjc : j < c.toNat
    ·have e1 : min j c.toNat = j:=by omega
     have e2 : min (j + 1) c.toNat = j + 1:=by omega
     rw [e1] at ih
     rw [e2]
     have hsub : ∀ k ∈ za3 ((stO n).take j ++ [(stO n)[j]]),k ∈ stO n:=fun k hk=>by
      have:=(zeG.1 hk).1
      rw [← List.take_succ_eq_append_getElem hlt] at this
      exact List.mem_of_mem_take this
     have hnd2 : ((stO n).take j ++ [(stO n)[j]]).Nodup:=by rw [← List.take_succ_eq_append_getElem hlt]; exact hnd.sublist (List.take_sublist _ _)
     have h64 : ∀ k ∈ (stO n).take j ++ [(stO n)[j]],0 ≤ k ∧ k < 64:=fun k hk=>by
      rw [← List.take_succ_eq_append_getElem hlt] at hk
      exact hr k (List.mem_of_mem_take hk)
     have hpm:=zga hnd2 h64
     have hcan : zaC (stG n) (stP c) (za3 ((stO n).take j ++ [(stO n)[j]])):=by
      rw [zvK hn hc hsub ?_ (hpm.nodup_iff.1 hnd2)]
      ·rw [← hpm.length_eq,← List.take_succ_eq_append_getElem hlt,List.length_take]
       omega
      ·rw [← hpm.mem_iff,← List.take_succ_eq_append_getElem hlt]
       simp [stO]
     have:=zeU (g:=stG n) (p:=stP c) (o:=(stO n).take j) (k:=(stO n)[j]) (by rw [ih]; exact hcan)
     rw [this,ih,← List.take_succ_eq_append_getElem hlt]
    ·have e1 : min j c.toNat = c.toNat:=by omega
     have e2 : min (j + 1) c.toNat = c.toNat:=by omega
     rw [e1] at ih
     rw [e2]
     have hnj : (stO n)[j] ∉ (stO n).take c.toNat:=fun h=>by
      have h2 : (stO n)[j] ∈ (stO n).take j:=by
       have : (stO n).take c.toNat = ((stO n).take j).take c.toNat:=by rw [List.take_take]; congr 1; omega
       rw [this] at h
       exact List.mem_of_mem_take h
      have hn3:=hnd.sublist (List.take_sublist (j + 1) (stO n))
      rw [List.take_succ_eq_append_getElem hlt,List.nodup_append] at hn3
      exact hn3.2.2 _ h2 _ (by simp) rfl
     have hsub0 : ∀ k ∈ (stO n).take c.toNat ++ [(stO n)[j]],k ∈ stO n:=fun k hk=>by
      rcases List.mem_append.1 hk with hk | hk
      ·exact List.mem_of_mem_take hk
      ·rw [List.mem_singleton] at hk
       rw [hk]
       exact List.getElem_mem _
     have hnd2 : ((stO n).take c.toNat ++ [(stO n)[j]]).Nodup:=by
      rw [List.nodup_append]
      refine ⟨hnd.sublist (List.take_sublist _ _),by simp,fun a ha b hb hab=>?_⟩
      rw [List.mem_singleton] at hb
      rw [hab,hb] at ha
      exact hnj ha
     have hpm:=zga hnd2 fun k hk=>hr k (hsub0 k hk)
     have hcan : ¬ zaC (stG n) (stP c) (za3 ((stO n).take c.toNat ++ [(stO n)[j]])):=by
      rw [zvK hn hc (fun k hk=>hsub0 k (zeG.1 hk).1) ?_ (hpm.nodup_iff.1 hnd2)]
      ·rw [← hpm.length_eq,List.length_append,List.length_take,List.length_singleton]
       omega
      ·rw [← hpm.mem_iff]
       refine List.mem_append_left _ ?_
       obtain ⟨m,hm⟩ : ∃ m,c.toNat = m + 1:=⟨c.toNat - 1,by omega⟩
       rw [hm]
       simp [stO]
     have:=zi4 (g:=stG n) (p:=stP c) (o:=(stO n).take j) (k:=(stO n)[j]) (by rw [ih]; exact hcan)
     rw [this,ih]
 have:=key (n + 1) (Nat.le_refl _)
 rw [List.take_of_length_le (by omega)] at this
 rw [this]
 by_cases h : c.toNat ≤ n + 1
 ·rw [Nat.min_eq_right h]
 ·rw [Nat.min_eq_left (by omega),List.take_of_length_le (by omega),List.take_of_length_le (by omega)]
end
def wG : Gr:=⟨64,[],[]⟩
def wP : Pol:=⟨[0,1],[2],1⟩
theorem zuz : GrOk wG:=GrOk.off (by decide) (by decide) (by decide) (fun i h=>by simp at h) (by decide) (by simp)
theorem zxX : zcx 64 wP:=by
 refine ⟨by simp [wP],fun i h=>?_,by simp [wP],by simp [wP],by simp [wP],by simp [wP],fun i h=>?_⟩
 ·have : i = 0 ∨ i = 1:=by simp [wP] at h; omega
  rcases this with rfl | rfl
  ·exact ⟨by simp [wP],by simp [wP],fun h=>by omega⟩
  ·exact ⟨by simp [wP],by simp [wP],fun h=>by simp [wP]⟩
 ·obtain rfl : i = 0:=by simp [wP] at h; omega
  simp [wP]
theorem zsQ {k : Int} (h : 0 ≤ dist wG [0,1] k) : dist wG [0,1] k = 0:=by
 refine Decidable.byContradiction fun h0=>?_
 obtain ⟨m,hm⟩ : ∃ m : Nat,dist wG [0,1] k = (m : Int) + 1:=⟨(dist wG [0,1] k - 1).toNat,by omega⟩
 obtain ⟨e,he,_⟩:=zoD zuz hm
 simp [wG] at he
theorem zxn : ordL wG [0,1] = [0,1]:=by
 have hm : ∀ k,k ∈ ordL wG [0,1] ↔ k = 0 ∨ k = 1:=fun k=>by
  unfold ordL
  rw [zeh]
  have hs : dist wG [0,1] k = 0 ↔ k = 0 ∨ k = 1:=by
   rw [zkm zuz]
   unfold zd8 wG
   simp
  constructor
  ·exact fun h=>hs.1 (zsQ h.2.1)
  ·intro h
   rw [hs.2 h]
   refine ⟨⟨by omega,?_⟩,by omega,by decide⟩
   show k < (64 : Nat)
   omega
 refine zgN ?_ (by simp) fun k=>by rw [hm]; simp
 have hp : (ordL wG [0,1]).Pairwise (Lt wG [0,1]):=zhF _
 refine hp.imp_of_mem fun {a b} ha hb hab=>?_
 have h1 : dist wG [0,1] a = 0:=zsQ ((zeh.1 ha).2.1)
 have h2 : dist wG [0,1] b = 0:=zsQ ((zeh.1 hb).2.1)
 unfold Lt at hab
 rw [h1,h2] at hab
 omega
theorem zAH : accR wG wP [0,1] = [0,1]:=by
 obtain ⟨l,hl⟩:=zsv zuz zxX
 have e : ordL (zas wG wP.lv) wP.seeds = [0,1]:=zxn
 rw [e] at hl
 have hs : ze1 wG wP = [0,1]:=by decide
 rw [hs] at hl
 have hlen:=zqx (g:=wG) (p:=wP) [0,1]
 rw [hl] at hlen ⊢
 have : l = []:=by
  cases l with
  | nil=>rfl
  | cons a b=>simp at hlen
 rw [this]
 rfl
end Go.Proofs.YtklclphfcibagaaGreat
