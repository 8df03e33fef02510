/- Texts of this claim,merged. -/
import Derived.Test.YtklclphfcibagaaGreatRy15
set_option linter.unusedSimpArgs false
set_option linter.unusedVariables false
set_option linter.unusedSectionVars false
namespace Go.Proofs.YtklclphfcibagaaGreat
open Go
set_option maxRecDepth 100000
def tblO : List (FuncId × AFun):=[(zdr,zeD),(zab,zep)]
theorem srcO : ∀ q ∈ tblO,Src Tryz.prog q.1 q.2:=zaf zgg (zaf zgw zaT)
def tblK : List (FuncId × AFun):=[(zdZ,zjm),(zab,zep),(zdr,zeD),(zeE,zgb),(zeA,zhx),(zgH,ziz),(zej,zfP),(zaY,zhG),(zbB,zfN),(zbe,zbS),(zap,zbC),(zdK,zhn),(zb7,zdP),(za2,zc1),(zc5,zfH),(zcq,zfa),(zdY,zge),(zbP,zer),(zea,zfV),(zar,zfd),(zc0,zd4),(zdV,ze9),(za5,zbq),(za0,zbW),(zaZ,zcA),(zbE,zcc),(zeL,zg8),(zdQ,zfb),(zaK,zbb),(zaH,zbl),(za9,zbw),(zaA,zbo),(za8,zbv),(zaM,za1),(zeX,zgz),(zhT,zkp),(zeW,zgC),(zeb,zfM),(zaR,zk6)]
theorem srcK : ∀ q ∈ tblK,Src Tryz.prog q.1 q.2:=zaf zn6 (zaf zgw (zaf zgg (zaf zkF (zaf zks (zaf zlC (zaf zh2 (zaf zih (zaf zfG (zaf zbT (zaf zbA (zaf zg2 (zaf zdR (zaf zcV (zaf zfL (zaf ze4 (zaf zgD (zaf zeq (zaf zig (zaf zgY (zaf zfW (zaf zgZ (zaf zb9 (zaf zcK (zaf zbY (zaf zdc (zaf zkU (zaf zgU (zaf zbG (zaf zbV (zaf zca (zaf zb3 (zaf zcb (zaf zbn (zaf zjw (zaf zoh (zaf zjq (zaf zhC (zaf znV zaT))))))))))))))))))))))))))))))))))))))
abbrev fR10 (f R : List (List AV)) : Fct:=⟨zaq,[.agg [.I 64,.nilS,.nilS],.agg [.vs 1 false [[.I 0]],.vs 1 false [[.I 1],[.I 1]],.I 2]],.tup [.agg [.vs 1 false [[.I 0]],.vs 1 false f,.vs 2 false R],.I 0],[]⟩
theorem zby {n : Nat} {c : Int} (hn : n ≤ 5) (hc : 1 ≤ c ∧ c ≤ 6) {E : AV} (hE : Wk E (eEs (stE n))) :
  ∃ f R,Fct.Ok Tryz.prog ⟨zaq,[.agg [.I 64,E,.nilS],.agg [.vs 1 false [[.I 0]],.vs 1 false [[.I c],[.I 1]],.I 2]],.tup [.agg [ints ((stO n).take c.toNat),.vs 1 false f,.vs 2 false R],.I 0],[]⟩:=by
 have hl : zas (stG n) (stP c).lv = stG n:=zjX hn
 have ho : ordL (zas (stG n) (stP c).lv) (stP c).seeds = stO n:=by rw [hl]; exact zvJ hn
 obtain ⟨f,_,hrun⟩:=zjl (stG n) (stP c) (zoa hn) (zvd hc) (by simp [stP]) (.inr (by rw [ho]; simp [stO]; omega))
 rw [ho,zye hn hc] at hrun
 exact ⟨_,_,hrun.wk ⟨wkA3 (.refl _) hE (.nil _ _),.refl _,trivial⟩⟩
abbrev fRw (f R : List (List AV)) : Fct:=⟨zaq,[.agg [.I 64,.nilS,.nilS],.agg [.vs 1 false [[.I 0],[.I 1]],.vs 1 false [[.I 2]],.I 1]],.tup [.agg [.vs 1 false [[.I 0],[.I 1]],.vs 1 false f,.vs 2 false R],.I 0],[]⟩
theorem zAU : ∃ f R,(fRw f R).Ok Tryz.prog:=by
 have ho : ordL (zas wG wP.lv) wP.seeds = [0,1]:=zxn
 obtain ⟨f,_,hrun⟩:=zjl wG wP zuz zxX (by simp [wP]) (.inr (by rw [ho]; decide))
 rw [ho,zAH] at hrun
 exact ⟨_,_,hrun.wk ⟨wkA3 (.refl _) (.nil _ _) (.nil _ _),.refl _,trivial⟩⟩
theorem zpy : ∃ f R,(fR10 f R).Ok Tryz.prog:=zby (n:=0) (c:=1) (by omega) (by omega) (.nil _ _)
abbrev fR11 (f R : List (List AV)) : Fct:=⟨zaq,[.agg [.I 64,.vs 3 false [[.I 0,.I 5,.I 2]],.nilS],.agg [.vs 1 false [[.I 0]],.vs 1 false [[.I 1],[.I 1]],.I 2]],.tup [.agg [.vs 1 false [[.I 0]],.vs 1 false f,.vs 2 false R],.I 0],[]⟩
theorem zAt : ∃ f R,(fR11 f R).Ok Tryz.prog:=zby (n:=1) (c:=1) (by omega) (by omega) (.refl _)
abbrev fR12 (f R : List (List AV)) : Fct:=⟨zaq,[.agg [.I 64,.vs 3 false [[.I 0,.I 5,.I 2],[.I 0,.I 6,.I 3]],.nilS],.agg [.vs 1 false [[.I 0]],.vs 1 false [[.I 1],[.I 1]],.I 2]],.tup [.agg [.vs 1 false [[.I 0]],.vs 1 false f,.vs 2 false R],.I 0],[]⟩
theorem zzz : ∃ f R,(fR12 f R).Ok Tryz.prog:=zby (n:=2) (c:=1) (by omega) (by omega) (.refl _)
abbrev fR13 (f R : List (List AV)) : Fct:=⟨zaq,[.agg [.I 64,.vs 3 false [[.I 0,.I 5,.I 2],[.I 0,.I 6,.I 3],[.I 0,.I 7,.I 2]],.nilS],.agg [.vs 1 false [[.I 0]],.vs 1 false [[.I 1],[.I 1]],.I 2]],.tup [.agg [.vs 1 false [[.I 0]],.vs 1 false f,.vs 2 false R],.I 0],[]⟩
theorem zAl : ∃ f R,(fR13 f R).Ok Tryz.prog:=zby (n:=3) (c:=1) (by omega) (by omega) (.refl _)
abbrev fR14 (f R : List (List AV)) : Fct:=⟨zaq,[.agg [.I 64,.vs 3 false [[.I 0,.I 5,.I 2],[.I 0,.I 6,.I 3],[.I 0,.I 7,.I 2],[.I 0,.I 8,.I 3]],.nilS],.agg [.vs 1 false [[.I 0]],.vs 1 false [[.I 1],[.I 1]],.I 2]],.tup [.agg [.vs 1 false [[.I 0]],.vs 1 false f,.vs 2 false R],.I 0],[]⟩
theorem zCb : ∃ f R,(fR14 f R).Ok Tryz.prog:=zby (n:=4) (c:=1) (by omega) (by omega) (.refl _)
abbrev fR15 (f R : List (List AV)) : Fct:=⟨zaq,[.agg [.I 64,.vs 3 false [[.I 0,.I 5,.I 2],[.I 0,.I 6,.I 3],[.I 0,.I 7,.I 2],[.I 0,.I 8,.I 3],[.I 0,.I 9,.I 2]],.nilS],.agg [.vs 1 false [[.I 0]],.vs 1 false [[.I 1],[.I 1]],.I 2]],.tup [.agg [.vs 1 false [[.I 0]],.vs 1 false f,.vs 2 false R],.I 0],[]⟩
theorem zAp : ∃ f R,(fR15 f R).Ok Tryz.prog:=zby (n:=5) (c:=1) (by omega) (by omega) (.refl _)
abbrev fR20 (f R : List (List AV)) : Fct:=⟨zaq,[.agg [.I 64,.nilS,.nilS],.agg [.vs 1 false [[.I 0]],.vs 1 false [[.I 2],[.I 1]],.I 2]],.tup [.agg [.vs 1 false [[.I 0]],.vs 1 false f,.vs 2 false R],.I 0],[]⟩
theorem zpH : ∃ f R,(fR20 f R).Ok Tryz.prog:=zby (n:=0) (c:=2) (by omega) (by omega) (.nil _ _)
abbrev fR21 (f R : List (List AV)) : Fct:=⟨zaq,[.agg [.I 64,.vs 3 false [[.I 0,.I 5,.I 2]],.nilS],.agg [.vs 1 false [[.I 0]],.vs 1 false [[.I 2],[.I 1]],.I 2]],.tup [.agg [.vs 1 false [[.I 0],[.I 5]],.vs 1 false f,.vs 2 false R],.I 0],[]⟩
theorem zzM : ∃ f R,(fR21 f R).Ok Tryz.prog:=zby (n:=1) (c:=2) (by omega) (by omega) (.refl _)
abbrev fR22 (f R : List (List AV)) : Fct:=⟨zaq,[.agg [.I 64,.vs 3 false [[.I 0,.I 5,.I 2],[.I 0,.I 6,.I 3]],.nilS],.agg [.vs 1 false [[.I 0]],.vs 1 false [[.I 2],[.I 1]],.I 2]],.tup [.agg [.vs 1 false [[.I 0],[.I 5]],.vs 1 false f,.vs 2 false R],.I 0],[]⟩
theorem zBE : ∃ f R,(fR22 f R).Ok Tryz.prog:=zby (n:=2) (c:=2) (by omega) (by omega) (.refl _)
abbrev fR23 (f R : List (List AV)) : Fct:=⟨zaq,[.agg [.I 64,.vs 3 false [[.I 0,.I 5,.I 2],[.I 0,.I 6,.I 3],[.I 0,.I 7,.I 2]],.nilS],.agg [.vs 1 false [[.I 0]],.vs 1 false [[.I 2],[.I 1]],.I 2]],.tup [.agg [.vs 1 false [[.I 0],[.I 5]],.vs 1 false f,.vs 2 false R],.I 0],[]⟩
theorem zA2 : ∃ f R,(fR23 f R).Ok Tryz.prog:=zby (n:=3) (c:=2) (by omega) (by omega) (.refl _)
abbrev fR24 (f R : List (List AV)) : Fct:=⟨zaq,[.agg [.I 64,.vs 3 false [[.I 0,.I 5,.I 2],[.I 0,.I 6,.I 3],[.I 0,.I 7,.I 2],[.I 0,.I 8,.I 3]],.nilS],.agg [.vs 1 false [[.I 0]],.vs 1 false [[.I 2],[.I 1]],.I 2]],.tup [.agg [.vs 1 false [[.I 0],[.I 5]],.vs 1 false f,.vs 2 false R],.I 0],[]⟩
theorem zy8 : ∃ f R,(fR24 f R).Ok Tryz.prog:=zby (n:=4) (c:=2) (by omega) (by omega) (.refl _)
abbrev fR25 (f R : List (List AV)) : Fct:=⟨zaq,[.agg [.I 64,.vs 3 false [[.I 0,.I 5,.I 2],[.I 0,.I 6,.I 3],[.I 0,.I 7,.I 2],[.I 0,.I 8,.I 3],[.I 0,.I 9,.I 2]],.nilS],.agg [.vs 1 false [[.I 0]],.vs 1 false [[.I 2],[.I 1]],.I 2]],.tup [.agg [.vs 1 false [[.I 0],[.I 5]],.vs 1 false f,.vs 2 false R],.I 0],[]⟩
theorem zzr : ∃ f R,(fR25 f R).Ok Tryz.prog:=zby (n:=5) (c:=2) (by omega) (by omega) (.refl _)
abbrev fR30 (f R : List (List AV)) : Fct:=⟨zaq,[.agg [.I 64,.nilS,.nilS],.agg [.vs 1 false [[.I 0]],.vs 1 false [[.I 3],[.I 1]],.I 2]],.tup [.agg [.vs 1 false [[.I 0]],.vs 1 false f,.vs 2 false R],.I 0],[]⟩
theorem zoP : ∃ f R,(fR30 f R).Ok Tryz.prog:=zby (n:=0) (c:=3) (by omega) (by omega) (.nil _ _)
abbrev fR31 (f R : List (List AV)) : Fct:=⟨zaq,[.agg [.I 64,.vs 3 false [[.I 0,.I 5,.I 2]],.nilS],.agg [.vs 1 false [[.I 0]],.vs 1 false [[.I 3],[.I 1]],.I 2]],.tup [.agg [.vs 1 false [[.I 0],[.I 5]],.vs 1 false f,.vs 2 false R],.I 0],[]⟩
theorem zBy : ∃ f R,(fR31 f R).Ok Tryz.prog:=zby (n:=1) (c:=3) (by omega) (by omega) (.refl _)
abbrev fR32 (f R : List (List AV)) : Fct:=⟨zaq,[.agg [.I 64,.vs 3 false [[.I 0,.I 5,.I 2],[.I 0,.I 6,.I 3]],.nilS],.agg [.vs 1 false [[.I 0]],.vs 1 false [[.I 3],[.I 1]],.I 2]],.tup [.agg [.vs 1 false [[.I 0],[.I 5],[.I 6]],.vs 1 false f,.vs 2 false R],.I 0],[]⟩
theorem zy0 : ∃ f R,(fR32 f R).Ok Tryz.prog:=zby (n:=2) (c:=3) (by omega) (by omega) (.refl _)
abbrev fR33 (f R : List (List AV)) : Fct:=⟨zaq,[.agg [.I 64,.vs 3 false [[.I 0,.I 5,.I 2],[.I 0,.I 6,.I 3],[.I 0,.I 7,.I 2]],.nilS],.agg [.vs 1 false [[.I 0]],.vs 1 false [[.I 3],[.I 1]],.I 2]],.tup [.agg [.vs 1 false [[.I 0],[.I 5],[.I 6]],.vs 1 false f,.vs 2 false R],.I 0],[]⟩
theorem zB8 : ∃ f R,(fR33 f R).Ok Tryz.prog:=zby (n:=3) (c:=3) (by omega) (by omega) (.refl _)
abbrev fR34 (f R : List (List AV)) : Fct:=⟨zaq,[.agg [.I 64,.vs 3 false [[.I 0,.I 5,.I 2],[.I 0,.I 6,.I 3],[.I 0,.I 7,.I 2],[.I 0,.I 8,.I 3]],.nilS],.agg [.vs 1 false [[.I 0]],.vs 1 false [[.I 3],[.I 1]],.I 2]],.tup [.agg [.vs 1 false [[.I 0],[.I 5],[.I 6]],.vs 1 false f,.vs 2 false R],.I 0],[]⟩
theorem zB0 : ∃ f R,(fR34 f R).Ok Tryz.prog:=zby (n:=4) (c:=3) (by omega) (by omega) (.refl _)
abbrev fR35 (f R : List (List AV)) : Fct:=⟨zaq,[.agg [.I 64,.vs 3 false [[.I 0,.I 5,.I 2],[.I 0,.I 6,.I 3],[.I 0,.I 7,.I 2],[.I 0,.I 8,.I 3],[.I 0,.I 9,.I 2]],.nilS],.agg [.vs 1 false [[.I 0]],.vs 1 false [[.I 3],[.I 1]],.I 2]],.tup [.agg [.vs 1 false [[.I 0],[.I 5],[.I 6]],.vs 1 false f,.vs 2 false R],.I 0],[]⟩
theorem zz5 : ∃ f R,(fR35 f R).Ok Tryz.prog:=zby (n:=5) (c:=3) (by omega) (by omega) (.refl _)
abbrev fR40 (f R : List (List AV)) : Fct:=⟨zaq,[.agg [.I 64,.nilS,.nilS],.agg [.vs 1 false [[.I 0]],.vs 1 false [[.I 4],[.I 1]],.I 2]],.tup [.agg [.vs 1 false [[.I 0]],.vs 1 false f,.vs 2 false R],.I 0],[]⟩
theorem zps : ∃ f R,(fR40 f R).Ok Tryz.prog:=zby (n:=0) (c:=4) (by omega) (by omega) (.nil _ _)
abbrev fR41 (f R : List (List AV)) : Fct:=⟨zaq,[.agg [.I 64,.vs 3 false [[.I 0,.I 5,.I 2]],.nilS],.agg [.vs 1 false [[.I 0]],.vs 1 false [[.I 4],[.I 1]],.I 2]],.tup [.agg [.vs 1 false [[.I 0],[.I 5]],.vs 1 false f,.vs 2 false R],.I 0],[]⟩
theorem zBx : ∃ f R,(fR41 f R).Ok Tryz.prog:=zby (n:=1) (c:=4) (by omega) (by omega) (.refl _)
abbrev fR42 (f R : List (List AV)) : Fct:=⟨zaq,[.agg [.I 64,.vs 3 false [[.I 0,.I 5,.I 2],[.I 0,.I 6,.I 3]],.nilS],.agg [.vs 1 false [[.I 0]],.vs 1 false [[.I 4],[.I 1]],.I 2]],.tup [.agg [.vs 1 false [[.I 0],[.I 5],[.I 6]],.vs 1 false f,.vs 2 false R],.I 0],[]⟩
theorem zA7 : ∃ f R,(fR42 f R).Ok Tryz.prog:=zby (n:=2) (c:=4) (by omega) (by omega) (.refl _)
abbrev fR43 (f R : List (List AV)) : Fct:=⟨zaq,[.agg [.I 64,.vs 3 false [[.I 0,.I 5,.I 2],[.I 0,.I 6,.I 3],[.I 0,.I 7,.I 2]],.nilS],.agg [.vs 1 false [[.I 0]],.vs 1 false [[.I 4],[.I 1]],.I 2]],.tup [.agg [.vs 1 false [[.I 0],[.I 5],[.I 6],[.I 7]],.vs 1 false f,.vs 2 false R],.I 0],[]⟩
theorem zzs : ∃ f R,(fR43 f R).Ok Tryz.prog:=zby (n:=3) (c:=4) (by omega) (by omega) (.refl _)
abbrev fR44 (f R : List (List AV)) : Fct:=⟨zaq,[.agg [.I 64,.vs 3 false [[.I 0,.I 5,.I 2],[.I 0,.I 6,.I 3],[.I 0,.I 7,.I 2],[.I 0,.I 8,.I 3]],.nilS],.agg [.vs 1 false [[.I 0]],.vs 1 false [[.I 4],[.I 1]],.I 2]],.tup [.agg [.vs 1 false [[.I 0],[.I 5],[.I 6],[.I 7]],.vs 1 false f,.vs 2 false R],.I 0],[]⟩
theorem zzN : ∃ f R,(fR44 f R).Ok Tryz.prog:=zby (n:=4) (c:=4) (by omega) (by omega) (.refl _)
abbrev fR45 (f R : List (List AV)) : Fct:=⟨zaq,[.agg [.I 64,.vs 3 false [[.I 0,.I 5,.I 2],[.I 0,.I 6,.I 3],[.I 0,.I 7,.I 2],[.I 0,.I 8,.I 3],[.I 0,.I 9,.I 2]],.nilS],.agg [.vs 1 false [[.I 0]],.vs 1 false [[.I 4],[.I 1]],.I 2]],.tup [.agg [.vs 1 false [[.I 0],[.I 5],[.I 6],[.I 7]],.vs 1 false f,.vs 2 false R],.I 0],[]⟩
theorem zBF : ∃ f R,(fR45 f R).Ok Tryz.prog:=zby (n:=5) (c:=4) (by omega) (by omega) (.refl _)
abbrev fR50 (f R : List (List AV)) : Fct:=⟨zaq,[.agg [.I 64,.nilS,.nilS],.agg [.vs 1 false [[.I 0]],.vs 1 false [[.I 5],[.I 1]],.I 2]],.tup [.agg [.vs 1 false [[.I 0]],.vs 1 false f,.vs 2 false R],.I 0],[]⟩
theorem zpL : ∃ f R,(fR50 f R).Ok Tryz.prog:=zby (n:=0) (c:=5) (by omega) (by omega) (.nil _ _)
abbrev fR51 (f R : List (List AV)) : Fct:=⟨zaq,[.agg [.I 64,.vs 3 false [[.I 0,.I 5,.I 2]],.nilS],.agg [.vs 1 false [[.I 0]],.vs 1 false [[.I 5],[.I 1]],.I 2]],.tup [.agg [.vs 1 false [[.I 0],[.I 5]],.vs 1 false f,.vs 2 false R],.I 0],[]⟩
theorem zzx : ∃ f R,(fR51 f R).Ok Tryz.prog:=zby (n:=1) (c:=5) (by omega) (by omega) (.refl _)
abbrev fR52 (f R : List (List AV)) : Fct:=⟨zaq,[.agg [.I 64,.vs 3 false [[.I 0,.I 5,.I 2],[.I 0,.I 6,.I 3]],.nilS],.agg [.vs 1 false [[.I 0]],.vs 1 false [[.I 5],[.I 1]],.I 2]],.tup [.agg [.vs 1 false [[.I 0],[.I 5],[.I 6]],.vs 1 false f,.vs 2 false R],.I 0],[]⟩
theorem zzy : ∃ f R,(fR52 f R).Ok Tryz.prog:=zby (n:=2) (c:=5) (by omega) (by omega) (.refl _)
abbrev fR53 (f R : List (List AV)) : Fct:=⟨zaq,[.agg [.I 64,.vs 3 false [[.I 0,.I 5,.I 2],[.I 0,.I 6,.I 3],[.I 0,.I 7,.I 2]],.nilS],.agg [.vs 1 false [[.I 0]],.vs 1 false [[.I 5],[.I 1]],.I 2]],.tup [.agg [.vs 1 false [[.I 0],[.I 5],[.I 6],[.I 7]],.vs 1 false f,.vs 2 false R],.I 0],[]⟩
theorem zBo : ∃ f R,(fR53 f R).Ok Tryz.prog:=zby (n:=3) (c:=5) (by omega) (by omega) (.refl _)
abbrev fR54 (f R : List (List AV)) : Fct:=⟨zaq,[.agg [.I 64,.vs 3 false [[.I 0,.I 5,.I 2],[.I 0,.I 6,.I 3],[.I 0,.I 7,.I 2],[.I 0,.I 8,.I 3]],.nilS],.agg [.vs 1 false [[.I 0]],.vs 1 false [[.I 5],[.I 1]],.I 2]],.tup [.agg [.vs 1 false [[.I 0],[.I 5],[.I 6],[.I 7],[.I 8]],.vs 1 false f,.vs 2 false R],.I 0],[]⟩
theorem zA0 : ∃ f R,(fR54 f R).Ok Tryz.prog:=zby (n:=4) (c:=5) (by omega) (by omega) (.refl _)
abbrev fR55 (f R : List (List AV)) : Fct:=⟨zaq,[.agg [.I 64,.vs 3 false [[.I 0,.I 5,.I 2],[.I 0,.I 6,.I 3],[.I 0,.I 7,.I 2],[.I 0,.I 8,.I 3],[.I 0,.I 9,.I 2]],.nilS],.agg [.vs 1 false [[.I 0]],.vs 1 false [[.I 5],[.I 1]],.I 2]],.tup [.agg [.vs 1 false [[.I 0],[.I 5],[.I 6],[.I 7],[.I 8]],.vs 1 false f,.vs 2 false R],.I 0],[]⟩
theorem zBh : ∃ f R,(fR55 f R).Ok Tryz.prog:=zby (n:=5) (c:=5) (by omega) (by omega) (.refl _)
abbrev fR60 (f R : List (List AV)) : Fct:=⟨zaq,[.agg [.I 64,.nilS,.nilS],.agg [.vs 1 false [[.I 0]],.vs 1 false [[.I 6],[.I 1]],.I 2]],.tup [.agg [.vs 1 false [[.I 0]],.vs 1 false f,.vs 2 false R],.I 0],[]⟩
theorem zpF : ∃ f R,(fR60 f R).Ok Tryz.prog:=zby (n:=0) (c:=6) (by omega) (by omega) (.nil _ _)
abbrev fR61 (f R : List (List AV)) : Fct:=⟨zaq,[.agg [.I 64,.vs 3 false [[.I 0,.I 5,.I 2]],.nilS],.agg [.vs 1 false [[.I 0]],.vs 1 false [[.I 6],[.I 1]],.I 2]],.tup [.agg [.vs 1 false [[.I 0],[.I 5]],.vs 1 false f,.vs 2 false R],.I 0],[]⟩
theorem zBf : ∃ f R,(fR61 f R).Ok Tryz.prog:=zby (n:=1) (c:=6) (by omega) (by omega) (.refl _)
abbrev fR62 (f R : List (List AV)) : Fct:=⟨zaq,[.agg [.I 64,.vs 3 false [[.I 0,.I 5,.I 2],[.I 0,.I 6,.I 3]],.nilS],.agg [.vs 1 false [[.I 0]],.vs 1 false [[.I 6],[.I 1]],.I 2]],.tup [.agg [.vs 1 false [[.I 0],[.I 5],[.I 6]],.vs 1 false f,.vs 2 false R],.I 0],[]⟩
theorem zAA : ∃ f R,(fR62 f R).Ok Tryz.prog:=zby (n:=2) (c:=6) (by omega) (by omega) (.refl _)
abbrev fR63 (f R : List (List AV)) : Fct:=⟨zaq,[.agg [.I 64,.vs 3 false [[.I 0,.I 5,.I 2],[.I 0,.I 6,.I 3],[.I 0,.I 7,.I 2]],.nilS],.agg [.vs 1 false [[.I 0]],.vs 1 false [[.I 6],[.I 1]],.I 2]],.tup [.agg [.vs 1 false [[.I 0],[.I 5],[.I 6],[.I 7]],.vs 1 false f,.vs 2 false R],.I 0],[]⟩
theorem zzW : ∃ f R,(fR63 f R).Ok Tryz.prog:=zby (n:=3) (c:=6) (by omega) (by omega) (.refl _)
abbrev fR64 (f R : List (List AV)) : Fct:=⟨zaq,[.agg [.I 64,.vs 3 false [[.I 0,.I 5,.I 2],[.I 0,.I 6,.I 3],[.I 0,.I 7,.I 2],[.I 0,.I 8,.I 3]],.nilS],.agg [.vs 1 false [[.I 0]],.vs 1 false [[.I 6],[.I 1]],.I 2]],.tup [.agg [.vs 1 false [[.I 0],[.I 5],[.I 6],[.I 7],[.I 8]],.vs 1 false f,.vs 2 false R],.I 0],[]⟩
theorem zAv : ∃ f R,(fR64 f R).Ok Tryz.prog:=zby (n:=4) (c:=6) (by omega) (by omega) (.refl _)
abbrev fR65 (f R : List (List AV)) : Fct:=⟨zaq,[.agg [.I 64,.vs 3 false [[.I 0,.I 5,.I 2],[.I 0,.I 6,.I 3],[.I 0,.I 7,.I 2],[.I 0,.I 8,.I 3],[.I 0,.I 9,.I 2]],.nilS],.agg [.vs 1 false [[.I 0]],.vs 1 false [[.I 6],[.I 1]],.I 2]],.tup [.agg [.vs 1 false [[.I 0],[.I 5],[.I 6],[.I 7],[.I 8],[.I 9]],.vs 1 false f,.vs 2 false R],.I 0],[]⟩
theorem zzp : ∃ f R,(fR65 f R).Ok Tryz.prog:=zby (n:=5) (c:=6) (by omega) (by omega) (.refl _)
abbrev zAz : Fct:=⟨zab,[ru1,sl0,.I 0],.tup [.vs 1 false [[.I 0]],.I 0],[]⟩
theorem zBr (f R : List (List AV)) : evN spV (zam [fT10,fA00,fR10 f R]) tblO 1000 40 zab [ru1,sl0,.I 0] [] = some (.tup [.vs 1 false [[.I 0]],.I 0],[]):=by kernel_rfl
theorem ztf : zAz.Ok Tryz.prog:=let ⟨f,R,h⟩:=zpy; zav (zaa zio (zaa ziD (zaa h zae))) srcO (zBr f R)
abbrev zzV : Fct:=⟨zab,[ru1,sl0,.I 1],.tup [.vs 1 false [[.I 0]],.I 0],[]⟩
theorem zA9 (f R : List (List AV)) : evN spV (zam [fT11,fA01,fR10 f R]) tblO 1000 40 zab [ru1,sl0,.I 1] [] = some (.tup [.vs 1 false [[.I 0]],.I 0],[]):=by kernel_rfl
theorem zuw : zzV.Ok Tryz.prog:=let ⟨f,R,h⟩:=zpy; zav (zaa zix (zaa ziI (zaa h zae))) srcO (zA9 f R)
abbrev zAk : Fct:=⟨zab,[ru1,sl1,.I 0],.tup [.vs 1 false [[.I 0]],.I 0],[]⟩
theorem zzP (f R : List (List AV)) : evN spV (zam [fT10,fA10,fR11 f R]) tblO 1000 40 zab [ru1,sl1,.I 0] [] = some (.tup [.vs 1 false [[.I 0]],.I 0],[]):=by kernel_rfl
theorem zuI : zAk.Ok Tryz.prog:=let ⟨f,R,h⟩:=zAt; zav (zaa zio (zaa ziN (zaa h zae))) srcO (zzP f R)
abbrev zBd : Fct:=⟨zab,[ru1,sl1,.I 1],.tup [.vs 1 false [[.I 0]],.I 0],[]⟩
theorem zzd (f R : List (List AV)) : evN spV (zam [fT11,fA11,fR10 f R]) tblO 1000 40 zab [ru1,sl1,.I 1] [] = some (.tup [.vs 1 false [[.I 0]],.I 0],[]):=by kernel_rfl
theorem ztK : zBd.Ok Tryz.prog:=let ⟨f,R,h⟩:=zpy; zav (zaa zix (zaa ziV (zaa h zae))) srcO (zzd f R)
abbrev zzc : Fct:=⟨zab,[ru1,sl2,.I 0],.tup [.vs 1 false [[.I 0]],.I 0],[]⟩
theorem zy2 (f R : List (List AV)) : evN spV (zam [fT10,fA20,fR12 f R]) tblO 1000 40 zab [ru1,sl2,.I 0] [] = some (.tup [.vs 1 false [[.I 0]],.I 0],[]):=by kernel_rfl
theorem ztW : zzc.Ok Tryz.prog:=let ⟨f,R,h⟩:=zzz; zav (zaa zio (zaa ziu (zaa h zae))) srcO (zy2 f R)
abbrev zCa : Fct:=⟨zab,[ru1,sl2,.I 1],.tup [.vs 1 false [[.I 0]],.I 0],[]⟩
theorem zy7 (f R : List (List AV)) : evN spV (zam [fT11,fA21,fR10 f R]) tblO 1000 40 zab [ru1,sl2,.I 1] [] = some (.tup [.vs 1 false [[.I 0]],.I 0],[]):=by kernel_rfl
theorem zt1 : zCa.Ok Tryz.prog:=let ⟨f,R,h⟩:=zpy; zav (zaa zix (zaa zi7 (zaa h zae))) srcO (zy7 f R)
abbrev zAD : Fct:=⟨zab,[ru1,sl3,.I 0],.tup [.vs 1 false [[.I 0]],.I 0],[]⟩
theorem zAg (f R : List (List AV)) : evN spV (zam [fT10,fA30,fR13 f R]) tblO 1000 40 zab [ru1,sl3,.I 0] [] = some (.tup [.vs 1 false [[.I 0]],.I 0],[]):=by kernel_rfl
theorem zu1 : zAD.Ok Tryz.prog:=let ⟨f,R,h⟩:=zAl; zav (zaa zio (zaa ziP (zaa h zae))) srcO (zAg f R)
abbrev zy6 : Fct:=⟨zab,[ru1,sl3,.I 1],.tup [.vs 1 false [[.I 0]],.I 0],[]⟩
theorem zBA (f R : List (List AV)) : evN spV (zam [fT11,fA31,fR10 f R]) tblO 1000 40 zab [ru1,sl3,.I 1] [] = some (.tup [.vs 1 false [[.I 0]],.I 0],[]):=by kernel_rfl
theorem ztU : zy6.Ok Tryz.prog:=let ⟨f,R,h⟩:=zpy; zav (zaa zix (zaa ziC (zaa h zae))) srcO (zBA f R)
abbrev zzh : Fct:=⟨zab,[ru1,sl4,.I 0],.tup [.vs 1 false [[.I 0]],.I 0],[]⟩
theorem zAc (f R : List (List AV)) : evN spV (zam [fT10,fA40,fR14 f R]) tblO 1000 40 zab [ru1,sl4,.I 0] [] = some (.tup [.vs 1 false [[.I 0]],.I 0],[]):=by kernel_rfl
theorem zt9 : zzh.Ok Tryz.prog:=let ⟨f,R,h⟩:=zCb; zav (zaa zio (zaa ziJ (zaa h zae))) srcO (zAc f R)
abbrev zAf : Fct:=⟨zab,[ru1,sl4,.I 1],.tup [.vs 1 false [[.I 0]],.I 0],[]⟩
theorem zA3 (f R : List (List AV)) : evN spV (zam [fT11,fA41,fR10 f R]) tblO 1000 40 zab [ru1,sl4,.I 1] [] = some (.tup [.vs 1 false [[.I 0]],.I 0],[]):=by kernel_rfl
theorem ztw : zAf.Ok Tryz.prog:=let ⟨f,R,h⟩:=zpy; zav (zaa zix (zaa zja (zaa h zae))) srcO (zA3 f R)
abbrev zB7 : Fct:=⟨zab,[ru1,sl5,.I 0],.tup [.vs 1 false [[.I 0]],.I 0],[]⟩
theorem zBK (f R : List (List AV)) : evN spV (zam [fT10,fA50,fR15 f R]) tblO 1000 40 zab [ru1,sl5,.I 0] [] = some (.tup [.vs 1 false [[.I 0]],.I 0],[]):=by kernel_rfl
theorem ztc : zB7.Ok Tryz.prog:=let ⟨f,R,h⟩:=zAp; zav (zaa zio (zaa zje (zaa h zae))) srcO (zBK f R)
abbrev zzR : Fct:=⟨zab,[ru1,sl5,.I 1],.tup [.vs 1 false [[.I 0]],.I 0],[]⟩
theorem zAS (f R : List (List AV)) : evN spV (zam [fT11,fA51,fR10 f R]) tblO 1000 40 zab [ru1,sl5,.I 1] [] = some (.tup [.vs 1 false [[.I 0]],.I 0],[]):=by kernel_rfl
theorem zt4 : zzR.Ok Tryz.prog:=let ⟨f,R,h⟩:=zpy; zav (zaa zix (zaa zjf (zaa h zae))) srcO (zAS f R)
abbrev zy3 : Fct:=⟨zab,[ru2,sl0,.I 0],.tup [.vs 1 false [[.I 0]],.I 0],[]⟩
theorem zBn (f R : List (List AV)) : evN spV (zam [fT20,fA00,fR20 f R]) tblO 1000 40 zab [ru2,sl0,.I 0] [] = some (.tup [.vs 1 false [[.I 0]],.I 0],[]):=by kernel_rfl
theorem zti : zy3.Ok Tryz.prog:=let ⟨f,R,h⟩:=zpH; zav (zaa zjd (zaa ziD (zaa h zae))) srcO (zBn f R)
abbrev zBj : Fct:=⟨zab,[ru2,sl0,.I 1],.tup [.vs 1 false [[.I 0]],.I 0],[]⟩
theorem zzS (f R : List (List AV)) : evN spV (zam [fT21,fA01,fR20 f R]) tblO 1000 40 zab [ru2,sl0,.I 1] [] = some (.tup [.vs 1 false [[.I 0]],.I 0],[]):=by kernel_rfl
theorem zuC : zBj.Ok Tryz.prog:=let ⟨f,R,h⟩:=zpH; zav (zaa ziO (zaa ziI (zaa h zae))) srcO (zzS f R)
abbrev zAI : Fct:=⟨zab,[ru2,sl1,.I 0],.tup [.vs 1 false [[.I 0],[.I 5]],.I 0],[]⟩
theorem zzD (f R : List (List AV)) : evN spV (zam [fT20,fA10,fR21 f R]) tblO 1000 40 zab [ru2,sl1,.I 0] [] = some (.tup [.vs 1 false [[.I 0],[.I 5]],.I 0],[]):=by kernel_rfl
theorem ztD : zAI.Ok Tryz.prog:=let ⟨f,R,h⟩:=zzM; zav (zaa zjd (zaa ziN (zaa h zae))) srcO (zzD f R)
abbrev zB5 : Fct:=⟨zab,[ru2,sl1,.I 1],.tup [.vs 1 false [[.I 0]],.I 0],[]⟩
theorem zzJ (f R : List (List AV)) : evN spV (zam [fT21,fA11,fR20 f R]) tblO 1000 40 zab [ru2,sl1,.I 1] [] = some (.tup [.vs 1 false [[.I 0]],.I 0],[]):=by kernel_rfl
theorem zuS : zB5.Ok Tryz.prog:=let ⟨f,R,h⟩:=zpH; zav (zaa ziO (zaa ziV (zaa h zae))) srcO (zzJ f R)
abbrev zzf : Fct:=⟨zab,[ru2,sl2,.I 0],.tup [.vs 1 false [[.I 0],[.I 5]],.I 0],[]⟩
theorem zzL (f R : List (List AV)) : evN spV (zam [fT20,fA20,fR22 f R]) tblO 1000 40 zab [ru2,sl2,.I 0] [] = some (.tup [.vs 1 false [[.I 0],[.I 5]],.I 0],[]):=by kernel_rfl
theorem zuD : zzf.Ok Tryz.prog:=let ⟨f,R,h⟩:=zBE; zav (zaa zjd (zaa ziu (zaa h zae))) srcO (zzL f R)
abbrev zz6 : Fct:=⟨zab,[ru2,sl2,.I 1],.tup [.vs 1 false [[.I 0]],.I 0],[]⟩
theorem zAP (f R : List (List AV)) : evN spV (zam [fT21,fA21,fR20 f R]) tblO 1000 40 zab [ru2,sl2,.I 1] [] = some (.tup [.vs 1 false [[.I 0]],.I 0],[]):=by kernel_rfl
theorem zus : zz6.Ok Tryz.prog:=let ⟨f,R,h⟩:=zpH; zav (zaa ziO (zaa zi7 (zaa h zae))) srcO (zAP f R)
abbrev zzX : Fct:=⟨zab,[ru2,sl3,.I 0],.tup [.vs 1 false [[.I 0],[.I 5]],.I 0],[]⟩
theorem zza (f R : List (List AV)) : evN spV (zam [fT20,fA30,fR23 f R]) tblO 1000 40 zab [ru2,sl3,.I 0] [] = some (.tup [.vs 1 false [[.I 0],[.I 5]],.I 0],[]):=by kernel_rfl
theorem zuK : zzX.Ok Tryz.prog:=let ⟨f,R,h⟩:=zA2; zav (zaa zjd (zaa ziP (zaa h zae))) srcO (zza f R)
abbrev zB4 : Fct:=⟨zab,[ru2,sl3,.I 1],.tup [.vs 1 false [[.I 0]],.I 0],[]⟩
theorem zyU (f R : List (List AV)) : evN spV (zam [fT21,fA31,fR20 f R]) tblO 1000 40 zab [ru2,sl3,.I 1] [] = some (.tup [.vs 1 false [[.I 0]],.I 0],[]):=by kernel_rfl
theorem zuT : zB4.Ok Tryz.prog:=let ⟨f,R,h⟩:=zpH; zav (zaa ziO (zaa ziC (zaa h zae))) srcO (zyU f R)
abbrev zBw : Fct:=⟨zab,[ru2,sl4,.I 0],.tup [.vs 1 false [[.I 0],[.I 5]],.I 0],[]⟩
theorem zBa (f R : List (List AV)) : evN spV (zam [fT20,fA40,fR24 f R]) tblO 1000 40 zab [ru2,sl4,.I 0] [] = some (.tup [.vs 1 false [[.I 0],[.I 5]],.I 0],[]):=by kernel_rfl
theorem zu9 : zBw.Ok Tryz.prog:=let ⟨f,R,h⟩:=zy8; zav (zaa zjd (zaa ziJ (zaa h zae))) srcO (zBa f R)
abbrev zBD : Fct:=⟨zab,[ru2,sl4,.I 1],.tup [.vs 1 false [[.I 0]],.I 0],[]⟩
theorem zAq (f R : List (List AV)) : evN spV (zam [fT21,fA41,fR20 f R]) tblO 1000 40 zab [ru2,sl4,.I 1] [] = some (.tup [.vs 1 false [[.I 0]],.I 0],[]):=by kernel_rfl
theorem zth : zBD.Ok Tryz.prog:=let ⟨f,R,h⟩:=zpH; zav (zaa ziO (zaa zja (zaa h zae))) srcO (zAq f R)
abbrev zzt : Fct:=⟨zab,[ru2,sl5,.I 0],.tup [.vs 1 false [[.I 0],[.I 5]],.I 0],[]⟩
theorem zBq (f R : List (List AV)) : evN spV (zam [fT20,fA50,fR25 f R]) tblO 1000 40 zab [ru2,sl5,.I 0] [] = some (.tup [.vs 1 false [[.I 0],[.I 5]],.I 0],[]):=by kernel_rfl
theorem zuf : zzt.Ok Tryz.prog:=let ⟨f,R,h⟩:=zzr; zav (zaa zjd (zaa zje (zaa h zae))) srcO (zBq f R)
abbrev zBZ : Fct:=⟨zab,[ru2,sl5,.I 1],.tup [.vs 1 false [[.I 0]],.I 0],[]⟩
theorem zyZ (f R : List (List AV)) : evN spV (zam [fT21,fA51,fR20 f R]) tblO 1000 40 zab [ru2,sl5,.I 1] [] = some (.tup [.vs 1 false [[.I 0]],.I 0],[]):=by kernel_rfl
theorem zt6 : zBZ.Ok Tryz.prog:=let ⟨f,R,h⟩:=zpH; zav (zaa ziO (zaa zjf (zaa h zae))) srcO (zyZ f R)
abbrev zyY : Fct:=⟨zab,[ru3,sl0,.I 0],.tup [.vs 1 false [[.I 0]],.I 0],[]⟩
theorem zAN (f R : List (List AV)) : evN spV (zam [fT30,fA00,fR30 f R]) tblO 1000 40 zab [ru3,sl0,.I 0] [] = some (.tup [.vs 1 false [[.I 0]],.I 0],[]):=by kernel_rfl
theorem ztd : zyY.Ok Tryz.prog:=let ⟨f,R,h⟩:=zoP; zav (zaa ziq (zaa ziD (zaa h zae))) srcO (zAN f R)
abbrev zAB : Fct:=⟨zab,[ru3,sl0,.I 1],.tup [.vs 1 false [[.I 0]],.I 0],[]⟩
theorem zBe (f R : List (List AV)) : evN spV (zam [fT31,fA01,fR30 f R]) tblO 1000 40 zab [ru3,sl0,.I 1] [] = some (.tup [.vs 1 false [[.I 0]],.I 0],[]):=by kernel_rfl
theorem ztl : zAB.Ok Tryz.prog:=let ⟨f,R,h⟩:=zoP; zav (zaa ziB (zaa ziI (zaa h zae))) srcO (zBe f R)
abbrev zzE : Fct:=⟨zab,[ru3,sl1,.I 0],.tup [.vs 1 false [[.I 0],[.I 5]],.I 0],[]⟩
theorem zBp (f R : List (List AV)) : evN spV (zam [fT30,fA10,fR31 f R]) tblO 1000 40 zab [ru3,sl1,.I 0] [] = some (.tup [.vs 1 false [[.I 0],[.I 5]],.I 0],[]):=by kernel_rfl
theorem zuO : zzE.Ok Tryz.prog:=let ⟨f,R,h⟩:=zBy; zav (zaa ziq (zaa ziN (zaa h zae))) srcO (zBp f R)
abbrev zzO : Fct:=⟨zab,[ru3,sl1,.I 1],.tup [.vs 1 false [[.I 0]],.I 0],[]⟩
theorem zB9 (f R : List (List AV)) : evN spV (zam [fT31,fA11,fR30 f R]) tblO 1000 40 zab [ru3,sl1,.I 1] [] = some (.tup [.vs 1 false [[.I 0]],.I 0],[]):=by kernel_rfl
theorem ztq : zzO.Ok Tryz.prog:=let ⟨f,R,h⟩:=zoP; zav (zaa ziB (zaa ziV (zaa h zae))) srcO (zB9 f R)
abbrev zzA : Fct:=⟨zab,[ru3,sl2,.I 0],.tup [.vs 1 false [[.I 0],[.I 5],[.I 6]],.I 0],[]⟩
theorem zAG (f R : List (List AV)) : evN spV (zam [fT30,fA20,fR32 f R]) tblO 1000 40 zab [ru3,sl2,.I 0] [] = some (.tup [.vs 1 false [[.I 0],[.I 5],[.I 6]],.I 0],[]):=by kernel_rfl
theorem zuM : zzA.Ok Tryz.prog:=let ⟨f,R,h⟩:=zy0; zav (zaa ziq (zaa ziu (zaa h zae))) srcO (zAG f R)
abbrev zzi : Fct:=⟨zab,[ru3,sl2,.I 1],.tup [.vs 1 false [[.I 0]],.I 0],[]⟩
theorem zzQ (f R : List (List AV)) : evN spV (zam [fT31,fA21,fR30 f R]) tblO 1000 40 zab [ru3,sl2,.I 1] [] = some (.tup [.vs 1 false [[.I 0]],.I 0],[]):=by kernel_rfl
theorem zut : zzi.Ok Tryz.prog:=let ⟨f,R,h⟩:=zoP; zav (zaa ziB (zaa zi7 (zaa h zae))) srcO (zzQ f R)
abbrev zy5 : Fct:=⟨zab,[ru3,sl3,.I 0],.tup [.vs 1 false [[.I 0],[.I 5],[.I 6]],.I 0],[]⟩
theorem zy1 (f R : List (List AV)) : evN spV (zam [fT30,fA30,fR33 f R]) tblO 1000 40 zab [ru3,sl3,.I 0] [] = some (.tup [.vs 1 false [[.I 0],[.I 5],[.I 6]],.I 0],[]):=by kernel_rfl
theorem zty : zy5.Ok Tryz.prog:=let ⟨f,R,h⟩:=zB8; zav (zaa ziq (zaa ziP (zaa h zae))) srcO (zy1 f R)
abbrev zAO : Fct:=⟨zab,[ru3,sl3,.I 1],.tup [.vs 1 false [[.I 0]],.I 0],[]⟩
theorem zyX (f R : List (List AV)) : evN spV (zam [fT31,fA31,fR30 f R]) tblO 1000 40 zab [ru3,sl3,.I 1] [] = some (.tup [.vs 1 false [[.I 0]],.I 0],[]):=by kernel_rfl
theorem ztO : zAO.Ok Tryz.prog:=let ⟨f,R,h⟩:=zoP; zav (zaa ziB (zaa ziC (zaa h zae))) srcO (zyX f R)
abbrev zzK : Fct:=⟨zab,[ru3,sl4,.I 0],.tup [.vs 1 false [[.I 0],[.I 5],[.I 6]],.I 0],[]⟩
theorem zAF (f R : List (List AV)) : evN spV (zam [fT30,fA40,fR34 f R]) tblO 1000 40 zab [ru3,sl4,.I 0] [] = some (.tup [.vs 1 false [[.I 0],[.I 5],[.I 6]],.I 0],[]):=by kernel_rfl
theorem zuE : zzK.Ok Tryz.prog:=let ⟨f,R,h⟩:=zB0; zav (zaa ziq (zaa ziJ (zaa h zae))) srcO (zAF f R)
abbrev zBY : Fct:=⟨zab,[ru3,sl4,.I 1],.tup [.vs 1 false [[.I 0]],.I 0],[]⟩
theorem zA1 (f R : List (List AV)) : evN spV (zam [fT31,fA41,fR30 f R]) tblO 1000 40 zab [ru3,sl4,.I 1] [] = some (.tup [.vs 1 false [[.I 0]],.I 0],[]):=by kernel_rfl
theorem zuY : zBY.Ok Tryz.prog:=let ⟨f,R,h⟩:=zoP; zav (zaa ziB (zaa zja (zaa h zae))) srcO (zA1 f R)
abbrev zzY : Fct:=⟨zab,[ru3,sl5,.I 0],.tup [.vs 1 false [[.I 0],[.I 5],[.I 6]],.I 0],[]⟩
theorem zzm (f R : List (List AV)) : evN spV (zam [fT30,fA50,fR35 f R]) tblO 1000 40 zab [ru3,sl5,.I 0] [] = some (.tup [.vs 1 false [[.I 0],[.I 5],[.I 6]],.I 0],[]):=by kernel_rfl
theorem zuJ : zzY.Ok Tryz.prog:=let ⟨f,R,h⟩:=zz5; zav (zaa ziq (zaa zje (zaa h zae))) srcO (zzm f R)
abbrev zBP : Fct:=⟨zab,[ru3,sl5,.I 1],.tup [.vs 1 false [[.I 0]],.I 0],[]⟩
theorem zze (f R : List (List AV)) : evN spV (zam [fT31,fA51,fR30 f R]) tblO 1000 40 zab [ru3,sl5,.I 1] [] = some (.tup [.vs 1 false [[.I 0]],.I 0],[]):=by kernel_rfl
theorem zuZ : zBP.Ok Tryz.prog:=let ⟨f,R,h⟩:=zoP; zav (zaa ziB (zaa zjf (zaa h zae))) srcO (zze f R)
abbrev zAs : Fct:=⟨zab,[ru4,sl0,.I 0],.tup [.vs 1 false [[.I 0]],.I 0],[]⟩
theorem zBJ (f R : List (List AV)) : evN spV (zam [fT40,fA00,fR40 f R]) tblO 1000 40 zab [ru4,sl0,.I 0] [] = some (.tup [.vs 1 false [[.I 0]],.I 0],[]):=by kernel_rfl
theorem zuv : zAs.Ok Tryz.prog:=let ⟨f,R,h⟩:=zps; zav (zaa ziy (zaa ziD (zaa h zae))) srcO (zBJ f R)
abbrev zAJ : Fct:=⟨zab,[ru4,sl0,.I 1],.tup [.vs 1 false [[.I 0]],.I 0],[]⟩
theorem zBc (f R : List (List AV)) : evN spV (zam [fT41,fA01,fR40 f R]) tblO 1000 40 zab [ru4,sl0,.I 1] [] = some (.tup [.vs 1 false [[.I 0]],.I 0],[]):=by kernel_rfl
theorem zub : zAJ.Ok Tryz.prog:=let ⟨f,R,h⟩:=zps; zav (zaa zi9 (zaa ziI (zaa h zae))) srcO (zBc f R)
abbrev zAV : Fct:=⟨zab,[ru4,sl1,.I 0],.tup [.vs 1 false [[.I 0],[.I 5]],.I 0],[]⟩
theorem zzw (f R : List (List AV)) : evN spV (zam [fT40,fA10,fR41 f R]) tblO 1000 40 zab [ru4,sl1,.I 0] [] = some (.tup [.vs 1 false [[.I 0],[.I 5]],.I 0],[]):=by kernel_rfl
theorem zto : zAV.Ok Tryz.prog:=let ⟨f,R,h⟩:=zBx; zav (zaa ziy (zaa ziN (zaa h zae))) srcO (zzw f R)
abbrev zB1 : Fct:=⟨zab,[ru4,sl1,.I 1],.tup [.vs 1 false [[.I 0]],.I 0],[]⟩
theorem zBk (f R : List (List AV)) : evN spV (zam [fT41,fA11,fR40 f R]) tblO 1000 40 zab [ru4,sl1,.I 1] [] = some (.tup [.vs 1 false [[.I 0]],.I 0],[]):=by kernel_rfl
theorem zu0 : zB1.Ok Tryz.prog:=let ⟨f,R,h⟩:=zps; zav (zaa zi9 (zaa ziV (zaa h zae))) srcO (zBk f R)
abbrev zBC : Fct:=⟨zab,[ru4,sl2,.I 0],.tup [.vs 1 false [[.I 0],[.I 5],[.I 6]],.I 0],[]⟩
theorem zzG (f R : List (List AV)) : evN spV (zam [fT40,fA20,fR42 f R]) tblO 1000 40 zab [ru4,sl2,.I 0] [] = some (.tup [.vs 1 false [[.I 0],[.I 5],[.I 6]],.I 0],[]):=by kernel_rfl
theorem zuL : zBC.Ok Tryz.prog:=let ⟨f,R,h⟩:=zA7; zav (zaa ziy (zaa ziu (zaa h zae))) srcO (zzG f R)
abbrev zA4 : Fct:=⟨zab,[ru4,sl2,.I 1],.tup [.vs 1 false [[.I 0]],.I 0],[]⟩
theorem zzU (f R : List (List AV)) : evN spV (zam [fT41,fA21,fR40 f R]) tblO 1000 40 zab [ru4,sl2,.I 1] [] = some (.tup [.vs 1 false [[.I 0]],.I 0],[]):=by kernel_rfl
theorem zuR : zA4.Ok Tryz.prog:=let ⟨f,R,h⟩:=zps; zav (zaa zi9 (zaa zi7 (zaa h zae))) srcO (zzU f R)
abbrev zAh : Fct:=⟨zab,[ru4,sl3,.I 0],.tup [.vs 1 false [[.I 0],[.I 5],[.I 6],[.I 7]],.I 0],[]⟩
theorem zAx (f R : List (List AV)) : evN spV (zam [fT40,fA30,fR43 f R]) tblO 1000 40 zab [ru4,sl3,.I 0] [] = some (.tup [.vs 1 false [[.I 0],[.I 5],[.I 6],[.I 7]],.I 0],[]):=by kernel_rfl
theorem ztL : zAh.Ok Tryz.prog:=let ⟨f,R,h⟩:=zzs; zav (zaa ziy (zaa ziP (zaa h zae))) srcO (zAx f R)
abbrev zBS : Fct:=⟨zab,[ru4,sl3,.I 1],.tup [.vs 1 false [[.I 0]],.I 0],[]⟩
theorem zAT (f R : List (List AV)) : evN spV (zam [fT41,fA31,fR40 f R]) tblO 1000 40 zab [ru4,sl3,.I 1] [] = some (.tup [.vs 1 false [[.I 0]],.I 0],[]):=by kernel_rfl
theorem zuq : zBS.Ok Tryz.prog:=let ⟨f,R,h⟩:=zps; zav (zaa zi9 (zaa ziC (zaa h zae))) srcO (zAT f R)
abbrev zzo : Fct:=⟨zab,[ru4,sl4,.I 0],.tup [.vs 1 false [[.I 0],[.I 5],[.I 6],[.I 7]],.I 0],[]⟩
theorem zBB (f R : List (List AV)) : evN spV (zam [fT40,fA40,fR44 f R]) tblO 1000 40 zab [ru4,sl4,.I 0] [] = some (.tup [.vs 1 false [[.I 0],[.I 5],[.I 6],[.I 7]],.I 0],[]):=by kernel_rfl
theorem ztm : zzo.Ok Tryz.prog:=let ⟨f,R,h⟩:=zzN; zav (zaa ziy (zaa ziJ (zaa h zae))) srcO (zBB f R)
abbrev zAr : Fct:=⟨zab,[ru4,sl4,.I 1],.tup [.vs 1 false [[.I 0]],.I 0],[]⟩
theorem zBX (f R : List (List AV)) : evN spV (zam [fT41,fA41,fR40 f R]) tblO 1000 40 zab [ru4,sl4,.I 1] [] = some (.tup [.vs 1 false [[.I 0]],.I 0],[]):=by kernel_rfl
theorem zuG : zAr.Ok Tryz.prog:=let ⟨f,R,h⟩:=zps; zav (zaa zi9 (zaa zja (zaa h zae))) srcO (zBX f R)
abbrev zz1 : Fct:=⟨zab,[ru4,sl5,.I 0],.tup [.vs 1 false [[.I 0],[.I 5],[.I 6],[.I 7]],.I 0],[]⟩
theorem zAC (f R : List (List AV)) : evN spV (zam [fT40,fA50,fR45 f R]) tblO 1000 40 zab [ru4,sl5,.I 0] [] = some (.tup [.vs 1 false [[.I 0],[.I 5],[.I 6],[.I 7]],.I 0],[]):=by kernel_rfl
theorem zuB : zz1.Ok Tryz.prog:=let ⟨f,R,h⟩:=zBF; zav (zaa ziy (zaa zje (zaa h zae))) srcO (zAC f R)
abbrev zBW : Fct:=⟨zab,[ru4,sl5,.I 1],.tup [.vs 1 false [[.I 0]],.I 0],[]⟩
theorem zAy (f R : List (List AV)) : evN spV (zam [fT41,fA51,fR40 f R]) tblO 1000 40 zab [ru4,sl5,.I 1] [] = some (.tup [.vs 1 false [[.I 0]],.I 0],[]):=by kernel_rfl
theorem ztu : zBW.Ok Tryz.prog:=let ⟨f,R,h⟩:=zps; zav (zaa zi9 (zaa zjf (zaa h zae))) srcO (zAy f R)
abbrev zyW : Fct:=⟨zab,[ru5,sl0,.I 0],.tup [.vs 1 false [[.I 0]],.I 0],[]⟩
theorem zBs (f R : List (List AV)) : evN spV (zam [fT50,fA00,fR50 f R]) tblO 1000 40 zab [ru5,sl0,.I 0] [] = some (.tup [.vs 1 false [[.I 0]],.I 0],[]):=by kernel_rfl
theorem ztY : zyW.Ok Tryz.prog:=let ⟨f,R,h⟩:=zpL; zav (zaa ziY (zaa ziD (zaa h zae))) srcO (zBs f R)
abbrev zzb : Fct:=⟨zab,[ru5,sl0,.I 1],.tup [.vs 1 false [[.I 0]],.I 0],[]⟩
theorem zzF (f R : List (List AV)) : evN spV (zam [fT51,fA01,fR50 f R]) tblO 1000 40 zab [ru5,sl0,.I 1] [] = some (.tup [.vs 1 false [[.I 0]],.I 0],[]):=by kernel_rfl
theorem zuA : zzb.Ok Tryz.prog:=let ⟨f,R,h⟩:=zpL; zav (zaa ziL (zaa ziI (zaa h zae))) srcO (zzF f R)
abbrev zAE : Fct:=⟨zab,[ru5,sl1,.I 0],.tup [.vs 1 false [[.I 0],[.I 5]],.I 0],[]⟩
theorem zzI (f R : List (List AV)) : evN spV (zam [fT50,fA10,fR51 f R]) tblO 1000 40 zab [ru5,sl1,.I 0] [] = some (.tup [.vs 1 false [[.I 0],[.I 5]],.I 0],[]):=by kernel_rfl
theorem ztA : zAE.Ok Tryz.prog:=let ⟨f,R,h⟩:=zzx; zav (zaa ziY (zaa ziN (zaa h zae))) srcO (zzI f R)
abbrev zB3 : Fct:=⟨zab,[ru5,sl1,.I 1],.tup [.vs 1 false [[.I 0]],.I 0],[]⟩
theorem zz9 (f R : List (List AV)) : evN spV (zam [fT51,fA11,fR50 f R]) tblO 1000 40 zab [ru5,sl1,.I 1] [] = some (.tup [.vs 1 false [[.I 0]],.I 0],[]):=by kernel_rfl
theorem zuQ : zB3.Ok Tryz.prog:=let ⟨f,R,h⟩:=zpL; zav (zaa ziL (zaa ziV (zaa h zae))) srcO (zz9 f R)
abbrev zAL : Fct:=⟨zab,[ru5,sl2,.I 0],.tup [.vs 1 false [[.I 0],[.I 5],[.I 6]],.I 0],[]⟩
theorem zA8 (f R : List (List AV)) : evN spV (zam [fT50,fA20,fR52 f R]) tblO 1000 40 zab [ru5,sl2,.I 0] [] = some (.tup [.vs 1 false [[.I 0],[.I 5],[.I 6]],.I 0],[]):=by kernel_rfl
theorem zt7 : zAL.Ok Tryz.prog:=let ⟨f,R,h⟩:=zzy; zav (zaa ziY (zaa ziu (zaa h zae))) srcO (zA8 f R)
abbrev zBT : Fct:=⟨zab,[ru5,sl2,.I 1],.tup [.vs 1 false [[.I 0]],.I 0],[]⟩
theorem zBN (f R : List (List AV)) : evN spV (zam [fT51,fA21,fR50 f R]) tblO 1000 40 zab [ru5,sl2,.I 1] [] = some (.tup [.vs 1 false [[.I 0]],.I 0],[]):=by kernel_rfl
theorem zt3 : zBT.Ok Tryz.prog:=let ⟨f,R,h⟩:=zpL; zav (zaa ziL (zaa zi7 (zaa h zae))) srcO (zBN f R)
abbrev zB2 : Fct:=⟨zab,[ru5,sl3,.I 0],.tup [.vs 1 false [[.I 0],[.I 5],[.I 6],[.I 7]],.I 0],[]⟩
theorem zzH (f R : List (List AV)) : evN spV (zam [fT50,fA30,fR53 f R]) tblO 1000 40 zab [ru5,sl3,.I 0] [] = some (.tup [.vs 1 false [[.I 0],[.I 5],[.I 6],[.I 7]],.I 0],[]):=by kernel_rfl
theorem ztF : zB2.Ok Tryz.prog:=let ⟨f,R,h⟩:=zBo; zav (zaa ziY (zaa ziP (zaa h zae))) srcO (zzH f R)
abbrev zz7 : Fct:=⟨zab,[ru5,sl3,.I 1],.tup [.vs 1 false [[.I 0]],.I 0],[]⟩
theorem zBI (f R : List (List AV)) : evN spV (zam [fT51,fA31,fR50 f R]) tblO 1000 40 zab [ru5,sl3,.I 1] [] = some (.tup [.vs 1 false [[.I 0]],.I 0],[]):=by kernel_rfl
theorem ztG : zz7.Ok Tryz.prog:=let ⟨f,R,h⟩:=zpL; zav (zaa ziL (zaa ziC (zaa h zae))) srcO (zBI f R)
abbrev zBM : Fct:=⟨zab,[ru5,sl4,.I 0],.tup [.vs 1 false [[.I 0],[.I 5],[.I 6],[.I 7],[.I 8]],.I 0],[]⟩
theorem zAK (f R : List (List AV)) : evN spV (zam [fT50,fA40,fR54 f R]) tblO 1000 40 zab [ru5,sl4,.I 0] [] = some (.tup [.vs 1 false [[.I 0],[.I 5],[.I 6],[.I 7],[.I 8]],.I 0],[]):=by kernel_rfl
theorem zug : zBM.Ok Tryz.prog:=let ⟨f,R,h⟩:=zA0; zav (zaa ziY (zaa ziJ (zaa h zae))) srcO (zAK f R)
abbrev zAi : Fct:=⟨zab,[ru5,sl4,.I 1],.tup [.vs 1 false [[.I 0]],.I 0],[]⟩
theorem zy9 (f R : List (List AV)) : evN spV (zam [fT51,fA41,fR50 f R]) tblO 1000 40 zab [ru5,sl4,.I 1] [] = some (.tup [.vs 1 false [[.I 0]],.I 0],[]):=by kernel_rfl
theorem ztR : zAi.Ok Tryz.prog:=let ⟨f,R,h⟩:=zpL; zav (zaa ziL (zaa zja (zaa h zae))) srcO (zy9 f R)
abbrev zBg : Fct:=⟨zab,[ru5,sl5,.I 0],.tup [.vs 1 false [[.I 0],[.I 5],[.I 6],[.I 7],[.I 8]],.I 0],[]⟩
theorem zBU (f R : List (List AV)) : evN spV (zam [fT50,fA50,fR55 f R]) tblO 1000 40 zab [ru5,sl5,.I 0] [] = some (.tup [.vs 1 false [[.I 0],[.I 5],[.I 6],[.I 7],[.I 8]],.I 0],[]):=by kernel_rfl
theorem ztg : zBg.Ok Tryz.prog:=let ⟨f,R,h⟩:=zBh; zav (zaa ziY (zaa zje (zaa h zae))) srcO (zBU f R)
abbrev zAQ : Fct:=⟨zab,[ru5,sl5,.I 1],.tup [.vs 1 false [[.I 0]],.I 0],[]⟩
theorem zA6 (f R : List (List AV)) : evN spV (zam [fT51,fA51,fR50 f R]) tblO 1000 40 zab [ru5,sl5,.I 1] [] = some (.tup [.vs 1 false [[.I 0]],.I 0],[]):=by kernel_rfl
theorem zud : zAQ.Ok Tryz.prog:=let ⟨f,R,h⟩:=zpL; zav (zaa ziL (zaa zjf (zaa h zae))) srcO (zA6 f R)
abbrev zAo : Fct:=⟨zab,[ru6,sl0,.I 0],.tup [.vs 1 false [[.I 0]],.I 0],[]⟩
theorem zBR (f R : List (List AV)) : evN spV (zam [fT60,fA00,fR60 f R]) tblO 1000 40 zab [ru6,sl0,.I 0] [] = some (.tup [.vs 1 false [[.I 0]],.I 0],[]):=by kernel_rfl
theorem zuV : zAo.Ok Tryz.prog:=let ⟨f,R,h⟩:=zpF; zav (zaa ziE (zaa ziD (zaa h zae))) srcO (zBR f R)
abbrev zBO : Fct:=⟨zab,[ru6,sl0,.I 1],.tup [.vs 1 false [[.I 0]],.I 0],[]⟩
theorem zy4 (f R : List (List AV)) : evN spV (zam [fT61,fA01,fR60 f R]) tblO 1000 40 zab [ru6,sl0,.I 1] [] = some (.tup [.vs 1 false [[.I 0]],.I 0],[]):=by kernel_rfl
theorem zuN : zBO.Ok Tryz.prog:=let ⟨f,R,h⟩:=zpF; zav (zaa ziX (zaa ziI (zaa h zae))) srcO (zy4 f R)
abbrev zzB : Fct:=⟨zab,[ru6,sl1,.I 0],.tup [.vs 1 false [[.I 0],[.I 5]],.I 0],[]⟩
theorem zB6 (f R : List (List AV)) : evN spV (zam [fT60,fA10,fR61 f R]) tblO 1000 40 zab [ru6,sl1,.I 0] [] = some (.tup [.vs 1 false [[.I 0],[.I 5]],.I 0],[]):=by kernel_rfl
theorem ztk : zzB.Ok Tryz.prog:=let ⟨f,R,h⟩:=zBf; zav (zaa ziE (zaa ziN (zaa h zae))) srcO (zB6 f R)
abbrev zAZ : Fct:=⟨zab,[ru6,sl1,.I 1],.tup [.vs 1 false [[.I 0]],.I 0],[]⟩
theorem zAw (f R : List (List AV)) : evN spV (zam [fT61,fA11,fR60 f R]) tblO 1000 40 zab [ru6,sl1,.I 1] [] = some (.tup [.vs 1 false [[.I 0]],.I 0],[]):=by kernel_rfl
theorem zu8 : zAZ.Ok Tryz.prog:=let ⟨f,R,h⟩:=zpF; zav (zaa ziX (zaa ziV (zaa h zae))) srcO (zAw f R)
abbrev zAu : Fct:=⟨zab,[ru6,sl2,.I 0],.tup [.vs 1 false [[.I 0],[.I 5],[.I 6]],.I 0],[]⟩
theorem zzk (f R : List (List AV)) : evN spV (zam [fT60,fA20,fR62 f R]) tblO 1000 40 zab [ru6,sl2,.I 0] [] = some (.tup [.vs 1 false [[.I 0],[.I 5],[.I 6]],.I 0],[]):=by kernel_rfl
theorem zui : zAu.Ok Tryz.prog:=let ⟨f,R,h⟩:=zAA; zav (zaa ziE (zaa ziu (zaa h zae))) srcO (zzk f R)
abbrev zzC : Fct:=⟨zab,[ru6,sl2,.I 1],.tup [.vs 1 false [[.I 0]],.I 0],[]⟩
theorem zzT (f R : List (List AV)) : evN spV (zam [fT61,fA21,fR60 f R]) tblO 1000 40 zab [ru6,sl2,.I 1] [] = some (.tup [.vs 1 false [[.I 0]],.I 0],[]):=by kernel_rfl
theorem ztN : zzC.Ok Tryz.prog:=let ⟨f,R,h⟩:=zpF; zav (zaa ziX (zaa zi7 (zaa h zae))) srcO (zzT f R)
abbrev zzZ : Fct:=⟨zab,[ru6,sl3,.I 0],.tup [.vs 1 false [[.I 0],[.I 5],[.I 6],[.I 7]],.I 0],[]⟩
theorem zBG (f R : List (List AV)) : evN spV (zam [fT60,fA30,fR63 f R]) tblO 1000 40 zab [ru6,sl3,.I 0] [] = some (.tup [.vs 1 false [[.I 0],[.I 5],[.I 6],[.I 7]],.I 0],[]):=by kernel_rfl
theorem zua : zzZ.Ok Tryz.prog:=let ⟨f,R,h⟩:=zzW; zav (zaa ziE (zaa ziP (zaa h zae))) srcO (zBG f R)
abbrev zBz : Fct:=⟨zab,[ru6,sl3,.I 1],.tup [.vs 1 false [[.I 0]],.I 0],[]⟩
theorem zz3 (f R : List (List AV)) : evN spV (zam [fT61,fA31,fR60 f R]) tblO 1000 40 zab [ru6,sl3,.I 1] [] = some (.tup [.vs 1 false [[.I 0]],.I 0],[]):=by kernel_rfl
theorem zuP : zBz.Ok Tryz.prog:=let ⟨f,R,h⟩:=zpF; zav (zaa ziX (zaa ziC (zaa h zae))) srcO (zz3 f R)
abbrev zz2 : Fct:=⟨zab,[ru6,sl4,.I 0],.tup [.vs 1 false [[.I 0],[.I 5],[.I 6],[.I 7],[.I 8]],.I 0],[]⟩
theorem zz0 (f R : List (List AV)) : evN spV (zam [fT60,fA40,fR64 f R]) tblO 1000 40 zab [ru6,sl4,.I 0] [] = some (.tup [.vs 1 false [[.I 0],[.I 5],[.I 6],[.I 7],[.I 8]],.I 0],[]):=by kernel_rfl
theorem zu3 : zz2.Ok Tryz.prog:=let ⟨f,R,h⟩:=zAv; zav (zaa ziE (zaa ziJ (zaa h zae))) srcO (zz0 f R)
abbrev zAX : Fct:=⟨zab,[ru6,sl4,.I 1],.tup [.vs 1 false [[.I 0]],.I 0],[]⟩
theorem zAd (f R : List (List AV)) : evN spV (zam [fT61,fA41,fR60 f R]) tblO 1000 40 zab [ru6,sl4,.I 1] [] = some (.tup [.vs 1 false [[.I 0]],.I 0],[]):=by kernel_rfl
theorem ztE : zAX.Ok Tryz.prog:=let ⟨f,R,h⟩:=zpF; zav (zaa ziX (zaa zja (zaa h zae))) srcO (zAd f R)
abbrev zCc : Fct:=⟨zab,[ru6,sl5,.I 0],.tup [.vs 1 false [[.I 0],[.I 5],[.I 6],[.I 7],[.I 8],[.I 9]],.I 0],[]⟩
theorem zCd (f R : List (List AV)) : evN spV (zam [fT60,fA50,fR65 f R]) tblO 1000 40 zab [ru6,sl5,.I 0] [] = some (.tup [.vs 1 false [[.I 0],[.I 5],[.I 6],[.I 7],[.I 8],[.I 9]],.I 0],[]):=by kernel_rfl
theorem zuW : zCc.Ok Tryz.prog:=let ⟨f,R,h⟩:=zzp; zav (zaa ziE (zaa zje (zaa h zae))) srcO (zCd f R)
abbrev zBH : Fct:=⟨zab,[ru6,sl5,.I 1],.tup [.vs 1 false [[.I 0]],.I 0],[]⟩
theorem zzn (f R : List (List AV)) : evN spV (zam [fT61,fA51,fR60 f R]) tblO 1000 40 zab [ru6,sl5,.I 1] [] = some (.tup [.vs 1 false [[.I 0]],.I 0],[]):=by kernel_rfl
theorem ztr : zBH.Ok Tryz.prog:=let ⟨f,R,h⟩:=zpF; zav (zaa ziX (zaa zjf (zaa h zae))) srcO (zzn f R)
abbrev fK : Fct:=⟨zdZ,[],.B true,[]⟩
theorem eK (f R : List (List AV)) : evN spV (zam [fRw f R]) tblK 1000 40 zdZ [] [] = some (.B true,[]):=by kernel_rfl
theorem zcy : fK.Ok Tryz.prog:=let ⟨f,R,h⟩:=zAU; zav (zaa h zae) srcK (eK f R)
set_option maxRecDepth 100000
def zcw : zdu:=match zdB.code with | .seq _ (.seq _ c)=>c | c=>c
theorem re10 : awp Tryz.prog 0 zcw (fun e st=>(e = .normal ∨ e = .ret) ∧ zat [(4,none)] 0 st (.B true) []) ⟨138,[(5,.I 1),(6,.I 0)],[],100⟩ :=
 zaF (sp:=spV) (lf:=1000) (zbp (sp:=spV) (zaE (zaa zlT (zaa zmc (zaa ztf (zaa zuw (zaa zcy zae)))))) zaT 1000 40) (by kernel_rfl)
theorem re11 : awp Tryz.prog 0 zcw (fun e st=>(e = .normal ∨ e = .ret) ∧ zat [(4,none)] 0 st (.B true) []) ⟨138,[(5,.I 1),(6,.I 1)],[],100⟩ :=
 zaF (sp:=spV) (lf:=1000) (zbp (sp:=spV) (zaE (zaa zbU (zaa zlN (zaa zlI (zaa zuI (zaa ztK (zaa zcy zae))))))) zaT 1000 40) (by kernel_rfl)
theorem re12 : awp Tryz.prog 0 zcw (fun e st=>(e = .normal ∨ e = .ret) ∧ zat [(4,none)] 0 st (.B true) []) ⟨138,[(5,.I 1),(6,.I 2)],[],100⟩ :=
 zaF (sp:=spV) (lf:=1000) (zbp (sp:=spV) (zaE (zaa zbU (zaa zcu (zaa zlG (zaa zmi (zaa ztW (zaa zt1 (zaa zcy zae)))))))) zaT 1000 40) (by kernel_rfl)
theorem re13 : awp Tryz.prog 0 zcw (fun e st=>(e = .normal ∨ e = .ret) ∧ zat [(4,none)] 0 st (.B true) []) ⟨138,[(5,.I 1),(6,.I 3)],[],100⟩ :=
 zaF (sp:=spV) (lf:=1000) (zbp (sp:=spV) (zaE (zaa zbU (zaa zcu (zaa zdC (zaa zlL (zaa zlA (zaa zu1 (zaa ztU (zaa zcy zae))))))))) zaT 1000 40) (by kernel_rfl)
theorem re14 : awp Tryz.prog 0 zcw (fun e st=>(e = .normal ∨ e = .ret) ∧ zat [(4,none)] 0 st (.B true) []) ⟨138,[(5,.I 1),(6,.I 4)],[],100⟩ :=
 zaF (sp:=spV) (lf:=1000) (zbp (sp:=spV) (zaE (zaa zbU (zaa zcu (zaa zdC (zaa zf0 (zaa zmo (zaa zl5 (zaa zt9 (zaa ztw (zaa zcy zae)))))))))) zaT 1000 40) (by kernel_rfl)
theorem re15 : awp Tryz.prog 0 zcw (fun e st=>(e = .normal ∨ e = .ret) ∧ zat [(4,none)] 0 st (.B true) []) ⟨138,[(5,.I 1),(6,.I 5)],[],100⟩ :=
 zaF (sp:=spV) (lf:=1000) (zbp (sp:=spV) (zaE (zaa zbU (zaa zcu (zaa zdC (zaa zf0 (zaa zme (zaa zma (zaa zlE (zaa ztc (zaa zt4 (zaa zcy zae))))))))))) zaT 1000 40) (by kernel_rfl)
theorem re20 : awp Tryz.prog 0 zcw (fun e st=>(e = .normal ∨ e = .ret) ∧ zat [(4,none)] 0 st (.B true) []) ⟨138,[(5,.I 2),(6,.I 0)],[],100⟩ :=
 zaF (sp:=spV) (lf:=1000) (zbp (sp:=spV) (zaE (zaa zlT (zaa zmc (zaa zti (zaa zuC (zaa zcy zae)))))) zaT 1000 40) (by kernel_rfl)
theorem re21 : awp Tryz.prog 0 zcw (fun e st=>(e = .normal ∨ e = .ret) ∧ zat [(4,none)] 0 st (.B true) []) ⟨138,[(5,.I 2),(6,.I 1)],[],100⟩ :=
 zaF (sp:=spV) (lf:=1000) (zbp (sp:=spV) (zaE (zaa zbU (zaa zlN (zaa zlI (zaa ztD (zaa zuS (zaa zcy zae))))))) zaT 1000 40) (by kernel_rfl)
theorem re22 : awp Tryz.prog 0 zcw (fun e st=>(e = .normal ∨ e = .ret) ∧ zat [(4,none)] 0 st (.B true) []) ⟨138,[(5,.I 2),(6,.I 2)],[],100⟩ :=
 zaF (sp:=spV) (lf:=1000) (zbp (sp:=spV) (zaE (zaa zbU (zaa zcu (zaa zlG (zaa zmi (zaa zuD (zaa zus (zaa zcy zae)))))))) zaT 1000 40) (by kernel_rfl)
theorem re23 : awp Tryz.prog 0 zcw (fun e st=>(e = .normal ∨ e = .ret) ∧ zat [(4,none)] 0 st (.B true) []) ⟨138,[(5,.I 2),(6,.I 3)],[],100⟩ :=
 zaF (sp:=spV) (lf:=1000) (zbp (sp:=spV) (zaE (zaa zbU (zaa zcu (zaa zdC (zaa zlL (zaa zlA (zaa zuK (zaa zuT (zaa zcy zae))))))))) zaT 1000 40) (by kernel_rfl)
theorem re24 : awp Tryz.prog 0 zcw (fun e st=>(e = .normal ∨ e = .ret) ∧ zat [(4,none)] 0 st (.B true) []) ⟨138,[(5,.I 2),(6,.I 4)],[],100⟩ :=
 zaF (sp:=spV) (lf:=1000) (zbp (sp:=spV) (zaE (zaa zbU (zaa zcu (zaa zdC (zaa zf0 (zaa zmo (zaa zl5 (zaa zu9 (zaa zth (zaa zcy zae)))))))))) zaT 1000 40) (by kernel_rfl)
theorem re25 : awp Tryz.prog 0 zcw (fun e st=>(e = .normal ∨ e = .ret) ∧ zat [(4,none)] 0 st (.B true) []) ⟨138,[(5,.I 2),(6,.I 5)],[],100⟩ :=
 zaF (sp:=spV) (lf:=1000) (zbp (sp:=spV) (zaE (zaa zbU (zaa zcu (zaa zdC (zaa zf0 (zaa zme (zaa zma (zaa zlE (zaa zuf (zaa zt6 (zaa zcy zae))))))))))) zaT 1000 40) (by kernel_rfl)
theorem re30 : awp Tryz.prog 0 zcw (fun e st=>(e = .normal ∨ e = .ret) ∧ zat [(4,none)] 0 st (.B true) []) ⟨138,[(5,.I 3),(6,.I 0)],[],100⟩ :=
 zaF (sp:=spV) (lf:=1000) (zbp (sp:=spV) (zaE (zaa zlT (zaa zmc (zaa ztd (zaa ztl (zaa zcy zae)))))) zaT 1000 40) (by kernel_rfl)
theorem re31 : awp Tryz.prog 0 zcw (fun e st=>(e = .normal ∨ e = .ret) ∧ zat [(4,none)] 0 st (.B true) []) ⟨138,[(5,.I 3),(6,.I 1)],[],100⟩ :=
 zaF (sp:=spV) (lf:=1000) (zbp (sp:=spV) (zaE (zaa zbU (zaa zlN (zaa zlI (zaa zuO (zaa ztq (zaa zcy zae))))))) zaT 1000 40) (by kernel_rfl)
theorem re32 : awp Tryz.prog 0 zcw (fun e st=>(e = .normal ∨ e = .ret) ∧ zat [(4,none)] 0 st (.B true) []) ⟨138,[(5,.I 3),(6,.I 2)],[],100⟩ :=
 zaF (sp:=spV) (lf:=1000) (zbp (sp:=spV) (zaE (zaa zbU (zaa zcu (zaa zlG (zaa zmi (zaa zuM (zaa zut (zaa zcy zae)))))))) zaT 1000 40) (by kernel_rfl)
theorem re33 : awp Tryz.prog 0 zcw (fun e st=>(e = .normal ∨ e = .ret) ∧ zat [(4,none)] 0 st (.B true) []) ⟨138,[(5,.I 3),(6,.I 3)],[],100⟩ :=
 zaF (sp:=spV) (lf:=1000) (zbp (sp:=spV) (zaE (zaa zbU (zaa zcu (zaa zdC (zaa zlL (zaa zlA (zaa zty (zaa ztO (zaa zcy zae))))))))) zaT 1000 40) (by kernel_rfl)
theorem re34 : awp Tryz.prog 0 zcw (fun e st=>(e = .normal ∨ e = .ret) ∧ zat [(4,none)] 0 st (.B true) []) ⟨138,[(5,.I 3),(6,.I 4)],[],100⟩ :=
 zaF (sp:=spV) (lf:=1000) (zbp (sp:=spV) (zaE (zaa zbU (zaa zcu (zaa zdC (zaa zf0 (zaa zmo (zaa zl5 (zaa zuE (zaa zuY (zaa zcy zae)))))))))) zaT 1000 40) (by kernel_rfl)
theorem re35 : awp Tryz.prog 0 zcw (fun e st=>(e = .normal ∨ e = .ret) ∧ zat [(4,none)] 0 st (.B true) []) ⟨138,[(5,.I 3),(6,.I 5)],[],100⟩ :=
 zaF (sp:=spV) (lf:=1000) (zbp (sp:=spV) (zaE (zaa zbU (zaa zcu (zaa zdC (zaa zf0 (zaa zme (zaa zma (zaa zlE (zaa zuJ (zaa zuZ (zaa zcy zae))))))))))) zaT 1000 40) (by kernel_rfl)
theorem re40 : awp Tryz.prog 0 zcw (fun e st=>(e = .normal ∨ e = .ret) ∧ zat [(4,none)] 0 st (.B true) []) ⟨138,[(5,.I 4),(6,.I 0)],[],100⟩ :=
 zaF (sp:=spV) (lf:=1000) (zbp (sp:=spV) (zaE (zaa zlT (zaa zmc (zaa zuv (zaa zub (zaa zcy zae)))))) zaT 1000 40) (by kernel_rfl)
theorem re41 : awp Tryz.prog 0 zcw (fun e st=>(e = .normal ∨ e = .ret) ∧ zat [(4,none)] 0 st (.B true) []) ⟨138,[(5,.I 4),(6,.I 1)],[],100⟩ :=
 zaF (sp:=spV) (lf:=1000) (zbp (sp:=spV) (zaE (zaa zbU (zaa zlN (zaa zlI (zaa zto (zaa zu0 (zaa zcy zae))))))) zaT 1000 40) (by kernel_rfl)
theorem re42 : awp Tryz.prog 0 zcw (fun e st=>(e = .normal ∨ e = .ret) ∧ zat [(4,none)] 0 st (.B true) []) ⟨138,[(5,.I 4),(6,.I 2)],[],100⟩ :=
 zaF (sp:=spV) (lf:=1000) (zbp (sp:=spV) (zaE (zaa zbU (zaa zcu (zaa zlG (zaa zmi (zaa zuL (zaa zuR (zaa zcy zae)))))))) zaT 1000 40) (by kernel_rfl)
theorem re43 : awp Tryz.prog 0 zcw (fun e st=>(e = .normal ∨ e = .ret) ∧ zat [(4,none)] 0 st (.B true) []) ⟨138,[(5,.I 4),(6,.I 3)],[],100⟩ :=
 zaF (sp:=spV) (lf:=1000) (zbp (sp:=spV) (zaE (zaa zbU (zaa zcu (zaa zdC (zaa zlL (zaa zlA (zaa ztL (zaa zuq (zaa zcy zae))))))))) zaT 1000 40) (by kernel_rfl)
theorem re44 : awp Tryz.prog 0 zcw (fun e st=>(e = .normal ∨ e = .ret) ∧ zat [(4,none)] 0 st (.B true) []) ⟨138,[(5,.I 4),(6,.I 4)],[],100⟩ :=
 zaF (sp:=spV) (lf:=1000) (zbp (sp:=spV) (zaE (zaa zbU (zaa zcu (zaa zdC (zaa zf0 (zaa zmo (zaa zl5 (zaa ztm (zaa zuG (zaa zcy zae)))))))))) zaT 1000 40) (by kernel_rfl)
theorem re45 : awp Tryz.prog 0 zcw (fun e st=>(e = .normal ∨ e = .ret) ∧ zat [(4,none)] 0 st (.B true) []) ⟨138,[(5,.I 4),(6,.I 5)],[],100⟩ :=
 zaF (sp:=spV) (lf:=1000) (zbp (sp:=spV) (zaE (zaa zbU (zaa zcu (zaa zdC (zaa zf0 (zaa zme (zaa zma (zaa zlE (zaa zuB (zaa ztu (zaa zcy zae))))))))))) zaT 1000 40) (by kernel_rfl)
theorem re50 : awp Tryz.prog 0 zcw (fun e st=>(e = .normal ∨ e = .ret) ∧ zat [(4,none)] 0 st (.B true) []) ⟨138,[(5,.I 5),(6,.I 0)],[],100⟩ :=
 zaF (sp:=spV) (lf:=1000) (zbp (sp:=spV) (zaE (zaa zlT (zaa zmc (zaa ztY (zaa zuA (zaa zcy zae)))))) zaT 1000 40) (by kernel_rfl)
theorem re51 : awp Tryz.prog 0 zcw (fun e st=>(e = .normal ∨ e = .ret) ∧ zat [(4,none)] 0 st (.B true) []) ⟨138,[(5,.I 5),(6,.I 1)],[],100⟩ :=
 zaF (sp:=spV) (lf:=1000) (zbp (sp:=spV) (zaE (zaa zbU (zaa zlN (zaa zlI (zaa ztA (zaa zuQ (zaa zcy zae))))))) zaT 1000 40) (by kernel_rfl)
theorem re52 : awp Tryz.prog 0 zcw (fun e st=>(e = .normal ∨ e = .ret) ∧ zat [(4,none)] 0 st (.B true) []) ⟨138,[(5,.I 5),(6,.I 2)],[],100⟩ :=
 zaF (sp:=spV) (lf:=1000) (zbp (sp:=spV) (zaE (zaa zbU (zaa zcu (zaa zlG (zaa zmi (zaa zt7 (zaa zt3 (zaa zcy zae)))))))) zaT 1000 40) (by kernel_rfl)
theorem re53 : awp Tryz.prog 0 zcw (fun e st=>(e = .normal ∨ e = .ret) ∧ zat [(4,none)] 0 st (.B true) []) ⟨138,[(5,.I 5),(6,.I 3)],[],100⟩ :=
 zaF (sp:=spV) (lf:=1000) (zbp (sp:=spV) (zaE (zaa zbU (zaa zcu (zaa zdC (zaa zlL (zaa zlA (zaa ztF (zaa ztG (zaa zcy zae))))))))) zaT 1000 40) (by kernel_rfl)
theorem re54 : awp Tryz.prog 0 zcw (fun e st=>(e = .normal ∨ e = .ret) ∧ zat [(4,none)] 0 st (.B true) []) ⟨138,[(5,.I 5),(6,.I 4)],[],100⟩ :=
 zaF (sp:=spV) (lf:=1000) (zbp (sp:=spV) (zaE (zaa zbU (zaa zcu (zaa zdC (zaa zf0 (zaa zmo (zaa zl5 (zaa zug (zaa ztR (zaa zcy zae)))))))))) zaT 1000 40) (by kernel_rfl)
theorem re55 : awp Tryz.prog 0 zcw (fun e st=>(e = .normal ∨ e = .ret) ∧ zat [(4,none)] 0 st (.B true) []) ⟨138,[(5,.I 5),(6,.I 5)],[],100⟩ :=
 zaF (sp:=spV) (lf:=1000) (zbp (sp:=spV) (zaE (zaa zbU (zaa zcu (zaa zdC (zaa zf0 (zaa zme (zaa zma (zaa zlE (zaa ztg (zaa zud (zaa zcy zae))))))))))) zaT 1000 40) (by kernel_rfl)
theorem re60 : awp Tryz.prog 0 zcw (fun e st=>(e = .normal ∨ e = .ret) ∧ zat [(4,none)] 0 st (.B true) []) ⟨138,[(5,.I 6),(6,.I 0)],[],100⟩ :=
 zaF (sp:=spV) (lf:=1000) (zbp (sp:=spV) (zaE (zaa zlT (zaa zmc (zaa zuV (zaa zuN (zaa zcy zae)))))) zaT 1000 40) (by kernel_rfl)
theorem re61 : awp Tryz.prog 0 zcw (fun e st=>(e = .normal ∨ e = .ret) ∧ zat [(4,none)] 0 st (.B true) []) ⟨138,[(5,.I 6),(6,.I 1)],[],100⟩ :=
 zaF (sp:=spV) (lf:=1000) (zbp (sp:=spV) (zaE (zaa zbU (zaa zlN (zaa zlI (zaa ztk (zaa zu8 (zaa zcy zae))))))) zaT 1000 40) (by kernel_rfl)
theorem re62 : awp Tryz.prog 0 zcw (fun e st=>(e = .normal ∨ e = .ret) ∧ zat [(4,none)] 0 st (.B true) []) ⟨138,[(5,.I 6),(6,.I 2)],[],100⟩ :=
 zaF (sp:=spV) (lf:=1000) (zbp (sp:=spV) (zaE (zaa zbU (zaa zcu (zaa zlG (zaa zmi (zaa zui (zaa ztN (zaa zcy zae)))))))) zaT 1000 40) (by kernel_rfl)
theorem re63 : awp Tryz.prog 0 zcw (fun e st=>(e = .normal ∨ e = .ret) ∧ zat [(4,none)] 0 st (.B true) []) ⟨138,[(5,.I 6),(6,.I 3)],[],100⟩ :=
 zaF (sp:=spV) (lf:=1000) (zbp (sp:=spV) (zaE (zaa zbU (zaa zcu (zaa zdC (zaa zlL (zaa zlA (zaa zua (zaa zuP (zaa zcy zae))))))))) zaT 1000 40) (by kernel_rfl)
theorem re64 : awp Tryz.prog 0 zcw (fun e st=>(e = .normal ∨ e = .ret) ∧ zat [(4,none)] 0 st (.B true) []) ⟨138,[(5,.I 6),(6,.I 4)],[],100⟩ :=
 zaF (sp:=spV) (lf:=1000) (zbp (sp:=spV) (zaE (zaa zbU (zaa zcu (zaa zdC (zaa zf0 (zaa zmo (zaa zl5 (zaa zu3 (zaa ztE (zaa zcy zae)))))))))) zaT 1000 40) (by kernel_rfl)
theorem re65 : awp Tryz.prog 0 zcw (fun e st=>(e = .normal ∨ e = .ret) ∧ zat [(4,none)] 0 st (.B true) []) ⟨138,[(5,.I 6),(6,.I 5)],[],100⟩ :=
 zaF (sp:=spV) (lf:=1000) (zbp (sp:=spV) (zaE (zaa zbU (zaa zcu (zaa zdC (zaa zf0 (zaa zme (zaa zma (zaa zlE (zaa zuW (zaa ztr (zaa zcy zae))))))))))) zaT 1000 40) (by kernel_rfl)
set_option maxHeartbeats 1000000 in
theorem zfp (a b : Int) (ha0 : 0 ≤ a) (ha1 : a ≤ 255) (hb0 : 0 ≤ b) (hb1 : b ≤ 255) : zao Tryz.prog zdA [.sc (.int .u8 a),.sc (.int .u8 b)] [] (.B true) []:=by
 refine zf6.ac ?_
 show awp _ 0 _ _ ⟨138,[(0,.sc (.int .u8 a)),(1,.sc (.int .u8 b))],[],16⟩
 obtain ⟨c,hc⟩ : ∃ c : Nat,(c : Int) = 1 + a % 6:=⟨(1 + a % 6).toNat,by omega⟩
 obtain ⟨n,hn⟩ : ∃ n : Nat,(n : Int) = b % 6:=⟨(b % 6).toNat,by omega⟩
 have ta : Int.tmod a 6 = a % 6:=Int.tmod_eq_emod_of_nonneg ha0
 have tb : Int.tmod b 6 = b % 6:=Int.tmod_eq_emod_of_nonneg hb0
 have w1 : IntKind.i64.wrap a = a:=w6
 have w2 : IntKind.i64.wrap b = b:=w6
 have w3 : IntKind.i64.wrap (1 + a % 6) = (c : Int):=by rw [w6]; omega
 refine rs [0,1] [] [] ?_
 refine zad ⟨138,[(5,.I c),(6,.I n)],[],100⟩ rfl ?_ ?_
 ·simp [w1,w2,ta,tb,w3]
  exact Le.go [] [] rfl rfl (by simp [hn]) (by simp)
 have h1 : c = 1 ∨ c = 2 ∨ c = 3 ∨ c = 4 ∨ c = 5 ∨ c = 6:=by omega
 have h2 : n = 0 ∨ n = 1 ∨ n = 2 ∨ n = 3 ∨ n = 4 ∨ n = 5:=by omega
 rcases h1 with rfl | rfl | rfl | rfl | rfl | rfl <;> rcases h2 with rfl | rfl | rfl | rfl | rfl | rfl
 ·exact re10
 ·exact re11
 ·exact re12
 ·exact re13
 ·exact re14
 ·exact re15
 ·exact re20
 ·exact re21
 ·exact re22
 ·exact re23
 ·exact re24
 ·exact re25
 ·exact re30
 ·exact re31
 ·exact re32
 ·exact re33
 ·exact re34
 ·exact re35
 ·exact re40
 ·exact re41
 ·exact re42
 ·exact re43
 ·exact re44
 ·exact re45
 ·exact re50
 ·exact re51
 ·exact re52
 ·exact re53
 ·exact re54
 ·exact re55
 ·exact re60
 ·exact re61
 ·exact re62
 ·exact re63
 ·exact re64
 ·exact re65
end Go.Proofs.YtklclphfcibagaaGreat
