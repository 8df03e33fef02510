/- Texts of this claim,merged. -/
import Derived.Test.YtnaemfpgdmfmcaaGreatDoorRa2
import Derived.ChangeArms
import Derived.Carry
import Derived.OpenShut
import Derived.WalkKit
import Derived.ProofKit
import Derived.Test.YtnaemfpgdmfmcaaGreatDoorRa1
import Derived.Test.YtnaemfpgdmfmcaaGreatDoorProg
import Derived.KernelRfl
import Derived.Test.YtnaemfpgdmfmcaaGreatDoorRows
import Derived.Shelf.Sort.Plain
import Derived.Shelf.Slices.In.SortNone
set_option linter.unusedSimpArgs false
set_option linter.unusedVariables false
set_option linter.unusedSectionVars false
set_option maxRecDepth 100000
set_option maxHeartbeats 8000000
noncomputable section
namespace Go.Proofs.YtnaemfpgdmfmcaaGreatDoor
open Go
section
variable {H:Type} {P:Program}
def DQ (P:Program):Nat->TypeId->DataW H->Option (List AV)
 | 0,_,_=>none
 | n+1,t,d =>
   match P.underlying t,d with
   | some .bool,.lit (.bool b)=>some [.sc (.bool b)]
   | some (.int k),.lit (.int k' x)=>if k'=k/\(Lit.int k' x).wf=true then some [.sc (.int k' x)] else none
   | some .string,.lit (.string l)=>some [.sc (.string ⟨l.toArray⟩)]
   | some (.slice _),.nil=>some [.nilS]
   | some (.slice e),.slice es _=>if es.length<=9223372036854775807 then (es.mapM (DQ P n e)).map λ rows=>[.vs (P.cellsOf e) false rows] else none
   | some (.struct fs),.agg ds=>if ds.length=fs.size then ((fs.toList.zip ds).mapM λ (x:Field × DataW H)=>DQ P n x.1.type x.2).map List.flatten else none
   | some (.array m e),.agg ds=>if ds.length=m then (ds.mapM (DQ P n e)).map List.flatten else none
   | _,_=>none
def Fu (P:Program) (p:TypeId->Bool):Nat->List Field->Option Nat
 | o,[]=>some o
 | o,f::fs=>if f.offset=o/\p f.type=true then Fu P p (o+P.cellsOf f.type) fs else none
def FY (P:Program):Nat->TypeId->Bool
 | 0,_=>false
 | n+1,t =>
   match P.underlying t with
   | some .bool=>true
   | some (.int _)=>true
   | some .string=>true
   | some (.slice e)=>decide (0<P.cellsOf e) && FY P n e
   | some (.struct fs)=>Fu P (FY P n) 0 fs.toList == some (P.cellsOf t)
   | some (.array m e)=>FY P n e && decide (m*P.cellsOf e=P.cellsOf t)
   | _=>false
def TF (w:World) (b:Nat):Nat:=match w.heap[b]? with | some (.cells cells _ _)=>cells.size | _=>0
theorem jN (w:World):EW (TF w) w:=by
 intro b hb;unfold TF at hb ⊢;split at hb
 .rename_i cells ty fz h
  exact⟨cells,ty,fz,h,Qk _⟩
 .exact absurd hb (Nat.lt_irrefl _)
def DG (w:World) (xs:List AV) (cs:List Value):Prop :=
 xs.length=cs.length /\ ∀ i,i<xs.length->(cs.getD i undef).oneCell'=true/\AX (TF w) w (λ _=>none) (xs.getD i .dead) (cs.getD i undef)
theorem DG.one {w:World} {x:AV} {v:Value} (h1:v.oneCell'=true) (h:AX (TF w) w (λ _=>none) x v):DG w [x] [v]:=by
 refine⟨rfl,λ i hi=>?_⟩;obtain rfl:i=0:=by simpa using hi
 exact⟨h1,h⟩
theorem DG.append {w:World} {xs ys:List AV} {cs ds:List Value} (h1:DG w xs cs) (h2:DG w ys ds):DG w (xs++ys) (cs++ds):=by
 refine⟨by simp[h1.1,h2.1],λ i hi=>?_⟩
 rcases Ui i xs.length with h | h
 .have:=h1.2 i h
  simpa [List.getD,QC h,QC (show i<cs.length from h1.1 ▸ h)] using this
 .have h3:i - xs.length<ys.length:=by simp at hi;omega
  have:=h2.2 (i - xs.length) h3
  simpa [List.getD,Qs h,Qs (show cs.length<=i from h1.1 ▸ h),<- h1.1] using this
theorem ZR {α β:Type} {f:α->Option β}:∀ {l:List α},(∀ a∈l,∃ b,f a=some b) -> ∃ bs,l.mapM f=some bs/\bs.length=l.length /\ ∀ (i:Nat) a,l[i]? = some a -> ∃ b,bs[i]? = some b/\f a=some b
 | [],_=>⟨[],rfl,rfl,zz⟩
 | a::l,h=>by
   obtain⟨b,hb⟩:=h a Qi;obtain⟨bs,h1,h2,h3⟩:=ZR (l:=l) λ x hx=>h x (Qg _ hx);refine⟨b::bs,by rw[List.mapM_cons,hb,h1];rfl,by simp[h2],λ i x hi=>?_⟩
   cases i with
   | zero=>simp at hi;subst hi;exact⟨b,rfl,hb⟩
   | succ i=>simpa using h3 i x (by simpa using hi)
variable {enc:TypeId × Value->H} {w:World} {sp:Nat->Bool} {aC:Bool}
theorem KF:∀ (n:Nat) (t:TypeId),FY P n t=true -> ∀ (m:Nat) (cs:List Value) (x:DataW H × List MemPlace),DataW.trod enc P w 0 sp aC m t cs=some x -> ∃ xs,DQ P n t x.1=some xs/\DG w xs cs
 | 0,_,h,_,_,_,_=>by cases h
 | n+1,t,h,0,cs,x,hx=>by simp[DataW.trod] at hx
 | n+1,t,h,m+1,cs,x,hx=>by
   simp only[FY] at h
   cases hu:P.underlying t with
   | none=>rw[hu] at h;cases h
   | some td =>
     rw[hu] at h
     cases td<;>simp only at h<;>(try (cases h;done))
     case slice e =>
      simp only[QD,Qf] at h;rcases DataW.trod_slice hu hx with ⟨rfl,rfl⟩ | ⟨a,len,cap,elems,rest,k,_,rfl,rfl,_,hl,a1,hh,h6,_,_⟩
      .exact ⟨[.nilS],by simp[DQ,hu],.one rfl (.sc _ _ rfl)⟩
      .obtain ⟨bs,h1,h2,h3⟩:=ZR (f:=DQ P n e) (l:=elems.map (·.1)) (λ d hd=>by
        obtain⟨y,hy,rfl⟩:=Qh.1 hd;obtain⟨i,hi,rfl⟩:=QA.1 hy;have:=h6 i zy
        rw[Qa hi] at this
        cases hc:w.cells? 0 (a.add (i*P.cellsOf e)) (P.cellsOf e) with
        | none=>rw[hc] at this;cases this
        | some rc =>
          rw[hc] at this;obtain⟨xs,h8,_⟩:=KF n e h.2 _ _ _ this
          exact⟨xs,h8⟩)
       have h7:∀ i,i<len -> ∃ row rc,bs[i]? = some row/\w.cells? 0 (a.add (i*P.cellsOf e)) (P.cellsOf e)=some rc/\DG w row rc:=by
        intro i hi;have hi':i<elems.length:=zy
        have:=h6 i hi;rw[Qa hi'] at this
        cases hc:w.cells? 0 (a.add (i*P.cellsOf e)) (P.cellsOf e) with
        | none=>rw[hc] at this;cases this
        | some rc =>
          rw[hc] at this;obtain⟨xs,h8,hx2⟩:=KF n e h.2 _ _ _ this;obtain⟨row,hq,h4⟩:=h3 i elems[i].1 (by simp[hi'])
          rw[h8] at h4;obtain rfl:=Qc h4;exact⟨_,rc,hq,rfl,hx2⟩
       have h9:bs.length=len:=by simpa [hh] using h2
       have hk:elems.length<=9223372036854775807:=by
        have e:maxLen=9223372036854775807:=zx
        omega
       refine⟨[.vs (P.cellsOf e) false bs],by simp[DQ,hu,h1,hk],.one rfl ?_⟩
       rw[<- h9]
       have u:∀ i j,i<len->j<P.cellsOf e -> ∃ v,w.cell? (a.add (i*P.cellsOf e+j))=some v/\v.oneCell'=true/\AX (TF w) w (λ _=>none) ((bs.getD i []).getD j .dead) v:=by
        intro i j hi hj;obtain⟨row,rc,q1,q2,q3⟩:=h7 i hi;obtain⟨_,q4,q5⟩:=World.cells?_some q2;have q6:=q5 j hj;have q7:=q3.2 j (by rw[q3.1,q4];exact hj)
        have e1:bs.getD i []=row:=by simp[List.getD,q1]
        have e2:rc[j]? = some (rc.getD j undef):=by
         have:j<rc.length:=zy
         simp[List.getD,this]
        have e3:(a.add (i*P.cellsOf e)).add j=a.add (i*P.cellsOf e+j):=by
         unfold Addr.add
         by_cases c1:i*P.cellsOf e=0<;>by_cases c2:j=0<;>simp[c1,c2]<;>omega
        rw[e3] at q6;exact⟨_,by rw[q6,e2],q7.1,by rw[e1];exact q7.2⟩
       refine .vs _ _ _ _ (some a) cap (λ i j=>(w.cell? (a.add (i*P.cellsOf e+j))).getD undef) (λ h=>by cases h) zy (λ row hr=>?_) (λ hs=>?_) (λ i j hi hj=>?_) λ i j hi hj=>?_
       .obtain ⟨i,hi,rfl⟩:=QA.1 hr
        obtain⟨row,rc,q1,q2,q3⟩:=h7 i zy
        obtain⟨_,q4,_⟩:=World.cells?_some q2;rw[Qa hi] at q1;obtain rfl:=Qc q1;rw[q3.1,q4]
       .have hm:0<len:=by
         rw[<- h9]
         cases bs with
         | nil=>exact absurd rfl hs
         | cons _ _=>simp
        obtain⟨v0,h0,_⟩:=u 0 0 hm h.1;obtain⟨b,off,spot⟩:=a;have ha:spot=none:=by simpa [Addr.add] using World.cell?_spot h0
        subst ha;have h5:∀ k,(⟨b,off,none⟩:Addr).add k=⟨b,off+k,none⟩:=λ k=>by unfold Addr.add;split<;>simp_all
        cases hb:w.heap[b]? with
        | none=>rw[h5] at h0;simp[World.cell?,hb] at h0
        | some o =>
          cases o with
          | cells cells ty fz =>
            have hc:∀ i j,i<len->j<P.cellsOf e -> ∃ v,cells[off+i*P.cellsOf e+j]? = some v/\w.cell? ((⟨b,off,none⟩:Addr).add (i*P.cellsOf e+j))=some v:=by
             intro i j hi hj;obtain⟨v,hv,_⟩:=u i j hi hj;refine⟨v,?_,hv⟩;rw[h5] at hv
             simpa [World.cell?,hb,UG] using hv
            refine⟨b,off,cells,ty,fz,rfl,hb,?_,λ i j hi hj=>?_⟩
            .obtain ⟨v,hv,_⟩:=hc (len - 1) (P.cellsOf e - 1) zy zy
             have:=(QE.1 hv).1
             have e5:bs.length*P.cellsOf e=(len - 1)*P.cellsOf e+P.cellsOf e:=by
              rw[h9];obtain⟨q,rfl⟩:∃ q,len=q+1:=⟨len - 1,zy⟩
              simp[QJ]
             have e6:TF w b=cells.size:=by simp[TF,hb]
             omega
            .obtain ⟨v,hv,ht⟩:=hc i j zy hj
             rw[hv,ht];rfl
          | _=>rw[h5] at h0;simp[World.cell?,hb] at h0
       .obtain ⟨v,hv,ho,_⟩:=u i j zy hj
        rw[hv];exact ho
       .obtain ⟨v,hv,_,hr⟩:=u i j zy hj
        rw[hv];exact hr
     case struct fs =>
      simp only[beq_iff_eq] at h;obtain⟨ys,k,_,rfl,he,hn,h6⟩:=DataW.trod_struct hu hx
      have key:∀ (fl:List Field) (o e:Nat) (zs:List (DataW H × List MemPlace)),Fu P (FY P n) o fl=some e->zs.length=fl.length ->
        (∀ (i:Nat) f,fl[i]? = some f->DataW.trod enc P w 0 sp aC k f.type ((cs.drop f.offset).take (P.cellsOf f.type))=zs[i]?) ->
        ∃ l,((fl.zip (zs.map (·.1))).mapM λ (x:Field × DataW H)=>DQ P n x.1.type x.2)=some l/\DG w l.flatten ((cs.drop o).take (e - o))/\o<=e:=by
       intro fl
       induction fl with
       | nil =>
         intro o e zs h1 h2 _;simp only[Fu,Qq] at h1;subst h1;exact⟨[],rfl,by simp[DG],Qk _⟩
       | cons f fl ih =>
         intro o e zs h1 h2 h3
         cases zs with
         | nil=>simp at h2
         | cons z zs =>
           simp only[Fu] at h1;split at h1
           case isFalse=>cases h1
           rename_i hc;obtain⟨rfl,hp⟩:=hc;have hz:=h3 0 f rfl;simp only[List.getElem?_cons_zero] at hz;obtain⟨row,r1,r2⟩:=KF n f.type hp _ _ _ hz;obtain⟨l,l1,l2,l3⟩:=ih _ e zs h1 (by simpa using h2) λ i g hg=>by simpa using h3 (i+1) g (by simpa using hg)
           refine⟨row::l,by simp[List.mapM_cons,r1,l1],?_,zy⟩
           have e1:(cs.drop f.offset).take (e - f.offset)=(cs.drop f.offset).take (P.cellsOf f.type)++(cs.drop (f.offset+P.cellsOf f.type)).take (e - (f.offset+P.cellsOf f.type)):=by
            rw[show e - f.offset=P.cellsOf f.type+(e - (f.offset+P.cellsOf f.type)) by omega,List.take_add,List.drop_drop]
           rw[e1,List.flatten_cons];exact r2.append l2
      obtain⟨l,l1,l2,_⟩:=key fs.toList 0 _ ys h (by simpa using hn) (λ i f hf=>h6 i f (by simpa using hf))
      refine⟨l.flatten,by simp[DQ,hu,l1,hn],?_⟩
      rw[Vb,Nat.sub_zero,<- he,QW] at l2;exact l2
     case array q e =>
      simp only[QD,Qf] at h;rw[DataW.trod_step] at hx;unfold DataW.trodStep at hx;simp only[hu] at hx;split at hx
      case isFalse=>cases hx
      rename_i he;simp only[Qr] at hx;obtain⟨zs,hw,rfl⟩:=hx
      have key:∀ (m' k:Nat) (zs:List (DataW H × List MemPlace)),((List.range' k m').mapM λ i=>DataW.trod enc P w 0 sp aC m e ((cs.drop (i*P.cellsOf e)).take (P.cellsOf e)))=some zs ->
        ∃ l,(zs.map (·.1)).mapM (DQ P n e)=some l/\DG w l.flatten ((cs.drop (k*P.cellsOf e)).take (m'*P.cellsOf e))/\zs.length=m':=by
       intro m'
       induction m' with
       | zero =>
         intro k zs h1;simp at h1;subst h1;exact⟨[],rfl,by simp[DG],rfl⟩
       | succ m' ih =>
         intro k zs h1;rw[List.range'_succ,List.mapM_cons] at h1
         cases hz:DataW.trod enc P w 0 sp aC m e ((cs.drop (k*P.cellsOf e)).take (P.cellsOf e)) with
         | none=>rw[hz] at h1;simp at h1
         | some z =>
           rw[hz] at h1
           cases hr:((List.range' (k+1) m').mapM λ i=>DataW.trod enc P w 0 sp aC m e ((cs.drop (i*P.cellsOf e)).take (P.cellsOf e))) with
           | none=>rw[hr] at h1;simp at h1
           | some zs' =>
             rw[hr] at h1;simp at h1;subst h1;obtain⟨row,r1,r2⟩:=KF n e h.1 _ _ _ hz;obtain⟨l,l1,l2,l3⟩:=ih (k+1) zs' hr;refine⟨row::l,by simp[List.mapM_cons,r1,l1],?_,by simp[l3]⟩
             have e1:(cs.drop (k*P.cellsOf e)).take ((m'+1)*P.cellsOf e)=(cs.drop (k*P.cellsOf e)).take (P.cellsOf e)++(cs.drop ((k+1)*P.cellsOf e)).take (m'*P.cellsOf e):=by
              rw[show (m'+1)*P.cellsOf e=P.cellsOf e+m'*P.cellsOf e by rw[QJ,Nat.one_mul,Nat.add_comm],List.take_add,List.drop_drop,show k*P.cellsOf e+P.cellsOf e=(k+1)*P.cellsOf e by rw[QJ,Nat.one_mul]]
             rw[e1,List.flatten_cons];exact r2.append l2
      obtain⟨l,l1,l2,l3⟩:=key q 0 zs (by rw[<- List.range_eq_range'];exact hw)
      refine⟨l.flatten,by simp[DQ,hu,l1,l3],?_⟩
      rw[Nat.zero_mul,Vb,h.2,<- he,QW] at l2;exact l2
     all_goals
      rw[DataW.trod_step] at hx;unfold DataW.trodStep at hx;simp only[hu] at hx
     case bool =>
      rcases cs with _ | ⟨c,_ | ⟨c2,cs⟩⟩<;>(try (simp at hx;done))
      cases c<;>simp at hx
      subst hx;exact⟨_,by simp[DQ,hu],.one rfl (.sc _ _ rfl)⟩
     case int k =>
      rcases cs with _ | ⟨c,_ | ⟨c2,cs⟩⟩<;>(try (simp at hx;done))
      cases c<;>simp at hx
      obtain⟨⟨rfl,a0⟩,rfl⟩:=hx;exact⟨_,by simp[DQ,hu,a0],.one rfl (.sc _ _ rfl)⟩
     case string =>
      rcases cs with _ | ⟨c,_ | ⟨c2,cs⟩⟩<;>(try (simp at hx;done))
      cases c<;>simp at hx
      obtain⟨_,rfl⟩:=hx;rename_i s _;exact⟨[.sc (.string s)],by simp[DQ,hu],.one rfl (.sc _ _ rfl)⟩
end
end Go.Proofs.YtnaemfpgdmfmcaaGreatDoor
namespace Go.Proofs.YtnaemfpgdmfmcaaGreatDoor
open Go Go.ChangeShapes Go.WideShapes Go.ChangeAt Go.RowKit
variable {base n:Nat} {r:Go.Reach}
section
variable {H:Type} {P:Program}
def E3 (P:Program) (n:Nat) (t:TypeId) (d:DataW H):Option AV :=
 match P.underlying t with
 | some (.struct _)=>(DQ P n t d).map .agg
 | some (.array _ _)=>(DQ P n t d).map .agg
 | _=>(DQ P n t d).bind fun | [x]=>some x | _=>none
variable {enc:TypeId × Value->H} {W:World} {sp:Nat->Bool} {aC:Bool}
theorem bD {t:TypeId} (hp:FY P n t=true) {v:Value} {d:DataW H} {p:List MemPlace} (q:Value.okWide P W r base t v) (h:DataW.Trod enc P W 0 sp aC t v d p) :
  ∃ x,E3 P n t d=some x/\AX (TF W) W (λ _=>none) x v:=by
 obtain⟨m,hm⟩:=h;obtain⟨xs,h1,h2⟩:=KF n t hp m _ _ hm;simp only at h1
 cases n with
 | zero=>cases hp
 | succ n =>
   simp only[FY] at hp
   cases hu:P.underlying t with
   | none=>rw[hu] at hp;cases hp
   | some td =>
     rw[hu] at hp
     have one:(∀ cs,v ≠ .agg cs)->(∀ fs,td ≠ .struct fs)->(∀ m e,td ≠ .array m e) -> ∃ x,E3 P (n+1) t d=some x/\AX (TF W) W (λ _=>none) x v:=by
      intro hv ht u
      have hc:v.cells = #[v]:=by
       cases v<;>first | rfl | exact absurd rfl (hv _)
      rw[hc] at h2;obtain⟨hl,h3⟩:=h2
      match xs,hl with
      | [x],_ =>
        refine⟨x,?_,?_⟩
        .simp only[E3,hu]
         cases td<;>first | exact absurd rfl (ht _) | exact absurd rfl (u _ _) | simp[h1]
        .simpa using (h3 0 zz).2
     cases td<;>simp only at hp<;>(try (cases hp;done))
     case struct fs =>
      simp only[Value.okWide,hu] at q;obtain⟨cs,rfl,_,_⟩:=q;refine⟨.agg xs,by simp[E3,hu,h1],?_⟩
      simp only[Value.cells] at h2;refine .agg _ _ _ (by simpa using h2.1.symm) (λ i hi=>?_) λ i hi=>?_
      .have:=(h2.2 i hi).1
       simpa [List.getD,Qx] using this
      .have:=(h2.2 i hi).2
       simpa [List.getD,Qx] using this
     case array m e =>
      simp only[Value.okWide,hu] at q;obtain⟨cs,rfl,_,_⟩:=q;refine⟨.agg xs,by simp[E3,hu,h1],?_⟩
      simp only[Value.cells] at h2;refine .agg _ _ _ (by simpa using h2.1.symm) (λ i hi=>?_) λ i hi=>?_
      .have:=(h2.2 i hi).1
       simpa [List.getD,Qx] using this
      .have:=(h2.2 i hi).2
       simpa [List.getD,Qx] using this
     all_goals
      refine one (λ cs hc=>?_) (λ fs hf=>by cases hf) (λ m e hf=>by cases hf)
      subst hc;simp[Value.okWide,hu,Cell.okWide,Cell.ok] at q
def HC (P:Program) (n:Nat):List TypeId->List (DataW H)->Option (List AV)
 | [],[]=>some []
 | t::ts,d::ds=>match E3 P n t d,HC P n ts ds with
   | some x,some xs=>some (x::xs)
   | _,_=>none
 | _,_=>none
theorem Rx {n:Nat} {r:Go.Reach} {base:Nat}:∀ {ts:List TypeId} {vs:List Value} {ds:List (DataW H)} {p:List MemPlace},(∀ t∈ts,FY P n t=true)->(∀ (j:Nat) t v,ts[j]? = some t->vs[j]? = some v->Value.okWide P W r base t v) ->
  DataW.TrodAll enc P W 0 sp aC ts vs ds p -> ∃ xs,HC P n ts ds=some xs/\xs.length=vs.length /\ ∀ i,i<xs.length->AX (TF W) W (λ _=>none) (xs.getD i .dead) (vs.getD i undef)
 | [],[],[],_,_,_,_=>⟨[],rfl,rfl,λ i hi=>absurd hi zz⟩
 | t::ts,v::vs,d::ds,_,hp,hv,⟨p,q,h1,h2,_⟩=>by
   obtain⟨x,x1,x2⟩:=bD (hp t Qi) (hv 0 t v rfl rfl) h1;obtain⟨xs,y1,y2,y3⟩:=Rx (λ t ht=>hp t (Qg _ ht)) (λ j t v h3 h4=>hv (j+1) t v (by simpa using h3) (by simpa using h4)) h2
   refine⟨x::xs,by simp[HC,x1,y1],by simp[y2],λ i hi=>?_⟩
   cases i with
   | zero=>simpa using x2
   | succ i=>simpa using y3 i (by simpa using hi)
theorem RT (hl:laidOutB P=true) {W':World} (hb:Below W.heap.size W W'):∀ {ts:List TypeId} {vs:List Value} {ds:List (DataW H)} {p:List MemPlace},(∀ t∈ts,P.readableRec t=true/\t<P.types.size)->(∀ x∈p,x.block<W.heap.size) ->
  DataW.TrodAll enc P W 0 (λ _=>true) true ts vs ds p->DataW.TrodAll enc P W' 0 (λ b=>decide (b<W.heap.size)) true ts vs ds p
 | [],[],[],_,_,_,h=>h
 | t::ts,v::vs,d::ds,_,hp,u,⟨p,q,h1,h2,e⟩ =>
   ⟨p,q,Below.trod hl (hp t Qi).1 (hp t Qi).2 h1 hb (λ x hx=>u x (by rw[e];exact QZ _ hx)),
    RT hl hb (λ t ht=>hp t (Qg _ ht)) (λ x hx=>u x (by rw[e];exact UL _ hx)) h2,e⟩
def jG (P:Program) (n:Nat) (ts:List TypeId):Bool:=ts.all λ t=>P.readableRec t && decide (t<P.types.size) && FY P n t
theorem oK {f:Func} {fi:FuncId} {s:ChangeSpec} {tb:TypeId} (hl:laidOutB P=true) {ts:List TypeId} (h4:f.params.toList=ts) (h8:jG P n ts=true) (h5:f.resultTypes = #[tb]) (h9:P.underlying tb=some .bool) (u:s.vars=[]) {args:Array Value} {ds gs:List (DataW H)} {before:List MemPlace} (h6:∀ (j:Nat) t v,f.params[j]? = some t->args[j]? = some v->Value.okWide P W r base t v) (hW:DataW.Whole enc P f.params.toList s.vars false W args.toList ds gs before) (ha:(s.fn H (ds++[])).results=[.lit (.bool true)]) (hb:(s.fn H (ds++[])).args=ds) (hd:(s.fn H (ds++[])).vars=[]) (hc:∀ xs,HC P n ts ds=some xs->Bz P fi xs [] (.B true) []) :
  Calls P fi args W λ e W'=>∃ v,e = .returned v/\s.post enc P f false true false false W args v W':=by
 have h3:∀ t∈ts,(P.readableRec t=true/\t<P.types.size)/\FY P n t=true:=by
  intro t ht;have:=UA.1 h8 t ht
  simpa only[QD,Qf] using this
 have hr:∀ t∈f.params.toList,P.readableRec t=true/\t<P.types.size:=λ t ht=>(h3 t (h4 ▸ ht)).1;have hp:∀ t∈f.params.toList,FY P n t=true:=λ t ht=>(h3 t (h4 ▸ ht)).2;subst h4;have h7:=hW;obtain⟨p,q,hA,hV,rfl,hfz,hh⟩:=hW;rw[u] at hV;obtain⟨rfl,rfl⟩:=trodVars_none hV;have hf:∀ x∈p,x.block<W.heap.size:=λ x hx=>by simpa using h7.lt x (by simpa using hx)
 obtain⟨xs,x1,x2,x3⟩:=Rx hp (λ j t v h1 h2=>h6 j t v (by simpa using h1) (by simpa using h2)) hA
 have hR:Ej (TF W) W (λ _=>none) xs args:=⟨by simpa using x2.symm,λ i hi=>by simpa [List.getD,Qx] using x3 i hi⟩
 refine((hc xs x1).2.2 (TF W) (λ _=>none) W args (jN W) ⟨λ id e he=>by simp[CW] at he,λ id id' e e' g g' b h1=>by simp[CW] at h1⟩ (λ _ _=>rfl) hR).mono ?_
 rintro e W' ⟨v,T',M',rfl,hv,_,h0⟩
 have hg:v = .bool true:=by cases hv;rfl
 subst hg;have hB:Below W.heap.size W W':=⟨h0.os,h0.tape,h0.output,h0.size,λ k hk=>h0.keep k hk (by rintro⟨_,_,h,_⟩;exact absurd h (Ut _))⟩
 refine⟨_,rfl,ds,[],p++[],[],p,[],h7,?_,?_,?_,hB.frame _,λ h=>by cases h⟩
 .rw [h5,ha]
  exact trodAll_mk1 (shut_bool h9 _)
 .rw [hb]
  exact RT hl hB hr hf hA
 .rw [u,hd]
  rfl
end
abbrev oo (d:Nat) (op:ER) (xs:List DB):Bl:=⟨some d,op,xs,none⟩
abbrev og (d:Nat) (op:ER) (xs:List DB) (g:Nat):Bl:=⟨some d,op,xs,some (g,true)⟩
abbrev oh (d:Nat) (op:ER) (xs:List DB) (g:Nat):Bl:=⟨some d,op,xs,some (g,false)⟩
abbrev ou (op:ER) (xs:List DB):Bl:=⟨none,op,xs,none⟩
abbrev vi (n:Int):Value:=.int .i64 n
abbrev v0:Value:=.int .i64 0
abbrev ve:Value:=.string ⟨#[]⟩
abbrev vn:Value:=.slice none 0 0
abbrev ki (n:Int):DB:=.c (.int .i64 n)
abbrev kn:DB:=.c (.slice none 0 0)
abbrev ma (d s:Nat):Bl:=⟨some d,.mv,[.t s],none⟩
abbrev mg (d s g:Nat):Bl:=⟨some d,.mv,[.t s],some (g,true)⟩
abbrev mh (d s g:Nat):Bl:=⟨some d,.mv,[.t s],some (g,false)⟩
abbrev fa (d k s:Nat):Bl:=⟨some d,.fad k,[.t s],none⟩
abbrev fg (d k s g:Nat):Bl:=⟨some d,.fad k,[.t s],some (g,true)⟩
abbrev fh (d k s g:Nat):Bl:=⟨some d,.fad k,[.t s],some (g,false)⟩
abbrev la (d s:Nat):Bl:=⟨some d,.ld false 1,[.t s],none⟩
abbrev lg (d s g:Nat):Bl:=⟨some d,.ld false 1,[.t s],some (g,true)⟩
abbrev lh (d s g:Nat):Bl:=⟨some d,.ld false 1,[.t s],some (g,false)⟩
abbrev ca (d:Nat) (f:FuncId) (xs:List DB):Bl:=⟨some d,.call,.f f::xs,none⟩
abbrev sr (l:List Bl) (c:CS):CS:=.seq (.reg false l []) c
abbrev rg (l:List Bl):CS:=.reg false l []
end Go.Proofs.YtnaemfpgdmfmcaaGreatDoor
namespace Go.Proofs.YtnaemfpgdmfmcaaGreatDoor
abbrev AK:=Bz Tryz.prog
theorem mixed:Tryz.prog.follows .mixedOrders=true:=by kernel_rfl
structure SC (f:FuncId) where
 c:BW
 s:Src Tryz.prog f c
def AF {f:FuncId} (fn:Func) {c d:BW} (hc:Ii Tryz.prog fn=some d:=by conv=>lhs;reduce) (hd:d=c:=by simp only[Int.ofNat_eq_natCast,Int.cast_ofNat_Int,Int.reduceNegSucc];rfl) (hf:Tryz.prog.funcs[f]? = some fn:=by kernel_rfl) (hn:fn.name ≠ "runtime.NumGoroutine":=by decide):SC f:=⟨c,mixed,fn,hf,hd ▸ hc,hn⟩
theorem sS {f:FuncId} {af:BW} (fn:Func) (hf:Tryz.prog.funcs[f]? = some fn:=by kernel_rfl) (hc:Ii Tryz.prog fn=some af:=by kernel_rfl) (hn:fn.name ≠ "runtime.NumGoroutine":=by decide):Src Tryz.prog f af:=⟨mixed,fn,hf,hc,hn⟩
def bV:SC 6:=AF Tryz.f6
def n5:SC 7:=AF Tryz.f7
def k8:SC 9:=AF Tryz.f9
def cS:SC 19:=AF Tryz.f19
def c7:SC 20:=AF Tryz.f20
def lM:SC 21:=AF Tryz.f21
def nE:SC 22:=AF Tryz.f22
def fE:SC 23:=AF Tryz.f23
def lI:SC 26:=AF Tryz.f26
def rI:SC 27:=AF Tryz.f27
def Oh:SC 29:=AF Tryz.f29
def nV:SC 42:=AF Tryz.f42
def LI:SC 48:=AF Tryz.f48
def oB:SC 51:=AF Tryz.f51
def sK:SC 52:=AF Tryz.f52
def rY:SC 53:=AF Tryz.f53
def mN:SC 54:=AF Tryz.f54
def jL:SC 55:=AF Tryz.f55
def N6:SC 56:=AF Tryz.f56
def NX:SC 57:=AF Tryz.f57
def KU:SC 58:=AF Tryz.f58
def tP:SC 59:=AF Tryz.f59
def Lm:SC 60:=AF Tryz.f60
def rT:SC 61:=AF Tryz.f61
def eY:SC 62:=AF Tryz.f62
def c9:SC 63:=AF Tryz.f63
def Mx:SC 64:=AF Tryz.f64
def jI:SC 65:=AF Tryz.f65
def aT:SC 66:=AF Tryz.f66
def bQ:SC 67:=AF Tryz.f67
def sZ:SC 68:=AF Tryz.f68
def N5:SC 69:=AF Tryz.f69
def l9:SC 70:=AF Tryz.f70
def rW:SC 100:=AF Tryz.f100
def dD:SC 101:=AF Tryz.f101
def mM:SC 102:=AF Tryz.f102
def tW:SC 103:=AF Tryz.f103
def mU:SC 104:=AF Tryz.f104
def Ki:SC 105:=AF Tryz.f105
def NM:SC 106:=AF Tryz.f106
def T9:SC 107:=AF Tryz.f107
def kC:SC 108:=AF Tryz.f108
def iF:SC 109:=AF Tryz.f109
def sM:SC 110:=AF Tryz.f110
def cM:SC 111:=AF Tryz.f111
def jB:SC 112:=AF Tryz.f112
def OE:SC 147:=AF Tryz.f147
def wR:SC 150:=AF Tryz.f150
def aI:SC 152:=AF Tryz.f152
def TA:SC 153:=AF Tryz.f153
def Ts:SC 154:=AF Tryz.f154
def gJ:SC 155:=AF Tryz.f155
def eU:SC 156:=AF Tryz.f156
def Xk:SC 196:=AF Tryz.f196
def P4:SC 206:=AF Tryz.f206
def vO:SC 207:=AF Tryz.f207
def Xl:SC 230:=AF Tryz.f230
def Vj:SC 413:=AF Tryz.f413
def WA:SC 414:=AF Tryz.f414
def WY:SC 437:=AF Tryz.f437
def PM:SC 451:=AF Tryz.f451
def tK:SC 452:=AF Tryz.f452
def Mt:SC 455:=AF Tryz.f455
def OH:SC 457:=AF Tryz.f457
variable {st:St}
section
variable {P:Program} {np id:Nat} {h:Nat->Option AD} {K:AV->List Nat->List (Nat × Option AD)->Prop} {s i off len c k l m:Nat}
@[simp] theorem zBw:aK P np id (.slc s true false false) [.rk i off len c,.sc (.int .i64 (k:Int))] h K=(k<=len/\len<=c/\(∃ e,h i=some e/\e.s=s)/\K (.rk i (off+k) (len - k) (c - k)) [i] []):=by
 rw[FT];refine propext ⟨?_,?_⟩
 .rintro ⟨l,r,m,n,h1,h2,h4,h5,h6,h7,h3,u,q,h8,h9⟩
  obtain rfl:=h6 rfl;simp at h4 h1;subst h1;have:k=l:=zy
  subst this;obtain rfl:=q rfl;exact⟨h2,h3,h8,h9⟩
 .rintro ⟨h1,h2,h3,h4⟩
  exact⟨k,len,c,len,rfl,h1,zz,(λ h=>by cases h),λ _=>rfl,(λ h=>by cases h),h2,Qk _,λ _=>rfl,h3,h4⟩
@[simp] theorem xR:aK P np id (.slc s false true false) [.rk i off len c,.sc (.int .i64 (k:Int))] h K=(k<=c/\(∃ e,h i=some e/\e.s=s)/\K (.rk i off k c) [i] []):=by
 rw[FT];refine propext ⟨?_,?_⟩
 .rintro ⟨l,r,m,n,h1,h2,h4,h5,h6,h7,h3,u,q,h8,h9⟩
  obtain rfl:=h5 rfl;simp at h4 h1;have:k=r:=zy
  subst this;obtain rfl:=q rfl;exact⟨h3,h8,by simpa using h9⟩
 .rintro ⟨h1,h3,h4⟩
  exact⟨0,k,c,len,rfl,Qn _,zz,λ _=>rfl,(λ h=>by cases h),(λ h=>by cases h),h1,Qk _,λ _=>rfl,h3,by simpa using h4⟩
@[simp] theorem zAS:aK P np id (.slc s true true false) [.rk i off len c,.sc (.int .i64 (l:Int)),.sc (.int .i64 (k:Int))] h K=(l<=k/\k<=c/\(∃ e,h i=some e/\e.s=s)/\K (.rk i (off+l) (k - l) (c - l)) [i] []):=by
 rw[FT];refine propext ⟨?_,?_⟩
 .rintro ⟨l',r,m,n,h1,h2,h4,h5,h6,h7,h3,u,q,h8,h9⟩
  simp at h4 h1;have:k=r:=zy
  subst this;have:l=l':=zy
  subst this;obtain rfl:=q rfl;exact⟨h2,h3,h8,h9⟩
 .rintro ⟨h1,h2,h3,h4⟩
  exact⟨l,k,c,len,rfl,h1,zz,(λ h=>by cases h),(λ h=>by cases h),(λ h=>by cases h),h2,Qk _,λ _=>rfl,h3,h4⟩
@[simp] theorem zBz:aK P np id (.slc s true true true) [.rk i off len c,.sc (.int .i64 (l:Int)),.sc (.int .i64 (k:Int)),.sc (.int .i64 (m:Int))] h K=(l<=k/\k<=m/\m<=c/\(∃ e,h i=some e/\e.s=s)/\K (.rk i (off+l) (k - l) (m - l)) [i] []):=by
 rw[FT];refine propext ⟨?_,?_⟩
 .rintro ⟨l',r,m',n,h1,h2,h4,h5,h6,h7,h3,q,u,h8,h9⟩
  simp at h4 h1;have:k=r:=zy
  subst this;have:l=l':=zy
  subst this;have:m=m':=zy
  subst this;exact⟨h2,h3,q,h8,h9⟩
 .rintro ⟨h1,h2,h3,h4,h5⟩
  exact⟨l,k,m,len,rfl,h1,zz,(λ h=>by cases h),(λ h=>by cases h),(λ _=>rfl),h2,h3,(λ h=>by cases h),h4,h5⟩
@[simp] theorem xV:aK P np id (.slc s true false false) [.rs i off len,.sc (.int .i64 (k:Int))] h K=(k<=len/\(∃ e,h i=some e/\e.s=s)/\K (.rs i (off+k) (len - k)) [i] []):=by
 rw[FT];refine propext ⟨?_,?_⟩
 .rintro ⟨l,r,m,n,h1,h2,h4,h5,h6,h7,h3,q,h8,h9⟩
  obtain rfl:=h6 rfl;simp at h4 h1;subst h1;have:k=l:=zy
  subst this;exact⟨h2,h8,h9⟩
 .rintro ⟨h1,h3,h4⟩
  exact⟨k,len,0,len,rfl,h1,zz,(λ h=>by cases h),λ _=>rfl,(λ h=>by cases h),Qk _,rfl,h3,h4⟩
@[simp] theorem w7:aK P np id (.slc s false true false) [.rs i off len,.sc (.int .i64 (k:Int))] h K=(k<=len/\(∃ e,h i=some e/\e.s=s)/\K (.rs i off k) [i] []):=by
 rw[FT];refine propext ⟨?_,?_⟩
 .rintro ⟨l,r,m,n,h1,h2,h4,h5,h6,h7,h3,q,h8,h9⟩
  obtain rfl:=h5 rfl;simp at h4 h1;have:k=r:=zy
  subst this;exact⟨zy,h8,by simpa using h9⟩
 .rintro ⟨h1,h3,h4⟩
  exact⟨0,k,0,len,rfl,Qn _,zz,λ _=>rfl,(λ h=>by cases h),(λ h=>by cases h),h1,rfl,h3,by simpa using h4⟩
end
theorem Le.keep {np:Nat} {st':St} (q:st'.sz=st.sz) (hn:st.n<=st'.n) (ht:∀ p∈st'.t,st.get p.1=p.2) (hh:∀ p∈st'.h,∀ e,p.2=some e->st.hp p.1=some e):Le np st st':=by
 intro T0 M0 w0 T M a w ok u
 have hp:∀ id e,st'.hp id=some e->st.hp id=some e:=by
  intro id e he;unfold St.hp at he
  cases hl:AQ st'.h id with
  | none=>rw[hl] at he;cases he
  | some v =>
    rw[hl] at he;exact hh _ (DD hl) e he
 refine⟨T,M,⟨ok.sz.trans q.symm,ok.df,λ i=>?_,⟨λ id e he=>ok.hs.ent id e (hp id e he),λ id id' e e' g g' b h1 h2=>ok.hs.inj id id' e e' g g' b (hp _ _ h1) (hp _ _ h2)⟩,λ id g hg=>Ux (ok.dom id g hg) hn,ok.after⟩,QF u hn⟩;unfold St.get at *
 cases hl:AQ st'.t i with
 | none=>exact .dead _ _
 | some v =>
   have:=ht _ (DD hl);simp only at this;show AX T w M v _;rw[<- this];exact ok.tm i
theorem Cp {np:Nat} {st':St} (q:st'.sz=st.sz:=by rfl) (hn:st.n<=st'.n:=by exact Qk _) (ht:∀ p∈st'.t,st.get p.1=p.2:=by simp) (hh:∀ p∈st'.h,∀ e,p.2=some e->st.hp p.1=some e:=by simp):Le np st st':=Le.keep q hn ht hh
theorem AW.m1 {rs:List (Nat × Option (Bool × Nat))} {vs:List AV} {res:AV} {e:AD} (i:Nat) (hi:1<=i) (h1:Ek st rs=some vs) (hw:Wk (conv [(0,0),(i,1)] [] st.hp 4 (C2 vs)) res) (h0:st.hp 0=none) (he:(st.hp i).map (Ab [(0,0),(i,1)] [] st.hp 4)=some e):AW rs 1 st res [none,some e] :=
 ⟨vs,h1,[i],[],by simp[List.range,List.range.loop];omega,by simpa using hi,zz,by simpa [List.range,List.range.loop] using hw,by simpa [List.range,List.range.loop,h0] using he⟩
variable {P:Program} {np:Nat} {α:Type}
theorem g6:∀ (ops:List Bl) (n i:Nat) (st:St) (tr:List (List Nat × List Nat)) (K:α->St->List (List Nat × List Nat)->Prop),BY P np n i ops st tr (λ s t=>∃ x,K x s t) -> ∃ x,BY P np n i ops st tr (K x):=by
 intro ops
 induction ops with
 | nil=>intro n i st tr K h;exact h
 | cons o os ih =>
   intro n i st tr K h
   have u:∀ (op:ER) (xs:List AV) (h:Nat->Option AD) (F:AV->List Nat->List (Nat × Option AD)->(St->List (List Nat × List Nat)->Prop)->Prop),
     (∀ v rd up,F v rd up (λ s t=>∃ x,K x s t) -> ∃ x,F v rd up (K x))->aK P np (n+8*i) op xs h (λ v rd up=>F v rd up (λ s t=>∃ x,K x s t)) -> ∃ x,aK P np (n+8*i) op xs h (λ v rd up=>F v rd up (K x)):=by
    intro op xs h F hF hk;obtain⟨v,rd,up,h1,h2⟩:=Of hk;obtain⟨x,hx⟩:=hF v rd up h1;refine⟨x,Wn (λ a b c e=>?_) h2⟩;obtain⟨rfl,rfl,rfl⟩:=e;exact hx
   unfold BY at h ⊢
   cases hg:o.guard with
   | none =>
     simp only[hg] at h ⊢;exact u _ _ _ (λ v rd up K'=>BY P np n (i+1) os ((st.put o.dst v).upd up) (tr++[(rd,up.map (·.1))]) K') (λ v rd up=>ih _ _ _ _ _) h
   | some gw =>
     obtain⟨g,want⟩:=gw;simp only[hg] at h ⊢;obtain⟨b,hb,h⟩:=h
     by_cases q:b=some want
     .rw [if_pos q] at h
      obtain⟨x,hx⟩:=u _ _ _ (λ v rd up K'=>BY P np n (i+1) os ((st.put o.dst v).upd up) (tr++[(rd,up.map (·.1))]) K') (λ v rd up=>ih _ _ _ _ _) h
      exact⟨x,b,hb,by rw[if_pos q];exact hx⟩
     .rw [if_neg q] at h
      obtain⟨x,hx⟩:=ih _ _ _ _ _ h;exact⟨x,b,hb,by rw[if_neg q];exact hx⟩
theorem Le.trans' {a b c:St} (h1:Le np a b) (h2:Le np b c):Le np a c:=by
 intro T0 M0 w0 T M ac w ok hn;obtain⟨T',M',ok',q⟩:=h1 T0 M0 w0 T M ac w ok hn;exact h2 T0 M0 w0 T' M' ac w ok' q
theorem kH:∀ {c:CS} {α:Type} {Q:α->Dy->St->Prop} {st:St},Ad P np c (λ e s=>∃ x,Q x e s) st -> ∃ x,Ad P np c (Q x) st:=by
 intro c
 induction c with
 | skip=>intro α Q st h;exact h
 | reg draw ops after =>
   intro α Q st hw
   obtain⟨x,hx⟩:=g6 ops st.n 0 st [] (λ x st' tr=>(draw=true->FE ops after tr=true)/\Q x .normal { st' with n:=st.n+8*ops.length })
    (EY _ _ _ _ _ _ _ (λ s t h=>by obtain⟨h1,x,h2⟩:=h;exact⟨x,h1,h2⟩) hw.2)
   exact⟨x,hw.1,hx⟩
 | seq a b iha ihb =>
   intro α Q st hw;refine iha (D6 (λ e s hs=>?_) hw)
   cases e with
   | normal =>
     obtain⟨st2,u,h2⟩:=hs;obtain⟨x,hx⟩:=ihb h2;exact⟨x,st2,u,hx⟩
   | exit id=>exact hs
   | ret=>exact hs
 | cond c a b iha ihb =>
   intro α Q st hw;obtain⟨t,ht,hw⟩:=hw
   cases t
   .obtain ⟨x,hx⟩:=ihb hw
    exact⟨x,false,ht,hx⟩
   .obtain ⟨x,hx⟩:=iha hw
    exact⟨x,true,ht,hx⟩
 | block id a iha =>
   intro α Q st hw;refine iha (D6 (λ e s hs=>?_) hw)
   cases e with
   | normal=>exact hs
   | exit id' =>
     simp only at hs ⊢
     by_cases hi:id'=id
     .simp only[if_pos hi] at hs ⊢;exact hs
     .simp only[if_neg hi] at hs ⊢;exact hs
   | ret=>exact hs
 | loop a iha =>
   intro α Q st hw;obtain⟨I,⟨st0,k0,u,hI⟩,hb⟩:=hw
   have key:∀ k s,I k s -> ∃ x,Ad P np (.loop a) (Q x) s:=by
    intro k
    induction k using Nat.strongRecOn with
    | ind k ihk =>
      intro s hs
      have h0:Ad P np a (λ e s'=>∃ y:{ y:α × Nat × (Nat->St->Prop) // ∀ k' s',y.2.2 k' s'->Ad P np a (λ e st'=>match e with | .normal=>∃ st2 k2,Le np st' st2/\y.2.2 k2 st2/\k2<k' | e=>Q y.1 e st') s' },
        match e with | .normal=>∃ st2,Le np s' st2/\y.1.2.2 y.1.2.1 st2 | e=>Q y.1.1 e s') s:=by
       refine D6 (λ e s' h=>?_) (hb k s hs)
       cases e with
       | normal =>
         obtain⟨st2,k2,h1,h2,h3⟩:=h;obtain⟨x,J,⟨st3,k3,h4,h5⟩,h6⟩:=ihk k2 h3 st2 h2;exact⟨⟨(x,k3,J),h6⟩,st3,Le.trans' h1 h4,h5⟩
       | exit id=>obtain⟨x,h⟩:=h;exact⟨⟨(x,0,λ _ _=>False),λ _ _ h=>h.elim⟩,h⟩
       | ret=>obtain⟨x,h⟩:=h;exact⟨⟨(x,0,λ _ _=>False),λ _ _ h=>h.elim⟩,h⟩
      obtain⟨⟨⟨x,q,J⟩,hJ⟩,hy⟩:=iha h0;simp only at hJ hy;refine⟨x,λ k' s'=>J k' s'∨(k'=q+1/\s'=s),⟨s,q+1,Le.refl _ _,.inr ⟨rfl,rfl⟩⟩,?_⟩
      rintro k' s' (h | ⟨rfl,rfl⟩)
      .refine D6 (λ e s2 h2=>?_) (hJ k' s' h)
       cases e with
       | normal=>obtain⟨st2,k2,h1,h2,h3⟩:=h2;exact⟨st2,k2,h1,.inl h2,h3⟩
       | exit id=>exact h2
       | ret=>exact h2
      .refine D6 (λ e s2 h2=>?_) hy
       cases e with
       | normal=>obtain⟨st2,h1,h2⟩:=h2;exact⟨st2,q,h1,.inl h2,Nat.lt_succ_self q⟩
       | exit id=>exact h2
       | ret=>exact h2
   obtain⟨x,hx⟩:=key k0 st0 hI;obtain⟨J,⟨s3,k3,h4,h5⟩,h6⟩:=hx;exact⟨x,J,⟨s3,k3,Le.trans' u h4,h5⟩,h6⟩
 | exit id=>intro α Q st h;exact h
 | ret=>intro α Q st h;exact h
 | bad=>intro α Q st h;exact h.elim
def FF {α:Type} (rs:List (Nat × Option (Bool × Nat))) (np:Nat) (F:α->AV) (H:α->List (Option AD)) (R:α->Prop) (e:Dy) (st:St):Prop:=(e = .normal∨e = .ret) /\ ∃ x,R x/\AW rs np st (F x) (H x)
theorem FF.mk {rs:List (Nat × Option (Bool × Nat))} {F:α->AV} {H:α->List (Option AD)} {R:α->Prop} {e:Dy} {st:St} (he:e = .normal∨e = .ret) (x:α) (hx:R x) (h:AW rs np st (F x) (H x)):FF rs np F H R e st:=⟨he,x,hx,h⟩
theorem Src.acallsX {f:FuncId} {af:BW} (s:Src P f af) (F:α->AV) (H:α->List (Option AD)) (R:α->Prop) {args:List AV} {hs:List AD} (h0:args.length<=af.nt) (q:hs.length<=16) (u:∀ x,hs.length<=(H x).length) (h:Ad P hs.length af.code (FF af.res hs.length F H R) (FQ af args hs)):∃ x,R x/\Bz P f args hs (F x) (H x):=by
 obtain⟨⟨x,hx⟩,hw⟩:=kH (α:={ x:α // R x }) (Q:=λ x e st=>(e = .normal∨e = .ret)/\AW af.res hs.length st (F x.1) (H x.1)) (D6 (λ e st h=>by
  obtain⟨h1,x,h2,h3⟩:=h
  exact⟨⟨x,h2⟩,h1,h3⟩) h)
 exact⟨x,hx,s.acalls h0 q (u x) hw⟩
variable {P:Program} {Q:Dy->St->Prop} {af:List (List Nat)} {h:List (Nat × Option AD)} {n np sz:Nat} {ops:List Bl} {s st st':St} {t:List (Nat × AV)}
def Fi (l:List Nat):List (Nat × Nat):=l.map λ i=>(i,i)
def G0 (live keep sn:List Nat) (n:Nat) (st:St):St :=
 ⟨st.sz,live.map (λ i=>(i,conv (Fi keep) sn st.hp 4 (st.get i))),keep.map (λ i=>(i,(st.hp i).map (Ab (Fi keep) sn st.hp 4))),n⟩
def D8 (keep:List Nat) (st:St):Prop:=∀ i∈keep,∀ e,st.hp i=some e->e.ro<=e.rows.length
def EP (np n:Nat) (ρ:List (Nat × Nat)) (sn:List Nat):Bool :=
 decide (ρ.map (·.1)).Nodup && decide (ρ.map (·.2)).Nodup && ρ.all (λ p=>decide (p.2<n) && (decide (np<=p.2) || p.1 == p.2)) && sn.all (λ i=>decide (np<=i) && !(ρ.map (·.1)).contains i) && decide (np<=n)
theorem Le.go (ρ:List (Nat × Nat)) (sn:List Nat) (h6:st'.sz=st.sz) (u:EP np st'.n ρ sn=true) (ht:∀ p∈st'.t,Wk (conv ρ sn st.hp 4 (st.get p.1)) p.2) (hh:∀ p∈st'.h,∃ q∈ρ,q.2=p.1/\(st.hp q.1).map (Ab ρ sn st.hp 4)=p.2 /\ ∀ e,p.2=some e->e.ro<=e.rows.length):Le np st st':=by
 simp only[EP,QD,UA,Qf,UY,beq_iff_eq,UO,List.contains_eq_mem,Qd] at u;obtain⟨⟨⟨⟨h1,h2⟩,h3⟩,h4⟩,h5⟩:=u;refine Le.lst ρ sn [] h6 h1 h2 (λ p hp=>⟨(h3 p hp).1,λ h8=>?_⟩) zz (λ i hi=>h4 i hi) h5 zz (λ p hp=>.inl (ht p hp)) λ p hp e' h0=>?_
 .rcases (h3 p hp).2 with h | h
  .omega
  .exact h
 .obtain ⟨q,hq,hq2,hm,hr⟩:=hh p hp
  rw[h0] at hm
  cases hs:st.hp q.1 with
  | none=>rw[hs] at hm;cases hm
  | some e =>
    rw[hs] at hm;have h7:Ab ρ sn st.hp 4 e=e':=by simpa using hm
    exact .inl ⟨q,hq,hq2,e,hs,by rw[h7];exact An.rfl' (hr e' h0)⟩
theorem BP (ρ:List (Nat × Nat)) (sn:List Nat) (h0:st'.sz=st.sz:=by rfl) (u:EP np st'.n ρ sn=true:=by rfl) (ht:∀ p∈st'.t,Wk (conv ρ sn st.hp 4 (st.get p.1)) p.2:=by simp) (hh:∀ p∈st'.h,∃ q∈ρ,q.2=p.1/\(st.hp q.1).map (Ab ρ sn st.hp 4)=p.2 /\ ∀ e,p.2=some e->e.ro<=e.rows.length:=by simp):Le np st st':=Le.go ρ sn h0 u ht hh
theorem CO (ρ:List (Nat × Nat)) (sn:List Nat) (h0:st'.sz=st.sz:=by rfl) (u:EP np st'.n ρ sn=true:=by rfl) (ht:∀ p∈st'.t,Wk (conv ρ sn st.hp 4 (st.get p.1)) p.2:=by simp) (hh:∀ p∈st'.h,∃ q∈ρ,q.2=p.1/\(st.hp q.1).map (Ab ρ sn st.hp 4)=p.2 /\ ∀ e,p.2=some e->e.ro<=e.rows.length:=by simp[AC]):Le np st st':=Le.go ρ sn h0 u ht hh
theorem BB (ρ:List (Nat × Nat)) (sn:List Nat) (h0:st'.sz=st.sz:=by rfl) (u:EP np st'.n ρ sn=true:=by rfl) (ht:∀ p∈st'.t,Wk (conv ρ sn st.hp 4 (st.get p.1)) p.2:=by simp[AC]) (hh:∀ p∈st'.h,∃ q∈ρ,q.2=p.1/\(st.hp q.1).map (Ab ρ sn st.hp 4)=p.2 /\ ∀ e,p.2=some e->e.ro<=e.rows.length:=by simp[AC]):Le np st st':=Le.go ρ sn h0 u ht hh
theorem AJ (ρ:List (Nat × Nat)) (sn:List Nat) (ht:∀ p∈st'.t,Wk (conv ρ sn st.hp 4 (st.get p.1)) p.2) (hh:∀ p∈st'.h,∃ q∈ρ,q.2=p.1/\(st.hp q.1).map (Ab ρ sn st.hp 4)=p.2 /\ ∀ e,p.2=some e->e.ro<=e.rows.length:=by simp) (h0:st'.sz=st.sz:=by rfl) (u:EP np st'.n ρ sn=true:=by rfl):Le np st st':=Le.go ρ sn h0 u ht hh
def Lz (np:Nat) (ρ:List (Nat × Nat)) (sn:List Nat) (st st':St):Prop:=Le np st st'
theorem Lz.i {ρ:List (Nat × Nat)} {sn:List Nat} (h0:st'.sz=st.sz:=by rfl) (u:EP np st'.n ρ sn=true:=by rfl) (ht:∀ p∈st'.t,Wk (conv ρ sn st.hp 4 (st.get p.1)) p.2:=by first | simp;done | simp[AC]) (hh:∀ p∈st'.h,∃ q∈ρ,q.2=p.1/\(st.hp q.1).map (Ab ρ sn st.hp 4)=p.2 /\ ∀ e,p.2=some e->e.ro<=e.rows.length:=by first | simp;done | simp[AC]):Lz np ρ sn st st':=Le.go ρ sn h0 u ht hh
theorem A2 {b:CS} (s:St) (ρ:List (Nat × Nat)) (sn:List Nat) (hq:Ad P np b Q s) (ho:BY P np n 0 ops ⟨sz,t,h,n⟩ [] (λ st' _=>Lz np ρ sn ⟨st'.sz,st'.t,st'.h,n+8*ops.length⟩ s):=by simp;exact Lz.i) (hd:(ops.all λ o=>o.dst.all (· < sz))=true:=by rfl):Ad P np (.seq (.reg false ops af) b) Q ⟨sz,t,h,n⟩:=Ep s hd ho hq
theorem Le.cut (live keep sn:List Nat) (n:Nat) (q:EP np n (Fi keep) sn=true) (hr:D8 keep st):Le np st (G0 live keep sn n st):=by
 refine Le.go (Fi keep) sn rfl q (λ p hp=>?_) λ p hp=>?_
 .obtain ⟨i,_,rfl⟩:=Qh.1 hp
  exact .refl _
 .obtain ⟨i,hi,rfl⟩:=Qh.1 hp
  refine⟨(i,i),Qh.2 ⟨i,hi,rfl⟩,rfl,rfl,λ e he=>?_⟩;simp only at he
  cases hs:st.hp i with
  | none=>rw[hs] at he;cases he
  | some e0 =>
    rw[hs] at he;have u:Ab (Fi keep) sn st.hp 4 e0=e:=by simpa using he
    subst u;have:=hr i hi e0 hs
    simpa [Ab] using this
theorem rx {b:CS} (live keep sn:List Nat) (hd:((ops.all λ o=>o.dst.all (· < sz)) && EP np (n+8*ops.length) (Fi keep) sn)=true) (ho:BY P np n 0 ops ⟨sz,t,h,n⟩ [] λ st' _=>D8 keep st'/\G0 live keep sn (n+8*ops.length) st'=s) (hq:Ad P np b Q s):Ad P np (.seq (.reg false ops af) b) Q ⟨sz,t,h,n⟩:=by
 rw[QD] at hd;refine Ep s hd.1 (EY _ _ _ _ _ _ _ (λ st' _ hc=>?_) ho) hq;obtain⟨h1,rfl⟩:=hc;exact Le.cut (st:=⟨st'.sz,st'.t,st'.h,n+8*ops.length⟩) live keep sn _ hd.2 h1
theorem rs {b:CS} (live keep sn:List Nat) (hq:Ad P np b Q s) (hd:((ops.all λ o=>o.dst.all (· < sz)) && EP np (n+8*ops.length) (Fi keep) sn)=true:=by rfl) (ho:BY P np n 0 ops ⟨sz,t,h,n⟩ [] (λ st' _=>D8 keep st'/\G0 live keep sn (n+8*ops.length) st'=s):=by simp;rfl):Ad P np (.seq (.reg false ops af) b) Q ⟨sz,t,h,n⟩:=rx live keep sn hd ho hq
def F7 (live keep:List Nat) (n:Nat) (st:St):St:=⟨st.sz,live.map (λ i=>(i,st.get i)),keep.map (λ i=>(i,st.hp i)),n⟩
theorem Le.cutk (live keep:List Nat) (n:Nat) (hn:st.n<=n):Le np st (F7 live keep n st) :=
 Le.keep rfl hn (λ p hp=>by obtain⟨i,_,rfl⟩:=Qh.1 hp;rfl) λ p hp e he=>by
  obtain⟨i,_,rfl⟩:=Qh.1 hp;exact he
theorem rk {b:CS} (live keep:List Nat) (hd:(ops.all λ o=>o.dst.all (· < sz))=true) (ho:BY P np n 0 ops ⟨sz,t,h,n⟩ [] λ st' _=>F7 live keep (n+8*ops.length) st'=s) (hq:Ad P np b Q s):Ad P np (.seq (.reg false ops af) b) Q ⟨sz,t,h,n⟩:=by
 refine Ep s hd (EY _ _ _ _ _ _ _ (λ st' _ hc=>?_) ho) hq;subst hc;exact Le.cutk (st:=⟨st'.sz,st'.t,st'.h,n+8*ops.length⟩) live keep _ (Qk _)
@[simp] theorem xM:Fi []=[]:=(rfl)
@[simp] theorem zAa {i:Nat} {l:List Nat}:Fi (i::l)=(i,i)::Fi l:=(rfl)
@[simp] theorem zAj:D8 [] st=True:=by simp[D8]
@[simp] theorem zyc {i:Nat} {l:List Nat}:D8 (i::l) st=((∀ e,st.hp i=some e->e.ro<=e.rows.length)/\D8 l st):=by simp[D8]
@[simp] theorem xJ {live keep sn:List Nat} {m:Nat}:G0 live keep sn n ⟨sz,t,h,m⟩=⟨sz,live.map (λ i=>(i,conv (Fi keep) sn (St.mk sz t h m).hp 4 ((St.mk sz t h m).get i))),keep.map (λ i=>(i,((St.mk sz t h m).hp i).map (Ab (Fi keep) sn (St.mk sz t h m).hp 4))),n⟩:=(rfl)
@[simp] theorem yD {live keep:List Nat} {m:Nat}:F7 live keep n ⟨sz,t,h,m⟩=⟨sz,live.map (λ i=>(i,(St.mk sz t h m).get i)),keep.map (λ i=>(i,(St.mk sz t h m).hp i)),n⟩:=(rfl)
variable {P:Program} {Q:Dy->St->Prop} {af:List (List Nat)} {h:List (Nat × Option AD)} {n np sz:Nat} {ops:List Bl} {s st:St} {t:List (Nat × AV)}
def EV (live:List Nat) (ρ:List (Nat × Nat)) (sn:List Nat) (n:Nat) (st:St):St :=
 ⟨st.sz,live.map (λ i=>(i,conv ρ sn st.hp 4 (st.get i))),ρ.map (λ p=>(p.2,(st.hp p.1).map (Ab ρ sn st.hp 4))),n⟩
def Fq (ρ:List (Nat × Nat)) (st:St):Prop:=∀ p∈ρ,∀ e,st.hp p.1=some e->e.ro<=e.rows.length
theorem Le.cutr (live:List Nat) (ρ:List (Nat × Nat)) (sn:List Nat) (n:Nat) (u:EP np n ρ sn=true) (hr:Fq ρ st):Le np st (EV live ρ sn n st):=by
 refine Le.go ρ sn rfl u (λ p hp=>?_) λ p hp=>?_
 .obtain ⟨i,_,rfl⟩:=Qh.1 hp
  exact .refl _
 .obtain ⟨q,hq,rfl⟩:=Qh.1 hp
  refine⟨q,hq,rfl,rfl,λ e he=>?_⟩;simp only at he
  cases hs:st.hp q.1 with
  | none=>rw[hs] at he;cases he
  | some e0 =>
    rw[hs] at he;have h0:Ab ρ sn st.hp 4 e0=e:=by simpa using he
    subst h0;have:=hr q hq e0 hs
    simpa [Ab] using this
theorem ax {b:CS} (live:List Nat) (ρ:List (Nat × Nat)) (sn:List Nat) (m:Nat) (ho:BY P np n 0 ops ⟨sz,t,h,n⟩ [] λ st' _=>Fq ρ st'/\EV live ρ sn m st'=s) (hq:Ad P np b Q s) (hd:((ops.all λ o=>o.dst.all (· < sz)) && EP np m ρ sn)=true:=by rfl):Ad P np (.seq (.reg false ops af) b) Q ⟨sz,t,h,n⟩:=by
 rw[QD] at hd;refine Ep s hd.1 (EY _ _ _ _ _ _ _ (λ st' _ hc=>?_) ho) hq;obtain⟨h1,rfl⟩:=hc;exact Le.cutr (st:=⟨st'.sz,st'.t,st'.h,n+8*ops.length⟩) live ρ sn m hd.2 h1
theorem ay {b:CS} (live:List Nat) (ρ:List (Nat × Nat)) (sn:List Nat) (m:Nat) (ho:BY P np n 0 ops ⟨sz,t,h,n⟩ [] λ st' tr=>Jq ops af tr/\Fq ρ st'/\EV live ρ sn m st'=s) (hq:Ad P np b Q s) (hd:((ops.all λ o=>o.dst.all (· < sz)) && EP np m ρ sn)=true:=by rfl):Ad P np (.seq (.reg true ops af) b) Q ⟨sz,t,h,n⟩:=by
 rw[QD] at hd;refine LH s hd.1 (EY _ _ _ _ _ _ _ (λ st' _ hc=>?_) ho) hq;obtain⟨h0,h1,rfl⟩:=hc;exact⟨h0,Le.cutr (st:=⟨st'.sz,st'.t,st'.h,n+8*ops.length⟩) live ρ sn m hd.2 h1⟩
@[simp] theorem y7:Fq [] st=True:=by simp[Fq]
@[simp] theorem xP {i j:Nat} {l:List (Nat × Nat)}:Fq ((i,j)::l) st=((∀ e,st.hp i=some e->e.ro<=e.rows.length)/\Fq l st):=by simp[Fq]
@[simp] theorem zAg {live:List Nat} {ρ:List (Nat × Nat)} {sn:List Nat} {m:Nat}:EV live ρ sn n ⟨sz,t,h,m⟩=⟨sz,live.map (λ i=>(i,conv ρ sn (St.mk sz t h m).hp 4 ((St.mk sz t h m).get i))),ρ.map (λ p=>(p.2,((St.mk sz t h m).hp p.1).map (Ab ρ sn (St.mk sz t h m).hp 4))),n⟩:=(rfl)
theorem ar {b:CS} (live:List Nat) (ρ:List (Nat × Nat)) (sn:List Nat) (m:Nat) (hq:Ad P np b Q s) (hd:((ops.all λ o=>o.dst.all (· < sz)) && EP np m ρ sn)=true:=by rfl) (ho:BY P np n 0 ops ⟨sz,t,h,n⟩ [] λ st' _=>Fq ρ st'/\EV live ρ sn m st'=s:=by simp[AC];rfl):Ad P np (.seq (.reg false ops af) b) Q ⟨sz,t,h,n⟩:=ax live ρ sn m ho hq hd
theorem ak {b:CS} (live keep:List Nat) (m:Nat) (ho:BY P np n 0 ops ⟨sz,t,h,n⟩ [] λ st' _=>F7 live keep m st'=s) (hq:Ad P np b Q s) (hd:((ops.all λ o=>o.dst.all (· < sz)) && decide (n+8*ops.length<=m))=true:=by rfl):Ad P np (.seq (.reg false ops af) b) Q ⟨sz,t,h,n⟩:=by
 rw[QD,Qf] at hd;refine Ep s hd.1 (EY _ _ _ _ _ _ _ (λ st' _ hc=>?_) ho) hq;subst hc;exact Le.cutk (st:=⟨st'.sz,st'.t,st'.h,n+8*ops.length⟩) live keep m hd.2
theorem al {b:CS} (live keep:List Nat) (m:Nat) (ho:BY P np n 0 ops ⟨sz,t,h,n⟩ [] λ st' tr=>Jq ops af tr/\F7 live keep m st'=s) (hq:Ad P np b Q s) (hd:((ops.all λ o=>o.dst.all (· < sz)) && decide (n+8*ops.length<=m))=true:=by rfl):Ad P np (.seq (.reg true ops af) b) Q ⟨sz,t,h,n⟩:=by
 rw[QD,Qf] at hd;refine LH s hd.1 (EY _ _ _ _ _ _ _ (λ st' _ hc=>?_) ho) hq;obtain⟨h0,rfl⟩:=hc;exact⟨h0,Le.cutk (st:=⟨st'.sz,st'.t,st'.h,n+8*ops.length⟩) live keep m hd.2⟩
theorem Src.ai {f:FuncId} {af:BW} (s:Src P f af) {args:List AV} {hs:List AD} {res:AV} {hs':List (Option AD)} {z k:Nat} (hk:Ad P k af.code (λ e st=>(e = .normal∨e = .ret)/\AW af.res k st res hs') ⟨z,t,h,16⟩) (hz:af.nt=z:=by conv=>lhs;reduce) (hi:args.zipIdx.map (λ (a,i)=>(i,a))=t/\hs.zipIdx.map (λ (e,k)=>(k,some e))=h/\hs.length=k:=by simp;exact⟨rfl,rfl,rfl⟩) (h0:args.length<=af.nt:=by exact Bf rfl) (u:hs.length<=16:=by exact Bf rfl) (q:hs.length<=hs'.length:=by simp):Bz P f args hs res hs':=by
 obtain⟨h1,h2,h3⟩:=hi;subst h1 h2 h3 hz;exact s.acalls h0 u q hk
abbrev AA (l:List Int):AV:=.vs 1 false (l.map λ n=>[AV.I n])
theorem Rm (l:List Int) (n:Int) (hl:l.length<=140737488355328):AK 54 [AA l,.I n] [] (.B (l.contains n)) []:=by
 refine mN.s.ai ?_;refine AB (Al (s:=?s1) rfl ?o1 ?q1)
 case o1=>simp;rfl
 refine AB (AB (Al (s:=?s2) rfl ?o2 ?q2))
 case o2=>simp;rfl
 refine AT (As (ι:=Nat) (λ k=>{ sz:=18,t:=[(0,AA l),(1,.I n),(5,.I k)],h:=[],n:=16 }) (λ k=>k<=l.length/\n∉l.take k) (λ k=>l.length - k) 0 zz ?_ ?_)
 .refine Le.slots rfl rfl ?_
  simp[AA]
 .rintro k ⟨hk,hn⟩
  refine AB (AB (Al (s:=?s3) rfl ?o3 ?q3))
  case o3=>simp;rfl
  refine AI _ rfl ?_ ?_
  .intro q
   simp only[Qf] at q;show Ad _ _ _ _ _;refine AB (AT (AB (Al (s:=?s4) rfl ?o4 ?q4)))
   case o4=>simp[q];rfl
   refine AI _ rfl ?_ ?_
   .intro heq
    refine AB (Al (s:=?s5) rfl ?o5 ?q5)
    case o5=>simp;rfl
    refine⟨.inr rfl,AW.one ?_⟩;have:n∈l:=by simp at heq;simp[<- heq]
    simp[this]
   .intro u
    refine AN (Al (s:=?s6) rfl ?o6 ?q6)
    case o6=>simp;rfl
    refine⟨k+1,⟨zy,?_⟩,zy,Le.slots rfl rfl ?_⟩
    .intro hm
     simp at u;rw[Ql q] at hm;rcases Qo.1 hm with h | h
     .exact hn h
     .exact u (Qt.1 h).symm
    .have hw:IntKind.i64.wrap ((k:Int)+1)=((k+1:Nat):Int):=w6
     simp[Wk.refl,hw]
  .intro hge
   refine Ar (hit ?_);refine AB (Al (s:=?s7) rfl ?o7 ?q7)
   case o7=>simp;rfl
   refine A9 ⟨.inr rfl,AW.one ?_⟩;simp at hge
   have:n∉l:=by
    have:l.take k=l:=Qb hge;rw[this] at hn;exact hn
   simp[this]
theorem Tz (x:Int):AK 156 [.I x] [] (.B false) []:=by
 refine eU.s.ai ?_;refine AB (Al (s:=?s1) rfl ?o1 ?q1)
 case o1=>simp;rfl
 refine AB (Al (s:=?s2) rfl ?o2 ?q2)
 case o2=>simp;rfl
 exact Ca
theorem GF (n lo hi:Int):AK 58 [.I n,.I lo,.I hi] [] (.B (decide (lo<=n) && decide (n<=hi))) []:=by
 refine KU.s.ai ?_;refine AB (Al (s:=?s1) rfl ?o1 ?q1)
 case o1=>simp;rfl
 by_cases h:lo<=n
 .refine AB (Al (s:=?s2) rfl ?o2 ?q2)
  case o2=>simp[h];rfl
  exact A8 (AW.one (by simp[h]))
 .refine AB (Al (s:=?s3) rfl ?o3 ?q3)
  case o3=>simp[h];rfl
  exact A8 (AW.one (by simp[h]))
def CG (x y:Int):Int:=if x<y then -1 else if x > y then 1 else 0
theorem Ib (x y:Int):AK 112 [.I x,.I y] [] (.I (CG x y)) []:=by
 refine jB.s.ai ?_;refine AB (Al (s:=?s1) rfl ?o1 ?q1)
 case o1=>simp;rfl
 refine AB (Al (s:=?s2) rfl ?o2 ?q2)
 case o2=>simp;refine A4 (Tz _) rfl ?_;simp;rfl
 refine AB (Al (s:=?s3) rfl ?o3 ?q3)
 case o3=>simp;refine A4 (Tz _) rfl ?_;simp;rfl
 refine AB (AB (Al (s:=?s4) rfl ?o4 ?q4))
 case o4=>simp;rfl
 refine AI _ rfl (λ h=>by cases h) λ _=>AN ?_
 refine AB (AB (Al (s:=?s5) rfl ?o5 ?q5))
 case o5=>simp;rfl
 refine AI _ rfl (λ h=>by cases h) λ _=>AN ?_
 refine AB (AB (Al (s:=?s6) rfl ?o6 ?q6))
 case o6=>simp;rfl
 refine AI _ rfl (λ h=>?_) λ h1=>AN ?_
 .refine AB (Al (s:=?s7) rfl ?o7 ?q7)
  case o7=>simp;rfl
  exact A8 (AW.one (by simp at h;simp[CG,h]))
 refine AB (AB (Al (s:=?s8) rfl ?o8 ?q8))
 case o8=>simp;rfl
 refine AI _ rfl (λ h=>?_) λ h2=>AN ?_
 .refine AB (Al (s:=?s9) rfl ?o9 ?q9)
  case o9=>simp;rfl
  exact A8 (AW.one (by simp at h h1;simp[CG,h,Int.not_lt.2 h1]))
 refine AB (Al (s:=?s10) rfl ?o10 ?q10)
 case o10=>simp;rfl
 exact A8 (AW.one (by simp at h1 h2;simp[CG,Int.not_lt.2 h1,Int.not_lt.2 h2]))
theorem TK (l:List Int) (hl:l.length<=140737488355328):AK 150 [AA l] [] (.I ((l.find? (· != 0)).getD 0)) []:=by
 refine wR.s.ai ?_;refine AB (AY ?_);refine AB (AY ?_);refine AB (AB (AY ?_));refine AT (As (ι:=Nat) (λ k=>⟨18,[(3,.I 0),(6,AA l),(7,.I l.length),(8,.I k)],[],16⟩) (λ k=>k<=l.length/\l.find? (· != 0)=(l.drop k).find? (· != 0)) (λ k=>l.length - k) 0 ?_ (Le.slots rfl rfl ?_) ?_)
 .simp
 .simp
 rintro k ⟨hk,hf⟩
 refine AB (AY ?_);refine AB (AI _ rfl (λ h5=>?_) λ h5=>?_)
 .simp at h5
  rw[QQ h5,List.find?_cons] at hf;refine AN (AB (AT (AB (Al (s:=?s6) rfl ?o6 ?q6))))
  case o6=>simp[h5];rfl
  refine AB (AY ?_);refine AI _ rfl (λ h8=>?_) λ h8=>?_
  .refine AB (AY ?_)
   refine A9 ?_;rw[h8] at hf;exact⟨.inr rfl,AW.one (by simp[hf])⟩
  refine AN (AY ?_);rw[h8] at hf;have hw:=w6 (x:=((k:Int)+1));refine⟨k+1,⟨h5,hf⟩,zy,Le.slots rfl rfl ?_⟩
  simp[hw]
 simp at h5;rw[Um h5] at hf;refine Ar (hit (AB (AY ?_)));exact A8 (AW.one (by simp[hf]))
structure Ed where
 f:Int
 t:Int
 v:Int
 deriving DecidableEq,Inhabited
abbrev Ed.row (e:Ed):List AV:=[.I e.f,.I e.t,.I e.v]
abbrev eE (e:Ed):AV:=.agg [.I e.f,.I e.t,.I e.v]
abbrev BO (l:List Ed):AV:=.vs 3 false (l.map λ e=>[.I e.f,.I e.t,.I e.v])
def G3 (a b:Ed):Int:=([CG a.f b.f,CG a.t b.t].find? (· != 0)).getD 0
theorem wD (a b:Ed):AK 103 [eE a,eE b] [] (.I (G3 a b)) []:=by
 refine tW.s.ai ?_;refine AB (AY ?_);refine AB (G9 (s:=?s2) (tr:=?t2) rfl ?o2 ?r2 ?q2)
 case o2 =>
  simp;refine A4 (Ib ..) rfl ?_;simp;refine A4 (Ib ..) rfl ?_;simp;refine F6 [120] (TK [CG a.f b.f,CG a.t b.t] zz) zz (.sc _) ?_;simp;constructor<;>rfl
 case r2=>rfl
 exact A8 (AW.one (by simp;exact .refl _))
def CZ (l:List Int) (x:Int):Int:=if x∈l then (l.idxOf x:Int) else -1
theorem P0 (l:List Int) (x:Int) (hl:l.length<=9223372036854775807):AK 69 [AA l,.I x] [] (.I (CZ l x)) []:=by
 refine N5.s.ai ?_;refine AB (AY ?_);refine AB (AB (AY ?_));refine AT (As (ι:=Nat) (λ k=>⟨19,[(0,AA l),(1,.I x),(6,AA l),(7,.I l.length),(8,.I k)],[],16⟩) (λ k=>k<=l.length/\x∉l.take k) (λ k=>l.length - k) 0 ?_ (Le.slots rfl rfl ?_) ?_)
 .simp
 .simp
 rintro k ⟨hk,hn⟩
 refine AB (AY ?_);refine AB (AI _ rfl (λ h4=>?_) λ h4=>?_)
 .simp at h4
  refine AN (AB (AT (AB (AY ?_))));refine AB (Al (s:=?s6) rfl ?o6 ?q6)
  case o6=>simp[h4];rfl
  refine AI _ rfl (λ h7=>?_) λ h7=>?_
  .refine AB (AY ?_)
   refine A9 ?_;have hm:x∈l:=by simp at h7;rw[h7];exact Qj h4
   have hi:l.idxOf x=k:=by
    simp at h7;have h1:l=l.take k++x::l.drop (k+1):=by rw[h7,<- QQ h4,UK]
    rw[h1,List.idxOf_append,if_neg hn,List.idxOf_cons_self];simp;omega
   exact⟨.inr rfl,AW.one (by simp[CZ,hm,hi])⟩
  refine AN (AY ?_);have hw:=w6 (x:=((k:Int)+1));refine⟨k+1,⟨h4,?_⟩,zy,Le.slots rfl rfl ?_⟩
  .intro hm
   simp at h7;rw[Ql h4] at hm;rcases Qo.1 hm with h | h
   .exact hn h
   .exact h7 (Qt.1 h)
  .simp [hw]
 simp at h4;refine Ar (hit (AB (AY ?_)));refine A9 ?_;rw[Qb h4] at hn;exact⟨.inr rfl,AW.one (by simp[CZ,hn])⟩
theorem N0 (l:List Int) (x:Int) (hl:l.length<=140737488355328):AK 69 [AA l,.I x] [] (.I (CZ l x)) [] :=
 P0 l x zy
theorem My (l:List Int) (x:Int) (hl:l.length<=9223372036854775807):AK 29 [AA l,.I x] [] (.B (decide (x∈l))) []:=by
 refine Oh.s.ai ?_;refine AB (AY ?_);refine AB (Al (s:=?s2) rfl ?o2 ?q2)
 case o2=>simp;refine A4 (P0 l x hl) rfl ?_;simp;rfl
 refine A9 ?_
 have:decide (0<=CZ l x)=decide (x∈l):=by
  unfold CZ
  by_cases h:x∈l
  .simp [h]
  .simp [h]
 exact⟨.inr rfl,AW.one (by simp[this])⟩
theorem GR (l:List Int) (x:Int) (hl:l.length<=140737488355328):AK 29 [AA l,.I x] [] (.B (decide (x∈l))) [] :=
 My l x zy
def Ia (l:List Int) (lo hi:Int) (i:Nat):Prop:=∀ h:i<l.length,lo<=l[i]/\l[i]<=hi/\(0<i->l[i - 1]<l[i])
def Bh (l:List Int) (lo hi:Int):Prop:=∀ i,Ia l lo hi i
open Classical in
theorem XY (l:List Int) (lo hi:Int) (hl:l.length<=9223372036854775807):AK 57 [AA l,.I lo,.I hi] [] (.B (decide (Bh l lo hi))) []:=by
 refine NX.s.ai ?_;refine AB (AY ?_);refine AB (AB (AY ?_));refine AT (As (ι:=Nat) (λ k=>⟨38,[(0,AA l),(1,.I lo),(2,.I hi),(9,AA l),(10,.I l.length),(11,.I k)],[],16⟩) (λ k=>k<=l.length /\ ∀ i,i<k->Ia l lo hi i) (λ k=>l.length - k) 0 ?_ (Le.slots rfl rfl ?_) ?_)
 .simp
 .simp
 rintro k ⟨hk,hp⟩
 refine AB (AY ?_);refine AB (AI _ rfl (λ h4=>?_) λ h4=>?_)
 .simp at h4
  have hw:=w6 (x:=((k:Int)+1));refine AN (AB (AT (AB (Al (s:=?s5) rfl ?o5 ?q5))))
  case o5=>simp[h4];rfl
  refine AB ?_
  by_cases a1:l[k]<lo
  .refine Al (s:=?s21) rfl ?o21 ?q21
   case o21=>simp[a1];rfl
   refine AI _ rfl (λ _=>?_) λ h=>by cases h
   refine AB (AY ?_);refine A9 ?_;have hn:¬ Bh l lo hi:=λ h=>by have:=h k h4;omega
   exact⟨.inr rfl,AW.one (by simp[hn])⟩
  by_cases a2:hi<l[k]
  .refine Al (s:=?s22) rfl ?o22 ?q22
   case o22=>simp[a1,a2];rfl
   refine AI _ rfl (λ _=>?_) λ h=>by cases h
   refine AB (AY ?_);refine A9 ?_;have hn:¬ Bh l lo hi:=λ h=>by have:=h k h4;omega
   exact⟨.inr rfl,AW.one (by simp[hn])⟩
  by_cases a3:0<k
  .have q:IntKind.i64.wrap ((k:Int) - 1)=((k - 1:Nat):Int):=by rw[w6];omega
   have h5:k - 1<l.length:=zy
   by_cases a4:l[k]<=l[k - 1]
   .refine Al (s:=?s23) rfl ?o23 ?q23
    case o23=>simp[a1,a2,a3,a4,q,h5];rfl
    refine AI _ rfl (λ _=>?_) λ h=>by cases h
    refine AB (AY ?_);refine A9 ?_;have hn:¬ Bh l lo hi:=λ h=>by have:=h k h4;have:=this.2.2 a3;omega
    exact⟨.inr rfl,AW.one (by simp[hn])⟩
   .refine Al (s:=?s24) rfl ?o24 ?q24
    case o24=>simp[a1,a2,a3,a4,q,h5];rfl
    refine AI _ rfl (λ h=>by cases h) λ _=>AN ?_
    refine AY ?_;refine⟨k+1,⟨h4,λ i hi=>?_⟩,zy,Le.slots rfl rfl ?_⟩
    .rcases QI.1 hi with h | rfl
     .exact hp i h
     .intro _;exact⟨zy,zy,λ _=>zy⟩
    .simp [hw]
  .refine Al (s:=?s25) rfl ?o25 ?q25
   case o25=>simp[a1,a2,a3];rfl
   refine AI _ rfl (λ h=>by cases h) λ _=>AN ?_
   refine AY ?_;refine⟨k+1,⟨h4,λ i hi=>?_⟩,zy,Le.slots rfl rfl ?_⟩
   .rcases QI.1 hi with h | rfl
    .exact hp i h
    .intro _;exact⟨zy,zy,λ h=>absurd h a3⟩
   .simp [hw]
 simp at h4;refine Ar (hit (AB (AY ?_)));refine A9 ?_;have hy:Bh l lo hi:=λ i hi=>hp i zy hi
 exact⟨.inr rfl,AW.one (by simp[hy])⟩
open Classical in
theorem MW (l:List Int) (lo hi:Int) (hl:l.length<=140737488355328):AK 57 [AA l,.I lo,.I hi] [] (.B (decide (Bh l lo hi))) [] :=
 XY l lo hi zy
structure Gr where
 size:Int
 edges:List Ed
 gone:List Int
abbrev gC (g:Gr):List AV:=[.I g.size,BO g.edges,AA g.gone]
abbrev eG (g:Gr):AV:=.agg (gC g)
abbrev eC (e:Ed):List AV:=[.I e.f,.I e.t,.I e.v]
def BS (g:Gr) (e:Ed):Prop:=0<=e.f/\e.f<=g.size - 1/\0<=e.t/\e.t<=g.size - 1/\e.f≠e.t/\e.f∉g.gone/\e.t∉g.gone
instance (g:Gr) (e:Ed):Decidable (BS g e):=by unfold BS;infer_instance
theorem lT (g:Gr) (e:Ed) (hs:0<=g.size) (hs':g.size<=64) (hl:g.gone.length<=140737488355328):AK 102 [eG g,eE e] [] (.B (decide (BS g e))) []:=by
 refine mM.s.ai ?_;apply ax [2,3,4] [] [16,24] 16
 .simp -implicitDefEqProofs
  rfl
 have hw:=w6 (x:=g.size - 1);refine arc ⟨42,[(4,.B (decide (BS g e)))],[],16⟩ ?_ ?_
 .simp [hw]
  repeat' first
   | (refine Dc 58 rfl ?_;refine A4 (GF ..) rfl ?_;simp)
   | (refine Dc 29 rfl ?_;refine A4 (GR _ _ hl) rfl ?_;simp)
   | (refine Cs (λ hb=>?_) (λ hb=>?_)<;>(try rw[hb])<;>simp[hw])
  all_goals exact A5 [] (by simp;exact BA (by simp at *;grind [BS]))
 exact Ca
def H6 (g:Gr):Prop:=0<=g.size/\g.size<=64/\g.edges.length<=500/\Bh g.gone 0 (g.size - 1)
def EB (g:Gr) (i:Nat):Prop:=∀ h:i<g.edges.length,BS g g.edges[i]/\1<=g.edges[i].v/\g.edges[i].v<=3/\(0<i->G3 g.edges[i - 1] g.edges[i]<0)
def AG (g:Gr):Prop:=H6 g /\ ∀ i,EB g i
open Classical in
theorem mG (g:Gr) (hl:g.edges.length<=140737488355328) (q:g.gone.length<=140737488355328):AK 56 [eG g] [] (.I (if AG g then 0 else 14)) []:=by
 refine N6.s.ai ?_;refine ar [1] [] [16] 16 ?_;refine AB (arc ⟨58,[(1,.pv (gC g)),(23,.B (decide (¬ H6 g)))],[],16⟩ ?_ ?_)
 .simp
  repeat' first
   | (refine Dc 58 rfl ?_;refine A4 (GF ..) rfl ?_;simp)
   | (refine Dc 57 rfl ?_;have hw:IntKind.i64.wrap (g.size - 1)=g.size - 1:=w6;rw[hw];refine A4 (MW _ _ _ q) rfl ?_;simp)
   | (refine Cs (λ hb=>?_) (λ hb=>?_)<;>(try rw[hb])<;>(try simp at hb)<;>simp[hb])
  all_goals exact A5 [] (by simp;exact BA (by (try simp at *);grind [H6]))
 refine AI _ rfl (λ h1=>?_) λ h1=>?_
 .refine AB (AY ?_)
  refine A9 ?_;simp at h1;exact⟨.inr rfl,AW.one (by simp[AG,h1])⟩
 simp at h1;have hs:=h1.1;have u:=h1.2.1;refine AN (AB (AB (AY ?_)));refine AT (As (ι:=Nat) (λ k=>⟨58,[(1,.pv (gC g)),(25,BO g.edges),(26,.I g.edges.length),(27,.I k)],[],16⟩) (λ k=>k<=g.edges.length /\ ∀ i,i<k->EB g i) (λ k=>g.edges.length - k) (0) ?_ (A5 [] zz) ?_)
 .simp
 rintro k ⟨hk,hp⟩
 refine AB (AY ?_);refine AB (AI _ rfl (λ h5=>?_) λ h5=>?_)
 .simp at h5
  have h0:=w6 (x:=((k:Int)+1));have h2:0<k->IntKind.i64.wrap ((k:Int) - 1)=((k - 1:Nat):Int):=λ h=>by rw[w6];omega
  have h3:k - 1<g.edges.length:=zy
  refine AN (AB (AT ?_));apply ax [1,3,4,25,26,27] [] [48] 16
  .simp [h5]
   rfl
  refine Cd ⟨58,[(1,.pv (gC g)),(25,BO g.edges),(26,.I g.edges.length),(27,.I k),(56,.B (decide (¬ EB g k)))],[],16⟩ ?_ ?_
  .simp
   repeat' first
    | (refine Dc 102 rfl ?_;refine A4 (lT g _ hs u q) rfl ?_;simp)
    | (refine Dc 58 rfl ?_;refine A4 (GF ..) rfl ?_;simp)
    | (refine Dc 103 rfl ?_;refine A4 (wD ..) rfl ?_;simp)
    | (refine Cs (λ hb=>?_) (λ hb=>?_)<;>(try rw[hb])<;>(try simp at hb)<;>simp[hb,h5,h3,h2])
   all_goals exact⟨rfl,A5 [] (by simp;exact BA (by (try simp at *);grind [EB]))⟩
  refine AI _ rfl (λ h6=>?_) λ h6=>?_
  .refine AB (AY ?_)
   refine A9 ?_;have hn:¬ AG g:=λ h=>by simp at h6;exact h6 (h.2 k)
   exact⟨.inr rfl,AW.one (by simp[hn])⟩
  simp at h6;refine AN (AY ?_);refine⟨k+1,⟨h5,λ i hi=>?_⟩,?_,A5 [] (by simp[h0])⟩
  .rcases QI.1 hi with h | rfl
   .exact hp i h
   .exact h6
  .omega
 simp at h5;have hy:AG g:=⟨h1,λ i hi=>hp i zy hi⟩
 refine Ar (hit (AB (AY ?_)));exact A8 (AW.one (by simp[hy]))
def CD (a b:Ed):Prop:=a.f<b.f∨a.f=b.f/\a.t<b.t
instance (a b:Ed):Decidable (CD a b):=by unfold CD;infer_instance
theorem I7 {a b:Ed}:G3 a b<0↔CD a b:=by
 simp only[G3,CG,CD]
 grind
theorem Yw (a b:Ed):AK 101 [eE a,eE b] [] (.B (decide (CD a b))) []:=by
 refine dD.s.ai ?_;refine ar [2,3] [] [16,24] 16 ?_;refine arc ⟨24,[(4,.B (decide (CD a b)))],[],16⟩ ?_ ?_
 .simp
  repeat' first
   | (refine Cs (λ hb=>?_) (λ hb=>?_)<;>(try rw[hb])<;>(try simp at hb)<;>simp[hb])
  all_goals exact A5 [] (by simp;exact BA (by (try simp at *);grind [CD]))
 exact Ca
open Classical in
theorem jE (l:List Int) (n:Int) (hl:l.length<=140737488355328):AK 100 [AA l,.I n] [] (.B (decide (Bh l 0 (n - 1)))) []:=by
 refine rW.s.ai ?_;refine AB (AY ?_);refine AB (AB (AY ?_));refine AT (As (ι:=Nat) (λ k=>⟨41,[(0,AA l),(1,.I n),(5,.I k)],[],16⟩) (λ k=>k<=l.length /\ ∀ i,i<k->Ia l 0 (n - 1) i) (λ k=>l.length - k) (0) ?_ (A5 [] zz) ?_)
 .simp
 rintro k ⟨hk,hp⟩
 refine AB (AB (AY ?_));refine AI _ rfl (λ h4=>?_) λ h4=>?_
 .try simp at h4
  have q:=w6 (x:=((k:Int)+1));have u:0<k->IntKind.i64.wrap ((k:Int) - 1)=((k - 1:Nat):Int):=λ h=>by rw[w6];omega
  have h0:k - 1<l.length:=zy
  refine AN (AB (AT (Cd ⟨41,[(0,AA l),(1,.I n),(5,.I k),(40,.B (decide (¬ Ia l 0 (n - 1) k)))],[],16⟩ ?_ ?_)))
  .simp [h4,q,u,h0]
   repeat' first
    | (refine Cs (λ hb=>?_) (λ hb=>?_)<;>(try rw[hb])<;>(try simp at hb)<;>simp[hb,h4,q,u,h0])
   all_goals exact⟨rfl,A5 [] (by simp;exact BA (by (try simp at *);grind [Ia]))⟩
  refine AI _ rfl (λ h5=>?_) λ h5=>?_
  .try simp at h5
   refine AB (Al (s:=?s6) rfl ?o6 ?q6)
   case o6=>simp[h4,q,u,h0];rfl
   refine A9 ?_;have hn:¬ Bh l 0 (n - 1):=λ h=>h5 (h k);exact⟨.inr rfl,AW.one (by simp[hn])⟩
  try simp at h5
  refine AN (Al (s:=?s7) rfl ?o7 ?q7)
  case o7=>simp[h4,q,u,h0];rfl
  refine⟨k+1,⟨h4,λ i hi=>?_⟩,zy,A5 [] (by simp[h4,q,u,h0])⟩
  rcases QI.1 hi with h | rfl
  .exact hp i h
  .exact h5
 try simp at h4
 have h1:∀ i,i<l.length->Ia l 0 (n - 1) i:=λ i hi=>hp i zy
 refine Ar (hit (AB (AY ?_)));refine A9 ?_;have hy:Bh l 0 (n - 1):=λ i hi=>h1 i hi hi;exact⟨.inr rfl,AW.one (by simp[hy])⟩
def HH (g:Gr) (e:Ed):Prop:=0<=e.f/\e.f<g.size/\0<=e.t/\e.t<g.size/\e.f≠e.t/\1<=e.v/\e.v<=3
instance (g:Gr) (e:Ed):Decidable (HH g e):=by unfold HH;infer_instance
def I6 (g:Gr) (k:Nat):Prop:=∀ h:k<g.edges.length,(0<k->CD g.edges[k - 1] g.edges[k])/\g.edges[k].f∉g.gone/\g.edges[k].t∉g.gone
theorem MV (g:Gr) (k:Nat) (h:k<g.edges.length):EB g k↔HH g g.edges[k]/\I6 g k:=by
 simp only[EB,HH,I6,BS,I7]
 grind
open Classical in
theorem cN (g:Gr) (hl:g.edges.length<=140737488355328) (h3:g.gone.length<=140737488355328):AK 52 [eG g] [] (.I (if AG g then 0 else 14)) []:=by
 refine sK.s.ai ?_;refine ar [1] [] [16] 16 ?_;refine AB (arc ⟨105,[(1,.pv (gC g)),(26,.B (decide (¬ H6 g)))],[],16⟩ ?_ ?_)
 .simp
  repeat' first
   | (refine Dc 100 rfl ?_;refine A4 (jE _ _ h3) rfl ?_;simp)
   | (refine Cs (λ hb=>?_) (λ hb=>?_)<;>(try rw[hb])<;>(try simp at hb)<;>simp[hb])
  all_goals exact A5 [] (by simp;exact BA (by (try simp at *);grind [H6,HH,I6]))
 refine AI _ rfl (λ h1=>?_) λ h1=>?_
 .try simp at h1
  refine AB (AY ?_);exact A8 (AW.one (by simp[AG,h1]))
 try simp at h1
 refine AN (AB (AB (AY ?_)));refine AT (As (ι:=Nat) (λ k=>⟨105,[(1,.pv (gC g)),(3,.I k)],[],16⟩) (λ k=>k<=g.edges.length /\ ∀ i,i<k->EB g i) (λ k=>g.edges.length - k) (0) ?_ (A5 [] zz) ?_)
 .simp
 rintro k ⟨hk,hp⟩
 refine AB (AB (AY ?_));refine AI _ rfl (λ h5=>?_) λ h5=>?_
 .try simp at h5
  have q:=w6 (x:=((k:Int)+1));have u:0<k->IntKind.i64.wrap ((k:Int) - 1)=((k - 1:Nat):Int):=λ h=>by rw[w6];omega
  have h0:k - 1<g.edges.length:=zy
  refine AN (AB (AT (arc ⟨105,[(1,.pv (gC g)),(3,.I k),(4,.pv (eC g.edges[k]))],[],16⟩ ?_ ?_)))
  .simp [h5,q,u,h0]
   exact A5 [96] (by simp[h5,q,u,h0])
  refine AB (arc ⟨105,[(1,.pv (gC g)),(3,.I k),(4,.pv (eC g.edges[k])),(77,.B (decide (¬ HH g g.edges[k])))],[],16⟩ ?_ ?_)
  .simp [h5,q,u,h0]
   repeat' first
    | (refine Cs (λ hb=>?_) (λ hb=>?_)<;>(try rw[hb])<;>(try simp at hb)<;>simp[hb,h5,q,u,h0])
   all_goals exact A5 [] (by simp;exact BA (by (try simp at *);grind [H6,HH,I6]))
  refine AI _ rfl (λ h6=>?_) λ h6=>?_
  .try simp at h6
   refine AB (Al (s:=?s7) rfl ?o7 ?q7)
   case o7=>simp[h5,q,u,h0];rfl
   refine A9 ?_;have hn:¬ AG g:=λ h=>by have h2:=(MV g k h5).1 (h.2 k);simp_all
   exact⟨.inr rfl,AW.one (by simp[hn])⟩
  try simp at h6
  refine AN (Cd ⟨105,[(1,.pv (gC g)),(3,.I k),(104,.B (decide (¬ I6 g k)))],[],16⟩ ?_ ?_)
  .simp [h5,q,u,h0]
   repeat' first
    | (refine Dc 101 rfl ?_;refine A4 (Yw ..) rfl ?_;simp[h5,q,u,h0])
    | (refine Dc 54 rfl ?_;refine A4 (Rm _ _ h3) rfl ?_;simp[h5,q,u,h0])
    | (refine Cs (λ hb=>?_) (λ hb=>?_)<;>(try rw[hb])<;>(try simp at hb)<;>simp[hb,h5,q,u,h0])
   all_goals exact⟨rfl,A5 [] (by simp;exact BA (by (try simp at *);grind [H6,HH,I6]))⟩
  refine AI _ rfl (λ h8=>?_) λ h8=>?_
  .try simp at h8
   refine AB (Al (s:=?s9) rfl ?o9 ?q9)
   case o9=>simp[h5,q,u,h0];rfl
   refine A9 ?_;have hn:¬ AG g:=λ h=>by have h2:=(MV g k h5).1 (h.2 k);simp_all
   exact⟨.inr rfl,AW.one (by simp[hn])⟩
  try simp at h8
  refine AN (Al (s:=?s10) rfl ?o10 ?q10)
  case o10=>simp[h5,q,u,h0];rfl
  refine⟨k+1,⟨h5,λ i hi=>?_⟩,zy,A5 [] (by simp[h5,q,u,h0])⟩
  rcases QI.1 hi with h | rfl
  .exact hp i h
  .exact (MV g i h5).2 ⟨h6,h8⟩
 try simp at h5
 have h4:∀ i,i<g.edges.length->EB g i:=λ i hi=>hp i zy
 refine Ar (hit (AB (AY ?_)));refine A9 ?_;have hy:AG g:=⟨h1,λ i hi=>h4 i hi hi⟩;exact⟨.inr rfl,AW.one (by simp[hy])⟩
theorem Gy (l:List Int) (hl:l.length*8<=140737488355328):AK 48 [AA l] [] (.rs 0 0 l.length) [some ⟨1,l.map λ n=>[AV.I n],0⟩]:=by
 cases l with
 | nil =>
   refine K8 λ ad c=>?_;refine LI.s.ai ?_;refine AB (AY ?_);refine CX ⟨8,[(0,.vs 1 false [])],[],40⟩ ?_ ?_
   .refine AB (AY ?_)
    refine AI _ rfl (λ h3=>?_) λ h3=>?_
    .refine arc ⟨8,[(2,.rs 40 0 0)],[(40,some ⟨1,[],0⟩)],48⟩ ?_ ?_
     .simp
      exact Le.lst [] [] [(40,1)] rfl zz zz zz zz zz zz zz (by simp[Up]) zz
     exact Bx [40] []
    exact AN (Le.slots rfl rfl (by simp;exact .mt _ _ _))
   refine AB (Al (s:=?s5) rfl ?o5 ?q5)
   case o5=>simp[List.replicate];rfl
   exact Bx [56] []
 | cons x l =>
   refine LI.s.ai ?_;refine AB (AY ?_);refine AB (AB (AY ?_));refine AI _ rfl (λ h3=>by cases h3) λ h3=>?_
   refine AN (AB (Al (s:=?t4) rfl ?p4 ?r4))
   case p4=>simp[List.replicate];refine⟨by simpa using hl,by simp at hl;omega,?_⟩;rfl
   exact Bx [56] []
theorem mK (l:List Ed) (hl:l.length*24<=140737488355328):AK 107 [BO l] [] (.rs 0 0 l.length) [some ⟨3,l.map λ e=>[AV.I e.f,AV.I e.t,AV.I e.v],0⟩]:=by
 cases l with
 | nil =>
   refine K8 λ ad c=>?_;refine T9.s.ai ?_;refine AB (AY ?_);refine CX ⟨8,[(0,.vs 3 false [])],[],40⟩ ?_ ?_
   .refine AB (AY ?_)
    refine AI _ rfl (λ h3=>?_) λ h3=>?_
    .refine arc ⟨8,[(2,.rs 40 0 0)],[(40,some ⟨3,[],0⟩)],48⟩ ?_ ?_
     .simp
      exact Le.lst [] [] [(40,3)] rfl zz zz zz zz zz zz zz (by simp[Up]) zz
     exact Bx [40] []
    exact AN (Le.slots rfl rfl (by simp;exact .mt _ _ _))
   refine AB (Al (s:=?s5) rfl ?o5 ?q5)
   case o5=>simp[List.replicate];rfl
   exact Bx [56] []
 | cons x l =>
   refine T9.s.ai ?_;refine AB (AY ?_);refine AB (AB (AY ?_));refine AI _ rfl (λ h3=>by cases h3) λ h3=>?_
   refine AN (AB (Al (s:=?t4) rfl ?p4 ?r4))
   case p4=>simp[List.replicate];refine⟨by simpa using hl,by simp at hl;omega,?_⟩;rfl
   exact Bx [56] []
def BC (l:List Ed) (e:Ed):Nat:=l.findIdx λ x=>!decide (CD x e)
def E5 (l:List Ed) (k:Nat) (f t:Int):Prop:=∃ h:k<l.length,l[k].f=f/\l[k].t=t
instance (l:List Ed) (k:Nat) (f t:Int):Decidable (E5 l k f t):=by unfold E5;infer_instance
def N2 (l:List Ed) (e:Ed) (k:Nat):Prop:=∀ h:k<l.length,CD l[k] e
theorem ZO (l:List Ed) (e:Ed):BC l e<=l.length:=List.findIdx_le_length
theorem Sw {l:List Ed} {e:Ed} {k:Nat} (hk:k<=l.length) (h1:∀ i,i<k->N2 l e i) (h2:∀ h:k<l.length,¬ CD l[k] e):BC l e=k:=by
 unfold BC;rcases Ui k l.length with h | h
 .rw [List.findIdx_eq h]
  refine⟨by simpa using h2 h,λ j hj=>?_⟩
  simpa using h1 j hj zy
 .obtain rfl:k=l.length:=zy
  rw[U3];intro x hx;obtain⟨i,hi,rfl⟩:=QA.1 hx
  simpa using h1 i hi hi
theorem aM (g:Gr) (f t:Int) (hl:g.edges.length<=140737488355328):AK 53 [eG g,.I f,.I t] [] (.tup [.I (BC g.edges ⟨f,t,0⟩),.B (decide (E5 g.edges (BC g.edges ⟨f,t,0⟩) f t))]) []:=by
 refine rY.s.ai ?_;refine ar [1,2,3] [] [16] 16 ?_;refine AB (AY ?_);refine AB (AT (As (ι:=Nat) (λ k=>⟨53,[(1,.I f),(2,.I t),(3,.pv (gC g)),(8,.I k)],[],16⟩) (λ k=>k<=g.edges.length /\ ∀ i,i<k->N2 g.edges ⟨f,t,0⟩ i) (λ k=>g.edges.length - k) (0) ?_ (A5 [] zz) ?_))
 .simp
 rintro k ⟨hk,hp⟩
 refine AB (arc ⟨53,[(1,.I f),(2,.I t),(3,.pv (gC g)),(8,.I k),(24,.B (decide (∃ h:k<g.edges.length,CD g.edges[k] ⟨f,t,0⟩)))],[],16⟩ ?_ ?_)
 .simp
  repeat' first
   | (refine Dc 101 rfl ?_;refine A4 (Yw _ ⟨f,t,0⟩) rfl ?_;simp)
   | (refine Cs (λ hb=>?_) (λ hb=>?_)<;>(try rw[hb])<;>(try simp at hb)<;>simp[*])
  all_goals exact A5 [] (by simp<;>exact BA (by (try simp at *);grind))
 refine AI _ rfl (λ h2=>?_) λ h2=>?_
 .try simp at h2
  obtain⟨h2,h1⟩:=h2;have q:=w6 (x:=((k:Int)+1));have u:0<k->IntKind.i64.wrap ((k:Int) - 1)=((k - 1:Nat):Int):=λ h=>by rw[w6];omega
  have h0:k - 1<g.edges.length:=zy
  refine AN (AT (Al (s:=?s3) rfl ?o3 ?q3))
  case o3=>simp[h2,q,u,h0];rfl
  refine⟨k+1,⟨h2,λ i hi=>?_⟩,zy,A5 [] (by simp[h2,q,u,h0])⟩
  rcases QI.1 hi with h | rfl
  .exact hp i h
  .exact λ _=>h1
 try simp at h2
 rw[Sw hk hp h2];refine Ar (hit (Cd ⟨53,[(6,.I k),(7,.B (decide (E5 g.edges k f t)))],[],16⟩ ?_ ?_))
 .simp
  repeat' first
   | (refine Cs (λ hb=>?_) (λ hb=>?_)<;>(try rw[hb])<;>(try simp at hb)<;>simp[*])
  all_goals exact⟨rfl,A5 [] (by simp<;>exact BA (by (try simp at *);grind [E5]))⟩
 exact Bx [] []
theorem c8 (g:Gr) (hl:g.edges.length*24<=140737488355328) (q:g.gone.length*8<=140737488355328):AK 55 [eG g] [] (.agg [.I g.size,.rs 0 0 g.edges.length,.rs 1 0 g.gone.length]) [some ⟨3,g.edges.map λ e=>[AV.I e.f,AV.I e.t,AV.I e.v],0⟩,some ⟨1,g.gone.map λ n=>[AV.I n],0⟩]:=by
 refine jL.s.ai ?_;have u:g.edges.length<=140737488355328:=zy
 have h0:g.gone.length<=140737488355328:=zy
 refine AB (AY ?_);refine AB (G9 (s:=?s1) (tr:=?t1) rfl ?o1 ?r1 ?q1)
 case o1=>simp[hl,q,u,h0];constructor<;>rfl
 case r1=>rfl
 refine A9 ⟨.inr rfl,?_⟩;show AW [(2,some (true,3))] 0 _ _ _;exact AW.out (vs:=[.agg [.I g.size,.rs 64 0 g.edges.length,.rs 88 0 g.gone.length]]) [64,88] [] zz zz zz zz (by simp[AC])
theorem lU (g:Gr) (hl:g.edges.length*24<=140737488355328) (q:g.gone.length*8<=140737488355328):AK 66 [eG g] [] (.agg [.I g.size,.rs 0 0 g.edges.length,.rs 1 0 g.gone.length]) [some ⟨3,g.edges.map λ e=>[AV.I e.f,AV.I e.t,AV.I e.v],0⟩,some ⟨1,g.gone.map λ n=>[AV.I n],0⟩]:=by
 refine aT.s.ai ?_;have u:g.edges.length<=140737488355328:=zy
 have h0:g.gone.length<=140737488355328:=zy
 refine AB (AY ?_);refine AB (G9 (s:=?s1) (tr:=?t1) rfl ?o1 ?r1 ?q1)
 case o1=>simp;refine Fm (mK _ hl) rfl ?_;simp;refine Fm (Gy _ q) rfl ?_;simp[AC];constructor<;>rfl
 case r1=>rfl
 refine A9 ⟨.inr rfl,?_⟩;show AW [(2,some (true,3))] 0 _ _ _;exact AW.out (vs:=[.agg [.I g.size,.rs 64 0 g.edges.length,.rs 88 0 g.gone.length]]) [64,88] [] zz zz zz zz (by simp[AC])
theorem j4 {α:Type} {a b:List α} (h:a.length=b.length) (hp:∀ i,i<a.length->a[i]? = b[i]?):a=b:=by
 apply List.ext_getElem?;intro i;rcases Ui i a.length with h1 | h1
 .exact hp i h1
 .rw [QS h1,QS zy]
theorem TO (a b:List Int) (hl:a.length<=140737488355328):AK 42 [AA a,AA b] [] (.B (decide (a=b))) []:=by
 refine nV.s.ac ?_;show Ad _ 0 _ _ ⟨26,[(0,AA a),(1,AA b)],[],16⟩;refine AB (AY ?_);refine AB (AB (AY ?_));refine AI _ rfl (λ h3=>?_) λ h3=>?_
 .try simp at h3
  refine AB (AY ?_);refine A9 ?_;have hn:a≠b:=λ h=>h3 (by rw[h])
  exact⟨.inr rfl,AW.one (by simp[hn])⟩
 try simp at h3
 refine AN (AB (AB (AY ?_)));refine AT (As (ι:=Nat) (λ k=>⟨26,[(0,AA a),(1,AA b),(12,.I a.length),(13,.I k)],[],16⟩) (λ k=>k<=a.length /\ ∀ i,i<k->a[i]? = b[i]?) (λ k=>a.length - k) (0) ?_ (A5 [] zz) ?_)
 .simp
 rintro k ⟨hk,hp⟩
 refine AB (AY ?_);refine AB (AI _ rfl (λ h7=>?_) λ h7=>?_)
 .try simp at h7
  have u:=w6 (x:=((k:Int)+1));have h0:0<k->IntKind.i64.wrap ((k:Int) - 1)=((k - 1:Nat):Int):=λ h=>by rw[w6];omega
  have h1:k - 1<a.length:=zy
  have q:k<b.length:=zy
  refine AN (AB (AT (AB (Al (s:=?s8) rfl ?o8 ?q8))))
  case o8=>simp[h7,u,h0,h1,q];rfl
  refine AB (G9 (s:=?s9) (tr:=?t9) rfl ?o9 ?r9 ?q9)
  case o9=>simp[h7,u,h0,h1,q];constructor<;>rfl
  case r9=>rfl
  refine AI _ rfl (λ h2=>?_) λ h2=>?_
  .try simp at h2
   refine AB (Al (s:=?s11) rfl ?o11 ?q11)
   case o11=>simp[h7,u,h0,h1,q];rfl
   refine A9 ?_;have hn:a≠b:=λ h=>h2 (by simp[h])
   exact⟨.inr rfl,AW.one (by simp[hn])⟩
  try simp at h2
  refine AN (Al (s:=?s12) rfl ?o12 ?q12)
  case o12=>simp[h7,u,h0,h1,q];rfl
  refine⟨k+1,⟨h7,λ i hi=>?_⟩,zy,A5 [] (by simp[h7,u,h0,h1,q])⟩
  rcases QI.1 hi with h | rfl
  .exact hp i h
  .simp [h7,q,h2]
 try simp at h7
 have h4:∀ i,i<a.length->a[i]? = b[i]?:=λ i hi=>hp i zy
 refine Ar (hit (AB (AY ?_)));refine A9 ?_;have hy:a=b:=j4 zy h4
 exact⟨.inr rfl,AW.one (by simp[hy])⟩
def LM (a b:Gr):Prop:=a.size=b.size/\a.edges=b.edges/\a.gone=b.gone
instance (a b:Gr):Decidable (LM a b):=by unfold LM;infer_instance
theorem iN {P:Program} {f:FuncId} {xs ys:List AV} {hs:List AD} {res:AV} {hs':List (Option AD)} (hl:xs.length=ys.length) (hw:∀ i,i<ys.length->Wk (xs.getD i .dead) (ys.getD i .dead)) (h:Bz P f ys hs res hs'):Bz P f xs hs res hs' :=
 ⟨h.1,h.2.1,λ T M w vs h1 h2 h3 hr=>h.2.2 T M w vs h1 h2 h3 ⟨hr.1.trans hl,λ i hi=>(hw i hi).rep (hr.2 i (hl ▸ hi))⟩⟩
section
variable {H:Type}
def Sf (x:Int):Prop:=-9223372036854775808<=x/\x<=9223372036854775807
variable {P:Program} {tI tE aF aE tG:TypeId}
theorem j8 {n:Nat} (hI:P.underlying tI=some (.int .i64)) {d:DataW H} {cs:List AV} (h:DQ P (n+1) tI d=some cs):∃ x,cs=[.I x]/\Sf x:=by
 cases d<;>simp[DQ,hI] at h
 rename_i l
 cases l<;>simp at h
 obtain⟨⟨rfl,hw⟩,rfl⟩:=h;refine⟨_,rfl,?_⟩;unfold Sf
 simpa [Lit.wf,IntKind.min,IntKind.max,IntKind.signed,IntKind.bits] using hw
theorem ZW {α:Type} {f:DataW H->Option (List AV)} (Q:α->List AV):∀ {ds:List (DataW H)} {rows:List (List AV)},(∀ d row,f d=some row -> ∃ a,row=Q a)->ds.mapM f=some rows -> ∃ l:List α,rows=l.map Q
 | [],rows,_,h=>by simp at h;subst h;exact⟨[],rfl⟩
 | d::ds,rows,hf,h=>by
   simp only[List.mapM_cons] at h
   cases h1:f d with
   | none=>simp[h1] at h
   | some row =>
     cases h2:ds.mapM f with
     | none=>simp[h1,h2] at h
     | some rows' =>
       simp[h1,h2] at h;subst h;obtain⟨a,rfl⟩:=hf d row h1;obtain⟨l,rfl⟩:=ZW Q hf h2;exact⟨a::l,rfl⟩
theorem bK {α:Type} {n:Nat} {t e:TypeId} (ht:P.underlying t=some (.slice e)) (Q:α->List AV) (hf:∀ (d:DataW H) row,DQ P n e d=some row -> ∃ a,row=Q a) {d:DataW H} {cs:List AV} (h:DQ P (n+1) t d=some cs) :
  ∃ (l:List α) (x:AV),cs=[x]/\Wk x (.vs (P.cellsOf e) false (l.map Q)):=by
 cases d<;>simp[DQ,ht] at h
 .subst h;exact⟨[],_,rfl,.nil _ _⟩
 .obtain ⟨_,rows,h,rfl⟩:=h
  obtain⟨l,rfl⟩:=ZW Q hf h;exact⟨l,_,rfl,.refl _⟩
end
theorem NV:ownKnob Tryz.prog.godebug=none:=by kernel_rfl
theorem tH:laidOutB Tryz.prog=true:=by kernel_rfl
section
variable {H:Type} {P:Program} {tI aE:TypeId}
theorem mP {n:Nat} (hI:P.underlying tI=some (.int .i64)) (q:P.underlying aE=some (.slice tI)) (cI:P.cellsOf tI=1) {d:DataW H} {x:AV} (h:E3 P (n+2) aE d=some x):∃ l:List Int,Wk x (AA l):=by
 simp only[E3,q,Uh] at h;obtain⟨cs,h1,h2⟩:=h;obtain⟨l,y,rfl,hw⟩:=bK q (λ x:Int=>[AV.I x]) (λ d row h=>by obtain⟨x,h,_⟩:=j8 hI h;exact⟨x,h⟩) h1
 rw[cI] at hw;simp at h2;subst h2;exact⟨l,hw⟩
theorem qP {n:Nat} {a b:TypeId} {ds:List (DataW H)} {xs:List AV} (h:HC P n [a,b] ds=some xs):∃ (d1 d2:DataW H) (x1 x2:AV),ds=[d1,d2]/\xs=[x1,x2]/\E3 P n a d1=some x1/\E3 P n b d2=some x2:=by
 match ds,h with
 | [],h=>cases h
 | [_],h=>simp only[HC] at h;split at h<;>simp_all
 | _::_::_::_,h=>simp only[HC] at h;split at h<;>simp_all
 | [d1,d2],h =>
   simp only[HC] at h
   cases h1:E3 P n a d1 with
   | none=>simp[h1] at h
   | some x1 =>
     cases h2:E3 P n b d2 with
     | none=>simp[h1,h2] at h
     | some x2 =>
       simp[h1,h2] at h;exact⟨d1,d2,x1,x2,rfl,h.symm,h1,h2⟩
end
theorem jP {H:Type} {P:Program} {tU:TypeId} {n:Nat} (hU:P.underlying tU=some (.int .u8)) {d:DataW H} {x:AV} (h:E3 P (n+1) tU d=some x):∃ k:Int,x = .sc (.int .u8 k)/\0<=k/\k<=255:=by
 simp only[E3,hU,Uh] at h;obtain⟨cs,h1,h2⟩:=h
 cases d<;>simp[DQ,hU] at h1
 rename_i l
 cases l<;>simp at h1
 obtain⟨⟨rfl,hw⟩,rfl⟩:=h1;simp at h2;subst h2;exact⟨_,rfl,by simpa [Lit.wf,IntKind.min,IntKind.max,IntKind.signed,IntKind.bits] using hw⟩
variable {A:List Ed} {f:List Int}
def Ac (φ:Ed->Int->Int):List Ed->List Int->Int
 | e::A,v::f=>φ e v+Ac φ A f
 | _,_=>0
def Br (A:List Ed) (f:List Int) (x:Int):Int:=Ac (λ e v=>if e.f=x then v else 0) A f
def Eh (A:List Ed) (f:List Int) (x:Int):Int:=Ac (λ e v=>if e.t=x then v else 0) A f
structure C8 (N:Nat) (A:List Ed):Prop where
 two:2<=N
 arc:∀ e∈A,0<=e.f/\e.f<N/\0<=e.t/\e.t<N/\e.f≠e.t/\e.t≠0/\e.f≠1/\0<=e.v
def Bm:List Ed->List Int->Prop
 | e::A,v::f=>(0<=v/\v<=e.v)/\Bm A f
 | [],[]=>True
 | _,_=>False
structure BL (N:Nat) (A:List Ed) (f:List Int):Prop where
 fit:Bm A f
 bal:∀ x:Nat,2<=x->x<N->Br A f x=Eh A f x
def Aa (A:List Ed) (f:List Int):Int:=Br A f 0
theorem Bm.len:∀ {A:List Ed} {f:List Int},Bm A f->f.length=A.length
 | [],[],_=>rfl
 | _::_,_::_,h=>by simp[h.2.len]
 | [],_::_,h=>h.elim
 | _::_,[],h=>h.elim
theorem Rs (φ ψ:Ed->Int->Int):∀ (A:List Ed) (f:List Int),Ac (λ e v=>φ e v+ψ e v) A f=Ac φ A f+Ac ψ A f
 | [],_=>by simp[Ac]
 | _::_,[]=>by simp[Ac]
 | e::A,v::f=>by
   simp only[Ac];rw[Rs φ ψ A f];omega
theorem PX (φ ψ:Ed->Int->Int):∀ (A:List Ed) (f:List Int),Ac (λ e v=>φ e v - ψ e v) A f=Ac φ A f - Ac ψ A f
 | [],_=>by simp[Ac]
 | _::_,[]=>by simp[Ac]
 | e::A,v::f=>by
   simp only[Ac];rw[PX φ ψ A f];omega
theorem Hm {φ ψ:Ed->Int->Int}:∀ {A:List Ed} {f:List Int},(∀ e∈A,∀ v,φ e v=ψ e v)->Ac φ A f=Ac ψ A f
 | [],_,_=>by simp[Ac]
 | _::_,[],_=>by simp[Ac]
 | e::A,v::f,h=>by
   simp only[Ac];rw[h e Qi v,Hm λ x hx=>h x (Qg _ hx)]
theorem J9:∀ {A:List Ed} {f:List Int},Ac (λ _ _=>0) A f=0
 | [],_=>by simp[Ac]
 | _::_,[]=>by simp[Ac]
 | e::A,v::f=>by simp[Ac,J9 (A:=A) (f:=f)]
theorem OK {φ ψ:Ed->Int->Int}:∀ {A:List Ed} {f:List Int},Bm A f->(∀ e∈A,∀ v,0<=v->v<=e.v->φ e v<=ψ e v)->Ac φ A f<=Ac ψ A f
 | [],[],_,_=>by simp[Ac]
 | [],_::_,h,_=>h.elim
 | _::_,[],h,_=>h.elim
 | e::A,v::f,h,hh=>by
   simp only[Ac];have h1:=hh e Qi v h.1.1 h.1.2;have h2:=OK h.2 λ x hx=>hh x (Qg _ hx);omega
def FX (S:Int->Bool) (g:Int->Int):Nat->Int
 | 0=>0
 | n+1=>FX S g n+if S n then g n else 0
theorem Vr (S:Int->Bool) (g h:Int->Int):∀ n,FX S (λ x=>g x - h x) n=FX S g n - FX S h n
 | 0=>rfl
 | n+1=>by
   simp only[FX];rw[Vr S g h n];split<;>omega
theorem O9 (S:Int->Bool) (A:List Ed) (f:List Int) (π:Ed->Int):∀ n:Nat,(∀ e∈A,0<=π e)->FX S (λ x=>Ac (λ e v=>if π e=x then v else 0) A f) n=Ac (λ e v=>if π e<n/\S (π e)=true then v else 0) A f
 | 0,h=>by
   rw[Hm (ψ:=λ _ _=>0) λ e he v=>if_neg λ h2=>by have:=h e he;omega,J9]
   rfl
 | n+1,h=>by
   have ih:=O9 S A f π n h;simp only[FX];rw[ih]
   by_cases hs:S n=true
   .rw [if_pos hs,<- Rs]
    refine Hm λ e he v=>?_;have h0:=h e he
    by_cases h1:π e=n
    .have h2:¬ (π e<(n:Int)/\S (π e)=true):=zy
     have h3:π e<((n+1:Nat):Int)/\S (π e)=true:=⟨zy,by rw[h1];exact hs⟩
     rw[if_neg h2,if_pos h1,if_pos h3,Int.zero_add]
    .rw [if_neg h1,Int.add_zero]
     by_cases h2:π e<(n:Int)/\S (π e)=true
     .rw [if_pos h2,if_pos ⟨zy,h2.2⟩]
     .rw [if_neg h2,if_neg λ h3=>h2 ⟨zy,h3.2⟩]
   .rw [if_neg hs,Int.add_zero]
    refine Hm λ e he v=>?_;have h0:=h e he
    by_cases h2:π e<(n:Int)/\S (π e)=true
    .rw [if_pos h2,if_pos ⟨zy,h2.2⟩]
    .rw [if_neg h2,if_neg λ h3=>h2 ⟨?_,h3.2⟩]
     have h4:π e≠n:=λ h5=>hs (h5 ▸ h3.2);omega
def DC (S:Int->Bool) (A:List Ed) (f:List Int):Int:=Ac (λ e v=>if S e.f=true/\S e.t=false then v else 0) A f
def Fk (S:Int->Bool) (A:List Ed) (f:List Int):Int:=Ac (λ e v=>if S e.f=false/\S e.t=true then v else 0) A f
def BM (S:Int->Bool) (A:List Ed):Int:=Ac (λ e _=>if S e.f=true/\S e.t=false then e.v else 0) A (A.map λ _=>0)
theorem Yk (S:Int->Bool) (g:Int->Int) (N:Nat) (h0:S 0=true) (h1:S 1=false) (hg:∀ x:Nat,2<=x->x<N->g x=0):∀ n,n<=N->1<=n->FX S g n=g 0
 | 0,_,h=>zy
 | 1,_,_=>by simp[FX,h0]
 | n+2,h,_=>by
   have ih:=Yk S g N h0 h1 hg (n+1) zy zy
   simp only[FX] at ih ⊢;rw[ih]
   cases n with
   | zero=>simp[h1]
   | succ n =>
     have:=hg (n+1+1) zy zy
     split<;>omega
theorem Nd {N:Nat} (hn:C8 N A) (hf:BL N A f) {S:Int->Bool} (h0:S 0=true) (h1:S 1=false):Aa A f=DC S A f - Fk S A f:=by
 have e1:=Yk S (λ x=>Br A f x - Eh A f x) N h0 h1 (λ x h2 h3=>by have:=hf.bal x h2 h3;omega) N (Qk _) (by have:=hn.two;omega)
 have e2:Eh A f 0=0:=by
  unfold Eh;rw[Hm (ψ:=λ _ _=>0) λ e he v=>if_neg (hn.arc e he).2.2.2.2.2.1,J9]
 rw[Vr] at e1;have e3:=O9 S A f (·.f) N λ e he=>(hn.arc e he).1
 have e4:=O9 S A f (·.t) N λ e he=>(hn.arc e he).2.2.1
 have e5:FX S (Br A f) N=_:=e3;have e6:FX S (Eh A f) N=_:=e4;rw[e5,e6,<- PX] at e1;unfold Aa DC Fk;rw[<- PX];have e7:Br A f 0=Br A f 0 - Eh A f 0:=zy
 rw[e7,<- e1];refine Hm λ e he v=>?_;obtain⟨q1,q2,q3,q4,_⟩:=hn.arc e he
 cases q:S e.f<;>cases u:S e.t<;>simp[q2,q4]
theorem PF (hf:Bm A f) (S:Int->Bool):DC S A f<=BM S A:=by
 have key:∀ {A:List Ed} {f:List Int},Bm A f->Ac (λ e _=>if S e.f=true/\S e.t=false then e.v else 0) A (A.map λ _=>0)=Ac (λ e _=>if S e.f=true/\S e.t=false then e.v else 0) A f:=by
  intro A
  induction A with
  | nil=>intro f _;simp[Ac]
  | cons e A ih =>
    intro f h
    cases f with
    | nil=>exact h.elim
    | cons v f=>simp only[Ac,Qp];rw[ih h.2]
 unfold DC BM;rw[key hf];exact OK hf λ e _ v h1 h2=>by split<;>omega
theorem PN (hf:Bm A f) (S:Int->Bool):0<=Fk S A f:=by
 have:Ac (λ _ _=>0) A f<=Fk S A f:=OK hf λ e _ v h1 h2=>by split<;>omega
 rw[J9] at this;exact this
theorem Kg {N:Nat} (hn:C8 N A) (hf:BL N A f) {S:Int->Bool} (h0:S 0=true) (h1:S 1=false):Aa A f<=BM S A:=by
 rw[Nd hn hf h0 h1];have:=PF hf.fit S;have:=PN hf.fit S;omega
variable {A:List Ed} {N:Nat} {f:List Int} {δ:Int}
def AH (A:List Ed) (i:Nat):Ed:=A.getD i ⟨0,0,0⟩
theorem Fz {i:Nat} (h:i<A.length):AH A i∈A:=by
 unfold AH;rw[Qe,Qa h];exact Qj h
abbrev BH:=Nat × Bool
def Ch (A:List Ed) (s:BH):Int:=if s.2 then (AH A s.1).t else (AH A s.1).f
def Az (A:List Ed) (s:BH):Int:=if s.2 then (AH A s.1).f else (AH A s.1).t
def CF (A:List Ed) (f:List Int) (s:BH):Int:=if s.2 then f.getD s.1 0 else (AH A s.1).v - f.getD s.1 0
def E4 (δ:Int) (f:List Int) (s:BH):List Int:=f.set s.1 (f.getD s.1 0+if s.2 then -δ else δ)
def EX (δ:Int) (f:List Int) (l:List BH):List Int:=l.foldl (E4 δ) f
theorem Pf (φ:Ed->Int->Int):∀ (A:List Ed) (f:List Int) (i:Nat) (v:Int),i<A.length->f.length=A.length->Ac φ A (f.set i v)=Ac φ A f+(φ (AH A i) v - φ (AH A i) (f.getD i 0))
 | [],_,_,_,h,_=>by simp at h
 | _::_,[],_,_,_,h=>by simp at h
 | e::A,w::f,0,v,_,_=>by
   simp only[List.set_cons_zero,Ac];have h1:AH (e::A) 0=e:=rfl;have h2:(w::f).getD 0 0=w:=rfl;rw[h1,h2];omega
 | e::A,w::f,i+1,v,h,hl=>by
   simp only[List.set_cons_succ,Ac];have h1:AH (e::A) (i+1)=AH A i:=by simp[AH]
   have h2:(w::f).getD (i+1) 0=f.getD i 0:=zz
   rw[Pf φ A f i v (by simpa using h) (by simpa using hl),h1,h2]
   omega
def B2 (A:List Ed) (f:List Int) (x:Int):Int:=Br A f x - Eh A f x
theorem OY {s:BH}:(E4 δ f s).length=f.length:=UF ..
theorem Jn {δ:Int}:∀ {l:List BH} {f:List Int},(EX δ f l).length=f.length
 | [],_=>rfl
 | s::l,f=>by
   show (EX δ (E4 δ f s) l).length=_;rw[Jn,OY]
theorem Sj {s:BH} (hs:s.1<A.length) (hl:f.length=A.length) (x:Int) :
  B2 A (E4 δ f s) x=B2 A f x+(if Ch A s=x then δ else 0) - if Az A s=x then δ else 0:=by
 unfold B2 Br Eh E4;rw[Pf _ A f s.1 _ hs hl,Pf _ A f s.1 _ hs hl];unfold Ch Az;generalize AH A s.1=e;generalize f.getD s.1 0=v;generalize Ac _ A f=p;generalize Ac _ A f=q;obtain⟨i,b⟩:=s
 cases b
 .simp only[Ue,Uv]
  by_cases h1:e.f=x<;>by_cases h2:e.t=x<;>simp only[h1,h2,UM,Uv]<;>omega
 .simp only[UM]
  by_cases h1:e.f=x<;>by_cases h2:e.t=x<;>simp only[h1,h2,UM,Uv]<;>omega
def C0 (A:List Ed):Int->List BH->Int->Prop
 | u,[],w=>u=w
 | u,s::l,w=>s.1<A.length/\Ch A s=u/\C0 A (Az A s) l w
theorem Rc {A:List Ed} {δ:Int} (x w:Int):∀ {l:List BH} {f:List Int} {u:Int},f.length=A.length->C0 A u l w->B2 A (EX δ f l) x=B2 A f x+(if u=x then δ else 0) - if w=x then δ else 0
 | [],f,u,_,h=>by
   have h':u=w:=h;subst h';show B2 A f x=_;omega
 | s::l,f,u,hl,h=>by
   obtain⟨h1,h2,h3⟩:=h;show B2 A (EX δ (E4 δ f s) l) x=_;rw[Rc x w (by rw[OY,hl]) h3,Sj h1 hl x,h2]
   omega
theorem GX:Bm A f↔f.length=A.length /\ ∀ i,i<A.length->0<=f.getD i 0/\f.getD i 0<=(AH A i).v:=by
 induction A generalizing f with
 | nil =>
   cases f with
   | nil=>simp[Bm]
   | cons v f=>simp[Bm]
 | cons e A ih =>
   cases f with
   | nil=>simp[Bm]
   | cons v f =>
     show (0<=v/\v<=e.v)/\Bm A f↔_;rw[ih];constructor
     .rintro ⟨h1,h2,h3⟩
      refine⟨by simp[h2],λ i hi=>?_⟩
      cases i with
      | zero=>exact h1
      | succ i =>
        have:=h3 i (by simpa using hi)
        simpa [AH] using this
     .rintro ⟨h1,h2⟩
      refine⟨h2 0 zz,by simpa using h1,λ i hi=>?_⟩
      have:=h2 (i+1) (by simpa using hi)
      simpa [AH] using this
theorem J8 {δ:Int}:∀ {l:List BH} {f:List Int} {i:Nat},(l.map (·.1)).Nodup->(∀ s∈l,s.1<f.length) ->
  (i∉l.map (·.1)->(EX δ f l).getD i 0=f.getD i 0) /\ ∀ b,(i,b)∈l->(EX δ f l).getD i 0=f.getD i 0+if b then -δ else δ
 | [],f,i,_,_=>⟨λ _=>rfl,λ b hb=>by simp at hb⟩
 | s::l,f,i,hn,hr=>by
   rw[Qp,Q1] at hn;have ih:=J8 (δ:=δ) (l:=l) (f:=E4 δ f s) (i:=i) hn.2 λ x hx=>by rw[OY];exact hr x (Qg _ hx)
   have hs:=hr s (Qi ..)
   have q:∀ j,(E4 δ f s).getD j 0=if s.1=j then f.getD j 0+(if s.2 then -δ else δ) else f.getD j 0:=λ j=>by
    unfold E4
    by_cases hj:s.1=j
    .subst hj
     rw[if_pos rfl,Qe,List.getElem?_set_self hs,QO]
    .rw [if_neg hj,Qe,List.getElem?_set_ne hj,Qe]
   refine⟨λ hi=>?_,λ b hb=>?_⟩
   .rw [Qp,Qw,not_or] at hi
    show (EX δ (E4 δ f s) l).getD i 0=_;rw[ih.1 hi.2,q,if_neg λ e=>hi.1 e.symm]
   .show (EX δ (E4 δ f s) l).getD i 0=_
    rcases Qw.1 hb with hb | hb
    .subst hb
     rw[ih.1 hn.1,q,if_pos rfl]
    .have u:s.1≠i:=λ e=>hn.1 (e ▸ Qh.2 ⟨_,hb,rfl⟩)
     rw[ih.2 b hb,q,if_neg u]
theorem dA {l:List BH} (hf:Bm A f) (h0:0<=δ) (hn:(l.map (·.1)).Nodup) (hr:∀ s∈l,s.1<A.length/\δ<=CF A f s):Bm A (EX δ f l):=by
 rw[GX] at hf ⊢;refine⟨by rw[Jn,hf.1],λ i hi=>?_⟩
 have hg:=J8 (δ:=δ) (f:=f) (i:=i) hn λ s hs=>by rw[hf.1];exact(hr s hs).1
 have q:=hf.2 i hi
 by_cases hm:i∈l.map (·.1)
 .obtain ⟨⟨j,b⟩,hs,rfl⟩:=Qh.1 hm
  have h1:=hg.2 b hs;have h2:=(hr _ hs).2;simp only at h1 h2 q ⊢;rw[h1];unfold CF at h2
  cases b
  .simp only[Ue,Uv] at h2 ⊢
   omega
  .simp only[UM] at h2 ⊢
   omega
 .rw [hg.1 hm]
  exact q
theorem Jk (hn:C8 N A) (f:List Int):Eh A f 0=0:=by
 unfold Eh;rw[Hm (ψ:=λ _ _=>0) λ e he v=>if_neg (hn.arc e he).2.2.2.2.2.1,J9]
theorem nB {l:List BH} (hn:C8 N A) (hf:BL N A f) (h0:0<=δ) (hw:C0 A 0 l 1) (hd:(l.map (·.1)).Nodup) (hr:∀ s∈l,s.1<A.length/\δ<=CF A f s) :
  BL N A (EX δ f l)/\Aa A (EX δ f l)=Aa A f+δ:=by
 have hl:=hf.fit.len;have hx:=λ x=>Rc (A:=A) (δ:=δ) x 1 (l:=l) (f:=f) hl hw;refine⟨⟨dA hf.fit h0 hd hr,λ x h2 hN=>?_⟩,?_⟩
 .have h3:=hx x
  have h4:=hf.bal x h2 hN;rw[if_neg zy,if_neg zy] at h3
  unfold B2 at h3;omega
 .have h3:=hx 0
  rw[if_pos rfl,if_neg zy] at h3
  unfold B2 at h3;rw[Jk hn,Jk hn] at h3;unfold Aa;omega
theorem n8 (hn:C8 N A) (hf:BL N A f) {S:Int->Bool} (h0:S 0=true) (h1:S 1=false) (hc:∀ s:BH,s.1<A.length->S (Ch A s)=true->0<CF A f s->S (Az A s)=true):Aa A f=BM S A:=by
 rw[Nd hn hf h0 h1]
 have key:∀ {A:List Ed} {f:List Int},Bm A f->(∀ s:BH,s.1<A.length->S (Ch A s)=true->0<CF A f s->S (Az A s)=true)->DC S A f=BM S A/\Fk S A f=0:=by
  intro A
  induction A with
  | nil=>intro f _ _;simp[DC,Fk,BM,Ac]
  | cons e A ih =>
    intro f hf hc
    cases f with
    | nil=>exact hf.elim
    | cons v f =>
      have h2:=ih hf.2 λ s hs q hr=>by
       have:=hc (s.1+1,s.2) (by simpa using hs) (by simpa [Ch,AH] using q) (by simpa [CF,AH] using hr)
       simpa [Az,AH] using this
      have ha:=hc (0,false) zz
      have hb:=hc (0,true) zz
      simp[Ch,Az,CF,AH] at ha hb;have hv:=hf.1;unfold DC Fk BM at h2 ⊢;simp only[Ac,Qp];obtain⟨p1,p2⟩:=h2;rw[p1,p2]
      cases hF:S e.f<;>cases hT:S e.t<;>simp[hF,hT] at ha hb ⊢<;>omega
 obtain⟨p1,p2⟩:=key hf.fit hc;rw[p1,p2];omega
variable {A:List Ed} {D f:List Int} {by_:Int->BH}
theorem C0.snoc {A:List Ed}:∀ {l:List BH} {u w:Int} {s:BH},C0 A u l w->s.1<A.length->Ch A s=w->C0 A u (l++[s]) (Az A s)
 | [],u,w,s,h,h1,h2=>⟨h1,by rw[h2];exact(show u=w from h).symm,rfl⟩
 | t::l,u,w,s,h,h1,h2=>⟨h.1,h.2.1,C0.snoc h.2.2 h1 h2⟩
structure HX (A:List Ed) (f:List Int) (D:List Int) (by_:Int->BH):Prop where
 zero:D.head? = some 0
 nodup:D.Nodup
 step:∀ j (h:j<D.length),0<j->(by_ D[j]).1<A.length/\Az A (by_ D[j])=D[j]/\Ch A (by_ D[j])∈D.take j/\0<CF A f (by_ D[j])
theorem sT {s t:BH} (h:s.1=t.1):(Ch A s=Ch A t/\Az A s=Az A t)∨(Ch A s=Az A t/\Az A s=Ch A t):=by
 obtain⟨i,b⟩:=s;obtain⟨j,c⟩:=t;simp only at h;subst h;unfold Ch Az
 cases b<;>cases c<;>simp
theorem HX.way (h:HX A f D by_):∀ (n j:Nat) (hj:j<D.length),j<=n ->
  ∃ l,C0 A 0 l D[j]/\(l.map (·.1)).Nodup /\ ∀ s∈l,s.1<A.length/\0<CF A f s/\by_ (Az A s)=s/\Az A s≠0/\Ch A s∈D.take (j+1)/\Az A s∈D.take (j+1)
 | n,0,hj,_=>by
   refine⟨[],?_,zz,zz⟩
   show (0:Int)=D[0];have h0:=h.zero;rw[List.head?_eq_getElem?,Qa hj] at h0;exact(Qc h0).symm
 | 0,j+1,_,hn=>zy
 | n+1,j+1,hj,hn=>by
   obtain⟨h1,h2,h3,h4⟩:=h.step (j+1) hj zy
   obtain⟨i,hi,u⟩:=QA.1 h3;rw[QU] at hi;rw[UR] at u;have h9:i<j+1:=zy
   obtain⟨l,w1,w2,w3⟩:=h.way n i zy zy
   have h5:∀ (k m:Nat) (hk:k<D.length) (hm:m<D.length),k≠m->D[k]≠D[m]:=λ k m hk hm hc he=>by
    rcases Ui k m with h8 | hge
    .exact QM.1 h.nodup k m hk hm h8 he
    .exact QM.1 h.nodup m k hm hk zy he.symm
   have q:D[j+1]∉D.take (i+1):=λ hm=>by
    obtain⟨k,hk,h6⟩:=QA.1 hm;rw[QU] at hk;rw[UR] at h6;exact h5 k (j+1) zy hj zy h6
   have h7:∀ x,x∈D.take (i+1)->x∈D.take (j+1+1):=λ x hx=>(List.take_sublist_take_left (by omega:i+1<=j+1+1)).subset hx
   have h0:D[j+1]≠0:=λ he=>by
    have hz:=h.zero;rw[List.head?_eq_getElem?,Qa zy] at hz
    exact h5 0 (j+1) zy hj zy ((Qc hz).trans he.symm)
   refine⟨l++[by_ D[j+1]],?_,?_,λ s hs=>?_⟩
   .have:=C0.snoc (s:=by_ D[j+1]) w1 h1 u.symm
    rw[h2] at this;exact this
   .rw [Ug,Uj]
    refine⟨w2,zz,λ a ha b hb=>?_⟩
    obtain⟨t,ht,rfl⟩:=Qh.1 ha;simp only[Qp,UN,Qt] at hb;subst hb;intro he;obtain⟨_,_,_,_,q1,q2⟩:=w3 t ht;rcases sT (A:=A) he with ⟨e1,e2⟩ | ⟨e1,e2⟩
    .rw [e2,h2] at q2
     exact q q2
    .rw [e1,h2] at q1
     exact q q1
   .rcases Qo.1 hs with hs | hs
    .obtain ⟨p1,p2,p3,p4,p5,p6⟩:=w3 s hs
     exact⟨p1,p2,p3,p4,h7 _ p5,h7 _ p6⟩
    .rw [Qt] at hs
     subst hs;refine⟨h1,h4,by rw[h2],by rw[h2];exact h0,?_,?_⟩
     .exact (List.take_sublist_take_left (by omega:j+1<=j+1+1)).subset h3
     .rw [h2]
      refine QA.2 ⟨j+1,by rw[QU];omega,by rw[UR]⟩
theorem HX.to (h:HX A f D by_) {x:Int} (hx:x∈D) :
  ∃ l,C0 A 0 l x/\(l.map (·.1)).Nodup /\ ∀ s∈l,s.1<A.length/\0<CF A f s/\by_ (Az A s)=s/\Az A s≠0:=by
 obtain⟨j,hj,rfl⟩:=QA.1 hx;obtain⟨l,h1,h2,h3⟩:=h.way j j hj (Qk _);exact⟨l,h1,h2,λ s hs=>⟨(h3 s hs).1,(h3 s hs).2.1,(h3 s hs).2.2.1,(h3 s hs).2.2.2.1⟩⟩
def HK (A:List Ed) (f D:List Int):Prop:=∀ s:BH,s.1<A.length->Ch A s∈D->0<CF A f s->Az A s∈D
theorem Lu {N:Nat} (hn:C8 N A) (hf:BL N A f) (h0:(0:Int)∈D) (h1:(1:Int)∉D) (hc:HK A f D):Aa A f=BM (λ x=>decide (x∈D)) A /\ ∀ f',BL N A f'->Aa A f'<=Aa A f:=by
 have e:=n8 (S:=λ x=>decide (x∈D)) hn hf (by simpa using h0) (by simpa using h1) λ s hs hF hr=>by
  have:=hc s hs (by simpa using hF) hr
  simpa using this
 refine⟨e,λ f' q=>?_⟩;rw[e];exact Kg hn q (by simpa using h0) (by simpa using h1)
theorem ZT {N:Nat} (hn:C8 N A) (hf:BL N A f) (ht:HX A f D by_) {S:Int->Bool} (h0:S 0=true) (h1:S 1=false) (hS:BM S A=Aa A f):∀ x∈D,S x=true:=by
 have hv:=Nd hn hf h0 h1;have ho:=PF hf.fit S;have hi:=PN hf.fit S;have h2:DC S A f=BM S A:=zy
 have h3:Fk S A f=0:=zy
 have key:∀ {A:List Ed} {f:List Int},Bm A f->DC S A f=BM S A->Fk S A f=0 -> ∀ s:BH,s.1<A.length->S (Ch A s)=true->0<CF A f s->S (Az A s)=true:=by
  intro A
  induction A with
  | nil=>intro f _ _ _ s hs;simp at hs
  | cons e A ih =>
    intro f hf ho hi s hs hF hr
    cases f with
    | nil=>exact hf.elim
    | cons v f =>
      have k1:=PF hf.2 S;have k2:=PN hf.2 S;have hv:=hf.1;have e1:DC S (e::A) (v::f)=(if S e.f=true/\S e.t=false then v else 0)+DC S A f:=rfl
      have e2:Fk S (e::A) (v::f)=(if S e.f=false/\S e.t=true then v else 0)+Fk S A f:=rfl
      have e3:BM S (e::A)=(if S e.f=true/\S e.t=false then e.v else 0)+BM S A:=rfl
      rw[e1,e3] at ho;rw[e2] at hi;obtain⟨i,b⟩:=s
      cases i with
      | zero =>
        cases b
        .simp [Ch,Az,CF,AH] at hF hr ⊢
         cases hT:S e.t
         .simp [hF,hT] at ho
          omega
         .rfl
        .simp [Ch,Az,CF,AH] at hF hr ⊢
         cases hT:S e.f
         .simp [hF,hT] at hi
          omega
         .rfl
      | succ i =>
        have q1:DC S A f=BM S A:=by
         split at ho<;>omega
        have q2:Fk S A f=0:=by
         split at hi<;>omega
        have:=ih hf.2 q1 q2 (i,b) (by simpa using hs) (by simpa [Ch,AH] using hF) (by simpa [CF,AH] using hr)
        simpa [Az,AH] using this
 have h4:=key hf.fit h2 h3
 have q:∀ (n j:Nat) (hj:j<D.length),j<=n->S D[j]=true:=by
  intro n
  induction n with
  | zero =>
    intro j hj hn;have hj0:j=0:=zy
    subst hj0;have hz:=ht.zero;rw[List.head?_eq_getElem?,Qa hj] at hz;rw[Qc hz];exact h0
  | succ n ih =>
    intro j hj hn;rcases UE j with hj0 | hj0
    .exact ih j hj zy
    .obtain ⟨q1,q2,q3,q4⟩:=ht.step j hj hj0
     obtain⟨i,hi,u⟩:=QA.1 q3;rw[QU] at hi;rw[UR] at u;have:=h4 _ q1 (by rw[<- u];exact ih i zy zy) q4
     rw[q2] at this;exact this
 intro x hx;obtain⟨j,hj,rfl⟩:=QA.1 hx;exact q j j hj (Qk _)
variable {A:List Ed} {f:List Int}
theorem SZ {φ:Ed->Int->Int}:∀ {A:List Ed} {f:List Int},f.length=A.length->0<Ac φ A f -> ∃ i,i<A.length/\0<φ (AH A i) (f.getD i 0)
 | [],f,_,h=>by simp[Ac] at h
 | e::A,[],hl,_=>by simp at hl
 | e::A,v::f,hl,h=>by
   simp only[Ac] at h
   by_cases h1:0<φ e v
   .exact ⟨0,zz,h1⟩
   .obtain ⟨i,hi,h2⟩:=SZ (φ:=φ) (A:=A) (f:=f) (by simpa using hl) zy
    exact⟨i+1,by simpa using hi,by simpa [AH] using h2⟩
theorem M4 {φ:Ed->Int->Int}:∀ {A:List Ed} {f:List Int},(∀ i,0<=f.getD i 0)->(∀ e v,0<=v->0<=φ e v)->0<=Ac φ A f
 | [],_,_,_=>by simp[Ac]
 | _::_,[],_,_=>by simp[Ac]
 | e::A,v::f,h,hp=>by
   simp only[Ac];have h1:=hp e v (h 0);have h2:=M4 (φ:=φ) (A:=A) (f:=f) (λ i=>by simpa using h (i+1)) hp
   omega
theorem vH {x:Int} (hl:f.length=A.length) (h0:∀ i,0<=f.getD i 0) (hx:0<B2 A f x):∃ i,i<A.length/\(AH A i).f=x/\0<f.getD i 0:=by
 have hi:0<=Eh A f x:=M4 h0 λ e v hv=>by split<;>omega
 have ho:0<Br A f x:=by unfold B2 at hx;omega
 obtain⟨i,hi,h⟩:=SZ hl ho;refine⟨i,hi,?_⟩
 by_cases h1:(AH A i).f=x
 .rw [if_pos h1] at h
  exact⟨h1,h⟩
 .rw [if_neg h1] at h
  omega
def Bg (A:List Ed):Int->List Nat->Int->Prop
 | u,[],w=>u=w
 | u,i::l,w=>i<A.length/\(AH A i).f=u/\Bg A (AH A i).t l w
theorem Bg.snoc {A:List Ed}:∀ {l:List Nat} {u w:Int} {i:Nat},Bg A u l w->i<A.length->(AH A i).f=w->Bg A u (l++[i]) (AH A i).t
 | [],u,w,i,h,h1,h2=>⟨h1,by rw[h2];exact(show u=w from h).symm,rfl⟩
 | j::l,u,w,i,h,h1,h2=>⟨h.1,h.2.1,Bg.snoc h.2.2 h1 h2⟩
def Ai (A:List Ed) (l:List Nat):List Int:=l.map λ i=>(AH A i).t
theorem OU (A:List Ed) (l:List Nat) (i:Nat):Ai A (l++[i])=Ai A l++[(AH A i).t]:=by simp[Ai]
theorem Bg.take {A:List Ed}:∀ {l:List Nat} {u w:Int} (n:Nat),Bg A u l w -> ∀ x,(u::Ai A l)[n]? = some x->Bg A u (l.take n) x
 | l,u,w,0,_,x,hx=>by
   have:u=x:=by simpa using hx
   exact this
 | [],u,w,n+1,_,x,hx=>by simp[Ai] at hx
 | i::l,u,w,n+1,h,x,hx=>by
   refine⟨h.1,h.2.1,Bg.take n h.2.2 x ?_⟩
   simpa [Ai] using hx
theorem uQ (l:List Nat) (n i:Nat):(l.take n).count i<=l.count i:=(Vg n l).count_le i
structure El (A:List Ed) (f g:List Int) (l:List Nat) (w:Int):Prop where
 len:g.length=A.length
 nonneg:∀ i,0<=g.getD i 0
 way:Bg A 0 l w
 met:((0:Int)::Ai A l).Nodup
 used:∀ i,g.getD i 0+(l.count i:Int)<=f.getD i 0
 ex:∀ x,B2 A g x=B2 A f x - (if x=0 then 1 else 0)+if x=w then 1 else 0
theorem El.start (hl:f.length=A.length) (h0:∀ i,0<=f.getD i 0):El A f f [] 0 :=
 ⟨hl,h0,rfl,by simp[Ai],λ i=>zz,λ x=>by split<;>omega⟩
theorem Ra (f:List Int) (i j:Nat) (v:Int) (h:i<f.length):(f.set i v).getD j 0=if i=j then v else f.getD j 0:=by
 by_cases hj:i=j
 .subst hj
  rw[if_pos rfl,Qe,List.getElem?_set_self h,QO]
 .rw [if_neg hj,Qe,List.getElem?_set_ne hj,Qe]
theorem El.more {g:List Int} {l:List Nat} {w:Int} (h:El A f g l w) {k:Nat} (hk:k<A.length) (hf:(AH A k).f=w) (hg:0<g.getD k 0) :
  ((AH A k).t∉((0:Int)::Ai A l)->El A f (g.set k (g.getD k 0 - 1)) (l++[k]) (AH A k).t) /\
  ∀ n,((0:Int)::Ai A l)[n]? = some (AH A k).t->El A f (g.set k (g.getD k 0 - 1)) (l.take n) (AH A k).t:=by
 have q:k<g.length:=by rw[h.len];exact hk
 have u:∀ i,0<=(g.set k (g.getD k 0 - 1)).getD i 0:=λ i=>by
  rw[Ra g k i _ q];split
  .omega
  .exact h.nonneg i
 have h0:∀ x,B2 A (g.set k (g.getD k 0 - 1)) x=B2 A f x - (if x=0 then 1 else 0)+if x=(AH A k).t then 1 else 0:=λ x=>by
  have h1:=Sj (A:=A) (f:=g) (δ:=-1) (s:=(k,false)) hk h.len x;have h2:E4 (-1) g (k,false)=g.set k (g.getD k 0 - 1):=rfl;have h3:Ch A (k,false)=w:=hf;have h4:Az A (k,false)=(AH A k).t:=rfl;rw[h2,h3,h4,h.ex x] at h1;rw[h1]
  have e1:(if w=x then (-1:Int) else 0) = - if x=w then 1 else 0:=by
   by_cases hh:w=x
   .rw [if_pos hh,if_pos hh.symm]
   .rw [if_neg hh,if_neg λ e=>hh e.symm,Int.neg_zero]
  have e2:(if (AH A k).t=x then (-1:Int) else 0) = - if x=(AH A k).t then 1 else 0:=by
   by_cases hh:(AH A k).t=x
   .rw [if_pos hh,if_pos hh.symm]
   .rw [if_neg hh,if_neg λ e=>hh e.symm,Int.neg_zero]
  rw[e1,e2];omega
 have h5:∀ i,(g.set k (g.getD k 0 - 1)).getD i 0+((l++[k]).count i:Int)<=f.getD i 0:=λ i=>by
  have h1:=h.used i;rw[Ra g k i _ q,UV]
  by_cases hi:k=i
  .subst hi
   rw[if_pos rfl,show List.count k [k]=1 by simp]
   omega
  .rw [if_neg hi,show List.count i [k]=0 from List.count_eq_zero.2 (by simpa using λ e=>hi e.symm)]
   omega
 refine⟨λ hm=>⟨by rw[UF];exact h.len,u,h.way.snoc hk hf,?_,h5,h0⟩,λ n hn=>⟨by rw[UF];exact h.len,u,h.way.take n _ hn,?_,λ i=>?_,h0⟩⟩
 .rw [OU,<- Q6,Uj]
  exact⟨h.met,zz,λ a ha b hb=>by rw[Qt] at hb;subst hb;rintro rfl;exact hm ha⟩
 .have hs:((0:Int)::Ai A (l.take n)).Sublist ((0:Int)::Ai A l):=((Vg n l).map _).cons_cons 0
  exact h.met.sublist hs
 .have h1:=h5 i
  have h2:(l.take n).count i<=(l++[k]).count i:=QF (uQ l n i) (by rw[UV];omega)
  omega
theorem B7 {α β:Type} (f:α->β) (l:List α):List.take l.length (List.map f l)=List.map f l:=Qb zz
def Et:Gr:=⟨0,[],[]⟩
def EK (g:Gr) (e:Ed):Gr:=⟨g.size,g.edges.take (BC g.edges ⟨e.f,e.t,0⟩)++e::g.edges.drop (BC g.edges ⟨e.f,e.t,0⟩),g.gone⟩
open Classical in
def DU (g:Gr) (e:Ed):Gr × Int :=
 if ¬ AG g then (Et,14) else if ¬ BS g e then (Et,4) else if ¬ (1<=e.v/\e.v<=3) then (Et,2)
 else if E5 g.edges (BC g.edges ⟨e.f,e.t,0⟩) e.f e.t then (Et,19) else if g.edges.length=500 then (Et,3) else (EK g e,0)
open Classical in
theorem d9 (g:Gr) (e:Ed) (hl:g.edges.length*24<=140737488355328) (h4:g.gone.length*8<=140737488355328):AK 21 [eG g,eE e] [] (.tup [eG (DU g e).1,.I (DU g e).2]) []:=by
 refine lM.s.ai ?_;refine arc ⟨103,[(2,.pv (gC g)),(3,.pv (eC e)),(4,.pt 32 0 0)],[(32,some ⟨3,[[.I 0,.nilS,.nilS]],0⟩)],40⟩ ?_ ?_
 .simp
  exact Le.var1 32 [16,24] rfl rfl (Bf rfl) zx rfl zz zz zz
 refine AB (AB (Al (s:=?s1) rfl ?o1 ?q1))
 case o1=>simp;refine A4 (cN g zy zy) rfl ?_;simp;rfl
 refine AI _ rfl (λ h2=>?_) λ h2=>?_
 .have hg:¬ AG g:=by
   intro hg;simp[hg] at h2
  refine AB (AY ?_);refine A9 ⟨.inr rfl,?_⟩;show AW [(4,some (true,3)),(5,none)] 0 _ _ _;refine AW.out (vs:=[.agg [.I 0,.nilS,.nilS],.I 14]) [] [] zz zz zz ?_ zz
  have hr:DU g e=(Et,14):=by grind [DU]
  simp[hr,Et];exact DF (GA (.refl _) (.nil _ _) (.nil _ _)) (.refl _)
 have hg:AG g:=by
  rcases Classical.em (AG g) with h | h
  .exact h
  .simp [h] at h2
 refine AN (AB (Al (s:=?s4) rfl ?o4 ?q4))
 case o4=>simp;refine A4 (aM g _ _ zy) rfl ?_;simp;rfl
 refine AB (AT (arc ⟨103,[(2,.pv (gC g)),(3,.pv (eC e)),(4,.pt 32 0 0),(6,.I (BC g.edges ⟨e.f,e.t,0⟩)),(7,.B (decide (E5 g.edges (BC g.edges ⟨e.f,e.t,0⟩) e.f e.t))),(22,.B (decide (¬ BS g e)))],[(32,some ⟨3,[[.I 0,.nilS,.nilS]],0⟩)],40⟩ ?_ ?_))
 .simp
  repeat' first
   | (refine Dc 54 rfl ?_;refine A4 (Rm _ _ zy) rfl ?_;simp)
   | (refine Cs (λ hb=>?_) (λ hb=>?_)<;>(try rw[hb])<;>(try simp at hb)<;>simp[*])
  all_goals exact Le.var1 32 [] rfl rfl (Bf rfl) zx rfl zz zz (by simp<;>exact BA (by (try simp at *);grind [BS]))
 refine AI _ rfl (λ h5=>?_) λ h5=>?_
 .try simp at h5
  refine AB (AY ?_);refine A9 ⟨.inr rfl,?_⟩;show AW [(4,some (true,3)),(5,none)] 0 _ _ _;refine AW.out (vs:=[.agg [.I 0,.nilS,.nilS],.I 4]) [] [] zz zz zz ?_ zz
  have hr:DU g e=(Et,4):=by grind [DU]
  simp[hr,Et];exact DF (GA (.refl _) (.nil _ _) (.nil _ _)) (.refl _)
 try simp at h5
 refine arc ⟨103,[(2,.pv (gC g)),(3,.pv (eC e)),(4,.pt 32 0 0),(6,.I (BC g.edges ⟨e.f,e.t,0⟩)),(7,.B (decide (E5 g.edges (BC g.edges ⟨e.f,e.t,0⟩) e.f e.t))),(67,.B (decide (¬ (1<=e.v/\e.v<=3))))],[(32,some ⟨3,[[.I 0,.nilS,.nilS]],0⟩)],40⟩ ?_ ?_
 .simp
  repeat' first
   | (refine Cs (λ hb=>?_) (λ hb=>?_)<;>(try rw[hb])<;>(try simp at hb)<;>simp[*])
  all_goals exact Le.var1 32 [] rfl rfl (Bf rfl) zx rfl zz zz (by simp<;>exact BA (by (try simp at *);grind [BS]))
 refine AI _ rfl (λ h7=>?_) λ h7=>?_
 .try simp at h7
  refine AB (AY ?_);refine A9 ⟨.inr rfl,?_⟩;show AW [(4,some (true,3)),(5,none)] 0 _ _ _;refine AW.out (vs:=[.agg [.I 0,.nilS,.nilS],.I 2]) [] [] zz zz zz ?_ zz
  have hr:DU g e=(Et,2):=by grind [DU]
  simp[hr,Et];exact DF (GA (.refl _) (.nil _ _) (.nil _ _)) (.refl _)
 try simp at h7
 refine AB (AY ?_);refine AI _ rfl (λ q=>?_) λ q=>?_
 .try simp at q
  refine AB (AY ?_);refine A9 ⟨.inr rfl,?_⟩;show AW [(4,some (true,3)),(5,none)] 0 _ _ _;refine AW.out (vs:=[.agg [.I 0,.nilS,.nilS],.I 19]) [] [] zz zz zz ?_ zz
  have hr:DU g e=(Et,19):=by grind [DU]
  simp[hr,Et];exact DF (GA (.refl _) (.nil _ _) (.nil _ _)) (.refl _)
 try simp at q
 refine AB (AY ?_);refine AI _ rfl (λ u=>?_) λ u=>?_
 .try simp at u
  refine AB (AY ?_);refine A9 ⟨.inr rfl,?_⟩;show AW [(4,some (true,3)),(5,none)] 0 _ _ _;refine AW.out (vs:=[.agg [.I 0,.nilS,.nilS],.I 3]) [] [] zz zz zz ?_ zz
  have hr:DU g e=(Et,3):=by grind [DU]
  simp[hr,Et];exact DF (GA (.refl _) (.nil _ _) (.nil _ _)) (.refl _)
 try simp at u
 refine AN ?_;have h1:=ZO g.edges ⟨e.f,e.t,0⟩;refine AB (Al (s:=?s20) rfl ?o20 ?q20)
 case o20=>simp;refine VX (c8 g hl h4) rfl ?_;simp[AC];rfl
 have h9:g.edges.length<=500:=hg.1.2.2.1;have h3:min (BC g.edges ⟨e.f,e.t,0⟩) g.edges.length=BC g.edges ⟨e.f,e.t,0⟩:=UZ h1;have hr:DU g e=(EK g e,0):=by grind [DU]
 rw[hr];unfold EK;generalize BC g.edges ⟨e.f,e.t,0⟩=k at *;have h6:List.take (k+1) (List.take k (List.map (λ e:Ed=>[AV.I e.f,AV.I e.t,AV.I e.v]) g.edges)++[[AV.I e.f,AV.I e.t,AV.I e.v]])=List.take k (List.map (λ e:Ed=>[AV.I e.f,AV.I e.t,AV.I e.v]) g.edges)++[[AV.I e.f,AV.I e.t,AV.I e.v]]:=Qb (by simp;exact Nat.min_le_left _ _)
 obtain⟨E,hE⟩:=AR (g.edges.take k++e::g.edges.drop k);have h8:k+1+(g.edges.length - k)=E.length:=by subst hE;simp;omega
 have h0:List.take k (List.map (λ e:Ed=>[AV.I e.f,AV.I e.t,AV.I e.v]) g.edges)++[AV.I e.f,AV.I e.t,AV.I e.v]::List.drop k (List.map (λ e:Ed=>[AV.I e.f,AV.I e.t,AV.I e.v]) g.edges)=E.map λ e:Ed=>[AV.I e.f,AV.I e.t,AV.I e.v]:=by subst hE;simp[UX,Vi]
 rw[<- hE];refine AB (G9 (s:=?s15) (tr:=?t15) rfl ?o15 ?r15 ?q15)
 case o15 =>
  simp[h3,h1,h6,h8,h0]
  repeat' apply And.intro
  all_goals first | omega | rfl
 case r15=>rfl
 refine AB (AY ?_);refine A9 ⟨.inr rfl,?_⟩;show AW [(4,some (true,3)),(5,none)] 0 _ _ _;refine AW.out (vs:=[.agg [.I g.size,.rs 224 0 E.length,.rs 105 0 g.gone.length],.I 0]) [] [224,105] zz zz zz ?_ zz
 simp[AC,B7]
end Go.Proofs.YtnaemfpgdmfmcaaGreatDoor
namespace Go.Proofs
open Go.Shelf
def Tryz.lays189_ren:Go.Shelf.Ren:=⟨fun | 189=>105 | 125=>154 | 257=>153 | 128=>205 | 129=>206 | 294=>196 | 295=>197 | 296=>198 | 297=>199 | 298=>200 | 299=>201 | 216=>202 | 300=>203 | 301=>204 | 328=>256 | 329=>257 | 330=>258 | 331=>259 | 332=>260 | 215=>156 | 343=>297 | n=>n,fun | 28=>22 | 3=>3 | 46=>186 | 0=>0 | 51=>225 | 53=>224 | 4=>4 | 183=>291 | 182=>290 | 131=>130 | 5=>5 | 9=>9 | 218=>341 | 222=>345 | 228=>392 | 229=>200 | n=>n,fun | n=>n⟩
theorem Tryz.lays189:Go.Proofs.Lays.n189 Tryz.prog Tryz.lays189_ren:={
 mixed:=by kernel_rfl
 f125:=Tryz.func154.trans (congrArg some (by kernel_rfl))
 f128:=Tryz.func205.trans (congrArg some (by kernel_rfl))
 f129:=Tryz.func206.trans (congrArg some (by kernel_rfl))
 f189:=Tryz.func105.trans (congrArg some (by kernel_rfl))
 f215:=Tryz.func156.trans (congrArg some (by kernel_rfl))
 f216:=Tryz.func202.trans (congrArg some (by kernel_rfl))
 f257:=Tryz.func153.trans (congrArg some (by kernel_rfl))
 f294:=Tryz.func196.trans (congrArg some (by kernel_rfl))
 f295:=Tryz.func197.trans (congrArg some (by kernel_rfl))
 f296:=Tryz.func198.trans (congrArg some (by kernel_rfl))
 f297:=Tryz.func199.trans (congrArg some (by kernel_rfl))
 f298:=Tryz.func200.trans (congrArg some (by kernel_rfl))
 f299:=Tryz.func201.trans (congrArg some (by kernel_rfl))
 f300:=Tryz.func203.trans (congrArg some (by kernel_rfl))
 f301:=Tryz.func204.trans (congrArg some (by kernel_rfl))
 f328:=Tryz.func256.trans (congrArg some (by kernel_rfl))
 f329:=Tryz.func257.trans (congrArg some (by kernel_rfl))
 f330:=Tryz.func258.trans (congrArg some (by kernel_rfl))
 f331:=Tryz.func259.trans (congrArg some (by kernel_rfl))
 f332:=Tryz.func260.trans (congrArg some (by kernel_rfl))
 f343:=Tryz.func297.trans (congrArg some (by kernel_rfl))
 t0:=Tryz.underlying0
 a0:=Tryz.isAgg0
 z0:=Tryz.sizeOf0
 v0:=Tryz.zeroValue0
 t3:=Tryz.underlying3
 a3:=Tryz.isAgg3
 z3:=Tryz.sizeOf3
 v3:=Tryz.zeroValue3
 t4:=Tryz.underlying4
 a4:=Tryz.isAgg4
 z4:=Tryz.sizeOf4
 v4:=Tryz.zeroValue4
 t5:=Tryz.underlying5
 a5:=Tryz.isAgg5
 z5:=Tryz.sizeOf5
 v5:=Tryz.zeroValue5
 t9:=Tryz.underlying9
 a9:=Tryz.isAgg9
 z9:=Tryz.sizeOf9
 v9:=Tryz.zeroValue9
 t28:=Tryz.underlying22
 a28:=Tryz.isAgg22
 z28:=Tryz.sizeOf22
 v28:=Tryz.zeroValue22
 t46:=Tryz.underlying186
 a46:=Tryz.isAgg186
 z46:=Tryz.sizeOf186
 v46:=Tryz.zeroValue186
 t51:=Tryz.underlying225
 a51:=Tryz.isAgg225
 z51:=Tryz.sizeOf225
 v51:=Tryz.zeroValue225
 t53:=Tryz.underlying224
 a53:=Tryz.isAgg224
 z53:=Tryz.sizeOf224
 v53:=Tryz.zeroValue224
 t131:=Tryz.underlying130
 a131:=Tryz.isAgg130
 z131:=Tryz.sizeOf130
 v131:=Tryz.zeroValue130
 t182:=Tryz.underlying290
 a182:=Tryz.isAgg290
 z182:=Tryz.sizeOf290
 v182:=Tryz.zeroValue290
 t183:=Tryz.underlying291
 a183:=Tryz.isAgg291
 z183:=Tryz.sizeOf291
 v183:=Tryz.zeroValue291
 t218:=Tryz.underlying341
 a218:=Tryz.isAgg341
 z218:=Tryz.sizeOf341
 v218:=Tryz.zeroValue341
 t222:=Tryz.underlying345
 a222:=Tryz.isAgg345
 z222:=Tryz.sizeOf345
 v222:=Tryz.zeroValue345
 t228:=Tryz.underlying392
 a228:=Tryz.isAgg392
 z228:=Tryz.sizeOf392
 v228:=Tryz.zeroValue392
 t229:=Tryz.underlying200
 a229:=Tryz.isAgg200
 z229:=Tryz.sizeOf200
 v229:=Tryz.zeroValue200 }
end Go.Proofs
namespace Go.Proofs.YtnaemfpgdmfmcaaGreatDoor
open Go
def DS (l:List Int):List (List AV):=l.map λ n=>[AV.I n]
theorem Src.body {P:Program} {f:FuncId} {af:BW} (s:Src P f af):∃ fn c,P.funcs[f]? = some fn/\fn.body=some c/\fn.name ≠ "runtime.NumGoroutine":=by
 obtain⟨_,fn,hf,hc,hn⟩:=s;unfold Ii at hc
 cases hb:fn.body with
 | none=>rw[hb] at hc;cases hc
 | some c=>exact⟨fn,c,hf,hb,hn⟩
theorem oY (zs:List Int) (h0:zs≠[]) (hl:zs.length<4611686018427387904) :
  AK 105 [.rs 0 0 zs.length] [{ s:=1,rows:=DS zs }] (.tup []) ([{ s:=1,rows:=DS (zs.mergeSort λ x y=>decide (x<=y)) }].map some):=by
 refine⟨Ki.s.body,zz,λ T M w vs hx an hy a0=>?_⟩
 have b5:0<zs.length:=U6.2 h0;obtain⟨au,hr⟩:=a0;have hm:=hr 0 zz
 simp only[Us] at hm
 have av:vs = #[vs.getD 0 undef]:=by
  apply Array.ext
  .simpa using au
  .intro i h1 h2
   have:i=0:=by simp at h2;omega
   subst this;simp[Array.getD,h1]
 rw[av];generalize vs.getD 0 undef=v at hm
 cases hm with
 | rs _ _ _ _ cap a g hg bo bs hn hb =>
 obtain⟨g',a1,ent⟩:=an.ent 0 _ rfl;rw[hg] at a1;obtain rfl:=Qc a1;have b0:(DS zs).length=zs.length:=by simp[DS]
 cases q:g.blk with
 | none =>
   have:=ent.none q;simp[DS] at this;exact absurd this h0
 | some b =>
 obtain⟨a2,c0,t0,f0,bt,b6⟩:=hb b q;obtain⟨cells,ty,⟨fz,hw,hfz⟩,b1,a3,hq⟩:=ent.blk (UI 0) b q
 have ha:a=some ⟨b,g.base+0*g.s,none⟩:=by
  rcases a2 with h | h
  .omega
  .exact h
 subst ha;simp only[Nat.zero_mul,QY] at *
 have h9:∀ i,(hi:i<zs.length)->cells[g.base+i]? = some (.int .i64 zs[i]):=by
  intro i hi;obtain⟨u,hu,_,a4⟩:=hq i 0 (by rw[b0];exact hi) zx
  simp only[Nat.mul_one,QY] at hu;rw[hu];have:((DS zs).getD i []).getD 0 .dead = .I zs[i]:=by simp[DS,List.getD,hi]
  rw[this] at a4
  cases a4;rfl
 have a5:b<w.heap.size:=(QE.1 hw).1;refine(Any.slices_Sort_int Tryz.lays189 b g.base cap zs w ?_ a5 hl).mono ?_
 .intro j hj
  have hd:j<zs.length:=by simpa using hj
  constructor
  .show w.cell? _=_
   unfold World.cell?;simp only[hw];rw[h9 j hd];simp[hd]
  .have b2:=(QE.1 (h9 j hd)).1
   unfold World.frozen?;simp only[hw];rcases hfz with rfl | ⟨_,rfl⟩
   .simp
   .simp only[Bool.and_eq_false_iff,Qd]
    left
    simp only[Nat.not_le];exact b2
 .rintro e w' ⟨rfl,n,os,rfl⟩
  have a6:(zs.mergeSort λ x y=>decide (x<=y)).length=zs.length:=List.length_mergeSort zs;generalize (zs.mergeSort λ x y=>decide (x<=y))=ys at a6
  have hh:∀ b',b'<w.heap.size->(Go.Sort.grow (Go.Sort.putRow (Value.int .i64) (Go.Sort.ahead w n) b g.base ys.toArray) os).heap[b']? = if b'=b then some (.cells (Go.Sort.putCells (Value.int .i64) g.base ys.toArray cells) ty fz) else w.heap[b']?:=by
   intro b' h7;have a7:(w.heap.modify b (Go.Sort.onCells (Go.Sort.putCells (Value.int .i64) g.base ys.toArray))).size=w.heap.size:=Array.size_modify;show ((w.heap.modify b (Go.Sort.onCells (Go.Sort.putCells (Value.int .i64) g.base ys.toArray)))++os)[b']? = _;rw[Uf (by rw[a7];exact h7),Array.getElem?_modify]
   by_cases h8:b=b'
   .subst h8
    rw[if_pos rfl,if_pos rfl,hw];rfl
   .rw [if_neg h8,if_neg (Ne.symm h8)]
  have a8:∀ o,(o<g.base∨g.base+ys.length<=o)->(Go.Sort.putCells (Value.int .i64) g.base ys.toArray cells)[o]? = cells[o]?:=by
   intro o ho;unfold Go.Sort.putCells;rw[Array.getElem?_mapIdx]
   cases hc:cells[o]? with
   | none=>rfl
   | some u =>
     simp only[Uo];rw[if_neg];simp;omega
  have hs:∀ i,(hi:i<ys.length)->(Go.Sort.putCells (Value.int .i64) g.base ys.toArray cells)[g.base+i]? = some (.int .i64 ys[i]):=by
   intro i hi;unfold Go.Sort.putCells;rw[Array.getElem?_mapIdx,h9 i zy]
   simp only[Uo];rw[if_pos zw]
   simp[hi]
  have ht:(Go.Sort.putCells (Value.int .i64) g.base ys.toArray cells).size=cells.size:=by
   unfold Go.Sort.putCells;exact Array.size_mapIdx
  have hf:w.heap.size<=(Go.Sort.grow (Go.Sort.putRow (Value.int .i64) (Go.Sort.ahead w n) b g.base ys.toArray) os).heap.size:=by
   show w.heap.size<=((w.heap.modify b _)++os).size;rw[UQ,Array.size_modify];omega
  have a9:T b<=g.base:=by simpa using b1
  generalize hv:(Go.Sort.grow (Go.Sort.putRow (Value.int .i64) (Go.Sort.ahead w n) b g.base ys.toArray) os)=w' at hh hf;have b3:∀ b' o,w.heap[b']? = some o->b'<w.heap.size:=λ b' o h=>(QE.1 h).1
  have ag:Ag T w T w':=by
   refine⟨λ _=>Qk _,λ b' cs' ty' fz' h=>?_⟩;rw[hh b' (b3 _ _ h)]
   by_cases h8:b'=b
   .subst h8
    rw[hw] at h
    cases h;exact⟨_,_,if_pos rfl,ht,λ o ho=>a8 o (.inl zy)⟩
   .exact ⟨cs',fz',by rw[if_neg h8];exact h,rfl,λ _ _=>rfl⟩
  rw[Mg];refine⟨_,T,M,rfl,.tup M [] #[] rfl (λ i hi=>by simp at hi),⟨λ id e he=>?_,λ id id' e e' g1 g2 b' h1 h2 h3 h4 h5 h6=>?_⟩,⟨λ b' h7=>?_,λ _ _ _=>rfl,λ _ _=>rfl,?_,?_,?_,hf,λ b' h7 b4=>?_,ag,λ k g1 b' hk ai _=>?_⟩⟩
  .have hid:id=0:=by
    cases id with
    | zero=>rfl
    | succ k=>simp[CW] at he
   subst hid;simp only[CW,List.getElem?_cons_zero,Qq] at he;subst he;refine⟨g,hg,⟨ent.s,Qn _,λ _ row hr=>?_,λ hn=>(by rw[q] at hn;cases hn),λ hz=>absurd hz (UI 0),λ _ b' h7=>?_⟩⟩
   .simp [DS] at hr
    obtain⟨x,_,rfl⟩:=hr;rfl
   .rw [q] at h7
    obtain rfl:=Qc h7;refine⟨_,ty,⟨fz,by rw[hh _ a5,if_pos rfl],by rw[ht];exact hfz⟩,by simpa using a9,by simp[DS,ht,a6];simpa [DS] using a3,λ i j hi hj=>?_⟩
    have hi':i<ys.length:=by simpa [DS] using hi
    have hd:j=0:=by simp at hj;omega
    subst hd;refine⟨.int .i64 ys[i],by simpa using hs i hi',rfl,?_⟩
    have:((DS ys).getD i []).getD 0 .dead = .I ys[i]:=by simp[DS,List.getD,hi']
    rw[this];exact .sc _ _ rfl
  .have h0:∀ id e,CW [({ s:=1,rows:=DS ys }:AD)] id=some e->id=0:=by
    intro id e he
    cases id with
    | zero=>rfl
    | succ k=>simp[CW] at he
   rw[h0 _ _ h1,h0 _ _ h2]
  .obtain ⟨c1,ty1,fz1,h1,h2⟩:=hx b' h7
   obtain⟨c2,fz2,h3,h4,_⟩:=ag.cell b' c1 ty1 fz1 h1;exact⟨c2,ty1,fz2,h3,zy⟩
  .rw [<- hv];rfl
  .rw [<- hv];rfl
  .rw [<- hv];rfl
  .rw [hh b' h7,if_neg]
   intro h8;exact b4 ⟨0,g,zz,hg,by rw[q,h8]⟩
  .rw [hy k hk] at ai
   cases ai
theorem FO.refl {n:Nat} {T:Nat->Nat} {M:GM} {w:World} (q:EW T w) (u:∀ k,n<=k->M k=none):FO n T M w T M w :=
 ⟨q,λ _ _ _=>rfl,λ _ _=>rfl,rfl,rfl,rfl,Qk _,λ _ _ _=>rfl,⟨λ _=>Qk _,λ _ cells _ fz h=>⟨cells,fz,h,rfl,λ _ _=>rfl⟩⟩,λ k g b hk h=>by rw[u k hk] at h;cases h⟩
theorem Hu {vs:Array Value} (h:vs.size=1):vs = #[vs.getD 0 undef]:=by
 apply Array.ext
 .simpa using h
 .intro i h1 h2
  have:i=0:=by simp at h2;omega
  subst this;simp[Array.getD,h1]
theorem Pp (zs:List Int) (hl:zs.length<4611686018427387904) :
  AK 105 [.rs 0 0 zs.length] [{ s:=1,rows:=DS zs }] (.tup []) ([{ s:=1,rows:=DS (zs.mergeSort λ x y=>decide (x<=y)) }].map some):=by
 by_cases h0:zs=[]
 .subst h0
  refine⟨Ki.s.body,zz,λ T M w vs u h3 h1 h2=>?_⟩
  obtain⟨h4,hr⟩:=h2;have q:=hr 0 zz
  simp only[Us] at q;rw[Hu h4];generalize vs.getD 0 undef=v at q
  cases q with
  | rs _ _ _ _ cap a g hg h5 h6 hn hb =>
  refine(Any.slices_Sort_int_none Tryz.lays189 a cap w).mono ?_
  rintro e w' ⟨rfl,rfl⟩
  exact⟨_,T,M,rfl,.tup M [] #[] rfl (λ i hi=>by simp at hi),by rw[Mg];simpa using h3,FO.refl u h1⟩
 .exact oY zs h0 hl
def Av (l:List Ed) (key:Int):List Int:=l.filterMap λ e=>if e.f=key then some e.t else none
theorem Ze (l:List Ed) (key:Int) (k:Nat) (h:k<l.length):Av (l.take (k+1)) key=Av (l.take k) key++if l[k].f=key then [l[k].t] else []:=by
 unfold Av;rw[<- Vc h,U9,List.filterMap_append]
 congr 1
 by_cases hc:l[k].f=key<;>simp[hc]
theorem NH (l:List Ed) (key:Int):(Av l key).length<=l.length:=List.length_filterMap_le _ _
theorem TV (g:Gr) (key:Int) (hl:g.edges.length<=1099511627776):AK 63 [eG g,.I key] [] (.rs 0 0 (Av g.edges key).length) [some ⟨1,((Av g.edges key).mergeSort λ x y=>decide (x<=y)).map λ n=>[AV.I n],0⟩]:=by
 refine c9.s.ai ?_;refine AB (AY ?_);refine AB (AY ?_);refine AB (AB (AY ?_));refine AT (As (ι:=Nat) (λ k=>⟨28,[(1,.I key),(5,.rs 16 0 (Av (g.edges.take k) key).length),(9,BO g.edges),(10,.I g.edges.length),(11,.I k)],[(16,some ⟨1,(Av (g.edges.take k) key).map λ n=>[AV.I n],0⟩)],24⟩) (λ k=>k<=g.edges.length) (λ k=>g.edges.length - k) (0) ?_ (Le.lst [] [] [(16,1)] rfl zz zz zz zz zz zz zz (by simp[Up,Av]) (by simp[Av])) ?_)
 .simp
 rintro k hk
 have h1:(Av (g.edges.take k) key).length<=k:=QF (NH _ _) (by simp;exact Nat.min_le_left _ _)
 refine AB (AY ?_);refine AB (AI _ rfl (λ h4=>?_) λ h4=>?_)
 .try simp at h4
  have q:=w6 (x:=((k:Int)+1));have h2:0<k->IntKind.i64.wrap ((k:Int) - 1)=((k - 1:Nat):Int):=λ h=>by rw[w6];omega
  have h3:k - 1<g.edges.length:=zy
  refine AN (AB (AT (arc ⟨28,[(1,.I key),(5,.rs 16 0 (Av (g.edges.take k) key).length),(7,.pv (eC g.edges[k])),(9,BO g.edges),(10,.I g.edges.length),(11,.I k)],[(16,some ⟨1,(Av (g.edges.take k) key).map λ n=>[AV.I n],0⟩)],24⟩ ?_ ?_)))
  .simp [h4]
   exact Le.var1 16 [48] rfl rfl (Bf rfl) zx rfl (by simp[AC]) zz zz
  refine AB (AY ?_);refine AI _ rfl (λ h6=>?_) λ h6=>?_
  .try simp at h6
   refine Al (s:=?s7) rfl ?o7 ?q7
   case o7 =>
    simp[List.replicate];refine⟨zy,zy,?_⟩
    rfl
   refine Al (s:=?s8) rfl ?o8 ?q8
   case o8=>simp[q];rfl
   have hs:=Ze g.edges key k h4;rw[if_pos h6] at hs;refine⟨k+1,h4,zy,Le.ren1 88 16 [] rfl rfl (Bf rfl) zx rfl (by simp[hs,AC,B7]) zz (by simp[hs])⟩
  try simp at h6
  refine AN (Al (s:=?s9) rfl ?o9 ?q9)
  case o9=>simp[q];rfl
  have hs:=Ze g.edges key k h4;rw[if_neg h6,Q0] at hs;refine⟨k+1,h4,zy,Le.var1 16 [] rfl rfl (Bf rfl) zx rfl (by simp[hs,AC]) zz (by simp[hs])⟩
 try simp at h4
 have u:k=g.edges.length:=zy
 subst u;have h0:=NH g.edges key;refine Ar (hit (AB (Al (s:=?s10) rfl ?o10 ?q10)))
 case o10 =>
  simp;refine B6 (i:=16) rfl (e':=⟨1,DS (Av g.edges key),0⟩) (by simp[DS,AC]) (Pp (Av g.edges key) zy) zz zz ?_
  simp[DS,AC];rfl
 refine AB (AY ?_);exact Bx [16] []
@[simp] theorem zAw {ρ:List (Nat × Nat)} {sn:List Nat} {h:Nat->Option AD} {n:Nat} {f:Fn} {a b:List AV}:conv ρ sn h (n+1) (.fn f a b) = .fn f (a.map (conv ρ sn h n)) (b.map (conv ρ sn h n)):=(rfl)
def Rq:BW:=⟨11,[(2,none)],
 (sr [oo 1 (.box 13) [.t 0],oo 2 .mv [.c (.bool false)]]
 (.seq (.reg true [fa 3 11 1,oo 4 (.ld true 2) [.t 3],fa 5 0 1,la 6 5,oo 7 (.ld true 13) [.t 1],ca 8 184 [.t 7],oo 9 (.build [v0,ve] [(0,1),(1,1)]) [.t 6,.t 8],oo 10 (.aeq false [0,2]) [.t 4,.t 9],ma 2 10] [[],[0],[],[2],[],[4],[3,5],[1,6],[7,5,0,1,2,3,4,5,6,7]])
 .ret))⟩
def zCr:BW:=⟨40,[(4,none)],
 (sr [oo 3 (.box 4) [.t 1],oo 4 .mv [kn]]
 (sr [oo 5 .mv [kn]]
 (.seq (.seq
 (rg [ma 11 0,oo 12 .len [.t 11],oo 13 .mv [ki 0]])
 (.block 0 (.loop
 (sr [oo 14 (.bin .lss) [.t 13,.t 12]]
 (.seq (.cond (.t 14)
 .skip
 (.exit 0))
 (.seq (.block 1 (sr [oo 15 (.iad 13) [.t 11,.t 13],oo 16 (.ld true 13) [.t 15],oo 7 (.alloc [v0,v0,ve,v0,v0,v0,v0,v0,vn,vn,ve,v0,ve]) [],ou (.st 13) [.t 7,.t 16]]
 (sr [oo 18 (.ld true 13) [.t 7],ca 19 251 [.t 18],ma 17 19,oo 20 (.ext 0) [.t 17],oo 21 (.ext 1) [.t 17],oo 8 (.alloc [v0,v0,v0,v0,v0,vn,vn]) [],ou (.st 7) [.t 8,.t 20],ma 9 21]
 (sr [ma 22 9,ma 23 22,fg 24 1 8 23,og 25 (.ld true 4) [.t 24] 23,og 26 (.ld true 4) [.t 3] 23,og 27 (.aeq false [0,0,0,0]) [.t 25,.t 26] 23,oo 28 .pick [.t 23,.t 27,.c (.bool false)]]
 (.cond (.t 28)
 (rg [ma 29 5,oo 30 (.ld true 7) [.t 8],oo 31 (.bsl 7 1 [v0,v0,v0,v0,v0,vn,vn] [0]) [.t 30],oo 32 (.app 7 88) [.t 29,.t 31],ma 5 32])
 .skip)))))
 (rg [oo 33 (.bin .add) [.t 13,ki 1],ma 13 33])))))))
 (sr [oo 10 (.alloc [.nilFunc]) [],ou (.st 1) [.t 10,(.f 252)]]
 (sr [ma 34 5,la 35 10,ca 36 253 [.t 34,.t 35]]
 (sr [ma 37 5,oo 38 (.mkf 255) [.t 10],ca 39 254 [.t 37,.t 38],ma 4 39]
 .ret))))))⟩
def zCs:BW:=⟨57,[(8,some (true,4)),(9,some (true,2)),(10,none)],
 (sr [oo 4 (.box 7) [.t 0],oo 6 (.box 6) [.t 2],oo 7 (.box 4) [.t 3],oo 8 (.alloc [vn,vn,vn,vn]) [],oo 9 (.alloc [(.bool false),(.bool false)]) [],oo 10 .mv [ki 0]]
 (.seq (.seq
 (rg [oo 13 (.ld true 4) [.t 7],ca 14 189 [.t 13],oo 15 (.un .not) [.t 14],ma 16 15,fh 17 3 7 16,lh 18 17 16,oh 19 (.bin .neq) [.t 18,ki 0] 16,oo 20 .pick [.t 16,.c (.bool true),.t 19]])
 (.cond (.t 20)
 (.seq (.reg true [oo 21 (.ld true 4) [.t 8],oo 22 (.ld true 2) [.t 9],ou (.st 4) [.t 8,.t 21],ou (.st 2) [.t 9,.t 22],oo 10 .mv [ki 41]] [[],[],[0,0],[1,2,0,1,2],[3,0,1,2,3]])
 .ret)
 .skip))
 (.seq (.seq
 (rg [oo 23 (.ld true 4) [.t 7],oo 24 (.build [v0,v0,v0,v0] [(0,4)]) [.t 23],oo 25 (.mki 404) [.t 24],oo 26 (.ld true 4) [.t 7],oo 27 (.build [v0,v0,v0,v0] [(0,4)]) [.t 26],oo 28 (.mki 405) [.t 27],oo 29 (.bsl 1 2 [.nilIface] [0,1]) [.t 25,.t 28],oo 30 .len [.t 29],oo 31 .mv [ki 0]])
 (.block 0 (.loop
 (sr [oo 32 (.bin .lss) [.t 31,.t 30]]
 (.seq (.cond (.t 32)
 .skip
 (.exit 0))
 (.seq (.block 1 (sr [ma 33 31,oo 34 (.iad 1) [.t 29,.t 31],la 35 34,ma 11 33,ma 12 35]
 (sr [ma 37 11,ma 38 11,ma 39 12,oo 40 (.ld true 7) [.t 4],ma 41 1,oo 42 (.ld true 6) [.t 6],oo 43 (.inv [(404,478),(405,479)]) [.t 39,.t 40,.t 41,.t 42],ma 36 43,oo 44 (.ext 0) [.t 36],oo 45 (.ext 1) [.t 36],oo 46 (.ext 2) [.t 36],oo 47 (.iaa 2 2) [.t 8,.t 37],ou (.st 2) [.t 47,.t 44],oo 48 (.iaa 2 1) [.t 9,.t 38],ou (.st 1) [.t 48,.t 45],ma 10 46]
 (sr [ma 49 10,oo 50 (.bin .neq) [.t 49,ki 0]]
 (.cond (.t 50)
 (.seq (.reg true [oo 51 (.ld true 4) [.t 8],oo 52 (.ld true 2) [.t 9],ma 53 10,ou (.st 4) [.t 8,.t 51],ou (.st 2) [.t 9,.t 52],ma 10 53] [[],[],[],[0,0],[1,3,0,1,3],[2,4,0,1,2,3,4]])
 .ret)
 .skip)))))
 (rg [oo 54 (.bin .add) [.t 31,ki 1],ma 31 54])))))))
 (.seq (.reg true [oo 55 (.ld true 4) [.t 8],oo 56 (.ld true 2) [.t 9],ou (.st 4) [.t 8,.t 55],ou (.st 2) [.t 9,.t 56],oo 10 .mv [ki 0]] [[],[],[0,0],[1,2,0,1,2],[3,0,1,2,3]])
 .ret))))⟩
def eB:SC 3:=AF Tryz.f3
def m9:SC 4:=AF Tryz.f4
def Tr:SC 5:=AF Tryz.f5
def dF:SC 8:=AF Tryz.f8
def wG:SC 10:=AF Tryz.f10
def e8:SC 11:=AF Tryz.f11
def rK:SC 12:=AF Tryz.f12
def pW:SC 13:=AF Tryz.f13
def gW:SC 14:=AF Tryz.f14
def vB:SC 15:=AF Tryz.f15
def wP:SC 16:=AF Tryz.f16
def Rt:SC 17:=AF Tryz.f17
def Zd:SC 18:=AF Tryz.f18
def O6:SC 24:=AF Tryz.f24
def uZ:SC 25:=AF Tryz.f25
def bJ:SC 28:=AF Tryz.f28
def iK:SC 30:=AF Tryz.f30
def eT:SC 31:=AF Tryz.f31
def fK:SC 32:=AF Tryz.f32
def kT:SC 33:=AF Tryz.f33
def eI:SC 34:=AF Tryz.f34
def m7:SC 35:=AF Tryz.f35
def iG:SC 36:=AF Tryz.f36
def gY:SC 37:=AF Tryz.f37
def kG:SC 38:=AF Tryz.f38
def sJ:SC 39:=AF Tryz.f39
def Z0:SC 40:=AF Tryz.f40
def vW:SC 41:=AF Tryz.f41
def qB:SC 43:=AF Tryz.f43
def RU:SC 44:=AF Tryz.f44
def Py:SC 45:=AF Tryz.f45
def S7:SC 46:=AF Tryz.f46
def Zw:SC 47:=AF Tryz.f47
def Yn:SC 49:=AF Tryz.f49
def ZF:SC 50:=AF Tryz.f50
def Zy:SC 71:=AF Tryz.f71
def qU:SC 72:=AF Tryz.f72
def fU:SC 73:=AF Tryz.f73
def gN:SC 74:=AF Tryz.f74
def pX:SC 75:=AF Tryz.f75
def dJ:SC 76:=AF Tryz.f76
def mY:SC 77:=AF Tryz.f77
def gE:SC 78:=AF Tryz.f78
def qK:SC 79:=AF Tryz.f79
def tS:SC 80:=AF Tryz.f80
def rP:SC 81:=AF Tryz.f81
def qZ:SC 82:=AF Tryz.f82
def oX:SC 83:=AF Tryz.f83
def oG:SC 84:=AF Tryz.f84
def kK:SC 85:=AF Tryz.f85
def mJ:SC 86:=AF Tryz.f86
def dG:SC 87:=AF Tryz.f87
def SB:SC 88:=AF Tryz.f88
def ZS:SC 89:=AF Tryz.f89
def Wp:SC 90:=AF Tryz.f90
def YS:SC 91:=AF Tryz.f91
def Nr:SC 92:=AF Tryz.f92
def RD:SC 93:=AF Tryz.f93
def N8:SC 94:=AF Tryz.f94
def wV:SC 95:=AF Tryz.f95
def Wg:SC 96:=AF Tryz.f96
def YB:SC 97:=AF Tryz.f97
def XI:SC 98:=AF Tryz.f98
def Vx:SC 99:=AF Tryz.f99
def wS:SC 113:=AF Tryz.f113
def b7:SC 114:=AF Tryz.f114
def mV:SC 115:=AF Tryz.f115
def qG:SC 116:=AF Tryz.f116
def j0:SC 117:=AF Tryz.f117
def cX:SC 118:=AF Tryz.f118
def vJ:SC 119:=AF Tryz.f119
def bZ:SC 120:=AF Tryz.f120
def jY:SC 121:=AF Tryz.f121
def mQ:SC 122:=AF Tryz.f122
def rL:SC 123:=AF Tryz.f123
def lG:SC 124:=AF Tryz.f124
def d4:SC 125:=AF Tryz.f125
def jD:SC 126:=AF Tryz.f126
def pH:SC 128:=AF Tryz.f128
def gM:SC 129:=AF Tryz.f129
def Y5:SC 130:=AF Tryz.f130
def Vw:SC 131:=AF Tryz.f131
def WB:SC 132:=AF Tryz.f132
def Xe:SC 133:=AF Tryz.f133
def Xs:SC 134:=AF Tryz.f134
def TN:SC 135:=AF Tryz.f135
def Sr:SC 137:=AF Tryz.f137
def Yf:SC 138:=AF Tryz.f138
def XP:SC 139:=AF Tryz.f139
def TJ:SC 140:=AF Tryz.f140
def Ls:SC 141:=AF Tryz.f141
def LV:SC 142:=AF Tryz.f142
def LL:SC 143:=AF Tryz.f143
def dQ:SC 144:=AF Tryz.f144
def kF:SC 145:=AF Tryz.f145
def Sn:SC 146:=AF Tryz.f146
def XU:SC 148:=AF Tryz.f148
def Ru:SC 149:=AF Tryz.f149
def lJ:SC 157:=AF Tryz.f157
def fJ:SC 158:=AF Tryz.f158
def fS:SC 159:=AF Tryz.f159
def iL:SC 160:=AF Tryz.f160
def m6:SC 161:=AF Tryz.f161
def pE:SC 162:=AF Tryz.f162
def tF:SC 163:=AF Tryz.f163
def rZ:SC 164:=AF Tryz.f164
def VC:SC 166:=AF Tryz.f166
theorem d8:Src Tryz.prog 167 Rq:=sS Tryz.f167
def SV:SC 169:=AF Tryz.f169
def Yx:SC 170:=AF Tryz.f170
def RI:SC 171:=AF Tryz.f171
def Rp:SC 172:=AF Tryz.f172
def ZI:SC 173:=AF Tryz.f173
def WC:SC 174:=AF Tryz.f174
def RN:SC 175:=AF Tryz.f175
def Yt:SC 176:=AF Tryz.f176
def Vl:SC 177:=AF Tryz.f177
def TH:SC 178:=AF Tryz.f178
def TC:SC 179:=AF Tryz.f179
def X8:SC 181:=AF Tryz.f181
def Xz:SC 182:=AF Tryz.f182
def YH:SC 184:=AF Tryz.f184
def R8:SC 185:=AF Tryz.f185
def Rb:SC 186:=AF Tryz.f186
def kY:SC 187:=AF Tryz.f187
def jT:SC 188:=AF Tryz.f188
def ZZ:SC 189:=AF Tryz.f189
def gG:SC 190:=AF Tryz.f190
def RG:SC 191:=AF Tryz.f191
def Tn:SC 192:=AF Tryz.f192
def Wy:SC 193:=AF Tryz.f193
theorem zCt:Src Tryz.prog 194 zCr:=sS Tryz.f194
def Tm:SC 195:=AF Tryz.f195
def Zf:SC 209:=AF Tryz.f209
def WU:SC 210:=AF Tryz.f210
def TX:SC 211:=AF Tryz.f211
def S5:SC 212:=AF Tryz.f212
def Vo:SC 214:=AF Tryz.f214
def VF:SC 218:=AF Tryz.f218
def XE:SC 219:=AF Tryz.f219
def WV:SC 220:=AF Tryz.f220
def SU:SC 221:=AF Tryz.f221
def SH:SC 223:=AF Tryz.f223
def XZ:SC 224:=AF Tryz.f224
def Wo:SC 225:=AF Tryz.f225
def Pl:SC 226:=AF Tryz.f226
def R6:SC 228:=AF Tryz.f228
def MX:SC 231:=AF Tryz.f231
def Zk:SC 232:=AF Tryz.f232
def ZX:SC 234:=AF Tryz.f234
def Wc:SC 236:=AF Tryz.f236
def Zt:SC 239:=AF Tryz.f239
def XV:SC 240:=AF Tryz.f240
def Po:SC 241:=AF Tryz.f241
def qW:SC 242:=AF Tryz.f242
def sW:SC 243:=AF Tryz.f243
def Yh:SC 244:=AF Tryz.f244
def Xp:SC 245:=AF Tryz.f245
def tC:SC 246:=AF Tryz.f246
def Y3:SC 248:=AF Tryz.f248
def SW:SC 251:=AF Tryz.f251
def Rz:SC 253:=AF Tryz.f253
def WD:SC 254:=AF Tryz.f254
def Th:SC 263:=AF Tryz.f263
def P2:SC 268:=AF Tryz.f268
def VJ:SC 269:=AF Tryz.f269
def WM:SC 270:=AF Tryz.f270
def Sk:SC 271:=AF Tryz.f271
def W9:SC 274:=AF Tryz.f274
def YP:SC 275:=AF Tryz.f275
def Wz:SC 276:=AF Tryz.f276
theorem zCu:Src Tryz.prog 277 zCs:=sS Tryz.f277
def WO:SC 278:=AF Tryz.f278
def Wa:SC 281:=AF Tryz.f281
def TY:SC 282:=AF Tryz.f282
def Wi:SC 283:=AF Tryz.f283
def Yu:SC 284:=AF Tryz.f284
def Xg:SC 291:=AF Tryz.f291
def Si:SC 295:=AF Tryz.f295
def X0:SC 296:=AF Tryz.f296
def SQ:SC 301:=AF Tryz.f301
def Wx:SC 302:=AF Tryz.f302
def PL:SC 303:=AF Tryz.f303
def VN:SC 304:=AF Tryz.f304
def Rd:SC 305:=AF Tryz.f305
def P9:SC 306:=AF Tryz.f306
def SD:SC 307:=AF Tryz.f307
def XA:SC 308:=AF Tryz.f308
def Xt:SC 309:=AF Tryz.f309
def Pt:SC 310:=AF Tryz.f310
def vN:SC 311:=AF Tryz.f311
def RR:SC 312:=AF Tryz.f312
def TG:SC 313:=AF Tryz.f313
def SL:SC 316:=AF Tryz.f316
def X6:SC 317:=AF Tryz.f317
def V1:SC 321:=AF Tryz.f321
def T4:SC 329:=AF Tryz.f329
def Zi:SC 330:=AF Tryz.f330
def Wv:SC 335:=AF Tryz.f335
def SG:SC 343:=AF Tryz.f343
def Zv:SC 351:=AF Tryz.f351
def YW:SC 353:=AF Tryz.f353
def V8:SC 354:=AF Tryz.f354
def TD:SC 355:=AF Tryz.f355
def Xv:SC 356:=AF Tryz.f356
def YF:SC 357:=AF Tryz.f357
def WJ:SC 361:=AF Tryz.f361
def Rn:SC 362:=AF Tryz.f362
def ZY:SC 364:=AF Tryz.f364
def V5:SC 366:=AF Tryz.f366
def T7:SC 385:=AF Tryz.f385
def XS:SC 389:=AF Tryz.f389
def P3:SC 391:=AF Tryz.f391
def V4:SC 394:=AF Tryz.f394
def V9:SC 416:=AF Tryz.f416
def VB:SC 439:=AF Tryz.f439
def Sx:SC 478:=AF Tryz.f478
def SM:SC 479:=AF Tryz.f479
def Sz:SC 480:=AF Tryz.f480
def Zc:SC 481:=AF Tryz.f481
def WN:SC 482:=AF Tryz.f482
def Du (n m:Int):Int:=if m<1 then 0 else n % m
theorem iX {n m:Int} (hm:0<m):n.tmod m % m=n % m:=by
 have h:=Int.mul_tdiv_add_tmod n m
 conv=>rhs;rw[<- h]
 rw[Int.add_comm,Int.add_mul_emod_self_left]
theorem Z7 {n m:Int} (hm:0<m) : -m<n.tmod m/\n.tmod m<m:=⟨Int.lt_tmod_of_pos n hm,Int.tmod_lt_of_pos n hm⟩
def Af (L:List Int) (a:Nat) (n:Int):Int × Nat:=if h:a<L.length then (Du L[a] n,a+1) else (0,a)
abbrev AS (L:List Int) (a:Nat):AD:=⟨2,[[AA L,.I a]],0⟩
theorem AW.k1 {rs:List (Nat × Option (Bool × Nat))} {st:St} {vs:List AV} {res:AV} {e:AD} (h1:Ek st rs=some vs) (hw:Wk (conv [(0,0)] [] st.hp 4 (C2 vs)) res) (he:(st.hp 0).map (Ab [(0,0)] [] st.hp 4)=some e):AW rs 1 st res [some e] :=
 ⟨vs,h1,[],[],zx,zz,zz,hw,by simpa using he⟩
theorem wK (n m:Int) (hm:m<=9223372036854775807):AK 51 [.I n,.I m] [] (.I (Du n m)) []:=by
 refine oB.s.ai ?_;refine AB (AY ?_);refine AB (AB (AY ?_));refine AI _ rfl (λ h3=>?_) λ h3=>?_
 .try simp at h3
  refine AB (AY ?_);exact A8 (AW.one (by simp[Du,h3]))
 try simp at h3
 have u:m≠0:=zy
 have q:¬ m<1:=zy
 obtain⟨t1,t2⟩:=Z7 (n:=n) (m:=m) zy
 have te:=iX (n:=n) (m:=m) zy
 refine AN (AB (Al (s:=?s5) rfl ?o5 ?q5))
 case o5=>simp[u];rfl
 refine AB (AB (AY ?_));refine AI _ rfl (λ h7=>?_) λ h7=>?_
 .try simp at h7
  have hw:=w6 (x:=n.tmod m+m);have hr:n % m=n.tmod m+m:=by rw[<- te,<- Int.add_emod_right,Int.emod_eq_of_lt zy zy]
  refine Al (s:=?s8) rfl ?o8 ?q8
  case o8=>simp[hw];rfl
  refine AB (AY ?_);exact A8 (AW.one (by simp[Du,q,hr]))
 try simp at h7
 have hr:n % m=n.tmod m:=by rw[<- te,Int.emod_eq_of_lt zy zy]
 refine AN (AB (AY ?_));exact A8 (AW.one (by simp[Du,q,hr]))
theorem cJ (L:List Int):AK 6 [AA L] [] (.pt 0 0 0) [some (AS L 0)]:=by
 refine bV.s.ai ?_;refine AB (AY ?_);refine AB (AY ?_);exact Bx [40] []
theorem KZ (L:List Int) (a:Nat) (n:Int) (hl:L.length<=1099511627776) (ha:a<=L.length) (hn:n<=9223372036854775807):AK 19 [.pt 0 0 0,.I n] [AS L a] (.I (Af L a n).1) [some (AS L (Af L a n).2)]:=by
 refine cS.s.ai ?_;refine AB (AY ?_);refine AB (AB (G9 (s:=?s2) (tr:=?t2) rfl ?o2 ?r2 ?q2))
 case o2=>simp;constructor<;>rfl
 case r2=>rfl
 refine AI _ rfl (λ h3=>?_) λ h3=>?_
 .try simp at h3
  refine AB (AY ?_);refine A9 ?_;have hr:Af L a n=(0,a):=by unfold Af;rw[dif_neg zy]
  rw[hr];exact⟨.inr rfl,AW.k1 rfl zz (by simp[AC])⟩
 try simp at h3
 have hw:=w6 (x:=((a:Int)+1));have q:=w6 (x:=(a:Int));refine AN (AB (Al (s:=?s5) rfl ?o5 ?q5))
 case o5=>simp[hw];rfl
 refine AB (G9 (s:=?s6) (tr:=?t6) rfl ?o6 ?r6 ?q6)
 case o6=>simp[q,h3];refine A4 (wK _ _ hn) rfl ?_;simp;constructor<;>rfl
 case r6=>rfl
 refine A9 ?_;have hr:Af L a n=(Du L[a] n,a+1):=by unfold Af;rw[dif_pos h3]
 rw[hr];exact⟨.inr rfl,AW.k1 rfl zz (by simp[AC])⟩
variable {n:Int}
theorem pB {m:Int} (hm:0<m):0<=Du n m/\Du n m<m:=by
 unfold Du;rw[if_neg zy]
 exact⟨Int.emod_nonneg _ zy,Int.emod_lt_of_pos _ hm⟩
theorem Gi {L:List Int} {a:Nat} (hn:0<n):0<=(Af L a n).1/\(Af L a n).1<n:=by
 unfold Af;split
 .exact pB hn
 .exact ⟨Uw _,hn⟩
theorem D7 {L:List Int} {a:Nat} (ha:a<=L.length):(Af L a n).2<=L.length:=by
 unfold Af;split
 .simp only;omega
 .exact ha
def JI (L:List Int) (a:Nat) (l:List Int):Int:=l.getD (Af L a l.length).1.toNat 0
theorem PD (L:List Int) (a:Nat) (n:Int) (hl:L.length<=1099511627776) (ha:a<=L.length) (q:0<=n) (hn:n<=9223372036854775807):AK 20 [.pt 0 0 0,.I n] [AS L a] (.B (decide ((Af L a n).1=n - 1))) [some (AS L (Af L a n).2)]:=by
 refine c7.s.ai ?_;have hw:=w6 (x:=n - 1);refine AB (AY ?_);refine AB (Al (s:=?s2) rfl ?o2 ?q2)
 case o2 =>
  simp;refine B6 (i:=0) rfl (e':=AS L a) zz (KZ L a n hl ha hn) zz zz ?_
  simp[hw];rfl
 refine A9 ?_;exact⟨.inr rfl,AW.k1 rfl (by simp<;>exact BA rfl) zz⟩
theorem aU (L:List Int) (a:Nat) (l:List Int) (hl:L.length<=1099511627776) (ha:a<=L.length) (h0:0<l.length) (h1:l.length<=1099511627776):AK 22 [.pt 0 0 0,AA l] [AS L a] (.I (JI L a l)) [some (AS L (Af L a l.length).2)]:=by
 refine nE.s.ai ?_
 obtain⟨q,hq,u⟩:∃ q:Nat,(Af L a l.length).1=q/\q<l.length:=by
  have:=Gi (L:=L) (a:=a) (n:=l.length) zy
  exact⟨(Af L a l.length).1.toNat,zy,zy⟩
 have ho:JI L a l=l[q]:=by unfold JI;rw[hq];simp[u]
 refine AB (AY ?_);refine AB (Al (s:=?s2) rfl ?o2 ?q2)
 case o2 =>
  simp;refine B6 (i:=0) rfl (e':=AS L a) (by simp[AC]) (KZ L a l.length hl ha zy) zz zz ?_
  simp[hq,u,AC];rfl
 refine A9 ?_;rw[ho];exact⟨.inr rfl,AW.k1 rfl zz (by simp[AC])⟩
theorem AG.lt {g:Gr} (h:AG g):∀ (j i:Nat) (hi:i<g.edges.length) (hj:j<g.edges.length),i<j->CD g.edges[i] g.edges[j]
 | 0,_,_,_,h0=>zy
 | j+1,i,hi,hj,q=>by
   have h1:CD g.edges[j] g.edges[j+1]:=I7.1 ((h.2 (j+1) hj).2.2.2 zy)
   rcases Ui i j with h2 | h2
   .have h3:=AG.lt h j i hi zy h2
    unfold CD at *;omega
   .obtain rfl:i=j:=zy
    exact h1
theorem AG.mono {g:Gr} (h:AG g) (e:Ed):∀ (i j:Nat) (hi:i<g.edges.length) (hj:j<g.edges.length),i<=j->CD g.edges[j] e->CD g.edges[i] e:=by
 intro i j hi hj q hb;rcases Ui i j with h2 | h2
 .have h3:=h.lt j i hi hj h2
  unfold CD at *;omega
 .obtain rfl:i=j:=zy
  exact hb
section
variable {P:Program} {np id:Nat} {h:Nat->Option AD} {K:AV->List Nat->List (Nat × Option AD)->Prop} {f:FuncId} {first aA args aD:List AV} {res:AV}
theorem Kz {i j:Nat} {e e' ej:AD} {hs':List (Option AD)} (q:j≠i) (u:np<=j) (hi:h i=some e) (hj:h j=some ej) (h0:Ab [(i,0)] [j] h 4 e=e') (hc:Bz P f aD [e'] res hs') (h8:hs'.length<=9) (he:(first++args++aA).map (conv [(i,0)] [j] h 4)=aD) (hk:K (conv (CL [i] id) [] (λ _=>none) 4 res) [i,j] ((hs'.zipIdx.map λ (e,k)=>((i::(List.range 8).map (id + ·)).getD k 0,e.map (Ab (CL [i] id) [] (λ _=>none) 4)))++[(j,some { ej with ro:=ej.rows.length })])):aK P np id .call (.fn (.func f) first aA::args) h K :=
 ⟨[i],[j],true,aD,[e'],res,hs',zz,by simpa using q,by simpa using u,by rw[show [i].zipIdx=[(i,0)] from rfl,he];exact E9 _,by rw[show [i].zipIdx=[(i,0)] from rfl];simpa [hi] using h0,hc,by simpa using h8,.inl rfl,by simpa [CL,hj] using hk⟩
end
variable {e:Ed}
theorem fN {l:List Ed} {i:Nat} (h:i<BC l e) (hi:i<l.length):CD l[i] e:=by
 have:=List.not_of_lt_findIdx h
 simpa using this
theorem sX {l:List Ed} (h:BC l e<l.length):¬ CD l[BC l e] e:=by
 have h1:l.findIdx (λ x=>!decide (CD x e))<l.length:=h;have:=Vd (w:=h1);intro hb;have h2:decide (CD l[l.findIdx (λ x=>!decide (CD x e))] e)=true:=Q8 hb;simp only[h2] at this
 cases this
theorem YM {g:Gr} (hg:AG g) (hf:BS g e) (h1:1<=e.v) (h3:e.v<=3) (ha:¬ E5 g.edges (BC g.edges ⟨e.f,e.t,0⟩) e.f e.t) (hl:g.edges.length<500):AG (EK g e):=by
 have h8:=ZO g.edges ⟨e.f,e.t,0⟩
 have hb:∀ i (hi:i<g.edges.length),i<BC g.edges ⟨e.f,e.t,0⟩->CD g.edges[i] e:=λ i hi h=>by
  have:=fN h hi;exact this
 have hn:∀ (h:BC g.edges ⟨e.f,e.t,0⟩<g.edges.length),CD e g.edges[BC g.edges ⟨e.f,e.t,0⟩]:=λ h=>by
  have h2:=sX h;have h4:¬ (g.edges[BC g.edges ⟨e.f,e.t,0⟩].f=e.f/\g.edges[BC g.edges ⟨e.f,e.t,0⟩].t=e.t):=λ q=>ha ⟨h,q⟩;simp only[CD] at h2 ⊢;omega
 unfold EK;generalize BC g.edges ⟨e.f,e.t,0⟩=k at *;have u:(g.edges.take k++e::g.edges.drop k).length=g.edges.length+1:=zw
 have h5:∀ i (hi:i<(g.edges.take k++e::g.edges.drop k).length),(g.edges.take k++e::g.edges.drop k)[i]=if h:i<k then g.edges[i]' zy else if h2:i=k then e else g.edges[i - 1]' zy:=by
  intro i hi;have h7:(g.edges.take k).length=k:=zw
  by_cases h:i<k
  .rw [dif_pos h,Q2 zy,UR]
  .rw [dif_neg h,List.getElem_append_right zy]
   by_cases h2:i=k
   .subst h2
    simp[h7]
   .rw [dif_neg h2]
    rw[List.getElem_cons];rw[dif_neg zy,List.getElem_drop]
    congr 1
    omega
 refine⟨⟨hg.1.1,hg.1.2.1,by simp only[u];omega,hg.1.2.2.2⟩,λ i hi=>?_⟩
 simp only at hi;have h6:∀ x:Ed,BS ⟨g.size,g.edges.take k++e::g.edges.drop k,g.gone⟩ x↔BS g x:=λ x=>Iff.rfl;simp only[h6,I7,h5];have hE:=λ j (hj:j<g.edges.length)=>hg.2 j hj
 by_cases h:i<k
 .simp only[dif_pos h]
  refine⟨(hE i zy).1,(hE i zy).2.1,(hE i zy).2.2.1,λ h0=>?_⟩
  rw[dif_pos zy]
  exact I7.1 ((hE i zy).2.2.2 h0)
 .simp only[dif_neg h]
  by_cases h2:i=k
  .subst h2
   simp only[dif_pos];refine⟨hf,h1,h3,λ h0=>?_⟩;rw[dif_pos zy]
   exact hb _ _ zy
  .simp only[dif_neg h2]
   refine⟨(hE (i - 1) zy).1,(hE (i - 1) zy).2.1,(hE (i - 1) zy).2.2.1,λ h0=>?_⟩
   rw[dif_neg zy]
   by_cases h4:i - 1=k
   .rw [dif_pos h4]
    subst h4;exact hn _
   .rw [dif_neg h4]
    exact hg.lt _ _ _ _ zy
theorem i5 {g:Gr} (h:(DU g e).2=0):AG g/\BS g e/\(1<=e.v/\e.v<=3)/\¬ E5 g.edges (BC g.edges ⟨e.f,e.t,0⟩) e.f e.t/\g.edges.length<500/\(DU g e).1=EK g e/\AG (EK g e):=by
 have key:AG g/\BS g e/\(1<=e.v/\e.v<=3)/\¬ E5 g.edges (BC g.edges ⟨e.f,e.t,0⟩) e.f e.t/\g.edges.length≠500/\(DU g e).1=EK g e:=by
  unfold DU at *;split at h
  .simp at h
  split at h
  .simp at h
  split at h
  .simp at h
  split at h
  .simp at h
  split at h
  .simp at h
  simp_all
 obtain⟨h1,h2,h3,h4,h5,h6⟩:=key;have h7:g.edges.length<500:=by have:=h1.1.2.2.1;omega
 exact⟨h1,h2,h3,h4,h7,h6,YM h1 h2 h3.1 h3.2 h4 h7⟩
def HL (L:List Int) (p:Gr × Nat):Gr × Nat :=
 (if (DU p.1 ⟨(Af L p.2 p.1.size).1,(Af L (Af L p.2 p.1.size).2 p.1.size).1,1+(Af L (Af L (Af L p.2 p.1.size).2 p.1.size).2 3).1⟩).2=0
  then (DU p.1 ⟨(Af L p.2 p.1.size).1,(Af L (Af L p.2 p.1.size).2 p.1.size).1,1+(Af L (Af L (Af L p.2 p.1.size).2 p.1.size).2 3).1⟩).1 else p.1,
  (Af L (Af L (Af L p.2 p.1.size).2 p.1.size).2 3).2)
def L5 (L:List Int):Nat->Gr × Nat->Gr × Nat
 | 0,p=>p
 | n+1,p=>L5 L n (HL L p)
def D2 (L:List Int) (a:Nat):Int:=if L.length=0 then 4 else 2+(Af L a 8).1
def D5 (L:List Int) (a:Nat):Gr × Nat :=
 if (Af L (Af L a 8).2 8).1=7 then (⟨D2 L a,[],[(Af L (Af L (Af L a 8).2 8).2 (D2 L a)).1]⟩,(Af L (Af L (Af L a 8).2 8).2 (D2 L a)).2)
 else (⟨D2 L a,[],[]⟩,(Af L (Af L a 8).2 8).2)
def It (L:List Int) (a:Nat):Gr × Nat:=L5 L (Af L (D5 L a).2 23).1.toNat ((D5 L a).1,(Af L (D5 L a).2 23).2)
structure H1 (L:List Int) (p:Gr × Nat):Prop where
 ok:AG p.1
 lo:2<=p.1.size
 hi:p.1.size<=9
 at_:p.2<=L.length
 few:p.1.gone.length<=1
theorem SR (L:List Int) (a:Nat):2<=D2 L a/\D2 L a<=9:=by
 have:=Gi (L:=L) (a:=a) (n:=8) zy
 unfold D2;split<;>omega
theorem XC (L:List Int) (a:Nat) (ha:a<=L.length):H1 L (D5 L a):=by
 have hs:=SR L a;have h1:=D7 (L:=L) (a:=a) (n:=8) ha;have h2:=D7 (L:=L) (a:=(Af L a 8).2) (n:=8) h1;have hq:=Gi (L:=L) (a:=(Af L (Af L a 8).2 8).2) (n:=D2 L a) zy
 unfold D5;split
 .refine ⟨⟨⟨by simp only;omega,by simp only;omega,zz,λ i hi=>?_⟩,λ i hi=>absurd hi zz⟩,hs.1,hs.2,D7 h2,zz⟩
  obtain rfl:i=0:=by simpa using hi
  refine⟨hq.1,?_,λ h=>zy⟩
  have:=hq.2;simp only[List.getElem_cons_zero];omega
 .exact ⟨⟨⟨by simp only;omega,by simp only;omega,zz,λ i hi=>absurd hi zz⟩,λ i hi=>absurd hi zz⟩,hs.1,hs.2,h2,zz⟩
theorem XM {L:List Int} {p:Gr × Nat} (h:H1 L p):H1 L (HL L p):=by
 have h3:=D7 (n:=3) (D7 (n:=p.1.size) (D7 (n:=p.1.size) h.at_));unfold HL
 by_cases hw:(DU p.1 ⟨(Af L p.2 p.1.size).1,(Af L (Af L p.2 p.1.size).2 p.1.size).1,1+(Af L (Af L (Af L p.2 p.1.size).2 p.1.size).2 3).1⟩).2=0
 .rw [if_pos hw]
  obtain⟨_,_,_,_,_,q6,q7⟩:=i5 hw;rw[q6];exact⟨q7,h.lo,h.hi,h3,h.few⟩
 .rw [if_neg hw]
  exact⟨h.ok,h.lo,h.hi,h3,h.few⟩
theorem TL {L:List Int}:∀ (n:Nat) {p:Gr × Nat},H1 L p->H1 L (L5 L n p)
 | 0,_,h=>h
 | n+1,_,h=>TL n (XM h)
theorem eF (L:List Int) (a:Nat) (ha:a<=L.length):H1 L (It L a):=by
 have h:=XC L a ha;exact TL _ ⟨h.ok,h.lo,h.hi,D7 h.at_,h.few⟩
variable {nl:List (Nat × Nat)}
theorem An.eq {e e':AD} (h:e=e') (hr:e'.ro<=e'.rows.length):An nl e e':=by
 subst h;exact An.rfl' hr
theorem An.row {s ro:Nat} {e:AD} {r r':List AV} (h:e=⟨s,[r],ro⟩) (hr:ro<=1) (hu:D9 nl r r') (hs:s≠0:=by decide):An nl e ⟨s,[r'],ro⟩:=by
 subst h;refine⟨rfl,Qk _,hr,.inr ⟨hs,rfl,λ i=>?_⟩⟩
 match i with
 | 0=>exact hu
 | _+1=>exact trivial
theorem NI {nl:List (Nat × Nat)}:∀ {xs ys:List AV},C7 xs ys->D9 nl xs ys
 | [],[],_=>trivial
 | _::_,_::_,h=>⟨.inl h.1,NI h.2⟩
 | [],_::_,h=>False.elim h
 | _::_,[],h=>False.elim h
theorem Le.ents {np:Nat} {st st':St} (ρ:List (Nat × Nat)) (sn:List Nat) (u:st'.sz=st.sz) (h0:(ρ.map (·.1)).Nodup) (h1:(ρ.map (·.2)).Nodup) (h2:∀ p∈ρ,p.2<st'.n/\(p.2<np->p.1=p.2)) (h4:∀ i∈sn,np<=i/\i∉ρ.map (·.1)) (h5:np<=st'.n) (ht:∀ p∈st'.t,Wk (conv ρ sn st.hp 4 (st.get p.1)) p.2) (hh:∀ p∈st'.h,∃ q e e',p.2=some e'/\(q,p.1)∈ρ/\st.hp q=some e/\An [] (Ab ρ sn st.hp 4 e) e'):Le np st st' :=
 Le.lst ρ sn [] u h0 h1 h2 zz h4 h5 zz (λ p hp=>.inl (ht p hp)) λ p hp e' h6=>by
  obtain⟨q,e,e2,h1,h2,h3,h4⟩:=hh p hp;rw[h6] at h1
  cases h1;exact .inl ⟨(q,p.1),h2,rfl,e,h3,h4⟩
theorem Hd (L:List Int) (a:Nat) (n:Int) (hl:L.length<=400) (ha:a<=L.length) (hn:n<=9223372036854775807):AK 19 [.pt 0 0 0,.I n] [AS L a] (.I (Af L a n).1) [some (AS L (Af L a n).2)]:=KZ L a n zy ha hn
abbrev zG:AD:=⟨3,[[.I 0,.nilS,.nilS]],0⟩
abbrev F5 (g:Gr):AD:=⟨3,[gC g],0⟩
theorem n7 (L:List Int) (a:Nat) (hl:L.length<=400) (ha:a<=L.length):AK 7 [.pt 0 0 0] [AS L a] (eG (It L a).1) [some (AS L (It L a).2)]:=by
 refine n5.s.ai ?_;have a1:=D7 (L:=L) (a:=a) (n:=8) ha;have r1:=Gi (L:=L) (a:=a) (n:=8) zy
 have hs:=SR L a;have a2:=D7 (L:=L) (a:=(Af L a 8).2) (n:=8) a1;have h1:=w6 (x:=2+(Af L a 8).1);have hm:=XC L a ha;apply ak [0,2] [0,16] 24
 .simp
  rfl
 apply ak [0,2,3] [0,16,56] 72
 .simp
  refine B6 (i:=0) rfl (e':=AS L a) zz (Hd L a 8 hl ha zy) zz zz ?_
  simp[h1];rfl
 refine CX ⟨53,[(0,.pt 0 0 0),(2,.pt 16 0 0),(3,.pt 56 0 0)],[(0,some (AS L (Af L a 8).2)),(16,some zG),(56,some ⟨3,[[.I (D2 L a),.nilS,.nilS]],0⟩)],136⟩ ?_ ?_
 .refine arc ⟨53,[(0,.pt 0 0 0),(2,.pt 16 0 0),(3,.pt 56 0 0),(16,.B (decide (L.length=0)))],[(0,some (AS L (Af L a 8).2)),(16,some zG),(56,some ⟨3,[[.I (2+(Af L a 8).1),.nilS,.nilS]],0⟩)],120⟩ ?_ ?_
  .simp
   exact Le.keep rfl (Qk _) (by simp<;>rw[Qv]<;>simp) zz
  refine AI _ rfl (λ h=>?_) λ h=>AN ?_
  .simp only[Qf] at h
   have hz:D2 L a=4:=by unfold D2;rw[if_pos h]
   refine Ap rfl ?_;simp;exact Le.keep rfl (Qk _) zz (by simp[hz])
  .simp only[Qd] at h
   have hz:D2 L a=2+(Af L a 8).1:=by unfold D2;rw[if_neg h]
   exact Le.keep rfl (Bf rfl) zz (by simp[hz])
 refine CX ⟨53,[(0,.pt 0 0 0),(2,.pt 16 0 0),(3,.pt 56 0 0)],[(0,some (AS L (D5 L a).2)),(16,some zG),(56,some (F5 (D5 L a).1))],208⟩ ?_ ?_
 .apply ak [0,2,3,19] [0,16,56] 152
  .simp
   refine B6 (i:=0) rfl (e':=AS L (Af L a 8).2) zz (PD L _ 8 zy a1 zy zy) zz zz ?_
   simp;rfl
  refine AI _ rfl (λ h=>?_) λ h=>AN ?_
  .simp only[Qf] at h
   have hz:D5 L a=(⟨D2 L a,[],[(Af L (Af L (Af L a 8).2 8).2 (D2 L a)).1]⟩,(Af L (Af L (Af L a 8).2 8).2 (D2 L a)).2):=by unfold D5;rw[if_pos h]
   rw[hz];refine Ap rfl ?_;simp;refine B6 (i:=0) rfl (e':=AS L (Af L (Af L a 8).2 8).2) zz (Hd L (Af L (Af L a 8).2 8).2 (D2 L a) hl a2 zy) zz zz ?_
   simp;refine Le.ents [(0,0),(16,16),(56,56)] [184] rfl zz zz zz zz zz zz λ p hp=>?_
   simp at hp;rcases hp with rfl | rfl | rfl
   .exact ⟨0,_,_,rfl,zz,rfl,An.eq zz zz⟩
   .exact ⟨16,_,_,rfl,zz,rfl,An.eq zz zz⟩
   .exact ⟨56,_,_,rfl,zz,rfl,An.row (by simp;rfl) zz (NI (by simp;exact⟨.nil _ _,.refl _⟩))⟩
  .simp only[Qd] at h
   have hz:D5 L a=(⟨D2 L a,[],[]⟩,(Af L (Af L a 8).2 8).2):=by unfold D5;rw[if_neg h]
   rw[hz];refine Le.ents [(0,0),(16,16),(56,56)] [] rfl zz zz zz zz zz zz λ p hp=>?_
   simp at hp;rcases hp with rfl | rfl | rfl
   .exact ⟨0,_,_,rfl,zz,rfl,An.eq zz zz⟩
   .exact ⟨16,_,_,rfl,zz,rfl,An.eq zz zz⟩
   .exact ⟨56,_,_,rfl,zz,rfl,An.row (by simp;rfl) zz (NI (by simp;exact⟨.nil _ _,.nil _ _⟩))⟩
 have r4:=Gi (L:=L) (a:=(D5 L a).2) (n:=23) zy
 obtain⟨n0,h0⟩:∃ n0:Nat,(Af L (D5 L a).2 23).1=n0:=⟨(Af L (D5 L a).2 23).1.toNat,zy⟩
 refine AB ?_;apply ak [0,2,3,4] [0,16,56] 232
 .simp
  refine B6 (i:=0) rfl (e':=AS L (D5 L a).2) zz (Hd L (D5 L a).2 23 hl hm.at_ zy) zz zz ?_
  simp[h0];rfl
 refine AT ?_
 refine As (ι:=Nat × Gr × Nat) (λ q=>⟨53,[(0,.pt 0 0 0),(2,.pt 16 0 0),(3,.pt 56 0 0),(4,.I q.1)],[(0,some (AS L q.2.2)),(16,some zG),(56,some (F5 q.2.1))],232⟩)
  (λ q=>q.1<=23/\H1 L q.2/\L5 L q.1 q.2=It L a) (λ q=>q.1) (n0,(D5 L a).1,(Af L (D5 L a).2 23).2) ?_ (Le.refl _ _) ?_
 .refine ⟨by simp only;omega,⟨hm.ok,hm.lo,hm.hi,D7 hm.at_,hm.few⟩,?_⟩
  unfold It;rw[h0];rfl
 rintro⟨k,p⟩ ⟨hk,hp,hit⟩
 simp only at hk hp hit ⊢;refine AB ?_;apply ak [0,2,3,4,29] [0,16,56] 248
 .simp
  rfl
 refine AI _ rfl (λ h=>AN ?_) λ h=>Ar (Go.Proofs.YtnaemfpgdmfmcaaGreatDoor.hit ?_)
 .simp only[Qf] at h
  refine CX ⟨53,[(0,.pt 0 0 0),(2,.pt 16 0 0),(3,.pt 56 0 0),(4,.I k)],[(0,some (AS L (HL L p).2)),(16,some zG),(56,some (F5 (HL L p).1))],440⟩ ?_ ?_
  .refine AT ?_
   have q1:=D7 (n:=p.1.size) hp.at_;have q2:=D7 (n:=p.1.size) q1;have h8:=hp.lo;have h9:=hp.hi;have l3:=Gi (L:=L) (a:=(Af L (Af L p.2 p.1.size).2 p.1.size).2) (n:=3) zy
   have h2:=w6 (x:=1+(Af L (Af L (Af L p.2 p.1.size).2 p.1.size).2 3).1);obtain⟨w,hw⟩:=AR (DU p.1 ⟨(Af L p.2 p.1.size).1,(Af L (Af L p.2 p.1.size).2 p.1.size).1,1+(Af L (Af L (Af L p.2 p.1.size).2 p.1.size).2 3).1⟩);have h3:HL L p=(if w.2=0 then w.1 else p.1,(Af L (Af L (Af L p.2 p.1.size).2 p.1.size).2 3).2):=by rw[hw];rfl
   have h6:=hp.ok.1.2.2.1;have h7:=hp.few;have u:=d9 p.1 ⟨(Af L p.2 p.1.size).1,(Af L (Af L p.2 p.1.size).2 p.1.size).1,1+(Af L (Af L (Af L p.2 p.1.size).2 p.1.size).2 3).1⟩ zy zy
   rw[<- hw] at u;rw[h3];refine Cd ⟨53,[(0,.pt 0 0 0),(2,.pt 16 0 0),(3,.pt 56 0 0),(4,.I k),(5,.pv (gC w.1)),(6,.I w.2)],[(0,some (AS L (Af L (Af L (Af L p.2 p.1.size).2 p.1.size).2 3).2)),(16,some zG),(56,some (F5 p.1))],408⟩ ?_ ?_
   .simp
    refine B6 (i:=0) rfl (e':=AS L p.2) zz (Hd L p.2 p.1.size hl hp.at_ zy) zz zz ?_
    simp;refine B6 (i:=0) rfl (e':=AS L (Af L p.2 p.1.size).2) zz (Hd L (Af L p.2 p.1.size).2 p.1.size hl q1 zy) zz zz ?_
    simp;refine B6 (i:=0) rfl (e':=AS L (Af L (Af L p.2 p.1.size).2 p.1.size).2) zz (Hd L (Af L (Af L p.2 p.1.size).2 p.1.size).2 3 hl q2 zy) zz zz ?_
    simp[h2];refine A4 u rfl ?_;simp;refine⟨rfl,Le.ents [(0,0),(16,16),(56,56)] [384] rfl zz zz zz zz zz zz λ p hp=>?_⟩
    simp at hp;rcases hp with rfl | rfl | rfl
    .exact ⟨0,_,_,rfl,zz,rfl,An.eq zz zz⟩
    .exact ⟨16,_,_,rfl,zz,rfl,An.eq zz zz⟩
    .exact ⟨56,_,_,rfl,zz,rfl,An.eq zz zz⟩
   refine arc ⟨53,[(0,.pt 0 0 0),(2,.pt 16 0 0),(3,.pt 56 0 0),(4,.I k),(5,.pv (gC w.1)),(50,.B (decide (w.2=0)))],[(0,some (AS L (Af L (Af L (Af L p.2 p.1.size).2 p.1.size).2 3).2)),(16,some zG),(56,some (F5 p.1))],424⟩ ?_ ?_
   .simp
    exact Le.keep rfl (Qk _) (by simp<;>rw[Qv]<;>simp) zz
   refine AI _ rfl (λ h=>?_) λ h=>AN ?_
   .simp only[Qf] at h
    refine Ap rfl ?_;simp[h];exact Le.keep rfl (Bf rfl) zz zz
   .simp only[Qd] at h
    rw[if_neg h];exact Le.keep rfl (Bf rfl) zz zz
  have h4:IntKind.i64.wrap ((k:Int) - 1)=((k - 1:Nat):Int):=by rw[w6];omega
  refine Ap rfl ?_;simp[h4];refine⟨k - 1,(HL L p).1,(HL L p).2,⟨zy,XM hp,?_⟩,zy,Le.ents [(0,0),(16,16),(56,56)] [] rfl zz zz zz zz zz zz λ p hp=>?_⟩
  .rw [<- hit]
   obtain⟨k,rfl⟩:∃ j,k=j+1:=⟨k - 1,zy⟩
   rfl
  .simp at hp
   rcases hp with rfl | rfl | rfl
   .exact ⟨0,_,_,rfl,zz,rfl,An.eq zz zz⟩
   .exact ⟨16,_,_,rfl,zz,rfl,An.eq zz zz⟩
   .exact ⟨56,_,_,rfl,zz,rfl,An.eq zz zz⟩
 simp only[Qd] at h;obtain rfl:k=0:=zy
 have h5:p=It L a:=hit;rw[<- h5];apply ak [2] [0,16] 264
 .simp
  rfl
 exact A8 (AW.k1 (vs:=[eG p.1]) rfl zz zz)
def E0 (aA:List AV):Prop:=∀ ρ sn h n,aA.map (conv ρ sn h (n+1))=aA
def BU {α:Type} (l:List α) (q:α->Bool):Int:=if l.findIdx q<l.length then (l.findIdx q:Int) else -1
theorem Lc {α:Type} {l:List α} {q:α->Bool} {k:Nat} (hk:k<l.length) (h1:∀ i,i<k -> ∀ h:i<l.length,q l[i]=false) (h2:q l[k]=true):BU l q=k:=by
 have:l.findIdx q=k:=by
  rw[List.findIdx_eq hk];exact⟨h2,λ j hj=>by simpa using h1 j hj zy⟩
 unfold BU;rw[this,if_pos hk]
theorem Lr {α:Type} {l:List α} {q:α->Bool} (h1:∀ i,i<l.length -> ∀ h:i<l.length,q l[i]=false):BU l q = -1:=by
 have:l.findIdx q=l.length:=by
  rw[U3];intro x hx;obtain⟨i,hi,rfl⟩:=QA.1 hx;exact h1 i hi hi
 unfold BU;rw[this,if_neg zy]
theorem iO (f:FuncId) (aA:List AV) (q:Ed->Bool) (l:List Ed) (hl:l.length<=1099511627776) (hs:E0 aA) (hc:∀ e∈l,AK f (eE e::aA) [] (.B (q e)) []):AK 108 [BO l,.fn (.func f) [] aA] [] (.I (BU l q)) []:=by
 have h5:∀ ρ sn h,aA.map (conv ρ sn h 2)=aA:=λ _ _ _=>hs _ _ _ 1
 have u:∀ ρ sn h,aA.map (conv ρ sn h 3)=aA:=λ _ _ _=>hs _ _ _ 2
 have h1:∀ ρ sn h,aA.map (conv ρ sn h 4)=aA:=λ _ _ _=>hs _ _ _ 3
 refine kC.s.ai ?_;refine AB (AY ?_);refine AB (AB (AY ?_));refine AT (As (ι:=Nat) (λ k=>⟨19,[(0,BO l),(1,.fn (.func f) [] aA),(7,.I l.length),(8,.I k)],[],16⟩) (λ k=>k<=l.length /\ ∀ i,i<k -> ∀ h:i<l.length,q l[i]=false) (λ k=>l.length - k) (0) ?_ (A5 [] (by simp[u])) ?_)
 .simp
 rintro k ⟨hk,hp⟩
 refine AB (AY ?_);refine AB (AI _ rfl (λ h4=>?_) λ h4=>?_)
 .try simp at h4
  have h2:=w6 (x:=((k:Int)+1));have h3:=hc l[k] (Qj h4);refine AN (AB (AT (AB (Al (s:=?s5) rfl ?o5 ?q5))))
  case o5=>simp[h4];rfl
  refine AB (Al (s:=?s6) rfl ?o6 ?q6)
  case o6 =>
   simp[h4];refine A4 h3 ?_ ?_
   .simp [h1]
   simp;rfl
  refine AI _ rfl (λ h7=>?_) λ h7=>?_
  .try simp at h7
   refine AB (AY ?_);exact A8 (AW.one (by simp[Lc h4 hp h7]))
  try simp at h7
  refine AN (Al (s:=?s9) rfl ?o9 ?q9)
  case o9=>simp[h2];rfl
  refine⟨k+1,⟨h4,λ i hi=>?_⟩,zy,A5 [] (by simp[u])⟩
  rcases QI.1 hi with h | rfl
  .exact hp i h
  .exact λ _=>h7
 try simp at h4
 have h0:∀ i,i<l.length -> ∀ h:i<l.length,q l[i]=false:=λ i hi=>hp i zy
 refine Ar (hit (AB (AY ?_)));exact A8 (AW.one (by simp[Lr h0]))
abbrev CM (l:List Ed):List (List AV):=l.map λ e=>[AV.I e.f,AV.I e.t,AV.I e.v]
theorem YU {l:List Ed} {q:Ed->Bool} (h:∀ i,i<l.length -> ∀ h:i<l.length,q l[i]=false):l.filter (λ e=>!q e)=l:=by
 rw[List.filter_eq_self];intro x hx;obtain⟨i,hi,rfl⟩:=QA.1 hx;simp[h i hi hi]
theorem S8 (l:List Ed) (q:Ed->Bool) (j:Nat) (h:j<l.length):(l.take (j+1)).filter (λ e=>!q e)=(l.take j).filter (λ e=>!q e)++if q l[j]=true then [] else [l[j]]:=by
 rw[<- Vc h,U9,Va]
 congr 1
 cases hq:q l[j]<;>simp[hq]
theorem wJ (f:FuncId) (aA:List AV) (q:Ed->Bool) (l:List Ed) (n m:Nat) (hn:l.length=n) (hm:(l.filter λ e=>!q e).length=m) (hl:n<=1099511627776) (hs:E0 aA) (hc:∀ e∈l,AK f (eE e::aA) [] (.B (q e)) []) :
  AK 67 [.rs 0 0 n,.fn (.func f) [] aA] [⟨3,CM l,0⟩] (.rs 0 0 m) [some ⟨3,CM (l.filter λ e=>!q e)++List.replicate (n - m) [.I 0,.I 0,.I 0],0⟩]:=by
 have h4:∀ ρ sn h,aA.map (conv ρ sn h 2)=aA:=λ _ _ _=>hs _ _ _ 1
 have h6:∀ ρ sn h,aA.map (conv ρ sn h 3)=aA:=λ _ _ _=>hs _ _ _ 2
 have h7:∀ ρ sn h,aA.map (conv ρ sn h 4)=aA:=λ _ _ _=>hs _ _ _ 3
 refine bQ.s.ai ?_;have hz:m<=n:=by rw[<- hm,<- hn];exact Q5 _ _
 apply ak [0,1] [0] 24
 .simp
  rfl
 apply ak [0,1,5] [0] 56
 .simp
  refine F6 [0] (iO f aA q l zy hs hc) ?_ (.sc _) ?_
  .simp [h4,h6,h7,<- hn,AC,B7]
  simp;rfl
 refine AB (arc ⟨42,[(0,.rs 0 0 n),(1,.fn (.func f) [] aA),(5,.I (BU l q)),(12,.B (decide (BU l q = -1)))],[(0,some ⟨3,CM l,0⟩)],72⟩ ?_ ?_)
 .simp
  exact Le.keep rfl (Qk _) (by simp<;>rw[Qv]<;>simp) zz
 refine AI _ rfl (λ h=>?_) λ h=>AN ?_
 .simp only[Qf] at h
  have hh:∀ i,i<l.length -> ∀ h:i<l.length,q l[i]=false:=by
   intro i hi _;unfold BU at h;split at h
   .omega
   .rename_i a0
    have:l.findIdx q=l.length:=by have:=List.findIdx_le_length (xs:=l) (p:=q);omega
    rw[U3] at this;exact this _ (Qj hi)
  have hf:=YU hh;rw[hf] at hm ⊢;obtain rfl:n=m:=zy
  refine AB (AY ?_);refine A9 ⟨.inr rfl,⟨[.rs 0 0 n],rfl,[],[],by simp[List.range,List.range.loop],zz,zz,?_,?_⟩⟩
  .simp [List.range,List.range.loop]
  .simp [List.range,List.range.loop,AC]
 simp only[Qd] at h
 obtain⟨i0,hk,h1,hb,ho⟩:∃ i0:Nat,BU l q=i0/\i0<l.length/\(∀ i,i<i0 -> ∀ h:i<l.length,q l[i]=false) /\ ∀ h:i0<l.length,q l[i0]=true:=by
  unfold BU at h ⊢;split at h
  .rename_i h1
   refine⟨l.findIdx q,by rw[if_pos h1],h1,λ i hi _=>?_,λ h=>Vd (w:=h)⟩
   simpa using List.not_of_lt_findIdx hi
  .omega
 rw[hk]
 have h8:(l.take (i0+1)).filter (λ e=>!q e)=l.take i0:=by
  rw[S8 l q i0 h1,if_pos (ho h1),Q0];refine YU λ i hi h=>?_;rw[QU] at hi;simp only[UR];exact hb i zy zy
 have hq:=wq (k:=i0)
 let C:Nat × List Ed->St:=λ p=>⟨42,[(0,.rs 0 0 n),(1,.fn (.func f) [] aA),(5,.I ((l.take p.1).filter λ e=>!q e).length),(6,.I p.1)],[(0,some ⟨3,CM ((l.take p.1).filter (λ e=>!q e)++p.2++l.drop p.1),0⟩)],96⟩
 refine AB (Ep (C (i0+1,[l[i0]])) rfl ?_ ?_)
 .simp [hq]
  refine Le.keep rfl (Qk _) ?_ ?_
  .simp only[C,h8]
   simp;omega
  .simp only[C,h8]
   simp
 refine AT (As C (λ p:Nat × List Ed=>p.1<=n/\p.2≠[]/\((l.take p.1).filter λ e=>!q e).length+p.2.length=p.1) (λ p:Nat × List Ed=>n - p.1) (i0+1,[l[i0]]) ?_ (Le.refl _ _) ?_)
 .simp only[h8]
  simp;omega
 rintro⟨j,M⟩ ⟨hj,hM,h0⟩
 simp only at hj hM h0 ⊢;obtain⟨A,hA⟩:=AR ((l.take j).filter λ e=>!q e);rw[<- hA] at h0;have hC:C (j,M)=⟨42,[(0,.rs 0 0 n),(1,.fn (.func f) [] aA),(5,.I A.length),(6,.I j)],[(0,some ⟨3,CM (A++M++l.drop j),0⟩)],96⟩:=by subst hA;rfl
 rw[hC];refine AB (arc ⟨42,[(0,.rs 0 0 n),(1,.fn (.func f) [] aA),(5,.I A.length),(6,.I j),(19,.B (decide (j<n)))],[(0,some ⟨3,CM (A++M++l.drop j),0⟩)],128⟩ ?_ ?_)
 .simp
  exact Cp
 refine AI _ rfl (λ h=>AN ?_) λ h=>Ar (hit ?_)
 .simp only[Qf] at h
  have h2:j<l.length:=zy
  match M,hM,h0 with
  | m0::M1,_,h0 =>
  simp only[QV] at h0;have u:=S8 l q j h2;rw[<- hA] at u
  have he:(CM (A++m0::M1++l.drop j))[j]? = some [AV.I l[j].f,AV.I l[j].t,AV.I l[j].v]:=by
   rw[QH,Qs zw,Q9,show j+(j - (A++m0::M1).length)=j by simp;omega,Qa h2]
   rfl
  have h9:(CM (A++m0::M1++l.drop j))[A.length]? = some [AV.I m0.f,AV.I m0.t,AV.I m0.v]:=by
   rw[QH,QG,Qs zy]
   simp
  have hg:(CM (A++m0::M1++l.drop j)).set A.length [AV.I l[j].f,AV.I l[j].t,AV.I l[j].v]=CM ((A++[l[j]])++(M1++[l[j]])++l.drop (j+1)):=by
   have e1:l.drop j=l[j]::l.drop (j+1):=QQ h2;rw[e1];simp[CM,List.set_append]
  have ha:A++m0::M1++l.drop j=A++(m0::M1++[l[j]])++l.drop (j+1):=by
   have e1:l.drop j=l[j]::l.drop (j+1):=QQ h2;rw[e1];simp
  generalize h3:CM (A++m0::M1++l.drop j)=R at *;have a1:R.length=n:=by rw[<- h3];simp;omega
  have hr:=hc l[j] (Qj h2);generalize hv:l[j]=v at *
  refine G1 (ι:=List Ed × List Ed) (λ p=>⟨42,[(0,.rs 0 0 n),(1,.fn (.func f) [] aA),(5,.I p.1.length),(6,.I j)],[(0,some ⟨3,CM (p.1++p.2++l.drop (j+1)),0⟩)],272⟩)
   (λ p=>p.1=(l.take (j+1)).filter (λ e=>!q e)/\p.2≠[]/\p.1.length+p.2.length=j+1) ?_ ?_
  .refine AT (arc ⟨42,[(0,.rs 0 0 n),(1,.fn (.func f) [] aA),(5,.I A.length),(6,.I j),(7,.pt 160 0 0)],[(0,some ⟨3,R,0⟩),(160,some ⟨3,[[.I v.f,.I v.t,.I v.v]],0⟩)],176⟩ ?_ ?_)
   .simp [h,he]
    exact Cp
   refine arc ⟨42,[(0,.rs 0 0 n),(1,.fn (.func f) [] aA),(5,.I A.length),(6,.I j),(7,.pt 160 0 0),(29,.B (!q v))],[(0,some ⟨3,R,0⟩),(160,some ⟨3,[[.I v.f,.I v.t,.I v.v]],0⟩)],208⟩ ?_ ?_
   .simp
    refine A4 hr ?_ ?_
    .simp [h4,h6,h7]
    simp;exact Cp
   refine AI _ rfl (λ h5=>?_) λ h5=>AN ?_
   .simp only[UO] at h5
    rw[h5] at u;refine arc ⟨42,[(0,.rs 0 0 n),(1,.fn (.func f) [] aA),(5,.I A.length),(6,.I j)],[(0,some ⟨3,CM ((A++[v])++(M1++[v])++l.drop (j+1)),0⟩)],248⟩ ?_ ?_
    .simp [h9,show A.length<n by omega,Ax,hg]
     exact Cp
    have hu:IntKind.i64.wrap ((A.length:Int)+1)=((A.length+1:Nat):Int):=by rw[w6];omega
    refine Ap rfl ?_;simp[hu];refine⟨A++[v],M1++[v],⟨by rw[u];simp,zz,zw⟩,Cp⟩
   .simp only[Bool.not_eq_false'] at h5
    rw[h5] at u;refine⟨(A,m0::M1++[v]),⟨by rw[u];simp,zz,zw⟩,Le.keep rfl (Bf rfl) zz ?_⟩
    rw[<- ha,h3];simp
  rintro⟨A',M'⟩ ⟨p1,p2,p3⟩
  simp only at p1 p2 p3 ⊢;have hw:=wq (k:=j);refine Ap rfl ?_;simp[hw];refine⟨j+1,M',⟨zy,p2,by rw[<- p1];omega⟩,zy,?_⟩
  have hD:C (j+1,M')=⟨42,[(0,.rs 0 0 n),(1,.fn (.func f) [] aA),(5,.I A'.length),(6,.I ((j+1:Nat):Int))],[(0,some ⟨3,CM (A'++M'++l.drop (j+1)),0⟩)],96⟩:=by rw[p1]
  rw[hD];refine Le.ents [(0,0)] [] rfl zz zz zz zz zz (by simp[h4,h6,h7]) λ p hp=>?_
  simp at hp;subst hp;exact⟨0,_,_,rfl,zz,rfl,An.eq (by simp[AC]) zz⟩
 simp only[Qd] at h;obtain rfl:j=n:=zy
 have hd:l.drop j=[]:=Um zy
 have ht:l.take j=l:=Qb zy
 rw[ht] at hA;rw[hd,Q0];rw[<- hA] at hm ⊢;subst hm;have hx:(CM (A++M)).take A.length=CM A:=by simp[CM]
 have hy:(CM (A++M)).drop (A.length+(j - A.length))=[]:=Um zw
 have a2:(CM (A++M)).length=j:=zw
 generalize CM (A++M)=R at *;refine arc ⟨42,[(0,.rs 0 0 j),(5,.I A.length)],[(0,some ⟨3,CM A++List.replicate (j - A.length) [.I 0,.I 0,.I 0],0⟩)],160⟩ ?_ ?_
 .simp
  refine⟨zy,zy,?_⟩
  rw[hx,hy];exact Cp
 refine AB (Al (s:=?s2) rfl ?o2 ?q2)
 case o2 =>
  simp;refine⟨zy,?_⟩
  rfl
 refine A9 ⟨.inr rfl,⟨[.rs 0 0 A.length],rfl,[],[],by simp[List.range,List.range.loop],zz,zz,?_,?_⟩⟩
 .simp [List.range,List.range.loop]
 .simp [List.range,List.range.loop,AC]
def AO (g:Gr) (v:Int):Gr:=⟨g.size,g.edges.filter λ e=>!decide (e.v<v),g.gone⟩
theorem vT (e:Ed) (v:Int):AK 68 [eE e,.pv [.I v]] [] (.B (decide (e.v<v))) []:=by
 refine sZ.s.ai ?_;refine ar [1,2] [] [16] 16 ?_;refine AB (AY ?_);exact Ca
theorem Ij (g:Gr) (v:Int) (hl:g.edges.length<=1099511627776) (h0:g.gone.length<=1099511627776):AK 27 [eG g,.I v] [] (eG (AO g v)) []:=by
 refine rI.s.ai ?_;obtain⟨E,hE⟩:=AR (g.edges.filter λ e=>!decide (e.v<v));have h1:E.length<=g.edges.length:=by rw[hE];exact Q5 _ _
 have q:=wJ 68 [.pv [.I v]] (λ e=>decide (e.v<v)) g.edges g.edges.length E.length rfl (by rw[hE]) hl (λ ρ sn h n=>zz) (λ e _=>vT e v)
 rw[<- hE] at q;have u:AO g v=⟨g.size,E,g.gone⟩:=by rw[hE];rfl
 rw[u];refine arc ⟨14,[(2,.pv (gC g)),(3,.pt 24 0 0),(4,.pt 32 0 0)],[(24,some ⟨1,[[.I v]],0⟩),(32,some zG)],40⟩ ?_ ?_
 .simp
  refine Le.ents [(24,24),(32,32)] [16] rfl zz zz zz zz zz zz λ p hp=>?_
  simp at hp;rcases hp with rfl | rfl
  .exact ⟨24,_,_,rfl,zz,rfl,An.eq zz zz⟩
  .exact ⟨32,_,_,rfl,zz,rfl,An.eq zz zz⟩
 apply ak [3,4,5] [24,32,56,48,49] 72
 .simp
  refine VX (lU g zy zy) rfl ?_
  simp[AC];rfl
 apply ak [4,5] [32,56,48,49] 120
 .simp
  refine Kz (i:=48) (j:=24) zx (Qn _) rfl rfl ?_ q zz ?_ ?_
  .simp [AC]
  .simp
  simp[AC];rfl
 refine AB (AY ?_);refine A9 ⟨.inr rfl,?_⟩;show AW [(4,some (true,3))] 0 _ _ _;refine AW.out (vs:=[.agg [.I g.size,.rs 48 0 E.length,.rs 49 0 g.gone.length]]) [] [48,49] zz zz zz ?_ zz
 simp[AC,B7]
variable {g:Gr} {lv:Int} {order:List Int}
def IX (g:Gr) (lv f t:Int):Prop:=∃ e∈g.edges,e.f=f/\e.t=t/\lv<=e.v
theorem iS {f t:Int}:t∈Av (AO g lv).edges f↔IX g lv f t:=by
 unfold Av AO IX;simp only[U2,Qz];constructor
 .rintro ⟨e,⟨he,hv⟩,h⟩
  split at h
  .rename_i hf
   refine⟨e,he,hf,by simpa using h,?_⟩
   simp at hv;omega
  .cases h
 .rintro ⟨e,he,hf,ht,hv⟩
  refine⟨e,⟨he,?_⟩,?_⟩
  .simp;omega
  .rw [if_pos hf,ht]
theorem Pe:∀ {a b:List Int},a.Nodup->(∀ x∈a,x∈b)->b.length<=a.length->a.Perm b
 | [],b,_,_,hl=>by
   have:b=[]:=UT.1 (by simpa using hl)
   rw[this]
 | x::a,b,hn,hs,hl=>by
   have hx:x∈b:=hs x (Qi ..);rw[Q1] at hn;have hb:=List.perm_cons_erase hx;have h0:(b.erase x).length+1=b.length:=by have:=hb.length_eq;simp at this;omega
   refine(List.Perm.cons x (Pe hn.2 (λ y hy=>?_) ?_)).trans hb.symm
   .have q:=hs y (Qg _ hy)
    have u:y≠x:=λ e=>hn.1 (e ▸ hy);exact(List.mem_erase_of_ne u).2 q
   .rw [QV] at hl
    omega
def Dl (l:List Int):List Int:=l.mergeSort λ x y=>decide (x<=y)
theorem I3 (l:List Int):(Dl l).Perm l:=List.mergeSort_perm ..
theorem MQ (l:List Int):(Dl l).Pairwise (· <= ·):=by
 have h:=List.pairwise_mergeSort (le:=λ x y:Int=>decide (x<=y)) (λ a b c h1 h2=>by simp at *;omega) (λ a b=>zw) l
 exact h.imp λ {a b} h=>by simpa using h
theorem ME {a b:List Int}:Dl a=Dl b↔a.Perm b:=by
 constructor
 .intro h
  exact(I3 a).symm.trans (h ▸ I3 b)
 .intro h
  exact List.Perm.eq_of_pairwise (le:=(· <= ·)) (λ x y _ _ h1 h2=>zy) (MQ a) (MQ b) (((I3 a).trans h).trans (I3 b).symm)
def Ix (g:Gr) (lv:Int) (seeds order w:List Int):Prop :=
 (∃ k,w.head? = some k/\k∈seeds)/\(∀ k∈w,k∈order)/\w.Nodup /\ ∀ i (h:i+1<w.length),IX g lv w[i] w[i+1]
def CC (P:List (List Int)) (k:Int):Nat:=P.countP λ w=>decide (w.head? = some k)
def Bt (P:List (List Int)) (k:Int):Nat:=(P.flatMap List.dropLast).count k
def FS (c:List Int) (P:List (List Int)):Prop:=∀ k (h:k<c.length),(CC P k:Int)<=c[k]/\(Bt P k:Int)<=max 0 (c[k] - 1)
def Cc (P:List (List Int)):List Int:=P.filterMap List.getLast?
def G7 (g:Gr) (lv:Int) (seeds order c:List Int) (P:List (List Int)) (ends:List Int):Prop :=
 (∀ w∈P,Ix g lv seeds order w)/\FS c P/\Dl (Cc P)=Dl ends
def Jv (g:Gr) (lv:Int) (seeds order c:List Int) (P:List (List Int)) (ends:List Int):Prop :=
 P.length=ends.length/\ends.Nodup/\(∀ w∈P,Ix g lv seeds order w)/\(∀ k∈Cc P,k∈ends)/\(Cc P).Nodup/\FS c P
theorem Ix.ne {seeds w:List Int} (h:Ix g lv seeds order w):w≠[]:=by
 rintro rfl
 obtain⟨k,hk,_⟩:=h.1
 cases hk
theorem MP {P:List (List Int)} (h:∀ w∈P,w≠[]):(Cc P).length=P.length:=by
 unfold Cc
 induction P with
 | nil=>rfl
 | cons w P ih =>
   have hw:=h w (Qi ..);rw[Uz,List.getLast?_eq_some_getLast hw];simp only[QV];rw[ih λ x hx=>h x (Qg _ hx)]
theorem VR {seeds c:List Int} {P:List (List Int)} {q:List Int} (hn:q.Nodup):G7 g lv seeds order c P q↔Jv g lv seeds order c P q:=by
 constructor
 .rintro ⟨h1,h2,h3⟩
  have hp:=ME.1 h3;have hl:=MP λ w hw=>(h1 w hw).ne;exact⟨by rw[<- hl,hp.length_eq],hn,h1,λ k hk=>hp.mem_iff.1 hk,hp.nodup_iff.2 hn,h2⟩
 .rintro ⟨h0,_,h1,h2,h3,h4⟩
  have hl:=MP λ w hw=>(h1 w hw).ne;exact⟨h1,h4,ME.2 (Pe h3 h2 zy)⟩
def F1 (order:List Int) (key:Int):List Int:=order.takeWhile λ x=>decide (x≠key)
theorem Sq (x:Int) (o:List Int) (key:Int):F1 (x::o) key=if x=key then [] else x::F1 o key:=by
 unfold F1;rw[List.takeWhile_cons]
 by_cases h:x=key<;>simp[h]
def EM (order l:List Int) (key:Int):Prop:=l.Sublist (F1 order key)
theorem sF (order:List Int) (key:Int):key∉F1 order key:=by
 induction order with
 | nil=>simp[F1]
 | cons x o ih =>
   rw[Sq];split
   .simp
   .rename_i h
    simp only[Qw,not_or];exact⟨λ e=>h e.symm,ih⟩
theorem EM.nodup {l:List Int} {key:Int} (h:EM order l key) (hn:order.Nodup):(l++[key]).Nodup:=by
 rw[Uj];refine⟨(hn.sublist (List.takeWhile_sublist _)).sublist h,zz,λ x hx y hy=>?_⟩
 rw[Qt] at hy;subst hy
 rintro rfl
 exact sF order x (h.subset hx)
theorem gL {k x:Int} {l o:List Int}:(k::l).Sublist (x::o)↔if x=k then l.Sublist o else (k::l).Sublist o:=by
 split
 .rename_i h
  subst h;exact List.cons_sublist_cons
 .rename_i h
  constructor
  .intro hs
   cases hs with
   | cons _ h2=>exact h2
   | cons_cons _ h2=>exact absurd rfl h
  .intro hs
   exact hs.cons _
variable {k:Int} {ks:List Int} {l:List Nat}
structure GZ (A:List Ed) (E:Int->Int->Prop) (seeds aB:List Int) (c:Int->Int):Prop where
 kind:∀ i,i<A.length->(∃ x,x∈seeds/\0<=x/\AH A i=⟨0,2+2*x,c x⟩)∨(∃ x,0<=x/\AH A i=⟨2+2*x,3+2*x,c x - 1⟩)∨(∃ x,x∈aB/\0<=x/\AH A i=⟨2+2*x,1,1⟩)∨(∃ x y,0<=x/\0<=y/\E x y/\AH A i=⟨3+2*x,2+2*y,64⟩)
 uniq:∀ i j,i<A.length->j<A.length->(AH A i).f=(AH A j).f->(AH A i).t=(AH A j).t->i=j
inductive Ea (A:List Ed) (E:Int->Int->Prop) (aB:List Int) (c:Int->Int):Int->List Nat->List Int->Prop
 | last (k:Int) (i:Nat):i<A.length->AH A i=⟨2+2*k,1,1⟩->k∈aB->Ea A E aB c k [i] []
 | more (k y:Int) (i j:Nat) (l:List Nat) (ks:List Int):i<A.length->AH A i=⟨2+2*k,3+2*k,c k - 1⟩->AH A j=⟨3+2*k,2+2*y,64⟩->E k y->0<=y->Ea A E aB c y l ks->Ea A E aB c k (i::j::l) (y::ks)
variable {A:List Ed} {E:Int->Int->Prop} {seeds aB:List Int} {c:Int->Int}
theorem GZ.sinkless (h:GZ A E seeds aB c) {i:Nat} (hi:i<A.length):(AH A i).f≠1:=by
 rcases h.kind i hi with ⟨x,_,hx,e⟩ | ⟨x,hx,e⟩ | ⟨x,_,hx,e⟩ | ⟨x,y,hx,hy,_,e⟩<;>rw[e]<;>simp only<;>omega
theorem GZ.path (h:GZ A E seeds aB c):∀ (n:Nat) (l:List Nat) (k:Int),l.length<=n->0<=k->Bg A (2+2*k) l 1 -> ∃ ks,Ea A E aB c k l ks
 | _,[],k,_,hk,hw=>by
   have:2+2*k=1:=hw;omega
 | n,[i],k,_,hk,hw=>by
   obtain⟨h1,h2,h3⟩:=hw;have q:(AH A i).t=1:=h3;rcases h.kind i h1 with ⟨x,_,hx,e⟩ | ⟨x,hx,e⟩ | ⟨x,hs,hx,e⟩ | ⟨x,y,hx,hy,_,e⟩<;>rw[e] at h2 q<;>simp only at h2 q
   .omega
   .omega
   .have:x=k:=zy
    subst this;exact⟨[],.last _ i h1 e hs⟩
   .omega
 | 0,_::_::_,_,hn,_,_=>by simp at hn
 | n+1,i::j::l,k,hn,hk,hw=>by
   obtain⟨h1,h2,h4,h5,h6⟩:=hw;rcases h.kind i h1 with ⟨x,_,hx,e⟩ | ⟨x,hx,e⟩ | ⟨x,hs,hx,e⟩ | ⟨x,y,hx,hy,_,e⟩
   .rw [e] at h2;simp only at h2;omega
   .rw [e] at h2 h5
    simp only at h2 h5;have:x=k:=zy
    subst this;rcases h.kind j h4 with ⟨z,_,hz,e'⟩ | ⟨z,hz,e'⟩ | ⟨z,hs,hz,e'⟩ | ⟨z,y,hz,hy,hE,e'⟩
    .rw [e'] at h5;simp only at h5;omega
    .rw [e'] at h5;simp only at h5;omega
    .rw [e'] at h5;simp only at h5;omega
    .rw [e'] at h5 h6
     simp only at h5 h6;have:z=x:=zy
     subst this;obtain⟨ks,hp⟩:=h.path n l y (by simp at hn;omega) hy h6
     exact⟨y::ks,.more _ y i j l ks h1 e e' hE hy hp⟩
   .rw [e] at h5
    simp only at h5;exact absurd h5 (h.sinkless h4)
   .rw [e] at h2;simp only at h2;omega
def CI (t:Int):Option Int:=if 2<=t/\t % 2=0 then some ((t - 2) / 2) else none
def B5 (A:List Ed) (l:List Nat):List Int:=(Ai A l).filterMap CI
theorem VA (h:0<=k):CI (2+2*k)=some k:=by
 unfold CI;rw[if_pos ⟨zy,zy⟩]
 congr 1
 omega
theorem qM (k:Int):CI (3+2*k)=none:=if_neg zy
theorem jO:CI 1=none:=if_neg zy
theorem Ea.keys (h:Ea A E aB c k l ks):B5 A l=ks:=by
 induction h with
 | last k i h1 h2 h3 =>
   unfold B5 Ai;rw[Qp,UN,Uz,h2];simp only;rw[jO];rfl
 | more k y i j l ks h1 h2 h3 h4 h5 h6 ih =>
   unfold B5 Ai at ih ⊢;rw[Qp,Qp,Uz,h2];simp only;rw[qM,Uz,h3];simp only;rw[VA h5,ih]
theorem Ea.edges (h:Ea A E aB c k l ks):∀ i (hi:i+1<(k::ks).length),E (k::ks)[i] (k::ks)[i+1]:=by
 induction h with
 | last k i h1 h2 h3=>intro i hi;simp at hi
 | more k y i j l ks h1 h2 h3 h4 h5 h6 ih =>
   intro n hn
   cases n with
   | zero=>exact h4
   | succ n=>exact ih n (by simpa using hn)
theorem Ea.ends (h:Ea A E aB c k l ks):∃ z,(k::ks).getLast? = some z/\z∈aB /\ ∃ i∈l,i<A.length/\AH A i=⟨2+2*z,1,1⟩:=by
 induction h with
 | last k i h1 h2 h3=>exact⟨k,rfl,h3,i,Qt.2 rfl,h1,h2⟩
 | more k y i j l ks h1 h2 h3 h4 h5 h6 ih =>
   obtain⟨z,hz,hs,m,hm,q,u⟩:=ih;exact⟨z,by rw[List.getLast?_cons_cons];exact hz,hs,m,Qg _ (Qg _ hm),q,u⟩
theorem Ea.uses (hu:∀ i j,i<A.length->j<A.length->(AH A i).f=(AH A j).f->(AH A i).t=(AH A j).t->i=j) (h:Ea A E aB c k l ks) {m:Int} {n:Nat} (hn:n<A.length) (hm:AH A n=⟨2+2*m,3+2*m,c m - 1⟩):(k::ks).dropLast.count m<=l.count n:=by
 induction h with
 | last k i h1 h2 h3=>simp
 | more k y i j l ks h1 h2 h3 h4 h5 h6 ih =>
   rw[List.dropLast_cons_of_ne_nil zz,List.count_cons]
   have h7:l.count n<=(j::l).count n:=by rw[List.count_cons];omega
   rw[List.count_cons]
   by_cases hk:k=m
   .subst hk
    have:i=n:=hu i n h1 hn (by rw[h2,hm]) (by rw[h2,hm])
    subst this;simp only[beq_self_eq_true,UM];omega
   .have q:(k == m)=false:=by simpa using hk
    rw[q];simp only[Ue,Uv];omega
theorem Ea.mids (h:Ea A E aB c k l ks) {m:Int} (hm:m∈(k::ks).dropLast):∃ n,n<A.length/\AH A n=⟨2+2*m,3+2*m,c m - 1⟩:=by
 induction h with
 | last k i h1 h2 h3=>simp at hm
 | more k y i j l ks h1 h2 h3 h4 h5 h6 ih =>
   rw[List.dropLast_cons_of_ne_nil zz] at hm
   rcases Qw.1 hm with rfl | hm
   .exact ⟨i,h1,h2⟩
   .exact ih hm
theorem GZ.whole (h:GZ A E seeds aB c) (hw:Bg A 0 l 1):∃ x i l' ks,l=i::l'/\i<A.length/\x∈seeds/\0<=x/\AH A i=⟨0,2+2*x,c x⟩/\Ea A E aB c x l' ks/\B5 A l=x::ks:=by
 cases l with
 | nil=>have:(0:Int)=1:=hw;omega
 | cons i l =>
   obtain⟨h1,h2,h3⟩:=hw;rcases h.kind i h1 with ⟨x,hs,hx,e⟩ | ⟨x,hx,e⟩ | ⟨x,hs,hx,e⟩ | ⟨x,y,hx,hy,_,e⟩
   .rw [e] at h3
    obtain⟨ks,hp⟩:=h.path l.length l x (Qk _) hx h3;refine⟨x,i,l,ks,rfl,h1,hs,hx,e,hp,?_⟩;have hk:=hp.keys;unfold B5 Ai at hk ⊢;rw[Qp,Uz,e];simp only;rw[VA hx,hk]
   .rw [e] at h2;simp only at h2;omega
   .rw [e] at h2;simp only at h2;omega
   .rw [e] at h2;simp only at h2;omega
theorem gP (h:(Ai A l).Nodup):(B5 A l).Nodup:=by
 unfold B5;refine List.Pairwise.filterMap _ (λ a a' u b hb b' q=>?_) h;unfold CI at hb q;split at hb<;>split at q<;>simp at hb q<;>omega
variable {A:List Ed}
def CT (g:List Nat->Nat) (W:List (List Nat)):Nat:=(W.map g).sum
theorem Ox (g:List Nat->Nat) (w:List Nat) (W:List (List Nat)):CT g (w::W)=g w+CT g W:=by simp[CT]
theorem sQ {l:List Int} (h:∀ x,l.count x<=1):l.Nodup:=by
 induction l with
 | nil=>exact List.nodup_nil
 | cons x l ih =>
   rw[Q1];refine⟨λ hm=>?_,ih λ y=>?_⟩
   .have h1:=h x
    rw[List.count_cons_self] at h1;have h2:=List.count_pos_iff.2 hm;omega
   .have h1:=h y
    rw[List.count_cons] at h1;omega
theorem VT {A:List Ed} {n:Nat} {k:Int}:∀ {W:List (List Nat)},(∀ w∈W,(B5 A w).head? = some k->1<=w.count n)->CC (W.map (B5 A)) k<=CT (List.count n) W
 | [],_=>by simp[CC,CT]
 | w::W,h=>by
   have ih:=VT (n:=n) (k:=k) λ x hx=>h x (Qg w hx);have h1:=h w (Qi ..);unfold CC at ih ⊢;rw[Qp,List.countP_cons,Ox]
   by_cases hk:(B5 A w).head? = some k
   .have:=h1 hk
    simp only[hk,decide_true,UM];omega
   .simp only[hk,decide_false,Ue,Uv]
    omega
theorem XO {A:List Ed} {k:Int}:∀ {W:List (List Nat)},CC (W.map (B5 A)) k=0 ∨ ∃ w∈W,(B5 A w).head? = some k
 | []=>.inl rfl
 | w::W=>by
   by_cases hk:(B5 A w).head? = some k
   .exact .inr ⟨w,Qi ..,hk⟩
   .rcases XO (A:=A) (k:=k) (W:=W) with h | ⟨x,hx,hx2⟩
    .left
     unfold CC at h ⊢;rw[Qp,List.countP_cons,h];simp[hk]
    .exact .inr ⟨x,Qg _ hx,hx2⟩
theorem Tq {A:List Ed} {n:Nat} {k:Int}:∀ {W:List (List Nat)},(∀ w∈W,(B5 A w).dropLast.count k<=w.count n)->Bt (W.map (B5 A)) k<=CT (List.count n) W
 | [],_=>by simp[Bt,CT]
 | w::W,h=>by
   have ih:=Tq (n:=n) (k:=k) λ x hx=>h x (Qg w hx);have h1:=h w (Qi ..);unfold Bt at ih ⊢;rw[Qp,U4,UV,Ox];omega
theorem V7 {A:List Ed} {k:Int}:∀ {W:List (List Nat)},Bt (W.map (B5 A)) k=0 ∨ ∃ w∈W,k∈(B5 A w).dropLast
 | []=>.inl rfl
 | w::W=>by
   by_cases hk:k∈(B5 A w).dropLast
   .exact .inr ⟨w,Qi ..,hk⟩
   .rcases V7 (A:=A) (k:=k) (W:=W) with h | ⟨x,hx,hx2⟩
    .left
     unfold Bt at h ⊢;rw[Qp,U4,UV,h,List.count_eq_zero.2 hk]
    .exact .inr ⟨x,Qg _ hx,hx2⟩
theorem TW {A:List Ed} {n:Nat} {k:Int}:∀ {W:List (List Nat)},(∀ w∈W,(B5 A w).getLast? = some k->1<=w.count n)->(Cc (W.map (B5 A))).count k<=CT (List.count n) W
 | [],_=>by simp[Cc,CT]
 | w::W,h=>by
   have ih:=TW (n:=n) (k:=k) λ x hx=>h x (Qg w hx);have h1:=h w (Qi ..);unfold Cc at ih ⊢;rw[Qp,Uz,Ox]
   cases hl:(B5 A w).getLast? with
   | none=>simp only;omega
   | some z =>
     simp only[List.count_cons]
     by_cases hz:z=k
     .subst hz
      have:=h1 hl;simp only[beq_self_eq_true,UM];omega
     .have:(z == k)=false:=by simpa using hz
      rw[this];simp only[Ue,Uv];omega
theorem fD {E:Int->Int->Prop} {seeds aB:List Int} {cl:List Int} {f:List Int} {W:List (List Nat)} (hk:GZ A E seeds aB λ x=>cl.getD x.toNat 0) (hf:Bm A f) (hw:∀ w∈W,Bg A 0 w 1/\(Ai A w).Nodup) (hs:∀ i,i<A.length->(CT (List.count i) W:Int)<=f.getD i 0) (hc:∀ x∈cl,0<=x) :
  FS cl (W.map (B5 A))/\(Cc (W.map (B5 A))).Nodup/\(∀ k∈Cc (W.map (B5 A)),k∈aB) /\
  ∀ p∈W.map (B5 A),(∃ k,p.head? = some k/\k∈seeds)/\p.Nodup /\ ∀ i (h:i+1<p.length),E p[i] p[i+1]:=by
 have h4:=(GX.1 hf).2
 have h0:∀ w∈W,∃ z,(B5 A w).getLast? = some z/\z∈aB /\ ∃ i∈w,i<A.length/\AH A i=⟨2+2*z,1,1⟩:=λ w q=>by
  obtain⟨x,i,l',ks,rfl,hi,h5,h8,he,hp,u⟩:=hk.whole (hw w q).1;obtain⟨z,hz,hv,m,hm,hx,a0⟩:=hp.ends;exact⟨z,by rw[u];exact hz,hv,m,Qg _ hm,hx,a0⟩
 refine⟨λ k h9=>⟨?_,?_⟩,sQ λ z=>?_,λ z hz=>?_,λ p hp=>?_⟩
 .have ho:=hc _ (Qj h9)
  have ha:cl.getD k 0=cl[k]:=by rw[Qe,Qa h9,QO]
  rcases XO (A:=A) (k:=(k:Int)) (W:=W) with h | ⟨w,q,hh⟩
  .rw [h];exact ho
  .obtain ⟨x,i,l',ks,rfl,hi,h5,h8,he,hp,u⟩:=hk.whole (hw w q).1
   rw[u] at hh;have a1:x=k:=Qc hh;subst a1
   have h1:=VT (A:=A) (n:=i) (k:=(k:Int)) (W:=W) λ v h6 hq=>by
    obtain⟨y,j,l2,ks2,rfl,hj,_,_,hb,_,h7⟩:=hk.whole (hw v h6).1;rw[h7] at hq;have a2:y=k:=Qc hq;have:j=i:=hk.uniq j i hj hi (by rw[hb,he]) (by rw[hb,he,a2])
    subst this;rw[List.count_cons_self];omega
   have h2:=hs i hi;have h3:=(h4 i hi).2;rw[he] at h3;simp only[U5] at h3;rw[ha] at h3;omega
 .have ho:=hc _ (Qj h9)
  have ha:cl.getD k 0=cl[k]:=by rw[Qe,Qa h9,QO]
  rcases V7 (A:=A) (k:=(k:Int)) (W:=W) with h | ⟨w,q,hh⟩
  .rw [h];omega
  .obtain ⟨x,i,l',ks,rfl,hi,h5,h8,he,hp,u⟩:=hk.whole (hw w q).1
   rw[u] at hh;obtain⟨n,hn,hr⟩:=hp.mids hh
   have h1:=Tq (A:=A) (n:=n) (k:=(k:Int)) (W:=W) λ v h6=>by
    obtain⟨y,j,l2,ks2,rfl,hj,_,_,hb,a3,h7⟩:=hk.whole (hw v h6).1;rw[h7,List.count_cons];have:=a3.uses hk.uniq hn hr;omega
   have h2:=hs n hn;have h3:=(h4 n hn).2;rw[hr] at h3;simp only[U5] at h3;rw[ha] at h3;omega
 .by_cases hz:z∈Cc (W.map (B5 A))
  .obtain ⟨p,hp,hd⟩:=U2.1 hz
   obtain⟨w,q,rfl⟩:=Qh.1 hp;obtain⟨y,hy,ht,i,a6,hi,hg⟩:=h0 w q;rw[hd] at hy;have hl:z=y:=Qc hy;subst hl
   have h1:=TW (A:=A) (n:=i) (k:=z) (W:=W) λ v h6 a4=>by
    obtain⟨y,hy,_,j,a5,hj,hu⟩:=h0 v h6;rw[a4] at hy;have hl:z=y:=Qc hy;have:j=i:=hk.uniq j i hj hi (by rw[hu,hg,hl]) (by rw[hu,hg])
    subst this;exact List.count_pos_iff.2 a5
   have h2:=hs i hi;have h3:=(h4 i hi).2;rw[hg] at h3;simp only at h3;omega
  .rw [List.count_eq_zero.2 hz]
   omega
 .obtain ⟨p,hp,hd⟩:=U2.1 hz
  obtain⟨w,q,rfl⟩:=Qh.1 hp;obtain⟨y,hy,ht,_⟩:=h0 w q;rw[hd] at hy;rw[Qc hy];exact ht
 .obtain ⟨w,q,rfl⟩:=Qh.1 hp
  refine⟨?_,gP (hw w q).2,?_⟩
  .obtain ⟨x,i,l',ks,rfl,hi,h5,h8,he,hp,u⟩:=hk.whole (hw w q).1
   exact⟨x,by rw[u];rfl,h5⟩
  .obtain ⟨x,i,l',ks,rfl,hi,h5,h8,he,hp,u⟩:=hk.whole (hw w q).1
   have:=hp.edges;intro n hn;simp only[u] at hn ⊢;exact this n hn
theorem mS (l:List Ed) (key:Int):(Av l key).length=l.countP λ e=>decide (e.f=key):=by
 induction l with
 | nil=>rfl
 | cons e l ih =>
   unfold Av at *
   by_cases h:e.f=key<;>simp[h,ih]
theorem AG.fits {g:Gr} (h:AG g):∀ e∈g.edges,BS g e:=by
 intro e he;obtain⟨i,hi,rfl⟩:=QA.1 he;exact(h.2 i hi).1
theorem LM.rfl' (a:Gr):LM a a:=⟨rfl,rfl,rfl⟩
abbrev Dx (l:List Int):List Int:=l.mergeSort λ x y=>decide (x<=y)
theorem IN (l:List Int):(Dx l).length=l.length:=List.length_mergeSort ..
theorem kE {l:List Int} {x:Int}:x∈Dx l↔x∈l:=List.mem_mergeSort
theorem AG.pair {g:Gr} (h:AG g):g.edges.Pairwise CD:=by
 rw[QM];intro i j hi hj q;exact h.lt j i hi hj q
theorem Jg {st st':St} {i j:Nat} {sn:List Nat} {e e':AD} (q:st'.sz=st.sz) (hh:st'.h=[(j,some e')]) (hj:j<st'.n) (hs:∀ k∈sn,k≠i) (he:st.hp i=some e) (u:Ab [(i,j)] sn st.hp 4 e=e') (hr:e'.ro<=e'.rows.length) (ht:∀ p∈st'.t,Wk (conv [(i,j)] sn st.hp 4 (st.get p.1)) p.2):Le 0 st st' :=
 Le.ents [(i,j)] sn q zz zz (by simpa using hj) (by simpa using hs) (Qn _) ht (λ p hp=>by
  rw[hh] at hp;simp at hp;subst hp
  exact⟨i,e,e',rfl,zz,he,An.eq u hr⟩)
end Go.Proofs.YtnaemfpgdmfmcaaGreatDoor
