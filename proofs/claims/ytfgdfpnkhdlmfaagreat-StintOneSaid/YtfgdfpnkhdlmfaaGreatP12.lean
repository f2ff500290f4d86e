/-
 The laws of the stints of a common hold at every input, without any condition.
-/
import Derived.Deep.RegionHeld3
import Derived.KernelRfl
import Derived.Laws.Externs
import Derived.LoopN
import Derived.OpenShut
import Derived.ProofKit
import Derived.Shelf.SlSortCmp.NoneTotal
import Derived.Shelf.Slices.In.SortNone
import Derived.Shelf.SlicesG.Cmp
import Derived.Shelf.Sort.Plain
import Derived.SizedLaws
import Derived.Sort.OwnSortedInts
import Derived.Test.YtfgdfpnkhdlmfaaGreatProg
import Derived.Test.YtfgdfpnkhdlmfaaGreatRows
import Derived.Test.YtfgdfpnkhdlmfaaGreatP11
set_option linter.unusedVariables false
set_option linter.unusedSimpArgs false
namespace Go.Proofs.YtfgdfpnkhdlmfaaGreat
open Go Go.Sx Go.Stint
set_option maxRecDepth 10000
theorem aHP {ds:List Dd} (h:∀ x∈ds,x.ok=true):Days ds:=fun x hx=>by
 have:=h x hx;unfold Dd.ok at this;grind [within]
theorem oC (l:List Dd) (d:Int):(aD leD l).filter (onD d)=l.filter (onD d):=(dJ l).2 d
section
variable {M:Den} (jx:∀ (A B C:List Dd) (a b:Int),a=A.length->b=((A.length+B.length:Nat):Int)->Days (A++B++C)->(A++B++C).length<=1000->M 216 [.row 13 ((A++B++C).map Dd.cv),.fn 56 [],ci a,ci b,.fn 172 []]=some [.row 13 ((A++aD leD B++C).map Dd.cv),cb false])
 (lq:∀ (A X Y C:List Dd) (a m b:Int),Mg A X Y C a m b->M 217 [.row 13 ((A++X++Y++C).map Dd.cv),.fn 56 [],ci a,ci m,ci b,.fn 172 []]=some [.row 13 ((A++aD leD (X++Y)++C).map Dd.cv),cb false])
include lq in
theorem aJo {x:List Dd} (A X Y C:List Dd) {a m b:Int} (hx:x=A++X++Y++C) (hX:fX X) (hY:fX Y) (Eb:X≠[]) (Ea:Y≠[]) (ha:a=A.length) (hm:m=((A.length+X.length:Nat):Int)) (hb:b=((A.length+X.length+Y.length:Nat):Int)) (hd:Days x) (hl:x.length<=1000):M 217 [.row 13 (x.map Dd.cv),.fn 56 [],ci a,ci m,ci b,.fn 172 []]=some [.row 13 ((A++aD leD (X++Y)++C).map Dd.cv),cb false]:=by
 subst hx;exact lq A X Y C a m b ⟨Eb,Ea,hX,hY,hd,by grind,ha,hm,hb⟩
include jx
theorem aDe {x:List Dd} (A B C:List Dd) {a b:Int} (hx:x=A++B++C) (ha:a=A.length) (hb:b=((A.length+B.length:Nat):Int)) (hd:Days x) (hl:x.length<=1000):M 216 [.row 13 (x.map Dd.cv),.fn 56 [],ci a,ci b,.fn 172 []]=some [.row 13 ((A++aD leD B++C).map Dd.cv),cb false]:=by
 grind
include lq in
theorem aDf (l:List Dd) (hd:Days l) (hl:l.length<=60):aFL M (l.map Dd.cv)=some (.ret [.row 13 ((aD leD l).map Dd.cv)]):=by
 have hp:∀ x:List Dd,(aD leD x).length=x.length:=fun x=>(aU leD x).length_eq
 have aq:il (l.map Dd.cv)=(l.length:Int):=by rw [TM,List.length_map]
 have Hy:wr (2*20:Int)=40:=by decide
 have Hz:wr (2*40:Int)=80:=by decide
 have w1:wr ((20:Int)+20)=40:=by decide
 have w2:wr ((40:Int)+20)=60:=by decide
 have w3:wr ((60:Int)+20)=80:=by decide
 have w4:wr ((0:Int)+20)=20:=by decide
 have w5:wr ((20:Int)*2)=40:=by decide
 have w6:wr ((40:Int)*2)=80:=by decide
 have w7:wr ((40:Int)+40)=80:=by decide
 have w8:wr ((0:Int)+40)=40:=by decide
 unfold aFL;simp only [aq]
 by_cases c0:l.length<20
 ·rw [bH (r:=some (.br 0 [ci 0,.row 13 (l.map Dd.cv)])) (by
   grind [aQ,eL,dZ,bW,decide_false,aX]) (by simp)]
  simp;rw [aDe jx (a:=0) (b:=(l.length:Int)) [] l [] (by simp) rfl (by simp) hd (by omega),aC,pL,aJ]
  rw [bH (r:=some (.br 2 [.row 13 ((aD leD l).map Dd.cv)])) (by
   grind [aQ,eL,dZ,bW,decide_false,aX]) (by simp)]
  rfl
 ·obtain ⟨B1,B,uq,xu⟩:∃ B1 B:List Dd,l=B1++B/\B1.length=20:=⟨l.take 20,l.drop 20,(List.take_append_drop _ _).symm,by rw [List.length_take];omega⟩
  have s1:(aD leD B1).length=20:=by rw [hp,xu]
  have n1:l.length=20+B.length:=by grind
  have ia:(20:Int)<=(l.length:Int):=by omega
  have d1:Days (aD leD B1++B):=by rw [uq] at hd;exact hd.perm ((aU leD B1).append_right B)
  have e1:aD leD B1≠[]:=List.length_pos_iff.1 (by omega)
  have q1:M 216 [.row 13 (l.map Dd.cv),.fn 56 [],ci 0,ci 20,.fn 172 []]=some [.row 13 ((aD leD B1++B).map Dd.cv),cb false]:=by
   rw [aDe jx (a:=0) (b:=20) [] B1 B (by rw [uq];simp) rfl (by simp [xu]) hd (by omega)];rfl
  rw [eB (vs':=[ci 20,ci 40,.row 13 ((aD leD B1++B).map Dd.cv)]) (by
   simp only [aQ,eL,dZ,bW,ia,decide_true,bE,q1,aC,pL,aJ,w1])]
  by_cases c1:B.length<20
  ·have C5:¬((40:Int)<=(l.length:Int)):=by omega
   rw [bH (r:=some (.br 0 [ci 20,.row 13 ((aD leD B1++B).map Dd.cv)])) (by
    simp only [aQ,eL,dZ,bW,C5,decide_false,aX]) (by simp)]
   have q2:M 216 [.row 13 ((aD leD B1++B).map Dd.cv),.fn 56 [],ci 20,ci (l.length:Int),.fn 172 []]=some [.row 13 ((aD leD B1++aD leD B).map Dd.cv),cb false]:=by
    rw [aDe jx (a:=20) (b:=(l.length:Int)) (aD leD B1) B [] (by simp) (by rw [s1];rfl) (by rw [s1,n1]) d1 (by grind),List.append_nil]
   simp only [cP,aQ,dZ,bW,q2,aC,pL,aJ]
   by_cases c2:B.length=0
   ·have hB:B=[]:=List.length_eq_zero_iff.1 c2
    subst hB
    rw [bH (r:=some (.br 2 [.row 13 ((aD leD B1++aD leD []).map Dd.cv)])) (by
     simp_all) (by simp)]
    rw [uq];simp [aD]
   ·have Cx:(20:Int)<(l.length:Int):=by omega
    have q3:M 217 [.row 13 ((aD leD B1++aD leD B).map Dd.cv),.fn 56 [],ci 0,ci 20,ci (l.length:Int),.fn 172 []]=some [.row 13 ((aD leD l).map Dd.cv),cb false]:=by
     rw [aJo lq (a:=0) (m:=20) (b:=(l.length:Int)) [] (aD leD B1) (aD leD B) [] (by simp) (dJ B1).1 (dJ B).1 e1 (List.length_pos_iff.1 (by rw [hp];omega)) rfl (by simp [s1]) (by simp [s1,hp,n1])
      (by rw [uq] at hd;exact hd.perm ((aU leD B1).append (aU leD B))) (by rw [List.length_append,s1,hp];omega)]
     rw [List.nil_append,List.append_nil,zO (m:=l) fun d=>by rw [List.filter_append,oC,oC,uq,List.filter_append]]
    rw [eB (vs':=[ci 40,.row 13 ((aD leD l).map Dd.cv)]) (by
     simp only [aQ,eL,dZ,bW,Cx,decide_true,bE,Hy]
     rw [bH (r:=some (.br 4 [ci 0,.row 13 ((aD leD B1++aD leD B).map Dd.cv)])) (by
      simp only [aQ,eL,dZ,bW,C5,decide_false,aX]) (by simp)]
     simp only [cP,aQ,dZ,bW,w4,Cx,decide_true,bE,q3,aC,pL,aJ,bC,w5])]
    rw [bH (r:=some (.br 2 [.row 13 ((aD leD l).map Dd.cv)])) (by
     grind [aQ,eL,dZ,bW,decide_false,aX]) (by simp)]
    rfl
  ·obtain ⟨B2,B3,hB,H1⟩:∃ B2 B3:List Dd,B=B2++B3/\B2.length=20:=⟨B.take 20,B.drop 20,(List.take_append_drop _ _).symm,by rw [List.length_take];omega⟩
   subst hB;have s2:(aD leD B2).length=20:=by rw [hp,H1]
   have n2:l.length=40+B3.length:=by grind
   have sm:(40:Int)<=(l.length:Int):=by omega
   have e2:aD leD B2≠[]:=List.length_pos_iff.1 (by omega)
   have d2:Days (aD leD B1++aD leD B2++B3):=by
    rw [uq,<- List.append_assoc] at hd;exact hd.perm (((aU leD B1).append (aU leD B2)).append_right B3)
   have q2:M 216 [.row 13 ((aD leD B1++(B2++B3)).map Dd.cv),.fn 56 [],ci 20,ci 40,.fn 172 []]=some [.row 13 ((aD leD B1++aD leD B2++B3).map Dd.cv),cb false]:=
    aDe jx (aD leD B1) B2 B3 (by simp only [List.append_assoc]) (by rw [s1];rfl) (by rw [s1,H1];rfl) d1 (by simp only [List.length_append,s1,H1];omega)
   rw [eB (vs':=[ci 40,ci 60,.row 13 ((aD leD B1++aD leD B2++B3).map Dd.cv)]) (by
    simp only [aQ,eL,dZ,bW,sm,decide_true,bE,q2,aC,pL,aJ,w2])]
   have s3:(aD leD B3).length=B3.length:=hp B3
   have d3:Days (aD leD B1++aD leD B2++aD leD B3):=by
    rw [uq,<- List.append_assoc] at hd;exact hd.perm (((aU leD B1).append (aU leD B2)).append (aU leD B3))
   have q3:M 216 [.row 13 ((aD leD B1++aD leD B2++B3).map Dd.cv),.fn 56 [],ci 40,ci (l.length:Int),.fn 172 []]=some [.row 13 ((aD leD B1++aD leD B2++aD leD B3).map Dd.cv),cb false]:=by
    rw [aDe jx (a:=40) (b:=(l.length:Int)) (aD leD B1++aD leD B2) B3 [] (by simp) (by grind) (by grind) d2 (by grind),List.append_nil]
   have bj:∀ (K:List CV->Option Ou),(cD 0 (aL (fun v2=>aA (decide ((gi v2 1)<=(l.length:Int))) (aB (M 216 ([CV.row 13 (gr v2 2),CV.fn 56 [],ci (gi v2 0),ci (gi v2 1),CV.fn 172 []])) fun v3=>chk (pG 13 false v3)<|some (.nx [ci (gi v2 1),ci (wr ((gi v2 1)+20)),CV.row 13 (gr v3 0)])) (some (.br 0 [ci (gi v2 0),CV.row 13 (gr v2 2)]))) [ci 40,ci 60,.row 13 ((aD leD B1++aD leD B2++B3).map Dd.cv)]) fun v2=>aB (M 216 ([CV.row 13 (gr v2 1),CV.fn 56 [],ci (gi v2 0),ci (l.length:Int),CV.fn 172 []])) fun v3=>chk (pG 13 false v3)<|K v3)=K [.row 13 ((aD leD B1++aD leD B2++aD leD B3).map Dd.cv),cb false]:=by
    intro K
    by_cases c3:B3.length<20
    ·rw [bH (r:=some (.br 0 [ci 40,.row 13 ((aD leD B1++aD leD B2++B3).map Dd.cv)])) (by
      have h0:¬((60:Int)<=(l.length:Int)):=by omega
      simp [h0]) (by simp)]
     simp only [cP,aQ,dZ,bW,q3,aC,pL,aJ]
    ·have zu:((l.length:Nat):Int)=60:=by omega
     rw [zu] at q3 ⊢
     have q4:M 216 [.row 13 ((aD leD B1++aD leD B2++aD leD B3).map Dd.cv),.fn 56 [],ci 60,ci 60,.fn 172 []]=some [.row 13 ((aD leD B1++aD leD B2++aD leD B3).map Dd.cv),cb false]:=by
      rw [aDe jx (a:=60) (b:=60) (aD leD B1++aD leD B2++aD leD B3) [] [] (by simp) (by simp_all) (by simp_all) d3 (by simp only [List.length_append,s1,s2,s3];omega)]
      simp [aD]
     rw [eB (vs':=[ci 60,ci 80,.row 13 ((aD leD B1++aD leD B2++aD leD B3).map Dd.cv)]) (by
      have h0:(60:Int)<=60:=by omega
      simp only [aQ,eL,dZ,bW,h0,decide_true,bE,q3,aC,pL,aJ,w3])]
     rw [bH (r:=some (.br 0 [ci 60,.row 13 ((aD leD B1++aD leD B2++aD leD B3).map Dd.cv)])) (by
      rfl) (by simp)]
     simp only [cP,aQ,dZ,bW,q4,aC,pL,aJ]
   rw [bj];simp only [bW];have Cx:(20:Int)<(l.length:Int):=by omega
   have p12:((aD leD (aD leD B1++aD leD B2))++aD leD B3).Perm l:=by
    rw [uq,<- List.append_assoc];exact (((aU leD _).trans ((aU leD B1).append (aU leD B2)))).append (aU leD B3)
   have s12:(aD leD (aD leD B1++aD leD B2)).length=40:=by rw [hp,List.length_append,s1,s2]
   have q5:M 217 [.row 13 ((aD leD B1++aD leD B2++aD leD B3).map Dd.cv),.fn 56 [],ci 0,ci 20,ci 40,.fn 172 []]=some [.row 13 ((aD leD (aD leD B1++aD leD B2)++aD leD B3).map Dd.cv),cb false]:=by
    rw [aJo lq (a:=0) (m:=20) (b:=40) [] (aD leD B1) (aD leD B2) (aD leD B3) (by simp) (dJ B1).1 (dJ B2).1 e1 e2 rfl (by simp [s1]) (by simp [s1,s2]) d3 (by grind),List.nil_append]
   rw [eB (vs':=[ci 40,.row 13 ((aD leD (aD leD B1++aD leD B2)++aD leD B3).map Dd.cv)]) (by
    simp only [aQ,eL,dZ,bW,Cx,decide_true,bE,Hy]
    rw [eB (vs':=[ci 40,ci 80,.row 13 ((aD leD (aD leD B1++aD leD B2)++aD leD B3).map Dd.cv)]) (by
     simp only [aQ,eL,dZ,bW,sm,decide_true,bE,w4,q5,aC,pL,aJ,Hy,w7])]
    rw [bH (r:=some (.br 4 [ci 40,.row 13 ((aD leD (aD leD B1++aD leD B2)++aD leD B3).map Dd.cv)])) (by
     have h0:¬((80:Int)<=(l.length:Int)):=by omega
     simp [h0]) (by simp)]
    have nl:¬((60:Int)<(l.length:Int)):=by omega
    simp only [cP,aQ,dZ,bW,w2,nl,decide_false,aX,bC,w5])]
   by_cases c4:B3.length=0
   ·have Gx:B3=[]:=List.length_eq_zero_iff.1 c4
    subst Gx
    rw [bH (r:=some (.br 2 [.row 13 ((aD leD (aD leD B1++aD leD B2)++aD leD []).map Dd.cv)])) (by
     simp_all) (by simp)]
    have:aD leD (aD leD B1++aD leD B2)++aD leD []=aD leD l:=by
     rw [show aD leD ([]:List Dd)=[] from rfl,List.append_nil,zO (m:=l) fun d=>by grind [oC]]
    rw [this];rfl
   ·have C5:(40:Int)<(l.length:Int):=by omega
    have q6:M 217 [.row 13 ((aD leD (aD leD B1++aD leD B2)++aD leD B3).map Dd.cv),.fn 56 [],ci 0,ci 40,ci (l.length:Int),.fn 172 []]=some [.row 13 ((aD leD l).map Dd.cv),cb false]:=by
     rw [aJo lq (a:=0) (m:=40) (b:=(l.length:Int)) [] (aD leD (aD leD B1++aD leD B2)) (aD leD B3) [] (by simp) (dJ _).1 (dJ B3).1 (List.length_pos_iff.1 (by omega)) (List.length_pos_iff.1 (by omega)) rfl (by simp [s12]) (by simp [s12,s3,n2]) (hd.perm p12) (by rw [List.length_append,s12,s3];omega)]
     rw [List.nil_append,List.append_nil,zO (m:=l) fun d=>by rw [List.filter_append,oC,oC,List.filter_append,oC,oC,uq,<- List.append_assoc,List.filter_append,List.filter_append]]
    rw [eB (vs':=[ci 80,.row 13 ((aD leD l).map Dd.cv)]) (by
     simp only [aQ,eL,dZ,bW,C5,decide_true,bE,Hz]
     rw [bH (r:=some (.br 4 [ci 0,.row 13 ((aD leD (aD leD B1++aD leD B2)++aD leD B3).map Dd.cv)])) (by
      have h0:¬((80:Int)<=(l.length:Int)):=by omega
      simp only [aQ,eL,dZ,bW,h0,decide_false,aX]) (by simp)]
     simp only [cP,aQ,dZ,bW,w8,C5,decide_true,bE,q6,aC,pL,aJ,bC,w6])]
    rw [bH (r:=some (.br 2 [.row 13 ((aD leD l).map Dd.cv)])) (by
     have h0:¬((80:Int)<(l.length:Int)):=by omega
     simp only [aQ,eL,dZ,bW,h0,decide_false,aX]) (by simp)]
    rfl
end
theorem EE (x:Dd):aS 13 1 x.cv=[x.cv]:=by simp [List.take_of_length_le (show x.cv.length<=13 by simp)]
theorem aFM (ds:List Dd) (day:Int) (j:Nat) (hj:j<ds.length):gD ds day [(j:Int)]=if ds[j].kind=0 then [] else if ds[j].day<=day then [ds[j]] else []:=by
 unfold gD;simp only [List.filterMap_cons,List.filterMap_nil,Int.toNat_natCast,List.getElem?_eq_getElem hj,Option.bind_some]
 by_cases h1:ds[j].kind=0
 ·simp [h1]
 ·by_cases h2:ds[j].day<=day <;> simp [h1,h2]
theorem aFN (ds:List Dd) (day:Int) (a b:List Int):gD ds day (a++b)=gD ds day a++gD ds day b:=List.filterMap_append
theorem FF (ds:List Dd) (d:Int) (is:List Int) (h:∀ i∈is,0<=i/\i<ds.length) (hl:is.length<=1000):aFK (ds.map Dd.cv) d (ints is)=some (.br 0 [.row 13 ((gD ds d is).map Dd.cv)]):=by
 unfold aFK;rw [bZ is.length (fun i=>[ci (i:Int),.row 13 ((gD ds d (is.take i)).map Dd.cv)]) (some (.br 0 [.row 13 ((gD ds d is).map Dd.cv)])) ?hv (fun i hi=>?hs) ?he (by simp)]
 case hv=>simp [gD]
 case he =>
  have h0:¬((is.length:Int)<il (ints is)):=by rw [rA];omega
  simp only [aQ,dZ,bW,h0,decide_false,aX,List.take_length]
 case hs =>
  have h0:(i:Int)<il (ints is):=by rw [rA];omega
  obtain ⟨j,hj⟩:∃ j:Nat,is[i]=(j:Int):=⟨is[i].toNat,by have:=(h _ (List.getElem_mem hi)).1;omega⟩
  have bu:j<ds.length:=by have:=(h _ (List.getElem_mem hi)).2;omega
  have yh:oks [li] [ci (j:Int)] 0=true:=rfl
  have bq:(gD ds d (is.take i)).length<=1000:=by
   have:(gD ds d (is.take i)).length<=(is.take i).length:=List.length_filterMap_le _ _;rw [List.length_take] at this;omega
  have ck:cJ ((gD ds d (is.take i)).map Dd.cv).length 1 104=true:=dE (by rw [List.length_map];omega) (by rw [List.length_map];omega)
  have k2:gi ds[j].cv 2=ds[j].kind:=rfl;have k3:gi ds[j].cv 3=ds[j].day:=rfl
  have ak:gD ds d (is.take (i+1))=gD ds d (is.take i)++(if ds[j].kind=0 then [] else if ds[j].day<=d then [ds[j]] else []):=by
   rw [cK hi,aFN,hj,aFM ds d j bu]
  rw [ak];simp only [aQ,dZ,bW,h0,decide_true,bE,kF hi,mZ hi,hj,yh,aJ,aG bu,aM bu,ddO,k2,k3,bG (show i<9223372036854775807 by omega)]
  by_cases h1:ds[j].kind=0
  ·have:(ds[j].kind != 0)=false:=by rw [h1];rfl
   rw [if_pos h1];simp only [this,aX,bC,fK,List.append_nil,bW]
  ·have:(ds[j].kind != 0)=true:=by simp [h1]
   by_cases h2:ds[j].day<=d
   ·simp only [this,bE,bC,fK,h1,if_false,h2,decide_true,if_true,ck,aJ,ddC,EE,bW,List.map_append,List.map_cons,List.map_nil]
   ·simp only [this,bE,bC,fK,h1,if_false,h2,decide_false,aX,bW,List.append_nil]
theorem aFO (ds:List Dd) (k:Int):∀ i∈dV ds k,0<=i/\i<ds.length:=by
 have:∀ (l:List (Nat×Dd)) (s:(Int×Int->Bool)×List Int),(∀ e∈l,e.1<ds.length)->(∀ i∈s.2,0<=i/\i<(ds.length:Int))->∀ i∈(l.foldl (dN k) s).2,0<=i/\i<(ds.length:Int):=by
  intro l
  induction l with
  | nil=>intro s _ h;exact h
  | cons e l ih =>
   intro s h1 h2;rw [List.foldl_cons];refine ih _ (fun x hx=>h1 x (by simp [hx])) ?_
   unfold dN;split
   ·exact h2
   ·intro i hi
    simp only [List.mem_append,List.mem_singleton] at hi;rcases hi with hi | rfl
    ·exact h2 i hi
    ·have:=h1 e (by simp);omega
 intro i hi;unfold dV at hi;rw [List.mem_reverse] at hi;exact this (eM ds) _ (fun e he=>(RI he).1) (by simp) i hi
theorem RS (ds:List Dd) (k:Int):(dV ds k).length<=ds.length:=by
 unfold dV;rw [List.length_reverse]
 have:∀ (l:List (Nat×Dd)) (s:(Int×Int->Bool)×List Int),(l.foldl (dN k) s).2.length<=s.2.length+l.length:=by
  intro l
  induction l with
  | nil=>intro s;simp
  | cons e l ih =>
   intro s;rw [List.foldl_cons];have h1:=ih (dN k s e)
   have h2:(dN k s e).2.length<=s.2.length+1:=by
    unfold dN;split <;> simp
   simp only [List.length_cons];omega
 have:=this (eM ds) (fun _=>false,[])
 rw [qE] at this;simpa using this
theorem aFP (ds:List Dd) (d:Int) (is:List Int):∀ x∈gD ds d is,x∈ds:=by
 intro x hx;unfold gD at hx;rw [List.mem_filterMap] at hx;obtain ⟨i,-,h⟩:=hx;cases hg:ds[i.toNat]? with
 | none=>rw [hg] at h;simp at h
 | some y =>
  rw [hg] at h;simp only [Option.bind_some] at h;split at h
  ·cases h
  ·split at h
   ·cases h;exact List.mem_of_getElem? hg
   ·cases h
theorem aDg {M:Den} {l:Nat} {yf:YF} (c:Cm) (day k:Int) (hl:c.ds.length<=60) (aa:∀ x∈c.ds,x.ok=true)
  (H4:M 110 [.row 3 (c.ps.map Pas.cv),.row 13 (c.bl.map By.cv),.row 13 (c.ds.map Dd.cv),ci k]=some [.row 1 (ints (dV c.ds k))])
  (jx:∀ (A B C:List Dd) (a b:Int),a=A.length->b=((A.length+B.length:Nat):Int)->Days (A++B++C)->(A++B++C).length<=1000->M 216 [.row 13 ((A++B++C).map Dd.cv),.fn 56 [],ci a,ci b,.fn 172 []]=some [.row 13 ((A++aD leD B++C).map Dd.cv),cb false])
  (lq:∀ (A X Y C:List Dd) (a m b:Int),Mg A X Y C a m b->M 217 [.row 13 ((A++X++Y++C).map Dd.cv),.fn 56 [],ci a,ci m,ci b,.fn 172 []]=some [.row 13 ((A++aD leD (X++Y)++C).map Dd.cv),cb false])
  (es es':List (List CV)) (hR:tI ((gE c.ds day k).map Dd.cv) yf es=some es'):aAP (withY M l shD yf) l (c.ps.map Pas.cv) (c.bl.map By.cv) (c.ds.map Dd.cv) day k es=some (.ret [.row 0 es']):=by
 have ax:∀ f vs,f≠ghT->withY M l shD yf f vs=M f vs:=fun f vs hf=>by unfold withY;rw [if_neg hf]
 have hy:∀ es x,withY M l shD yf 1048576 (CV.val (.func (.yield l) #[] #[])::CV.row 0 [[dC,ci 0,ci 0,ci 0,ci 0,ci 0,ci 0,ci 0,ci 0,ci 0,ci 0,ci 0,ci 0,ci 0]]::.row 0 es::x)=match yf es x with
   | some (b,es')=>some [cb b,.row 0 es']
   | none=>none:=fun es x=>by
  have:(CV.row 0 [[dC,ci 0,ci 0,ci 0,ci 0,ci 0,ci 0,ci 0,ci 0,ci 0,ci 0,ci 0,ci 0,ci 0]]:CV)=shC shD:=rfl;rw [this];have hg:(1048576:Nat)=ghT:=rfl;simp only [withY,hg,if_true,and_self];cases yf es x with
  | none=>rfl
  | some q=>obtain ⟨b,e⟩:=q;rfl
 unfold aAP;rw [ax 110 _ (by decide),H4,aC]
 simp only [bW];rw [FF c.ds day (dV c.ds k) (aFO c.ds k) (by have:=RS c.ds k;omega)]
 simp only [cP,bW]
 have j0:(gD c.ds day (dV c.ds k)).length<=60:=by
  have h1:(gD c.ds day (dV c.ds k)).length<=(dV c.ds k).length:=List.length_filterMap_le _ _;have:=RS c.ds k;omega
 rw [aDf (M:=withY M l shD yf) (fun A B C a b h1 h2 h3 h4=>by rw [ax 216 _ (by decide)];exact jx A B C a b h1 h2 h3 h4) (fun A X Y C a m b h=>by rw [ax 217 _ (by decide)];exact lq A X Y C a m b h) _ (fun x hx=>aHP aa x (aFP _ _ _ x hx)) j0]
 rw [show aD leD (gD c.ds day (dV c.ds k))=gE c.ds day k from rfl]
 have ja:(gE c.ds day k).length<=60:=by
  show (aD leD (gD c.ds day (dV c.ds k))).length<=60;rw [(aU leD _).length_eq];exact j0
 generalize gE c.ds day k=L at hR ja ⊢;simp only [gQ,bW]
 have key:=BY (b:=2) (rows:=L.map Dd.cv) (yf:=yf) (fun p es=>[ci (p:Int),.row 0 es])
  (step:=(fun v3=>aA (decide ((gi v3 0)<(il (L.map Dd.cv)))) (chk (inb (gi v3 0) (L.map Dd.cv))<|chk (decide ((Int.toNat (gi v3 0))<(List.length (L.map Dd.cv))))<|chk (oks liA (el (L.map Dd.cv) (gi v3 0)) 0)<|aB (withY M l shD yf 1048576 (cat [[CV.val (Value.func (Fn.yield l) #[] #[]),CV.row 0 ([[dC,ci 0,ci 0,ci 0,ci 0,ci 0,ci 0,ci 0,ci 0,ci 0,ci 0,ci 0,ci 0,ci 0]]),CV.row 0 (gr v3 1)],cis (el (L.map Dd.cv) (gi v3 0)) 0 13])) fun v4=>aA (!(gb v4 0)) (some (.ret [CV.row 0 (gr v4 1)])) (some (.nx [ci (wr ((gi v3 0)+1)),CV.row 0 (gr v4 1)]))) (some (.br 2 [CV.row 0 (gr v3 1)])))) ?h1 ?h2 (L.map Dd.cv).length 0 es es' (by omega) (by rw [List.drop_zero];exact hR)
 case h2 =>
  intro es;have h0:¬(((L.map Dd.cv).length:Int)<il (L.map Dd.cv)):=by rw [TM];omega
  simp only [aQ,dZ,bW,h0,decide_false,aX]
 case h1 =>
  intro p hp es;have hq:p<L.length:=by rw [List.length_map] at hp;exact hp
  have h0:(p:Int)<il (L.map Dd.cv):=by rw [TM,List.length_map];omega
  have jv:(Int.toNat (p:Int))<(L.map Dd.cv).length:=by rw [Int.toNat_natCast];exact hp
  have jw:∀ z:Dd,cat [[CV.val (Value.func (Fn.yield l) #[] #[]),CV.row 0 ([[dC,ci 0,ci 0,ci 0,ci 0,ci 0,ci 0,ci 0,ci 0,ci 0,ci 0,ci 0,ci 0,ci 0]]),CV.row 0 es],z.cv]=CV.val (Value.func (Fn.yield l) #[] #[])::CV.row 0 ([[dC,ci 0,ci 0,ci 0,ci 0,ci 0,ci 0,ci 0,ci 0,ci 0,ci 0,ci 0,ci 0,ci 0]])::CV.row 0 es::z.cv:=fun z=>rfl
  rw [List.getElem_map];have hw:=bG (show p<9223372036854775807 by omega)
  constructor
  ·intro e he
   simp only [aQ,dZ,bW,h0,jv,decide_true,bE,aG hq,aM hq,ddO,ddC,aJ,jw,hy,he,aC,fK,Bool.not_true,aX,hw]
  ·intro e he
   simp only [aQ,dZ,bW,h0,jv,decide_true,bE,aG hq,aM hq,ddO,ddC,aJ,jw,hy,he,aC,fK,Bool.not_false]
 have ak:([ci 0,CV.row 0 es]:List CV)=[ci ((0:Nat):Int),.row 0 es]:=rfl;rw [ak];rcases key with h | h
 ·erw [h];simp
 ·erw [h];simp
end Go.Proofs.YtfgdfpnkhdlmfaaGreat
namespace Go.Sx
open Go
section
variable [G:Ghost]
variable {P:Program} {F:Fence} {n:Nat} {ops:Array Oper} {Qr:Exit->Act->World->Prop}
def ndf:Op->Bool
 | .defer _=>false
 | _=>true
variable {D:List Deferred} {l:List (Nat×Value)}
theorem aW (hF:Free F) {N:Nat} {a:Act} (hs:Sl N a l) (ac:a.defers=D) {o:Oper} {rest:List Oper} {d:Nat} {v:Value} {w w':World} (hg:o.guard=none) (dk:o.dst=some d) (hd:Nat.blt d N=true) (df:ndf o.op=true) (ai:oM P l o v w w')
  (h:∀ a',a'.defers=D->Sl N a' ((d,v)::l)->wpListIn F n P ops Qr rest a' w'):wpListIn F n P ops Qr (o::rest) a w:=
 aHi hF hs hg dk (Eq.mp Nat.blt_eq hd) (fun c hc=>by rw [hc] at df;cases df) ai fun a' d8 pi=>h a' (d8.trans ac) pi
theorem kV (ba:F.round=none) {R:Act->World->Prop} {N:Nat} {a:Act} (hs:Sl N a l) (ac:a.defers=D) (i:Nat) {fuel:Nat} {listed:Array Bool} {o:Oper} {d:Nat} {v:Value} {w:World} (hi:ops[i]? = some o)
  (hr:(Region.noSelect ops&&Region.free .any ops listed i&&(Region.ready .any ops listed).contains i)=true) (hg:o.guard=none) (dk:o.dst=some d) (hd:Nat.blt d N=true)
  (zw:∀ w ρ,o.about P w ρ=none) (ai:∀ w,oM P l o v w w) (h:∀ a',a'.defers=D->Sl N a' ((d,v)::l)->wpAnyIn F n P .any ops (fun ex a' w'=>ex=.normal/\R a' w') fuel (listed.setIfInBounds i true) a' w):wpAnyIn F n P .any ops (fun ex a' w'=>ex=.normal/\R a' w') (fuel+1) listed a w:=by
 simp only [Bool.and_eq_true] at hr;exact aEH ba hs hi hr.1.1 hr.1.2 hr.2 (by simp) hg dk (Eq.mp Nat.blt_eq hd) zw ai fun a' d8 pi=>h a' (d8.trans ac) pi
end
end Go.Sx
namespace Go.Proofs.YtfgdfpnkhdlmfaaGreat
open Go Go.Sx Go.RowKit
set_option maxRecDepth 100000
section
variable [G:Ghost]
theorem gP:Tryz.prog.underlying 28=some (.slice 56):=by have _:=G;rfl
theorem iR (w:World):(Go.sizeOf 56).run Tryz.prog w=.ok 13 w:=by
 have _:=G;rfl
theorem aJp:Tryz.prog.underlying 3=some (.int .i64):=by have _:=G;rfl
theorem GD:Tryz.prog.follows .mixedOrders=true:=by have _:=G;rfl
theorem aHQ:Tryz.prog.funcs[169]? = some Tryz.f169:=by have _:=G;rfl
theorem YC:∃ i z,Tryz.prog.info? 56=some i/\i.zero=some z/\i.size=13/\i.bytes=104/\z.cells.size=13:=by
 have _:=G;refine ⟨((Tryz.prog.info? 56).getD default),((((Tryz.prog.info? 56).getD default).zero).getD (.bool false)),by rfl,by rfl,by rfl,by rfl,by rfl⟩
theorem aJq (w:World) (a b:Addr) (la ca lb cb:Nat) (ax:a.block≠b.block) (va vb:Array Value) (tA tB:TypeId) (fz:Nat×Nat) (ha:w.heap[a.block]? = some (.cells va tA fz)) (Jl:va.size≠0) (hb:w.heap[b.block]? = some (.cells vb tB (0,0))) :
  (callFunc 196 #[.slice (some a) la ca,.slice (some b) lb cb]).run Tryz.prog w=.ok (.value (.bool false)) w:=by
 rw [run_callFunc_extern (P:=Tryz.prog) (f:=196) (fn:=Tryz.f196) (by rfl) (by rfl) (by rfl) (by rfl) (e:=Extern.SlicesOverlaps.overlaps #[28,28] #[4]) (by kernel_rfl),
  FL w 28 4 56 gP 13 iR a b la ca lb cb ax va vb tA tB fz ha Jl hb]
 rfl
theorem aLA:aDP Tryz.prog 169 56 13 104:=by
 intro B V i v nn x hv cu hT hk Aw hn ck iy;obtain ⟨q,rfl⟩:∃ q:Nat,nn=q:=⟨nn.toNat,by omega⟩
 have hl:=Vec.sl_live cu;refine xP aHQ rfl fun F n hF ba=>?_
 intro n0 w0 env a w Qr hr cq;obtain ⟨xs,ej,au,bk⟩:=hr.mem.vec i v hv hl;have ap:=ej.s (Vec.sl_T cu);rw [hT,hk] at ap ej;obtain ⟨ao,c,hh,Ij,gt⟩:=ap.slice;have e0:=(hr.ev (.tmp 0)).1;have e1:=(hr.ev (.tmp 1)).1;have e2:=(hr.ev (.tmp 2)).1;change AV.holds env w (kss V) (.own i v.ver) (a.eval (.tmp 0)) at e0;change AV.holds env w (kss V) (.cv (.val (.int .i64 q))) (a.eval (.tmp 1)) at e1;change AV.holds env w (kss V) (.cv (.row 13 [x])) (a.eval (.tmp 2)) at e2;simp only [AV.holds,CV.holds,List.cons_ne_nil,false_or,List.length_singleton] at e0 e1 e2
 obtain ⟨ro,rc,e2,xj,Nx,rb,roff,rfl,Ny,yg⟩:=e2;simp only [CV.rows,and_true] at yg;obtain ⟨vs,cr,ik,H5⟩:=CV.cells.vals yg.2;have di:a.tmps.size=95:=by have:=hr.tm.length;simpa using this
 have hs:Sl 95 a [(0,.slice ao v.es.length c),(1,.int .i64 q),(2,.slice (some ⟨rb,roff,none⟩) 1 rc)]:=by
  refine ⟨di,fun d u hd=>?_⟩
  grind [lkv]
 have hq:q<=v.es.length:=by omega
 have dO:xs.length=v.es.length*13:=ap.len;have pm:vs.length=13:=by rw [ik,yg.1]
 have H6:∀ u∈vs,u.oneCell'=true:=CV.vals.one cr;have Ec:∀ u∈xs,u.oneCell'=true:=CV.vals.one au
 have oo:(v.es.length+1)*104<=140737488355328/\v.es.length+1<=maxLen:=by
  unfold cJ at ck;simp only [Bool.and_eq_true,decide_eq_true_eq] at ck;exact ck
 have Nz:maxLen=9223372036854775807:=rfl;obtain ⟨D,nm⟩:∃ D,a.defers=D:=⟨_,rfl⟩;have ac:=nm
 have ji:(v.es.take q).flatten.length=q*13:=by
  have:∀ (l:List (List CV)),(∀ y∈l,y.length=13)->l.flatten.length=l.length*13:=by
   intro l
   induction l with
   | nil=>intro _;simp
   | cons y l ih=>grind
  grind
 have lx:v.es.flatten=(v.es.take q).flatten++(v.es.drop q).flatten:=by rw [<- List.flatten_append,List.take_append_drop]
 have fin:∀ (a':Act) (w':World) (l:List (Nat×Value)) (v':Value),a'.defers=D->Sl 95 a' l->lkv l 6=some v' ->
   OwnsV w' n0 56 13 v' (v.es.length+1) (xs.take (q*13)++vs++xs.drop (q*13))->w.grownBy w' (bM (env.hdr i v.ver))->(bM v'=bM (env.hdr i v.ver)\/∀ g,bM v'=some g->w.heap.size<=g)->Qr .ret a' w':=by
  intro a' w' l v' ac hs h6 jm qd bg
  have nr:CV.vals w env.S (v.es.take q++x::v.es.drop q).flatten (xs.take (q*13)++vs++xs.drop (q*13)):=by
   rw [lx] at au;have h2:=eG au;rw [ji] at h2;have:=CV.vals.append (CV.vals.append h2.1 cr) h2.2;simpa [List.flatten_append] using this
  obtain ⟨env',m1,m2,m3,_⟩:=hr.mem.vecStep (w':=w') hv hl v' (v.es.take q++x::v.es.drop q) (xs.take (q*13)++vs++xs.drop (q*13))
   (by grind) nr
   (by grind)
   qd bg
  have aq:=(List.getElem?_eq_some_iff.1 hv).1
  let V':List Vec:=V.set i ⟨v.live,v.T,v.k,v.ver+1,v.es.take q++x::v.es.drop q⟩
  have dz:AV.sco B.length (vers V') (.own i (v.ver+1)):=by simp [AV.sco,V',vers,List.getD,aq]
  have ah:Rel n0 w0 env' ⟨mkT 95 [(6,.own i (v.ver+1))],B,V'⟩ a' w':=by
   refine ⟨all_one hs h6 (by simp only [AV.holds];exact ⟨m3.symm,jm.one⟩),?_,m1⟩
   grind [AV.scos_iff,mkT,lk,AV.sco]
  exact cq .ret env' _ a' w' ⟨.inr rfl,.own i (v.ver+1),rfl,rfl,rfl,by simp [V']⟩ ah (ac.trans nm.symm) m2
 refine gL ?_;refine aW hF hs ac rfl rfl rfl rfl (eI rfl rfl _) fun a ac hs=>?_
 refine wpListIn_nil ⟨rfl,?_⟩;refine gL ?_;refine aW hF hs ac rfl rfl rfl rfl (aF rfl rfl _) fun a ac hs=>?_
 refine aW hF hs ac rfl rfl rfl rfl (aF rfl rfl _) fun a ac hs=>?_
 refine aW hF hs ac rfl rfl rfl rfl (TH gP iR rfl rfl rfl (by omega) (by omega) _) fun a ac hs=>?_
 refine wpListIn_nil ⟨rfl,?_⟩;refine gL ?_;refine aW hF hs ac rfl rfl rfl rfl (aF rfl rfl _) fun a ac hs=>?_
 refine aW hF hs ac rfl rfl rfl rfl (xN gP rfl rfl _) fun a ac hs=>?_
 refine aW hF hs ac rfl rfl rfl rfl (eI rfl rfl _) fun a ac hs=>?_
 refine wpListIn_nil ⟨rfl,?_⟩;refine LL ?_;refine aW hF hs ac rfl rfl rfl rfl (aF rfl rfl _) fun a ac hs=>?_
 refine aW hF hs ac rfl rfl rfl rfl (TL rfl rfl rfl _) fun a ac hs=>?_
 refine wpListIn_nil ⟨rfl,wpIn_cond_split (hs.env _ _ rfl) (fun h=>by simp at h) fun _=>wpIn_skip ?_⟩
 refine gL ?_;refine aW hF hs ac rfl rfl rfl rfl (aF rfl rfl _) fun a ac hs=>?_
 refine aW hF hs ac rfl rfl rfl rfl (xN gP rfl rfl _) fun a ac hs=>?_
 refine aW hF hs ac rfl rfl rfl rfl (eI rfl rfl _) fun a ac hs=>?_
 refine wpListIn_nil ⟨rfl,?_⟩;refine LL ?_;refine aW hF hs ac rfl rfl rfl rfl (aF rfl rfl _) fun a ac hs=>?_
 refine aW hF hs ac rfl rfl rfl rfl (aF rfl rfl _) fun a ac hs=>?_
 refine aW hF hs ac rfl rfl rfl rfl (TL rfl rfl rfl _) fun a ac hs=>?_
 obtain ⟨ti,tz,ar,H7,td,Cw,Jx⟩:=YC;refine wpListIn_nil ⟨rfl,wpIn_cond_split (hs.env _ _ rfl) (fun h=>?_) fun h=>wpIn_skip ?_⟩
 ·have I3:(q:Int)=v.es.length:=eq_of_beq h
  have bp:q=v.es.length:=by omega
  obtain ⟨v',w',ai,ho,qd,bg⟩:=JP (P:=Tryz.prog) w n0 28 28 56 ti tz 13 104 gP ar H7 td Cw Jx (by decide) _ _ _ ap (by decide) (some ⟨rb,roff,none⟩) 1 rc vs (by omega) (fun h=>by cases h)
   (fun a ha j u hj=>by cases ha;rw [addr_add];exact H5 j u hj) H6 oo.2 oo.1 hr.mem.base
  rw [hh] at ai;refine gL ?_;refine aW hF hs ac rfl rfl rfl rfl (aF rfl rfl _) fun a ac hs=>?_
  refine aW hF hs ac rfl rfl rfl rfl (aF rfl rfl _) fun a ac hs=>?_
  refine aW hF hs ac rfl rfl rfl rfl (xO rfl rfl rfl ai) fun a ac hs=>?_
  refine aW hF hs ac rfl rfl rfl rfl (eI rfl rfl _) fun a ac hs=>?_
  refine wpListIn_nil ⟨rfl,wpIn_ret (fin _ _ _ v' ac hs rfl ?_ qd bg)⟩;rw [bp,<- dO,List.take_length,List.drop_length,List.append_nil];exact ho
 have Fj:q<v.es.length:=by
  have:¬q=v.es.length:=by intro hc;rw [hc] at h;simp at h
  omega
 rcases ap with ⟨a',_,h2,_⟩ | ⟨⟨h0,h1⟩,g,hg,ew⟩
 ·omega
 rcases h1 with ⟨_,h2⟩ | ⟨g1,cap,cur,h1,fg,da,bq,zd,aT,kp⟩
 ·omega
 rw [hh] at h1 hg ew;obtain ⟨rfl,rfl⟩:ao=some ⟨g1,0,none⟩/\c=cap:=by injection h1 with a1 a2 a3;exact ⟨a1,a3⟩
 have ez:g=g1:=by simpa [Value.ownBlock] using ew.symm
 subst ez;have jh:bM (env.hdr i v.ver)=some g:=by rw [hh];exact hg
 have ax:rb≠g:=fun hc=>hr.mem.vecS i v g hv hl jh (hc▸Ny)
 have r8:g<w.heap.size:=(Array.getElem?_eq_some_iff.1 da).1
 have Jy:v.es.length*13<=cur.toList.length:=by
  rw [Array.length_toList,aT];exact Nat.mul_le_mul_right _ bq
 obtain ⟨m,hm⟩:∃ m,v.es.length=q+m:=⟨v.es.length - q,by omega⟩
 have nu:xs.length=q*13+m*13:=by rw [dO,hm,Nat.add_mul]
 have jy:cur.toList.take (q*13+m*13)=xs:=by rw [<- Nat.add_mul,<- hm];exact kp
 obtain ⟨rcur,rT,rfz,fm⟩:∃ rcur rT rfz,w.heap[rb]? = some (.cells rcur rT rfz):=by
  have:=H5 0 vs[0] (by simp)
  simp only [World.cell?,Nat.add_zero] at this;split at this
  ·rename_i c1 t1 f1 mn;exact ⟨c1,t1,f1,mn⟩
  ·cases this
 have wj:∀ j u,vs[j]? = some u->rcur[roff+j]? = some u:=fun j u hj=>by
  have:=H5 j u hj;simpa [World.cell?,fm] using this
 have H8:rcur.size≠0:=by
  have:=wj 0 vs[0] (by simp)
  have:=(Array.getElem?_eq_some_iff.1 this).1;omega
 refine LL ?_;refine aW hF hs ac rfl rfl rfl rfl (aF rfl rfl _) fun a ac hs=>?_
 refine aW hF hs ac rfl rfl rfl rfl (aF rfl rfl _) fun a ac hs=>?_
 refine aW hF hs ac rfl rfl rfl rfl (tK rfl rfl rfl (by omega) _) fun a ac hs=>?_
 refine aW hF hs ac rfl rfl rfl rfl (aF rfl rfl _) fun a ac hs=>?_
 refine aW hF hs ac rfl rfl rfl rfl (aEI gP rfl rfl _) fun a ac hs=>?_
 refine aW hF hs ac rfl rfl rfl rfl (aHj rfl rfl rfl _) fun a ac hs=>?_
 refine wpListIn_nil ⟨rfl,wpIn_cond_split (hs.env _ _ rfl) (fun h=>?_) fun h=>wpIn_skip ?_⟩
 ·
  have kq:c<v.es.length+1:=by
   have:=of_decide_eq_true h;omega
  have hL:q+(v.es.length+1 - q)=v.es.length+1:=by omega
  have Pt:q*13<=xs.length:=by rw [nu];omega
  have hold:(Builtin.firstCells ti.size q (.slice (some ⟨g,0,none⟩) q c)).run Tryz.prog w.drew=.ok (xs.take (q*13)).toArray w.drew:=by
   rw [td];refine run_firstCells_some w.drew 13 q ⟨g,0,none⟩ q c (xs.take (q*13)) (by rw [List.length_take];omega) (fun j u hj=>?_)
   rw [zM (w:=w.drew) da,<- Array.getElem?_toList,Nat.zero_add];grind
  have hz:=Lib.run_append_grow_zeros (P:=Tryz.prog) w 28 3 28 56 ti tz .i64 .i64 gP aJp ar H7 (some ⟨g,0,none⟩) q c (xs.take (q*13)) hold (v.es.length+1 - q) (by omega) (by rw [td];decide) (by omega) (by omega)
   (by grind) (by rw [Cw,hL];exact growslice_fits kq oo.1)
  rw [hL] at hz;obtain ⟨G,hG⟩:∃ G,G=grownCap w (v.es.length+1) c 56:=⟨_,rfl⟩;have NE:v.es.length+1<=G:=by rw [hG];exact grownCap_ge w _ _ _
  have N0:G<=maxLen:=by rw [hG];exact grownCap_le_maxLen w _ _ _ oo.2
  obtain ⟨R,hR⟩:∃ R:Array Value,R=(xs.take (q*13)).toArray++Builtin.zeroCells tz.cells (v.es.length+1 - q)++Builtin.zeroCells tz.cells (G - (v.es.length+1)):=⟨_,rfl⟩;rw [<- hG,<- hR] at hz
  have N1:R.size=G*13:=by
   grind [Array.size_append,List.size_toArray,size_zeroCells,List.length_take,Nat.min_eq_left,Nat.add_mul]
  have N2:R.toList.take (q*13)=xs.take (q*13):=by
   grind
  obtain ⟨W1,pk⟩:∃ W1,W1=w.drew.alloc (.cells R 56):=⟨_,rfl⟩;rw [<- pk] at hz;obtain ⟨g',uu⟩:∃ g',g'=w.heap.size:=⟨_,rfl⟩;rw [<- uu] at hz;have Jz:W1.heap[g']? = some (.cells R 56 (0,0)):=by rw [pk,uu];exact heap_alloc_new w.drew _
  have Fz:∀ b,b<w.heap.size->W1.heap[b]? = w.heap[b]?:=fun b hb=>by rw [pk];exact heap_alloc_old w.drew _ hb
  have N3:rb<w.heap.size:=(Array.getElem?_eq_some_iff.1 fm).1
  have N4:q*13+13+m*13<=R.toList.length:=by
   grind
  have mn:=zI (P:=Tryz.prog) W1 28 28 3 56 g' (0+q*13) (v.es.length+1 - q) (G - q) ⟨rb,roff,none⟩ 1 rc 1 13 R 56 vs gP iR Jz
   (by simp only [Nat.min_def];split <;> omega) (by omega)
   (fun j u hj=>by
    grind [zM])
   (by rw [<- Array.length_toList];omega) H6
  obtain ⟨R1,Bs⟩:∃ R1:Array Value,R1=(R.toList.take (0+q*13)++vs++R.toList.drop (0+q*13+vs.length)).toArray:=⟨_,rfl⟩;rw [<- Bs] at mn;have H9:R1.toList=R.toList.take (q*13)++vs++R.toList.drop (q*13+13):=by rw [Bs,pm];simp only [Nat.zero_add]
  have Ia:R1.size=R.size:=by
   grind
  have nw:=aAn R.toList xs vs (q*13) 13 (m*13) pm nu N2 N4;obtain ⟨W2,ze⟩:∃ W2:World,W2={ W1.setRow g' R1 with drawn:=(W1.setRow g' R1).drawn+1 }:=⟨_,rfl⟩
  have J0:W2.heap[g']? = some (.cells R1 56 (0,0)):=by rw [ze];exact zK (w:=W1) Jz
  have ya:∀ b,b<w.heap.size->W2.heap[b]? = w.heap[b]?:=fun b hb=>by rw [ze];exact (uY (w:=W1) (by omega)).trans (Fz b hb)
  have i6:=zI (P:=Tryz.prog) W2 28 28 3 56 g' (0+(q+1)*13) (v.es.length+1 - (q+1)) (G - (q+1)) ⟨g,0+q*13,none⟩ (v.es.length - q) (c - q) m 13 R1 56 (xs.drop (q*13)) gP iR J0
   (by simp only [Nat.min_def];split <;> omega) (by simp only [List.length_drop];omega)
   (fun j u hj=>by
    rw [zM (w:=W2) (by rw [ya _ r8];exact da),<- Array.getElem?_toList]
    grind)
   (by simp only [List.length_drop];rw [Ia,<- Array.length_toList];simp only [Nat.add_mul];omega) (fun u hu=>Ec u (List.mem_of_mem_drop hu))
  obtain ⟨R2,J1⟩:∃ R2:Array Value,R2=(R1.toList.take (0+(q+1)*13)++xs.drop (q*13)++R1.toList.drop (0+(q+1)*13+(xs.drop (q*13)).length)).toArray:=⟨_,rfl⟩;rw [<- J1] at i6
  have C6:R2.toList=R1.toList.take (q*13+13)++xs.drop (q*13)++R1.toList.drop (q*13+13+m*13):=by
   rw [J1];have e1:0+(q+1)*13=q*13+13:=by rw [Nat.add_mul];omega
   have e2:(xs.drop (q*13)).length=m*13:=by simp only [List.length_drop];omega
   rw [e1,e2]
  rw [H9] at C6;have gm:R2.toList.take (q*13+13+m*13)=xs.take (q*13)++vs++xs.drop (q*13)/\R2.toList.length=R.toList.length:=by rw [C6];exact nw
  have N5:(W2.setRow g' R2).heap[g']? = some (.cells R2 56 (0,0)):=zK J0;have lr:∃ c',G=c'+1:=⟨G - 1,by omega⟩
  have wm:∀ n,bM (.slice (some ⟨g',0,none⟩) n G)=some g':=fun n=>by obtain ⟨c',rfl⟩:=lr;rfl
  refine gL ?_;refine aW hF hs ac rfl rfl rfl rfl (aF rfl rfl _) fun a ac hs=>?_
  refine aW hF hs ac rfl rfl rfl rfl (aF rfl rfl _) fun a ac hs=>?_
  refine aW hF hs ac rfl rfl rfl rfl (TJ gP iR rfl rfl rfl (by omega) (by omega) (by simp [Addr.add]) _) fun a ac hs=>?_
  refine aW hF hs ac rfl rfl rfl rfl (aF rfl rfl _) fun a ac hs=>?_
  refine aW hF hs ac rfl rfl rfl rfl (aF rfl rfl _) fun a ac hs=>?_
  refine aW hF hs ac rfl rfl rfl rfl (tK rfl rfl rfl (by omega) _) fun a ac hs=>?_
  refine aW hF hs ac rfl rfl rfl rfl (aF rfl rfl _) fun a ac hs=>?_
  refine aW hF hs ac rfl rfl rfl rfl (aEK rfl rfl rfl (by omega) (by omega) _) fun a ac hs=>?_
  refine aW hF hs ac rfl rfl rfl rfl (xO rfl rfl rfl hz) fun a ac hs=>?_
  refine aW hF hs ac rfl rfl rfl rfl (eI rfl rfl _) fun a ac hs=>?_
  refine wpListIn_nil ⟨rfl,?_⟩;refine gL ?_;refine aW hF hs ac rfl rfl rfl rfl (aF rfl rfl _) fun a ac hs=>?_
  refine aW hF hs ac rfl rfl rfl rfl (aF rfl rfl _) fun a ac hs=>?_
  refine aW hF hs ac rfl rfl rfl rfl (qR gP iR rfl rfl rfl (by omega) (by omega) (by omega) _) fun a ac hs=>?_
  refine aW hF hs ac rfl rfl rfl rfl (aF rfl rfl _) fun a ac hs=>?_
  refine aW hF hs ac rfl rfl rfl rfl (zJ rfl rfl rfl mn) fun a ac hs=>?_
  refine wpListIn_nil ⟨rfl,?_⟩;refine LM ba GD ?_;rw [<- ze];refine kV ba hs ac 0 rfl (by kernel_rfl) rfl rfl rfl (fun _ _=>rfl) (fun _=>aF rfl rfl _) fun a ac hs=>?_
  refine kV ba hs ac 1 rfl (by kernel_rfl) rfl rfl rfl (fun _ _=>rfl) (fun _=>aF rfl rfl _) fun a ac hs=>?_
  refine kV ba hs ac 2 rfl (by kernel_rfl) rfl rfl rfl (fun _ _=>rfl) (fun _=>aF rfl rfl _) fun a ac hs=>?_
  refine kV ba hs ac 3 rfl (by kernel_rfl) rfl rfl rfl (fun _ _=>rfl) (fun _=>tK rfl rfl rfl (by omega) _) fun a ac hs=>?_
  refine kV ba hs ac 4 rfl (by kernel_rfl) rfl rfl rfl (fun _ _=>rfl) (fun _=>qR gP iR rfl rfl rfl (by omega) (by omega) (by omega) _) fun a ac hs=>?_
  refine kV ba hs ac 5 rfl (by kernel_rfl) rfl rfl rfl (fun _ _=>rfl) (fun _=>aF rfl rfl _) fun a ac hs=>?_
  refine kV ba hs ac 6 rfl (by kernel_rfl) rfl rfl rfl (fun _ _=>rfl) (fun _=>aF rfl rfl _) fun a ac hs=>?_
  refine kV ba hs ac 7 rfl (by kernel_rfl) rfl rfl rfl (fun _ _=>rfl) (fun _=>qR gP iR rfl rfl rfl (by omega) (by omega) (by omega) _) fun a ac hs=>?_
  refine LN hF (i:=8) hs rfl (by kernel_rfl) (by kernel_rfl) rfl rfl (by decide) (by intro c h;cases h) (zJ rfl rfl rfl i6) fun a hd hs=>?_;replace ac:=hd.trans ac
  refine ⟨rfl,?_⟩;refine gL ?_;refine aW hF hs ac rfl rfl rfl rfl (aF rfl rfl _) fun a ac hs=>?_
  refine aW hF hs ac rfl rfl rfl rfl (eI rfl rfl _) fun a ac hs=>?_
  refine wpListIn_nil ⟨rfl,wpIn_ret (fin _ _ _ _ ac hs rfl ?_ ?_ (.inr ?_))⟩
  ·refine .inl ⟨by decide,.inr ⟨⟨?_,.inr ⟨g',G,R2,rfl,by rw [uu];exact hr.mem.base,N5,NE,N0,?_,?_⟩⟩,g',wm _,rfl⟩⟩
   ·simp only [List.length_append,List.length_take,List.length_drop,pm,nu,hm,Nat.add_mul];omega
   ·rw [<- Array.length_toList,gm.2,Array.length_toList,N1]
   ·rw [<- gm.1,hm];congr 1;simp only [Nat.add_mul];omega
  ·refine ⟨by rw [ze,pk];rfl,by rw [ze,pk];rfl,by rw [ze,pk];rfl,by rw [zL,ze];show w.heap.size<=(W1.setRow g' R1).heap.size;rw [zL,pk];simp,fun b hb Ed=>?_⟩
   rw [uY (by omega),ya b hb]
  ·intro b hb
   rw [wm] at hb;cases hb;omega
 ·have kq:v.es.length+1<=c:=by
   have:=of_decide_eq_false h;omega
  refine gL ?_;refine aW hF hs ac rfl rfl rfl rfl (aF rfl rfl _) fun a ac hs=>?_
  refine aW hF hs ac rfl rfl rfl rfl (aF rfl rfl _) fun a ac hs=>?_
  refine aW hF hs ac rfl rfl rfl rfl (aF rfl rfl _) fun a ac hs=>?_
  refine aW hF hs ac rfl rfl rfl rfl (tK rfl rfl rfl (by omega) _) fun a ac hs=>?_
  refine aW hF hs ac rfl rfl rfl rfl (TJ gP iR rfl rfl rfl (by omega) (by omega) (by simp [Addr.add]) _) fun a ac hs=>?_
  refine aW hF hs ac rfl rfl rfl rfl (eI rfl rfl _) fun a ac hs=>?_
  refine wpListIn_nil ⟨rfl,?_⟩;refine LL ?_;refine aW hF hs ac rfl rfl rfl rfl (aF rfl rfl _) fun a ac hs=>?_
  refine aW hF hs ac rfl rfl rfl rfl (aF rfl rfl _) fun a ac hs=>?_
  refine aW hF hs ac rfl rfl rfl rfl (aF rfl rfl _) fun a ac hs=>?_
  refine aW hF hs ac rfl rfl rfl rfl (aF rfl rfl _) fun a ac hs=>?_
  refine aW hF hs ac rfl rfl rfl rfl (tK rfl rfl rfl (by omega) _) fun a ac hs=>?_
  refine aW hF hs ac rfl rfl rfl rfl (qR gP iR rfl rfl rfl (by omega) (by omega) (by omega) _) fun a ac hs=>?_
  refine aW hF hs ac rfl rfl rfl rfl (aEJ rfl rfl rfl (aJq _ ⟨rb,roff,none⟩ ⟨g,0+(q+1)*13,none⟩ _ _ _ _ ax rcur cur rT _ rfz fm H8 da)) fun a ac hs=>?_
  refine aW hF hs ac rfl rfl rfl rfl (aEL rfl rfl _) fun a ac hs=>?_
  refine wpListIn_nil ⟨rfl,wpIn_cond_split (hs.env _ _ rfl) (fun h=>?_) (fun h=>by simp at h)⟩
  obtain ⟨w1,ii⟩:∃ w1:World,w1={ w with drawn:=w.drawn+1 }:=⟨_,rfl⟩
  have dl:∀ b:Nat,w1.heap[b]? = w.heap[b]?:=fun b=>by rw [ii]
  have mn:=zI (P:=Tryz.prog) w1 28 28 3 56 g (0+(q+1)*13) (v.es.length+1 - (q+1)) (c - (q+1)) ⟨g,0+q*13,none⟩ (v.es.length+1 - q) (c - q) m 13 cur 56 (xs.drop (q*13)) gP iR (by rw [dl];exact da)
   (by simp only [Nat.min_def];split <;> omega) (by simp only [List.length_drop];omega)
   (fun j u hj=>by
    rw [zM (by rw [dl];exact da),<- Array.getElem?_toList]
    rw [List.getElem?_drop] at hj;have bu:=(List.getElem?_eq_some_iff.1 hj).1;rw [<- jy,List.getElem?_take] at hj;split at hj
    ·rw [Nat.zero_add];exact hj
    ·cases hj)
   (by simp only [List.length_drop];have:(q+m+1)*13<=c*13:=Nat.mul_le_mul_right _ (by omega);simp only [Nat.add_mul] at this ⊢;omega) (fun u hu=>Ec u (List.mem_of_mem_drop hu))
  obtain ⟨cur1,jn⟩:∃ cur1:Array Value,cur1=(cur.toList.take (0+(q+1)*13)++xs.drop (q*13)++cur.toList.drop (0+(q+1)*13+(xs.drop (q*13)).length)).toArray:=⟨_,rfl⟩;rw [<- jn] at mn;have bz:cur.toList.length=c*13:=by rw [Array.length_toList,aT]
  have n7:q*13+13+m*13<=cur.toList.length:=by
   rw [bz];have:(q+m+1)*13<=c*13:=Nat.mul_le_mul_right _ (by omega)
   simp only [Nat.add_mul] at this;omega
  have nw:=aCO cur.toList xs vs (q*13) 13 (m*13) pm nu jy n7
  have jz:cur1.toList=cur.toList.take (q*13+13)++xs.drop (q*13)++cur.toList.drop (q*13+13+m*13):=by
   rw [jn];have e1:0+(q+1)*13=q*13+13:=by rw [Nat.add_mul];omega
   have e2:(xs.drop (q*13)).length=m*13:=by simp only [List.length_drop];omega
   rw [e1,e2]
  have ny:cur1.size=cur.size:=by
   rw [<- Array.length_toList,jz,<- Array.length_toList];simp only [List.length_append,List.length_take,List.length_drop];omega
  have lz:(w1.setRow g cur1).heap[g]? = some (.cells cur1 56 (0,0)):=zK (by rw [dl];exact da)
  have i6:=zI (P:=Tryz.prog) (w1.setRow g cur1) 28 28 3 56 g (0+q*13) (v.es.length+1 - q) (c - q) ⟨rb,roff,none⟩ 1 rc 1 13 cur1 56 vs gP iR lz
   (by simp only [Nat.min_def];split <;> omega) (by omega)
   (fun j u hj=>by
    rw [zM (w:=w1.setRow g cur1) (g:=rb) (cur:=rcur) (t:=rT) (fz:=rfz) (by rw [uY ax,dl];exact fm)]
    exact wj j u hj)
   (by rw [ny,<- Array.length_toList];omega) H6
  obtain ⟨cur2,jo⟩:∃ cur2:Array Value,cur2=(cur1.toList.take (0+q*13)++vs++cur1.toList.drop (0+q*13+vs.length)).toArray:=⟨_,rfl⟩;rw [<- jo] at i6;have r9:cur2.toList=cur1.toList.take (q*13)++vs++cur1.toList.drop (q*13+13):=by rw [jo,pm];simp only [Nat.zero_add]
  rw [jz] at r9;have gm:cur2.toList.take (q*13+13+m*13)=xs.take (q*13)++vs++xs.drop (q*13)/\cur2.toList.length=cur.toList.length:=by rw [r9];exact nw
  have zf:((w1.setRow g cur1).setRow g cur2).heap[g]? = some (.cells cur2 56 (0,0)):=zK lz;have lr:∃ c',c=c'+1:=⟨c - 1,by omega⟩
  have wm:∀ n,bM (.slice (some ⟨g,0,none⟩) n c)=some g:=fun n=>by obtain ⟨c',rfl⟩:=lr;rfl
  refine LM ba GD ?_;rw [<- ii];refine kV ba hs ac 0 rfl (by kernel_rfl) rfl rfl rfl (fun _ _=>rfl) (fun _=>aF rfl rfl _) fun a ac hs=>?_
  refine kV ba hs ac 1 rfl (by kernel_rfl) rfl rfl rfl (fun _ _=>rfl) (fun _=>aF rfl rfl _) fun a ac hs=>?_
  refine kV ba hs ac 2 rfl (by kernel_rfl) rfl rfl rfl (fun _ _=>rfl) (fun _=>aF rfl rfl _) fun a ac hs=>?_
  refine kV ba hs ac 3 rfl (by kernel_rfl) rfl rfl rfl (fun _ _=>rfl) (fun _=>tK rfl rfl rfl (by omega) _) fun a ac hs=>?_
  refine kV ba hs ac 4 rfl (by kernel_rfl) rfl rfl rfl (fun _ _=>rfl) (fun _=>qR gP iR rfl rfl rfl (by omega) (by omega) (by omega) _) fun a ac hs=>?_
  refine kV ba hs ac 5 rfl (by kernel_rfl) rfl rfl rfl (fun _ _=>rfl) (fun _=>aF rfl rfl _) fun a ac hs=>?_
  refine kV ba hs ac 6 rfl (by kernel_rfl) rfl rfl rfl (fun _ _=>rfl) (fun _=>aF rfl rfl _) fun a ac hs=>?_
  refine kV ba hs ac 7 rfl (by kernel_rfl) rfl rfl rfl (fun _ _=>rfl) (fun _=>qR gP iR rfl rfl rfl (by omega) (by omega) (by omega) _) fun a ac hs=>?_
  refine LN hF (i:=8) hs rfl (by kernel_rfl) (by kernel_rfl) rfl rfl (by decide) (by intro c h;cases h) (zJ rfl rfl rfl mn) fun a hd hs=>?_;replace ac:=hd.trans ac
  refine ⟨rfl,?_⟩;refine gL ?_;refine aW hF hs ac rfl rfl rfl rfl (aF rfl rfl _) fun a ac hs=>?_
  refine aW hF hs ac rfl rfl rfl rfl (aF rfl rfl _) fun a ac hs=>?_
  refine aW hF hs ac rfl rfl rfl rfl (qR gP iR rfl rfl rfl (by omega) (by omega) (by omega) _) fun a ac hs=>?_
  refine aW hF hs ac rfl rfl rfl rfl (aF rfl rfl _) fun a ac hs=>?_
  refine aW hF hs ac rfl rfl rfl rfl (zJ rfl rfl rfl i6) fun a ac hs=>?_
  refine wpListIn_nil ⟨rfl,?_⟩;refine gL ?_;refine aW hF hs ac rfl rfl rfl rfl (aF rfl rfl _) fun a ac hs=>?_
  refine aW hF hs ac rfl rfl rfl rfl (eI rfl rfl _) fun a ac hs=>?_
  refine wpListIn_nil ⟨rfl,wpIn_ret (fin _ _ _ _ ac hs rfl ?_ ?_ (.inl ?_))⟩
  ·refine .inl ⟨by decide,.inr ⟨⟨?_,.inr ⟨g,c,cur2,rfl,fg,zf,kq,zd,?_,?_⟩⟩,g,wm _,rfl⟩⟩
   ·simp only [List.length_append,List.length_take,List.length_drop,pm,nu,hm,Nat.add_mul];omega
   ·rw [<- Array.length_toList,gm.2,bz]
   ·rw [<- gm.1,hm];congr 1;simp only [Nat.add_mul];omega
  ·rw [jh]
   refine ⟨by rw [ii];rfl,by rw [ii];rfl,by rw [ii];rfl,by rw [zL,zL,ii];exact Nat.le_refl _,fun b hb Ed=>?_⟩
   have sj:b≠g:=fun hc=>Ed (by rw [hc])
   rw [uY sj,uY sj,dl]
  ·rw [jh,wm]
end
end Go.Proofs.YtfgdfpnkhdlmfaaGreat
namespace Go.Sx
section
variable [G:Ghost]
variable {P:Program} {F:Fence} {n:Nat} {ops:Array Oper} {Qr:Exit->Act->World->Prop}
variable {l:List (Nat×Value)} {o:Oper} {v:Value} {w w':World}
theorem aHR (hF:Free F) {Q:Exit->Act->World->Prop} {N:Nat} {a:Act} (hs:Sl N a l) {i fuel:Nat} {listed:Array Bool} {d:Nat} (hi:ops[i]? = some o)
  (hr:Region.ready .any ops listed=[i]) (hg:o.guard=none) (dk:o.dst=some d) (hd:d<N) (df:∀ c,o.op≠.defer c)
  (ai:oM P l o v w w') (h:∀ a',a'.defers=a.defers->Sl N a' ((d,v)::l)->wpAnyIn F n P .any ops Q fuel (listed.setIfInBounds i true) a' w'):wpAnyIn F n P .any ops Q (fuel+1) listed a w:=by
 refine wpAnyIn_all hr (by simp) ?_
 intro j hj;rw [List.mem_singleton] at hj;subst hj;unfold wpOpIn;rw [hi];simp [Region.wanted,hg];refine ⟨fun f _=>hF.fn f,?_⟩
 rw [Oper.semAt_plain F _ _ df,ai _ hs.env]
 have:wpAnyIn F n P .any ops Q fuel (listed.setIfInBounds j true) (a.put o.dst v) w':=by
  rw [dk];exact h (a.put (some d) v) rfl (hs.put hd v)
 exact this
theorem aFQ (hF:Free F) {N:Nat} {a:Act} (hs:Sl N a l) {rest:List Oper} (hg:o.guard=none) (dk:o.dst=none) (df:∀ c,o.op≠.defer c) (ai:oM P l o v w w')
  (h:∀ a',a'.defers=a.defers->Sl N a' l->wpListIn F n P ops Qr rest a' w'):wpListIn F n P ops Qr (o::rest) a w:=by
 refine aEG hF hg df (ai _ hs.env) ?_;rw [dk];exact h _ rfl hs
variable {x:Operand} {m c:Nat}
theorem aDh {y z:Operand} {T e k:Nat} {g off:Nat} {lo hi:Nat} (hT:P.underlying T=some (.slice e)) (hk:∀ w,(Go.sizeOf e).run P w=.ok k w) (ae:o.op=.slice T x (some y) (some z) none) (hx:iX l x=some (.slice (some ⟨g,off,none⟩) m c)) (hy:iX l y=some (.int .i64 lo)) (hz:iX l z=some (.int .i64 hi)) (fl:lo<=hi) (ot:hi<=c) (y6:m<=c) (ax:lo<c) (w:World) :
  oM P l o (.slice (some ⟨g,off+lo*k,none⟩) (hi - lo) (c - lo)) w w:=fun ρ hρ=>by
 have hB:=HB (P:=P) w m c (some (.int .i64 lo)) (some (.int .i64 hi)) lo hi (.inr ⟨_,rfl⟩) (.inr ⟨_,rfl⟩) (by omega) (by omega) (by omega) y6
 have kx:(⟨g,off,none⟩:Addr).add (lo*k)=⟨g,off+lo*k,none⟩:=by unfold Addr.add;simp
 simp [execOp,ae,hρ _ _ hx,hρ _ _ hy,hρ _ _ hz,Instr.sliceAt,Instr.slice,run_underlying hT,hB,hk];grind
theorem aJr {y z u:Operand} {T e k:Nat} {ad:Option Addr} {lo hi mx:Nat} (hT:P.underlying T=some (.slice e)) (hk:∀ w,(Go.sizeOf e).run P w=.ok k w) (ae:o.op=.slice T x (some y) (some z) (some u)) (hx:iX l x=some (.slice ad m c)) (hy:iX l y=some (.int .i64 lo)) (hz:iX l z=some (.int .i64 hi)) (hu:iX l u=some (.int .i64 mx)) (fl:lo<=hi) (ot:hi<=mx) (Df:mx<=c) (w:World) :
  oM P l o (.slice (if mx=lo then ad else ad.map fun q=>q.add (lo*k)) (hi - lo) (mx - lo)) w w:=fun ρ hρ=>by
 have hB:(Instr.sliceBounds true m c (some (.int .i64 lo)) (some (.int .i64 hi)) (some (.int .i64 mx))).run P w=.ok (lo,hi,mx) w:=by
  have h1:∀ code,(Instr.sliceBound (.int .i64 mx) c code).run P w=.ok mx w:=fun code=>run_sliceBound w rfl c (by omega) (by omega) code
  have h2:∀ code,(Instr.sliceBound (.int .i64 hi) mx code).run P w=.ok hi w:=fun code=>run_sliceBound w rfl mx (by omega) (by omega) code
  have h3:∀ code,(Instr.sliceBound (.int .i64 lo) hi code).run P w=.ok lo w:=fun code=>run_sliceBound w rfl hi (by omega) (by omega) code
  simp_all [Instr.sliceBounds]
 simp [execOp,ae,hρ _ _ hx,hρ _ _ hy,hρ _ _ hz,hρ _ _ hu,Instr.sliceAt,Instr.slice,run_underlying hT,hB,hk]
theorem aAQ {T e:TypeId} {z:Value} {a:Addr} (hT:P.underlying T=some (.slice e)) (ae:o.op=.call { callee:=.builtin .clear,args:=#[x],argTypes:=#[T] }) (hx:iX l x=some v) (hv:v=.slice (some a) (m+1) c) (hz:(zeroValue e).run P w=.ok z w)
  (hr:(storeCells a (Builtin.zeroCells z.cells (m+1)).toList).run P w=.ok () w'):oM P l o (.tuple #[]) w w':=have _:=G;fun ρ hρ=>by
 subst hv;simp [execOp,ae,resolve,invoke,builtin,hρ _ _ hx,Builtin.clear_,run_underlying hT,hz,hr]
end
end Go.Sx
namespace Go.Proofs.YtfgdfpnkhdlmfaaGreat
open Go Go.Sx Go.RowKit
set_option maxRecDepth 100000
section
variable [G:Ghost]
theorem aHS:Tryz.prog.funcs[104]? = some Tryz.f104:=by have _:=G;rfl
theorem aFR:∃ z,(∀ w,(zeroValue 56).run Tryz.prog w=.ok z w)/\z.cells.size=13/\∀ u∈z.cells.toList,u.oneCell'=true:=by
 have _:=G;refine ⟨((((Tryz.prog.info? 56).getD default).zero).getD (.bool false)),fun w=>?_,by rfl,?_⟩
 ·rfl
 ·have:((((Tryz.prog.info? 56).getD default).zero).getD (.bool false)).cells.toList.all Value.oneCell'=true:=by rfl
  grind
theorem aLB (es:List (List CV)) (q:Nat) (hq:q<es.length) (aj:es.length<1000000):OG Tryz.prog 104 56 13 [ci (q:Int),ci ((q+1:Nat):Int)] es (es.eraseIdx q) true:=by
 intro B V i v hv cu hT hk cn;have hl:=Vec.sl_live cu;refine xP aHS rfl fun F n hF ba=>?_
 intro n0 w0 env a w Qr hr cq;subst cn;obtain ⟨xs,ej,au,bk⟩:=hr.mem.vec i v hv hl;have ap:=ej.s (Vec.sl_T cu);rw [hT,hk] at ap ej;obtain ⟨ao,c,hh,Ij,gt⟩:=ap.slice;have e0:=(hr.ev (.tmp 0)).1;have e1:=(hr.ev (.tmp 1)).1;have e2:=(hr.ev (.tmp 2)).1;change AV.holds env w (kss V) (.own i v.ver) (a.eval (.tmp 0)) at e0;change AV.holds env w (kss V) (.cv (.val (.int .i64 q))) (a.eval (.tmp 1)) at e1;change AV.holds env w (kss V) (.cv (.val (.int .i64 ((q+1:Nat):Int)))) (a.eval (.tmp 2)) at e2;simp only [AV.holds,CV.holds] at e0 e1 e2
 have di:a.tmps.size=33:=by have:=hr.tm.length;simpa using this
 have hs:Sl 33 a [(0,.slice ao v.es.length c),(1,.int .i64 q),(2,.int .i64 ((q+1:Nat):Int))]:=by
  refine ⟨di,fun d u hd=>?_⟩
  grind [lkv]
 have dO:xs.length=v.es.length*13:=ap.len;have Ec:∀ u∈xs,u.oneCell'=true:=CV.vals.one au;obtain ⟨D,nm⟩:∃ D,a.defers=D:=⟨_,rfl⟩;have ac:=nm
 have ji:∀ p,p<=v.es.length->(v.es.take p).flatten.length=p*13:=by
  intro p hp
  have:∀ (l:List (List CV)),(∀ y∈l,y.length=13)->l.flatten.length=l.length*13:=by
   intro l
   induction l with
   | nil=>intro _;simp
   | cons y l ih=>grind
  grind
 have N6:v.es.eraseIdx q=v.es.take q++v.es.drop (q+1):=List.eraseIdx_eq_take_drop_succ _ _;have N7:(v.es.eraseIdx q).length=v.es.length - 1:=List.length_eraseIdx_of_lt hq;obtain ⟨m,hm⟩:∃ m,v.es.length=q+1+m:=⟨v.es.length - (q+1),by omega⟩
 have nu:xs.length=q*13+13+m*13:=by rw [dO,hm];omega
 rcases ap with ⟨a',_,h2,_⟩ | ⟨⟨h0,h1⟩,g,hg,ew⟩
 ·omega
 rcases h1 with ⟨_,h2⟩ | ⟨g1,cap,cur,h1,fg,da,bq,zd,aT,kp⟩
 ·omega
 rw [hh] at h1 hg ew;obtain ⟨rfl,rfl⟩:ao=some ⟨g1,0,none⟩/\c=cap:=by grind
 have ez:g=g1:=by simpa [Value.ownBlock] using ew.symm
 subst ez;have jh:bM (env.hdr i v.ver)=some g:=by rw [hh];exact hg
 have r8:g<w.heap.size:=(Array.getElem?_eq_some_iff.1 da).1;have lr:∃ c',c=c'+1:=⟨c - 1,by omega⟩
 have wm:∀ n,bM (.slice (some ⟨g,0,none⟩) n c)=some g:=fun n=>by obtain ⟨c',rfl⟩:=lr;rfl
 have fin:∀ (a':Act) (w':World) (l:List (Nat×Value)),a'.defers=D->Sl 33 a' l->lkv l 6=some (.slice (some ⟨g,0,none⟩) (v.es.length - 1) c) ->
   OwnsV w' n0 56 13 (.slice (some ⟨g,0,none⟩) (v.es.length - 1) c) (v.es.length - 1) (xs.take (q*13)++xs.drop (q*13+13))->w.grownBy w' (some g)->Qr .ret a' w':=by
  intro a' w' l ac hs h6 jm qd
  have nr:CV.vals w env.S (v.es.eraseIdx q).flatten (xs.take (q*13)++xs.drop (q*13+13)):=by
   have lx:v.es.flatten=(v.es.take q).flatten++(v.es.drop q).flatten:=by rw [<- List.flatten_append,List.take_append_drop]
   have Ib:v.es.flatten=(v.es.take (q+1)).flatten++(v.es.drop (q+1)).flatten:=by rw [<- List.flatten_append,List.take_append_drop]
   have h2:=au;have h3:=au;rw [lx] at h2;rw [Ib] at h3;have qn:=eG h2;have zi:=eG h3;rw [ji q (by omega)] at qn
   rw [ji (q+1) (by omega),Nat.add_mul,Nat.one_mul] at zi
   rw [N6,List.flatten_append];exact CV.vals.append qn.1 zi.2
  obtain ⟨env',m1,m2,m3,_⟩:=hr.mem.vecStep (w':=w') hv hl (.slice (some ⟨g,0,none⟩) (v.es.length - 1) c) (v.es.eraseIdx q) (xs.take (q*13)++xs.drop (q*13+13))
   (by grind) nr
   (by grind)
   (by rw [jh];exact qd) (.inl (by rw [jh,wm]))
  have aq:=(List.getElem?_eq_some_iff.1 hv).1
  let V':List Vec:=V.set i ⟨v.live,v.T,v.k,v.ver+1,v.es.eraseIdx q⟩
  have dz:AV.sco B.length (vers V') (.own i (v.ver+1)):=by simp [V',aq]
  have ah:Rel n0 w0 env' ⟨mkT 33 [(6,.own i (v.ver+1))],B,V'⟩ a' w':=by
   refine ⟨all_one hs h6 (by simp_all [AV.holds]),?_,m1⟩
   rw [AV.scos_iff];intro y hy;simp [mkT] at hy;obtain ⟨d,_,rfl⟩:=hy;simp only [lk];split
   ·exact dz
   ·simp [AV.sco]
  exact cq .ret env' _ a' w' ⟨.inr rfl,.own i (v.ver+1),rfl,rfl,rfl,by simp [V']⟩ ah (ac.trans nm.symm) m2
 refine gL ?_;refine aW hF hs ac rfl rfl rfl rfl (eI rfl rfl _) fun a ac hs=>?_
 refine wpListIn_nil ⟨rfl,?_⟩;refine gL ?_;refine aW hF hs ac rfl rfl rfl rfl (aF rfl rfl _) fun a ac hs=>?_
 refine aW hF hs ac rfl rfl rfl rfl (aF rfl rfl _) fun a ac hs=>?_
 refine aW hF hs ac rfl rfl rfl rfl (aF rfl rfl _) fun a ac hs=>?_
 refine aW hF hs ac rfl rfl rfl rfl (aF rfl rfl _) fun a ac hs=>?_
 refine aW hF hs ac rfl rfl rfl rfl (xN gP rfl rfl _) fun a ac hs=>?_
 refine aW hF hs ac rfl rfl rfl rfl (aJr gP iR rfl rfl rfl rfl rfl (by omega) (by omega) (by omega) _) fun a ac hs=>?_
 refine wpListIn_nil ⟨rfl,?_⟩;refine LL ?_;refine aW hF hs ac rfl rfl rfl rfl (aF rfl rfl _) fun a ac hs=>?_
 refine aW hF hs ac rfl rfl rfl rfl (aF rfl rfl _) fun a ac hs=>?_
 refine aW hF hs ac rfl rfl rfl rfl (TL rfl rfl rfl _) fun a ac hs=>?_
 refine wpListIn_nil ⟨rfl,wpIn_cond_split (hs.env _ _ rfl) (fun h=>?_) fun h=>wpIn_skip ?_⟩
 ·have:=eq_of_beq h;omega
 refine gL ?_;refine aW hF hs ac rfl rfl rfl rfl (aF rfl rfl _) fun a ac hs=>?_
 refine aW hF hs ac rfl rfl rfl rfl (xN gP rfl rfl _) fun a ac hs=>?_
 refine aW hF hs ac rfl rfl rfl rfl (eI rfl rfl _) fun a ac hs=>?_
 refine wpListIn_nil ⟨rfl,?_⟩;obtain ⟨w1,ii⟩:∃ w1:World,w1={ w with drawn:=w.drawn+1 }:=⟨_,rfl⟩
 have dl:∀ b:Nat,w1.heap[b]? = w.heap[b]?:=fun b=>by rw [ii]
 have bz:cur.toList.length=c*13:=by omega
 obtain ⟨ti,tz,ar,H7,td,Cw,Jx⟩:=YC
 obtain ⟨a2,vg,i6⟩:∃ a2,(if c=q+1 then (some (⟨g,0,none⟩:Addr)) else (some (⟨g,0,none⟩:Addr)).map fun z=>z.add ((q+1)*13))=some a2/\∀ j u,(xs.drop (q*13+13))[j]? = some u->w1.cell? (a2.add j)=some u:=by
  split
  ·grind
  ·refine ⟨_,rfl,fun j u hj=>?_⟩
   show w1.cell? (((⟨g,0,none⟩:Addr).add ((q+1)*13)).add j)=some u;rw [addr_add,zM (by rw [dl];exact da),<- Array.getElem?_toList]
   grind
 have An:(xs.drop (q*13+13)).length=m*13:=by grind
 have C7:=run_append_room (P:=Tryz.prog) w1 28 28 56 ti gP ar g q c cur (by rw [dl];exact da) a2 (v.es.length - (q+1)) (c - (q+1)) (xs.drop (q*13+13)) (by grind) i6 (fun u hu=>Ec u (List.mem_of_mem_drop hu)) (by omega) (by grind)
 obtain ⟨cur1,jn⟩:∃ cur1:Array Value,cur1=(cur.toList.take (q*ti.size)++xs.drop (q*13+13)++cur.toList.drop (q*ti.size+(xs.drop (q*13+13)).length)).toArray:=⟨_,rfl⟩;rw [<- jn,show q+(v.es.length - (q+1))=v.es.length - 1 by omega] at C7
 rw [td,An] at jn;have jz:cur1.toList=cur.toList.take (q*13)++xs.drop (q*13+13)++cur.toList.drop (q*13+m*13):=by rw [jn]
 have ny:cur1.size=c*13:=by
  grind
 have lz:(w1.setRow g cur1).heap[g]? = some (.cells cur1 56 (0,0)):=zK (by rw [dl];exact da)
 obtain ⟨zz,Fg,tk,ia⟩:=aFR;have gz:(Builtin.zeroCells zz.cells (0+1)).toList.length=13:=by rw [Array.length_toList,size_zeroCells,tk]
 have N8:∀ u∈(Builtin.zeroCells zz.cells (0+1)).toList,u.oneCell'=true:=by
  intro u hu;simp only [Builtin.zeroCells] at hu;have:=uM zz.cells (by omega) 1
  simp only [Nat.one_mul] at this;rw [Nat.zero_add,Nat.one_mul,this] at hu;exact List.all_eq_true.1 (CG _ (List.all_eq_true.2 ia) 1) u hu
 have C8:=run_storeCells_at Tryz.prog g (0+(v.es.length - 1)*13) 56 (Builtin.zeroCells zz.cells (0+1)).toList 0 cur1 (w1.setRow g cur1) lz (by rw [gz,ny];omega) N8
 obtain ⟨cur2,jo⟩:∃ cur2:Array Value,cur2=(cur1.toList.take (0+(v.es.length - 1)*13+0)++(Builtin.zeroCells zz.cells (0+1)).toList++cur1.toList.drop (0+(v.es.length - 1)*13+0+(Builtin.zeroCells zz.cells (0+1)).toList.length)).toArray:=⟨_,rfl⟩;rw [<- jo] at C8
 have zg:cur2.size=c*13:=by
  rw [<- Array.length_toList,jo];have h5:cur1.toList.length=c*13:=by omega
  simp [gz];omega
 have N9:((w1.setRow g cur1).setRow g cur2).heap[g]? = some (.cells cur2 56 (0,0)):=zK lz
 have Ic:cur2.toList.take ((v.es.length - 1)*13)=xs.take (q*13)++xs.drop (q*13+13):=by
  have h5:cur1.toList.length=c*13:=by omega
  have h6:v.es.length - 1=q+m:=by omega
  rw [jo];simp;rw [List.take_append_of_le_length (by grind),List.take_take,Nat.min_self,jz,h6]
  rw [List.take_append_of_le_length (by grind)]
  have jy:cur.toList.take (v.es.length*13)=xs:=kp;have h7:cur.toList.take (q*13)=xs.take (q*13):=by rw [<- jy,List.take_take,Nat.min_eq_left (by omega)]
  rw [h7];exact List.take_of_length_le (by grind)
 refine LM ba GD ?_;rw [<- ii];refine kV ba hs ac 0 rfl (by kernel_rfl) rfl rfl rfl (fun _ _=>rfl) (fun _=>aF rfl rfl _) fun a ac hs=>?_
 refine kV ba hs ac 1 rfl (by kernel_rfl) rfl rfl rfl (fun _ _=>rfl) (fun _=>aF rfl rfl _) fun a ac hs=>?_
 refine kV ba hs ac 2 rfl (by kernel_rfl) rfl rfl rfl (fun _ _=>rfl) (fun _=>TJ gP iR rfl rfl rfl (by omega) (by omega) (by simp [Addr.add]) _) fun a ac hs=>?_
 refine kV ba hs ac 3 rfl (by kernel_rfl) rfl rfl rfl (fun _ _=>rfl) (fun _=>aF rfl rfl _) fun a ac hs=>?_
 refine kV ba hs ac 4 rfl (by kernel_rfl) rfl rfl rfl (fun _ _=>rfl) (fun _=>aF rfl rfl _) fun a ac hs=>?_
 refine kV ba hs ac 5 rfl (by kernel_rfl) rfl rfl rfl (fun _ _=>rfl) (fun _=>TH gP iR rfl rfl rfl (by omega) (by omega) _) fun a ac hs=>?_
 rw [vg] at hs;refine aHR hF (i:=6) hs rfl (by kernel_rfl) rfl rfl (by decide) (by intro c h;cases h) (xO rfl rfl rfl C7) fun a hd hs=>?_;replace ac:=hd.trans ac
 refine LN hF (i:=7) hs rfl (by kernel_rfl) (by kernel_rfl) rfl rfl (by decide) (by intro c h;cases h) (eI rfl rfl _) fun a hd hs=>?_;replace ac:=hd.trans ac
 refine ⟨rfl,?_⟩;refine gL ?_;refine aW hF hs ac rfl rfl rfl rfl (aF rfl rfl _) fun a ac hs=>?_
 refine aW hF hs ac rfl rfl rfl rfl (aF rfl rfl _) fun a ac hs=>?_
 refine aW hF hs ac rfl rfl rfl rfl (xN gP rfl rfl _) fun a ac hs=>?_
 refine aW hF hs ac rfl rfl rfl rfl (aF rfl rfl _) fun a ac hs=>?_
 refine aW hF hs ac rfl rfl rfl rfl (aDh gP iR rfl rfl rfl rfl (by omega) (by omega) (by omega) (by omega) _) fun a ac hs=>?_
 refine aFQ hF hs rfl rfl (by intro c h;cases h) (aAQ (m:=0) gP rfl rfl (by rw [show v.es.length - (v.es.length - 1)=0+1 by omega]) (Fg _) C8) fun a hd hs=>?_;replace ac:=hd.trans ac
 refine wpListIn_nil ⟨rfl,?_⟩;refine gL ?_;refine aW hF hs ac rfl rfl rfl rfl (aF rfl rfl _) fun a ac hs=>?_
 refine aW hF hs ac rfl rfl rfl rfl (eI rfl rfl _) fun a ac hs=>?_
 refine wpListIn_nil ⟨rfl,wpIn_ret (fin _ _ _ ac hs rfl ?_ ?_)⟩
 ·refine .inl ⟨by decide,.inr ⟨⟨?_,.inr ⟨g,c,cur2,rfl,fg,N9,by omega,zd,?_,?_⟩⟩,g,wm _,rfl⟩⟩
  ·simp only [List.length_append,List.length_take,List.length_drop,nu,hm];omega
  ·rw [zg]
  ·exact Ic
 ·refine ⟨by rw [ii];rfl,by rw [ii];rfl,by rw [ii];rfl,by rw [zL,zL,ii];exact Nat.le_refl _,fun b hb Ed=>?_⟩
  have sj:b≠g:=fun hc=>Ed (by rw [hc])
  rw [uY sj,uY sj,dl]
end
end Go.Proofs.YtfgdfpnkhdlmfaaGreat
namespace Go.Proofs.YtfgdfpnkhdlmfaaGreat
open Go Go.Sx Go.Stint Go.Shelf Go.RowKit Go.Sort
set_option maxRecDepth 100000
def aJs:Ren:=⟨fun x=>match x with | 189=>156 | 125=>161 | 257=>185 | 128=>194 | 129=>195 | 294=>201 | 295=>202 | 296=>203 | 297=>204 | 298=>205 | 299=>206 | 216=>207 | 300=>208 | 301=>209 | 328=>218 | 329=>211 | 330=>212 | 331=>219 | 332=>220 | 215=>166 | 343=>224 | n=>n,
 fun x=>match x with | 28=>50 | 3=>3 | 46=>201 | 0=>0 | 51=>220 | 53=>222 | 4=>4 | 183=>214 | 182=>213 | 131=>156 | 5=>5 | 9=>9 | 218=>230 | 222=>234 | 228=>240 | 229=>241 | n=>n,fun n=>n⟩
theorem aBQ:Lays.n189 Tryz.prog aJs:=by
 constructor <;> first | kernel_rfl | (intro w;kernel_rfl)
section
variable [G:Ghost]
def sorted (l:List Int):List Int:=l.mergeSort fun a b=>decide (a<=b)
theorem aAR (l:List Int):(sorted l).length=l.length:=have _:=G;List.length_mergeSort l
theorem aDi (l:List Int):sorted l=WW l:=by
 have _:=G;refine rW leI (fun a b h1 h2=>?_) ((List.mergeSort_perm l _).trans (aU leI l).symm) ?_ (kL leI (fun a b c h1 h2=>?_) (fun a b h1=>?_) l)
 ·grind [leI]
 ·exact List.pairwise_mergeSort (le:=fun a b:Int=>decide (a<=b)) (fun a b c h1 h2=>decide_eq_true (Int.le_trans (of_decide_eq_true h1) (of_decide_eq_true h2))) (fun a b=>by grind) l
 ·grind [leI]
 grind [leI]
theorem EC {F:Fence} (hF:Free F) (hr:F.round=none) {n:Nat} {P:Program} {f:FuncId} {args:Array Value} {w:World} {R:Ending->World->Prop} (h:Calls P f args w R):CallsIn F n P f args w R:=by
 rw [hF.wide hr];exact callsIn_wide.2 h
theorem RT {w:World} {S:Nat->Prop}:∀ {l:List Int} {xs:List Value},CV.vals w S (ints l).flatten xs->xs=l.map (Value.int .i64)
 | [],[],_=>have _:=G;rfl
 | [],_::_,h=>by grind [ints,CV.vals]
 | _::_,[],h=>by grind [ints,CV.vals]
 | a::l,x::xs,h=>by
  simp only [ints,List.map_cons,List.flatten_cons,List.singleton_append,CV.vals,ci,CV.holds] at h;rw [List.map_cons,h.1.1,RT (l:=l) h.2]
theorem RU {w:World} {S:Nat->Prop}:∀ (l:List Int),CV.vals w S (ints l).flatten (l.map (Value.int .i64))
 | []=>by have _:=G;simp [ints,CV.vals]
 | a::l=>by
  simp only [ints,List.map_cons,List.flatten_cons,List.singleton_append,CV.vals,ci,CV.holds];exact ⟨⟨trivial,rfl⟩,RU l⟩
theorem aFS (l:List Int):∀ x∈ints l,x.length=1:=by
 have _:=G;intro x hx;obtain ⟨a,_,rfl⟩:=List.mem_map.1 hx;rfl
theorem aJt (l:List Int) (hl:l.length<1000000):OG Tryz.prog 156 3 1 [] (ints l) (ints (sorted l)) false:=by
 intro B V j v hv cu hT hk cn F n hF ba n0 w0 e w vs hm ha hs;refine EC hF ba ?_;have lw:=Vec.sl_live cu;obtain ⟨xs,ej,au,bk⟩:=hm.vec j v hv lw;have ap:=ej.s (Vec.sl_T cu);rw [cn] at au ap ej;have dO:=RT au;subst dO;rw [hT,hk] at ap;rw [HO] at ap
 have cr:vs=#[e.hdr j v.ver]:=by
  apply Array.ext';generalize vs.toList=us at ha
  match us,ha with
  | [a],ha =>
   simp_all [AV.all,AV.holds]
 subst cr
 have none_case:∀ (a:Option Addr) (c:Nat),e.hdr j v.ver=.slice a 0 c->l=[]->Calls Tryz.prog 156 #[e.hdr j v.ver] w fun en w'=>∃ e' B' V' r u,en=.returned u/\(r=(if false=true then AV.own j (v.ver+1) else .tup [])/\B'=B/\V'=V.set j ⟨v.live,v.T,v.k,if false=true then v.ver+1 else v.ver,ints (sorted l)⟩)/\Mem n0 w0 e' B' V' w'/\Ext e w B.length (vers V) (kss V) e' w' B'.length (vers V') (kss V')/\AV.holds e' w' (kss V') r u/\AV.sco B'.length (vers V') r:=by
  intro a c hh h0;rw [hh];refine Calls.mono (Any.slices_Sort_int_none aBQ a c w) ?_;rintro en w' ⟨rfl,rfl⟩
  obtain ⟨m1,m2⟩:=hm.vecSet (w':=w') hv lw (ints (sorted [])) [] (by
   simp_all [sorted]) (by simp [sorted,ints,CV.vals]) (by simp [sorted,ints]) (World.grownBy.refl w' _)
  grind [AV.holds,AV.all,AV.sco,AV.scos]
 rcases ap with ⟨a,hh,h0,_⟩ | ⟨fm,g0,Av,jh⟩
 ·grind
 rcases fm.2 with ⟨hh,h0⟩ | ⟨g,cap,cur,hh,C3,hb,h1,h2,h3,h4⟩
 ·grind
 rw [Nat.mul_one] at h4;have hH:Holds (Value.int .i64) w g 0 l.toArray:=holds_of_blockI hb h4;have r8:g<w.heap.size:=(Array.getElem?_eq_some_iff.1 hb).1;have ef:=Any.slices_Sort_int aBQ g 0 cap l w hH r8 (by omega)
 rw [hh];refine Calls.mono ef ?_;rintro en w' ⟨rfl,q,os,rfl⟩;have di:cur.size=cap*1:=h3;have se:(sorted l).length=l.length:=aAR l;have oq:=ownsRow_sortedI (n:=q) (os:=os) se C3 hb h1 h2 di;have qd:=grownBy_sortedI (w:=w) (g:=g) (n:=q) (os:=os) (sorted l).toArray
 have jm:OwnsV (grow (putRow (Value.int .i64) (Sort.ahead w q) g 0 (sorted l).toArray) os) n0 v.T v.k (e.hdr j v.ver) (ints (sorted l)).length ((sorted l).map (Value.int .i64)):=by
  rw [hT,hk,HO,se,hh];exact OwnsV.of_row (by decide) oq
 have sf:w.grownBy (grow (putRow (Value.int .i64) (Sort.ahead w q) g 0 (sorted l).toArray) os) (bM (e.hdr j v.ver)):=by
  grind [Value.ownBlock]
 obtain ⟨m1,m2⟩:=hm.vecSet hv lw (ints (sorted l)) _ jm (RU _) (by rw [hk];exact aFS _) sf
 exact ⟨e,B,_,.tup [],_,rfl,⟨by simp,rfl,rfl⟩,m1,m2,by simp [AV.holds,AV.all],by simp⟩
end
end Go.Proofs.YtfgdfpnkhdlmfaaGreat
namespace Go.Proofs.YtfgdfpnkhdlmfaaGreat
open Go.Shelf Go.RowKit Go.Lib Go.Sort Go.Proofs
set_option maxRecDepth 100000
theorem bears {P:Program} {f:FuncId} {F B:Func} (h:P.funcs[f]? = some F) (h1:(F.name == "runtime.NumGoroutine")=false) (h2:F={ B with name:=F.name }):Bears P f B:=⟨F.name,h1,h.trans (congrArg some h2)⟩
def aM6:Ren:=⟨fun x=>match x with | 5=>141 | 7=>166 | n=>n,fun x=>match x with | 22=>3 | 3=>3 | 4=>4 | n=>n,fun n=>n⟩
theorem Tryz.cmpInt:SlLaysC2.n5 Tryz.prog aM6:=by
 constructor <;> first | kernel_rfl | (intro w;kernel_rfl) | exact bears Tryz.func141 (by rfl) (by rfl) | exact bears Tryz.func166 (by rfl) (by rfl)
def aM7:Ren:=⟨fun x=>match x with | 6=>111 | 15=>161 | 14=>160 | 28=>194 | 29=>195 | 20=>186 | 21=>187 | 22=>188 | 23=>189 | 24=>190 | 25=>191 | 26=>192 | 27=>193 | 46=>210 | 47=>211 | 48=>212 | 49=>213 | 50=>214 | 57=>221 | n=>n,
 fun x=>match x with | 22=>78 | 24=>54 | 25=>150 | 3=>3 | 39=>201 | 0=>0 | 53=>220 | 55=>222 | 4=>4 | 46=>214 | 45=>213 | 50=>156 | 5=>5 | 9=>9 | 66=>230 | 70=>234 | 76=>240 | 77=>241 | n=>n,fun n=>n⟩
theorem Tryz.sortIt:SlLaysF0.n6 Tryz.prog aM7:=by
 constructor <;> first | kernel_rfl | (intro w;kernel_rfl) | exact bears Tryz.func111 (by rfl) (by rfl) | exact bears Tryz.func160 (by rfl) (by rfl) | exact bears Tryz.func186 (by rfl) (by rfl) | exact bears Tryz.func187 (by rfl) (by rfl) | exact bears Tryz.func188 (by rfl) (by rfl) | exact bears Tryz.func189 (by rfl) (by rfl) | exact bears Tryz.func190 (by rfl) (by rfl) | exact bears Tryz.func191 (by rfl) (by rfl) | exact bears Tryz.func192 (by rfl) (by rfl) | exact bears Tryz.func193 (by rfl) (by rfl) | exact bears Tryz.func210 (by rfl) (by rfl) | exact bears Tryz.func213 (by rfl) (by rfl) | exact bears Tryz.func214 (by rfl) (by rfl) | exact bears Tryz.func221 (by rfl) (by rfl)
set_option maxHeartbeats 1000000 in
theorem aLC (a b:Int) (W:World) (g:Nat) (hg:W.heap[g]? = some (.cells #[.int .i64 a,.int .i64 b] 3 (0,0))):Calls Tryz.prog 140 #[.slice (some ⟨g,0,none⟩) 2 2] W fun e w'=>e=.returned (.int .i64 (if a=0 then b else a))/\w'=W:=by
 have c0:W.cell? ⟨g,0,none⟩=some (.int .i64 a):=by simp [World.cell?,hg]
 have c1:W.cell? ⟨g,1,none⟩=some (.int .i64 b):=by simp [World.cell?,hg]
 go_wp2
 refine wp_loop_rounds 3 ?_
 iterate 3
  all_goals try rw [rounds_succ]
  all_goals go_wp2
 all_goals (go_ret;simp_all)
theorem at3 (W:World) (a b c:Obj):((((W.alloc a).alloc b).alloc c).drew).heap[W.heap.size+1+1]? = some c:=by
 have h:=heap_alloc_new ((W.alloc a).alloc b) c;have e:((W.alloc a).alloc b).heap.size=W.heap.size+1+1:=by simp
 rw [e] at h;exact h
set_option maxHeartbeats 1000000 in
theorem aJu (x y:Int×Int) (W:World):Calls Tryz.prog 112 #[.agg #[.int .i64 x.1,.int .i64 x.2],.agg #[.int .i64 y.1,.int .i64 y.2]] W fun e w'=>e=.returned (.int .i64 (if Lib.compareInt x.1 y.1=0 then Lib.compareInt x.2 y.2 else Lib.compareInt x.1 y.1))/\∃ q os',w'=grow (W.drewN q) os':=by
 have C9:=fun a b W'=>AnyG.cmp_Compare_int Tryz.cmpInt a b W'
 generalize Lib.compareInt=cf at C9 ⊢;have J2:=aLC (cf x.1 y.1) (cf x.2 y.2);generalize (if cf x.1 y.1=0 then cf x.2 y.2 else cf x.1 y.1)=r at J2 ⊢
 go_wp2
 go_region_held3 (fun w'=>w'.cell? ⟨W.heap.size,0,none⟩=some (.int .i64 x.1)/\w'.cell? ⟨W.heap.size,1,none⟩=some (.int .i64 x.2)/\w'.cell? ⟨W.heap.size+1,0,none⟩=some (.int .i64 y.1)/\w'.cell? ⟨W.heap.size+1,1,none⟩=some (.int .i64 y.2)) (go_keep)
  (first
   | (go_at_call 141;refine (C9 _ _ _).mono ?_;rintro e w' ⟨rfl,rfl⟩)
   | (go_at_call 140;refine (J2 _ _ (at3 _ _ _ _)).mono ?_;rintro e w' ⟨rfl,rfl⟩))
 go_wp2
 go_ret
 exact ⟨rfl,1,_,by rw [alloc_eq_grow,alloc_eq_grow,alloc_eq_grow,grow_grow,grow_grow];rfl⟩
end Go.Proofs.YtfgdfpnkhdlmfaaGreat
namespace Go.Proofs.YtfgdfpnkhdlmfaaGreat
open Go Go.Sx Go.Stint Go.Shelf Go.RowKit Go.Sort Go.Lib
set_option maxRecDepth 100000
def encI (x:Int×Int):List Value:=[.int .i64 x.1,.int .i64 x.2]
def cfI (x y:Int×Int):Int:=if Lib.compareInt x.1 y.1=0 then Lib.compareInt x.2 y.2 else Lib.compareInt x.1 y.1
theorem NM (l:List (Int×Int)):(flatK encI 2 l.toArray).toList=l.flatMap encI:=by
 unfold flatK;rw [Array.toList_map,Array.toList_range,List.size_toArray]
 induction l with
 | nil=>rfl
 | cons x l ih =>
  rw [List.length_cons,Nat.add_mul,Nat.one_mul,List.range_succ_eq_map,List.range_succ_eq_map,List.flatMap_cons,<- ih];simp;show _=Value.int .i64 x.1::Value.int .i64 x.2::_;rw [List.cons.injEq,List.cons.injEq];refine ⟨by rfl,by rfl,List.map_congr_left fun t _=>?_⟩
  grind
variable {w:World} {g:Nat} {cur vs:Array Value}
theorem aFT {e:TypeId} (hb:w.heap[g]? = some (.cells cur e (0,0))) (ht:cur.toList.take vs.size=vs.toList):Holds id w g 0 vs:=by
 intro j hj;refine ⟨?_,by simp [World.frozen?,hb]⟩
 have h1:(cur.toList.take vs.size)[j]? = vs.toList[j]?:=by rw [ht]
 grind [List.getElem?_take_of_lt,World.cell?]
theorem aHT (cur vs:Array Value) (h:vs.size<=cur.size):(putCells id 0 vs cur).toList.take vs.size=vs.toList:=by
 apply List.ext_getElem?;grind [putCells]
variable {os:Array Obj}
theorem aHU {base cap n k m:Nat} {e:TypeId} (hl:vs.size=m*k) (fg:base<=g) (hb:w.heap[g]? = some (.cells cur e (0,0))) (h1:m<=cap) (h2:cap<=maxLen) (h3:cur.size=cap*k) :
  (grow (putRow id (Sort.ahead w n) g 0 vs) os).ownsRow base e k (.slice (some ⟨g,0,none⟩) m cap) m vs.toList:=by
 have hp:(grow (putRow id (Sort.ahead w n) g 0 vs) os).heap[g]? = some (.cells (putCells id 0 vs cur) e (0,0)):=by
  grind [heap_grow_old,putRow,mapBlock,Sort.ahead,onCells]
 have jq:m*k<=cap*k:=Nat.mul_le_mul_right _ h1;exact ⟨by omega,.inr ⟨g,cap,_,rfl,fg,hp,h1,h2,by simp [putCells,h3],by rw [<- hl];exact aHT cur vs (by omega)⟩⟩
theorem aFU {n:Nat} (vs:Array Value):w.grownBy (grow (putRow id (Sort.ahead w n) g 0 vs) os) (some g):=by
 refine ⟨rfl,rfl,rfl,by simp,fun k hk ax=>?_⟩
 grind [heap_grow_old,putRow,mapBlock,Sort.ahead]
theorem aDj (blk off size:Nat) (w:World):CmpLays Tryz.prog 112 #[] encI 2 cfI blk off size w:=fun _ _ _ _ x y=>aJu x y _
theorem NN (x y:Int×Int):ltOf cfI x y=iZ x.1 x.2 y.1 y.2:=by
 unfold ltOf cfI Lib.compareInt iZ;grind
theorem aM8:SWO (ltOf cfI):=by
 constructor
 ·grind [NN,iZ]
 ·grind [NN,iZ]
 grind [NN,iZ]
theorem YD (x y:Int×Int) (h1:ltOf cfI x y=false) (h2:ltOf cfI y x=false):x=y:=by
 grind [NN,iZ]
theorem aHV (l:List (Int×Int)):(l.mergeSort fun x y=>!ltOf cfI y x)=kZ l:=by
 have e:(fun x y=>!ltOf cfI y x)=leT:=by funext x y;rw [NN];rfl
 rw [e]
 have ht:∀ a b c:Int×Int,leT a b=true->leT b c=true->leT a c=true:=by
  grind [leT,iZ]
 have hd:∀ a b:Int×Int,leT a b=false->leT b a=true:=by
  grind [leT,iZ]
 refine rW (le:=leT) (fun a b h1 h2=>?_) ((List.mergeSort_perm l _).trans (aU leT l).symm) ?_ (kL leT ht hd l)
 ·exact YD a b (by grind) (by grind)
 ·exact List.pairwise_mergeSort (le:=leT) ht (fun a b=>by
   grind) l
section
variable [G:Ghost]
theorem NO {w:World} {S:Nat->Prop}:∀ {l:List (Int×Int)} {xs:List Value},CV.vals w S (l.map itC).flatten xs->xs=l.flatMap encI
 | [],[],_=>have _:=G;rfl
 | [],_::_,h=>by grind [CV.vals]
 | a::l,xs,h=>by
  match xs,h with
  | [],h=>grind [itC,CV.vals]
  | [_],h=>grind [itC,CV.vals]
  | x::y::xs,h =>
   rw [List.flatMap_cons,h.1.1,h.2.1.1,NO (l:=l) h.2.2];rfl
theorem NP {w:World} {S:Nat->Prop}:∀ (l:List (Int×Int)),CV.vals w S (l.map itC).flatten (l.flatMap encI)
 | []=>by have _:=G;simp [CV.vals]
 | a::l=>by
  simp only [List.map_cons,List.flatten_cons,itC,List.cons_append,List.flatMap_cons,encI,CV.vals,ci,CV.holds];exact ⟨⟨trivial,rfl⟩,⟨trivial,rfl⟩,NP l⟩
theorem aM9 (l:List (Int×Int)) (hl:l.length<1000000):OG Tryz.prog 111 54 2 [.fn 112 []] (l.map itC) ((kZ l).map itC) false:=by
 intro B V j v hv cu hT hk cn F n hF ba n0 w0 e w vs hm ha hs;refine EC hF ba ?_;have lw:=Vec.sl_live cu;obtain ⟨xs,ej,au,bk⟩:=hm.vec j v hv lw;have ap:=ej.s (Vec.sl_T cu);rw [cn] at au ap ej;have dO:=NO au;subst dO;rw [hT,hk] at ap;rw [List.length_map] at ap
 obtain ⟨fv,cr,Dh⟩:∃ fv,vs=#[e.hdr j v.ver,fv]/\fv=.func (.func 112) #[] #[]:=by
  generalize uv:vs.toList=us at ha
  match us,ha with
  | [a,b],ha =>
   simp [AV.all] at ha;obtain ⟨h1,u,h2,h3⟩:=ha
   have hu:u=#[]:=by
    grind [CV.vals]
   exact ⟨b,by apply Array.ext';rw [uv,h1.1],by grind⟩
 subst cr;subst Dh;have se:(kZ l).length=l.length:=(aU leT l).length_eq
 have none_case:∀ (a:Option Addr) (c:Nat),e.hdr j v.ver=.slice a 0 c->l=[]->Calls Tryz.prog 111 #[e.hdr j v.ver,.func (.func 112) #[] #[]] w fun en w'=>∃ e' B' V' r u,en=.returned u/\(r=(if false=true then AV.own j (v.ver+1) else .tup [])/\B'=B/\V'=V.set j ⟨v.live,v.T,v.k,if false=true then v.ver+1 else v.ver,(kZ l).map itC⟩)/\Mem n0 w0 e' B' V' w'/\Ext e w B.length (vers V) (kss V) e' w' B'.length (vers V') (kss V')/\AV.holds e' w' (kss V') r u/\AV.sco B'.length (vers V') r:=by
  intro a c hh h0;rw [hh];refine Calls.mono (AnyF.slices_SortFunc_none Tryz.sortIt a c _ w) ?_;rintro en w' ⟨rfl,rfl⟩;subst h0;obtain ⟨m1,m2⟩:=hm.vecSet (w':=w') hv lw ((kZ []).map itC) [] ej (by grind) (by grind) (World.grownBy.refl w' _)
  grind [AV.holds,AV.all,AV.sco,AV.scos]
 rcases ap with ⟨a,hh,h0,_⟩ | ⟨fm,g0,Av,jh⟩
 ·grind
 rcases fm.2 with ⟨hh,h0⟩ | ⟨g,cap,cur,hh,C3,hb,h1,h2,h3,h4⟩
 ·grind
 have De:(flatK encI 2 l.toArray).size=l.length*2:=by simp
 have hH:HoldsK encI 2 w g 0 l.toArray:=aFT hb (by grind [NM])
 have r8:g<w.heap.size:=(Array.getElem?_eq_some_iff.1 hb).1;have ef:=AnyQ.slices_SortFunc_total Tryz.sortIt 2 (fun w=>by rfl) (fun w=>by rfl) encI (fun _=>rfl) (fun x v hv=>by simp [encI] at hv;rcases hv with rfl | rfl <;> rfl) cfI aM8 112 #[] g 0 cap l.toArray w (enters_of Tryz.func112 (by rfl) rfl) (aDj g 0 l.toArray.size w) hH r8 (by grind) YD
 rw [hh];rw [List.size_toArray] at ef;refine Calls.mono ef ?_;rintro en w' ⟨rfl,q,os,rfl⟩;have e1:(l.mergeSort fun x y=>!ltOf cfI y x)=kZ l:=aHV l
 simp only [e1];have Id:(flatK encI 2 (kZ l).toArray).size=l.length*2:=by simp [se]
 have oq:=aHU (n:=q) (os:=os) Id C3 hb h1 h2 h3;have qd:=aFU (w:=w) (g:=g) (n:=q) (os:=os) (flatK encI 2 (kZ l).toArray);rw [NM] at oq
 have jm:OwnsV (sortWorldK encI 2 w g 0 q (kZ l).toArray os) n0 v.T v.k (e.hdr j v.ver) ((kZ l).map itC).length ((kZ l).flatMap encI):=by
  rw [hT,hk,List.length_map,se,hh];exact OwnsV.of_row (by decide) oq
 have sf:w.grownBy (sortWorldK encI 2 w g 0 q (kZ l).toArray os) (bM (e.hdr j v.ver)):=by
  rw [Av];rw [hh] at jh;rw [<- jh];exact qd
 obtain ⟨m1,m2⟩:=hm.vecSet hv lw ((kZ l).map itC) _ jm (NP _) (by rw [hk];intro x hx;obtain ⟨a,_,rfl⟩:=List.mem_map.1 hx;rfl) sf
 exact ⟨e,B,_,.tup [],_,rfl,⟨by simp,rfl,rfl⟩,m1,m2,by simp [AV.holds,AV.all],by simp⟩
end
end Go.Proofs.YtfgdfpnkhdlmfaaGreat
namespace Go.Proofs.YtfgdfpnkhdlmfaaGreat
open Go Go.Sx Go.Stint
set_option maxRecDepth 100000
noncomputable section
def aFV (r:List CV):Prop:=oks liA r 0=true/\cis r 0 13=r/\r.length=13
def wI (caps out:List CV):Prop:=∃ rows:List (List CV),rows.length<=1000000/\(∀ r∈rows,aFV r)/\caps=[.ref [.row 13 rows]]/\out=[.row 0 ((eM rows).map fun e=>ci (e.1:Int)::e.2),shC shB]
variable {caps o o':List CV}
theorem NQ (h:wI caps o) (h':wI caps o'):o'=o:=by
 obtain ⟨r,-,-,rfl,rfl⟩:=h;obtain ⟨r',-,-,hc,rfl⟩:=h';grind
theorem aBR [Ghost]:Fns Tryz.prog sg (D [] 1):=NL (its:=[]) (fun _ e he=>by grind) rfl rfl 1
theorem aFW (G:Ghost):NJ 180 (cIt wI):=NK fun caps out h=>by
 obtain ⟨r,hl,hr,rfl,rfl⟩:=nE h;refine ⟨fun k es T cs h=>by grind,_,shB,rfl,by simp,by rfl,?_,_,rfl⟩
 refine LI (fn:=Tryz.f180) (c:=aE Tryz.f180) (fe:=aFI) (dp:=11) (M:=D [] 1) (fun {_}=>aBR) rfl (YB rfl 1) (by rfl) (by rfl) (by rfl) (by rfl) fun l yf es es' hR=>?_
 have:=RR (M:=D [] 1) (l:=l) (cvA:=fun x:List CV=>x) r hr hl es es' hR
 simp_all [aLy]
theorem aFX (G:Ghost):NJ 184 (cIt wI):=NK fun caps out h=>by
 obtain ⟨r,hl,hr,rfl,rfl⟩:=nE h;refine ⟨fun k es T cs h=>by grind,_,shB,rfl,by simp,by rfl,?_,_,rfl⟩
 refine LI (fn:=Tryz.f184) (c:=aE Tryz.f184) (fe:=aFJ) (dp:=11) (M:=D [] 1) (fun {_}=>aBR) rfl (YB rfl 1) (by rfl) (by rfl) (by rfl) (by rfl) fun l yf es es' hR=>?_
 have:=RR (M:=D [] 1) (l:=l) (cvA:=fun x:List CV=>x) r hr hl es es' hR
 simp_all [aLz]
def aFY:ITS:=[(180,cIt wI),(184,cIt wI),(216,aIv),(217,aFG 1001)]
theorem aHW (G:Ghost):@QL G Tryz.prog aFY:=by
 intro e he;simp [aFY] at he;rcases he with rfl | rfl | rfl | rfl
 ·exact aFW G
 ·exact aFX G
 ·exact aJn
 ·exact aFH 1001 G
theorem aDk {A B:Type} (f:A->B) (l:List A):eM (l.map f)=(eM l).map fun e=>(e.1,f e.2):=by
 unfold eM;simp [List.zipIdx_map,List.map_map,List.map_reverse]
theorem aJv (x:Dd):aFV x.cv:=⟨rfl,rfl,rfl⟩
theorem aJw (x:By):aFV x.cv:=⟨rfl,rfl,rfl⟩
theorem RV {A:Type} (cvA:A->List CV) (l:List A):((eM (l.map cvA)).map fun e=>ci (e.1:Int)::e.2)=(eM l).map fun e=>ci (e.1:Int)::cvA e.2:=by
 simp [aDk,List.map_map]
theorem aBS (l:List Dd) (hl:l.length<=1000000):cIt wI [.ref [.row 13 (l.map Dd.cv)]]=some [.row 0 ((eM l).map bD),shC shB]:=by
 have h:wI [.ref [.row 13 (l.map Dd.cv)]] [.row 0 ((eM l).map bD),shC shB]:=⟨l.map Dd.cv,by grind,fun r hr=>by
  obtain ⟨x,-,rfl⟩:=List.mem_map.1 hr;exact aJv x,rfl,by rw [RV];rfl⟩
 exact vP h fun o ho=>NQ h ho
theorem aHX (l:List By) (hl:l.length<=1000000):cIt wI [.ref [.row 13 (l.map By.cv)]]=some [.row 0 ((eM l).map bB),shC shB]:=by
 have h:wI [.ref [.row 13 (l.map By.cv)]] [.row 0 ((eM l).map bB),shC shB]:=⟨l.map By.cv,by grind,fun r hr=>by
  obtain ⟨x,-,rfl⟩:=List.mem_map.1 hr;exact aJw x,rfl,by rw [RV];rfl⟩
 exact vP h fun o ho=>NQ h ho
def aFZ (caps out:List CV):Prop:=∃ (c:Cm) (day k:Int),c.ds.length<=60/\(∀ x∈c.ds,x.ok=true)/\caps=[.ref c.rs,.ref [ci day,ci k]]/\out=[.row 0 ((gE c.ds day k).map Dd.cv),shC shD]
theorem aDl (h:aFZ caps o) (h':aFZ caps o'):o'=o:=by
 obtain ⟨c,d,k,-,-,rfl,rfl⟩:=h;obtain ⟨c',d',k',-,-,hc,rfl⟩:=h';grind [Cm.rs,vQ,UO]
theorem aJx (G:Ghost):NJ 170 (cIt aFZ):=NK fun caps out h=>by
 obtain ⟨c,d,k,hl,aa,rfl,rfl⟩:=nE h;refine ⟨fun k es T cs h=>by grind,_,shD,rfl,by simp,by rfl,?_,_,rfl⟩
 refine LI (fn:=Tryz.f170) (c:=aE Tryz.f170) (fe:=aAO) (dp:=11) (M:=D aFY 2) (fun {_}=>NL aHW rfl rfl 2) rfl (YB rfl 2) (by rfl) (by rfl) (by rfl) (by rfl) fun l yf es es' hR=>?_
 have:=aDg (M:=D aFY 2) (l:=l) c d k hl aa (HP (its:=aFY) (fun n l hl=>aBS l hl) 0 _ _ c.ds k (by omega) aa)
  (fun A B C a b h1 h2 h3 h4=>vP (S:=aHO) ⟨A,B,C,a,b,h1,h2,h3,h4,rfl,rfl⟩ fun o ho=>aDc ⟨A,B,C,a,b,h1,h2,h3,h4,rfl,rfl⟩ ho)
  (fun A X Y C a m b hm=>by
   have hk:X.length+Y.length<1001:=by have:=hm.ll;omega
   exact vP (S:=aFF 1001) ⟨A,X,Y,C,a,m,b,hm,hk,rfl,rfl⟩ fun o ho=>RQ ⟨A,X,Y,C,a,m,b,hm,hk,rfl,rfl⟩ ho) es es' hR
 show evY Tryz.prog sg _ 11 aAO (aE Tryz.f170) l [.ref [.row 3 (c.ps.map Pas.cv),.row 13 (c.bl.map By.cv),.row 13 (c.ds.map Dd.cv)],.ref [ci d,ci k]] es=_;simp_all [aLx]
def aF0:List CV->Option (List CV)
 | []=>some [.row 13 [],.fn 56 [],.fn 104 []]
 | _=>none
theorem aJy (G:Ghost):NJ 169 aF0:=fun caps out h=>by
 unfold aF0 at h;split at h
 ·cases h
  refine ⟨fun rows sh hr=>by grind,fun k e T hr=>by grind,fun T k cs e e' hd h1 h2=>by grind,fun k T b h1 h2=>?_,fun T fs h1 h2=>by grind⟩
  obtain ⟨rfl,rfl,rfl⟩:=h2;exact ⟨by rfl,aLA⟩
 grind
def aF1 (caps out:List CV):Prop:=∃ (rows:List (List CV)) (q:Nat),q<rows.length/\rows.length<1000000/\caps=[.row 13 rows,.fn 56 [],ci (q:Int),ci ((q+1:Nat):Int)]/\out=[.row 13 (rows.eraseIdx q),cb true]
theorem aDm (h:aF1 caps o) (h':aF1 caps o'):o'=o:=by
 obtain ⟨r,q,-,-,rfl,rfl⟩:=h;obtain ⟨r',q',-,-,hc,rfl⟩:=h';simp at hc;obtain ⟨h1,h2,-⟩:=hc;have:=vQ h2;grind
theorem aJz [Ghost]:NJ 104 (cIt aF1):=uJ fun caps out h=>by
 obtain ⟨r,q,hq,hl,rfl,rfl⟩:=nE h;exact ⟨13,56,_,_,_,true,rfl,rfl,by rfl,aLB r q hq hl⟩
theorem aF2 {l m:List Int} (h:ints l=ints m):l=m:=by
 induction l generalizing m with
 | nil=>simp_all [ints]
 | cons x l ih=>cases m with
  | nil=>grind [ints]
  | cons y m =>
   simp [ints] at h;rw [vQ h.1,ih h.2]
def aF3 (caps out:List CV):Prop:=∃ l:List Int,l.length<1000000/\caps=[.row 1 (ints l),.fn 3 []]/\out=[.row 1 (ints (WW l)),cb false]
theorem aDn (h:aF3 caps o) (h':aF3 caps o'):o'=o:=by
 obtain ⟨l,-,rfl,rfl⟩:=h;obtain ⟨l',-,hc,rfl⟩:=h';grind [aF2]
theorem aJA [Ghost]:NJ 156 (cIt aF3):=uJ fun caps out h=>by
 obtain ⟨l,hl,rfl,rfl⟩:=nE h;refine ⟨1,3,_,_,_,false,rfl,rfl,by rfl,?_⟩
 rw [<- aDi];exact aJt l hl
theorem aDo {l m:List (Int×Int)} (h:l.map itC=m.map itC):l=m:=by
 induction l generalizing m with
 | nil=>simp_all
 | cons x l ih=>cases m with
  | nil=>grind
  | cons y m =>
   grind [itC,Prod.ext,vQ]
def aF4 (caps out:List CV):Prop:=∃ l:List (Int×Int),l.length<1000000/\caps=[.row 2 (l.map itC),.fn 54 [],.fn 112 []]/\out=[.row 2 ((kZ l).map itC),cb false]
theorem aDp (h:aF4 caps o) (h':aF4 caps o'):o'=o:=by
 obtain ⟨l,-,rfl,rfl⟩:=h;obtain ⟨l',-,hc,rfl⟩:=h';grind [aDo]
theorem aJB [Ghost]:NJ 111 (cIt aF4):=uJ fun caps out h=>by
 obtain ⟨l,hl,rfl,rfl⟩:=nE h;exact ⟨2,54,_,_,_,false,rfl,rfl,by rfl,aM9 l hl⟩
def aF5:ITS:=[(180,cIt wI),(184,cIt wI),(170,cIt aFZ),(169,aF0),(104,cIt aF1),(156,cIt aF3),(111,cIt aF4)]
theorem aHY (G:Ghost):@QL G Tryz.prog aF5:=by
 intro e he;simp [aF5] at he;rcases he with rfl | rfl | rfl | rfl | rfl | rfl | rfl
 ·exact aFW G
 ·exact aFX G
 ·exact aJx G
 ·exact aJy G
 ·exact aJz
 ·exact aJA
 ·exact aJB
theorem yQ:ItsR aF5 where
 ins:=fun _=>rfl
 backD:=fun _ l hl=>aBS l hl
 backB:=fun _ l hl=>aHX l hl
 done:=fun _ c day k h1 h2 h3 h4=>vP (S:=aFZ) ⟨c,day,k,h3,h4,rfl,rfl⟩ fun o ho=>aDl ⟨c,day,k,h3,h4,rfl,rfl⟩ ho
 nlay:=rfl
 sort:=fun _ l hl=>vP (S:=aF3) ⟨l,hl,rfl,rfl⟩ fun o ho=>aDn ⟨l,hl,rfl,rfl⟩ ho
 del:=fun _ l i h1 h2=>by
  have h:aF1 [.row 13 (l.map Dd.cv),.fn 56 [],ci (i:Int),ci ((i+1:Nat):Int)] [.row 13 ((l.eraseIdx i).map Dd.cv),cb true]:=⟨l.map Dd.cv,i,by grind,by grind,rfl,by grind [List.eraseIdx_eq_take_drop_succ,List.map_take,List.map_drop]⟩
  exact vP h fun o ho=>aDm h ho
 sortF:=fun _ l hl=>vP (S:=aF4) ⟨l,hl,rfl,rfl⟩ fun o ho=>aDp ⟨l,hl,rfl,rfl⟩ ho
theorem aF6 (n:Nat) [Ghost]:Fns Tryz.prog sg (D aF5 n):=NL aHY rfl rfl n
end
end Go.Proofs.YtfgdfpnkhdlmfaaGreat
namespace Go.Sx
open Go
def plT (P:Program):Nat->TypeId->Bool
 | 0,_=>false
 | n+1,t=>match P.underlying t with
  | some .bool=>true
  | some (.int _)=>true
  | some (.slice e)=>decide (0<P.cellsOf e)&&plT P n e
  | some (.struct fs)=>fs.toList.all fun f=>plT P n f.type
  | some (.array _ e)=>plT P n e
  | _=>false
def aF7 (R:TypeId->List CV->Prop):List TypeId->List CV->Prop
 | [],cs=>cs=[]
 | t::ts,cs=>∃ a b,cs=a++b/\R t a/\aF7 R ts b
def Shp (P:Program):Nat->TypeId->List CV->Prop
 | 0,_,_=>False
 | n+1,t,cs=>match P.underlying t with
  | some .bool=>∃ b,cs=[cb b]
  | some (.int k)=>∃ m,cs=[.val (.int k m)]/\(Lit.int k m).wf=true
  | some (.slice e)=>∃ es,cs=[.row (P.cellsOf e) es]/\(∀ x∈es,Shp P n e x)/\es.length*P.bytesOf e<=reachBytes
  | some (.struct fs)=>aF7 (Shp P n) (fs.toList.map (·.type)) cs
  | some (.array m e)=>aF7 (Shp P n) (List.replicate m e) cs
  | _=>False
section
variable {P:Program} {w:World} {S:Nat->Prop}
theorem aBT {k b:Nat}:∀ (es:List (List CV)) (o:Nat),(∀ i (h:i<es.length),es[i].length=k/\CV.cells w S es[i] b (o+i*k))->CV.rows w S k es b o
 | [],o,_=>by simp [CV.rows]
 | e::es,o,h=>by
  have h0:=h 0 (by simp)
  refine ⟨by grind,by grind,aBT es (o+k) fun i hi=>?_⟩
  have:=h (i+1) (by grind)
  grind
theorem aF8 {cs cs':List CV} {vs vs':List Value} (h:CV.vals w S cs vs) (h':CV.vals w S cs' vs'):CV.vals w S (cs++cs') (vs++vs'):=CV.vals.append h h'
theorem NR (R:TypeId->List CV->Prop):∀ (ts:List TypeId) (cs:List Value),cs.length=(ts.map P.cellsOf).sum ->
  (∀ j t,ts[j]? = some t->∃ cvs,R t cvs/\CV.vals w S cvs ((cs.drop ((ts.take j).map P.cellsOf).sum).take (P.cellsOf t)))->∃ cvs,aF7 R ts cvs/\CV.vals w S cvs cs
 | [],cs,hl,_=>⟨[],rfl,by
  grind [CV.vals]⟩
 | t::ts,cs,hl,h=>by
  obtain ⟨a,ha,qk⟩:=h 0 t rfl
  obtain ⟨b,hb,Bj⟩:=NR R ts (cs.drop (P.cellsOf t)) (by grind) fun j u hj=>by
   obtain ⟨c,hc,iF⟩:=h (j+1) u (by grind)
   grind [List.drop_drop]
  refine ⟨a++b,⟨a,b,rfl,ha,hb⟩,?_⟩;have:=aF8 qk Bj;simp_all
theorem weightsAll_mem {H:Type} {e:TypeId}:∀ {l:List (DataW H)} {d:DataW H},d∈l->∀ m∈d.weights P e,m∈DataW.weightsAll P e l
 | x::l,d,h,m,hm=>by
  simp [DataW.weightsAll];rcases List.mem_cons.1 h with rfl | h
  ·grind
  ·exact .inr (weightsAll_mem h m hm)
end
section
variable {H:Type} {enc:TypeId×Value->H} {P:Program} {w:World} {T:TypeId->Prop} {spare:Nat->Bool} {zh:Bool}
theorem aHZ (K:Kids P T):∀ (n fuel:Nat) (t:TypeId) (cs:List Value) (x:DataW H×List MemPlace),T t->plT P n t=true->DataW.trod enc P w 0 spare zh fuel t cs=some x->(∀ m∈x.1.weights P t,m<=reachBytes) ->
  ∃ cvs,Shp P n t cvs/\CV.vals w (fun b=>b<w.heap.size) cvs cs:=by
 intro n
 induction n with
 | zero=>grind [plT]
 | succ n ih =>
  intro fuel t cs x hT hp h hw;simp only [plT] at hp;simp only [Shp];cases hu:P.underlying t with
  | none=>grind
  | some U =>
   rw [hu] at hp;cases U with
   | bool =>
    obtain ⟨b,rfl,_⟩:=DataW.trod_bool hu h;simp [cb,CV.vals,CV.holds,Value.oneCell']
   | int k =>
    obtain ⟨m,rfl,_,hm⟩:=DataW.trod_int hu h;grind [CV.vals,CV.holds,Value.oneCell']
   | struct fs =>
    obtain ⟨xs,m,rfl,rfl,hl,iy,hx⟩:=DataW.trod_struct hu h;obtain ⟨k1,k2,k3⟩:=K.struct hT hu;simp only [List.all_eq_true] at hp;refine NR (P:=P) (Shp P n) (fs.toList.map (·.type)) cs (by rw [hl,k2,List.map_map];rfl) fun j u hj=>?_
    rw [List.getElem?_map,Option.map_eq_some_iff] at hj;obtain ⟨f,hf,rfl⟩:=hj;have J3:f∈fs.toList:=List.mem_of_getElem? hf;have Hf:fs[j]? = some f:=by grind
    have z7:=hx j f Hf;have bu:j<xs.length:=by grind
    rw [List.getElem?_eq_getElem bu] at z7;rw [k3 j f hf] at z7;rw [<- List.map_take,List.map_map];refine ih m f.type _ _ (k1 f J3) (hp f J3) z7 fun v hv=>hw v ?_
    simp [DataW.weights,hu];exact DataW.weights_mem_each (j:=j) (t:=f.type) (d:=xs[j].1) (by grind) (by grind) v hv
   | array m e =>
    obtain ⟨xs,q,rfl,rfl,hl,iy,hx⟩:=DataW.trod_array hu h;obtain ⟨k1,k2⟩:=K.array hT hu;refine NR (P:=P) (Shp P n) (List.replicate m e) cs (by simp_all) fun j u hj=>?_
    obtain ⟨x5,rfl⟩:=List.getElem?_eq_some_iff.1 hj;rw [List.length_replicate] at x5;rw [List.getElem_replicate];have z7:=hx j x5;rw [List.getElem?_eq_getElem (by omega)] at z7
    have e1:((List.take j (List.replicate m e)).map P.cellsOf).sum=j*P.cellsOf e:=by
     rw [List.take_replicate,Nat.min_eq_left (by omega)];simp
    rw [e1];refine ih q e _ _ k1 hp z7 fun v hv=>hw v ?_
    simp [DataW.weights,hu];exact weightsAll_mem (List.mem_map.2 ⟨xs[j],List.getElem_mem _,rfl⟩) v hv
   | slice e =>
    simp at hp;rcases DataW.trod_slice hu h with ⟨rfl,_⟩ | ⟨a,len,cap,elems,rest,m,rfl,rfl,rfl,hb,K2,gt,oy,hx,_⟩
    ·refine ⟨[.row (P.cellsOf e) []],⟨[],rfl,by simp,by simp⟩,?_⟩
     simp only [CV.vals,CV.holds,and_true];grind
    ·have Oa:∀ i (hi:i<elems.length),∀ v∈(elems[i].1).weights P e,v<=reachBytes:=fun i hi v hv=>hw v (by
      simp [DataW.weights,hu];exact .inr (.inl (weightsAll_mem (List.mem_map.2 ⟨elems[i],List.getElem_mem _,rfl⟩) v hv)))
     have aj:(elems.length+rest.length)*P.bytesOf e<=reachBytes:=hw _ (by simp [DataW.weights,hu])
     have du:∀ i,∃ cv:List CV,(i<len->∃ cells:List Value,w.cells? 0 (a.add (i*P.cellsOf e)) (P.cellsOf e)=some cells/\Shp P n e cv/\CV.vals w (fun b=>b<w.heap.size) cv cells):=by
      intro i
      by_cases hi:i<len
      ·have J4:=hx i hi
       rw [List.getElem?_eq_getElem (by omega),Option.bind_eq_some_iff] at J4
       obtain ⟨cells,h1,h2⟩:=J4;obtain ⟨cv,h3,h4⟩:=ih m e cells _ (K.slice hT hu) hp.2 h2 (Oa i (by omega))
       exact ⟨cv,fun _=>⟨cells,h1,h3,h4⟩⟩
      ·exact ⟨[],fun h=>absurd h hi⟩
     obtain ⟨g,hg⟩:=Classical.axiomOfChoice du;have oe:((List.range len).map g).length=len:=by simp
     refine ⟨[.row (P.cellsOf e) ((List.range len).map g)],⟨_,rfl,?_,?_⟩,?_⟩
     ·grind
     ·grind
     ·simp only [CV.vals,and_true]
      refine ⟨some a,cap,by rw [oe],by omega,gt,?_⟩
      by_cases h0:len=0
      ·grind
      ·right
       have lm:∀ i,i<len->∀ j v (cells:List Value),w.cells? 0 (a.add (i*P.cellsOf e)) (P.cellsOf e)=some cells->cells[j]? = some v->w.cell? ((a.add (i*P.cellsOf e)).add j)=some v:=by
        intro i _ j v cells hc hj;have bu:=(List.getElem?_eq_some_iff.1 hj).1;have oe:=mapM_some_length hc;rw [List.length_range] at oe;have hr:(List.range (P.cellsOf e))[j]? = some j:=List.getElem?_range (by omega)
        have:=mapM_some_get hc j j hr;grind
       have wn:∀ (b:Addr) (cells:List Value),w.cells? 0 b (P.cellsOf e)=some cells->cells.length=P.cellsOf e:=by
        intro b cells hc;simpa using mapM_some_length hc
       obtain ⟨cells0,Ax,_,ig⟩:=hg 0 (by omega)
       have u0:cells0.length=P.cellsOf e:=wn _ _ Ax;have mw:0<cells0.length:=by omega
       have hz:=lm 0 (by omega) 0 cells0[0] cells0 Ax (List.getElem?_eq_getElem mw)
       have Bh:(a.add (0*P.cellsOf e)).add 0=a:=by simp [Addr.add]
       rw [Bh] at hz
       have Da:a.spot=none/\a.block<w.heap.size:=by
        unfold World.cell? at hz;split at hz
        ·rename_i c t fz hh
         split at hz
         ·cases hz
         ·refine ⟨by simp_all,?_⟩
          grind
        grind
       obtain ⟨ab,ao,asp⟩:=a;obtain ⟨rfl,bg⟩:=Da;refine ⟨ab,ao,rfl,bg,?_⟩;refine aBT _ _ fun i hi=>?_
       rw [oe] at hi;simp only [List.getElem_map,List.getElem_range];obtain ⟨cells,hc,_,hv⟩:=hg i hi;have Ie:cells.length=P.cellsOf e:=wn _ _ hc;refine ⟨by rw [<- Ie];exact (CV.vals.length hv).symm,CV.cells.of_vals hv fun j v hj=>?_⟩
       have:=lm i hi j v cells hc hj
       have e0:∀ (b o m:Nat),(Addr.mk b o none).add m=⟨b,o+m,none⟩:=by
        intro b o m;unfold Addr.add
        by_cases hm:m=0
        ·subst hm;rfl
        ·rw [if_neg hm]
       have e1:((Addr.mk ab ao none).add (i*P.cellsOf e)).add j=⟨ab,ao+i*P.cellsOf e+j,none⟩:=by rw [e0,e0]
       rw [e1] at this;exact this
   | _=>cases hp
end
end Go.Sx
namespace Go.Sx
open Go Go.ChangeShapes Go.WideShapes Go.ChangeAt Go.RowKit
def isAgg (P:Program) (t:TypeId):Bool:=match P.underlying t with
 | some (.struct _)=>true
 | some (.array _ _)=>true
 | _=>false
def sL (P:Program):List TypeId->List (List CV)->List AV
 | t::ts,c::cs=>(if isAgg P t=true then .agg (c.map .cv) else .cv (c.headD dC))::sL P ts cs
 | _,_=>[]
def bO (P:Program) (n:Nat):List TypeId->List (List CV)->Prop
 | [],[]=>True
 | t::ts,c::cs=>Shp P n t c/\bO P n ts cs
 | _,_=>False
theorem ED (P:Program):∀ (ts:List TypeId) (cs:List (List CV)),AV.closeds (sL P ts cs)=true
 | [],[]=>rfl
 | [],_::_=>rfl
 | _::_,[]=>rfl
 | t::ts,c::cs=>by
  have hc:∀ (l:List CV),AV.closeds (l.map .cv)=true:=by
   intro l
   induction l with
   | nil=>rfl
   | cons x l ih=>simp_all
  simp [sL];refine ⟨?_,ED P ts cs⟩;grind [AV.closed]
theorem HR {e:Env} {w:World} {ks:List Nat}:∀ {cs:List CV} {vs:List Value},CV.vals w e.S cs vs->AV.all e w ks (cs.map .cv) vs
 | [],[],_=>by simp [AV.all]
 | c::cs,v::vs,h=>by
  exact ⟨h.1,HR h.2⟩
 | [],_::_,h=>by grind [CV.vals]
 | _::_,[],h=>by grind [CV.vals]
section
variable {P:Program} {w:World}
theorem aDq {base:Nat} {t:TypeId} {v:Value} {n:Nat} (hp:plT P n t=true) (ha:isAgg P t=false) (h:Value.okWide P w .any base t v):v.cells=#[v]:=by
 cases n with
 | zero=>grind [plT]
 | succ n =>
  simp [plT] at hp;simp [isAgg] at ha;unfold Value.okWide at h;cases hu:P.underlying t with
  | none=>grind
  | some U =>
   rw [hu] at hp ha h;cases U with
   | bool=>simp [Cell.okWide,Cell.ok] at h;grind [Value.cells]
   | int k=>simp [Cell.okWide,Cell.ok] at h;grind [Value.cells]
   | slice e=>simp [Cell.okWide,Cell.ok] at h;grind [Value.cells]
   | struct fs=>cases ha
   | array m e=>cases ha
   | _=>cases hp
theorem aH0 {base:Nat} {t:TypeId} {v:Value} (ha:isAgg P t=true) (h:Value.okWide P w .any base t v):∃ cs,v=.agg cs:=by
 simp [isAgg] at ha;unfold Value.okWide at h;grind
variable {H:Type} {enc:TypeId×Value->H} {T:TypeId->Prop} {spare:Nat->Bool} {zh:Bool}
theorem aBU (K:Kids P T) {base:Nat} (n:Nat):∀ (ts:List TypeId) (vs:List Value) (ds:List (DataW H)) (ps:List MemPlace),(∀ t∈ts,T t)->ts.all (plT P n)=true ->
  (∀ (j:Nat) t v,ts[j]? = some t->vs[j]? = some v->Value.okWide P w .any base t v)->DataW.TrodAll enc P w 0 spare zh ts vs ds ps->(∀ m∈DataW.weightsEach P ts ds,m<=reachBytes) ->
  ∃ css:List (List CV),bO P n ts css/\∀ (e:Env) (ks:List Nat),(e.S=fun b=>b<w.heap.size)->AV.all e w ks (sL P ts css) vs
 | [],vs,ds,ps,_,_,_,h,_=>by
  obtain ⟨rfl,_,_⟩:=trodAll_nil h;exact ⟨[],trivial,fun e ks _=>by simp [sL,AV.all]⟩
 | t::ts,vs,ds,ps,hT,hp,hv,h,hw=>by
  obtain ⟨v,vs',d,ds',p,q,rfl,rfl,rfl,⟨fuel,h1⟩,h2⟩:=trodAll_cons h;simp only [List.all_cons,Bool.and_eq_true] at hp;simp [DataW.weightsEach] at hw;obtain ⟨css,s1,s2⟩:=aBU K n ts vs' ds' q (fun u hu=>hT u (by grind)) hp.2 (fun j u x hj hx=>hv (j+1) u x (by grind) (by grind)) h2 (fun m hm=>hw m (.inr hm))
  obtain ⟨cvs,c1,c2⟩:=aHZ K n fuel t v.cells.toList _ (hT t (by simp)) hp.1 h1 (fun m hm=>hw m (.inl hm))
  refine ⟨cvs::css,⟨c1,s1⟩,fun e ks he=>?_⟩
  have ig:=hv 0 t v rfl rfl;refine ⟨?_,s2 e ks he⟩;cases ha:isAgg P t with
  | true =>
   obtain ⟨cs,rfl⟩:=aH0 ha ig;exact ⟨cs,rfl,HR (by rw [he];exact c2)⟩
  | false =>
   have hc:=aDq hp.1 ha ig;simp [AV.holds]
   match cvs,c2 with
   | [c],c2 =>
    simp_all [CV.vals]
   | [],c2=>grind [CV.vals]
   | _::_::_,c2=>grind [CV.vals]
end
theorem HS {H:Type} {enc:TypeId×Value->H} {P:Program} {W:World} {sp:Nat->Bool} {hd:Bool}:∀ {ts:List TypeId} {vs:List Value} {ds:List (DataW H)} {ps:List MemPlace},DataW.TrodAll enc P W 0 sp hd ts vs ds ps->ds.length=ts.length
 | [],vs,ds,ps,hA=>by obtain ⟨rfl,rfl,rfl⟩:=trodAll_nil hA;rfl
 | t::ts,vs,ds,ps,hA=>by
  obtain ⟨v,vs',d,ds',p1,p2,rfl,rfl,rfl,_,h2⟩:=trodAll_cons hA;simp [HS h2]
theorem NS {H:Type} {enc:TypeId×Value->H} {P:Program} {W W':World} {sp:Nat->Bool} {hd:Bool} (hB:Below W.heap.size W W'):∀ {ts:List TypeId} {vs:List Value} {ds:List (DataW H)} {ps:List MemPlace},DataW.TrodAll enc P W 0 sp hd ts vs ds ps->DataW.TrodAll enc P W' 0 sp hd ts vs ds ps
 | [],vs,ds,ps,hA=>by obtain ⟨rfl,rfl,rfl⟩:=trodAll_nil hA;rfl
 | t::ts,vs,ds,ps,hA=>by
  obtain ⟨v,vs',d,ds',p1,p2,rfl,rfl,rfl,⟨fuel,h1⟩,h2⟩:=trodAll_cons hA;exact ⟨p1,p2,⟨fuel,DataW.trod_carry fuel _ _ _ h1 fun x hx=>hB.same (DataW.trod_lt fuel _ _ _ h1 x hx)⟩,NS hB h2,rfl⟩
theorem pE {C:Checked} {os:Os} {f:FuncId} {fn:Func} {s:ChangeSpec} {conds:List PathCond} {fresh ur:Bool} {H:Type} {enc:TypeId×Value->H} {tb:TypeId} (n:Nat)
  (own:ownKnob C.prog.godebug=none) (started:os.Started) (noInit:C.prog.inits.idxOf? f=none) (wd:C.prog.funcs[f]? = some fn)
  (K:Kids C.prog (·<C.prog.types.size)) (hz:∀ t e,t<C.prog.types.size->C.prog.underlying t=some (.slice e)->0<C.prog.cellsOf e)
  (td:∀ t∈fn.params.toList,t<C.prog.types.size) (j0:fn.params.toList.all (plT C.prog n)=true) (ul:fn.resultTypes=#[tb]) (hb:C.prog.underlying tb=some .bool)
  (oh:s.vars=[]) (dn:∀ ds:List (DataW H),ds.length=fn.params.toList.length->s.fn H (ds++[])={ results:=[.lit (.bool true)],args:=ds })
  (witness:∃ (w:World) (tape:Tape) (i:Input),w.os=os/\(w.forCall tape i).Shaped C.prog/\i.vars=[]/\Input.okWide C.prog (w.forCall tape i) .any w.heap.size f i /\
   s.pre6 enc C.prog fn conds false (w.forCall tape i).memory i.args/\({}:Assume).holds C.prog (lone (Frame.enter C.prog f i.args .normal) [] (w.forCall tape i)))
  (law:∀ css,bO C.prog n fn.params.toList css->SpecR C.prog f (sL C.prog fn.params.toList css) (.cv (cb true))) :
  ReturnsInHanded {} C os f .any (s.pre6 enc C.prog fn conds false) (s.post enc C.prog fn false fresh ur false):=by
 refine returnsInHanded_of_change_sized own started noInit wd witness ?_;intro W base args ds gs before If hW Ob di _;have J5:=hW;obtain ⟨p,q,hA,hV,rfl,K4,df⟩:=hW;rw [oh] at hV;obtain ⟨rfl,rfl⟩:=trodVars_none hV;simp at J5
 have Fq:∀ m∈DataW.weightsEach C.prog fn.params.toList ds,m<=reachBytes:=by
  intro m hm
  have hh:∀ (ts us:List TypeId) (ds:List (DataW H)),m∈DataW.weightsEach C.prog ts ds->m∈DataW.weightsEach C.prog (ts++us) ds:=by
   intro ts
   induction ts with
   | nil=>grind [DataW.weightsEach]
   | cons t ts ih =>
    intro us ds h;cases ds with
    | nil=>grind [DataW.weightsEach]
    | cons d ds =>
     grind [DataW.weightsEach]
  grind
 obtain ⟨css,s1,s2⟩:=aBU K n fn.params.toList args.toList ds p td j0 (fun j t v hj hv=>If j t v (by grind) (by grind)) hA Fq
 let e0:Env:={ ρ:=fun _=>0,hdr:=fun _ _=>undef,S:=fun b=>b<W.heap.size,base:=W.heap.size,H:=fun _=>none,y:=false }
 have hm:Mem W.heap.size W e0 [] [] W:=Mem.nothing e0 W fun b hb=>hb
 have hc:=law css s1 Fence.wide 0 aB0 rfl W.heap.size W e0 W args hm (s2 e0 _ rfl) (AV.scos_closed _ _ _ (ED _ _ _));refine (CallsIn.calls hc (fun k=>by simp [Fence.room,Fence.wide])).mono ?_
 rintro en W' ⟨e',B',V',r,v,rfl,⟨rfl,rfl,rfl⟩,an,iN,hr,_⟩;obtain ⟨rfl,_⟩:=hr
 have hB:Below W.heap.size W W':=by
  have:=an.below
  rwa [Env.nb_false (show e'.y=false from iN.ye)] at this
 have ja:=HS hA;refine ⟨_,rfl,ds,[],p,[],p,[],J5,?_,?_,?_,hB.frame _,fun h=>by cases h⟩
 ·rw [dn ds ja,ul]
  exact trodAll_mk1 (shut_bool hb true)
 ·rw [dn ds ja]
  have h1:=NS hB hA;exact DataW.TrodAll.respare K hz td h1 (fun x hx=>by simpa using DataW.TrodAll.lt hA x hx)
 ·rw [dn ds ja,oh];rfl
end Go.Sx
namespace Go.Proofs.YtfgdfpnkhdlmfaaGreat
open Go Go.Sx Go.Stint
set_option maxRecDepth 100000
variable {n:Nat} {c:List CV}
theorem cT (h:Shp Tryz.prog (n+1) 3 c):∃ m:Int,c=[ci m]:=by
 obtain ⟨m,rfl,hm⟩:=h;exact ⟨m,rfl⟩
theorem yR {n:Nat}:∀ {k:Nat} {c:List CV},aF7 (Shp Tryz.prog (n+1)) (List.replicate k 3) c->∃ l:List Int,l.length=k/\c=l.map ci
 | 0,c,h=>⟨[],rfl,h⟩
 | k+1,c,h=>by
  obtain ⟨a,b,rfl,h1,h2⟩:=h;obtain ⟨m,rfl⟩:=cT h1;obtain ⟨l,h3,rfl⟩:=yR h2;exact ⟨m::l,by grind,rfl⟩
theorem JN {A:Type} {cv:A->List CV}:∀ {es:List (List CV)},(∀ x∈es,∃ a,x=cv a)->∃ l:List A,es=l.map cv
 | [],_=>⟨[],rfl⟩
 | e::es,h=>by
  obtain ⟨a,rfl⟩:=h e (by simp)
  obtain ⟨l,rfl⟩:=JN (es:=es) fun x hx=>h x (by grind)
  exact ⟨a::l,rfl⟩
theorem GF {m:Nat} (h:n*m<=reachBytes) (hm:2<=m):n<100000000000000:=by
 have h1:n*2<=n*m:=Nat.mul_le_mul_left _ hm;have h2:reachBytes<2 ^ 47:=by decide
 omega
theorem aAS (h:Shp Tryz.prog (n+2) 23 c):∃ a b:Int,c=[ci a,ci b]:=by
 obtain ⟨_,_,rfl,h1,_,_,rfl,h2,rfl⟩:=h;obtain ⟨m1,rfl⟩:=cT h1;obtain ⟨m2,rfl⟩:=cT h2;exact ⟨m1,m2,rfl⟩
theorem YE (h:Shp Tryz.prog (n+2) 54 c):∃ a b:Int,c=[ci a,ci b]:=by
 obtain ⟨_,_,rfl,h1,_,_,rfl,h2,rfl⟩:=h;obtain ⟨m1,rfl⟩:=cT h1;obtain ⟨m2,rfl⟩:=cT h2;exact ⟨m1,m2,rfl⟩
theorem UQ (h:Shp Tryz.prog (n+3) 25 c):∃ p:Pas,c=p.cv:=by
 obtain ⟨_,_,rfl,h1,_,_,rfl,h2,rfl⟩:=h;obtain ⟨m1,rfl⟩:=cT h1;obtain ⟨a,b,rfl⟩:=aAS h2;exact ⟨⟨m1,a,b⟩,rfl⟩
theorem aF9 (h:Shp Tryz.prog (n+3) 63 c):∃ p:By,c=p.cv:=by
 obtain ⟨_,_,rfl,h1,_,_,rfl,h2,_,_,rfl,h3,_,_,rfl,h4,rfl⟩:=h;obtain ⟨m1,rfl⟩:=cT h1;obtain ⟨m2,rfl⟩:=cT h2;obtain ⟨m3,rfl⟩:=cT h3;obtain ⟨l,hl,rfl⟩:=yR h4
 match l,hl with
 | [a0,a1,a2,a3,a4,a5,a6,a7,a8,a9],_=>exact ⟨⟨m1,m2,m3,a0,a1,a2,a3,a4,a5,a6,a7,a8,a9⟩,rfl⟩
theorem aGa (h:Shp Tryz.prog (n+3) 56 c):∃ p:Dd,c=p.cv:=by
 obtain ⟨_,_,rfl,h1,_,_,rfl,h2,_,_,rfl,h3,_,_,rfl,h4,_,_,rfl,h5,_,_,rfl,h6,_,_,rfl,h7,_,_,rfl,h8,_,_,rfl,h9,_,_,rfl,jj,_,_,rfl,n9,rfl⟩:=h;obtain ⟨a,b,rfl⟩:=YE h1;obtain ⟨m2,rfl⟩:=cT h2;obtain ⟨m3,rfl⟩:=cT h3;obtain ⟨m4,rfl⟩:=cT h4;obtain ⟨m5,rfl⟩:=cT h5;obtain ⟨m6,rfl⟩:=cT h6;obtain ⟨m7,rfl⟩:=cT h7;obtain ⟨m8,rfl⟩:=cT h8;obtain ⟨m9,rfl⟩:=cT h9;obtain ⟨m10,rfl⟩:=cT jj;obtain ⟨d,e,rfl⟩:=YE n9;exact ⟨⟨a,b,m2,m3,m4,m5,m6,m7,m8,m9,m10,d,e⟩,rfl⟩
theorem aGb (h:Shp Tryz.prog (n+4) 26 c):∃ l:List Pas,l.length<100000000000000/\c=[.row 3 (l.map Pas.cv)]:=by
 have b3:Tryz.prog.bytesOf 25=24:=by rfl
 obtain ⟨es,rfl,cn,hb⟩:=h;obtain ⟨l,rfl⟩:=JN (cv:=Pas.cv) fun x hx=>UQ (cn x hx)
 rw [List.length_map] at hb;exact ⟨l,GF hb (by omega),rfl⟩
theorem aH1 (h:Shp Tryz.prog (n+4) 27 c):∃ l:List By,l.length<100000000000000/\c=[.row 13 (l.map By.cv)]:=by
 have b3:Tryz.prog.bytesOf 63=104:=by rfl
 obtain ⟨es,rfl,cn,hb⟩:=h;obtain ⟨l,rfl⟩:=JN (cv:=By.cv) fun x hx=>aF9 (cn x hx)
 rw [List.length_map] at hb;exact ⟨l,GF hb (by omega),rfl⟩
theorem aBV (h:Shp Tryz.prog (n+4) 28 c):∃ l:List Dd,l.length<100000000000000/\c=[.row 13 (l.map Dd.cv)]:=by
 have b3:Tryz.prog.bytesOf 56=104:=by rfl
 obtain ⟨es,rfl,cn,hb⟩:=h;obtain ⟨l,rfl⟩:=JN (cv:=Dd.cv) fun x hx=>aGa (cn x hx)
 rw [List.length_map] at hb;exact ⟨l,GF hb (by omega),rfl⟩
theorem BZ (h:Shp Tryz.prog (n+5) 30 c):∃ y:Cm,Fit y/\c=y.rs:=by
 obtain ⟨_,_,rfl,h1,_,_,rfl,h2,_,_,rfl,h3,rfl⟩:=h;obtain ⟨a,ha,rfl⟩:=aGb h1;obtain ⟨b,hb,rfl⟩:=aH1 h2;obtain ⟨d,hd,rfl⟩:=aBV h3;exact ⟨⟨a,b,d⟩,⟨ha,hb,hd⟩,rfl⟩
end Go.Proofs.YtfgdfpnkhdlmfaaGreat
namespace Go.Proofs.YtfgdfpnkhdlmfaaGreat
open Go Go.Sx Go.Stint Go.ChangeShapes Go.WideShapes Go.ChangeAt Go.RowKit
set_option maxRecDepth 100000
theorem Tryz.own:ownKnob Tryz.prog.godebug=none:=by kernel_rfl
theorem Tryz.kids:Kids Tryz.prog (·<Tryz.prog.types.size):=kids_rows (by kernel_rfl) (by kernel_rfl)
theorem Tryz.full:∀ t e,t<Tryz.prog.types.size->Tryz.prog.underlying t=some (.slice e)->0<Tryz.prog.cellsOf e:=slices_full_of Tryz.prog (by kernel_rfl)
theorem sM {f:FuncId} {g:Sig} {vs out:List CV} {n:Nat} (hg:sg f=some g) (h:D aF5 n f vs=some out):SpecR Tryz.prog f (Sc.avs g.ps vs 0) (Sc.res g.rs out):=(aF6 n).spec f g vs out hg h
end Go.Proofs.YtfgdfpnkhdlmfaaGreat
namespace Go.Proofs.YtfgdfpnkhdlmfaaGreat
open Go Go.Sx Go.Stint
set_option maxRecDepth 100000
theorem yS {n:Nat} {c:List CV} (h:Shp Tryz.prog (n+2) 36 c):∃ a b:Int,c=[ci a,ci b]:=by
 obtain ⟨_,_,rfl,h1,_,_,rfl,h2,rfl⟩:=h;obtain ⟨m1,rfl⟩:=cT h1;obtain ⟨m2,rfl⟩:=cT h2;exact ⟨m1,m2,rfl⟩
theorem aGc {n:Nat} {c:List CV} (h:Shp Tryz.prog (n+2) 98 c):∃ a b d e:Int,c=[ci a,ci b,ci d,ci e]:=by
 obtain ⟨l,hl,rfl⟩:=yR h
 match l,hl with
 | [a,b,c,d],_=>exact ⟨a,b,c,d,rfl⟩
end Go.Proofs.YtfgdfpnkhdlmfaaGreat
namespace Go.Proofs.YtfgdfpnkhdlmfaaGreat
open Go Go.Sx Go.Stint
set_option maxRecDepth 100000
variable {its:ITS}
end Go.Proofs.YtfgdfpnkhdlmfaaGreat
namespace Go.Stint
open Go Go.Sx
def aGg (c:Cm) (o d k:Int):Int:=if c.ok then (if within o 1 99 then (if bA d&&bA k then 0 else 6) else 1) else 23
def eZ (c:Cm) (o d k:Int):List Int:=c.ps.map fun q=>(aK c d k).uses o q.id d
end Go.Stint
namespace Go.Proofs.YtfgdfpnkhdlmfaaGreat
open Go Go.Sx Go.Stint
set_option maxRecDepth 100000
variable {its:ITS}
theorem rE {L:Land} {h:Int} (hh:h∈L.hold):(1<=h/\h<=99)/\L.th h=true:=by
 unfold Land.hold at hh;rw [List.mem_filter] at hh;exact ⟨lX.1 hh.1,hh.2⟩
theorem YH {ps:List Pas} {q:Pas} (h:q∈ps):(jC ps q.id).isSome=true:=by
 unfold jC;rw [List.find?_isSome];exact ⟨q,h,by simp⟩
theorem UR {c:Cm} {h d k:Int} {q:Pas} (aa:c.ok=true) (hq:q∈c.ps) (hd:bA d=true) (hk:bA k=true) (hh:h∈(aK c d k).hold):yN c h q.id d k=0:=by
 obtain ⟨h1,h2⟩:=rE hh;have w:within h 1 99=true:=by simpa [within] using h1
 simp [yN,aa,YH hq,hd,hk,h2,w]
theorem aH5 (hS:ItsS its) (n:Nat) (c:Cm) (hc:Fit c) (o d k:Int):D its (n+9) lC (c.rs++[ci o,ci d,ci k])=some [.row 1 (ints (if aGg c o d k=0 then (aK c d k).owned o else [])),ci (aGg c o d k)]:=by
 show D its (n+9) lC [.row 3 (c.ps.map Pas.cv),.row 13 (c.bl.map By.cv),.row 13 (c.ds.map Dd.cv),ci o,ci d,ci k]=_;rw [OT];unfold AP;rw [show D its (n+8) aI [CV.row 3 (c.ps.map Pas.cv),CV.row 13 (c.bl.map By.cv),CV.row 13 (c.ds.map Dd.cv)]=_ from iQ n c hc];simp only [aC,aQ,Cm.chk,mN];unfold aGg bA;rcases Bool.eq_false_or_eq_true c.ok with aa | aa
 ·have hr:=bS aa
  rw [show D its (n+8) bP [CV.row 3 (c.ps.map Pas.cv),CV.row 13 (c.bl.map By.cv),CV.row 13 (c.ds.map Dd.cv),ci d,ci k]=_ from HQ hS (n+2) hr d k];simp only [aC,List.getD_cons_zero,BT,aBK hS (n+5) c.ps (aK c d k) o];rcases Bool.eq_false_or_eq_true (within o 1 99) with h1 | h1
  ·rcases Bool.eq_false_or_eq_true (within d 0 100000&&within k 0 100000) with h | h <;> simp [aa,h,h1,ints]
  ·simp [aa,h1,ints]
 ·simp [aa,ints]
theorem US (hS:ItsS its) (n:Nat) (c:Cm) (hc:Fit c) (o d k:Int) (aa:c.ok=true) (ho:within o 1 99=true) (hd:bA d=true) (hk:bA k=true) :
  D its (n+11) cM (c.rs++[ci o,ci d,ci k])=some [.row 1 (ints (eZ c o d k)),cb true]:=by
 show D its (n+11) cM [.row 3 (c.ps.map Pas.cv),.row 13 (c.bl.map By.cv),.row 13 (c.ds.map Dd.cv),ci o,ci d,ci k]=_;rw [OM];unfold AJ;have hr:=bS aa;have h8:=hr.p;have he:aGg c o d k=0:=by simp [aGg,aa,ho,hd,hk]
 rw [show D its (n+10) lC [CV.row 3 (c.ps.map Pas.cv),CV.row 13 (c.bl.map By.cv),CV.row 13 (c.ds.map Dd.cv),ci o,ci d,ci k]=_ from aH5 hS (n+1) c hc o d k];have aj:((aK c d k).owned o).length<=99:=Nat.le_trans (List.length_filter_le _ _) (pD _);have an:∀ h∈(aK c d k).owned o,h∈(aK c d k).hold:=fun h hh=>(List.mem_filter.1 hh).1
 have hI:=nC hr d k;simp only [aC,eL,aQ,he,if_true,bne_self_eq_false,aX,bW,rA,cQ];rw [bZ c.ps.length (fun i=>[ci (i:Int),.row 1 (ints ((eZ c o d k).take i))]) (some (.br 0 [.row 1 (ints (eZ c o d k))])) ?hv (fun i hi=>?hs) ?he (by simp)]
 case hv=>rfl
 case he=>rw [List.take_of_length_le (by simp [eZ])];simp
 case hs =>
  have hid:=hr.id _ (List.getElem_mem hi);have j0:i<(eZ c o d k).length:=by simpa [eZ] using hi
  have ck:cJ (List.length (ints ((eZ c o d k).take i))) 1 8=true:=dE (by simp [ints,eZ];omega) (by simp [ints,eZ];omega)
  simp only [aQ,dZ,bW,Int.ofNat_lt,hi,decide_true,bE,aG hi,aM hi,aCP,show oks [li,li,li] c.ps[i].cv 0=true from rfl,aJ,bG (show i<9223372036854775807 by omega)]
  rw [bZ ((aK c d k).owned o).length (fun j=>[ci (cH ((((aK c d k).owned o).take j).map fun h=>(aK c d k).use h c.ps[i].id d)),ci (j:Int)]) (some (.br 2 [ci ((aK c d k).uses o c.ps[i].id d)])) ?hv (fun j hj=>?hs) ?he (by simp)]
  case hv=>simp [cH]
  case he=>simp [Land.uses]
  case hs =>
   have hb:=fV (lo:=-100000000000) (hi:=100000001000000) (by omega) (by omega) (l:=(((aK c d k).owned o).take j).map fun h=>(aK c d k).use h c.ps[i].id d) fun x hx=>by
    obtain ⟨h,hh,rfl⟩:=List.mem_map.1 hx;exact oB hI (by omega) _ d (rE (an h (List.mem_of_mem_take hh))).1
   rw [List.length_map,List.length_take] at hb;have hh:=an _ (List.getElem_mem hj);have hu:=oB hI (by omega) c.ps[i].id d (rE hh).1
   have ha:=UR aa (List.getElem_mem hi) hd hk hh
   simp only [aQ,eL,Int.ofNat_lt,hj,decide_true,bE,kF hj,mZ hj,show oks [li] [ci ((aK c d k).owned o)[j]] 0=true from rfl,aJ,bG (show j<9223372036854775807 by omega),
    show D its (n+10) dH [CV.row 3 (c.ps.map Pas.cv),CV.row 13 (c.bl.map By.cv),CV.row 13 (c.ds.map Dd.cv),ci ((aK c d k).owned o)[j],ci c.ps[i].id,ci d,ci k]=_ from XY hS n c hc ((aK c d k).owned o)[j] c.ps[i].id d k,aC,ha,if_true,bne_self_eq_false,aX]
   rw [cK hj,List.map_append,List.map_singleton,qD,bJ (by omega) (by omega)]
  simp only [cP,ck,aJ];rw [cK j0];simp [ints,eZ,aS]
 simp
end Go.Proofs.YtfgdfpnkhdlmfaaGreat
namespace Go.Stint
open Go Go.Sx
end Go.Stint
namespace Go.Proofs.YtfgdfpnkhdlmfaaGreat
open Go Go.Sx Go.Stint
set_option maxRecDepth 100000
variable {its:ITS}
end Go.Proofs.YtfgdfpnkhdlmfaaGreat
namespace Go.Stint
open Go Go.Sx
def itQ (a b c d:Int):Bool:=decide (a=c)&&(decide (b=d)&&true)
end Go.Stint
namespace Go.Proofs.YtfgdfpnkhdlmfaaGreat
open Go Go.Sx Go.Stint
set_option maxRecDepth 100000
variable {its:ITS}
end Go.Proofs.YtfgdfpnkhdlmfaaGreat
namespace Go.Stint
open Go Go.Sx
def aGm (c:Cm) (h d k:Int):Int:=if c.ok then (if within h 1 99 then (if bA d&&bA k then (if (aK c d k).th h then 0 else 24) else 6) else 1) else 23
end Go.Stint
namespace Go.Proofs.YtfgdfpnkhdlmfaaGreat
open Go Go.Sx Go.Stint
set_option maxRecDepth 100000
variable {its:ITS}
theorem aH6 (hS:ItsS its) (n:Nat) (c:Cm) (hc:Fit c) (h d k:Int):D its (n+9) jG (c.rs++[ci h,ci d,ci k])=some [ci (if aGm c h d k=0 then ((aK c d k).own h).getD 0 else 0),ci (aGm c h d k)]:=by
 show D its (n+9) jG [.row 3 (c.ps.map Pas.cv),.row 13 (c.bl.map By.cv),.row 13 (c.ds.map Dd.cv),ci h,ci d,ci k]=_;rw [OS];unfold AO;rw [show D its (n+8) aI [CV.row 3 (c.ps.map Pas.cv),CV.row 13 (c.bl.map By.cv),CV.row 13 (c.ds.map Dd.cv)]=_ from iQ n c hc];simp only [Cm.chk];unfold aGm bA;rcases Bool.eq_false_or_eq_true c.ok with aa | aa
 ·have hr:=bS aa
  rw [show D its (n+8) bP [CV.row 3 (c.ps.map Pas.cv),CV.row 13 (c.bl.map By.cv),CV.row 13 (c.ds.map Dd.cv),ci d,ci k]=_ from HQ hS (n+2) hr d k];rcases Bool.eq_false_or_eq_true (within h 1 99) with h1 | h1
  ·have hh:1<=h/\h<=99:=by grind [within]
   simp only [aC,List.getD_cons_zero,BT,lo1,lc1,XS hh,DZ hh];rcases Bool.eq_false_or_eq_true (within d 0 100000&&within k 0 100000) with h2 | h2
   ·cases h3:(aK c d k).th h <;> simp [aa,h1,h2]
   ·simp [aa,h1,h2]
  simp_all
 simp_all
theorem YK (ps:List Pas):∀ (l:List Dd) (L:Land),(∀ x∈l,x.ok=true/\x.kind≠0)->(∀ h o,L.own h=some o->within o 1 99=true)->∀ h o,(l.foldl (bK ps) L).own h=some o->within o 1 99=true
 | [],_,_,h=>h
 | x::l,L,hl,hL=>by
  refine YK ps l _ (fun y hy=>hl y (by grind)) fun h o=>?_
  have hf:=x.ok_flds (hl x (by simp)).1 (hl x (by simp)).2
  have zx:kOw x.kind=true->within x.ow 1 99=true:=fun hk=>by grind [within]
  unfold bK;cases ha:iA ps L x with
  | none=>grind
  | some L' =>
   simp only;unfold iA at ha
   repeat' (split at ha)
   all_goals first | (cases ha;done) | (cases ha;exact hL h o) | skip
   ·cases ha;grind [kOw]
   ·cases ha;grind [kOw]
   ·cases ha;grind
variable {c:Cm}
theorem aH7 (hc:Ready c) (d k h o:Int) (e:(aK c d k).own h=some o):within o 1 99=true:=
 YK c.ps _ Land.z (fun x hx=>⟨hc.ok x (lY hx).1,(lY hx).2.1⟩) (fun h o e=>by cases e) h o e
variable {k:Int}
theorem aJF {d a b p t:Int} (hd:bA d=true) (hk:bA k=true) (ha:1<=a/\a<=99) (hb:1<=b/\b<=99) (zw:b≠a) (hp:1<=p/\p<=99) (ht:1<=t/\t<=100000):Dd.ok ⟨5,9999,4,d,k,a,b,0,p,t,0,0,0⟩=true:=by
 simp [bA] at hd hk;simp [Dd.ok,Dd.flds,pI,Stint.may,kHo,kTt,kOw,kPa,kPt,kUn,hd,hk];grind [within]
theorem aJG {d a b:Int} (hd:bA d=true) (hk:bA k=true) (ha:1<=a/\a<=99) (hb:1<=b/\b<=99) (zw:b≠a):Dd.ok ⟨5,9999,5,d,k,a,b,0,0,0,0,0,0⟩=true:=by
 simp [bA] at hd hk;simp [Dd.ok,Dd.flds,pI,Stint.may,kHo,kTt,kOw,kPa,kPt,kUn,hd,hk];grind [within]
theorem aH8 (aa:c.ok=true) (J9:c.ds.length<=59) {x:Dd} (hx:x.ok=true) (hm:x.m=5) (hn:x.no=9999) (cq:x.kind=4\/x.kind=5) (ax:x.tt≠x.ho) {o:Int} (hk:x.kn=k) (h1:x.ho∈(aK c x.day k).owned o) (h2:x.tt∈(aK c x.day k).owned o) :
  (eR c [x]).2=27\/((eR c [x]).2=0/\(eR c [x]).1.ok=true/\eZ (eR c [x]).1 o x.day k=eZ c o x.day k):=by
 cases hp:zR c.ds x with
 | none =>
  unfold eR joinL;grind
 | some l =>
  right;have hr:=bS aa;have hl:=aE3 hm hn hr.ok hp
  have aj:l.length<=60:=by
   grind
  have e:eR c [x]=(⟨c.ps,c.bl,l⟩,0):=by
   unfold eR joinL;simp_all [joinL]
  rw [e];refine ⟨rfl,aBO aa (aC1 (UM aa).1 hx hp) aj,?_⟩;rcases hl with rfl | rfl
  ·rfl
  ·have e:aK ⟨c.ps,c.bl,c.ds++[x]⟩ x.day k=bK c.ps (aK c x.day k) x:=by
    unfold aK;rw [aCT (by omega) (by omega) rfl,List.foldl_append];rfl
   unfold eZ;rw [e];exact List.map_congr_left fun q hq=>aCW cq ax h1 h2 hq
theorem aJH {m r0 r1:Int} (h0:0<=r0) (h1:r0<m) (h2:0<=r1) (h3:r1<m - 1) (hm:m<=1000):∃ j,Int.tmod (wr (wr (r0+1)+r1)) m=j/\0<=j/\j<m/\j≠r0:=by
 rw [bJ (x:=r0+1) (by omega) (by omega),bJ (by omega) (by omega)]
 by_cases h:r0+1+r1<m
 ·exact ⟨_,Int.tmod_eq_of_lt (by omega) h,by omega,h,by omega⟩
 ·refine ⟨r0+1+r1 - m,?_,by omega,by omega,by omega⟩
  have e:=Int.add_emod_right (r0+1+r1 - m) m;rw [Int.sub_add_cancel] at e;rw [Int.tmod_eq_emod_of_nonneg (by omega),e]
  exact Int.emod_eq_of_lt (by omega) (by omega)
theorem aGn (hS:ItsR its) (n:Nat) (hc:Fit c) (aa:c.ok=true) (J9:c.ds.length<=59) {x:Dd} (hx:x.ok=true) (hm:x.m=5) (hn:x.no=9999) (cq:x.kind=4\/x.kind=5) (ax:x.tt≠x.ho) {o:Int} (ho:within o 1 99=true) (hd:bA x.day=true) (hk:bA x.kn=true)
  (h1:x.ho∈(aK c x.day x.kn).owned o) (h2:x.tt∈(aK c x.day x.kn).owned o) :
  aB (D its (n+12) eJ (cat [[CV.row 3 (c.ps.map Pas.cv),CV.row 13 (c.bl.map By.cv),CV.row 13 (c.ds.map Dd.cv)],x.cv])) (fun v9 =>
   aA ((gi v9 3) != 0) (aA ((gi v9 3) == 27) (aB (D its (n+12) aP []) fun v10=>some (.ret [cb (gb v10 0)])) (some (.ret [cb false])))
    (aB (D its (n+12) cM [CV.row 3 (c.ps.map Pas.cv),CV.row 13 (c.bl.map By.cv),CV.row 13 (c.ds.map Dd.cv),ci o,ci x.day,ci x.kn]) fun v10 =>
    aB (D its (n+12) cM [CV.row 3 (gr v9 0),CV.row 13 (gr v9 1),CV.row 13 (gr v9 2),ci o,ci x.day,ci x.kn]) fun v11 =>
    aA (gb v10 1) (aA (gb v11 1) (aB (D its (n+12) eC [CV.row 1 (gr v10 0),CV.row 1 (gr v11 0)]) fun v12 =>
     aA (gb v12 0) (aB (D its (n+12) aP []) fun v13=>some (.ret [cb (gb v13 0)])) (some (.ret [cb false]))) (some (.ret [cb false]))) (some (.ret [cb false]))))=some (.ret [cb true]):=by
 have bc:=rD hS n;have hj:=aH8 aa J9 hx hm hn cq ax rfl h1 h2;have nf:(eR c [x]).2=0->D its (n+12) cM ((eR c [x]).1.rs++[ci o,ci x.day,ci x.kn])=_:=fun e=>US hS.toItsS (n+1) (eR c [x]).1 (ND hc [x]) o x.day x.kn (hj.resolve_left (by omega)).2.1 ho hd hk
 rw [show D its (n+12) eJ (cat [[CV.row 3 (c.ps.map Pas.cv),CV.row 13 (c.bl.map By.cv),CV.row 13 (c.ds.map Dd.cv)],x.cv])=_ from aFi hS.toItsJ (n+2) c x hc,
  show D its (n+12) cM [CV.row 3 (c.ps.map Pas.cv),CV.row 13 (c.bl.map By.cv),CV.row 13 (c.ds.map Dd.cv),ci o,ci x.day,ci x.kn]=_ from US hS.toItsS (n+1) c hc o x.day x.kn aa ho hd hk]
 generalize eR c [x]=r at hj nf;obtain ⟨⟨rp,rb,rd⟩,e⟩:=r;simp [Cm.rs] at nf;simp [Cm.rs];rcases hj with rfl | ⟨rfl,_,Iz⟩
 ·simp_all
 ·have fk:D its (n+12) eC [.row 1 (ints (eZ c o x.day x.kn)),.row 1 (ints (eZ c o x.day x.kn))]=some [cb true]:=BV (n+11) _ (by have:=(bS aa).p;grind [eZ])
  simp_all
set_option maxHeartbeats 1000000 in
theorem aAV (hS:ItsR its) (n:Nat) (c:Cm) (d k n0 n1 n2 n3:Int) (hc:Fit c):D its (n+13) nY (c.rs++[ci d,ci k,ci n0,ci n1,ci n2,ci n3])=some [cb true]:=by
 show D its (n+13) nY [.row 3 (c.ps.map Pas.cv),.row 13 (c.bl.map By.cv),.row 13 (c.ds.map Dd.cv),ci d,ci k,ci n0,ci n1,ci n2,ci n3]=_;rw [FV];unfold tX;have bc:=rD hS n
 rw [show D its (n+12) cL [CV.row 3 (c.ps.map Pas.cv),CV.row 13 (c.bl.map By.cv),CV.row 13 (c.ds.map Dd.cv),ci d,ci k]=_ from EB (n+6) c hc d k,
  show D its (n+12) cZ [CV.row 3 (c.ps.map Pas.cv),CV.row 13 (c.bl.map By.cv),CV.row 13 (c.ds.map Dd.cv),ci d,ci k]=_ from BW hS.toItsS (n+3) c hc d k]
 simp only [aC,bW,cQ]
 by_cases hr:c.ok&&bA d&&bA k
 case neg=>simp [hr,bc]
 by_cases h1:(c.ds.length:Int) > 59
 ·simp [h1,bc]
 by_cases h2:d > k
 ·simp [h2,bc]
 have bo:=hr;simp only [Bool.and_eq_true] at bo;obtain ⟨⟨aa,hd⟩,hk⟩:=bo;have iu:=bS aa;have hw:NH c d k=0:=by grind [NH]
 simp only [hr,h1,h2,hw,decide_false,Bool.not_true,bne_self_eq_false,aX,bC,fK,if_true,rA];have an:∀ x∈(aK c d k).hold,(1<=x/\x<=99)/\(aK c d k).th x=true:=fun x hx=>rE hx
 have oe:=pD (aK c d k);have df:(aK c d k).hold.Nodup:=qT.filter _
 have ap:∀ x∈(aK c d k).hold,D its (n+12) jG [CV.row 3 (c.ps.map Pas.cv),CV.row 13 (c.bl.map By.cv),CV.row 13 (c.ds.map Dd.cv),ci x,ci d,ci k]=some [ci (((aK c d k).own x).getD 0),ci 0]:=fun x hx=>by
  have w:within x 1 99=true:=by grind [within]
  have e:aGm c x d k=0:=by grind [aGm]
  have:=aH6 hS.toItsS (n+3) c hc x d k;rw [e,if_pos rfl] at this;exact this
 by_cases h3:((aK c d k).hold.length:Int)<2
 ·simp [h3,bc]
 by_cases h4:c.ps.length=0
 ·simp_all
 have Of:((c.ps.length:Int) == 0)=false:=by grind
 have zi:((aK c d k).hold.length:Int)≠0:=by omega
 have h5:wr ((aK c d k).hold.length - 1:Int)=(aK c d k).hold.length - 1:=bJ (by omega) (by omega)
 have Ee:∀ a b:Int,b≠0->D its (n+12) dG [ci a,ci b]=_:=fun a b hb=>RL (n+11) a b hb
 have h8:=iu.p;simp only [h3,Of,h5,Ee n0 _ zi,Ee n1 ((aK c d k).hold.length - 1:Int) (by omega),decide_false,aX,bC,fK,aC,aQ]
 obtain ⟨r0,e0,a0,a1⟩:=NF n0 (b:=((aK c d k).hold.length:Int)) (by omega) (by omega)
 obtain ⟨r1,e1,b0,b1⟩:=NF n1 (b:=((aK c d k).hold.length - 1:Int)) (by omega) (by omega)
 rw [e0,e1];obtain ⟨j,e2,c0,c1,c2⟩:=aJH a0 a1 b0 b1 (by omega)
 rw [e2];obtain ⟨i,rfl⟩:∃ i:Nat,r0=(i:Int):=⟨r0.toNat,by omega⟩
 obtain ⟨j,rfl⟩:∃ j':Nat,j=(j':Int):=⟨j.toNat,by omega⟩
 have hi:i<(aK c d k).hold.length:=by omega
 have hj:j<(aK c d k).hold.length:=by omega
 have ax:(aK c d k).hold[j]≠(aK c d k).hold[i]:=fun e=>c2 (by grind [List.getElem_inj])
 have ha:=List.getElem_mem hi;have hb:=List.getElem_mem hj;have Ii:(((aK c d k).hold.length:Int) != 0)=true:=by grind
 generalize hA:(aK c d k).hold[i]=A at *;generalize hB:(aK c d k).hold[j]=B at *;simp only [kF hi,mZ hi,kF hj,mZ hj,hA,hB,aQ,Ii,aJ,show ∀ x:Int,oks [li] [ci x] 0=true from fun _=>rfl,ap A ha,ap B hb,aC,eL,bne_self_eq_false,aX,bC,fK]
 by_cases ho:((aK c d k).own A).getD 0=((aK c d k).own B).getD 0
 case neg =>
  simp_all
 have Pu:A∈(aK c d k).owned (((aK c d k).own A).getD 0):=RA.2 ⟨(an A ha).1,(an A ha).2,rfl⟩;have Pv:B∈(aK c d k).owned (((aK c d k).own A).getD 0):=RA.2 ⟨(an B hb).1,(an B hb).2,ho.symm⟩
 have Og:within (((aK c d k).own A).getD 0) 1 99=true:=by
  have h:=(an A ha).2;obtain ⟨w,e⟩:=Option.isSome_iff_exists.1 h;rw [e];exact aH7 iu d k A w e
 rw [<- ho];generalize ((aK c d k).own A).getD 0=o at *;simp only [bne_self_eq_false,aX];have wp:=fun (x:Dd) (e1:x.day=d) (e2:x.kn=k) (hx:x.ok=true) hm hn cq (h5:x.ho=A) (h6:x.tt=B)=>aGn hS n hc aa (by omega) hx hm hn cq (by omega) Og (by grind) (by grind) (by grind) (by grind)
 by_cases hp:Int.tmod n2 2=0
 ·obtain ⟨r2,e5,d0,d1⟩:=NF n3 (b:=(c.ps.length:Int)) (by omega) (by omega)
  obtain ⟨r3,e6,f0,f1⟩:=NF n3 (b:=100) (by decide) (by decide)
  obtain ⟨q,rfl⟩:∃ q:Nat,r2=(q:Int):=⟨r2.toNat,by omega⟩
  have hq:q<c.ps.length:=by omega
  have hid:=iu.id _ (List.getElem_mem hq);have hx:=wp ⟨5,9999,4,d,k,A,B,0,c.ps[q].id,1+r3,0,0,0⟩ rfl rfl (aJF hd hk (an A ha).1 (an B hb).1 ax hid (by omega)) rfl rfl (.inl rfl) rfl rfl
  simp only [hp,beq_self_eq_true,bE,Ee n3 (c.ps.length:Int) (by omega),Ee n3 100 (by decide),aC,aQ,e5,e6,aG hq,aM hq,List.drop_zero,show oks [li] c.ps[q].cv 0=true from rfl,aJ,bJ (show -9223372036854775808<=1+r3 by omega) (by omega),bC]
  exact congrArg aV hx
 ·have x6:(Int.tmod n2 2 == 0)=false:=by simpa using hp
  have hx:=wp ⟨5,9999,5,d,k,A,B,0,0,0,0,0,0⟩ rfl rfl (aJG hd hk (an A ha).1 (an B hb).1 ax) rfl rfl (.inr rfl) rfl rfl;simp only [x6,aX,bC];exact congrArg aV hx
end Go.Proofs.YtfgdfpnkhdlmfaaGreat
namespace Go.Stint
open Go Go.Sx
def aAW (p d:Int) (x:Dd):Bool:=!decide (x.kind=2) || (!decide (x.pa=p) || decide (d<x.day))
def isV (V:List (Int×Int)) (x:Dd):Bool:=V.any fun v=>itQ v.1 v.2 x.m x.no
def hC (V:List (Int×Int)) (p d:Int) (x:Dd):Int:=if aAW p d x || isV V x then 0 else x.pt
def gd (ds:List Dd) (i:Int):Dd:=(ds[i.toNat]?).getD ⟨0,0,0,0,0,0,0,0,0,0,0,0,0⟩
end Go.Stint
namespace Go.Proofs.YtfgdfpnkhdlmfaaGreat
open Go Go.Sx Go.Stint
set_option maxRecDepth 100000
variable {its:ITS}
end Go.Proofs.YtfgdfpnkhdlmfaaGreat
