/-
 The laws of the stints of a common hold at every input, without any condition.
-/
import Derived.KernelRfl
import Derived.Test.YtfgdfpnkhdlmfaaGreatP10
set_option linter.unusedVariables false
set_option linter.unusedSimpArgs false
namespace Go.Proofs.YtfgdfpnkhdlmfaaGreat
open Go Go.Sx Go.Stint
set_option maxRecDepth 10000
variable {its:ITS}
def lE (ps:List Pas) (L:Land):List CV:=[.mp 1 (wN ps),.row 2 (Stint.BH L),.row 2 (evR L),.row 3 (rtR L),.row 13 (L.lets.map Dd.cv),.row 13 (L.gates.map Dd.cv),.row 2 (L.vd.map itC)]
def nN:List (List CV):=bV 1 [ci 8] (fvC 179) (bV 1 [ci 7] (fvC 179) (bV 1 [ci 6] (fvC 178) (bV 1 [ci 5] (fvC 177) (bV 1 [ci 4] (fvC 176) (bV 1 [ci 3] (fvC 175) (bV 1 [ci 2] (fvC 174) (bV 1 [ci 1] (fvC 173) [])))))))
theorem aJf (n:Nat):D its (n+1) vF []=some [.mp 1 nN]:=by
 rw [UE];rfl
theorem aHF:dX [(.int .i64)] .fn nN=true:=by rfl
theorem aLk:aH 1 [ci 1] Value.nilFunc nN=fvC 173:=by rfl
theorem aLl:aH 1 [ci 2] Value.nilFunc nN=fvC 174:=by rfl
theorem aLm:aH 1 [ci 3] Value.nilFunc nN=fvC 175:=by rfl
theorem aLn:aH 1 [ci 4] Value.nilFunc nN=fvC 176:=by rfl
theorem aLo:aH 1 [ci 5] Value.nilFunc nN=fvC 177:=by rfl
theorem aLp:aH 1 [ci 6] Value.nilFunc nN=fvC 178:=by rfl
theorem aLq:aH 1 [ci 7] Value.nilFunc nN=fvC 179:=by rfl
theorem aLr:aH 1 [ci 8] Value.nilFunc nN=fvC 179:=by rfl
theorem sK (f g:Nat):sS f (fvC g)=decide (f=g):=by
 rw [Bool.eq_iff_iff];grind [sS,fvC]
def UJ (x:Dd) (v4:List CV):Option Ou:=aN (aA (!(gb v4 0))
          (chk (cJ (List.length (gr v4 7)) 1 16) <|
          some (.nx ([CV.mp 1 (gr v4 1),CV.row 2 (gr v4 2),CV.row 2 (gr v4 3),CV.row 3 (gr v4 4),CV.row 13 (gr v4 5),CV.row 13 (gr v4 6),CV.row 2 ((gr v4 7)++(aS 2 1 [ci x.m,ci x.no]))])))
          (some (.nx [CV.mp 1 (gr v4 1),CV.row 2 (gr v4 2),CV.row 2 (gr v4 3),CV.row 3 (gr v4 4),CV.row 13 (gr v4 5),CV.row 13 (gr v4 6),CV.row 2 (gr v4 7)]))) fun v5 =>
        some (.nx [CV.mp 1 (gr v5 0),CV.row 2 (gr v5 1),CV.row 2 (gr v5 2),CV.row 3 (gr v5 3),CV.row 13 (gr v5 4),CV.row 13 (gr v5 5),CV.row 2 (gr v5 6)])
theorem aAE (ps:List Pas) (x:Dd) (L:Land):UJ x (cb true::lE ps L)=some (.nx (lE ps L)):=rfl
theorem sZ (ps:List Pas) (x:Dd) (L:Land) (h:L.vd.length<=1000):UJ x (cb false::lE ps L)=some (.nx (lE ps { L with vd:=L.vd++[(x.m,x.no)] })):=by
 have hf:cJ (List.length (L.vd.map itC)) 1 16=true:=dE (by grind) (by grind)
 show aN (chk (cJ (List.length (L.vd.map itC)) 1 16) (some (.nx [.mp 1 (wN ps),.row 2 (Stint.BH L),.row 2 (evR L),.row 3 (rtR L),.row 13 (L.lets.map Dd.cv),.row 13 (L.gates.map Dd.cv),.row 2 (L.vd.map itC++[[ci x.m,ci x.no]])]))) _=_;rw [hf];have e:(L.vd++[(x.m,x.no)]).map itC=L.vd.map itC++[[ci x.m,ci x.no]]:=by simp [itC]
 show _=some (Ou.nx [.mp 1 (wN ps),.row 2 (Stint.BH L),.row 2 (evR L),.row 3 (rtR L),.row 13 (L.lets.map Dd.cv),.row 13 (L.gates.map Dd.cv),.row 2 ((L.vd++[(x.m,x.no)]).map itC)]);rw [e];rfl
theorem XW (ps:List Pas) (L:Land):[CV.mp 1 (wN ps),CV.mp 1 (Stint.BH L),CV.mp 1 (evR L),CV.mp 2 (rtR L),CV.row 13 (L.lets.map Dd.cv),CV.row 13 (L.gates.map Dd.cv),CV.row 2 (L.vd.map itC)]=cS ps L:=rfl
theorem aLs (ps:List Pas) (L:Land) (b:Bool):[cb b,CV.mp 1 (wN ps),CV.row 2 (Stint.BH L),CV.row 2 (evR L),CV.row 3 (rtR L),CV.row 13 (L.lets.map Dd.cv),CV.row 13 (L.gates.map Dd.cv),CV.row 2 (L.vd.map itC)]=cb b::lE ps L:=rfl
theorem aHG {ps:List Pas} (h:∀ q∈ps,1<=q.id/\q.id<=99) {p:Int} (hp:jA ps p=true):1<=p/\p<=99:=by
 unfold jA at hp;grind
theorem aHH {l:List Pas} {q:Pas} (hq:1<=q.id/\q.id<=99):bV 1 [ci q.id] (cb true) (wN l)=wN (l++[q]):=by
 refine (LQ WU aBF qT (lX.2 hq) (cb true)).trans ?_;refine dF fun k _=>?_
 unfold sV jA;grind
theorem aNi (M:Den) (x y:Dd):dY sg M (.fn 200 [.ref x.cv]) y.cv [.agg liA] [.one lb]=M fF (y.cv++[.ref x.cv]):=rfl
theorem aLt (n:Nat) (x y:Dd):D its (n+1) fF (y.cv++[.ref x.cv])=some [cb ((decide (y.ho=x.ho) || decide (y.tt=x.ho))&&decide (x.day<=y.un))]:=by
 show D its (n+1) fF [ci y.m,ci y.no,ci y.kind,ci y.day,ci y.kn,ci y.ho,ci y.tt,ci y.ow,ci y.pa,ci y.pt,ci y.un,ci y.om,ci y.on,.ref x.cv]=_;rw [tP];unfold lZ;have q1:oks [li] (List.drop 5 x.cv) 0=true:=rfl;have q2:oks [li] (List.drop 3 x.cv) 0=true:=rfl;have q3:gi (List.drop 5 x.cv) 0=x.ho:=rfl;have q4:gi (List.drop 3 x.cv) 0=x.day:=rfl;simp [q1,q2,q4];grind
theorem aHI (n:Nat) (L:Land) (x:Dd) (hl:L.lets.length<=1000000):∃ cs:List CV,D its (n+2) gO [.row 13 (L.lets.map Dd.cv),.fn 200 [.ref x.cv]]=some cs/\gb cs 13=L.bound x.ho x.day:=by
 refine ⟨_,aBA (n+1) L.lets (.fn 200 [.ref x.cv]) (fun y=>(decide (y.ho=x.ho) || decide (y.tt=x.ho))&&decide (x.day<=y.un)) (by omega) (fun y _=>by exact aLt n x y),?_⟩
 exact found _ L.lets (fun x=>x.cv++[cb true]) (z13++[cb false]) 13 (fun _=>rfl) rfl
def nO (L:Land) (a b:Int) (T:List Int):Land:={ L with rt:=fun k=>if k.2∈T then (if k.1=b then some (L.g b k.2+L.g a k.2) else if k.1=a then none else L.rt k) else L.rt k }
theorem aHJ (ps:List Pas):wN ps=(jR.filter (jA ps)).map fun p=>[ci p,cb true]:=by
 unfold wN bR;generalize jR=l
 induction l with
 | nil=>rfl
 | cons a l ih =>
  by_cases h:jA ps a=true
  ·simp only [List.filterMap_cons,List.filter_cons,h]
   rw [ih];rfl
  grind
theorem aC5 {N:Nat} {L:Land} (hI:Inv N L) (ps:List Pas) {a b:Int} (ha:1<=a/\a<=99) (hb:1<=b/\b<=99) (zw:b≠a) (l:List (List CV)) (hl:l.Perm (wN ps)) :
  gU 1 (fun x7 v7 =>
               chk (dX [(.int .i64),(.int .i64)] (.int .i64) (gr v7 0)) <|
               chk (dX [(.int .i64),(.int .i64)] (.int .i64) (gr v7 0)) <|
               chk (dX [(.int .i64),(.int .i64)] (.int .i64) (gr v7 0)) <|
               chk (dX [(.int .i64),(.int .i64)] (.int .i64) (bV 2 [ci b,ci (gi x7 0)] (ci (wr ((cI (aH 2 [ci b,ci (gi x7 0)] (.int .i64 0) (gr v7 0)))+(cI (aH 2 [ci a,ci (gi x7 0)] (.int .i64 0) (gr v7 0)))))) (gr v7 0))) <|
               some (.nx ([CV.row 3 (zQ 2 [ci a,ci (gi x7 0)] (bV 2 [ci b,ci (gi x7 0)] (ci (wr ((cI (aH 2 [ci b,ci (gi x7 0)] (.int .i64 0) (gr v7 0)))+(cI (aH 2 [ci a,ci (gi x7 0)] (.int .i64 0) (gr v7 0)))))) (gr v7 0)))]))) l [CV.row 3 (rtR L)]
   = some [CV.row 3 (rtR (nO L a b (jR.filter (jA ps))))]:=by
 rw [aHJ] at hl;obtain ⟨T,hT,rfl⟩:=vM _ hl;have Nk:∀ p∈T,1<=p/\p<=99:=fun p hp=>lX.1 (List.mem_filter.1 (hT.subset hp)).1
 have Nl:T.Nodup:=hT.nodup_iff.2 (qT.filter _)
 have key:∀ (T U:List Int),(∀ p∈T,1<=p/\p<=99)->T.Nodup->(∀ p∈T,p ∉ U)->gU 1 (fun x7 v7 =>
               chk (dX [(.int .i64),(.int .i64)] (.int .i64) (gr v7 0)) <|
               chk (dX [(.int .i64),(.int .i64)] (.int .i64) (gr v7 0)) <|
               chk (dX [(.int .i64),(.int .i64)] (.int .i64) (gr v7 0)) <|
               chk (dX [(.int .i64),(.int .i64)] (.int .i64) (bV 2 [ci b,ci (gi x7 0)] (ci (wr ((cI (aH 2 [ci b,ci (gi x7 0)] (.int .i64 0) (gr v7 0)))+(cI (aH 2 [ci a,ci (gi x7 0)] (.int .i64 0) (gr v7 0)))))) (gr v7 0))) <|
               some (.nx ([CV.row 3 (zQ 2 [ci a,ci (gi x7 0)] (bV 2 [ci b,ci (gi x7 0)] (ci (wr ((cI (aH 2 [ci b,ci (gi x7 0)] (.int .i64 0) (gr v7 0)))+(cI (aH 2 [ci a,ci (gi x7 0)] (.int .i64 0) (gr v7 0)))))) (gr v7 0)))]))) (T.map fun p=>[ci p,cb true]) [CV.row 3 (rtR (nO L a b U))]=some [CV.row 3 (rtR (nO L a b (U++T)))]:=by
  intro T
  induction T with
  | nil=>grind [gU]
  | cons p T ih =>
   intro U h1 h2 h3;have hp:=h1 p (by simp)
   rw [List.nodup_cons] at h2;have Js:=h3 p (by simp)
   rw [List.map_cons,gU];have g1:(nO L a b U).g b p=L.g b p:=by simp [nO,Land.g,Js]
   have g2:(nO L a b U).g a p=L.g a p:=by simp [nO,Land.g,Js]
   have w0:=hI.g0 b p;have w1:=hI.g0 a p;have w2:=hI.gle p hb;have w3:=hI.gle p ha
   have ak:zQ 2 [ci a,ci p] (rtR { nO L a b U with rt:=fun x=>if x=(b,p) then some (L.g b p+L.g a p) else (nO L a b U).rt x })=rtR (nO L a b (U++[p])):=by
    rw [aJd ha hp];simp [nO];grind
   simp [vL hb hp,vL ha hp,g1,g2,bJ (show -9223372036854775808<=L.g b p+L.g a p by omega) (by omega),UH hb hp,ak,xL]
   rw [ih (U++[p]) (fun q hq=>h1 q (by grind)) h2.2 (fun q hq=>by
    grind)]
   simp
 have h0:=key T [] Nk Nl (by simp)
 have e0:rtR (nO L a b [])=rtR L:=dF fun k _=>by rfl
 rw [e0] at h0;rw [h0]
 have e1:rtR (nO L a b ([]++T))=rtR (nO L a b (jR.filter (jA ps))):=dF fun k _=>by
  simp [nO,hT.mem_iff]
 rw [e1]
end Go.Proofs.YtfgdfpnkhdlmfaaGreat
namespace Go.Proofs.YtfgdfpnkhdlmfaaGreat
open Go Go.Sx Go.Stint
set_option maxRecDepth 10000
variable {its:ITS}
theorem DZ {L:Land} {h:Int} (hh:1<=h/\h<=99) {i:Decidable (bN 1 [ci h] (Stint.BH L)<(Stint.BH L).length)}:@decide _ i=L.th h:=by
 grind [aBG]
theorem aJg {k:Int} (h:1<=k/\k<=8):k=1\/k=2\/k=3\/k=4\/k=5\/k=6\/k=7\/k=8:=by omega
theorem aJh {A:Type} {rows:List (List CV)} {K:Nat->List (List CV)->Option A} {r:A} (h:∀ p l,l.Perm rows->K p l=some r):OJ rows K=some r:=zH.2 h
theorem aLu (k:Nat) (es:List (List CV)) (l:List CV):gr (.mp k es::l) 0=es:=rfl
theorem aFo (hS:ItsS its) (n:Nat) (c:Cm) (day k:Int) (hp:c.ps.length<=1000) (hb:c.bl.length<=1000) (hd:c.ds.length<=60) (hid:∀ q∈c.ps,1<=q.id/\q.id<=99) (aa:∀ x∈c.ds,x.ok=true) :
  ∃ t,aV (oS (D its (n+5)) (c.ps.map Pas.cv) (c.bl.map By.cv) (c.ds.map Dd.cv) day k)=some [.ref (cS c.ps (aK c day k)),.fn 115 t]/\SM [none,some (2097264,2),some (2097263,2),some (3145841,3),some (56,13),some (56,13),some (54,2)] t=true:=by
 unfold oS;obtain ⟨ps,bl,ds⟩:=c;simp only at hp hb hd hid aa ⊢;rw [bZ ps.length (fun i=>[ci (i:Int),.row 2 (wN (ps.take i))]) (some (.br 0 [.row 2 (wN ps)])) ?hv (fun i hi=>?hs) ?he (by simp)]
 case hv=>rfl
 case he=>simp
 case hs =>
  have hq:=hid _ (List.getElem_mem hi);simp only [aQ,dZ,bW,cQ,Int.ofNat_lt,hi,decide_true,rU,if_true,aG hi,aM hi,aLW,aCP,aJ,MV,bG (show i<9223372036854775807 by omega),aHH hq,cK hi]
 have Cr:D its (n+5) DA [.row 3 (ps.map Pas.cv),.row 13 (bl.map By.cv),.row 13 (ds.map Dd.cv),ci day,ci k]=some [.fn 170 [.ref (Cm.rs ⟨ps,bl,ds⟩),.ref [ci day,ci k]]]:=by
  rfl
 have Cc:=JK aLf (hS.done (n+4) ⟨ps,bl,ds⟩ day k hp hb hd aa);simp only [cP,bW,Cr,aC,List.getD_cons_zero,Cc,kK]
 rw [show [CV.mp 1 (wN ps),CV.row 2 [],CV.row 2 [],CV.row 3 [],CV.row 13 [],CV.row 13 [],CV.row 2 []]=lE ps Land.z by
  simp [lE,Land.z,Stint.BH,Stint.evR,rtR,bR]]
 rw [xS Dd.cv (lE ps) (bK ps) (fun L l=>(∃ N,Stint.Inv N L/\N+l.length<=60)/\∀ x∈l,x.ok=true/\x.kind≠0) (fun L x l hI=>?hs) (gE ds day k) Land.z ?hi]
 case hi =>
  refine ⟨⟨0,Inv.z 0,?_⟩,fun x hx=>?_⟩
  ·have h1:=(aU leD (gD ds day (dV ds k))).length_eq
   have h2:(gD ds day (dV ds k)).length<=(dV ds k).length:=List.length_filterMap_le _ _
   have h3:(dV ds k).length<=ds.length:=by
    unfold dV
    have:∀ (l:List (Nat×Dd)) (s:(Int×Int->Bool)×List Int),(l.foldl (dN k) s).2.length<=s.2.length+l.length:=by
     intro l
     induction l with
     | nil=>simp
     | cons e l ih =>
      intro s;rw [List.foldl_cons];have h1:=ih (dN k s e)
      have h2:(dN k s e).2.length<=s.2.length+1:=by
       unfold dN;grind
      grind
    grind [qE]
   unfold gE;omega
  ·have:=lY hx
   grind
 case hs =>
  obtain ⟨⟨N,hI,hN⟩,hl⟩:=hI;obtain ⟨hx,h0⟩:=hl x (by simp)
  simp at hN;have tj:L.vd.length<=1000:=by have:=hI.vl;omega
  refine ⟨?_,⟨N+1,hI.step ps hx h0,by omega⟩,fun y hy=>hl y (by grind)⟩
  obtain ⟨hk,y7,qa,tc,zx,wg,jv,ki⟩:=x.ok_flds hx h0;simp only [within,Bool.and_eq_true,decide_eq_true_eq] at hk;simp only [aJf,aC,aLu,aHF,aJ];have gE0:gr (lE ps L) 0=wN ps:=rfl;have gE1:gr (lE ps L) 1=Stint.BH L:=rfl;have gE2:gr (lE ps L) 2=Stint.evR L:=rfl;have gE3:gr (lE ps L) 3=rtR L:=rfl;have gE4:gr (lE ps L) 4=L.lets.map Dd.cv:=rfl;have gE5:gr (lE ps L) 5=L.gates.map Dd.cv:=rfl;have gE6:gr (lE ps L) 6=L.vd.map itC:=rfl;rcases aJg hk with k1 | k2 | k3 | k4 | k5 | k6 | k7 | k8
  ·have e:∀ f,sS f (aH 1 [ci x.kind] Value.nilFunc nN)=decide (f=173):=fun f=>by rw [k1,aLk,sK]
   have h1:=qa (by simp [kHo,k1])
   simp only [dd2,dd5,e,gE1,gE2,aFk,vK,aHy h1,aBH h1,aJc h1];rcases Bool.eq_false_or_eq_true (L.ev x.ho) with hc | hc
   ·have ak:bK ps L x={ L with vd:=L.vd++[(x.m,x.no)] }:=by simp [bK,iA,k1,hc]
    rw [ak,hc];exact sZ ps x L tj
   ·have ak:bK ps L x={ L with own:=fun h=>if h=x.ho then some x.ow else L.own h,ev:=fun h=>if h=x.ho then true else L.ev h }:=by simp [bK,iA,k1,hc]
    rw [ak,hc];rfl
  ·have e:∀ f,sS f (aH 1 [ci x.kind] Value.nilFunc nN)=decide (f=174):=fun f=>by rw [k2,aLl,sK]
   have h1:=qa (by simp [kHo,k2])
   have h2:=wg (by simp [kPa,k2])
   have h3:=jv (by simp [kPt,k2])
   have ht:=hI.tb x.pa
   have Pl:0<=L.tot x.pa:=lW fun v hv=>by
    obtain ⟨b,_,rfl⟩:=List.mem_map.1 hv;exact hI.g0 b x.pa
   have g0:=hI.g0 x.ho x.pa;have g1:=hI.gle x.pa h1;simp only [dd2,dd5,dd8,dd9,e,gE0,gE1,gE2,gE3,gE4,gE5,gE6,MV,XR,aJ,XW,UI (n+4) ps L h1,aBJ (n+4) ps hI h2,aC,fK,aQ,MW h2,vL h1 h2,aEN,aEM,bJ (show -9223372036854775808<=L.g x.ho x.pa+x.pt by omega) (by omega),bJ (show -9223372036854775808<=L.tot x.pa+x.pt by omega) (by omega),UH h1 h2,orN]
   change gQ _ (UJ x)=_
   by_cases hc:(L.th x.ho&&jA ps x.pa&&decide (L.tot x.pa+x.pt<=1000000))=true
   ·have ak:bK ps L x={ L with rt:=fun k=>if k=(x.ho,x.pa) then some (L.g x.ho x.pa+x.pt) else L.rt k }:=by grind [bK,iA,k2]
    simp at hc;have qb:¬(L.tot x.pa+x.pt > 1000000):=by omega
    rw [ak];simp [hc.1.1,hc.1.2,qb];rfl
   ·have ak:bK ps L x={ L with vd:=L.vd++[(x.m,x.no)] }:=by grind [bK,iA,k2]
    have n7:(!L.th x.ho || (!jA ps x.pa || decide (L.tot x.pa+x.pt > 1000000)))=true:=by
     grind
    rw [ak,n7];exact sZ ps x L tj
  ·have e:∀ f,sS f (aH 1 [ci x.kind] Value.nilFunc nN)=decide (f=175):=fun f=>by rw [k3,aLm,sK]
   have h1:=qa (by simp [kHo,k3])
   simp only [dd2,dd5,e,gE1,vK,aBH h1];rw [DZ h1];rcases Bool.eq_false_or_eq_true (L.th x.ho) with hc | hc
   ·have ak:bK ps L x={ L with own:=fun h=>if h=x.ho then some x.ow else L.own h }:=by grind [bK,iA]
    rw [ak,hc];rfl
   ·have ak:bK ps L x={ L with vd:=L.vd++[(x.m,x.no)] }:=by grind [bK,iA]
    rw [ak,hc];exact sZ ps x L tj
  ·have e:∀ f,sS f (aH 1 [ci x.kind] Value.nilFunc nN)=decide (f=176):=fun f=>by rw [k4,aLn,sK]
   have h1:=qa (by simp [kHo,k4])
   have h2:=wg (by simp [kPa,k4])
   have h3:=jv (by simp [kPt,k4])
   have h4:=tc (by simp [kTt,k4])
   have g0:=hI.g0 x.ho x.pa;have g1:=hI.gle x.pa h1;have g2:=hI.g0 x.tt x.pa;have g3:=hI.gle x.pa h4.1
   have gn:aH 2 [ci x.tt,ci x.pa] (.int .i64 0) (rtR { L with rt:=fun k=>if k=(x.ho,x.pa) then some (L.g x.ho x.pa - x.pt) else L.rt k })=ci (L.g x.tt x.pa):=by
    grind [vL,Land.g]
   simp only [dd2,dd3,dd5,dd6,dd8,dd9,ddC,e,gE0,gE1,gE2,gE3,gE4,gE5,gE6,XR,XW,QN,QM,List.cons_append,List.nil_append,aFl (n+3) ps L x h1 h4.1,aAB (n+4) ps hI (show N<=1000000 by omega) x.day h1 h2,aC,aQ,vL h1 h2,aEM,bJ (show -9223372036854775808<=L.g x.ho x.pa - x.pt by omega) (by omega),UH h1 h2,gn,bJ (show -9223372036854775808<=L.g x.tt x.pa+x.pt by omega) (by omega),UH h4.1 h2]
   change gQ _ (UJ x)=_
   by_cases hc:(L.th x.ho&&L.th x.tt&&decide (x.pt<=L.free x.ho x.pa x.day))=true
   ·have ak:bK ps L x={ L with rt:=fun k=>if k=(x.tt,x.pa) then some (L.g x.tt x.pa+x.pt) else if k=(x.ho,x.pa) then some (L.g x.ho x.pa - x.pt) else L.rt k }:=by grind [bK,iA]
    simp at hc;have qb:¬(x.pt > L.free x.ho x.pa x.day):=by omega
    rw [ak];simp [hc.1.1,hc.1.2,qb];rfl
   ·have ak:bK ps L x={ L with vd:=L.vd++[(x.m,x.no)] }:=by grind [bK,iA]
    rw [ak];rcases Bool.eq_false_or_eq_true (L.th x.ho&&L.th x.tt) with h5 | h5
    ·have qb:x.pt > L.free x.ho x.pa x.day:=by
      grind
     simp [qb];exact sZ ps x L tj
    ·simp [h5]
     exact sZ ps x L tj
  ·have e:∀ f,sS f (aH 1 [ci x.kind] Value.nilFunc nN)=decide (f=177):=fun f=>by rw [k5,aLo,sK]
   have h1:=qa (by simp [kHo,k5])
   have h4:=tc (by simp [kTt,k5])
   have oe:=hI.ll;obtain ⟨cs,Ho,Hp⟩:=aHI (its:=its) (n+3) L x (by omega)
   simp only [dd2,dd5,dd6,ddC,e,gE0,gE1,gE3,gE4,vK,MV,Ho,Hp,aC,aHz h1];rw [DZ h1,DZ h4.1];change gQ _ (UJ x)=_
   by_cases hc:(L.th x.ho&&L.th x.tt&&!L.bound x.ho x.day)=true
   ·have ak:bK ps L x={ L with rt:=fun k=>if jA ps k.2 then (if k.1=x.tt then some (L.g x.tt k.2+L.g x.ho k.2) else if k.1=x.ho then none else L.rt k) else L.rt k,own:=fun h=>if h=x.ho then none else L.own h }:=by grind [bK,iA]
    simp at hc;rw [ak];simp [hc.1.1,hc.1.2,hc.2]
    have hj:∀ k,(nO L x.ho x.tt (jR.filter (jA ps))).rt k=if jA ps k.2 then (if k.1=x.tt then some (L.g x.tt k.2+L.g x.ho k.2) else if k.1=x.ho then none else L.rt k) else L.rt k:=fun k=>by
     have an:k.2∈jR.filter (jA ps)↔jA ps k.2=true:=by
      rw [List.mem_filter];exact ⟨fun h=>h.2,fun h=>⟨lX.2 (aHG hid h),h⟩⟩
     grind [nO]
    have hr:rtR (nO L x.ho x.tt (jR.filter (jA ps)))=rtR { L with rt:=fun k=>if jA ps k.2 then (if k.1=x.tt then some (L.g x.tt k.2+L.g x.ho k.2) else if k.1=x.ho then none else L.rt k) else L.rt k,own:=fun h=>if h=x.ho then none else L.own h }:=dF fun k _=>by rw [hj]
    refine (congrArg (fun r=>gQ r (UJ x)) (aJh (r:=Ou.ret (cb true::lE ps { L with rt:=fun k=>if jA ps k.2 then (if k.1=x.tt then some (L.g x.tt k.2+L.g x.ho k.2) else if k.1=x.ho then none else L.rt k) else L.rt k,own:=fun h=>if h=x.ho then none else L.own h })) (fun p l hl=>?_))).trans ?_
    ·rw [aC5 hI ps h1 h4.1 h4.2 l hl]
     simp [hr];rfl
    rfl
   ·have ak:bK ps L x={ L with vd:=L.vd++[(x.m,x.no)] }:=by grind [bK,iA]
    rw [ak];cases h5:L.th x.ho <;> cases h6:L.th x.tt <;> cases h7:L.bound x.ho x.day <;> simp only [h5,h6,h7,Bool.and_self,Bool.not_false,Bool.and_true,not_true] at hc <;> exact sZ ps x L tj
  ·have e:∀ f,sS f (aH 1 [ci x.kind] Value.nilFunc nN)=decide (f=178):=fun f=>by rw [k6,aLp,sK]
   have h1:=qa (by simp [kHo,k6])
   have h2:=wg (by simp [kPa,k6])
   have h4:=tc (by simp [kTt,k6])
   have oe:=hI.ll;have hf:cJ (List.length (L.lets.map Dd.cv)) 1 104=true:=dE (by simp;omega) (by simp;omega)
   simp only [dd2,dd3,dd5,dd8,dd9,ddC,e,gE0,gE1,gE2,gE3,gE4,gE5,gE6,XW,QN,QM,List.cons_append,List.nil_append,aFl (n+3) ps L x h1 h4.1,aAB (n+4) ps hI (show N<=1000000 by omega) x.day h1 h2,aC,aQ,hf]
   change gQ _ (UJ x)=_
   by_cases hc:(L.th x.ho&&L.th x.tt&&decide (x.pt<=L.free x.ho x.pa x.day))=true
   ·have ak:bK ps L x={ L with lets:=L.lets++[x] }:=by simp only [bK,iA,k6,hc];rfl
    simp only [Bool.and_eq_true,decide_eq_true_eq] at hc;have qb:¬(x.pt > L.free x.ho x.pa x.day):=by omega
    rw [ak];simp only [hc.1.1,hc.1.2,qb,Bool.and_self,decide_false];have hm:(L.lets++[x]).map Dd.cv=L.lets.map Dd.cv++aS 13 1 x.cv:=by simp [List.take_of_length_le (show x.cv.length<=13 by simp)]
    rw [<- hm];exact aAE ps x { L with lets:=L.lets++[x] }
   ·have ak:bK ps L x={ L with vd:=L.vd++[(x.m,x.no)] }:=by simp only [bK,iA,k6,hc];rfl
    rw [ak];rcases Bool.eq_false_or_eq_true (L.th x.ho&&L.th x.tt) with h5 | h5
    ·have qb:x.pt > L.free x.ho x.pa x.day:=by
      rw [h5,Bool.true_and,decide_eq_true_eq] at hc;omega
     simp only [h5,qb,decide_true];exact sZ ps x L tj
    ·simp only [h5]
     exact sZ ps x L tj
  ·have e:∀ f,sS f (aH 1 [ci x.kind] Value.nilFunc nN)=decide (f=179):=fun f=>by rw [k7,aLq,sK]
   have h2:=wg (by simp [kPa,k7])
   have r8:=hI.gl;have hf:cJ (List.length (L.gates.map Dd.cv)) 1 104=true:=dE (by simp;omega) (by simp;omega)
   simp only [dd0,dd1,dd2,dd3,dd5,dd6,dd7,dd8,dd9,ddC,e,Nat.reduceEqDiff,decide_true,decide_false,bE,aX,gE0,gE1,gE2,gE3,gE4,gE5,gE6,aFk,vK,MV,XR,aJ,XW,aLs,MW h2,aEN,hf];change gQ _ (UJ x)=_;rcases Bool.eq_false_or_eq_true (jA ps x.pa) with hc | hc
   ·have ak:bK ps L x={ L with gates:=L.gates++[x] }:=by simp [bK,iA,k7,hc]
    have hm:(L.gates++[x]).map Dd.cv=L.gates.map Dd.cv++aS 13 1 x.cv:=by simp [List.take_of_length_le (show x.cv.length<=13 by simp)]
    rw [ak,hc,<- hm];exact aAE ps x { L with gates:=L.gates++[x] }
   ·have ak:bK ps L x={ L with vd:=L.vd++[(x.m,x.no)] }:=by simp [bK,iA,k7,hc]
    rw [ak,hc];exact sZ ps x L tj
  ·have e:∀ f,sS f (aH 1 [ci x.kind] Value.nilFunc nN)=decide (f=179):=fun f=>by rw [k8,aLr,sK]
   have h2:=wg (by simp [kPa,k8])
   have r8:=hI.gl;have hf:cJ (List.length (L.gates.map Dd.cv)) 1 104=true:=dE (by simp;omega) (by simp;omega)
   simp only [dd0,dd1,dd2,dd3,dd5,dd6,dd7,dd8,dd9,ddC,e,Nat.reduceEqDiff,decide_true,decide_false,bE,aX,gE0,gE1,gE2,gE3,gE4,gE5,gE6,aFk,vK,MV,XR,aJ,XW,aLs,MW h2,aEN,hf];change gQ _ (UJ x)=_;rcases Bool.eq_false_or_eq_true (jA ps x.pa) with hc | hc
   ·have ak:bK ps L x={ L with gates:=L.gates++[x] }:=by simp [bK,iA,k8,hc]
    have hm:(L.gates++[x]).map Dd.cv=L.gates.map Dd.cv++aS 13 1 x.cv:=by simp [List.take_of_length_le (show x.cv.length<=13 by simp)]
    rw [ak,hc,<- hm];exact aAE ps x { L with gates:=L.gates++[x] }
   ·have ak:bK ps L x={ L with vd:=L.vd++[(x.m,x.no)] }:=by simp [bK,iA,k8,hc]
    rw [ak,hc];exact sZ ps x L tj
 refine ⟨_,rfl,rfl⟩
end Go.Proofs.YtfgdfpnkhdlmfaaGreat
namespace Go.Proofs.YtfgdfpnkhdlmfaaGreat
open Go Go.Sx Go.Stint
set_option maxRecDepth 10000
variable {its:ITS}
structure Ready (c:Cm):Prop where
 p:c.ps.length<=8
 b:c.bl.length<=20
 d:c.ds.length<=60
 id:∀ q∈c.ps,1<=q.id/\q.id<=99
 ok:∀ x∈c.ds,x.ok=true
variable {c:Cm}
theorem bS (h:c.ok=true):Ready c:=by
 simp only [Cm.ok,Bool.and_eq_true,decide_eq_true_eq] at h;obtain ⟨⟨⟨⟨⟨⟨⟨⟨k1,k2⟩,k3⟩,k4⟩,k5⟩,k6⟩,k7⟩,k8⟩,k9⟩:=h;refine ⟨k1,k2,k3,fun q hq=>?_,fun x hx=>List.all_eq_true.1 k6 x hx⟩
 simp_all [Pas.ok,within]
theorem HQ (hS:ItsS its) (n:Nat) (hc:Ready c) (day k:Int):D its (n+6) bP (c.rs++[ci day,ci k])=some [.ref (cS c.ps (aK c day k))]:=by
 have:=hc.p;have:=hc.b;obtain ⟨t,h1,h2⟩:=aFo hS n c day k (by omega) (by omega) hc.d hc.id hc.ok
 show D its (n+6) bP [.row 3 (c.ps.map Pas.cv),.row 13 (c.bl.map By.cv),.row 13 (c.ds.map Dd.cv),ci day,ci k]=_;grind [XF,WM]
theorem aJi (hS:ItsS its) (n:Nat) (hc:Ready c) (day k:Int):∃ t,D its (n+6) 1000000069 (c.rs++[ci day,ci k])=some [.ref (cS c.ps (aK c day k)),.fn 115 t]/\FH 115 [none,some (2097264,2),some (2097263,2),some (3145841,3),some (56,13),some (56,13),some (54,2)] [.ref (cS c.ps (aK c day k)),.fn 115 t]=true:=by
 have:=hc.p;have:=hc.b;obtain ⟨t,h1,h2⟩:=aFo hS n c day k (by omega) (by omega) hc.d hc.id hc.ok
 refine ⟨t,?_,by simp [FH,h2]⟩
 show D its (n+6) 1000000069 [.row 3 (c.ps.map Pas.cv),.row 13 (c.bl.map By.cv),.row 13 (c.ds.map Dd.cv),ci day,ci k]=_;rw [TT its _ hS.nlay,h1];simp [aCL,h2]
theorem XX (ps:List Pas):∀ (l:List Dd) {N:Nat} {L:Land},Stint.Inv N L->(∀ x∈l,x.ok=true/\x.kind≠0)->Stint.Inv (N+l.length) (l.foldl (bK ps) L)
 | [],N,L,h,_=>by grind
 | x::l,N,L,h,hl=>by
  have:=XX ps l (h.step ps (hl x (by simp)).1 (hl x (by simp)).2) fun y hy=>hl y (by grind)
  grind
theorem aC6 (ds:List Dd) (day k:Int):(gE ds day k).length<=ds.length:=by
 have h1:=(aU leD (gD ds day (dV ds k))).length_eq;have h2:(gD ds day (dV ds k)).length<=(dV ds k).length:=List.length_filterMap_le _ _
 have h3:(dV ds k).length<=ds.length:=by
  unfold dV
  have:∀ (l:List (Nat×Dd)) (s:(Int×Int->Bool)×List Int),(l.foldl (dN k) s).2.length<=s.2.length+l.length:=by
   intro l
   induction l with
   | nil=>simp
   | cons e l ih =>
    intro s
    have h2:(dN k s e).2.length<=s.2.length+1:=by
     unfold dN;grind
    grind
  grind [qE]
 unfold gE;omega
theorem nC (hc:Ready c) (day k:Int):Stint.Inv 60 (aK c day k):=by
 have h:=XX c.ps (gE c.ds day k) (Inv.z 0) fun x hx=>by
  have:=lY hx;exact ⟨hc.ok x this.1,this.2.1⟩
 have:=aC6 c.ds day k;have:=hc.d;exact h.mono (by omega)
theorem kG (n:Nat) (c:Cm) (p:Int) (hp:c.ps.length<=1000000):D its (n+3) aR (c.rs++[ci p])=some (((jC c.ps p).map fun x=>x.cv++[cb true]).getD [ci 0,ci 0,ci 0,cb false]):=by
 show D its (n+3) aR [.row 3 (c.ps.map Pas.cv),.row 13 (c.bl.map By.cv),.row 13 (c.ds.map Dd.cv),ci p]=_;rw [DQ];unfold sI;rw [UF (n+1) c.ps (.fn 146 [.ref [ci p]]) (fun q=>decide (q.id=p)) (by omega) fun x _=>by rfl]
 unfold jC;cases c.ps.find? fun q=>decide (q.id=p) <;> rfl
theorem uE {ps:List Pas} {p:Int} {q:Pas} (h:jC ps p=some q):q.id=p/\q∈ps:=by
 have h1:=List.find?_some h;exact ⟨by grind,List.mem_of_find?_eq_some h⟩
def yN (c:Cm) (h p d k:Int):Int:=if c.ok then (if within h 1 99 then (if (jC c.ps p).isSome then (if bA d&&bA k then (if (aK c d k).th h then 0 else 24) else 6) else 20) else 1) else 23
theorem RJ (hS:ItsS its) (n:Nat) (c:Cm) (hc:Fit c) (h p d k:Int):D its (n+9) fI (c.rs++[ci h,ci p,ci d,ci k])=some (if yN c h p d k=0 then [.ref (cS c.ps (aK c d k)),ci 0] else [.val (.pointer none),ci (yN c h p d k)]):=by
 show D its (n+9) fI [.row 3 (c.ps.map Pas.cv),.row 13 (c.bl.map By.cv),.row 13 (c.ds.map Dd.cv),ci h,ci p,ci d,ci k]=_;rw [IF];unfold vX;rw [show D its (n+8) aI [CV.row 3 (c.ps.map Pas.cv),CV.row 13 (c.bl.map By.cv),CV.row 13 (c.ds.map Dd.cv)]=_ from iQ n c hc];simp only [Cm.chk];rcases Bool.eq_false_or_eq_true c.ok with aa | aa
 ·have hr:=bS aa
  have:=hr.p;have i8:D its (n+8) aR [CV.row 3 (c.ps.map Pas.cv),CV.row 13 (c.bl.map By.cv),CV.row 13 (c.ds.map Dd.cv),ci p]=_:=kG (n+5) c p (by omega)
  have ln:D its (n+8) bP [CV.row 3 (c.ps.map Pas.cv),CV.row 13 (c.bl.map By.cv),CV.row 13 (c.ds.map Dd.cv),ci d,ci k]=some [.ref (cS c.ps (aK c d k))]:=HQ hS (n+2) hr d k;simp only [i8,aC,aFa,ln,List.getD_cons_zero,BT];unfold yN bA;rcases Bool.eq_false_or_eq_true (within h 1 99) with h1 | h1
  ·have ph:1<=h/\h<=99:=by grind [within]
   simp only [UI (n+7) c.ps (aK c d k) ph,aa,h1];cases hp:jC c.ps p with
   | none=>simp
   | some q =>
    have e:gb ((Option.map (fun x:Pas=>x.cv++[cb true]) (some q)).getD [ci 0,ci 0,ci 0,cb false]) 3=true:=rfl
    rw [e];rcases Bool.eq_false_or_eq_true (within d 0 100000&&within k 0 100000) with h2 | h2
    ·rcases Bool.eq_false_or_eq_true ((aK c d k).th h) with h3 | h3 <;> simp [h2,h3]
    ·simp [h2]
  simp_all
 simp_all [yN]
theorem XY (hS:ItsS its) (n:Nat) (c:Cm) (hc:Fit c) (h p d k:Int):D its (n+10) dH (c.rs++[ci h,ci p,ci d,ci k])=some [ci (if yN c h p d k=0 then (aK c d k).use h p d else 0),ci (yN c h p d k)]:=by
 show D its (n+10) dH [.row 3 (c.ps.map Pas.cv),.row 13 (c.bl.map By.cv),.row 13 (c.ds.map Dd.cv),ci h,ci p,ci d,ci k]=_;rw [XJ];unfold HK;rw [show D its (n+9) fI [.row 3 (c.ps.map Pas.cv),.row 13 (c.bl.map By.cv),.row 13 (c.ds.map Dd.cv),ci h,ci p,ci d,ci k]=_ from RJ hS n c hc h p d k]
 by_cases h0:yN c h p d k=0
 ·have hh:=h0
  unfold yN at hh;split at hh
  case isFalse=>cases hh
  rename_i aa;split at hh
  case isFalse=>cases hh
  rename_i h1;split at hh
  case isFalse=>cases hh
  rename_i h2;have hr:=bS aa;have ph:1<=h/\h<=99:=by grind [within]
  obtain ⟨q,hq⟩:=Option.isSome_iff_exists.1 h2;obtain ⟨e1,e2⟩:=uE hq;have x6:1<=p/\p<=99:=by rw [<- e1];exact hr.id q e2
  simp [h0,aIp (n+7) c.ps (nC hr d k) (by omega) d ph x6]
 ·simp [h0]
def vN (c:Cm) (p d k:Int):Int:=if c.ok then (if (jC c.ps p).isSome then (if bA d&&bA k then 0 else 6) else 20) else 23
theorem aBL (hS:ItsS its) (n:Nat) (c:Cm) (hc:Fit c) (p d k:Int):D its (n+9) gS (c.rs++[ci p,ci d,ci k])=some [ci (if vN c p d k=0 then (aK c d k).tot p else 0),ci (vN c p d k)]:=by
 show D its (n+9) gS [.row 3 (c.ps.map Pas.cv),.row 13 (c.bl.map By.cv),.row 13 (c.ds.map Dd.cv),ci p,ci d,ci k]=_;rw [ON];unfold AK;rw [show D its (n+8) aI [CV.row 3 (c.ps.map Pas.cv),CV.row 13 (c.bl.map By.cv),CV.row 13 (c.ds.map Dd.cv)]=_ from iQ n c hc];simp only [Cm.chk];rcases Bool.eq_false_or_eq_true c.ok with aa | aa
 ·have hr:=bS aa
  have:=hr.p;have i8:D its (n+8) aR [CV.row 3 (c.ps.map Pas.cv),CV.row 13 (c.bl.map By.cv),CV.row 13 (c.ds.map Dd.cv),ci p]=_:=kG (n+5) c p (by omega)
  have ln:D its (n+8) bP [CV.row 3 (c.ps.map Pas.cv),CV.row 13 (c.bl.map By.cv),CV.row 13 (c.ds.map Dd.cv),ci d,ci k]=some [.ref (cS c.ps (aK c d k))]:=HQ hS (n+2) hr d k;simp only [i8,aC,ln,List.getD_cons_zero,BT];unfold vN bA;cases hp:jC c.ps p with
  | none=>simp [aa]
  | some q =>
   obtain ⟨e1,e2⟩:=uE hp;have x6:1<=p/\p<=99:=by rw [<- e1];exact hr.id q e2
   have e:gb ((Option.map (fun x:Pas=>x.cv++[cb true]) (some q)).getD [ci 0,ci 0,ci 0,cb false]) 3=true:=rfl
   rw [e,aBJ (n+7) c.ps (nC hr d k) x6];rcases Bool.eq_false_or_eq_true (within d 0 100000&&within k 0 100000) with h2 | h2 <;> simp [h2,aa]
 simp_all [vN]
theorem aAF (hS:ItsS its) (n:Nat) (c:Cm) (hc:Fit c) (p d k:Int):D its (n+9) cY (c.rs++[ci p,ci d,ci k])=some [cb (if vN c p d k=0 then (match jC c.ps p with | some q=>(aK c d k).open q d | none=>false) else false),ci (vN c p d k)]:=by
 show D its (n+9) cY [.row 3 (c.ps.map Pas.cv),.row 13 (c.bl.map By.cv),.row 13 (c.ds.map Dd.cv),ci p,ci d,ci k]=_;rw [DN];unfold DM;rw [show D its (n+8) aI [CV.row 3 (c.ps.map Pas.cv),CV.row 13 (c.bl.map By.cv),CV.row 13 (c.ds.map Dd.cv)]=_ from iQ n c hc];simp only [Cm.chk];rcases Bool.eq_false_or_eq_true c.ok with aa | aa
 ·have hr:=bS aa
  have:=hr.p;have i8:D its (n+8) aR [CV.row 3 (c.ps.map Pas.cv),CV.row 13 (c.bl.map By.cv),CV.row 13 (c.ds.map Dd.cv),ci p]=_:=kG (n+5) c p (by omega)
  have ln:D its (n+8) bP [CV.row 3 (c.ps.map Pas.cv),CV.row 13 (c.bl.map By.cv),CV.row 13 (c.ds.map Dd.cv),ci d,ci k]=some [.ref (cS c.ps (aK c d k))]:=HQ hS (n+2) hr d k;simp only [i8,aC,ln,List.getD_cons_zero,BT];unfold vN bA;cases hp:jC c.ps p with
  | none=>simp [aa]
  | some q =>
   have e:gb ((Option.map (fun x:Pas=>x.cv++[cb true]) (some q)).getD [ci 0,ci 0,ci 0,cb false]) 3=true:=rfl
   have e0:gi ((Option.map (fun x:Pas=>x.cv++[cb true]) (some q)).getD [ci 0,ci 0,ci 0,cb false]) 0=q.id:=rfl
   have e1:gi ((Option.map (fun x:Pas=>x.cv++[cb true]) (some q)).getD [ci 0,ci 0,ci 0,cb false]) 1=q.lo:=rfl
   have e2:gi ((Option.map (fun x:Pas=>x.cv++[cb true]) (some q)).getD [ci 0,ci 0,ci 0,cb false]) 2=q.hi:=rfl
   have r8:=(nC hr d k).gl;rw [e,e0,e1,e2,MY hS (n+6) c.ps (aK c d k) q d (by omega)]
   rcases Bool.eq_false_or_eq_true (within d 0 100000&&within k 0 100000) with h2 | h2 <;> simp [h2,aa]
 simp_all [vN]
end Go.Proofs.YtfgdfpnkhdlmfaaGreat
namespace Go.Proofs.YtfgdfpnkhdlmfaaGreat
open Go Go.Sx Go.Stint
set_option maxRecDepth 10000
variable {its:ITS}
structure ItsR (its:ITS):Prop extends ItsS its where
 del:∀ n (l:List Dd) (i:Nat),i<l.length->l.length<=60->D its (n+1) oO [.row 13 (l.map Dd.cv),.fn 56 [],ci (i:Int),ci ((i+1:Nat):Int)]=some [.row 13 ((l.eraseIdx i).map Dd.cv),.val (.bool true)]
 sortF:∀ n (l:List (Int×Int)),l.length<1000000->D its (n+1) mS [.row 2 (l.map itC),.fn 54 [],.fn 112 []]=some [.row 2 ((kZ l).map itC),.val (.bool false)]
theorem GB (hI:ItsS its) (n:Nat) (c:Cm) (p d:Int) (hb:c.bl.length<=1000000) :
  D its (n+2) dS (c.rs++[ci p,ci d])=some (((pJ c.bl p d).map fun b=>b.cv++[ci 0]).getD (z13++[ci 26])):=by
 show D its (n+2) dS [.row 3 (c.ps.map Pas.cv),.row 13 (c.bl.map By.cv),.row 13 (c.ds.map Dd.cv),ci p,ci d]=_;rw [IK];unfold wC;simp only [XT,aC,List.getD_cons_zero,JK aLg (hI.backB n c.bl hb),kK];rw [xR bB (fun e=>LX p d e.2) (fun e=>.ret (e.2.cv++[ci 0])) [ci 0,ci 0,ci 0,ci 0,ci 0,ci 0,ci 0,ci 0,ci 0,ci 0,ci 0,ci 0,ci 0,ci 0] (by simp) (fun e he=>?h1) (fun e he=>?h2)]
 case h1 =>
  have ib:(decide (e.2.pa=p)&&decide (e.2.fr<=d))=false:=he;have q1:gi (bB e) 2=e.2.pa:=rfl;have q2:gi (bB e) 3=e.2.fr:=rfl;simp_all
 case h2 =>
  have ib:(decide (e.2.pa=p)&&decide (e.2.fr<=d))=true:=he;have q1:gi (bB e) 2=e.2.pa:=rfl;have q2:gi (bB e) 3=e.2.fr:=rfl;simp [q1,q2,ib];rfl
 unfold pJ;rw [<- QU,List.find?_map];rw [show (LX p d∘fun x:Nat×By=>x.2)=fun e=>LX p d e.2 from rfl]
 cases (eM c.bl).find? (fun e=>LX p d e.2) with
 | some e=>rfl
 | none=>rfl
variable {i:Nat}
theorem UK (h:i<10):i=0\/i=1\/i=2\/i=3\/i=4\/i=5\/i=6\/i=7\/i=8\/i=9:=by omega
theorem NA (h:Hd) (hi:i<10):gi [ci h.h0,ci h.h1,ci h.h2,ci h.h3,ci h.h4,ci h.h5,ci h.h6,ci h.h7,ci h.h8,ci h.h9] i=h.l[i]'(by simp [Hd.l];omega)/\oks [li] [ci h.h0,ci h.h1,ci h.h2,ci h.h3,ci h.h4,ci h.h5,ci h.h6,ci h.h7,ci h.h8,ci h.h9] i=true:=by
 rcases UK hi with rfl | rfl | rfl | rfl | rfl | rfl | rfl | rfl | rfl | rfl <;> exact ⟨rfl,rfl⟩
theorem aBM (b:By) (hi:i<10):gi b.cv (3+i*1)=b.q[i]'(by simp [By.q];omega)/\oks [li] b.cv (3+i*1)=true:=by
 rcases UK hi with rfl | rfl | rfl | rfl | rfl | rfl | rfl | rfl | rfl | rfl <;> exact ⟨rfl,rfl⟩
theorem aAG (b:By) (h:Hd) (hi:i<10):cH ((mP h.l b.q).take (i+1))=cH ((mP h.l b.q).take i)+h.l[i]'(by simp [Hd.l];omega)*b.q[i]'(by simp [By.q];omega):=by
 have hl:i<(mP h.l b.q).length:=by simp [mP,Hd.l,By.q];omega
 rw [cK hl,qD];rcases UK hi with rfl | rfl | rfl | rfl | rfl | rfl | rfl | rfl | rfl | rfl <;> rfl
theorem aC7 (b:By) (h:Hd) (hi:i<10):cH ((bars h.l b.q).take (i+1))=cH ((bars h.l b.q).take i)+(if b.q[i]'(by simp [By.q];omega)=0 then h.l[i]'(by simp [Hd.l];omega) else 0):=by
 have hl:i<(bars h.l b.q).length:=by simp [bars,Hd.l,By.q];omega
 rw [cK hl,qD];rcases UK hi with rfl | rfl | rfl | rfl | rfl | rfl | rfl | rfl | rfl | rfl <;> rfl
theorem yO {b:By} (hb:b.ok=true):∀ x∈b.q,0<=x/\x<=100000:=by
 simp_all [By.ok,within]
theorem nD {h:Hd} (hb:h.ok=true):∀ x∈h.l,0<=x/\x<=1000:=by
 simp_all [Hd.ok,within]
theorem prod_bound {a b:Int} (ha:0<=a/\a<=1000) (hb:0<=b/\b<=100000):0<=a*b/\a*b<=100000000:=by
 refine ⟨Int.mul_nonneg ha.1 hb.1,?_⟩;have h1:a*b<=1000*b:=Int.mul_le_mul_of_nonneg_right ha.2 hb.1;omega
theorem GC:∀ {l m:List Int},(∀ x∈l,0<=x/\x<=1000)->(∀ x∈m,0<=x/\x<=100000)->∀ x∈mP l m,0<=x/\x<=100000000
 | [],_,_,_,x,h=>by grind [mP]
 | _::_,[],_,_,x,h=>by grind [mP]
 | a::l,b::m,h1,h2,x,h=>by
  simp [mP] at h;rcases h with rfl | h
  ·exact prod_bound (h1 a (by simp)) (h2 b (by simp))
  ·exact GC (fun y hy=>h1 y (by grind)) (fun y hy=>h2 y (by grind)) x h
theorem EA:∀ {l m:List Int},(∀ x∈l,0<=x/\x<=1000)->∀ x∈bars l m,0<=x/\x<=1000
 | [],_,_,x,h=>by grind [bars]
 | _::_,[],_,x,h=>by grind [bars]
 | a::l,b::m,h1,x,h=>by
  simp [bars] at h;rcases h with rfl | h
  ·have:=h1 a (by simp);omega
  ·exact EA (fun y hy=>h1 y (by grind)) x h
theorem aHK (n:Nat) (b:By) (h:Hd) (hb:b.ok=true) (hh:h.ok=true):D its (n+1) lD (b.cv++h.cv)=some [ci (nX b h)]:=by
 show D its (n+1) lD [ci b.so,ci b.pa,ci b.fr,ci b.q0,ci b.q1,ci b.q2,ci b.q3,ci b.q4,ci b.q5,ci b.q6,ci b.q7,ci b.q8,ci b.q9,ci h.h0,ci h.h1,ci h.h2,ci h.h3,ci h.h4,ci h.h5,ci h.h6,ci h.h7,ci h.h8,ci h.h9]=_;rw [OP];unfold AM;rw [bZ 10 (fun i=>[ci (cH ((mP h.l b.q).take i)),ci (i:Int)]) (some (.br 0 [ci (nX b h)])) ?hv (fun i hi=>?hs) ?he (by simp)]
 case hv=>rfl
 case he =>
  rfl
 case hs =>
  have ky:=aBM b hi;simp only [By.cv] at ky;have e1:(i:Int)<10:=by omega
  have e2:(i:Int)<Int.ofNat 10:=by omega
  have e3:(0:Int)<=(i:Int):=by omega
  have hp:=GC (nD hh) (yO hb);have bv:=fV (lo:=0) (hi:=100000000) (by omega) (by omega) (l:=(mP h.l b.q).take i) fun x hx=>hp x (List.mem_of_mem_take hx)
  have Dy:=prod_bound (nD hh _ (List.getElem_mem (show i<h.l.length by simp [Hd.l];omega))) (yO hb _ (List.getElem_mem (show i<b.q.length by grind)))
  simp only [aQ,eL,e1,e2,e3,decide_true,Bool.and_self,bE,Int.toNat_natCast,(NA h hi).1,(NA h hi).2,ky.2,aJ,aAG b h hi];grind [bJ]
 simp
theorem aFp (n:Nat) (h:Hd):D its (n+5) kD h.cv=some [cb h.ok]:=by
 show D its (n+5) kD [ci h.h0,ci h.h1,ci h.h2,ci h.h3,ci h.h4,ci h.h5,ci h.h6,ci h.h7,ci h.h8,ci h.h9]=_;rw [MN];unfold yH
 rw [show D its (n+4) cA [CV.row 1 (aS 1 10 [ci h.h0,ci h.h1,ci h.h2,ci h.h3,ci h.h4,ci h.h5,ci h.h6,ci h.h7,ci h.h8,ci h.h9]),CV.fn 155 []]=some [cb (h.l.any fun n=>!within n 0 1000)] from
  rB (n+2) h.l _ (fun n=>!within n 0 1000) (by simp [Hd.l]) fun x _=>by rw [aI8,aHs]]
 simp [Hd.ok,List.not_any_eq_all_not]
variable {c:Cm}
theorem NB (hS:ItsS its) (n:Nat) (hc:Ready c) (o:Int) (p:Pas) (d k:Int) (hp:1<=p.id/\p.id<=99) :
  D its (n+7) dP (c.rs++[ci o,ci p.id,ci p.lo,ci p.hi,ci d,ci k])=some [ci (gB c o p d k)]:=by
 show D its (n+7) dP [.row 3 (c.ps.map Pas.cv),.row 13 (c.bl.map By.cv),.row 13 (c.ds.map Dd.cv),ci o,ci p.id,ci p.lo,ci p.hi,ci d,ci k]=_;rw [MP];have ln:D its (n+6) bP [CV.row 3 (c.ps.map Pas.cv),CV.row 13 (c.bl.map By.cv),CV.row 13 (c.ds.map Dd.cv),ci d,ci k]=some [.ref (cS c.ps (aK c d k))]:=HQ hS n hc d k;have hi:=nC hc d k;have r8:=hi.gl;simp [yJ,ln,MY hS (n+4) c.ps (aK c d k) p d (by omega),aFm hS (n+2) c.ps hi (by omega) o d hp,gB]
 grind
theorem aAH {N:Nat} {L:Land} (hI:Stint.Inv N L) (hN:N<=1000000) (o p d:Int):-10000000000000<=L.uses o p d/\L.uses o p d<=10000000000000000:=by
 have an:∀ h∈L.owned o,1<=h/\h<=99:=fun h hh=>lX.1 (List.mem_filter.1 (List.mem_filter.1 hh).1).1
 have aj:(L.owned o).length<=99:=Nat.le_trans (List.length_filter_le _ _) (pD L)
 have hb:=fV (lo:=-100000000000) (hi:=100000001000000) (by omega) (by omega) (l:=(L.owned o).map fun h=>L.use h p d) fun x hx=>by
  obtain ⟨h,hh,rfl⟩:=List.mem_map.1 hx;exact oB hI hN p d (an h hh)
 rw [List.length_map] at hb;unfold Land.uses;omega
theorem RK (hc:Ready c) (o:Int) (p:Pas) (d k:Int):-10000000000000<=gB c o p d k/\gB c o p d k<=10000000000000000:=by
 have:=aAH (nC hc d k) (by omega) o p.id d
 unfold gB;omega
theorem NC (aa:c.ok=true) {p d:Int} {b:By} (h:pJ c.bl p d=some b):b.ok=true:=by
 simp [Cm.ok] at aa;have:=List.mem_of_find?_eq_some h;grind
theorem aFq (hS:ItsS its) (n:Nat) (aa:c.ok=true) (o:Int) (p:Pas) (s d k:Int) (hp:1<=p.id/\p.id<=99) (hs:1<=s/\s<=9) :
  D its (n+8) kB (c.rs++[ci o,ci p.id,ci p.lo,ci p.hi,ci s,ci d,ci k])=some [ci (QV c o p s d k).1,ci (QV c o p s d k).2]:=by
 have hc:=bS aa;have hb:=hc.b;show D its (n+8) kB [.row 3 (c.ps.map Pas.cv),.row 13 (c.bl.map By.cv),.row 13 (c.ds.map Dd.cv),ci o,ci p.id,ci p.lo,ci p.hi,ci s,ci d,ci k]=_;rw [ME];unfold xY;rw [show D its (n+7) dS [.row 3 (c.ps.map Pas.cv),.row 13 (c.bl.map By.cv),.row 13 (c.ds.map Dd.cv),ci p.id,ci d]=_ from GB hS (n+5) c p.id d (by omega)]
 rw [show D its (n+7) dP [.row 3 (c.ps.map Pas.cv),.row 13 (c.bl.map By.cv),.row 13 (c.ds.map Dd.cv),ci o,ci p.id,ci p.lo,ci p.hi,ci d,ci k]=_ from NB hS n hc o p d k hp];unfold QV;cases hf:pJ c.bl p.id d with
 | none=>rfl
 | some b =>
  have z0:=NC aa hf;obtain ⟨i,rfl⟩:∃ i:Nat,s=i:=⟨s.toNat,by omega⟩
  have hi:i<10:=by omega
  have ky:=aBM b hi;have e2:(i:Int)<Int.ofNat 10:=by grind
  have e3:(0:Int)<=(i:Int):=by omega
  have rx:cis (((Option.map (fun b:By=>b.cv++[ci 0]) (some b)).getD (z13++[ci 26]))) 0 13=b.cv:=rfl
  have Cs:gi (((Option.map (fun b:By=>b.cv++[ci 0]) (some b)).getD (z13++[ci 26]))) 13=0:=rfl
  simp only [aC,rx,Cs,e2,e3,decide_true,Bool.and_self,aJ,Int.toNat_natCast,ky.1,ky.2,mN,Bool.not_true,rV,bC,fK,aQ,orN,Bool.false_or]
  have Ct:partOf b (i:Int)=b.q[i]'(by grind):=by
   grind [partOf]
  rw [Ct];have hq:=yO z0 _ (List.getElem_mem (show i<b.q.length by grind))
  generalize b.q[i]'(by grind)=q at hq ⊢
  have hm:=RK hc o p d k
  by_cases h0:q=0
  ·simp [h0,tL]
  ·have ht:-10000000000000<=Int.tdiv (gB c o p d k) q/\Int.tdiv (gB c o p d k) q<=10000000000000000:=by
    generalize gB c o p d k=m at hm
    have h1:Int.natAbs (Int.tdiv m q)<=Int.natAbs m:=by
     rw [Int.natAbs_tdiv];exact Nat.div_le_self _ _
    rcases Int.le_total 0 m with h | h
    ·have:0<=Int.tdiv m q:=Int.tdiv_nonneg h hq.1
     omega
    omega
   simp only [h0,decide_false,aX,Bool.not_false,aJ,bJ (show -9223372036854775808<=Int.tdiv (gB c o p d k) q by omega) (by omega),tL,if_false,iY]
   congr 3;simp only [Int.min_def];split <;> split <;> omega
end Go.Proofs.YtfgdfpnkhdlmfaaGreat
namespace Go.Proofs.YtfgdfpnkhdlmfaaGreat
open Go Go.Sx Go.Stint
set_option maxRecDepth 10000
variable {its:ITS}
theorem aAI {c:Cm} (aa:c.ok=true) {p:Int} {q:Pas} (h:jC c.ps p=some q):1<=q.id/\q.id<=99:=(bS aa).id q (uE h).2
theorem aFr (hS:ItsS its) (n:Nat) (c:Cm) (hc:Fit c) (o p s d k:Int):D its (n+9) iM (c.rs++[ci o,ci p,ci s,ci d,ci k])=some [ci (CZ c o p s d k).1,ci (CZ c o p s d k).2]:=by
 show D its (n+9) iM [.row 3 (c.ps.map Pas.cv),.row 13 (c.bl.map By.cv),.row 13 (c.ds.map Dd.cv),ci o,ci p,ci s,ci d,ci k]=_;rw [TU];unfold DB;rw [show D its (n+8) aI [CV.row 3 (c.ps.map Pas.cv),CV.row 13 (c.bl.map By.cv),CV.row 13 (c.ds.map Dd.cv)]=_ from iQ n c hc];simp only [Cm.chk];rcases Bool.eq_false_or_eq_true c.ok with aa | aa
 ·have hr:=bS aa
  have:=hr.p;have i8:D its (n+8) aR [CV.row 3 (c.ps.map Pas.cv),CV.row 13 (c.bl.map By.cv),CV.row 13 (c.ds.map Dd.cv),ci p]=_:=kG (n+5) c p (by omega)
  simp only [i8,aC,aE8,fK,orN];unfold CZ bA;rcases Bool.eq_false_or_eq_true (within o 1 99&&within s 1 9) with h1 | h1
  ·have ph:=h1
   simp at ph;have hs:1<=s/\s<=9:=by grind [within]
   simp only [ph.1,ph.2,aa];cases hp:jC c.ps p with
   | none=>simp
   | some q =>
    have e:gb ((Option.map (fun x:Pas=>x.cv++[cb true]) (some q)).getD [ci 0,ci 0,ci 0,cb false]) 3=true:=rfl
    have e0:gi ((Option.map (fun x:Pas=>x.cv++[cb true]) (some q)).getD [ci 0,ci 0,ci 0,cb false]) 0=q.id:=rfl
    have e1:gi ((Option.map (fun x:Pas=>x.cv++[cb true]) (some q)).getD [ci 0,ci 0,ci 0,cb false]) 1=q.lo:=rfl
    have e2:gi ((Option.map (fun x:Pas=>x.cv++[cb true]) (some q)).getD [ci 0,ci 0,ci 0,cb false]) 2=q.hi:=rfl
    rw [e,e0,e1,e2];rw [show D its (n+8) kB [CV.row 3 (c.ps.map Pas.cv),CV.row 13 (c.bl.map By.cv),CV.row 13 (c.ds.map Dd.cv),ci o,ci q.id,ci q.lo,ci q.hi,ci s,ci d,ci k]=_ from aFq hS n aa o q s d k (aAI aa hp) hs];rcases Bool.eq_false_or_eq_true (within d 0 100000&&within k 0 100000) with h2 | h2 <;> simp [h2]
  ·have n7:(!within o 1 99 || !within s 1 9)=true:=by
    grind
   simp only [n7];simp [h1,aa]
 simp_all [CZ]
set_option maxHeartbeats 1000000 in
theorem aFs (hS:ItsS its) (n:Nat) (c:Cm) (hc:Fit c) (o p:Int) (h:Hd) (d k:Int):D its (n+9) eD (c.rs++[ci o,ci p]++h.cv++[ci d,ci k])=some [ci (pN c o p h d k).1,ci (pN c o p h d k).2]:=by
 show D its (n+9) eD [.row 3 (c.ps.map Pas.cv),.row 13 (c.bl.map By.cv),.row 13 (c.ds.map Dd.cv),ci o,ci p,ci h.h0,ci h.h1,ci h.h2,ci h.h3,ci h.h4,ci h.h5,ci h.h6,ci h.h7,ci h.h8,ci h.h9,ci d,ci k]=_;rw [TW];unfold DF;rw [show D its (n+8) aI [CV.row 3 (c.ps.map Pas.cv),CV.row 13 (c.bl.map By.cv),CV.row 13 (c.ds.map Dd.cv)]=_ from iQ n c hc];simp only [aC,aQ,Cm.chk,mN];rcases Bool.eq_false_or_eq_true c.ok with aa | aa
 ·have hr:=bS aa
  have:=hr.p;have:=hr.b;have i8:D its (n+8) aR [CV.row 3 (c.ps.map Pas.cv),CV.row 13 (c.bl.map By.cv),CV.row 13 (c.ds.map Dd.cv),ci p]=_:=kG (n+5) c p (by omega)
  have Cu:D its (n+8) kD [ci h.h0,ci h.h1,ci h.h2,ci h.h3,ci h.h4,ci h.h5,ci h.h6,ci h.h7,ci h.h8,ci h.h9]=_:=aFp (n+3) h;simp only [aa,cond_true,decide_true,Bool.not_true,aX,i8,Cu,aC,XO,aE8,fK];unfold pN bA;rcases Bool.eq_false_or_eq_true (within o 1 99) with h1 | h1
  ·simp only [h1,aa,if_true,Bool.not_true,aX]
   cases hp:jC c.ps p with
   | none=>simp
   | some q =>
    have e:gb ((Option.map (fun x:Pas=>x.cv++[cb true]) (some q)).getD [ci 0,ci 0,ci 0,cb false]) 3=true:=rfl
    have e0:gi ((Option.map (fun x:Pas=>x.cv++[cb true]) (some q)).getD [ci 0,ci 0,ci 0,cb false]) 0=q.id:=rfl
    have e1:gi ((Option.map (fun x:Pas=>x.cv++[cb true]) (some q)).getD [ci 0,ci 0,ci 0,cb false]) 1=q.lo:=rfl
    have e2:gi ((Option.map (fun x:Pas=>x.cv++[cb true]) (some q)).getD [ci 0,ci 0,ci 0,cb false]) 2=q.hi:=rfl
    rw [e,e0,e1,e2];have D8:q.id=p:=(uE hp).1;rcases Bool.eq_false_or_eq_true h.ok with hh | hh
    ·simp only [hh,Bool.not_true,aX,if_true]
     rcases Bool.eq_false_or_eq_true (within d 0 100000&&within k 0 100000) with h2 | h2
     ·simp only [h2,Bool.not_true,aX,if_true]
      rw [show D its (n+8) dS [CV.row 3 (c.ps.map Pas.cv),CV.row 13 (c.bl.map By.cv),CV.row 13 (c.ds.map Dd.cv),ci p,ci d]=_ from GB hS (n+6) c p d (by omega)]
      unfold aEU;rw [D8];cases hf:pJ c.bl p d with
      | none=>rfl
      | some b =>
       have z0:=NC aa hf;have rx:cis (((Option.map (fun b:By=>b.cv++[ci 0]) (some b)).getD (z13++[ci 26]))) 0 13=b.cv:=rfl
       have Cs:gi (((Option.map (fun b:By=>b.cv++[ci 0]) (some b)).getD (z13++[ci 26]))) 13=0:=rfl
       simp only [aC,rx,Cs,decide_true,Bool.not_true,aX];rw [bZ 10 (fun i=>[ci (cH ((bars h.l b.q).take i)),ci (i:Int)]) (some (.br 1 [ci (fW b h)])) ?hv (fun i hi=>?hs) ?he (by simp)]
       case hv=>rfl
       case he =>
        rfl
       case hs =>
        have ky:=aBM b hi;have e1:(i:Int)<10:=by omega
        have e2:(i:Int)<Int.ofNat 10:=by omega
        have e3:(0:Int)<=(i:Int):=by omega
        have hm:=EA (m:=b.q) (nD hh);have bv:=fV (lo:=0) (hi:=1000) (by omega) (by omega) (l:=(bars h.l b.q).take i) fun x hx=>hm x (List.mem_of_mem_take hx)
        rw [List.length_take] at bv;have Dy:=nD hh _ (List.getElem_mem (show i<h.l.length by simp [Hd.l];omega))
        simp only [aQ,eL,e1,e2,Int.toNat_natCast,(NA h hi).1,(NA h hi).2,ky.1,ky.2,bG (show i<9223372036854775807 by omega),aC7 b h hi]
        rw [bJ (x:=cH ((bars h.l b.q).take i)+h.l[i]'(by grind)) (by omega) (by omega)]
        by_cases hz:b.q[i]'(by grind)=0 <;> simp [hz]
       have Nm:=fV (lo:=0) (hi:=1000) (by omega) (by omega) (l:=bars h.l b.q) (EA (m:=b.q) (nD hh))
       have bg:(bars h.l b.q).length=10:=by rfl
       rw [bg] at Nm;have Dv:0<=fW b h/\fW b h<=10000:=by unfold fW;omega
       simp only [cP,aQ]
       by_cases Cv:0<fW b h
       ·simp [Cv,bJ (show -9223372036854775808<=- fW b h by omega) (by omega)]
       ·have hg:¬(fW b h > 0):=Cv
        have Ez:D its (n+8) lD (cat [b.cv,[ci h.h0,ci h.h1,ci h.h2,ci h.h3,ci h.h4,ci h.h5,ci h.h6,ci h.h7,ci h.h8,ci h.h9]])=_:=aHK (n+7) b h z0 hh
        have pl:D its (n+8) dP [CV.row 3 (c.ps.map Pas.cv),CV.row 13 (c.bl.map By.cv),CV.row 13 (c.ds.map Dd.cv),ci o,ci p,ci q.lo,ci q.hi,ci d,ci k]=some [ci (gB c o q d k)]:=by
         have:=NB hS (n+1) hr o q d k (aAI aa hp);rw [D8] at this;exact this
        rw [Ez,pl];have hm:=RK hr o q d k;have Cw:=fV (lo:=0) (hi:=100000000) (by omega) (by omega) (l:=mP h.l b.q) (GC (nD hh) (yO z0))
        have j0:(mP h.l b.q).length=10:=by rfl
        rw [j0] at Cw;have Do:0<=nX b h/\nX b h<=1000000000:=by unfold nX;omega
        simp only [hg,decide_false,aX,aC,aQ,if_false,bJ (show -9223372036854775808<=nX b h - gB c o q d k by omega) (by omega),iY]
        congr 3;simp only [Int.max_def];split <;> split <;> omega
     ·simp [h2]
    ·simp [hh]
  ·simp_all
 ·simp [aa,pN]
theorem aFt (hS:ItsR its) (n:Nat) (c:Cm) (hc:Fit c) (k:Int):D its (n+9) fL (c.rs++[ci k])=some [.row 2 ((LY c k).1.map itC),ci (LY c k).2]:=by
 show D its (n+9) fL [.row 3 (c.ps.map Pas.cv),.row 13 (c.bl.map By.cv),.row 13 (c.ds.map Dd.cv),ci k]=_;rw [UC];unfold DV;rw [show D its (n+8) aI [CV.row 3 (c.ps.map Pas.cv),CV.row 13 (c.bl.map By.cv),CV.row 13 (c.ds.map Dd.cv)]=_ from iQ n c hc];simp only [Cm.chk];rcases Bool.eq_false_or_eq_true c.ok with aa | aa
 ·have hr:=bS aa
  obtain ⟨t,h1,h2⟩:=aJi hS.toItsS (n+2) hr 100000 k;have ph:D its (n+8) 1000000069 [CV.row 3 (c.ps.map Pas.cv),CV.row 13 (c.bl.map By.cv),CV.row 13 (c.ds.map Dd.cv),ci 100000,ci k]=_:=h1;have ik:=(nC hr 100000 k).vl;have hg:gr (cF (List.getD [CV.ref (cS c.ps (aK c 100000 k)),CV.fn 115 t] 0 dC)) 6=(aK c 100000 k).vd.map itC:=rfl;simp only [aC,ph,hg,hS.sortF (n+7) _ (Nat.lt_of_le_of_lt ik (by omega))]
  unfold LY bA;rcases Bool.eq_false_or_eq_true (within k 0 100000) with h3 | h3
  ·simp_all [pG]
  simp_all
 simp_all [LY]
end Go.Proofs.YtfgdfpnkhdlmfaaGreat
namespace Go.Proofs.YtfgdfpnkhdlmfaaGreat
open Go Go.Sx Go.Stint
set_option maxRecDepth 10000
variable {its:ITS}
theorem aFu (n:Nat) (f:CV) (q:Int->Bool) (hf:∀ x,1<=x/\x<=99->dY sg (D its n) f [ci x] [.one li] [.one lb]=some [cb (q x)]) :
  D its (n+1) mR [f]=some [.row 1 (ints (jR.filter q))]:=by
 rw [MC];unfold xW;have hl:jR.length=99:=by rfl
 have hg:∀ i (h:i<jR.length),jR[i]=((i+1:Nat):Int):=fun i h=>by
  have h2:jR[i]? = some ((i+1:Nat):Int):=by
   show (upto 1 99)[i]? = _;unfold upto;grind
  grind
 rw [bZ jR.length (fun i=>[ci ((i+1:Nat):Int),.row 1 (ints ((jR.take i).filter q))]) (some (.br 0 [.row 1 (ints (jR.filter q))])) ?hv (fun i hi=>?hs) ?he (by simp)]
 case hv=>rfl
 case he =>
  rfl
 case hs =>
  have h1:((i+1:Nat):Int)<=99:=by omega
  have hc:=hf ((i+1:Nat):Int) ⟨by omega,h1⟩
  have ck:cJ (List.length (ints ((jR.take i).filter q))) 1 8=true:=dE (by grind [ints]) (by grind [ints])
  simp only [aQ,bG (show i+1<9223372036854775807 by omega)]
  rw [cK hi,List.filter_append,hg i hi];rcases Bool.eq_false_or_eq_true (q ((i+1:Nat):Int)) with h | h
  ·simp_all [ints]
  simp_all
 simp
variable {c:Cm}
theorem aLv (hS:ItsS its) (n:Nat) (hc:Ready c) (p:Pas) (o d k:Int) (hp:1<=p.id/\p.id<=99) :
  D its (n+5) cO [.ref (cS c.ps (aK c d k)),.ref p.cv,.ref [ci d],.ref [ci o]]=some [ci (gB c o p d k)]:=by
 rw [sY];unfold lI;have hi:=nC hc d k;have r8:=hi.gl;have q4:oks [li] (List.drop 0 p.cv) 0=true:=rfl;have q5:gi (List.drop 0 p.cv) 0=p.id:=rfl;simp only [q4,q5,aCP,aJ4,aJ5,aQ,MY hS (n+2) c.ps (aK c d k) p d (by omega),aFm hS n c.ps hi (by omega) o d hp,gB]
 rcases Bool.eq_false_or_eq_true ((aK c d k).open p d) with h | h <;> simp [h]
theorem v98 (M:Den) (x:Pas) (a b c d:List CV):dY sg M (.fn 98 [.ref a,.ref b,.ref c,.ref d]) x.cv [.agg [li,li,li]] [.one lb]=M fZ (x.cv++[.ref a,.ref b,.ref c,.ref d]):=rfl
theorem aM2 (hS:ItsS its) (n:Nat) (hc:Ready c) (p:Pas) (o d k1 k2:Int) (hp:1<=p.id/\p.id<=99) :
  D its (n+6) fZ (p.cv++[.ref [ci d],.ref [ci o],.ref [.ref (cS c.ps (aK c d k1))],.ref [.ref (cS c.ps (aK c d k2))]])=some [cb (!decide (gB c o p d k1=gB c o p d k2))]:=by
 show D its (n+6) fZ [ci p.id,ci p.lo,ci p.hi,.ref [ci d],.ref [ci o],.ref [.ref (cS c.ps (aK c d k1))],.ref [.ref (cS c.ps (aK c d k2))]]=_;rw [wR];unfold nK;have q1:∀ L,oks [.raw] [CV.ref L] 0=true:=fun _=>rfl
 rw [show D its (n+5) cO [CV.ref (cF (List.getD [CV.ref (cS c.ps (aK c d k1))] 0 dC)),CV.ref [ci p.id,ci p.lo,ci p.hi],CV.ref [ci d],CV.ref [ci o]]=_ from aLv hS n hc p o d k1 hp,
  show D its (n+5) cO [CV.ref (cF (List.getD [CV.ref (cS c.ps (aK c d k2))] 0 dC)),CV.ref [ci p.id,ci p.lo,ci p.hi],CV.ref [ci d],CV.ref [ci o]]=_ from aLv hS n hc p o d k2 hp]
 simp only [q1,aJ,List.getD_cons_zero,MQ,aC,aQ,mN,iY];rfl
theorem v96 (M:Den) (x:CV) (a b c d:List CV):dY sg M (.fn 96 [.ref a,.ref b,.ref c,.ref d]) [x] [.one li] [.one lb]=M lQ [x,.ref a,.ref b,.ref c,.ref d]:=rfl
theorem aM3 (hS:ItsS its) (n:Nat) (hc:Ready c) (o d k1 k2:Int) :
  D its (n+8) lQ [ci o,.ref c.rs,.ref [ci d],.ref [.ref (cS c.ps (aK c d k1))],.ref [.ref (cS c.ps (aK c d k2))]]=some [cb (c.ps.any fun p=>!decide (gB c o p d k1=gB c o p d k2))]:=by
 rw [BS];unfold qZ;have q1:oks [.row 3] (List.drop 0 c.rs) 0=true:=rfl;have q2:gr (List.drop 0 c.rs) 0=c.ps.map Pas.cv:=rfl;have hl:=hc.p;rw [q1,q2,UF (n+6) c.ps _ (fun p=>!decide (gB c o p d k1=gB c o p d k2)) (by omega) fun p hp=>by exact aM2 hS n hc p o d k1 k2 (hc.id p hp)]
 simp [found (fun p=>!decide (gB c o p d k1=gB c o p d k2)) c.ps (fun x=>x.cv++[cb true]) [ci 0,ci 0,ci 0,cb false] 3 (fun _=>rfl) rfl]
theorem aC8 (hS:ItsS its) (n:Nat) (c:Cm) (hc:Fit c) (d k1 k2:Int):D its (n+10) jE (c.rs++[ci d,ci k1,ci k2])=some [.row 1 (ints (xT c d k1 k2).1),ci (xT c d k1 k2).2]:=by
 show D its (n+10) jE [.row 3 (c.ps.map Pas.cv),.row 13 (c.bl.map By.cv),.row 13 (c.ds.map Dd.cv),ci d,ci k1,ci k2]=_;rw [IE];unfold vW;rw [show D its (n+9) aI [CV.row 3 (c.ps.map Pas.cv),CV.row 13 (c.bl.map By.cv),CV.row 13 (c.ds.map Dd.cv)]=_ from iQ (n+1) c hc];simp only [Cm.chk];rcases Bool.eq_false_or_eq_true c.ok with aa | aa
 ·have hr:=bS aa
  have ln:∀ k,D its (n+9) bP [CV.row 3 (c.ps.map Pas.cv),CV.row 13 (c.bl.map By.cv),CV.row 13 (c.ds.map Dd.cv),ci d,ci k]=some [.ref (cS c.ps (aK c d k))]:=fun k=>HQ hS (n+3) hr d k
  have Nn:∀ L:List CV,spl [CV.val (Value.pointer none)] 0 [CV.ref L]=[CV.ref L]:=fun _=>rfl
  have zx:=aFu (its:=its) (n+8) (.fn 96 [.ref c.rs,.ref [ci d],.ref [.ref (cS c.ps (aK c d k1))],.ref [.ref (cS c.ps (aK c d k2))]]) (fun o=>c.ps.any fun p=>!decide (gB c o p d k1=gB c o p d k2)) fun x _=>by exact aM3 hS n hr x d k1 k2
  have No:D its (n+9) mR [CV.fn 96 [CV.ref [CV.row 3 (c.ps.map Pas.cv),CV.row 13 (c.bl.map By.cv),CV.row 13 (c.ds.map Dd.cv)],CV.ref [ci d],CV.ref [CV.ref (cS c.ps (aK c d k1))],CV.ref [CV.ref (cS c.ps (aK c d k2))]]]=_:=zx;simp only [aC,aE8,fK,orN];unfold xT bA;rcases Bool.eq_false_or_eq_true (within d 0 100000&&within k1 0 100000&&within k2 0 100000) with h3 | h3
  ·simp_all [WZ]
  ·have n7:(!within d 0 100000 || (!within k1 0 100000 || !within k2 0 100000))=true:=by
    grind
   rw [n7];simp [h3,aa,ints]
 simp_all [xT,ints]
theorem aAJ (h:Ready c) (i:Nat):Ready (c.less i):=
 ⟨h.p,h.b,Nat.le_trans (List.length_eraseIdx_le _ _) h.d,h.id,fun x hx=>h.ok x ((List.eraseIdx_sublist _ _).subset hx)⟩
theorem aHL (hS:ItsR its) (n:Nat) (c:Cm) (hc:Fit c) (o p d k:Int):D its (n+9) lB (c.rs++[ci o,ci p,ci d,ci k])=some [.row 2 ((LZ c o p d k).1.map itC),ci (LZ c o p d k).2]:=by
 show D its (n+9) lB [.row 3 (c.ps.map Pas.cv),.row 13 (c.bl.map By.cv),.row 13 (c.ds.map Dd.cv),ci o,ci p,ci d,ci k]=_;rw [OL];unfold AI;rw [show D its (n+8) aI [CV.row 3 (c.ps.map Pas.cv),CV.row 13 (c.bl.map By.cv),CV.row 13 (c.ds.map Dd.cv)]=_ from iQ n c hc];simp only [Cm.chk];rcases Bool.eq_false_or_eq_true c.ok with aa | aa
 ·have hr:=bS aa
  have h8:=hr.p;have Cx:=hr.b;have nl:=hr.d;have i8:D its (n+8) aR [CV.row 3 (c.ps.map Pas.cv),CV.row 13 (c.bl.map By.cv),CV.row 13 (c.ds.map Dd.cv),ci p]=_:=kG (n+5) c p (by omega)
  simp only [i8,aC,XO,aE8];unfold LZ bA;rcases Bool.eq_false_or_eq_true (within o 1 99) with h1 | h1
  ·simp only [h1,aa]
   cases hp:jC c.ps p with
   | none=>simp
   | some q =>
    have e:gb ((Option.map (fun x:Pas=>x.cv++[cb true]) (some q)).getD [ci 0,ci 0,ci 0,cb false]) 3=true:=rfl
    have e0:gi ((Option.map (fun x:Pas=>x.cv++[cb true]) (some q)).getD [ci 0,ci 0,ci 0,cb false]) 0=q.id:=rfl
    have e1:gi ((Option.map (fun x:Pas=>x.cv++[cb true]) (some q)).getD [ci 0,ci 0,ci 0,cb false]) 1=q.lo:=rfl
    have e2:gi ((Option.map (fun x:Pas=>x.cv++[cb true]) (some q)).getD [ci 0,ci 0,ci 0,cb false]) 2=q.hi:=rfl
    rw [e,e0,e1,e2];rcases Bool.eq_false_or_eq_true (within d 0 100000&&within k 0 100000) with h2 | h2
    ·have hq:=aAI aa hp
     simp only [h2];have pl:∀ (c':Cm),Ready c'->D its (n+8) dP [CV.row 3 (c'.ps.map Pas.cv),CV.row 13 (c'.bl.map By.cv),CV.row 13 (c'.ds.map Dd.cv),ci o,ci q.id,ci q.lo,ci q.hi,ci d,ci k]=some [ci (gB c' o q d k)]:=fun c' gq=>NB hS.toItsS (n+1) gq o q d k hq
     rw [pl c hr];simp only [aC];have f1:cJ (Int.toNat (il (c.ps.map Pas.cv))) 0 24=true:=dE (by grind [il]) (by grind [il])
     have f2:cJ (Int.toNat (il (c.bl.map By.cv))) 0 104=true:=dE (by grind [il]) (by grind [il])
     have f3:cJ (Int.toNat (il (c.ds.map Dd.cv))) 0 104=true:=dE (by grind [il]) (by grind [il])
     have g1:∀ {A:Type} (cv:A->List CV) (l:List A),(decide (0<=il (l.map cv))&&decide (il (l.map cv)<=il (l.map cv)))=true:=fun cv l=>by simp
     have g2:∀ {A:Type} (cv:A->List CV) (l:List A) (z:List CV),decide (List.length (l.map cv)<=List.length (List.replicate (Int.toNat (il (l.map cv))) z))=true:=fun cv l z=>by simp
     simp only [f1,f2,f3,g1,g2,Bool.and_self,aJ,WR,XQ];rw [bZ c.ds.length (fun i=>[ci (i:Int),.row 2 (((List.range i).filterMap fun i=>if gB (c.less i) o q d k=gB c o q d k then none else (c.ds[i]?).map fun x=>(x.m,x.no)).map itC)]) (some (.br 1 [.row 2 ((aAr c o q d k).map itC)])) ?hv (fun i hi=>?hs) ?he (by simp)]
     case hv=>rfl
     case he=>simp [aAr]
     case hs =>
      have aj:((List.range i).filterMap fun i=>if gB (c.less i) o q d k=gB c o q d k then none else (c.ds[i]?).map fun x=>(x.m,x.no)).length<=60:=by
       grind
      have hw:=bG (show i<9223372036854775807 by omega)
      have Np:pG 13 true [CV.row 13 ((c.ds.eraseIdx i).map Dd.cv),CV.val (Value.bool true)]=true:=rfl;rw [List.range_succ,List.filterMap_append,List.map_append];generalize hR:((List.range i).filterMap fun i=>if gB (c.less i) o q d k=gB c o q d k then none else (c.ds[i]?).map fun x=>(x.m,x.no))=R at aj
      have ck:cJ (List.length (R.map itC)) 1 16=true:=dE (by grind) (by grind)
      simp only [aQ,dZ,bW,cQ,Int.ofNat_lt,hi,aG hi,aM hi,hw,hS.del (n+7) c.ds i hi nl,aC,Np];have Cy:=pl (c.less i) (aAJ hr i);simp [show (c.less i).ps=c.ps from rfl,show (c.less i).bl=c.bl from rfl,show (c.less i).ds=c.ds.eraseIdx i from rfl] at Cy;rw [Cy];simp only [aC,aQ,ck,aJ,dd0,dd1]
      by_cases he:gB (c.less i) o q d k=gB c o q d k
      ·simp [he]
      ·simp_all [itC]
     simp
    ·simp [h2]
  ·simp_all
 simp_all [LZ]
theorem XZ (n:Nat) (l:List (Int×Int)) (hl:l.length<100000000000000):D its (n+1) lJ [.row 2 (l.map itC),.row 2 (l.map itC)]=some [cb true]:=by
 rw [IJ];unfold wB;simp;rw [bZ l.length (fun i=>[ci (i:Int)]) (some (.br 0 [])) ?hv (fun i hi=>?hs) ?he (by simp)]
 case hv=>rfl
 case he=>simp
 case hs=>simp [hi,aG,aM,itC,bG (show i<9223372036854775807 by omega)]
 rfl
theorem BV (n:Nat) (l:List Int) (hl:l.length<100000000000000):D its (n+1) eC [.row 1 (ints l),.row 1 (ints l)]=some [cb true]:=by
 rw [MM];unfold yF;simp;rw [bZ l.length (fun i=>[ci (i:Int)]) (some (.br 0 [])) ?hv (fun i hi=>?hs) ?he (by simp)]
 case hv=>rfl
 case he=>simp
 case hs=>simp [hi,kF,mZ,bG (show i<9223372036854775807 by omega)]
 rfl
end Go.Proofs.YtfgdfpnkhdlmfaaGreat
namespace Go.Proofs.YtfgdfpnkhdlmfaaGreat
open Go Go.Sx Go.Stint
set_option maxRecDepth 100000
variable {its:ITS}
theorem aFv (n:Nat):D its (n+1) qU []=some cmS.rs:=by
 rw [MG];rfl
theorem OX:Fit cmS:=⟨by decide,by decide,by decide⟩
theorem s1:yN cmS 1 1 110 110=0/\(aK cmS 110 110).use 1 1 110=120:=by decide +kernel
theorem s2:yN cmS 2 1 110 110=0/\(aK cmS 110 110).use 2 1 110=180:=by decide +kernel
theorem s3:vN cmS 1 110 110=0/\(aK cmS 110 110).tot 1=300:=by decide +kernel
theorem s4:vN cmS 1 125 125=0/\(aK cmS 125 125).open ⟨1,90,270⟩ 125=false:=by decide +kernel
theorem s5:vN cmS 1 125 119=0/\(aK cmS 125 119).open ⟨1,90,270⟩ 125=true:=by decide +kernel
theorem s6:LY cmS 400=([(0,5)],0):=by rfl
theorem s7:CZ cmS 5 1 3 470 470=(15,0):=by rfl
theorem s8:pN cmS 5 1 ⟨0,2,0,1,0,0,0,0,0,0⟩ 110 110=(12,0):=by rfl
theorem s9:xT cmS 110 110 400=([5,6],0):=by rfl
theorem s10:LZ cmS 5 1 110 110=([(0,0),(0,1),(0,2),(0,3),(0,4)],0):=by rfl
theorem aNj:jC cmS.ps 1=some ⟨1,90,270⟩:=rfl
theorem rD (hS:ItsR its) (n:Nat):D its (n+12) aP []=some [cb true]:=by
 rw [UB];unfold DU
 have u1:D its (n+11) dH [CV.row 3 (cmS.ps.map Pas.cv),CV.row 13 (cmS.bl.map By.cv),CV.row 13 (cmS.ds.map Dd.cv),ci 1,ci 1,ci 110,ci 110]=some [ci 120,ci 0]:=by
  have:=XY hS.toItsS (n+1) cmS OX 1 1 110 110;exact this
 have u2:D its (n+11) dH [CV.row 3 (cmS.ps.map Pas.cv),CV.row 13 (cmS.bl.map By.cv),CV.row 13 (cmS.ds.map Dd.cv),ci 2,ci 1,ci 110,ci 110]=some [ci 180,ci 0]:=by
  have:=XY hS.toItsS (n+1) cmS OX 2 1 110 110;exact this
 have u3:D its (n+11) gS [CV.row 3 (cmS.ps.map Pas.cv),CV.row 13 (cmS.bl.map By.cv),CV.row 13 (cmS.ds.map Dd.cv),ci 1,ci 110,ci 110]=some [ci 300,ci 0]:=by
  have:=aBL hS.toItsS (n+2) cmS OX 1 110 110;exact this
 have u4:D its (n+11) cY [CV.row 3 (cmS.ps.map Pas.cv),CV.row 13 (cmS.bl.map By.cv),CV.row 13 (cmS.ds.map Dd.cv),ci 1,ci 125,ci 125]=some [cb false,ci 0]:=by
  have:=aAF hS.toItsS (n+2) cmS OX 1 125 125;exact this
 have u5:D its (n+11) cY [CV.row 3 (cmS.ps.map Pas.cv),CV.row 13 (cmS.bl.map By.cv),CV.row 13 (cmS.ds.map Dd.cv),ci 1,ci 125,ci 119]=some [cb true,ci 0]:=by
  have:=aAF hS.toItsS (n+2) cmS OX 1 125 119;exact this
 have u6:D its (n+11) fL [CV.row 3 (cmS.ps.map Pas.cv),CV.row 13 (cmS.bl.map By.cv),CV.row 13 (cmS.ds.map Dd.cv),ci 400]=some [.row 2 ([((0:Int),(5:Int))].map itC),ci 0]:=by
  have:=aFt hS (n+2) cmS OX 400;exact this
 have u7:D its (n+11) iM [CV.row 3 (cmS.ps.map Pas.cv),CV.row 13 (cmS.bl.map By.cv),CV.row 13 (cmS.ds.map Dd.cv),ci 5,ci 1,ci 3,ci 470,ci 470]=some [ci 15,ci 0]:=by
  have:=aFr hS.toItsS (n+2) cmS OX 5 1 3 470 470;exact this
 have u8:D its (n+11) eD [CV.row 3 (cmS.ps.map Pas.cv),CV.row 13 (cmS.bl.map By.cv),CV.row 13 (cmS.ds.map Dd.cv),ci 5,ci 1,ci 0,ci 2,ci 0,ci 1,ci 0,ci 0,ci 0,ci 0,ci 0,ci 0,ci 110,ci 110]=some [ci 12,ci 0]:=by
  have:=aFs hS.toItsS (n+2) cmS OX 5 1 ⟨0,2,0,1,0,0,0,0,0,0⟩ 110 110;exact this
 have u9:D its (n+11) jE [CV.row 3 (cmS.ps.map Pas.cv),CV.row 13 (cmS.bl.map By.cv),CV.row 13 (cmS.ds.map Dd.cv),ci 110,ci 110,ci 400]=some [.row 1 (ints [5,6]),ci 0]:=by
  have:=aC8 hS.toItsS (n+1) cmS OX 110 110 400;exact this
 have u10:D its (n+11) lB [CV.row 3 (cmS.ps.map Pas.cv),CV.row 13 (cmS.bl.map By.cv),CV.row 13 (cmS.ds.map Dd.cv),ci 5,ci 1,ci 110,ci 110]=some [.row 2 ([((0:Int),(0:Int)),(0,1),(0,2),(0,3),(0,4)].map itC),ci 0]:=by
  have:=aHL hS (n+2) cmS OX 5 1 110 110;exact this
 have g0:gr cmS.rs 0=cmS.ps.map Pas.cv:=rfl;have g1:gr cmS.rs 1=cmS.bl.map By.cv:=rfl;have g2:gr cmS.rs 2=cmS.ds.map Dd.cv:=rfl;have r1:=XZ (its:=its) (n+10) [((0:Int),(5:Int))] (by decide)
 have r2:=BV (its:=its) (n+10) [5,6] (by decide)
 have r3:=XZ (its:=its) (n+10) [((0:Int),(0:Int)),(0,1),(0,2),(0,3),(0,4)] (by decide)
 simp only [aFv,aC,g0,g1,g2,u1,u2,u3,u4,u5,u6,u7,u8,u9,u10,aQ,eL,bW,fK];rw [show aS 2 1 [ci 0,ci 5]=[((0:Int),(5:Int))].map itC from rfl,show aS 1 2 [ci 5,ci 6]=ints [5,6] from rfl,show aS 2 5 [ci 0,ci 0,ci 0,ci 1,ci 0,ci 2,ci 0,ci 3,ci 0,ci 4]=[((0:Int),(0:Int)),(0,1),(0,2),(0,3),(0,4)].map itC from rfl,r1,r2,r3];rfl
end Go.Proofs.YtfgdfpnkhdlmfaaGreat
namespace Go.Proofs.YtfgdfpnkhdlmfaaGreat
open Go Go.Sx Go.Stint
set_option maxRecDepth 100000
variable {its:ITS}
theorem ND {c:Cm} (h:Fit c) (l:List Dd):Fit (eR c l).1:=by
 unfold eR;split
 ·split
  rename_i o e _;split
  ·split
   ·exact ⟨by simp,by simp,by simp⟩
   ·exact ⟨h.p,h.b,by simp;omega⟩
  ·exact ⟨by simp,by simp,by simp⟩
 ·exact ⟨by simp,by simp,by simp⟩
theorem RL (n:Nat) (a b:Int) (hb:b≠0):D its (n+1) dG [ci a,ci b]=some [ci (Int.tmod (wr (Int.tmod a b+b)) b)]:=by
 rw [XK];simp [HL,hb]
theorem NF (a:Int) {b:Int} (hb:0<b) (jb:b<=1000000):∃ r,Int.tmod (wr (Int.tmod a b+b)) b=r/\0<=r/\r<b:=by
 have h1:-b<Int.tmod a b/\Int.tmod a b<b:=by
  have e:=Int.natAbs_tmod a b;have:=Nat.mod_lt a.natAbs (show b.natAbs > 0 by omega)
  rw [<- e] at this;omega
 rw [bJ (by omega) (by omega)]
 exact ⟨_,rfl,Int.tmod_nonneg _ (by omega),Int.tmod_lt_of_pos _ hb⟩
end Go.Proofs.YtfgdfpnkhdlmfaaGreat
namespace Go.Proofs.YtfgdfpnkhdlmfaaGreat
open Go Go.Sx Go.Stint
set_option maxRecDepth 100000
variable {its:ITS}
theorem UM {c:Cm} (h:c.ok=true):Good c.ds/\c.ds.length<=60:=by
 simp only [Cm.ok,Bool.and_eq_true,decide_eq_true_eq] at h;obtain ⟨⟨⟨⟨⟨⟨⟨⟨k1,k2⟩,k3⟩,k4⟩,k5⟩,k6⟩,k7⟩,k8⟩,k9⟩:=h;exact ⟨⟨(uD c.ds).1 k9,fun x hx=>List.all_eq_true.1 k6 x hx⟩,k3⟩
theorem aBO {c:Cm} (h:c.ok=true) {o:List Dd} (ho:Good o) (hl:o.length<=60):Cm.ok ⟨c.ps,c.bl,o⟩=true:=by
 simp only [Cm.ok,Bool.and_eq_true,decide_eq_true_eq] at h ⊢;obtain ⟨⟨⟨⟨⟨⟨⟨⟨k1,k2⟩,k3⟩,k4⟩,k5⟩,k6⟩,k7⟩,k8⟩,k9⟩:=h;exact ⟨⟨⟨⟨⟨⟨⟨⟨k1,k2⟩,hl⟩,k4⟩,k5⟩,List.all_eq_true.2 ho.2⟩,k7⟩,k8⟩,(uD o).2 ho.1⟩
end Go.Proofs.YtfgdfpnkhdlmfaaGreat
namespace Go.Stint
open Go Go.Sx
def NH (c:Cm) (d k:Int):Int:=if c.ok then (if bA d&&bA k then 0 else 6) else 23
end Go.Stint
namespace Go.Proofs.YtfgdfpnkhdlmfaaGreat
open Go Go.Sx Go.Stint
set_option maxRecDepth 10000
variable {its:ITS}
theorem aFy (n:Nat) (d:Int):D its (n+1) oH [ci d]=some [cb (bA d)]:=by
 simp [OV,AR,bA,within]
theorem EB (n:Nat) (c:Cm) (hc:Fit c) (d k:Int):D its (n+6) cL (c.rs++[ci d,ci k])=some [cb (c.ok&&bA d&&bA k)]:=by
 show D its (n+6) cL [.row 3 (c.ps.map Pas.cv),.row 13 (c.bl.map By.cv),.row 13 (c.ds.map Dd.cv),ci d,ci k]=_;rw [OQ];unfold AN;rw [show D its (n+5) cU [CV.row 3 (c.ps.map Pas.cv),CV.row 13 (c.bl.map By.cv),CV.row 13 (c.ds.map Dd.cv)]=_ from yM n c hc];cases h1:c.ok <;> cases h2:bA d <;> simp [Cm.chk,h1,h2,aFy]
theorem BW (hS:ItsS its) (n:Nat) (c:Cm) (hc:Fit c) (d k:Int):D its (n+9) cZ (c.rs++[ci d,ci k])=some [.row 1 (ints (if NH c d k=0 then (aK c d k).hold else [])),ci (NH c d k)]:=by
 show D its (n+9) cZ [.row 3 (c.ps.map Pas.cv),.row 13 (c.bl.map By.cv),.row 13 (c.ds.map Dd.cv),ci d,ci k]=_;rw [FR];unfold tU;rw [show D its (n+8) aI [CV.row 3 (c.ps.map Pas.cv),CV.row 13 (c.bl.map By.cv),CV.row 13 (c.ds.map Dd.cv)]=_ from iQ n c hc];simp only [Cm.chk];unfold NH bA;rcases Bool.eq_false_or_eq_true c.ok with aa | aa
 ·have hr:=bS aa
  rw [show D its (n+8) bP [CV.row 3 (c.ps.map Pas.cv),CV.row 13 (c.bl.map By.cv),CV.row 13 (c.ds.map Dd.cv),ci d,ci k]=_ from HQ hS (n+2) hr d k];simp only [aC,List.getD_cons_zero,BT,aAC hS (n+6) c.ps (aK c d k)];rcases Bool.eq_false_or_eq_true (within d 0 100000&&within k 0 100000) with h | h <;> simp [aa,h,ints]
 simp_all [ints]
end Go.Proofs.YtfgdfpnkhdlmfaaGreat
namespace Go.Proofs.YtfgdfpnkhdlmfaaGreat
open Go Go.Sx
set_option maxRecDepth 100000
set_option maxHeartbeats 0
noncomputable section
def aAL (M:Den) (es:List (List CV)) (x y:Int) (K:List CV->Option Ou):Option Ou:=chk (inb x es)<|chk (decide ((Int.toNat x)<(List.length es)))<|chk (oks liA (el es x) 0)<|chk (inb y es)<|chk (decide ((Int.toNat y)<(List.length es)))<|chk (oks liA (el es y) 0)<|aB (dY sg M (CV.fn 172 []) (cat [cis (el es x) 0 13,cis (el es y) 0 13]) [.agg liA,.agg liA] [.one li]) K
def swO (es:List (List CV)) (x y:Int) (K:List (List CV)->Option Ou):Option Ou:=chk (inb y es)<|chk (decide ((Int.toNat y)<(List.length es)))<|chk (oks liA (el es y) 0)<|chk (inb x es)<|chk (decide ((Int.toNat x)<(List.length es)))<|chk (oks liA (el es x) 0)<|chk (inb x es)<|chk ((decide ((Int.toNat x)<(List.length es)))&&(decide (13<=13)))<|chk (inb y (List.set es (Int.toNat x) (spl (el es x) 0 (cis (el es y) 0 13))))<|chk ((decide ((Int.toNat y)<(List.length (List.set es (Int.toNat x) (spl (el es x) 0 (cis (el es y) 0 13))))))&&(decide (13<=13)))<|K (List.set (List.set es (Int.toNat x) (spl (el es x) 0 (cis (el es y) 0 13))) (Int.toNat y) (spl (el (List.set es (Int.toNat x) (spl (el es x) 0 (cis (el es y) 0 13))) y) 0 (cis (el es x) 0 13)))
def aFz:FE:=⟨53,[],.two (.reg [] [0,1,2,3,8] none []) (.blk ⟨[],[],[],[(0,56,13,some 0)]⟩ (.lp [] ⟨[0,1,2,3],[(8,.lf li)],[],[(0,56,13,some 0)]⟩ (.two (.two (.reg [] [0,1,2,3,8,14] none []) (.cond none (.nil) (.nil))) (.two (.thru (.two (.reg [] [0,1,2,3,8,9] none []) (.blk ⟨[0,1,2,3,8],[],[],[(0,56,13,some 0)]⟩ (.lp [] ⟨[0,1,2,3,8],[(9,.lf li)],[],[(0,56,13,some 0)]⟩ (.two (.two (.reg [] [] (some ⟨[0,1,2,3,8,9],[(34,.lf lb)],[],[]⟩) []) (.cond none (.nil) (.nil))) (.two (.thru (.reg [] [0,1,2,3,8,9] none [])) (.reg [] [0,1,2,3,8,9] none []))))))) (.reg [] [0,1,2,3,8] none []))))),⟨[],[]⟩⟩
def aFA:FE:=⟨220,[],.two (.two (.reg [] [0,1,2,3,4,28] none []) (.cond none (.two (.reg [] [0,1,3,4,10] none []) (.two (.reg [] [0,1,4,10,11] none []) (.two (.blk ⟨[0,1],[(10,.lf li)],[],[]⟩ (.lp [] ⟨[0,1,4],[(10,.lf li),(11,.lf li)],[],[]⟩ (.two (.two (.reg [] [0,1,4,10,11,33] none []) (.cond none (.nil) (.nil))) (.thru (.two (.reg [] [0,1,4,10,11,12] none []) (.two (.reg [] [0,1,4,10,11,12,50] none []) (.cond (some ⟨[0,1,4],[(10,.lf li),(11,.lf li)],[],[]⟩) (.reg [] [0,1,4,10,11] none []) (.reg [] [0,1,4,10,11] none [])))))))) (.two (.two (.reg [] [0,10,13] none []) (.blk ⟨[],[],[],[(0,56,13,some 0)]⟩ (.lp [] ⟨[0,10],[(13,.lf li)],[],[(0,56,13,some 0)]⟩ (.two (.two (.reg [] [0,10,13,58] none []) (.cond none (.nil) (.nil))) (.two (.thru (.reg [] [0,10,13] none [])) (.reg [] [0,10,13] none [])))))) (.nil))))) (.nil))) (.two (.two (.reg [] [0,1,2,3,4,80] none []) (.cond none (.two (.reg [] [0,2,4,14] none []) (.two (.reg [] [0,2,4,14,15] none []) (.two (.blk ⟨[0,2],[(14,.lf li)],[],[]⟩ (.lp [] ⟨[0,2,4],[(14,.lf li),(15,.lf li)],[],[]⟩ (.two (.two (.reg [] [0,2,4,14,15,85] none []) (.cond none (.nil) (.nil))) (.thru (.two (.reg [] [0,2,4,14,15,16] none []) (.two (.reg [] [0,2,4,14,15,16,103] none []) (.cond (some ⟨[0,2,4],[(14,.lf li),(15,.lf li)],[],[]⟩) (.reg [] [0,2,4,14,15] none []) (.reg [] [0,2,4,14,15] none [])))))))) (.two (.two (.reg [] [0,14,17] none []) (.blk ⟨[],[],[],[(0,56,13,some 0)]⟩ (.lp [] ⟨[0,14],[(17,.lf li)],[],[(0,56,13,some 0)]⟩ (.two (.two (.reg [] [0,14,17,110] none []) (.cond none (.nil) (.nil))) (.two (.thru (.reg [] [0,14,17] none [])) (.reg [] [0,14,17] none [])))))) (.nil))))) (.nil))) (.two (.reg [] [0,1,2,3,4,18] none []) (.two (.reg [] [0,1,2,3,4,18,19] none []) (.two (.reg [] [0,1,2,3,4,18,19] none []) (.two (.two (.reg [] [0,1,2,3,4,18,19,140] none []) (.cond (some ⟨[0,1,2,3,4,18,19],[(20,.lf li),(21,.lf li)],[],[]⟩) (.two (.reg [] [0,1,2,3,4,18,19,20] none []) (.reg [] [0,1,2,3,4,18,19,20,21] none [])) (.two (.reg [] [0,1,2,3,4,18,19,20] none []) (.reg [] [0,1,2,3,4,18,19,20,21] none [])))) (.two (.reg [] [0,1,2,3,4,18,19,20,21,22] none []) (.two (.blk ⟨[0,1,2,3,4,18,19],[(20,.lf li)],[],[]⟩ (.lp [] ⟨[0,1,2,3,4,18,19,22],[(20,.lf li),(21,.lf li)],[],[]⟩ (.two (.two (.reg [] [0,1,2,3,4,18,19,20,21,22,151] none []) (.cond none (.nil) (.nil))) (.thru (.two (.reg [] [0,1,2,3,4,18,19,20,21,22,23] none []) (.two (.reg [] [0,1,2,3,4,18,19,20,21,22,23,171] none []) (.cond (some ⟨[0,1,2,3,4,18,19,22],[(20,.lf li),(21,.lf li)],[],[]⟩) (.reg [] [0,1,2,3,4,18,19,20,21,22] none []) (.reg [] [0,1,2,3,4,18,19,20,21,22] none [])))))))) (.two (.reg [] [0,1,2,3,4,18,20,24] none []) (.two (.two (.reg [] [] (some ⟨[0,1,2,3,4,18,20,24],[(185,.lf lb)],[],[]⟩) []) (.cond (some ⟨[0,1,3,4,18,20,24],[],[],[(0,56,13,some 0)]⟩) (.reg [] [0,1,3,4,18,20,24] none [(some 191,⟨[0,1,3,4,18,20,24],[],[],[(0,56,13,some 0)]⟩,.two (.reg [] [0,2,3,4,10] none []) (.two (.reg [] [0,2,4,10,11] none []) (.two (.blk ⟨[0,2,4],[(10,.lf li)],[],[(0,56,13,some 0)]⟩ (.lp [] ⟨[0,2,4],[(10,.lf li),(11,.lf li)],[],[(0,56,13,some 0)]⟩ (.two (.two (.reg [] [0,2,4,10,11,20] none []) (.cond none (.nil) (.nil))) (.thru (.two (.reg [] [0,2,4,10,11,23] none []) (.cond (some ⟨[0,2,4],[(10,.lf li),(11,.lf li)],[],[(0,56,13,some 0)]⟩) (.two (.reg [] [0,2,4,10,11] none [(some 31,⟨[0,2,4,10,11],[],[],[(0,56,13,some 0)]⟩,.two (.reg [] [0,1,2,3,10] none []) (.blk ⟨[],[],[],[(0,56,13,some 0)]⟩ (.lp [] ⟨[0,1,2,3],[(10,.lf li)],[],[(0,56,13,some 0)]⟩ (.two (.two (.reg [] [0,1,2,3,10,13] none []) (.cond none (.nil) (.nil))) (.two (.thru (.reg [] [0,1,2,3,10] none [])) (.reg [] [0,1,2,3,10] none []))))))]) (.reg [] [0,2,4,10,11] none [])) (.two (.reg [] [0,2,4,10,11] none [(some 46,⟨[0,2,4,10,11],[],[],[(0,56,13,some 0)]⟩,.two (.reg [] [0,1,2,3,10] none []) (.blk ⟨[],[],[],[(0,56,13,some 0)]⟩ (.lp [] ⟨[0,1,2,3],[(10,.lf li)],[],[(0,56,13,some 0)]⟩ (.two (.two (.reg [] [0,1,2,3,10,13] none []) (.cond none (.nil) (.nil))) (.two (.thru (.reg [] [0,1,2,3,10] none [])) (.reg [] [0,1,2,3,10] none []))))))]) (.reg [] [0,2,4,10,11] none [])))))))) (.reg [] [] none [(some 57,⟨[],[],[],[(0,56,13,some 0)]⟩,.two (.reg [] [0,1,2,3,10] none []) (.blk ⟨[],[],[],[(0,56,13,some 0)]⟩ (.lp [] ⟨[0,1,2,3],[(10,.lf li)],[],[(0,56,13,some 0)]⟩ (.two (.two (.reg [] [0,1,2,3,10,13] none []) (.cond none (.nil) (.nil))) (.two (.thru (.reg [] [0,1,2,3,10] none [])) (.reg [] [0,1,2,3,10] none []))))))]))))]) (.nil))) (.two (.two (.reg [] [] (some ⟨[0,1,3,4,18,20,24],[(199,.lf lb)],[],[]⟩) []) (.cond (some ⟨[0,3,4,18,24],[],[],[(0,56,13,some 0)]⟩) (.reg [] [0,3,4,18,24] none [(some 205,⟨[],[],[],[]⟩,.mt false)]) (.nil))) (.two (.reg [] [] (some ⟨[0,3,4,18,24],[(213,.lf lb)],[],[]⟩) []) (.cond (some ⟨[],[],[],[(0,56,13,some 0)]⟩) (.reg [] [] none [(some 219,⟨[],[],[],[]⟩,.mt false)]) (.nil))))))))))))),⟨[],[]⟩⟩
def aAM (M:Den) (a b:Int) (es:List (List CV)):Option Ou:=cD 0 (aL (fun v0=>aA (decide ((gi v0 0)<b)) (cD 2 (aL (fun v1=>aN (aA (decide ((gi v1 0) > a)) (aAL M (gr v1 1) (gi v1 0) (wr ((gi v1 0) - 1)) fun v2=>some (.nx [cb (decide ((gi v2 0)<0))])) (some (.nx [cb false]))) fun v2=>aA (gb v2 0) (swO (gr v1 1) (gi v1 0) (wr ((gi v1 0) - 1)) fun e9=>some (.nx [ci (wr ((gi v1 0) - 1)),CV.row 13 e9])) (some (.br 2 [CV.row 13 (gr v1 1)]))) [ci (gi v0 0),CV.row 13 (gr v0 1)]) fun v1=>some (.nx [ci (wr ((gi v0 0)+1)),CV.row 13 (gr v1 0)])) (some (.br 0 [CV.row 13 (gr v0 1)]))) [ci (wr (a+1)),CV.row 13 es]) fun v0=>some (.ret [CV.row 13 (gr v0 0)])
theorem aJk (M:Den) (a b:Int) (es:List (List CV)):evM Tryz.prog sg M 11 aFz (aE Tryz.f216) 56 13 [ci a,ci b,.fn 172 []] es=aV (aAM M a b es):=by kernel_rfl
def yP (M:Den) (a m b:Int) (es:List (List CV)):Option Ou:=aA ((wr (m - a)) == 1) (cD 0 (aL (fun v0=>aA (decide ((gi v0 0)<(gi v0 1))) (aAL M es (wr (Int.fdiv (IntKind.wrap .u64 (wr ((gi v0 0)+(gi v0 1)))) 2)) a fun v1=>aN (aA (decide ((gi v1 0)<0)) (some (.nx [ci (wr ((wr (Int.fdiv (IntKind.wrap .u64 (wr ((gi v0 0)+(gi v0 1)))) 2))+1)),ci (gi v0 1)])) (some (.nx [ci (gi v0 0),ci (wr (Int.fdiv (IntKind.wrap .u64 (wr ((gi v0 0)+(gi v0 1)))) 2))]))) fun v2=>some (.nx [ci (gi v2 0),ci (gi v2 1)])) (some (.br 0 [ci (gi v0 0)]))) [ci m,ci b]) fun v0=>cD 2 (aL (fun v1=>aA (decide ((gi v1 0)<(wr ((gi v0 0) - 1)))) (swO (gr v1 1) (gi v1 0) (wr ((gi v1 0)+1)) fun e9=>some (.nx [ci (wr ((gi v1 0)+1)),CV.row 13 e9])) (some (.br 2 [CV.row 13 (gr v1 1)]))) [ci a,CV.row 13 es]) fun v1=>some (.ret [CV.row 13 (gr v1 0)])) (aA ((wr (b - m)) == 1) (cD 4 (aL (fun v0=>aA (decide ((gi v0 0)<(gi v0 1))) (aAL M es m (wr (Int.fdiv (IntKind.wrap .u64 (wr ((gi v0 0)+(gi v0 1)))) 2)) fun v1=>aN (aA (!(decide ((gi v1 0)<0))) (some (.nx [ci (wr ((wr (Int.fdiv (IntKind.wrap .u64 (wr ((gi v0 0)+(gi v0 1)))) 2))+1)),ci (gi v0 1)])) (some (.nx [ci (gi v0 0),ci (wr (Int.fdiv (IntKind.wrap .u64 (wr ((gi v0 0)+(gi v0 1)))) 2))]))) fun v2=>some (.nx [ci (gi v2 0),ci (gi v2 1)])) (some (.br 4 [ci (gi v0 0)]))) [ci a,ci m]) fun v0=>cD 6 (aL (fun v1=>aA (decide ((gi v1 0) > (gi v0 0))) (swO (gr v1 1) (gi v1 0) (wr ((gi v1 0) - 1)) fun e9=>some (.nx [ci (wr ((gi v1 0) - 1)),CV.row 13 e9])) (some (.br 6 [CV.row 13 (gr v1 1)]))) [ci m,CV.row 13 es]) fun v1=>some (.ret [CV.row 13 (gr v1 0)])) (aN (aA (decide (m > (wr (Int.fdiv (IntKind.wrap .u64 (wr (a+b))) 2)))) (some (.nx [ci (wr ((wr ((wr (Int.fdiv (IntKind.wrap .u64 (wr (a+b))) 2))+m)) - b)),ci (wr (Int.fdiv (IntKind.wrap .u64 (wr (a+b))) 2))])) (some (.nx [ci a,ci m]))) fun v0=>cD 8 (aL (fun v1=>aA (decide ((gi v1 0)<(gi v1 1))) (aAL M es (wr ((wr ((wr ((wr (Int.fdiv (IntKind.wrap .u64 (wr (a+b))) 2))+m)) - 1)) - (wr (Int.fdiv (IntKind.wrap .u64 (wr ((gi v1 0)+(gi v1 1)))) 2)))) (wr (Int.fdiv (IntKind.wrap .u64 (wr ((gi v1 0)+(gi v1 1)))) 2)) fun v2=>aN (aA (!(decide ((gi v2 0)<0))) (some (.nx [ci (wr ((wr (Int.fdiv (IntKind.wrap .u64 (wr ((gi v1 0)+(gi v1 1)))) 2))+1)),ci (gi v1 1)])) (some (.nx [ci (gi v1 0),ci (wr (Int.fdiv (IntKind.wrap .u64 (wr ((gi v1 0)+(gi v1 1)))) 2))]))) fun v3=>some (.nx [ci (gi v3 0),ci (gi v3 1)])) (some (.br 8 [ci (gi v1 0)]))) [ci (gi v0 0),ci (gi v0 1)]) fun v1=>aN (aA (decide ((gi v1 0)<m)) (some (.nx [cb (decide (m<(wr ((wr ((wr (Int.fdiv (IntKind.wrap .u64 (wr (a+b))) 2))+m)) - (gi v1 0)))))])) (some (.nx [cb false]))) fun v2=>aN (aA (gb v2 0) (gQ (cD 0 (aL (fun v3=>aA ((gi v3 0) != (gi v3 1)) (aN (aA (decide ((gi v3 0) > (gi v3 1))) (gQ (cD 0 (aL (fun v4=>aA (decide ((gi v4 0)<(gi v3 1))) (swO (gr v4 1) (wr ((wr (m - (gi v3 0)))+(gi v4 0))) (wr (m+(gi v4 0))) fun e9=>some (.nx [ci (wr ((gi v4 0)+1)),CV.row 13 e9])) (some (.br 0 [CV.row 13 (gr v4 1)]))) [ci 0,CV.row 13 (gr v3 2)]) fun v4=>some (.ret [CV.row 13 (gr v4 0)])) fun v4=>some (.nx [ci (wr ((gi v3 0) - (gi v3 1))),ci (gi v3 1),CV.row 13 (gr v4 0)])) (gQ (cD 0 (aL (fun v4=>aA (decide ((gi v4 0)<(gi v3 0))) (swO (gr v4 1) (wr ((wr (m - (gi v3 0)))+(gi v4 0))) (wr ((wr ((wr (m+(gi v3 1))) - (gi v3 0)))+(gi v4 0))) fun e9=>some (.nx [ci (wr ((gi v4 0)+1)),CV.row 13 e9])) (some (.br 0 [CV.row 13 (gr v4 1)]))) [ci 0,CV.row 13 (gr v3 2)]) fun v4=>some (.ret [CV.row 13 (gr v4 0)])) fun v4=>some (.nx [ci (gi v3 0),ci (wr ((gi v3 1) - (gi v3 0))),CV.row 13 (gr v4 0)]))) fun v4=>some (.nx [ci (gi v4 0),ci (gi v4 1),CV.row 13 (gr v4 2)])) (some (.br 0 [ci (gi v3 0),CV.row 13 (gr v3 2)]))) [ci (wr (m - (gi v1 0))),ci (wr ((wr ((wr ((wr (Int.fdiv (IntKind.wrap .u64 (wr (a+b))) 2))+m)) - (gi v1 0))) - m)),CV.row 13 es]) fun v3=>gQ (cD 0 (aL (fun v4=>aA (decide ((gi v4 0)<(gi v3 0))) (swO (gr v4 1) (wr ((wr (m - (gi v3 0)))+(gi v4 0))) (wr (m+(gi v4 0))) fun e9=>some (.nx [ci (wr ((gi v4 0)+1)),CV.row 13 e9])) (some (.br 0 [CV.row 13 (gr v4 1)]))) [ci 0,CV.row 13 (gr v3 1)]) fun v4=>some (.ret [CV.row 13 (gr v4 0)])) fun v4=>some (.ret [CV.row 13 (gr v4 0)])) fun v3=>some (.nx [CV.row 13 (gr v3 0)])) (some (.nx [CV.row 13 es]))) fun v3=>aN (aA (decide (a<(gi v1 0))) (some (.nx [cb (decide ((gi v1 0)<(wr (Int.fdiv (IntKind.wrap .u64 (wr (a+b))) 2))))])) (some (.nx [cb false]))) fun v4=>aN (aA (gb v4 0) (aB (M 217 ([CV.row 13 (gr v3 0),CV.fn 56 [],ci a,ci (gi v1 0),ci (wr (Int.fdiv (IntKind.wrap .u64 (wr (a+b))) 2)),CV.fn 172 []])) fun v5=>chk (pG 13 false v5)<|some (.nx [CV.row 13 (gr v5 0)])) (some (.nx [CV.row 13 (gr v3 0)]))) fun v5=>aN (aA (decide ((wr (Int.fdiv (IntKind.wrap .u64 (wr (a+b))) 2))<(wr ((wr ((wr (Int.fdiv (IntKind.wrap .u64 (wr (a+b))) 2))+m)) - (gi v1 0))))) (some (.nx [cb (decide ((wr ((wr ((wr (Int.fdiv (IntKind.wrap .u64 (wr (a+b))) 2))+m)) - (gi v1 0)))<b))])) (some (.nx [cb false]))) fun v6=>aN (aA (gb v6 0) (aB (M 217 ([CV.row 13 (gr v5 0),CV.fn 56 [],ci (wr (Int.fdiv (IntKind.wrap .u64 (wr (a+b))) 2)),ci (wr ((wr ((wr (Int.fdiv (IntKind.wrap .u64 (wr (a+b))) 2))+m)) - (gi v1 0))),ci b,CV.fn 172 []])) fun v7=>chk (pG 13 false v7)<|some (.nx [CV.row 13 (gr v7 0)])) (some (.nx [CV.row 13 (gr v5 0)]))) fun v7=>some (.ret [CV.row 13 (gr v7 0)])))
theorem aJl (M:Den) (a m b:Int) (es:List (List CV)):evM Tryz.prog sg M 11 aFA (aE Tryz.f217) 56 13 [ci a,ci m,ci b,.fn 172 []] es=aV (yP M a m b es):=by kernel_rfl
end
end Go.Proofs.YtfgdfpnkhdlmfaaGreat
namespace Go.Proofs.YtfgdfpnkhdlmfaaGreat
open Go Go.Sx Go.Stint
set_option maxRecDepth 10000
def Cmp (M:Den):Prop:=∀ x y:Dd,M 172 (x.cv++y.cv)=some [ci (wr (x.day - y.day))]
def Days (l:List Dd):Prop:=∀ x∈l,0<=x.day/\x.day<=100000
theorem aM4 (M:Den) (x y:Dd):dY sg M (.fn 172 []) (x.cv++y.cv) [.agg liA,.agg liA] [.one li]=M 172 (x.cv++y.cv):=rfl
variable {l:List Dd}
theorem JL {M:Den} (hM:Cmp M) (hd:Days l) {x y:Nat} (hx:x<l.length) (hy:y<l.length) (K:List CV->Option Ou):aAL M (l.map Dd.cv) (x:Int) (y:Int) K=K [ci (l[x].day - l[y].day)]:=by
 have h1:=hd _ (List.getElem_mem hx);have h2:=hd _ (List.getElem_mem hy);have h:=hM l[x] l[y];rw [bJ (show -9223372036854775808<=l[x].day - l[y].day by omega) (by omega)] at h
 simp only [aAL,aG hx,aG hy,aM hx,aM hy,Int.toNat_natCast,List.length_map,hx,hy,decide_true,aJ,ddO,ddC,QN,QM,aM4,h,aC]
theorem aFB {x y:Nat} (hx:x<l.length) (hy:y<l.length) (_:x≠y) (K:List (List CV)->Option Ou):swO (l.map Dd.cv) (x:Int) (y:Int) K=K (((l.set x l[y]).set y l[x]).map Dd.cv):=by
 have lx:∀ a b:Dd,spl a.cv 0 b.cv=b.cv:=fun _ _=>rfl
 have hs:List.set (l.map Dd.cv) x (l[y].cv)=(l.set x l[y]).map Dd.cv:=by simp
 have qf:y<(l.set x l[y]).length:=by grind
 simp only [swO,aG hx,aG hy,aM hx,aM hy,Int.toNat_natCast,List.length_map,hx,hy,ddC,lx,hs,aG qf,aM qf,qf];simp
theorem aFC (A:List Dd) (a:Dd) (M:List Dd) (b:Dd) (B:List Dd) (h1:A.length<(A++a::(M++b::B)).length) (h2:A.length+M.length+1<(A++a::(M++b::B)).length) :
  ((A++a::(M++b::B)).set A.length ((A++a::(M++b::B))[A.length+M.length+1])).set (A.length+M.length+1) ((A++a::(M++b::B))[A.length])=A++b::(M++a::B):=by
 grind
theorem aDa (A:List Dd) (a:Dd) (M:List Dd) (b:Dd) (B:List Dd) (h1:A.length<(A++a::(M++b::B)).length) (h2:A.length+M.length+1<(A++a::(M++b::B)).length) :
  ((A++a::(M++b::B)).set (A.length+M.length+1) ((A++a::(M++b::B))[A.length])).set A.length ((A++a::(M++b::B))[A.length+M.length+1])=A++b::(M++a::B):=by
 grind
theorem JM (A:List Dd) (a:Dd) (M:List Dd) (b:Dd) (B:List Dd) {x y:Int} (hx:x=A.length) (hy:y=((A.length+M.length+1:Nat):Int)) (K:List (List CV)->Option Ou) :
  swO ((A++a::(M++b::B)).map Dd.cv) x y K=K ((A++b::(M++a::B)).map Dd.cv)/\swO ((A++a::(M++b::B)).map Dd.cv) y x K=K ((A++b::(M++a::B)).map Dd.cv):=by
 subst hx;subst hy;have h1:A.length<(A++a::(M++b::B)).length:=by simp
 have h2:A.length+M.length+1<(A++a::(M++b::B)).length:=by grind
 constructor
 ·rw [aFB h1 h2 (by omega),aFC A a M b B h1 h2]
 ·rw [aFB h2 h1 (by omega),aDa A a M b B h1 h2]
theorem Days.perm {m:List Dd} (h:Days l) (hp:m.Perm l):Days m:=fun x hx=>h x (hp.subset hx)
section
variable {M:Den} (hM:Cmp M)
include hM
theorem RN (A:List Dd) (x:Dd) (R:List Dd) (aj:A.length+R.length<=2000):∀ (r P:List Dd),Days (A++r.reverse++(x::P)++R)->r.length+P.length<=2000 ->
  aL (fun v1=>aN (aA (decide ((gi v1 0) > (A.length:Int))) (aAL M (gr v1 1) (gi v1 0) (wr ((gi v1 0) - 1)) fun v2=>some (.nx [cb (decide ((gi v2 0)<0))])) (some (.nx [cb false]))) fun v2=>aA (gb v2 0) (swO (gr v1 1) (gi v1 0) (wr ((gi v1 0) - 1)) fun e9=>some (.nx [ci (wr ((gi v1 0) - 1)),CV.row 13 e9])) (some (.br 2 [CV.row 13 (gr v1 1)]))) [ci ((A.length+r.length:Nat):Int),.row 13 ((A++r.reverse++(x::P)++R).map Dd.cv)]=some (.br 2 [.row 13 ((A++vB x r P++R).map Dd.cv)])
 | [],P,hd,hl=>by
  refine bH ?_ (by simp)
  simp [vB]
 | y::r,P,hd,hl=>by
  have e1:A++(y::r).reverse++(x::P)++R=(A++r.reverse)++y::(([]:List Dd)++x::(P++R)):=by simp
  have gn:(A++r.reverse).length+([]:List Dd).length+1<((A++r.reverse)++y::(([]:List Dd)++x::(P++R))).length:=by grind
  have u0:(A++r.reverse).length<((A++r.reverse)++y::(([]:List Dd)++x::(P++R))).length:=by simp
  have hj:((A.length+(y::r).length:Nat):Int)=(((A++r.reverse).length+([]:List Dd).length+1:Nat):Int):=by grind
  have qb:((A.length+(y::r).length:Nat):Int) > (A.length:Int):=by grind
  have hw:wr (((A.length+(y::r).length:Nat):Int) - 1)=((A++r.reverse).length:Int):=by
   grind [bJ]
  have d8:=hd;rw [e1] at d8;have ha:((A++r.reverse)++y::(([]:List Dd)++x::(P++R)))[(A++r.reverse).length]=y:=by simp
  have hb:((A++r.reverse)++y::(([]:List Dd)++x::(P++R)))[(A++r.reverse).length+([]:List Dd).length+1]=x:=by
   rw [List.getElem_append_right (by omega)]
   simp
  have hc:=JL hM d8 gn u0;rw [hb,ha,<- e1,<- hj] at hc;have hs:=fun K=>(JM (A++r.reverse) y [] x (P++R) (x:=((A++r.reverse).length:Int)) (y:=((A.length+(y::r).length:Nat):Int)) rfl hj K).2
  by_cases hlt:x.day<y.day
  ·have h0:x.day - y.day<0:=by omega
   have e2:(A++r.reverse)++x::(([]:List Dd)++y::(P++R))=A++r.reverse++(x::(y::P))++R:=by simp
   refine Eq.trans (eB (vs':=[ci ((A.length+r.length:Nat):Int),.row 13 ((A++r.reverse++(x::(y::P))++R).map Dd.cv)]) ?_) ?_
   ·simp_all
   ·rw [RN A x R aj r (y::P) (hd.perm (by
     rw [e1,<- e2];exact List.Perm.append_left _ (show (x::y::(P++R)).Perm (y::x::(P++R)) from List.Perm.swap y x (P++R)))) (by grind)]
    simp_all [vB]
  ·have h0:¬(x.day - y.day<0):=by omega
   refine bH ?_ (by simp)
   simp only [aQ,dZ,bW,hw,hc,h0,vB,decide_eq_false hlt];simp
theorem aFD (A B C:List Dd) (hd:Days (A++B++C)) (hl:(A++B++C).length<=1000) :
  aAM M (A.length:Int) ((A.length+B.length:Nat):Int) ((A++B++C).map Dd.cv)=some (.ret [.row 13 ((A++aD leD B++C).map Dd.cv)]):=by
 simp at hl;unfold aAM;rw [bG (show A.length<9223372036854775807 by omega)]
 cases B with
 | nil =>
  have h0:¬(((A.length+1:Nat):Int)<((A.length+([]:List Dd).length:Nat):Int)):=by simp only [List.length_nil];omega
  rw [bH (r:=some (.br 0 [.row 13 ((A++[]++C).map Dd.cv)])) (by simp only [aQ,dZ,bW,h0,decide_false,rU,Bool.false_eq_true,if_false]) (by simp)]
  rfl
 | cons b0 B' =>
  generalize hB:b0::B'=B at hd hl ⊢;rw [bZ (B.length - 1) (fun k=>[ci ((A.length+1+k:Nat):Int),.row 13 ((A++aD leD (B.take (k+1))++(B.drop (k+1)++C)).map Dd.cv)]) (some (.br 0 [.row 13 ((A++aD leD B++C).map Dd.cv)])) ?hv (fun k hk=>?hs) ?he (by simp)]
  case hv =>
   grind [aD,LW]
  case he =>
   have h0:¬(((A.length+1+(B.length - 1):Nat):Int)<((A.length+B.length:Nat):Int)):=by omega
   have e1:B.take (B.length - 1+1)=B:=by grind
   have e2:B.drop (B.length - 1+1)=[]:=by grind
   simp only [aQ,dZ,bW,h0,decide_false,rU,Bool.false_eq_true,if_false,e1,e2,List.nil_append]
  case hs =>
   have mq:k+1<B.length:=by omega
   have hlt:((A.length+1+k:Nat):Int)<((A.length+B.length:Nat):Int):=by omega
   have hdr:B.drop (k+1)=B[k+1]::B.drop (k+2):=List.drop_eq_getElem_cons mq
   have cu:(aD leD (B.take (k+1))).length=k+1:=by
    rw [(aU leD _).length_eq,List.length_take];omega
   have mw:((A.length+1+k:Nat):Int)=((A.length+(aD leD (B.take (k+1))).reverse.length:Nat):Int):=by grind
   have wh:A++aD leD (B.take (k+1))++(B.drop (k+1)++C)=A++(aD leD (B.take (k+1))).reverse.reverse++(B[k+1]::[])++(B.drop (k+2)++C):=by
    grind
   have dq:(A++aD leD (B.take (k+1))++(B.drop (k+1)++C)).Perm (A++B++C):=by
    have h1:(aD leD (B.take (k+1))++B.drop (k+1)).Perm B:=by
     have:=(aU leD (B.take (k+1))).append_right (B.drop (k+1));simp_all
    have:=(h1.append_left A).append_right C;grind
   have dc:=RN hM A B[k+1] (B.drop (k+2)++C) (by grind) (aD leD (B.take (k+1))).reverse [] (by rw [<- wh];exact hd.perm dq) (by grind)
   rw [<- wh,<- mw] at dc;simp only [aQ,dZ,bW,hlt,dc]
   have ak:vB B[k+1] (aD leD (B.take (k+1))).reverse []=aD leD (B.take (k+1+1)):=by
    have h1:=HD B[k+1] (aD leD (B.take (k+1))).reverse [] (by simpa using (dJ (B.take (k+1))).1) (by simp)
    rw [qC h1];rw [List.reverse_reverse,List.append_nil,cK mq];refine zO fun d=>?_
    rw [List.filter_append,List.filter_append,(dJ (B.take (k+1))).2]
   rw [ak,bG (show A.length+1+k<9223372036854775807 by omega)]
   simp [Nat.add_assoc]
  simp
end
theorem BX (P U W V S:List Dd) (Pn:U.length=V.length) (hl:P.length+U.length+W.length+V.length<1000000) {J:Int} (hJ:J=U.length) {fx fy:Int->Int}
  (hx:∀ k:Nat,k<U.length->fx k=((P.length+k:Nat):Int)) (hy:∀ k:Nat,k<U.length->fy k=((P.length+U.length+W.length+k:Nat):Int)) :
  aL (fun v4=>aA (decide ((gi v4 0)<J)) (swO (gr v4 1) (fx (gi v4 0)) (fy (gi v4 0)) fun e9=>some (.nx [ci (wr ((gi v4 0)+1)),CV.row 13 e9])) (some (.br 0 [CV.row 13 (gr v4 1)]))) [ci 0,.row 13 ((P++U++W++V++S).map Dd.cv)]=some (.br 0 [.row 13 ((P++V++W++U++S).map Dd.cv)]):=by
 rw [bZ U.length (fun k=>[ci (k:Int),.row 13 ((P++V.take k++U.drop k++W++U.take k++V.drop k++S).map Dd.cv)]) (some (.br 0 [.row 13 ((P++V++W++U++S).map Dd.cv)])) ?hv (fun k hk=>?hs) ?he (by simp)]
 case hv=>simp
 case he =>
  grind [aQ,dZ,bW,aX]
 case hs =>
  have nc:k<V.length:=by omega
  have h0:((k:Nat):Int)<J:=by omega
  have hU:U.drop k=U[k]::U.drop (k+1):=List.drop_eq_getElem_cons hk;have hV:V.drop k=V[k]::V.drop (k+1):=List.drop_eq_getElem_cons nc
  have e1:P++V.take k++U.drop k++W++U.take k++V.drop k++S=(P++V.take k)++U[k]::((U.drop (k+1)++W++U.take k)++V[k]::(V.drop (k+1)++S)):=by
   grind
  have e2:(P++V.take k)++V[k]::((U.drop (k+1)++W++U.take k)++U[k]::(V.drop (k+1)++S))=P++V.take (k+1)++U.drop (k+1)++W++U.take (k+1)++V.drop (k+1)++S:=by
   grind
  have fw:fx (k:Int)=((P++V.take k).length:Int):=by grind
  have zy:fy (k:Int)=(((P++V.take k).length+(U.drop (k+1)++W++U.take k).length+1:Nat):Int):=by
   grind
  simp only [aQ,dZ,bW,h0,decide_true,bE];rw [e1,(JM _ _ _ _ _ fw zy _).1,e2,bG (show k<9223372036854775807 by omega)]
theorem uI {step:List CV->Option Ou} (b lo hi k:Nat) (Q:Nat->Bool) (hk:lo<=k/\k<=hi) (hQ:∀ c,lo<=c->c<hi->(Q c=true↔c<k))
  (h1:∀ i j,lo<=i->i<j->j<=hi->step [ci (i:Int),ci (j:Int)]=some (.nx (cond (Q ((i+j) / 2)) [ci (((i+j) / 2+1:Nat):Int),ci (j:Int)] [ci (i:Int),ci (((i+j) / 2:Nat):Int)])))
  (h2:∀ i:Nat,step [ci (i:Int),ci (i:Int)]=some (.br b [ci (i:Int)])):∀ (d i j:Nat),j - i<=d->lo<=i->i<=k->k<=j->j<=hi->aL step [ci (i:Int),ci (j:Int)]=some (.br b [ci (k:Int)])
 | d,i,j,hd,fl,gw,hj,hn=>by
  by_cases e:i=j
  ·have:i=k:=by omega
   subst e;subst this;exact bH (h2 i) (by simp)
  ·rw [eB (h1 i j fl (by omega) hn)]
   have hq:=hQ ((i+j) / 2) (by omega) (by omega)
   cases hc:Q ((i+j) / 2) with
   | true =>
    rw [hc] at hq;have:=hq.1 rfl;exact uI b lo hi k Q hk hQ h1 h2 d _ _ (by omega) (by omega) (by omega) (by omega) (by omega)
   | false =>
    have:¬(i+j) / 2<k:=fun h=>by grind
    exact uI b lo hi k Q hk hQ h1 h2 d _ _ (by omega) (by omega) (by omega) (by omega) (by omega)
theorem vO (lo:Nat) (Q:Nat->Bool):∀ (n:Nat),(∀ c,lo<=c->c+1<lo+n->Q (c+1)=true->Q c=true)->∃ k,lo<=k/\k<=lo+n/\∀ c,lo<=c->c<lo+n->(Q c=true↔c<k)
 | 0,_=>⟨lo,Nat.le_refl _,Nat.le_refl _,fun c h1 h2=>by omega⟩
 | n+1,h=>by
  obtain ⟨k,h1,h2,h3⟩:=vO lo Q n fun c hc hn hq=>h c hc (by omega) hq
  by_cases hq:Q (lo+n)=true/\k=lo+n
  ·refine ⟨lo+n+1,by omega,by omega,fun c hc hn=>?_⟩
   grind
  ·refine ⟨k,h1,by omega,fun c hc hn=>?_⟩
   by_cases e:c=lo+n
   ·constructor
    ·intro h4
     by_cases e0:n=0
     ·grind
     ·have h5:=h (lo+(n - 1)) (by omega) (by omega) (by grind)
      grind
    omega
   grind
theorem NI {mm:Int}:∀ (n:Nat) (P U V S:List Dd),U.length+V.length<=n->U≠[]->V≠[]->mm=((P.length+U.length:Nat):Int)->P.length+U.length+V.length<100000 ->
  gQ (cD 0 (aL (fun v3=>aA ((gi v3 0) != (gi v3 1)) (aN (aA (decide ((gi v3 0) > (gi v3 1))) (gQ (cD 0 (aL (fun v4=>aA (decide ((gi v4 0)<(gi v3 1))) (swO (gr v4 1) (wr ((wr (mm - (gi v3 0)))+(gi v4 0))) (wr (mm+(gi v4 0))) fun e9=>some (.nx [ci (wr ((gi v4 0)+1)),CV.row 13 e9])) (some (.br 0 [CV.row 13 (gr v4 1)]))) [ci 0,CV.row 13 (gr v3 2)]) fun v4=>some (.ret [CV.row 13 (gr v4 0)])) fun v4=>some (.nx [ci (wr ((gi v3 0) - (gi v3 1))),ci (gi v3 1),CV.row 13 (gr v4 0)])) (gQ (cD 0 (aL (fun v4=>aA (decide ((gi v4 0)<(gi v3 0))) (swO (gr v4 1) (wr ((wr (mm - (gi v3 0)))+(gi v4 0))) (wr ((wr ((wr (mm+(gi v3 1))) - (gi v3 0)))+(gi v4 0))) fun e9=>some (.nx [ci (wr ((gi v4 0)+1)),CV.row 13 e9])) (some (.br 0 [CV.row 13 (gr v4 1)]))) [ci 0,CV.row 13 (gr v3 2)]) fun v4=>some (.ret [CV.row 13 (gr v4 0)])) fun v4=>some (.nx [ci (gi v3 0),ci (wr ((gi v3 1) - (gi v3 0))),CV.row 13 (gr v4 0)]))) fun v4=>some (.nx [ci (gi v4 0),ci (gi v4 1),CV.row 13 (gr v4 2)])) (some (.br 0 [ci (gi v3 0),CV.row 13 (gr v3 2)]))) [ci (U.length:Int),ci (V.length:Int),CV.row 13 ((P++U++V++S).map Dd.cv)]) fun v3=>gQ (cD 0 (aL (fun v4=>aA (decide ((gi v4 0)<(gi v3 0))) (swO (gr v4 1) (wr ((wr (mm - (gi v3 0)))+(gi v4 0))) (wr (mm+(gi v4 0))) fun e9=>some (.nx [ci (wr ((gi v4 0)+1)),CV.row 13 e9])) (some (.br 0 [CV.row 13 (gr v4 1)]))) [ci 0,CV.row 13 (gr v3 1)]) fun v4=>some (.ret [CV.row 13 (gr v4 0)])) fun v4=>some (.ret [CV.row 13 (gr v4 0)])) (fun v3=>some (.nx [CV.row 13 (gr v3 0)]))=some (.nx [.row 13 ((P++V++U++S).map Dd.cv)])
 | 0,P,U,V,S,hn,hU,hV,hm,hl=>by
  simp_all
 | n+1,P,U,V,S,hn,hU,hV,hm,hl=>by
  have Po:=List.length_pos_iff.2 hU;have Pp:=List.length_pos_iff.2 hV;subst hm;rcases Nat.lt_trichotomy U.length V.length with hlt | ft | qb
  ·
   have ih:=NI (mm:=((P.length+U.length:Nat):Int)) n P (V.drop (V.length - U.length)) (V.take (V.length - U.length)) (U++S) (by grind) (by
    grind [List.length_nil]) (by
    grind [List.length_nil]) (by grind) (by grind)
   have e1:P++U++V++S=P++U++V.take (V.length - U.length)++V.drop (V.length - U.length)++S:=by simp
   have e2:P++V.take (V.length - U.length)++V.drop (V.length - U.length)++(U++S)=P++V++U++S:=by simp
   have e3:P++V.drop (V.length - U.length)++V.take (V.length - U.length)++(U++S)=P++V.drop (V.length - U.length)++V.take (V.length - U.length)++U++S:=by simp
   rw [<- e2,<- ih];congr 2;refine eB ?_
   have D9:=BX P U (V.take (V.length - U.length)) (V.drop (V.length - U.length)) S (by grind) (by grind) (J:=(U.length:Int)) rfl
    (fx:=fun k=>wr ((wr (((P.length+U.length:Nat):Int) - (U.length:Int)))+k)) (fy:=fun k=>wr ((wr ((wr (((P.length+U.length:Nat):Int)+(V.length:Int))) - (U.length:Int)))+k))
    (fun k hk=>by
     grind [bJ])
    (fun k hk=>by
     grind [List.length_take,bJ,Nat,Int])
   have ax:((U.length:Int) != (V.length:Int))=true:=by grind
   have C3:¬((U.length:Int) > (V.length:Int)):=by omega
   simp only [aQ,eL,ax,C3,decide_false,bE,aX];rw [e1];erw [D9];simp only [cP,gQ,bW,bC,aQ,eL,dZ,e3,List.length_drop,List.length_take];rw [bJ (by omega) (by omega)]
   have q1:V.length - (V.length - U.length)=U.length:=by omega
   have q2:min (V.length - U.length) V.length=V.length - U.length:=by omega
   rw [q1,q2,show ((V.length:Int) - (U.length:Int))=((V.length - U.length:Nat):Int) by omega]
  ·
   have D9:=BX P U [] V S ft (by grind) (J:=(U.length:Int)) rfl
    (fx:=fun k=>wr ((wr (((P.length+U.length:Nat):Int) - (U.length:Int)))+k)) (fy:=fun k=>wr (((P.length+U.length:Nat):Int)+k))
    (fun k hk=>by
     grind [bJ])
    (fun k hk=>by
     grind [bJ])
   rw [bH (r:=some (.br 0 [ci (U.length:Int),.row 13 ((P++U++V++S).map Dd.cv)])) (by
    simp_all) (by simp)]
   simp_all
  ·
   have ih:=NI (mm:=((P.length+U.length:Nat):Int)) n (P++V) (U.drop V.length) (U.take V.length) S (by grind) (by
    simp_all) (by
    simp_all) (by grind) (by grind)
   have e1:P++U++V++S=P++U.take V.length++U.drop V.length++V++S:=by simp
   have e2:P++V++U.take V.length++U.drop V.length++S=P++V++U++S:=by simp
   rw [<- e2,<- ih];congr 2;refine eB ?_
   have D9:=BX P (U.take V.length) (U.drop V.length) V S (by grind) (by grind) (J:=(V.length:Int)) (by grind)
    (fx:=fun k=>wr ((wr (((P.length+U.length:Nat):Int) - (U.length:Int)))+k)) (fy:=fun k=>wr (((P.length+U.length:Nat):Int)+k))
    (fun k hk=>by
     grind [bJ])
    (fun k hk=>by
     grind [bJ])
   have ax:((U.length:Int) != (V.length:Int))=true:=by grind
   have hg:((U.length:Int) > (V.length:Int)):=by omega
   simp only [aQ,eL,ax,hg,decide_true,bE];rw [e1];erw [D9];simp only [cP,gQ,bW,bC,aQ,eL,dZ,List.length_drop,List.length_take];grind [bJ,Int,Nat]
structure Mg (A X Y C:List Dd) (a m b:Int):Prop where
 x0:X≠[]
 y0:Y≠[]
 sx:fX X
 sy:fX Y
 dd:Days (A++X++Y++C)
 ll:A.length+X.length+Y.length+C.length<=1000
 ea:a=(A.length:Int)
 em:m=((A.length+X.length:Nat):Int)
 eb:b=((A.length+X.length+Y.length:Nat):Int)
variable {i:Nat}
theorem aM5 (A X Y C:List Dd) (h:i<X.length) (h':A.length+i<(A++X++Y++C).length):(A++X++Y++C)[A.length+i]=X[i]:=by
 grind
theorem aLw (A X Y C:List Dd) (h:i<Y.length) (h':A.length+X.length+i<(A++X++Y++C).length):(A++X++Y++C)[A.length+X.length+i]=Y[i]:=by
 grind
theorem iD (h:fX l) {j:Nat} (gp:i<=j) (hj:j<l.length):(l[i]'(by omega)).day<=l[j].day:=by
 rcases Nat.lt_or_eq_of_le gp with h1 | h1
 ·exact List.pairwise_iff_getElem.1 h i j (by omega) hj h1
 grind
theorem aJm (p q:Bool):aA p (some (.nx [cb q])) (some (.nx [cb false]))=some (.nx [cb (p&&q)]):=by simp
theorem aFE (A:List Dd) (x:Dd) (Y1 Y2:List Dd) (hl:A.length+Y1.length<=2000) {a e:Int} (ha:a=(A.length:Int)) (he:e=((A.length+Y1.length:Nat):Int)) :
  aL (fun v1=>aA (decide ((gi v1 0)<e)) (swO (gr v1 1) (gi v1 0) (wr ((gi v1 0)+1)) fun e9=>some (.nx [ci (wr ((gi v1 0)+1)),CV.row 13 e9])) (some (.br 2 [CV.row 13 (gr v1 1)]))) [ci a,CV.row 13 ((A++[x]++Y1++Y2).map Dd.cv)]=some (.br 2 [.row 13 ((A++Y1++[x]++Y2).map Dd.cv)]):=by
 subst ha;subst he;rw [bZ Y1.length (fun t=>[ci ((A.length+t:Nat):Int),.row 13 ((A++Y1.take t++[x]++Y1.drop t++Y2).map Dd.cv)]) (some (.br 2 [.row 13 ((A++Y1++[x]++Y2).map Dd.cv)])) ?hv (fun t ht=>?hs) ?he (by simp)]
 case hv=>simp
 case he =>
  simp
 case hs =>
  have h0:((A.length+t:Nat):Int)<((A.length+Y1.length:Nat):Int):=by omega
  have e1:A++Y1.take t++[x]++Y1.drop t++Y2=(A++Y1.take t)++x::([]++Y1[t]::(Y1.drop (t+1)++Y2)):=by
   grind [List.drop_eq_getElem_cons]
  have e2:(A++Y1.take t)++Y1[t]::([]++x::(Y1.drop (t+1)++Y2))=A++Y1.take (t+1)++[x]++Y1.drop (t+1)++Y2:=by
   grind [cK]
  simp only [aQ,dZ,bW,h0,decide_true,bE,bG (show A.length+t<9223372036854775807 by omega)]
  grind [JM,Nat.add_assoc]
theorem aHM (A X2:List Dd) (y:Dd) (C:List Dd) (hl:A.length+X2.length<=2000) {m e:Int} (hm:m=((A.length+X2.length:Nat):Int)) (he:e=(A.length:Int)) :
  aL (fun v1=>aA (decide ((gi v1 0) > e)) (swO (gr v1 1) (gi v1 0) (wr ((gi v1 0) - 1)) fun e9=>some (.nx [ci (wr ((gi v1 0) - 1)),CV.row 13 e9])) (some (.br 6 [CV.row 13 (gr v1 1)]))) [ci m,CV.row 13 ((A++X2++[y]++C).map Dd.cv)]=some (.br 6 [.row 13 ((A++[y]++X2++C).map Dd.cv)]):=by
 subst hm;subst he;rw [bZ X2.length (fun t=>[ci ((A.length+(X2.length - t):Nat):Int),.row 13 ((A++X2.take (X2.length - t)++[y]++X2.drop (X2.length - t)++C).map Dd.cv)]) (some (.br 6 [.row 13 ((A++[y]++X2++C).map Dd.cv)])) ?hv (fun t ht=>?hs) ?he (by simp)]
 case hv=>simp
 case he =>
  simp
 case hs =>
  obtain ⟨u,hu⟩:∃ u,X2.length - t=u+1:=⟨X2.length - t - 1,by omega⟩
  have Aa:X2.length - (t+1)=u:=by omega
  rw [hu,Aa];have h0:((A.length+(u+1):Nat):Int) > (A.length:Int):=by omega
  have e1:A++X2.take (u+1)++[y]++X2.drop (u+1)++C=(A++X2.take u)++X2[u]::([]++y::(X2.drop (u+1)++C)):=by
   grind [cK]
  have e2:(A++X2.take u)++y::([]++X2[u]::(X2.drop (u+1)++C))=A++X2.take u++[y]++X2.drop u++C:=by
   grind [List.drop_eq_getElem_cons]
  have hw:wr (((A.length+(u+1):Nat):Int) - 1)=((A.length+u:Nat):Int):=by grind [bJ]
  simp only [aQ,dZ,bW,h0,decide_true,bE,hw];grind [JM]
section
variable {M:Den} (hM:Cmp M)
include hM
theorem mg1 {A Y C:List Dd} {x:Dd} {a m b:Int} (h:Mg A [x] Y C a m b):yP M a m b ((A++[x]++Y++C).map Dd.cv)=some (.ret [.row 13 ((A++aD leD ([x]++Y)++C).map Dd.cv)]):=by
 obtain ⟨-,Ea,-,hY,hd,hl,rfl,rfl,rfl⟩:=h;have hL:(A++[x]++Y++C).length=A.length+1+Y.length+C.length:=by grind
 have mn:(wr (((A.length+[x].length:Nat):Int) - (A.length:Int)) == 1)=true:=by
  grind [bJ]
 unfold yP;rw [mn,bE]
 let Q:Nat->Bool:=fun c=>match (A++[x]++Y++C)[c]? with | some y=>decide (y.day<x.day) | none=>false
 have Hu:∀ i,(hi:i<Y.length)->Q (A.length+1+i)=decide (Y[i].day<x.day):=fun i hi=>by
  have h1:A.length+[x].length+i<(A++[x]++Y++C).length:=by grind
  have:=aLw A [x] Y C hi h1;grind
 obtain ⟨k,mq,nc,uo⟩:=vO (A.length+1) Q Y.length (fun c h1 h2 hq=>by
  obtain ⟨i,rfl⟩:∃ i,c=A.length+1+i:=⟨c - (A.length+1),by omega⟩
  rw [show A.length+1+i+1=A.length+1+(i+1) by omega,Hu (i+1) (by omega)] at hq
  rw [Hu i (by omega)]
  have:=of_decide_eq_true hq;have h3:=iD hY (show i<=i+1 by omega) (by omega:i+1<Y.length)
  grind)
 obtain ⟨k,rfl⟩:∃ i,k=A.length+1+i:=⟨k - (A.length+1),by omega⟩
 have hx:(A++[x]++Y++C)[A.length]'(by omega)=x:=by simp
 rw [show ([ci ((A.length+[x].length:Nat):Int),ci ((A.length+[x].length+Y.length:Nat):Int)]:List CV)=[ci ((A.length+1:Nat):Int),ci ((A.length+1+Y.length:Nat):Int)] from rfl];rw [uI 0 (A.length+1) (A.length+1+Y.length) (A.length+1+k) Q ⟨mq,nc⟩ (fun c h1 h2=>uo c h1 h2) (fun i j h1 h2 h3=>?h1) (fun i=>?h2) Y.length (A.length+1) (A.length+1+Y.length) (by omega) (Nat.le_refl _) mq nc (Nat.le_refl _)]
 case h2 =>
  simp
 case h1 =>
  have h0:((i:Int)<(j:Int)):=by omega
  have hm:(i+j) / 2<(A++[x]++Y++C).length:=by omega
  have ha:A.length<(A++[x]++Y++C).length:=by omega
  have ug:Q ((i+j) / 2)=decide ((A++[x]++Y++C)[(i+j) / 2].day - x.day<0):=by
   grind
  simp only [aQ,eL,h0,decide_true,bE,half i j (by omega),JL hM hd hm ha,hx]
  rw [<- ug];cases Q ((i+j) / 2)
  ·rfl
  ·simp only [bE,bC,aQ,eL,cond_true,bG (show (i+j) / 2<9223372036854775807 by omega)]
 have eY:Y.take k++Y.drop k=Y:=List.take_append_drop _ _;have tg:=aFE A x (Y.take k) (Y.drop k++C) (by grind) (a:=(A.length:Int)) (e:=wr (((A.length+1+k:Nat):Int) - 1)) rfl (by rw [bJ (by omega) (by omega),List.length_take];omega)
 rw [show A++[x]++Y.take k++(Y.drop k++C)=A++[x]++Y++C by grind] at tg
 simp only [cP,aQ];erw [tg];simp only [cP,bW]
 have hlt:∀ y∈Y.take k,y.day<x.day:=fun y hy=>by
  obtain ⟨i,hi,rfl⟩:=List.getElem_of_mem hy;grind
 have Ad:∀ y∈Y.drop k,x.day<=y.day:=fun y hy=>by
  obtain ⟨i,hi,rfl⟩:=List.getElem_of_mem hy;rw [List.length_drop] at hi;have h3:=(uo (A.length+1+(k+i)) (by omega) (by omega))
  rw [Hu (k+i) (by omega)] at h3
  grind
 have zb:=List.pairwise_append.1 (show List.Pairwise (fun a b:Dd=>a.day<=b.day) (Y.take k++Y.drop k) by rw [eY];exact hY)
 have ak:aEV ([x]++Y) (Y.take k++[x]++Y.drop k):=by
  refine ⟨?_,fun d=>?_⟩
  ·unfold fX
   rw [List.append_assoc,List.pairwise_append];refine ⟨zb.1,List.pairwise_cons.2 ⟨fun z hz=>Ad z (by simp_all),by simp_all⟩,fun u hu z hz=>?_⟩
   grind
  ·rw [List.filter_append,tM (X:=Y.take k) (Y:=[x]) (fun u hu z hz=>by grind) d,<- List.filter_append,List.append_assoc,eY]
 rw [<- qC ak];simp only [List.append_assoc]
theorem mg2 {A X C:List Dd} {y:Dd} {a m b:Int} (h:Mg A X [y] C a m b) (Nu:X.length≠1):yP M a m b ((A++X++[y]++C).map Dd.cv)=some (.ret [.row 13 ((A++aD leD (X++[y])++C).map Dd.cv)]):=by
 obtain ⟨Eb,-,hX,-,hd,hl,rfl,rfl,rfl⟩:=h;have hL:(A++X++[y]++C).length=A.length+X.length+1+C.length:=by grind
 have mn:(wr (((A.length+X.length:Nat):Int) - (A.length:Int)) == 1)=false:=by
  grind [bJ]
 have i6:(wr (((A.length+X.length+[y].length:Nat):Int) - ((A.length+X.length:Nat):Int)) == 1)=true:=by
  grind [bJ]
 unfold yP;rw [mn,aX,i6,bE]
 let Q:Nat->Bool:=fun c=>match (A++X++[y]++C)[c]? with | some x=>!decide (y.day - x.day<0) | none=>false
 have Jv:∀ i,(hi:i<X.length)->Q (A.length+i)=!decide (y.day - X[i].day<0):=fun i hi=>by
  grind
 obtain ⟨k,mq,nc,uo⟩:=vO A.length Q X.length (fun c h1 h2 hq=>by
  obtain ⟨i,rfl⟩:∃ i,c=A.length+i:=⟨c - A.length,by omega⟩
  rw [show A.length+i+1=A.length+(i+1) by omega,Jv (i+1) (by omega)] at hq
  rw [Jv i (by omega)]
  simp at hq ⊢;have h3:=iD hX (show i<=i+1 by omega) (by omega:i+1<X.length)
  omega)
 obtain ⟨k,rfl⟩:∃ i,k=A.length+i:=⟨k - A.length,by omega⟩
 have hy:(A++X++[y]++C)[A.length+X.length]'(by omega)=y:=by simp
 rw [uI 4 A.length (A.length+X.length) (A.length+k) Q ⟨mq,nc⟩ (fun c h1 h2=>uo c h1 h2) (fun i j h1 h2 h3=>?h1) (fun i=>?h2) X.length A.length (A.length+X.length) (by omega) (Nat.le_refl _) mq nc (Nat.le_refl _)]
 case h2 =>
  simp
 case h1 =>
  have h0:((i:Int)<(j:Int)):=by omega
  have hm:(i+j) / 2<(A++X++[y]++C).length:=by omega
  have ha:A.length+X.length<(A++X++[y]++C).length:=by omega
  have ug:Q ((i+j) / 2)=!decide (y.day - (A++X++[y]++C)[(i+j) / 2].day<0):=by
   grind
  simp only [aQ,eL,h0,decide_true,half i j (by omega),JL hM hd ha hm,hy]
  rw [<- ug];cases Q ((i+j) / 2)
  ·rfl
  ·simp only [bE,bC,aQ,eL,cond_true,bG (show (i+j) / 2<9223372036854775807 by omega)]
 have eX:X.take k++X.drop k=X:=List.take_append_drop _ _;have tg:=aHM (A++X.take k) (X.drop k) y C (by grind) (m:=((A.length+X.length:Nat):Int)) (e:=((A.length+k:Nat):Int)) (by grind) (by grind)
 rw [show A++X.take k++X.drop k++[y]++C=A++X++[y]++C by simp] at tg
 simp only [cP];erw [tg];simp only [cP,bW]
 have bq:∀ x∈X.take k,x.day<=y.day:=fun x hx=>by
  obtain ⟨i,hi,rfl⟩:=List.getElem_of_mem hx;grind
 have qb:∀ x∈X.drop k,y.day<x.day:=fun x hx=>by
  obtain ⟨i,hi,rfl⟩:=List.getElem_of_mem hx;grind
 have z5:=List.pairwise_append.1 (show List.Pairwise (fun a b:Dd=>a.day<=b.day) (X.take k++X.drop k) by rw [eX];exact hX)
 have ak:aEV (X++[y]) (X.take k++[y]++X.drop k):=by
  refine ⟨?_,fun d=>?_⟩
  ·unfold fX
   grind
  ·rw [List.append_assoc,List.filter_append,tM (X:=[y]) (Y:=X.drop k) (fun u hu z hz=>by grind) d,<- List.filter_append,<- List.append_assoc,eX]
 rw [<- qC ak];simp only [List.append_assoc]
end
theorem pL (es:List (List CV)):pG 13 false [.row 13 es,cb false]=true:=rfl
def aIu (M:Den) (n:Nat):Prop:=∀ (A X Y C:List Dd) (a m b:Int),Mg A X Y C a m b->X.length+Y.length<n->M 217 [.row 13 ((A++X++Y++C).map Dd.cv),.fn 56 [],ci a,ci m,ci b,.fn 172 []]=some [.row 13 ((A++aD leD (X++Y)++C).map Dd.cv),cb false]
theorem aDb {a m b:Nat} (h1:a<m) (h2:m<b) (hb:b<=1000):∃ lo hi:Nat,aA (decide ((m:Int) > (((a+b) / 2:Nat):Int))) (some (.nx [ci (wr ((wr ((((a+b) / 2:Nat):Int)+m)) - b)),ci (((a+b) / 2:Nat):Int)])) (some (.nx [ci (a:Int),ci (m:Int)]))=some (.nx [ci (lo:Int),ci (hi:Int)])/\a<=lo/\lo<=hi/\hi<=m/\hi<=(a+b) / 2/\(a+b) / 2+m<=lo+b/\(lo=a\/(a+b) / 2+m=lo+b)/\(hi=m\/hi=(a+b) / 2):=by
 by_cases h:m > (a+b) / 2
 ·refine ⟨(a+b) / 2+m - b,(a+b) / 2,?_,by omega,by omega,by omega,by omega,by omega,.inr (by omega),.inr rfl⟩
  rw [decide_eq_true (by omega:(m:Int) > (((a+b) / 2:Nat):Int)),bE,bJ (x:=(((a+b) / 2:Nat):Int)+m) (by omega) (by omega),bJ (by omega) (by omega)]
  grind
 grind [aX]
theorem aAN {x:Option Ou} {v:List CV} {K:List CV->Option Ou} {r:Option Ou} (h:x=some (.nx v)) (h2:K v=r):aN x K=r:=by simp_all
section
variable {M:Den} (hM:Cmp M)
include hM
theorem mg3 {A X Y C:List Dd} {a m b:Int} (hR:aIu M (X.length+Y.length)) (h:Mg A X Y C a m b) (Nu:X.length≠1) (Pq:Y.length≠1):yP M a m b ((A++X++Y++C).map Dd.cv)=some (.ret [.row 13 ((A++aD leD (X++Y)++C).map Dd.cv)]):=by
 obtain ⟨Eb,Ea,hX,hY,hd,hl,rfl,rfl,rfl⟩:=h;have zt:=List.length_pos_iff.2 Eb;have Pr:=List.length_pos_iff.2 Ea;have hL:(A++X++Y++C).length=A.length+X.length+Y.length+C.length:=by grind
 have mn:(wr (((A.length+X.length:Nat):Int) - (A.length:Int)) == 1)=false:=by
  grind [bJ,beq_eq_false_iff_ne]
 have i6:(wr (((A.length+X.length+Y.length:Nat):Int) - ((A.length+X.length:Nat):Int)) == 1)=false:=by
  grind [bJ,beq_eq_false_iff_ne]
 obtain ⟨lo,hi,D7,b1,b2,b3,b4,b5,b6,b7⟩:=aDb (a:=A.length) (m:=A.length+X.length) (b:=A.length+X.length+Y.length) (by omega) (by omega) (by omega)
 obtain ⟨mid,Hv⟩:∃ mid,(A.length+(A.length+X.length+Y.length)) / 2=mid:=⟨_,rfl⟩;have wi:=half A.length (A.length+X.length+Y.length) (by omega)
 rw [Hv] at D7 b4 b5 b6 b7 wi;unfold yP;rw [mn,aX,i6,aX,wi,D7,bC]
 let Q:Nat->Bool:=fun c=>match (A++X++Y++C)[mid+(A.length+X.length) - 1 - c]?,(A++X++Y++C)[c]? with | some y,some x=>!decide (y.day - x.day<0) | _,_=>false
 have Jw:∀ c,(h1:mid+(A.length+X.length) - 1 - c<(A++X++Y++C).length)->(h2:c<(A++X++Y++C).length)->Q c=!decide ((A++X++Y++C)[mid+(A.length+X.length) - 1 - c].day - (A++X++Y++C)[c].day<0):=fun c h1 h2=>by
  grind
 have hQ:∀ i,(h1:mid+X.length - 1 - i - (A.length+X.length)<Y.length)->(h2:i<X.length)->A.length+X.length<=mid+X.length - 1 - i->Q (A.length+i)=!decide (Y[mid+X.length - 1 - i - (A.length+X.length)].day - X[i].day<0):=fun i h1 h2 h3=>by
  rw [Jw (A.length+i) (by omega) (by omega)]
  have e1:=aM5 A X Y C h2 (by omega)
  have e2:=aLw A X Y C h1 (by omega)
  have e3:mid+(A.length+X.length) - 1 - (A.length+i)=A.length+X.length+(mid+X.length - 1 - i - (A.length+X.length)):=by omega
  grind
 obtain ⟨k,mq,nc,uo⟩:=vO lo Q (hi - lo) (fun c h1 h2 hq=>by
  obtain ⟨i,rfl⟩:∃ i,c=A.length+i:=⟨c - A.length,by omega⟩
  rw [show A.length+i+1=A.length+(i+1) by omega,hQ (i+1) (by omega) (by omega) (by omega)] at hq
  rw [hQ i (by omega) (by omega) (by omega)]
  simp at hq ⊢;have h3:=iD hX (show i<=i+1 by omega) (by omega:i+1<X.length)
  have h4:=iD hY (show mid+X.length - 1 - (i+1) - (A.length+X.length)<=mid+X.length - 1 - i - (A.length+X.length) by omega) (by omega)
  omega)
 rw [show lo+(hi - lo)=hi by omega] at nc uo
 simp only [aQ,eL];rw [uI 8 lo hi k Q ⟨mq,nc⟩ (fun c h1 h2=>uo c h1 h2) (fun i j h1 h2 h3=>?h1) (fun i=>?h2) (hi - lo) lo hi (by omega) (Nat.le_refl _) mq nc (Nat.le_refl _)]
 case h2 =>
  simp
 case h1 =>
  have h0:((i:Int)<(j:Int)):=by omega
  have hm:(i+j) / 2<(A++X++Y++C).length:=by omega
  have Cy:mid+(A.length+X.length) - 1 - (i+j) / 2<(A++X++Y++C).length:=by omega
  have hw:wr (wr (wr ((mid:Int)+((A.length+X.length:Nat):Int)) - 1) - (((i+j) / 2:Nat):Int))=((mid+(A.length+X.length) - 1 - (i+j) / 2:Nat):Int):=by
   rw [bJ (x:=(mid:Int)+((A.length+X.length:Nat):Int)) (by omega) (by omega),bJ (x:=(mid:Int)+((A.length+X.length:Nat):Int) - 1) (by omega) (by omega),bJ (by omega) (by omega)]
   omega
  have ug:=Jw ((i+j) / 2) Cy hm;simp only [aQ,eL,h0,decide_true,bE,half i j (by omega),hw,JL hM hd Cy hm]
  rw [ug]
  by_cases hc:(A++X++Y++C)[mid+(A.length+X.length) - 1 - (i+j) / 2].day - (A++X++Y++C)[(i+j) / 2].day<0
  ·simp_all
  ·simp only [hc,decide_false,Bool.not_false,bE,bC,aQ,eL,cond_true,bG (show (i+j) / 2<9223372036854775807 by omega)]
 obtain ⟨s,rfl⟩:∃ s,k=A.length+s:=⟨k - A.length,by omega⟩
 obtain ⟨t,ht⟩:∃ t,mid=A.length+s+t:=⟨mid - (A.length+s),by omega⟩
 subst ht;have hs:s<=X.length:=by omega
 have Ps:t<=Y.length:=by omega
 have eX:X.take s++X.drop s=X:=List.take_append_drop _ _;have eY:Y.take t++Y.drop t=Y:=List.take_append_drop _ _;have l1:(X.take s).length=s:=by grind
 have l2:(X.drop s).length=X.length - s:=List.length_drop;have l3:(Y.take t).length=t:=by grind
 have l4:(Y.drop t).length=Y.length - t:=List.length_drop;have z5:=List.pairwise_append.1 (show List.Pairwise (fun a b:Dd=>a.day<=b.day) (X.take s++X.drop s) by rw [eX];exact hX)
 have zb:=List.pairwise_append.1 (show List.Pairwise (fun a b:Dd=>a.day<=b.day) (Y.take t++Y.drop t) by rw [eY];exact hY)
 have f1:∀ x∈X.take s,∀ y∈Y.drop t,x.day<=y.day:=fun x hx y hy=>by
  obtain ⟨i,gw,rfl⟩:=List.getElem_of_mem hx;obtain ⟨j,hj,rfl⟩:=List.getElem_of_mem hy;rw [List.getElem_take,List.getElem_drop];have h5:lo<A.length+s:=by omega
  have h6:=(uo (A.length+(s - 1)) (by omega) (by omega)).2 (by omega)
  have h7:=hQ (s - 1) (by omega) (by omega) (by omega)
  rw [h6] at h7;have h8:A.length+s+t+X.length - 1 - (s - 1) - (A.length+X.length)=t:=by omega
  simp only [h8] at h7;have h9:¬(Y[t].day - X[s - 1].day<0):=by grind
  have g1:=iD hX (show i<=s - 1 by omega) (by omega)
  have g2:=iD hY (show t<=t+j by omega) (by omega)
  omega
 have f2:∀ y∈Y.take t,∀ x∈X.drop s,y.day<x.day:=fun y hy x hx=>by
  obtain ⟨i,gw,rfl⟩:=List.getElem_of_mem hx;obtain ⟨j,hj,rfl⟩:=List.getElem_of_mem hy;rw [List.getElem_take,List.getElem_drop];have h5:A.length+s<hi:=by omega
  have h6:=uo (A.length+s) (by omega) (by omega)
  have h7:=hQ s (by omega) (by omega) (by omega)
  have h8:A.length+s+t+X.length - 1 - s - (A.length+X.length)=t - 1:=by omega
  simp only [h8] at h7
  have h9:Y[t - 1].day - X[s].day<0:=by
   grind
  have g1:=iD hX (show s<=s+i by omega) (by omega)
  have g2:=iD hY (show j<=t - 1 by omega) (by omega)
  omega
 simp only [cP,aQ]
 have he:wr (wr (((A.length+s+t:Nat):Int)+((A.length+X.length:Nat):Int)) - ((A.length+s:Nat):Int))=((A.length+X.length+t:Nat):Int):=by
  rw [bJ (x:=((A.length+s+t:Nat):Int)+((A.length+X.length:Nat):Int)) (by omega) (by omega),bJ (by omega) (by omega)];omega
 have Ap:wr (((A.length+X.length:Nat):Int) - ((A.length+s:Nat):Int))=((X.drop s).length:Int):=by rw [bJ (by omega) (by omega),l2];omega
 have Nv:wr (((A.length+X.length+t:Nat):Int) - ((A.length+X.length:Nat):Int))=((Y.take t).length:Int):=by rw [bJ (by omega) (by omega),l3];omega
 simp only [he,Ap,Nv];rw [aJm,bC];simp only [fK]
 have e0:A++X++Y++C=(A++X.take s)++X.drop s++Y.take t++(Y.drop t++C):=by
  grind
 have Hw:∀ (R:Option Ou),(X.drop s≠[]->Y.take t≠[]->R=some (.nx [.row 13 (((A++X.take s)++Y.take t++X.drop s++(Y.drop t++C)).map Dd.cv)]))->aA (decide (((A.length+s:Nat):Int)<((A.length+X.length:Nat):Int))&&decide (((A.length+X.length:Nat):Int)<((A.length+X.length+t:Nat):Int))) R (some (.nx [.row 13 ((A++X++Y++C).map Dd.cv)]))=some (.nx [.row 13 (((A++X.take s)++Y.take t++X.drop s++(Y.drop t++C)).map Dd.cv)]):=fun R hR=>by
  by_cases q1:s<X.length
  ·by_cases q2:0<t
   ·rw [decide_eq_true (by omega),decide_eq_true (by omega),Bool.and_self,bE]
    exact hR (List.length_pos_iff.1 (by omega)) (List.length_pos_iff.1 (by omega))
   ·have:Y.take t=[]:=List.length_eq_zero_iff.1 (by omega)
    rw [decide_eq_false (by omega:¬(((A.length+X.length:Nat):Int)<((A.length+X.length+t:Nat):Int))),Bool.and_false,aX,e0,this]
    simp
  ·have:X.drop s=[]:=List.length_eq_zero_iff.1 (by omega)
   simp_all
 refine aAN (Hw _ fun q1 q2=>?rot) ?rest
 case rot =>
  have:=NI (mm:=((A.length+X.length:Nat):Int)) ((X.drop s).length+(Y.take t).length) (A++X.take s) (X.drop s) (Y.take t) (Y.drop t++C) (Nat.le_refl _) q1 q2 (by grind) (by grind)
  grind
 rw [aJm,bC];simp only [fK,bW]
 have j0:((A++X.take s)++Y.take t++X.drop s++(Y.drop t++C)).Perm (A++X++Y++C):=by
  rw [e0,List.append_assoc (A++X.take s),List.append_assoc (A++X.take s) (X.drop s)];exact (List.perm_append_comm.append_left _).append_right _
 have ve:=hd.perm j0
 have C4:aA (decide ((A.length:Int)<((A.length+s:Nat):Int))&&decide (((A.length+s:Nat):Int)<((A.length+s+t:Nat):Int))) (aB (M 217 [.row 13 (((A++X.take s)++Y.take t++X.drop s++(Y.drop t++C)).map Dd.cv),.fn 56 [],ci (A.length:Int),ci ((A.length+s:Nat):Int),ci ((A.length+s+t:Nat):Int),.fn 172 []]) fun v5=>chk (pG 13 false v5)<|some (.nx [CV.row 13 (gr v5 0)])) (some (.nx [.row 13 (((A++X.take s)++Y.take t++X.drop s++(Y.drop t++C)).map Dd.cv)]))=some (.nx [.row 13 ((A++aD leD (X.take s++Y.take t)++X.drop s++Y.drop t++C).map Dd.cv)]):=by
  by_cases q:0<s/\0<t
  ·rw [decide_eq_true (by omega),decide_eq_true (by omega),Bool.and_self,bE]
   have hh:=hR A (X.take s) (Y.take t) (X.drop s++(Y.drop t++C)) (A.length:Int) ((A.length+s:Nat):Int) ((A.length+s+t:Nat):Int) ⟨List.length_pos_iff.1 (by omega),List.length_pos_iff.1 (by omega),z5.1,zb.1,by rw [<- List.append_assoc];exact ve,by simp only [List.length_append];omega,rfl,by rw [l1],by rw [l1,l3]⟩ (by omega)
   rw [<- List.append_assoc] at hh;rw [hh,aC,pL,aJ,bW];simp only [List.append_assoc]
  ·have Hx:aD leD (X.take s++Y.take t)=X.take s++Y.take t:=by
    by_cases q1:0<s
    ·have:Y.take t=[]:=List.length_eq_zero_iff.1 (by omega)
     rw [this,List.append_nil];exact zN z5.1
    ·have:X.take s=[]:=List.length_eq_zero_iff.1 (by omega)
     rw [this,List.nil_append];exact zN zb.1
   have:(decide ((A.length:Int)<((A.length+s:Nat):Int))&&decide (((A.length+s:Nat):Int)<((A.length+s+t:Nat):Int)))=false:=by
    rw [Bool.and_eq_false_iff,decide_eq_false_iff_not,decide_eq_false_iff_not];omega
   rw [this,aX,Hx];simp only [List.append_assoc]
 refine aAN C4 ?_;rw [aJm,bC];simp only [fK,bW];have l5:(aD leD (X.take s++Y.take t)).length=s+t:=by rw [(aU leD _).length_eq,List.length_append];omega
 have A6:(A++aD leD (X.take s++Y.take t)++X.drop s++Y.drop t++C).Perm (A++X++Y++C):=by
  refine List.Perm.trans ?_ j0;simp only [List.append_assoc];refine List.Perm.append_left _ ?_;rw [<- List.append_assoc (X.take s)];exact (aU leD _).append_right _
 have qm:aD leD (X.take s++Y.take t)++aD leD (X.drop s++Y.drop t)=aD leD (X++Y):=by
  refine XA (fun d=>?_) fun x hx y hy=>?_
  ·have h1:(X++Y)=X.take s++(X.drop s++Y.take t)++Y.drop t:=by
    rw [<- List.append_assoc,eX,List.append_assoc,eY]
   have h2:X.take s++Y.take t++(X.drop s++Y.drop t)=X.take s++(Y.take t++X.drop s)++Y.drop t:=by simp only [List.append_assoc]
   have h3:=tM (X:=Y.take t) (Y:=X.drop s) (fun y hy x hx=>by have:=f2 y hy x hx;omega) d
   rw [List.filter_append,List.filter_append] at h3;rw [h1,h2];simp only [List.filter_append];rw [h3]
  ·rcases List.mem_append.1 hx with hx | hx <;> rcases List.mem_append.1 hy with hy | hy
   ·exact z5.2.2 x hx y hy
   ·exact f1 x hx y hy
   ·exact Int.le_of_lt (f2 x hx y hy)
   ·exact zb.2.2 x hx y hy
 have zc:aA (decide (((A.length+s+t:Nat):Int)<((A.length+X.length+t:Nat):Int))&&decide (((A.length+X.length+t:Nat):Int)<((A.length+X.length+Y.length:Nat):Int))) (aB (M 217 [.row 13 ((A++aD leD (X.take s++Y.take t)++X.drop s++Y.drop t++C).map Dd.cv),.fn 56 [],ci ((A.length+s+t:Nat):Int),ci ((A.length+X.length+t:Nat):Int),ci ((A.length+X.length+Y.length:Nat):Int),.fn 172 []]) fun v5=>chk (pG 13 false v5)<|some (.nx [CV.row 13 (gr v5 0)])) (some (.nx [.row 13 ((A++aD leD (X.take s++Y.take t)++X.drop s++Y.drop t++C).map Dd.cv)]))=some (.nx [.row 13 ((A++aD leD (X++Y)++C).map Dd.cv)]):=by
  by_cases q:s<X.length/\t<Y.length
  ·rw [decide_eq_true (by omega),decide_eq_true (by omega),Bool.and_self,bE]
   have hh:=hR (A++aD leD (X.take s++Y.take t)) (X.drop s) (Y.drop t) C ((A.length+s+t:Nat):Int) ((A.length+X.length+t:Nat):Int) ((A.length+X.length+Y.length:Nat):Int) ⟨List.length_pos_iff.1 (by omega),List.length_pos_iff.1 (by omega),z5.2.1,zb.2.1,hd.perm A6,by simp only [List.length_append,l5];omega,by simp only [List.length_append,l5];omega,by simp only [List.length_append,l5];omega,by simp only [List.length_append,l5];omega⟩ (by omega)
   rw [hh,aC,pL,aJ,bW,List.append_assoc A,qm]
  ·have Hx:aD leD (X.drop s++Y.drop t)=X.drop s++Y.drop t:=by
    by_cases q1:s<X.length
    ·have:Y.drop t=[]:=List.length_eq_zero_iff.1 (by omega)
     rw [this,List.append_nil];exact zN z5.2.1
    ·have:X.drop s=[]:=List.length_eq_zero_iff.1 (by omega)
     rw [this,List.nil_append];exact zN zb.2.1
   have:(decide (((A.length+s+t:Nat):Int)<((A.length+X.length+t:Nat):Int))&&decide (((A.length+X.length+t:Nat):Int)<((A.length+X.length+Y.length:Nat):Int)))=false:=by
    rw [Bool.and_eq_false_iff,decide_eq_false_iff_not,decide_eq_false_iff_not];omega
   rw [this,aX,<- qm,Hx];simp only [List.append_assoc]
 refine aAN zc ?_;rw [bW]
theorem aHN {A X Y C:List Dd} {a m b:Int} (hR:aIu M (X.length+Y.length)) (h:Mg A X Y C a m b):yP M a m b ((A++X++Y++C).map Dd.cv)=some (.ret [.row 13 ((A++aD leD (X++Y)++C).map Dd.cv)]):=by
 by_cases hX:X.length=1
 ·obtain ⟨x,rfl⟩:=List.length_eq_one_iff.1 hX
  exact mg1 hM h
 ·by_cases hY:Y.length=1
  ·obtain ⟨y,rfl⟩:=List.length_eq_one_iff.1 hY
   exact mg2 hM h hX
  ·exact mg3 hM hR h hX hY
end
end Go.Proofs.YtfgdfpnkhdlmfaaGreat
namespace Go.Proofs.YtfgdfpnkhdlmfaaGreat
open Go Go.Sx Go.Stint
set_option maxRecDepth 100000
noncomputable section
open Classical in
def cIt (S:List CV->List CV->Prop) (caps:List CV):Option (List CV):=if h:∃ o,S caps o then some (Classical.choose h) else none
variable {S:List CV->List CV->Prop} {caps o:List CV}
theorem vP (h:S caps o) (hu:∀ o',S caps o'->o'=o):cIt S caps=some o:=by
 have h1:∃ o,S caps o:=⟨o,h⟩;unfold cIt;grind
theorem nE (h:cIt S caps=some o):S caps o:=by
 unfold cIt at h;split at h
 ·grind
 grind
theorem UO:∀ {l m:List Dd},l.map Dd.cv=m.map Dd.cv->l=m
 | [],[],_=>rfl
 | [],_::_,h=>by grind
 | _::_,[],h=>by grind
 | x::l,y::m,h=>by
  simp only [List.map_cons,List.cons.injEq] at h;rw [UO h.2];congr 1;cases x;cases y;simpa [Dd.cv,ci] using h.1
theorem vQ {a b:Int} (h:ci a=ci b):a=b:=by grind [ci]
def NJ [Ghost] (f:Nat) (it:List CV->Option (List CV)):Prop:=∀ caps out,it caps=some out ->
 (∀ rows sh,out=[.row 0 rows,shC sh]->iI Tryz.prog f=true/\QH Tryz.prog f caps sh (tI rows)) /\
 (∀ k es T,out=[.row k es,.fn T []]->iI Tryz.prog f=true/\PJ Tryz.prog f (caps.map .cv) T k es) /\
 (∀ T k cs es es' hdr,caps=.row k es::.fn T []::cs->out=[.row k es',.val (.bool hdr)]->iI Tryz.prog f=true/\OG Tryz.prog f T k cs es es' hdr) /\
 (∀ k T by_,caps=[]->out=[.row k [],.fn T [],.fn by_ []]->iI Tryz.prog f=true/\aDP Tryz.prog f T k by_) /\
 (∀ T fs,caps=.fn T []::fs.map (fun g=>.fn g [])->out=[.fn 0 []]->iI Tryz.prog f=true/\aCd Tryz.prog f T fs)
variable {it:List CV->Option (List CV)}
theorem uJ [Ghost] {f:Nat} (h:∀ caps out,it caps=some out->∃ k T es cs es' hdr,caps=.row k es::.fn T []::cs/\out=[.row k es',.val (.bool hdr)]/\iI Tryz.prog f=true/\OG Tryz.prog f T k cs es es' hdr):NJ f it:=by
 intro caps out ho;obtain ⟨k,T,es,cs,es',hdr,rfl,rfl,he,hm⟩:=h caps out ho;refine ⟨fun rows sh hr=>by cases sh <;> simp [shC] at hr,fun k e T hr=>by grind,fun T k cs1 e e' hd h1 h2=>?_,fun k T b h1=>by simp,fun T fs h1=>by simp⟩
 grind
theorem NK [Ghost] {f:Nat} (h:∀ caps out,it caps=some out->(∀ k es T cs,caps≠.row k es::.fn T []::cs)/\∃ rows sh,out=[.row 0 rows,shC sh]/\caps≠[]/\iI Tryz.prog f=true/\QH Tryz.prog f caps sh (tI rows)/\∃ x,shC sh=.row 0 x):NJ f it:=by
 intro caps out ho;grind [aBm]
def aHO (caps out:List CV):Prop:=∃ (A B C:List Dd) (a b:Int),a=A.length/\b=((A.length+B.length:Nat):Int)/\Days (A++B++C)/\(A++B++C).length<=1000/\caps=[.row 13 ((A++B++C).map Dd.cv),.fn 56 [],ci a,ci b,.fn 172 []]/\out=[.row 13 ((A++aD leD B++C).map Dd.cv),cb false]
theorem RP {A B C A' B' C':List Dd} (h:A++B++C=A'++B'++C') (h1:A.length=A'.length) (h2:B.length=B'.length):A=A'/\B=B'/\C=C':=by
 rw [List.append_assoc,List.append_assoc] at h;obtain ⟨e1,h⟩:=List.append_inj h h1;obtain ⟨e2,e3⟩:=List.append_inj h h2;grind
theorem aDc {o':List CV} (h:aHO caps o) (h':aHO caps o'):o'=o:=by
 obtain ⟨A,B,C,a,b,ha,hb,-,-,rfl,rfl⟩:=h;obtain ⟨A',B',C',a',b',Bg,cd,-,-,hc,rfl⟩:=h';simp only [List.cons.injEq,CV.row.injEq,true_and,and_true] at hc;obtain ⟨h1,h2,h3⟩:=hc;have h2:=vQ h2;have h3:=vQ h3;obtain ⟨rfl,rfl,rfl⟩:=RP (UO h1) (by omega) (by omega)
 rfl
def aIv:List CV->Option (List CV):=cIt aHO
theorem YB {its:ITS} (h:mM ghT its=none) (n:Nat) (vs:List CV):D its n ghT vs=none:=aAm ⟨by rfl,h⟩ n vs
theorem cmpD (its:ITS) (n:Nat):Cmp (D its (n+1)):=fun x y=>by
 rfl
theorem NL {its:ITS} (hi:∀ (G:Ghost),@QL G Tryz.prog its) (h1:mM ghT its=none) (h2:its.all (fun e=>decide (e.1<KK))=true) [Ghost] (n:Nat):Fns Tryz.prog sg (D its n):=
 aHh hi ⟨by rfl,h1,h2⟩ aK1 n
theorem aJn [Ghost]:NJ 216 aIv:=uJ fun caps out h=>by
 obtain ⟨A,B,C,a,b,rfl,rfl,hd,hl,rfl,rfl⟩:=nE h;refine ⟨13,56,_,_,_,false,rfl,rfl,by rfl,?_⟩
 refine aBo (fn:=Tryz.f216) (c:=aE Tryz.f216) (fe:=aFz) (dp:=11) (NL (its:=[]) (fun _ e he=>by grind) rfl rfl 1) (YB rfl 1) (by rfl) (by rfl) (by rfl) (by rfl) ?_
 rw [aJk,aFD (cmpD [] 0) A B C hd hl];rfl
def aFF (k:Nat) (caps out:List CV):Prop:=∃ (A X Y C:List Dd) (a m b:Int),Mg A X Y C a m b/\X.length+Y.length<k/\caps=[.row 13 ((A++X++Y++C).map Dd.cv),.fn 56 [],ci a,ci m,ci b,.fn 172 []]/\out=[.row 13 ((A++aD leD (X++Y)++C).map Dd.cv),cb false]
theorem RQ {k:Nat} {o':List CV} (h:aFF k caps o) (h':aFF k caps o'):o'=o:=by
 obtain ⟨A,X,Y,C,a,m,b,hm,-,rfl,rfl⟩:=h;obtain ⟨A',X',Y',C',a',m',b',ct,-,hc,rfl⟩:=h';simp only [List.cons.injEq,CV.row.injEq,true_and,and_true] at hc;obtain ⟨h1,h2,h3,h4⟩:=hc;have h2:=vQ h2;have h3:=vQ h3;have h4:=vQ h4;have e1:=hm.ea;have e2:=hm.em;have e3:=hm.eb;have e4:=ct.ea;have e5:=ct.em;have e6:=ct.eb;have h1:=UO h1;have h5:(A++X)++Y++C=(A'++X')++Y'++C':=h1;obtain ⟨e7,rfl,rfl⟩:=RP h5 (by grind) (by omega)
 obtain ⟨rfl,rfl⟩:=List.append_inj e7 (by omega)
 rfl
def aFG (k:Nat):List CV->Option (List CV):=cIt (aFF k)
theorem aFH:∀ (k:Nat) (G:Ghost),NJ 217 (aFG k)
 | 0,_=>uJ fun caps out h=>by
  obtain ⟨A,X,Y,C,a,m,b,hm,hk,-⟩:=nE h;omega
 | k+1,G=>uJ fun caps out h=>by
  obtain ⟨A,X,Y,C,a,m,b,hm,hk,rfl,rfl⟩:=nE h;refine ⟨13,56,_,_,_,false,rfl,rfl,by rfl,?_⟩
  have Nw:∀ (G:Ghost),@QL G Tryz.prog [(217,aFG k)]:=fun G e he=>by
   simp at he;subst he;exact aFH k G
  refine aBo (fn:=Tryz.f217) (c:=aE Tryz.f217) (fe:=aFA) (dp:=11) (NL Nw rfl rfl 1) (YB rfl 1) (by rfl) (by rfl) (by rfl) (by rfl) ?_
  rw [aJl,aHN (cmpD _ 0) ?_ hm]
  ·rfl
  ·intro A' X' Y' C' a' m' b' ct jp
   exact vP (S:=aFF k) ⟨A',X',Y',C',a',m',b',ct,by omega,rfl,rfl⟩ fun o ho=>RQ ⟨A',X',Y',C',a',m',b',ct,by omega,rfl,rfl⟩ ho
end
end Go.Proofs.YtfgdfpnkhdlmfaaGreat
namespace Go.Proofs.YtfgdfpnkhdlmfaaGreat
open Go Go.Sx Go.Stint
set_option maxRecDepth 100000
set_option maxHeartbeats 0
noncomputable section
def aAO:FE:=⟨52,[],.two (.reg [] [0,1,2,4] none []) (.two (.two (.reg [] [0,1,2,4,13,14,15] none []) (.blk ⟨[0],[(4,.own 1)],[],[(1,56,13,none)]⟩ (.lp [.mk 4 56 13] ⟨[0,1,2,13,14],[(4,.own 1),(15,.lf li)],[],[(1,56,13,none)]⟩ (.two (.reg [] [0,1,2,4,13,14,15,16] none []) (.two (.cond none (.nil) (.nil)) (.two (.thru (.two (.reg [] [0,1,2,4,6,13,14,15] none []) (.two (.reg [] [0,1,2,4,7,13,14,15] none []) (.two (.reg [] [] (some ⟨[0,1,2,4,7,13,14,15],[(33,.lf lb)],[],[]⟩) []) (.cond (some ⟨[0,1,2,13,14,15],[(4,.own 1)],[],[(1,56,13,none)]⟩) (.reg [] [0,1,2,4,13,14,15] none []) (.nil)))))) (.reg [] [0,1,2,4,13,14,15] none []))))))) (.two (.reg [] [0,4] none [(some 40,⟨[0,4],[],[],[(1,56,13,some 0)]⟩,.reg [] [] none [(some 8,⟨[],[],[],[(1,56,13,some 0)]⟩,.two (.reg [] [0,1,2,6] none []) (.two (.reg [] [0,1,2,6,7,8] none []) (.two (.blk ⟨[0,1,2,6],[(7,.lf li)],[],[(1,56,13,some 0)]⟩ (.lp [] ⟨[0,1,2,6],[(7,.lf li),(8,.lf li)],[],[(1,56,13,some 0)]⟩ (.two (.two (.reg [] [0,1,2,6,7,8,13] none []) (.cond none (.nil) (.nil))) (.thru (.two (.reg [] [0,1,2,6,8] none [(some 18,⟨[],[],[],[]⟩,.mt false)]) (.two (.reg [] [0,1,2,6,7,8] none []) (.reg [] [0,1,2,6,7,8] none []))))))) (.two (.reg [] [0,1,2,6] none [(some 27,⟨[],[],[],[]⟩,.mt false)]) (.blk ⟨[],[],[],[(1,56,13,some 0)]⟩ (.lp [] ⟨[0,1,2],[(6,.lf li)],[],[(1,56,13,some 0)]⟩ (.two (.two (.reg [] [0,1,2,6,30] none []) (.cond none (.nil) (.nil))) (.thru (.two (.reg [] [0,1,2,6,7,8] none []) (.two (.blk ⟨[0,1,2,6],[(7,.lf li)],[],[(1,56,13,some 0)]⟩ (.lp [] ⟨[0,1,2,6],[(7,.lf li),(8,.lf li)],[],[(1,56,13,some 0)]⟩ (.two (.two (.reg [] [0,1,2,6,7,8,35] none []) (.cond none (.nil) (.nil))) (.thru (.two (.reg [] [0,1,2,6,8] none [(some 43,⟨[],[],[],[]⟩,.mt false)]) (.two (.reg [] [0,1,2,6,7,8] none []) (.reg [] [0,1,2,6,7,8] none []))))))) (.two (.two (.reg [] [0,1,2,6,7,9] none []) (.two (.reg [] [0,1,2,6,7,9,54] none []) (.cond (some ⟨[0,1,2,6],[],[],[(1,56,13,some 0)]⟩) (.reg [] [0,1,2,6] none [(some 60,⟨[],[],[],[]⟩,.mt false)]) (.nil)))) (.reg [] [0,1,2,6] none []))))))))))))])]) (.two (.reg [] [0,41,42,43] none []) (.blk ⟨[],[],[],[(0,1048576,0,some 0)]⟩ (.lp [] ⟨[0,41,42],[(43,.lf li)],[],[(0,1048576,0,some 0)]⟩ (.two (.reg [] [0,41,42,43,44] none []) (.two (.cond none (.nil) (.nil)) (.two (.thru (.two (.reg [] [0,9,41,42,43] none []) (.two (.reg [] [0,41,42,43,50] none [(some 49,⟨[],[],[],[]⟩,.yl (.clo [.agg liA]))]) (.cond none (.nil) (.nil))))) (.reg [] [0,41,42,43] none []))))))))),⟨[],[]⟩⟩
def aFI:FE:=⟨19,[],.two (.reg [] [0,1,3] none []) (.blk ⟨[],[],[],[(0,1048576,0,some 0)]⟩ (.lp [] ⟨[0,1],[(3,.lf li)],[],[(0,1048576,0,some 0)]⟩ (.two (.two (.reg [] [0,1,3,8] none []) (.cond none (.nil) (.nil))) (.two (.thru (.two (.reg [] [0,1,3,18] none [(some 17,⟨[],[],[],[]⟩,.yl (.clo [.one li,.agg liA]))]) (.cond none (.nil) (.nil)))) (.reg [] [0,1,3] none []))))),⟨[],[]⟩⟩
def aFJ:FE:=⟨19,[],.two (.reg [] [0,1,3] none []) (.blk ⟨[],[],[],[(0,1048576,0,some 0)]⟩ (.lp [] ⟨[0,1],[(3,.lf li)],[],[(0,1048576,0,some 0)]⟩ (.two (.two (.reg [] [0,1,3,8] none []) (.cond none (.nil) (.nil))) (.two (.thru (.two (.reg [] [0,1,3,18] none [(some 17,⟨[],[],[],[]⟩,.yl (.clo [.one li,.agg liA]))]) (.cond none (.nil) (.nil)))) (.reg [] [0,1,3] none []))))),⟨[],[]⟩⟩
def aFK (ds:List (List CV)) (d:Int) (is:List (List CV)):Option Ou:=(aL (fun v1=>aA (decide ((gi v1 0)<(il is))) (chk (inb (gi v1 0) is)<|chk (oks [li] (el is (gi v1 0)) 0)<|chk (inb (gi (el is (gi v1 0)) 0) ds)<|chk (oks liA (el ds (gi (el is (gi v1 0)) 0)) 0)<|aN (aA ((gi (el ds (gi (el is (gi v1 0)) 0)) 2) != 0) (some (.nx [cb (decide ((gi (el ds (gi (el is (gi v1 0)) 0)) 3)<=d))])) (some (.nx [cb false]))) fun v2=>aN (aA (gb v2 0) (chk (cJ (List.length (gr v1 1)) 1 104)<|some (.nx [CV.row 13 ((gr v1 1)++(aS 13 1 (cis (el ds (gi (el is (gi v1 0)) 0)) 0 13)))])) (some (.nx [CV.row 13 (gr v1 1)]))) fun v3=>some (.nx [ci (wr ((gi v1 0)+1)),CV.row 13 (gr v3 0)])) (some (.br 0 [CV.row 13 (gr v1 1)]))) ([ci 0,CV.row 13 []]))
def aFL (M:Den) (es:List (List CV)):Option Ou:=(cD 0 (aL (fun v2=>aA (decide ((gi v2 1)<=(il es))) (aB (M 216 ([CV.row 13 (gr v2 2),CV.fn 56 [],ci (gi v2 0),ci (gi v2 1),CV.fn 172 []])) fun v3=>chk (pG 13 false v3)<|some (.nx [ci (gi v2 1),ci (wr ((gi v2 1)+20)),CV.row 13 (gr v3 0)])) (some (.br 0 [ci (gi v2 0),CV.row 13 (gr v2 2)]))) [ci 0,ci 20,CV.row 13 es]) fun v2=>aB (M 216 ([CV.row 13 (gr v2 1),CV.fn 56 [],ci (gi v2 0),ci (il es),CV.fn 172 []])) fun v3=>chk (pG 13 false v3)<|cD 2 (aL (fun v4=>aA (decide ((gi v4 0)<(il es))) (cD 4 (aL (fun v5=>aA (decide ((gi v5 1)<=(il es))) (aB (M 217 ([CV.row 13 (gr v5 2),CV.fn 56 [],ci (gi v5 0),ci (wr ((gi v5 0)+(gi v4 0))),ci (gi v5 1),CV.fn 172 []])) fun v6=>chk (pG 13 false v6)<|some (.nx [ci (gi v5 1),ci (wr ((gi v5 1)+(wr (2*(gi v4 0))))),CV.row 13 (gr v6 0)])) (some (.br 4 [ci (gi v5 0),CV.row 13 (gr v5 2)]))) [ci 0,ci (wr (2*(gi v4 0))),CV.row 13 (gr v4 1)]) fun v5=>aN (aA (decide ((wr ((gi v5 0)+(gi v4 0)))<(il es))) (aB (M 217 ([CV.row 13 (gr v5 1),CV.fn 56 [],ci (gi v5 0),ci (wr ((gi v5 0)+(gi v4 0))),ci (il es),CV.fn 172 []])) fun v6=>chk (pG 13 false v6)<|some (.nx [CV.row 13 (gr v6 0)])) (some (.nx [CV.row 13 (gr v5 1)]))) fun v6=>some (.nx [ci (wr ((gi v4 0)*2)),CV.row 13 (gr v6 0)])) (some (.br 2 [CV.row 13 (gr v4 1)]))) [ci 20,CV.row 13 (gr v3 0)]) fun v4=>some (.ret [CV.row 13 (gr v4 0)]))
def aAP (M:Den) (l:Nat) (ps bl ds:List (List CV)) (d k:Int) (es:List (List CV)):Option Ou:=aB (M 110 [CV.row 3 ps,CV.row 13 bl,CV.row 13 ds,ci k]) fun v0=>cD 0 (aFK ds d (gr v0 0)) fun v1=>gQ (gQ (aFL M (gr v1 0)) fun v2=>some (.ret [CV.row 13 (gr v2 0)])) fun v2=>cD 2 (aL (fun v3=>aA (decide ((gi v3 0)<(il (gr v2 0)))) (chk (inb (gi v3 0) (gr v2 0))<|chk (decide ((Int.toNat (gi v3 0))<(List.length (gr v2 0))))<|chk (oks liA (el (gr v2 0) (gi v3 0)) 0)<|aB (M 1048576 (cat [[CV.val (Value.func (Fn.yield l) #[] #[]),CV.row 0 ([[dC,ci 0,ci 0,ci 0,ci 0,ci 0,ci 0,ci 0,ci 0,ci 0,ci 0,ci 0,ci 0,ci 0]]),CV.row 0 (gr v3 1)],cis (el (gr v2 0) (gi v3 0)) 0 13])) fun v4=>aA (!(gb v4 0)) (some (.ret [CV.row 0 (gr v4 1)])) (some (.nx [ci (wr ((gi v3 0)+1)),CV.row 0 (gr v4 1)]))) (some (.br 2 [CV.row 0 (gr v3 1)]))) [ci 0,CV.row 0 es]) fun v3=>some (.ret [CV.row 0 (gr v3 0)])
theorem aLx (M:Den) (l:Nat) (ps bl ds:List (List CV)) (d k:Int) (es:List (List CV)):evY Tryz.prog sg M 11 aAO (aE Tryz.f170) l [.ref [.row 3 ps,.row 13 bl,.row 13 ds],.ref [ci d,ci k]] es=aV (aAP M l ps bl ds d k es):=by kernel_rfl
def UP (M:Den) (l:Nat) (ds:List (List CV)) (es:List (List CV)):Option Ou:=cD 0 (aL (fun v0=>aA (decide ((gi v0 0)>=0)) (chk (inb (gi v0 0) ds)<|chk (oks liA (el ds (gi v0 0)) 0)<|aB (M 1048576 (cat [[CV.val (Value.func (Fn.yield l) #[] #[]),CV.row 0 ([[ci 0],[dC,ci 0,ci 0,ci 0,ci 0,ci 0,ci 0,ci 0,ci 0,ci 0,ci 0,ci 0,ci 0,ci 0]]),CV.row 0 (gr v0 1),ci (gi v0 0)],cis (el ds (gi v0 0)) 0 13])) fun v1=>aA (!(gb v1 0)) (some (.ret [CV.row 0 (gr v1 1)])) (some (.nx [ci (wr ((gi v0 0) - 1)),CV.row 0 (gr v1 1)]))) (some (.br 0 [CV.row 0 (gr v0 1)]))) [ci (wr ((il ds) - 1)),CV.row 0 es]) fun v0=>some (.ret [CV.row 0 (gr v0 0)])
theorem aLy (M:Den) (l:Nat) (ds:List (List CV)) (es:List (List CV)):evY Tryz.prog sg M 11 aFI (aE Tryz.f180) l [.ref [.row 13 ds]] es=aV (UP M l ds es):=by kernel_rfl
theorem aLz (M:Den) (l:Nat) (ds:List (List CV)) (es:List (List CV)):evY Tryz.prog sg M 11 aFJ (aE Tryz.f184) l [.ref [.row 13 ds]] es=aV (UP M l ds es):=by kernel_rfl
end
end Go.Proofs.YtfgdfpnkhdlmfaaGreat
namespace Go.Proofs.YtfgdfpnkhdlmfaaGreat
open Go Go.Sx Go.Stint
set_option maxRecDepth 10000
theorem BY {step:List CV->Option Ou} {b:Nat} {rows:List (List CV)} {yf:YF} (T:Nat->List (List CV)->List CV)
  (h1:∀ p (hp:p<rows.length) es,(∀ e,yf es rows[p]=some (true,e)->step (T p es)=some (.nx (T (p+1) e)))/\(∀ e,yf es rows[p]=some (false,e)->step (T p es)=some (.ret [.row 0 e])))
  (h2:∀ es,step (T rows.length es)=some (.br b [.row 0 es])):∀ (d p:Nat) (es es':List (List CV)),p+d=rows.length->tI (rows.drop p) yf es=some es'->aL step (T p es)=some (.br b [.row 0 es'])\/aL step (T p es)=some (.ret [.row 0 es'])
 | 0,p,es,es',hp,h=>by
  have:p=rows.length:=by omega
  subst this;simp [tI] at h;subst h;exact .inl (bH (h2 es) (by simp))
 | d+1,p,es,es',hp,h=>by
  have hlt:p<rows.length:=by omega
  rw [List.drop_eq_getElem_cons hlt] at h;simp [tI] at h;split at h
  ·rename_i e he
   rw [eB ((h1 p hlt es).1 e he)];exact BY T h1 h2 d (p+1) e es' (by omega) h
  ·rename_i e he
   cases h;exact .inr (bH ((h1 p hlt es).2 _ he) (by simp))
  grind
theorem aDd {A:Type} (l:List A) {p:Nat} (hp:p<l.length) (h:p<(eM l).length):(eM l)[p]=(l.length - 1 - p,l[l.length - 1 - p]):=by
 simp [eM]
theorem RR {A:Type} {cvA:A->List CV} {M:Den} {l:Nat} {yf:YF} (L:List A) (hA:∀ a∈L,oks liA (cvA a) 0=true/\cis (cvA a) 0 13=cvA a/\(cvA a).length=13) (hL:L.length<=1000000) (es es':List (List CV))
  (hR:tI ((eM L).map fun e=>ci (e.1:Int)::cvA e.2) yf es=some es'):UP (withY M l shB yf) l (L.map cvA) es=some (.ret [.row 0 es']):=by
 have hy:∀ es x,withY M l shB yf 1048576 (CV.val (.func (.yield l) #[] #[])::CV.row 0 [[ci 0],[dC,ci 0,ci 0,ci 0,ci 0,ci 0,ci 0,ci 0,ci 0,ci 0,ci 0,ci 0,ci 0,ci 0]]::.row 0 es::x)=match yf es x with
   | some (b,es')=>some [cb b,.row 0 es']
   | none=>none:=fun es x=>by
  have:(CV.row 0 [[ci 0],[dC,ci 0,ci 0,ci 0,ci 0,ci 0,ci 0,ci 0,ci 0,ci 0,ci 0,ci 0,ci 0,ci 0]]:CV)=shC shB:=rfl;rw [this];simp [withY];rfl
 have sv:((eM L).map fun e=>ci (e.1:Int)::cvA e.2).length=L.length:=by rw [List.length_map,qE]
 unfold UP
 have key:=BY (b:=0) (rows:=(eM L).map fun e=>ci (e.1:Int)::cvA e.2) (yf:=yf) (fun p es=>[ci ((L.length:Int) - 1 - p),.row 0 es])
  (step:=(fun v0=>aA (decide ((gi v0 0)>=0)) (chk (inb (gi v0 0) (L.map cvA))<|chk (oks liA (el (L.map cvA) (gi v0 0)) 0)<|aB (withY M l shB yf 1048576 (cat [[CV.val (Value.func (Fn.yield l) #[] #[]),CV.row 0 ([[ci 0],[dC,ci 0,ci 0,ci 0,ci 0,ci 0,ci 0,ci 0,ci 0,ci 0,ci 0,ci 0,ci 0,ci 0]]),CV.row 0 (gr v0 1),ci (gi v0 0)],cis (el (L.map cvA) (gi v0 0)) 0 13])) fun v1=>aA (!(gb v1 0)) (some (.ret [CV.row 0 (gr v1 1)])) (some (.nx [ci (wr ((gi v0 0) - 1)),CV.row 0 (gr v1 1)]))) (some (.br 0 [CV.row 0 (gr v0 1)])))) ?h1 ?h2 L.length 0 es es' (by omega) (by grind)
 case h2 =>
  intro es;rw [sv];have h0:¬((L.length:Int) - 1 - (L.length:Int)>=0):=by omega
  simp only [aQ,dZ,bW,h0,decide_false,aX]
 case h1 =>
  intro p hp es;rw [sv] at hp;have hq:L.length - 1 - p<L.length:=by omega
  have hi:(L.length:Int) - 1 - p=((L.length - 1 - p:Nat):Int):=by omega
  have h0:((L.length - 1 - p:Nat):Int)>=0:=by omega
  have fm:((eM L).map fun e=>ci (e.1:Int)::cvA e.2)[p]=ci ((L.length - 1 - p:Nat):Int)::cvA L[L.length - 1 - p]:=by
   rw [List.getElem_map,aDd L hp]
  have hw:wr (((L.length - 1 - p:Nat):Int) - 1)=(L.length:Int) - 1 - ((p+1:Nat):Int):=by grind [bJ]
  have jw:∀ z:List CV,z.length=13->cat [[CV.val (Value.func (Fn.yield l) #[] #[]),CV.row 0 ([[ci 0],[dC,ci 0,ci 0,ci 0,ci 0,ci 0,ci 0,ci 0,ci 0,ci 0,ci 0,ci 0,ci 0,ci 0]]),CV.row 0 es,ci ((L.length - 1 - p:Nat):Int)],z]=CV.val (Value.func (Fn.yield l) #[] #[])::CV.row 0 ([[ci 0],[dC,ci 0,ci 0,ci 0,ci 0,ci 0,ci 0,ci 0,ci 0,ci 0,ci 0,ci 0,ci 0,ci 0]])::CV.row 0 es::(ci ((L.length - 1 - p:Nat):Int)::z):=fun z _=>rfl
  rw [fm,hi];have z6:=hA L[L.length - 1 - p] (List.getElem_mem hq);constructor
  ·intro e he
   simp only [aQ,dZ,bW,h0,decide_true,bE,aG hq,aM hq,z6.1,aJ,z6.2.1,jw _ z6.2.2,hy,he,aC,fK,Bool.not_true,aX,hw]
  ·intro e he
   simp only [aQ,dZ,bW,h0,decide_true,bE,aG hq,aM hq,z6.1,aJ,z6.2.1,jw _ z6.2.2,hy,he,aC,fK,Bool.not_false]
 have ak:([ci (wr ((il (L.map cvA)) - 1)),CV.row 0 es]:List CV)=[ci ((L.length:Int) - 1 - ((0:Nat):Int)),.row 0 es]:=by
  grind [TM,bJ]
 rw [ak];rcases key with h | h <;> rw [h] <;> simp
end Go.Proofs.YtfgdfpnkhdlmfaaGreat
