/-
 The law PenRefuses of the pens of a pound holds at every input, without any condition.
-/
import Derived.KernelRfl
import Derived.Shelf.Slices.Delete
import Derived.Shelf.Slices.In.SortNone
import Derived.Shelf.Sort.Plain
import Derived.Sort.OwnSortedInts
import Derived.Test.YthkfohoccnnphaaProg
import Derived.Test.YthkfohoccnnphaaRows
import Derived.Test.YthkfohoccnnphaaP10
namespace Go.Proofs.Ythkfohoccnnphaa
open Go Go.Sx Go.Pen
set_option maxRecDepth 10000
attribute [local simp] Bool.and_assoc Bool.or_assoc
variable {its:ITS}
theorem aFl (n:Nat) (p c:CV) (l by_:List Int) (h:inR l by_) (hb:by_.length<1000000):D its (n+1) oB [p,.row 1 (ints l),c,.row 1 (ints by_)]=some [.row 1 (ints (ofL l by_))]:=by
 rw [yU]
 unfold oF
 rw [(bP by_ (fun i (_:Unit)=>[ci (i:Int),.row 1 (ints (ofL l (by_.take i)))]) (fun _ _=>()) (fun _ _=>True) 0 (fun _=>[.row 1 (ints (ofL l by_))]) () ?hv trivial ?hs ?he).1]
 case hv=>rfl
 case hs =>
  intro i hi _ _
  refine ⟨?_,trivial⟩
  obtain ⟨h0,h1⟩:=h _ (List.getElem_mem hi)
  obtain ⟨m,hm⟩:∃ m:Nat,by_[i]=m:=⟨by_[i].toNat,by omega⟩
  have hml:m<l.length:=by omega
  have hlt:((i:Int)<(by_.length:Int))=True:=eq_true (by omega)
  have hf:bJ (ints (ofL l (by_.take i))).length 1 8=true:=bL (by rw [aH,cT,List.length_take];omega) (by rw [aH,cT,List.length_take];omega)
  have e:ofL l (by_.take (i+1))=ofL l (by_.take i)++[l[m]]:=by
   rw [← List.take_append_getElem hi,hm]
   unfold ofL
   rw [List.map_append]
   simp [hml]
  rw [e]
  simp only [aL,cA,aF,hlt,decide_true,aB,aG hi,aI hi,li1,aC,hm,aG hml,aI hml,dL,bI,hf,nC,nA,List.take_succ_cons,List.take_zero,cZ,aO (show i<9223372036854775807 by omega)]
 case he =>
  intro _ _
  rw [List.take_length]
  simp only [aL,aF,eq_false (show ¬((by_.length:Int)<(by_.length:Int)) by omega),decide_false,aB,dL,bI]
 ·simp
theorem aAm {y:Yard} (hy:y.ok=true):aJ (SM (pc y)) [ci 0,ci 0]=some (.br 0 [ci (total y)]):=by
 have h5:=(bM hy).1
 rw [(bP y.pens (fun i (s:Int)=>[ci s,ci (i:Int)]) (fun n x=>n+x) (fun i s=>0≤s∧s≤1000*(i:Int)) 0 (fun s=>[ci s]) 0 ?hv ?h0 ?hs ?he).1]
 case hv=>rfl
 case h0=>simp
 case hs =>
  intro i hi s hP
  have hr:=sB hy hi
  have hlt:((i:Int)<(y.pens.length:Int))=True:=eq_true (by omega)
  have hw:wr (s+y.pens[i])=s+y.pens[i]:=by rw [bW] <;> omega
  refine ⟨?_,by omega,by omega⟩
  unfold SM
  simp only [List.drop_zero,rD,cA,aL,eV,hlt,decide_true,aB,nF hi,tT hi,li1,aC,hw,aO (show i<9223372036854775807 by omega)]
 case he =>
  intro s _
  unfold SM
  simp only [List.drop_zero,rD,cA,aL,eV,eq_false (show ¬((y.pens.length:Int)<(y.pens.length:Int)) by omega),decide_false,aB]
 ·rfl
theorem SW {h:CV→Option (List CV)} {r:List CV} (hh:∀ c,h c=some r) (K:List CV→Option Ou):KJ h K=K r:=by
 unfold KJ
 rw [if_pos (fun c=>by rw [hh c,hh dC]),hh dC];rfl
theorem MY (f:Bool→List CV) (n:Nat) {y:Yard} (hy:y.ok=true) {l:List Int} (hl:∀ s∈l,1≤s∧s≤9) {by_:List Int} (hb:inR l by_) (hbl:by_.length<1000000) :
  SN f (D its (n+2)) (pc y) (ints l) (ints by_)=some (.ret (f (nH y l by_))):=by
 unfold SN
 rw [List.drop_zero,List.drop_zero,CG,aC,aAm hy,bR,SW (fun c=>aFl (n+1) _ c l by_ hb hbl)]
 simp only [bI]
 rw [w_room (n+1) hy (ofL l by_) (fun s hs=>hl s (zI hb hs)) (by rw [cT];omega)]
 rfl
theorem MZ (n:Nat) {y:Yard} (hy:y.ok=true) {l:List Int} (hl:∀ s∈l,1≤s∧s≤9) {by_:List Int} (hb:inR l by_) (hbl:by_.length<1000000) :
  ZR (D its (n+2)) (pc y) (ints l) (ints by_)=some (.ret [cb (nH y l by_)]):=MY (fun b=>[cb b]) n hy hl hb hbl
theorem CL (hI:ItsM its) (n:Nat) {y:Yard} (hy:y.ok=true) {l:List Int} (hl:∀ s∈l,1≤s∧s≤9):∀ (k:Nat) (by_:List Int),inR l by_→by_.length≤8→k≤by_.length →
  aJ (MG (D its (n+2)) (pc y) (ints l)) [.row 1 (ints by_),ci ((k:Int) - 1)]=some (.br 0 [.row 1 (ints (least (nH y l) k by_))])
 | 0,by_,_,_,_=>by
  refine bE ?_ (by simp)
  unfold MG
  simp only [cA,aL,eq_false (show ¬(((0:Nat):Int) - 1≥0) by omega),decide_false,aB,bI,least]
 | k+1,by_,hb,h8,hk=>by
  have e:(((k+1:Nat):Int) - 1)=(k:Int):=by omega
  have hd:=hI.del (n+1) by_ k (by omega) (by omega)
  have hm:=MZ (its:=its) n hy hl (gN hb k) (by have:=List.length_eraseIdx_le by_ k;omega)
  have hstep:MG (D its (n+2)) (pc y) (ints l) [.row 1 (ints by_),ci (((k+1:Nat):Int) - 1)]=some (.nx [.row 1 (ints (if nH y l (by_.eraseIdx k)=true then by_.eraseIdx k else by_)),ci ((k:Int) - 1)]):=by
   unfold MG
   have hw:wr ((k:Int) - 1)=(k:Int) - 1:=by rw [bW] <;> omega
   simp only [e,cA,aL,eq_true (show ((k:Int)≥0) by omega),decide_true,aB,bI,aH,IL h8,bS,aO (show k<9223372036854775807 by omega),hd,aD,hw]
   rw [show rR 1 true [CV.row 1 (ints (by_.eraseIdx k)),CV.val (.bool true)]=true from rfl,aC,hm,bS,bD]
   cases nH y l (by_.eraseIdx k) <;> rfl
  rw [dP hstep]
  simp only [least]
  refine CL hI n hy hl k _ ?_ ?_ ?_
  ·split
   ·exact gN hb k
   ·exact hb
  ·split
   ·have:=List.length_eraseIdx_le by_ k;omega
   ·exact h8
  ·split
   ·rw [List.length_eraseIdx_of_lt (by omega)];omega
   ·omega
theorem NA (y:Yard) (s:Int):(y.pens.findIdx? fun n=>decide (rm y s≤n))=none↔fW y s=true:=by
 rw [nP]
 unfold fW
 rw [Bool.eq_false_iff,List.all_eq_true]
 simp [List.any_eq_true]
theorem SX (f:Bool→List CV) {y:Yard} (hy:y.ok=true) {l:List Int} (hl:∀ s∈l,1≤s∧s≤9) {by_:List Int} (hb:inR l by_):aBD f (pc y) (ints l) (ints by_)=some (.ret (f (big y l by_))):=by
 unfold aBD big
 by_cases h1:by_.length=1
 ·match by_,h1 with
  | [i],_ =>
   obtain ⟨h0,hi⟩:=hb i (by simp)
   obtain ⟨m,rfl⟩:∃ m:Nat,i=m:=⟨i.toNat,by omega⟩
   have hm:m<l.length:=by omega
   have h9:=hl _ (List.getElem_mem hm)
   have h5:=(bM hy).1
   obtain ⟨k1,k2⟩:=nQ hy (s:=l[m]) (by omega) (by omega) (c:=1) (by omega)
   have hil:(il (ints [((m:Nat):Int)]) == 1)=true:=rfl
   rw [hil]
   simp only [aB,List.drop_zero,CG,aC]
   rw [kU (fun n=>decide (rm y l[m]≤n)) y.pens (fun i=>some (.ret [ci (i:Int)])) (some (.br 0 [])) (fun i=>[ci (i:Int)]) ?hv ?hR ?hX (fun i hi hp=>?h1) (fun i hi hp=>?h2) ?h3]
   case hv=>rfl
   case hR=>simp
   case hX=>simp
   case h3 =>
    unfold SL
    simp only [List.drop_zero,rD,aL,eV,eq_false (show ¬((y.pens.length:Int)<(y.pens.length:Int)) by omega),decide_false,aB]
   all_goals
    have e0:inb 0 (ints [((m:Nat):Int)])=true:=rfl
    have e1:(ints [((m:Nat):Int)]).getD 0 []=[ci ((m:Nat):Int)]:=rfl
    have k5:((0:Int)≤l[m])=True:=eq_true (by omega)
    have k7:(l[m]<Int.ofNat 10)=True:=eq_true (by show l[m]<10;omega)
   case h1 =>
    have hp':(rm y l[m]≤y.pens[i])=False:=eq_false (by simpa using hp)
    unfold SL
    simp only [List.drop_zero,rD,aL,eV,eq_true (show ((i:Int)<(y.pens.length:Int)) by omega),decide_true,aB,nF hi,tT hi,li1,aC,e0,e1,aG hm,aI hm,k5,k7,Bool.and_self,k1,k2,zO,hp',decide_false,bS,bD,aO (show i<9223372036854775807 by omega)]
   case h2 =>
    have hp':(rm y l[m]≤y.pens[i])=True:=eq_true (by simpa using hp)
    unfold SL
    simp only [List.drop_zero,rD,aL,eV,eq_true (show ((i:Int)<(y.pens.length:Int)) by omega),decide_true,aB,nF hi,tT hi,li1,aC,e0,e1,aG hm,aI hm,k5,k7,Bool.and_self,k1,k2,zO,hp',bS,bD]
   ·have hfb:=NA y l[m]
    have hd:l.getD (([((m:Nat):Int)]:List Int).headD 0).toNat 0=l[m]:=by simp [hm]
    rw [hd]
    cases hf:y.pens.findIdx? (fun n=>decide (rm y l[m]≤n)) with
    | none=>rw [hfb.1 hf];rfl
    | some i =>
     have:fW y l[m]=false:=by
      cases hc:fW y l[m] with
      | false=>rfl
      | true=>rw [hfb.2 hc] at hf;cases hf
     rw [this]
     simp
 ·have hil:(il (ints by_) == 1)=false:=by simp;omega
  rw [hil]
  simp only [aB,decide_eq_false h1,Bool.false_and]
theorem aBV {y:Yard} (hy:y.ok=true) {l:List Int} (hl:∀ s∈l,1≤s∧s≤9) {by_:List Int} (hb:inR l by_):aEV (pc y) (ints l) (ints by_)=some (.ret [cb (big y l by_)]):=SX (fun b=>[cb b]) hy hl hb
theorem aBW (n:Nat) (a b:Int):D its (n+1) xP [ci a,ci b]=some [.fn 121 [.ref [ci b],.ref [ci a]]]:=by
 rw [MD];rfl
theorem FM {y:Yard} (hy:y.ok=true) {l:List Int} (hl:∀ s∈l,1≤s∧s≤9):∀ (rows:List (List Int)) (a b:Int) (c:CV),(∀ x∈rows,inR l x) →
  (match rows.find? (big y l) with
   | some x=>bZ (yC (pc y) (ints l)) (rows.map yl) [ci a,c,ci b]=some (.ret [ci 1,.row 1 (ints x),ci 0])
   | none=>∃ c',bZ (yC (pc y) (ints l)) (rows.map yl) [ci a,c,ci b]=some (.nx [ci a,c',ci b]))
 | [],a,b,c,_=>⟨c,rfl⟩
 | x::rows,a,b,c,h=>by
  have hb:=aBV hy hl (h x (by simp))
  cases hp:big y l x with
  | true =>
   rw [List.find?_cons_of_pos hp]
   simp only [List.map_cons,bZ]
   unfold yC
   simp only [yl,bI,hb,bS,bD,hp,aB]
  | false =>
   rw [List.find?_cons_of_neg (by simp [hp])]
   have ih:=FM hy hl rows a b (.row 1 (cR c)) fun z hz=>h z (by simp [hz])
   have e:bZ (yC (pc y) (ints l)) ((x::rows).map yl) [ci a,c,ci b]=bZ (yC (pc y) (ints l)) (rows.map yl) [ci a,.row 1 (cR c),ci b]:=by
    simp only [List.map_cons,bZ]
    have:yC (pc y) (ints l) (yl x) [ci a,c,ci b]=some (.nx [ci a,.row 1 (cR c),ci b]):=by
     unfold yC
     simp only [yl,bI,hb,bS,bD,hp,aB]
     rfl
    rw [this]
   rw [e]
   exact ih
theorem CM (f:Bool→List CV) (n:Nat) {y:Yard} (hy:y.ok=true) {l:List Int} (hl:∀ s∈l,1≤s∧s≤9) {by_:List Int} (hb:inR l by_) (hbl:by_.length<1000000) {i:Nat} (hi:i<by_.length) :
  aJ (MH f (D its (n+1)) (pc y) (ints l) (ints by_) (i:Int)) [ci 0]=if ((List.range i).all fun j=>apt y ((ofL l by_).getD i 0) ((ofL l by_).getD j 0))=true then some (.br 2 []) else some (.ret (f false)):=by
 have hget:∀ j,j<by_.length→∃ m:Nat,by_[j]? = some (m:Int)∧m<l.length∧(ofL l by_).getD j 0=l.getD m 0:=by
  intro j hj
  obtain ⟨h0,h1⟩:=hb _ (List.getElem_mem hj)
  refine ⟨by_[j].toNat,?_,by omega,?_⟩
  ·rw [List.getElem?_eq_getElem hj];congr 1;omega
  ·simp [ofL,hj]
 obtain ⟨mi,hmi,hmil,hoi⟩:=hget i hi
 have hmi':by_[i]=(mi:Int):=by rw [List.getElem?_eq_getElem hi] at hmi;exact Option.some.inj hmi
 have htl:(by_.take i).length=i:=by rw [List.length_take];omega
 have hst:∀ j,j<i→MH f (D its (n+1)) (pc y) (ints l) (ints by_) (i:Int) [ci (j:Int)]=if apt y ((ofL l by_).getD i 0) ((ofL l by_).getD j 0)=true then some (.nx [ci ((j+1:Nat):Int)]) else some (.ret (f false)):=by
  intro j hj
  obtain ⟨mj,hmj,hmjl,hoj⟩:=hget j (by omega)
  have hjt:j<(by_.take i).length:=by omega
  have hmj':(by_.take i)[j]=(mj:Int):=by
   rw [List.getElem_take]
   rw [List.getElem?_eq_getElem (by omega)] at hmj
   exact Option.some.inj hmj
  have hdi:l.getD mi 0=l[mi]:=by simp [hmil]
  have hdj:l.getD mj 0=l[mj]:=by simp [hmjl]
  rw [hoi,hoj,hdi,hdj]
  have hpa:=aBK (its:=its) n hy (hl _ (List.getElem_mem hmil)) (hl _ (List.getElem_mem hmjl))
  unfold MH
  simp only [aL,List.drop_zero,Int.toNat_natCast,vX,aF,htl,eq_true (show ((j:Int)<(i:Int)) by omega),decide_true,aB,aG hjt,aI hjt,li1,aC,hmj',aI hi,hmi',aG hmil,aI hmil,aG hmjl,aI hmjl,hpa,aD,bD,aO (show j<9223372036854775807 by omega)]
  cases apt y l[mi] l[mj] <;> rfl
 rw [dI i (fun j=>[ci (j:Int)]) (fun j=>!apt y ((ofL l by_).getD i 0) ((ofL l by_).getD j 0)) (fun _=>some (.ret (f false))) (some (.br 2 [])) ?hv ?hR ?hX (fun j hj hp=>?s1) (fun j hj hp=>?s2) ?s3]
 case hv=>rfl
 case hR=>simp
 case hX=>simp
 case s3 =>
  unfold MH
  simp only [aL,List.drop_zero,Int.toNat_natCast,vX,aF,htl,eq_false (show ¬((i:Int)<(i:Int)) by omega),decide_false,aB]
 case s1=>rw [hst j hj,if_pos (by simpa using hp)]
 case s2=>rw [hst j hj,if_neg (by simpa using hp)]
 ·cases hf:(List.range i).find? (fun j=>!apt y ((ofL l by_).getD i 0) ((ofL l by_).getD j 0)) with
  | none =>
   rw [List.find?_eq_none] at hf
   rw [if_pos]
   rw [List.all_eq_true]
   intro j hj
   have:=hf j hj
   simpa using this
  | some j =>
   have h1:=List.find?_some hf
   have h2:=List.mem_of_find?_eq_some hf
   rw [if_neg]
   intro hc
   rw [List.all_eq_true] at hc
   rw [hc j h2] at h1
   cases h1
theorem NB (f:Bool→List CV) (n:Nat) {y:Yard} (hy:y.ok=true) {l:List Int} (hl:∀ s∈l,1≤s∧s≤9) {by_:List Int} (hb:inR l by_) (hbl:by_.length<1000000) :
  SP f (D its (n+1)) (pc y) (ints l) (ints by_)=some (.ret (f (many y l by_))):=by
 have h5:=(bM hy).1
 unfold SP
 rw [dI by_.length (fun i=>[ci (i:Int)]) (fun i=>!((List.range i).all fun j=>apt y ((ofL l by_).getD i 0) ((ofL l by_).getD j 0))) (fun _=>some (.ret (f false))) (some (.br 0 [])) ?hv ?hR ?hX (fun i hi hp=>?s1) (fun i hi hp=>?s2) ?s3]
 case hv=>rfl
 case hR=>simp
 case hX=>simp
 case s3 =>
  unfold SO
  simp only [aL,aF,eq_false (show ¬((by_.length:Int)<(by_.length:Int)) by omega),decide_false,aB]
 case s1 =>
  simp only [Bool.not_eq_false'] at hp
  unfold SO
  simp only [aL,aF,eq_true (show ((i:Int)<(by_.length:Int)) by omega),eq_true (show ((i:Int)≤(by_.length:Int)) by omega),eq_true (show ((0:Int)≤(i:Int)) by omega),Int.le_refl,Nat.le_refl,decide_true,Bool.and_self,aB,aG hi,aI hi,li1,aC,CM f n hy hl hb hbl hi,hp,if_true,bR,aO (show i<9223372036854775807 by omega)]
 case s2 =>
  simp only [Bool.not_eq_true'] at hp
  unfold SO
  simp only [aL,aF,eq_true (show ((i:Int)<(by_.length:Int)) by omega),eq_true (show ((i:Int)≤(by_.length:Int)) by omega),eq_true (show ((0:Int)≤(i:Int)) by omega),Int.le_refl,Nat.le_refl,decide_true,Bool.and_self,aB,aG hi,aI hi,li1,aC,CM f n hy hl hb hbl hi,hp,Bool.false_eq_true,if_false,oV]
 ·have hal:(List.range by_.length).find? (fun i=>!((List.range i).all fun j=>apt y ((ofL l by_).getD i 0) ((ofL l by_).getD j 0)))=none↔cK y (ofL l by_)=true:=by
   rw [List.find?_eq_none]
   unfold cK
   rw [cT,List.all_eq_true]
   refine forall_congr' fun i=>forall_congr' fun hi=>?_
   simp
  unfold many
  cases hf:(List.range by_.length).find? (fun i=>!((List.range i).all fun j=>apt y ((ofL l by_).getD i 0) ((ofL l by_).getD j 0))) with
  | none =>
   rw [hal.1 hf,Bool.true_and]
   simp only [bR,List.drop_zero,CG,aC,rD,eV,aF,aO (show y.pens.length<9223372036854775807 by omega)]
   congr 4
   rw [Bool.eq_iff_iff]
   simp only [beq_iff_eq,decide_eq_true_eq]
   omega
  | some i =>
   have:cK y (ofL l by_)=false:=by
    cases hc:cK y (ofL l by_) with
    | false=>rfl
    | true=>rw [hal.2 hc] at hf;cases hf
   rw [this]
   rfl
theorem aAn (n:Nat) {y:Yard} (hy:y.ok=true) {l:List Int} (hl:∀ s∈l,1≤s∧s≤9) {by_:List Int} (hb:inR l by_) (hbl:by_.length<1000000) :
  aCI (D its (n+1)) (pc y) (ints l) (ints by_)=some (.ret [cb (many y l by_)]):=NB (fun b=>[cb b]) n hy hl hb hbl
theorem CN (n:Nat) {y:Yard} (hy:y.ok=true) {l:List Int} (hl:∀ s∈l,1≤s∧s≤9):∀ (rows:List (List Int)) (vs:List CV),(∀ x∈rows,inR l x∧x.length<1000000) →
  (match rows.find? (many y l) with
   | some x=>bZ (pN (D its (n+1)) (pc y) (ints l)) (rows.map yl) vs=some (.ret [ci 3,.row 1 (ints x),ci 0])
   | none=>∃ vs',bZ (pN (D its (n+1)) (pc y) (ints l)) (rows.map yl) vs=some (.nx vs'))
 | [],vs,_=>⟨vs,rfl⟩
 | x::rows,vs,h=>by
  have hb:=aAn (its:=its) n hy hl (h x (by simp)).1 (h x (by simp)).2
  cases hp:many y l x with
  | true =>
   rw [List.find?_cons_of_pos hp]
   simp only [List.map_cons,bZ]
   unfold pN
   simp only [yl,bI,hb,bS,bD,hp,aB]
  | false =>
   rw [List.find?_cons_of_neg (by simp [hp])]
   have ih:=CN n hy hl rows [ci (gi vs 0),.row 1 (gr vs 1),ci (gi vs 2)] fun z hz=>h z (by simp [hz])
   have e:bZ (pN (D its (n+1)) (pc y) (ints l)) ((x::rows).map yl) vs=bZ (pN (D its (n+1)) (pc y) (ints l)) (rows.map yl) [ci (gi vs 0),.row 1 (gr vs 1),ci (gi vs 2)]:=by
    simp only [List.map_cons,bZ]
    have:pN (D its (n+1)) (pc y) (ints l) (yl x) vs=some (.nx [ci (gi vs 0),.row 1 (gr vs 1),ci (gi vs 2)]):=by
     unfold pN
     simp only [yl,bI,hb,bS,bD,hp,aB]
    rw [this]
   rw [e]
   exact ih
end Go.Proofs.Ythkfohoccnnphaa
namespace Go.Proofs.Ythkfohoccnnphaa
open Go Go.Sx Go.Pen
set_option maxRecDepth 10000
attribute [local simp] Bool.and_assoc Bool.or_assoc
variable {its:ITS}
theorem mU {y:Yard} {l by_:List Int} (hs:aQ y l=true) (hb:inR l by_) (h8:by_.length≤8):aQ y (ofL l by_)=true:=by
 unfold aQ
 rw [cT,Bool.and_eq_true,decide_eq_true_eq,List.all_eq_true]
 exact ⟨h8,fun s hm=>wM hs s (zI hb hm)⟩
theorem FN (hI:ItsM its) (n:Nat) {y:Yard} (hy:y.ok=true) {l:List Int} (hs:aQ y l=true) {by_:List Int} (hb:inR l by_) (h8:by_.length≤8) {tr:MA} (hk:Kept y tr) :
  ∃ tr',Kept y tr'∧HZ (D its (n+2)) (pc y) (ints l) (ints by_) (eO tr)=some (.ret [cb (iM y l by_),.row 11 (eO tr')]):=by
 have hso:=mU hs hb h8
 obtain ⟨c,hc⟩:=QL hI n hy hso
 obtain ⟨tr',hk',e⟩:=FL hy (IO hso) hk hc
 refine ⟨tr',hk',?_⟩
 unfold HZ
 rw [SW (fun c=>aFl (n+1) _ c l by_ hb (by omega))]
 simp only [bI]
 rw [CK (CH hy hso) (by rw [cT];omega),bR]
 rw [zQ hk] at e ⊢
 simp only [IM,aC] at e ⊢
 rw [e]
 rfl
theorem yH (hI:ItsM its) (n:Nat) {y:Yard} (hy:y.ok=true) {l:List Int} (hs:aQ y l=true):∀ (k:Nat) (by_:List Int) (tr:MA),inR l by_→by_.length≤8→k≤by_.length→Kept y tr →
  ∃ tr',aJ (BY (D its (n+2)) (pc y) (ints l)) [.row 1 (ints by_),ci ((k:Int) - 1),.row 11 (eO tr)]=some (.br 0 [.row 1 (ints (least (iM y l) k by_)),.row 11 tr'])
 | 0,by_,tr,_,_,_,_=>by
  refine ⟨eO tr,bE ?_ (by simp)⟩
  unfold BY
  simp only [cA,aL,eq_false (show ¬(((0:Nat):Int) - 1≥0) by omega),decide_false,aB,bI,dL,least]
 | k+1,by_,tr,hb,h8,hk,ht=>by
  have e:(((k+1:Nat):Int) - 1)=(k:Int):=by omega
  have hd:=hI.del (n+1) by_ k (by omega) (by omega)
  have hel:=List.length_eraseIdx_le by_ k
  obtain ⟨tr1,ht1,hm⟩:=FN (its:=its) hI n hy hs (gN hb k) (by omega) ht
  have hstep:BY (D its (n+2)) (pc y) (ints l) [.row 1 (ints by_),ci (((k+1:Nat):Int) - 1),.row 11 (eO tr)]=some (.nx [.row 1 (ints (if iM y l (by_.eraseIdx k)=true then by_.eraseIdx k else by_)),ci ((k:Int) - 1),.row 11 (eO tr1)]):=by
   unfold BY
   have hw:wr ((k:Int) - 1)=(k:Int) - 1:=by rw [bW] <;> omega
   simp only [e,cA,aL,eq_true (show ((k:Int)≥0) by omega),decide_true,aB,bI,dL,aH,IL h8,bS,aO (show k<9223372036854775807 by omega),hd,aD,hw]
   rw [show rR 1 true [CV.row 1 (ints (by_.eraseIdx k)),CV.val (.bool true)]=true from rfl,aC,hm,bS,bD]
   cases iM y l (by_.eraseIdx k) <;> rfl
  rw [dP hstep]
  simp only [least]
  refine yH hI n hy hs k _ _ ?_ ?_ ?_ ht1
  ·split
   ·exact gN hb k
   ·exact hb
  ·split
   ·omega
   ·exact h8
  ·split
   ·rw [List.length_eraseIdx_of_lt (by omega)];omega
   ·omega
theorem aAo {l:List Int} (hl:l.length<1000000):aJ (allIn (ints l)) [ci 0,.row 1 []]=some (.br 2 [.row 1 (ints (idx l))]):=by
 rw [(bP l (fun i (_:Unit)=>[ci (i:Int),.row 1 (ints ((List.range i).map fun (j:Nat)=>(j:Int)))]) (fun _ _=>()) (fun _ _=>True) 2 (fun _=>[.row 1 (ints (idx l))]) () ?hv trivial ?hs ?he).1]
 case hv=>rfl
 case hs =>
  intro i hi _ _
  refine ⟨?_,trivial⟩
  have hf:bJ (ints ((List.range i).map fun (j:Nat)=>(j:Int))).length 1 8=true:=bL (by simp;omega) (by simp;omega)
  rw [List.range_succ,List.map_append]
  unfold allIn
  simp only [aL,aF,eq_true (show ((i:Int)<(l.length:Int)) by omega),decide_true,aB,dL,bI,hf,aC,nC,nA,List.take_succ_cons,List.take_zero,cZ,aO (show i<9223372036854775807 by omega),List.map_cons,List.map_nil]
 case he =>
  intro _ _
  unfold allIn
  simp only [aL,aF,eq_false (show ¬((l.length:Int)<(l.length:Int)) by omega),decide_false,aB,dL,bI]
  rfl
theorem qJ (l:List Int):(idx l).length=l.length:=by simp [idx]
theorem IP {l x:List Int} {k:Nat} (h:x∈rls l.length k 0):inR l x∧x.length=k:=by
 obtain ⟨h1,_,h3⟩:=nG.1 h
 exact ⟨fun i hi=>by have:=h3 i hi;omega,h1⟩
theorem uN (hI:ItsM its) (n:Nat) {y:Yard} (hf:Fit y) (l:List Int) (hl:l.length<9223372036854775807) :
  D its (n+8) eF [.row 1 y.ps,.row 4 y.ks,.row 1 (ints l)]=some (if asked y l=0 then [ci (refuse y l).1,.row 1 (ints (refuse y l).2.1),ci (refuse y l).2.2] else [ci 0,.row 1 [],ci (asked y l)]):=by
 rw [IA]
 unfold SQ
 have hask:=qI (its:=its) n y l hf.p hf.k hl
 change D its (n+7) 72 _=_ at hask
 rw [hask]
 by_cases h':¬asked y l=0
 ·simp [h']
 have h:asked y l=0:=Decidable.of_not_not h'
 obtain ⟨hy,hs⟩:=eN h
 have h8:=bF hs
 have h5:=(bM hy).1
 have h9:=CH hy hs
 obtain ⟨c0,hn0⟩:=QL hI (n+5) hy hs
 change D its (n+7) 74 _=_ at hn0
 have hli:∀ a b:Int,D its (n+7) 93 [ci a,ci b]=some [.fn 121 [.ref [ci b],.ref [ci a]]]:=aBW (n+6)
 have hb0:((0:Int) != 0)=false:=rfl
 have hw:wr ((y.pens.length:Int)+1)=((y.pens.length+1:Nat):Int):=aO (by omega)
 have hwl:wr (((idx l).length:Int) - 1)=((l.length:Nat):Int) - 1:=by rw [qJ,bW] <;> omega
 have hl1:=uL (M:=D its (n+7)) aCQ (hI.lists (n+6) l.length 1 (by omega) (by omega) (by omega))
 have hl2:=uL (M:=D its (n+7)) aCQ (hI.lists (n+6) l.length (y.pens.length+1) (by omega) (by omega) (by omega))
 have hmo:=MZ (its:=its) (n+5) hy h9 (tW l) (by rw [qJ];omega)
 have hkept:Kept y (mN [] (mix l) (can y l)):=(Kept.nil y).set hy (IO hs)
 have hupd:=MX (Kept.nil y) l (can y l)
 obtain ⟨tr',hlt⟩:=yH hI (n+5) hy hs l.length (idx l) (mN [] (mix l) (can y l)) (tW l) (by rw [qJ];omega) (by rw [qJ];omega) hkept
 have hlm:=CL hI (n+5) hy h9 l.length (idx l) (tW l) (by rw [qJ];omega) (by rw [qJ];omega)
 have hbr:=FM hy h9 (rls l.length 1 0) 0 0 (.val (Value.slice none 0 0)) (fun x hx=>(IP hx).1)
 have hmr:=fun vs=>CN (its:=its) (n+6) hy h9 (rls l.length (y.pens.length+1) 0) vs (fun x hx=>⟨(IP hx).1,by rw [(IP hx).2];omega⟩)
 simp only [h,beq_self_eq_true,eB,if_true,aD,cA,aL,hb0,aB,List.getD_cons_zero,fF,aC,lW,CK h9 (show l.length<1000000 by omega),bR,hn0,AX,bD,IM,aV,bS]
 rw [show ([]:List (List CV))=eO [] from rfl,hupd]
 unfold refuse
 cases hc:can y l with
 | true=>rfl
 | false =>
  rw [hc] at hlt hkept
  simp only [aF,hli,aD,List.getD_cons_zero,Bool.false_eq_true,if_false]
  have hcast1:((1:Nat):Int)=1:=rfl
  rw [hcast1] at hl1
  rw [hl1]
  simp only [eU]
  cases hfb:(rls l.length 1 0).find? (big y l) with
  | some x =>
   rw [hfb] at hbr
   simp only at hbr
   rw [hbr]
   rfl
  | none =>
   rw [hfb] at hbr
   obtain ⟨c',hbr⟩:=hbr
   rw [hbr]
   simp only [brO,aV]
   rw [show (eO []:List (List CV))=[] from rfl,aAo (by omega),bR]
   simp only [bI,hmo,bS,bD,aF,hwl]
   cases hmu:nH y l (idx l) with
   | true =>
    simp only [if_true]
    rw [hlm]
    rfl
   | false =>
    simp only [Bool.false_eq_true,if_false,List.drop_zero,CG,aC,rD,eV,hw,cA,aL]
    rw [hl2]
    simp only
    have hmr':=hmr [ci 0,.row 1 (gr [ci 0,c',ci 0] 1),ci 0]
    cases hfm:(rls l.length (y.pens.length+1) 0).find? (many y l) with
    | some x =>
     rw [hfm] at hmr'
     simp only at hmr'
     rw [hmr']
     rfl
    | none =>
     rw [hfm] at hmr'
     obtain ⟨vs',hmr'⟩:=hmr'
     rw [hmr']
     simp only [brO,aV,dL,bI]
     rw [hlt]
     rfl
end Go.Proofs.Ythkfohoccnnphaa
namespace Go.Proofs.Ythkfohoccnnphaa
open Go Go.Sx Go.Pen
set_option maxRecDepth 10000
attribute [local simp] Bool.and_assoc Bool.or_assoc
variable {its:ITS}
theorem aAp {l:List Stay} (hl:l.length<1000000):aJ (zJ (stays l)) [ci 0,.row 1 []]=some (.br 0 [.row 1 (ints (days l))]):=by
 rw [(bP l (fun i (_:Unit)=>[ci (i:Int),.row 1 (ints (days (l.take i)))]) (fun _ _=>()) (fun _ _=>True) 0 (fun _=>[.row 1 (ints (days l))]) () ?hv trivial ?hs ?he).1]
 case hv=>rfl
 case hs =>
  intro i hi _ _
  refine ⟨?_,trivial⟩
  have hd:=LN (l.take i)
  rw [List.length_take] at hd
  have hf1:bJ (ints (days (l.take i))).length 1 8=true:=bL (by rw [aH];omega) (by rw [aH];omega)
  have hf2:bJ (ints (days (l.take i)++[l[i].inn])).length 1 8=true:=bL (by rw [aH,List.length_append,List.length_singleton];omega) (by rw [aH,List.length_append,List.length_singleton];omega)
  rw [← List.take_append_getElem hi,VK]
  unfold zJ
  simp only [aL,pB,eq_true (show ((i:Int)<(l.length:Int)) by omega),decide_true,kE hi,mM hi,uJ,aC,dL,bI,hf1,aDz,aDA,nC,nA,List.take_succ_cons,List.take_zero,cZ,hf2,aO (show i<9223372036854775807 by omega)]
  unfold wC
  by_cases h:l[i].out=-1
  ·have hb:(l[i].out != -1)=false:=by simp [h]
   simp only [hb,aB,aV,bI,if_pos h]
  ·have hb:(l[i].out != -1)=true:=by simp [h]
   simp only [hb,aB,aV,bI,if_neg h,List.append_assoc,List.singleton_append]
 case he =>
  intro _ _
  rw [List.take_length]
  unfold zJ
  simp only [aL,pB,eq_false (show ¬((l.length:Int)<(l.length:Int)) by omega),decide_false,aB,dL,bI]
theorem WC {l:List Stay} (hl:l.length<1000000) (d:Int):aJ (uE (stays l) (ints (dH l d))) [ci 0,.row 1 []]=some (.br 4 [.row 1 (ints (fI l d))]):=by
 have hlen:(dH l d).length≤l.length:=sC _ l 0
 rw [(bP (dH l d) (fun i (_:Unit)=>[ci (i:Int),.row 1 (ints (((dH l d).take i).map (wD l)))]) (fun _ _=>()) (fun _ _=>True) 4 (fun _=>[.row 1 (ints (fI l d))]) () ?hv trivial ?hs ?he).1]
 case hv=>rfl
 case hs =>
  intro i hi _ _
  refine ⟨?_,trivial⟩
  obtain ⟨h0,h1⟩:=tV (lR d) l 0 _ (List.getElem_mem hi)
  change 0≤(dH l d)[i] at h0
  change (dH l d)[i]<0+(l.length:Int) at h1
  obtain ⟨m,hm⟩:∃ m:Nat,(dH l d)[i]=m:=⟨((dH l d)[i]).toNat,by omega⟩
  have hml:m<l.length:=by omega
  have hf:bJ (ints (((dH l d).take i).map (wD l))).length 1 8=true:=bL (by simp;omega) (by simp;omega)
  have hs:wD l (dH l d)[i]=l[m].sort:=by rw [hm];simp [wD,hml]
  rw [← List.take_append_getElem hi,List.map_append,List.map_cons,List.map_nil,hs]
  unfold uE
  simp only [aL,aF,eq_true (show ((i:Int)<((dH l d).length:Int)) by omega),decide_true,aB,aG hi,aI hi,li1,aC,hm,kE hml,mM hml,List.drop_zero,show oks [li] l[m].cv 0=true from rfl,dL,bI,hf,aDy,nC,nA,List.take_succ_cons,List.take_zero,cZ,aO (show i<9223372036854775807 by omega)]
 case he =>
  intro _ _
  rw [List.take_length,PU]
  unfold uE
  simp only [aL,aF,eq_false (show ¬(((dH l d).length:Int)<((dH l d).length:Int)) by omega),decide_false,aB,dL,bI]
theorem NC {y:Yard} {l:List Stay} (hs:hQ y l=true) (d:Int):∀ s∈fI l d,has y s=true:=by
 intro s hm
 obtain ⟨x,hx,rfl⟩:=List.mem_map.1 hm
 have:=(uK hs).2 x ((List.mem_filter.1 hx).1)
 unfold kW at this
 simp only [Bool.and_eq_true] at this
 exact this.1.1
theorem ND (hI:ItsM its) (n:Nat) {y:Yard} (hy:y.ok=true) {l:List Stay} (hs:hQ y l=true) {ds:List Int} (hds:ds.length<1000000) {i:Nat} (hi:i<ds.length) {tr:MA} (ht:Kept y tr) :
  ∃ tr',Kept y tr'∧iB (D its (n+2)) (.ref (pc y)) (stays l) (ints ds) [ci (i:Int),.row 11 (eO tr)]=if sD y l ds[i]=true then some (.ret [ci ds[i],ci 0]) else some (.nx [ci ((i+1:Nat):Int),.row 11 (eO tr')]):=by
 have h40:=(uK hs).1
 have hth:=aBL (its:=its) (n+1) l ds[i] (by omega)
 change D its (n+2) 69 _=_ at hth
 have hsl:=WC (l:=l) (by omega) ds[i]
 unfold sD
 by_cases h8:(fI l ds[i]).length > 8
 ·refine ⟨tr,ht,?_⟩
  unfold iB
  simp only [aL,aF,eq_true (show ((i:Int)<(ds.length:Int)) by omega),decide_true,aB,aG hi,aI hi,li1,aC,Int.toNat_natCast,aH,eq_true hi,hth,aD,bI,hsl,bR,eq_true (show (((fI l ds[i]).length:Int) > 8) by omega),aV,bD,eq_true h8,Bool.true_or,if_true]
 ·have hso:aQ y (fI l ds[i])=true:=by
   unfold aQ
   rw [Bool.and_eq_true,decide_eq_true_eq,List.all_eq_true]
   exact ⟨by omega,NC hs _⟩
  obtain ⟨c,hc⟩:=QL hI n hy hso
  obtain ⟨tr',hk',e⟩:=FL hy (IO hso) ht hc
  refine ⟨tr',hk',?_⟩
  rw [zQ ht] at e
  simp only [aC] at e
  unfold iB
  simp only [aL,aF,eq_true (show ((i:Int)<(ds.length:Int)) by omega),decide_true,aG hi,aI hi,li1,aC,Int.toNat_natCast,aH,eq_true hi,hth,aD,bI,dL,hsl,bR,eq_false (show ¬(((fI l ds[i]).length:Int) > 8) by omega),decide_false,fF,lW,CK (CH hy hso) (show (fI l ds[i]).length<1000000 by omega),zQ ht,IM]
  rw [e]
  simp only [aB,bS,aV,bD,dL,bI,eq_false h8,decide_false,Bool.false_or,aO (show i<9223372036854775807 by omega)]
  cases can y (fI l ds[i]) <;> rfl
theorem FQ (hI:ItsM its) (n:Nat) {y:Yard} (hy:y.ok=true) {l:List Stay} (hs:hQ y l=true) {ds:List Int} (hds:ds.length<1000000):∀ (k i:Nat) (tr:MA),i+k=ds.length→Kept y tr →
  (match (ds.drop i).find? (sD y l) with
   | some d=>aJ (iB (D its (n+2)) (.ref (pc y)) (stays l) (ints ds)) [ci (i:Int),.row 11 (eO tr)]=some (.ret [ci d,ci 0])
   | none=>∃ vs,aJ (iB (D its (n+2)) (.ref (pc y)) (stays l) (ints ds)) [ci (i:Int),.row 11 (eO tr)]=some (.br 2 vs))
 | 0,i,tr,hk,_=>by
  rw [List.drop_eq_nil_of_le (by omega)]
  refine ⟨[.row 11 (eO tr)],bE ?_ (by simp)⟩
  unfold iB
  simp only [aL,aF,eq_false (show ¬((i:Int)<(ds.length:Int)) by omega),decide_false,aB,dL,bI]
 | k+1,i,tr,hk,ht=>by
  have hi:i<ds.length:=by omega
  obtain ⟨tr',ht',e⟩:=ND hI n hy hs hds hi ht
  rw [List.drop_eq_getElem_cons hi]
  cases hf:sD y l ds[i] with
  | true =>
   rw [List.find?_cons_of_pos hf]
   rw [hf,if_pos rfl] at e
   exact bE e (by simp)
  | false =>
   rw [List.find?_cons_of_neg (by simp [hf])]
   rw [hf,if_neg (by simp)] at e
   have ih:=FQ hI n hy hs hds k (i+1) tr' (by omega) ht'
   rw [dP e]
   exact ih
theorem aDE (hI:ItsM its) (n:Nat) {y:Yard} (hf:Fit y) (l:List Stay) (hl:l.length<9223372036854775807) :
  D its (n+8) sF [.row 1 y.ps,.row 4 y.ks,.row 3 (stays l)]=some (if dM y l=0 then (match SI y l with | some d=>[ci d,ci 0] | none=>[ci 0,ci 3]) else [ci 0,ci (dM y l)]):=by
 rw [QD]
 unfold aCJ
 have hask:=wO (its:=its) n y l hf.p hf.k hl
 change D its (n+7) 66 _=_ at hask
 rw [hask]
 by_cases h':¬dM y l=0
 ·simp [h']
 have h:dM y l=0:=Decidable.of_not_not h'
 obtain ⟨hy,hs⟩:=sR h
 have h40:=(uK hs).1
 have hd:=LN l
 have hb0:((0:Int) != 0)=false:=rfl
 have hso:=hI.sort (n+6) (days l) (by omega)
 have hfl:=FQ hI (n+5) hy hs (ds:=sorted (days l)) (by rw [sE];omega) (days l).length 0 [] (by rw [sE];omega) (Kept.nil y)
 simp only [h,beq_self_eq_true,eB,if_true,aD,cA,aL,hb0,aB,List.getD_cons_zero,aAp (show l.length<1000000 by omega),bR,bI,hso]
 rw [show rR 1 false [CV.row 1 (ints ((days l).mergeSort fun a b=>decide (a≤b))),CV.val (.bool false)]=true from rfl,aC]
 unfold SI
 rw [List.drop_zero] at hfl
 cases hff:(sorted (days l)).find? (sD y l) with
 | some d =>
  rw [hff] at hfl
  simp only at hfl
  change bC (bO 2 (aJ (iB (D its (n+5+2)) (.ref (pc y)) (stays l) (ints (sorted (days l)))) [ci ((0:Nat):Int),.row 11 (eO [])]) _)=_
  rw [hfl]
  rfl
 | none =>
  rw [hff] at hfl
  obtain ⟨vs,hfl⟩:=hfl
  change bC (bO 2 (aJ (iB (D its (n+5+2)) (.ref (pc y)) (stays l) (ints (sorted (days l)))) [ci ((0:Nat):Int),.row 11 (eO [])]) _)=_
  rw [hfl,bR]
  rfl
end Go.Proofs.Ythkfohoccnnphaa
namespace Go.Proofs.Ythkfohoccnnphaa
open Go Go.Sx Go.Pen
set_option maxRecDepth 100000
variable {its:ITS}
theorem QM (n:Nat) (a b:List Int) (ha:a.length<9223372036854775807):D its (n+1) dE [.row 1 (ints a),.row 1 (ints b)]=some [cb (decide (a=b))]:=by
 rw [PZ]
 unfold BS
 by_cases hl:a.length=b.length
 ·have:(il (ints a) != il (ints b))=false:=by simp;omega
  rw [this]
  simp only [aB]
  rw [dI a.length (fun i=>[ci (i:Int)]) (fun i=>decide (a[i]?≠b[i]?)) (fun _=>some (.ret [cb false])) (some (.br 0 [])) ?hv ?hR ?hX (fun i hi hp=>?s1) (fun i hi hp=>?s2) ?s3]
  case hv=>rfl
  case hR=>simp
  case hX=>simp
  case s3=>simp only [aL,aF,eq_false (show ¬((a.length:Int)<(a.length:Int)) by omega),decide_false]
  case s1 =>
   have hib:i<b.length:=by omega
   have hp':a[i]=b[i]:=by
    rw [List.getElem?_eq_getElem hi,List.getElem?_eq_getElem hib] at hp
    simpa using hp
   simp only [aL,aF,eq_true (show ((i:Int)<(a.length:Int)) by omega),decide_true,aG hi,aI hi,aG hib,aI hib,li1,aC,hp',aO (show i<9223372036854775807 by omega)]
   simp
  case s2 =>
   have hib:i<b.length:=by omega
   have hp':¬a[i]=b[i]:=by
    rw [List.getElem?_eq_getElem hi,List.getElem?_eq_getElem hib] at hp
    simpa using hp
   have hb:(a[i] != b[i])=true:=by simp [hp']
   simp only [aL,aF,eq_true (show ((i:Int)<(a.length:Int)) by omega),decide_true,aG hi,aI hi,aG hib,aI hib,li1,aC,hb]
  ·have key:(List.range a.length).find? (fun i=>decide (a[i]?≠b[i]?))=none↔a=b:=by
    rw [List.find?_eq_none]
    constructor
    ·intro h
     apply List.ext_getElem? 
     intro i
     by_cases hi:i<a.length
     ·have:=h i (by simpa using hi)
      simpa using this
     ·rw [List.getElem?_eq_none (by omega),List.getElem?_eq_none (by omega)]
    ·rintro rfl i _
     simp
   cases hf:(List.range a.length).find? (fun i=>decide (a[i]?≠b[i]?)) with
   | none =>
    rw [decide_eq_true (key.1 hf)]
    rfl
   | some i =>
    have:¬a=b:=fun h=>by rw [key.2 h] at hf;cases hf
    rw [decide_eq_false this]
    rfl
 ·have:(il (ints a) != il (ints b))=true:=by simp;omega
  rw [this,decide_eq_false (fun h=>hl (by rw [h]))]
  rfl
def exY:Yard:=⟨[10,6,4],[⟨1,5,8,0⟩,⟨2,4,6,2⟩,⟨3,1,1,0⟩,⟨4,2,3,16⟩]⟩
def exL:List Stay:=[⟨1,3,6⟩,⟨2,4,-1⟩]
def exM:List Stay:=[⟨1,3,6⟩,⟨2,4,-1⟩,⟨1,5,9⟩,⟨1,5,9⟩,⟨4,5,6⟩]
theorem nR:Fit exY:=⟨by decide,by decide⟩
theorem aCS:asked exY [1,1,2]=0:=by kernel_rfl
theorem aFm:asked exY [1,1,1,1]=0:=by kernel_rfl
theorem aFn:asked exY [4,4,4,4]=0:=by kernel_rfl
theorem aFo:asked exY [1,1,1,2,2]=0:=by kernel_rfl
theorem aFp:asked exY [1,4,4]=0:=by kernel_rfl
theorem aCT:PL exY [1,1,2]=[[0,0,1],[0,0,2],[0,1,2],[1,0,2]]:=by kernel_rfl
theorem aCU:cJ exY [1,1,2] [0,0,1]=0:=by kernel_rfl
theorem aFq:eM exY ([1,1,2].zip [0,0,1])=[0,2,4]:=by kernel_rfl
theorem aFr:has exY 3=true:=by kernel_rfl
theorem aFs:aDC exY ([1,1,2].zip [0,0,1]) 3=some 1:=by kernel_rfl
theorem aFt:refuse exY [1,1,1,1]=(4,[0,1,2,3],0):=by kernel_rfl
theorem aFu:refuse exY [4,4,4,4]=(3,[0,1,2,3],0):=by kernel_rfl
theorem aFv:refuse exY [1,1,1,2,2]=(2,[0,1,2,3,4],0):=by kernel_rfl
theorem aGL:rW exY [1,4,4]=some [0,0,1]:=by kernel_rfl
theorem aCV:dM exY exL=0:=by kernel_rfl
theorem aFw:dM exY exM=0:=by kernel_rfl
theorem aGM:pC exY exL 5=36:=by kernel_rfl
theorem aFx:pC exY exL 0=0:=by kernel_rfl
theorem aGN:aCo exY exL 41=5:=by kernel_rfl
theorem aFy:sorted [3,6,4,5,9,5,9,5,6]=[3,4,5,5,5,6,6,9,9]:=by simp [sorted,List.mergeSort,List.MergeSort.Internal.splitInTwo,List.merge]
theorem aFz:[3,4,5,5,5,6,6,9,9].find? (sD exY exM)=some 5:=by kernel_rfl
theorem aGO:SI exY exM=some 5:=by
 unfold SI
 rw [show days exM=[3,6,4,5,9,5,9,5,6] from rfl,aFy,aFz]
theorem aDF (n:Nat):D its (n+1) nJ []=some [.row 1 exY.ps,.row 4 exY.ks]:=by
 rw [HV];kernel_rfl
theorem aDG (hI:ItsM its) (n:Nat):D its (n+10) jV []=some [cb true]:=by
 rw [HW]
 unfold uA
 have h1:=aBO hI (n+1) nR [1,1,2] (by decide)
 rw [aCS,if_pos rfl,aCT] at h1
 have h2:=aBP hI (n+1) nR [1,1,2] (by decide)
 rw [aCS,if_pos rfl,aCT] at h2
 have h3:=aDB (its:=its) n nR [1,1,2] [0,0,1] (by decide) (by decide)
 rw [aCU,if_pos rfl,aFq] at h3
 have h4:=aFk (its:=its) n nR [1,1,2] [0,0,1] 3 (by decide) (by decide)
 rw [aCU,if_pos rfl,aFr,if_pos rfl,aFs,if_neg (by decide)] at h4
 have h5:=uN hI (n+1) nR [1,1,1,1] (by decide)
 rw [aFm,if_pos rfl,aFt] at h5
 have h6:=uN hI (n+1) nR [4,4,4,4] (by decide)
 rw [aFn,if_pos rfl,aFu] at h6
 have h7:=uN hI (n+1) nR [1,1,1,2,2] (by decide)
 rw [aFo,if_pos rfl,aFv] at h7
 have h8:=MV hI (n+1) nR [1,4,4] (by decide)
 rw [aFp,if_pos rfl,aGL] at h8
 have h9:=aBM (its:=its) (n+1) exY exL 5 (by decide) (by decide) (by decide)
 rw [aCV,if_pos rfl,if_pos (by decide),aGM] at h9
 have h10:=aBN (its:=its) (n+1) exY exL 41 (by decide) (by decide) (by decide)
 rw [aCV,if_pos rfl,if_pos (by decide),aFx,if_neg (by decide),aGN] at h10
 have h11:=aDE hI (n+1) nR exM (by decide)
 rw [aFw,if_pos rfl,aGO] at h11
 have e3:CV.row 1 (aN 1 3 [ci 1,ci 1,ci 2])=.row 1 (ints [1,1,2]):=rfl
 have e4:CV.row 1 (aN 1 4 [ci 1,ci 1,ci 1,ci 1])=.row 1 (ints [1,1,1,1]):=rfl
 have e5:CV.row 1 (aN 1 4 [ci 4,ci 4,ci 4,ci 4])=.row 1 (ints [4,4,4,4]):=rfl
 have e6:CV.row 1 (aN 1 5 [ci 1,ci 1,ci 1,ci 2,ci 2])=.row 1 (ints [1,1,1,2,2]):=rfl
 have e7:CV.row 1 (aN 1 3 [ci 1,ci 4,ci 4])=.row 1 (ints [1,4,4]):=rfl
 have e8:CV.row 3 (aN 3 2 [ci 1,ci 3,ci 6,ci 2,ci 4,ci (-1)])=.row 3 (stays exL):=rfl
 have e9:CV.row 3 ([[ci 1,ci 3,ci 6],[ci 2,ci 4,ci (-1)],[ci 1,ci 5,ci 9],[ci 1,ci 5,ci 9],[ci 4,ci 5,ci 6]])=.row 3 (stays exM):=rfl
 have f1:CV.row 1 (aN 1 3 [ci 0,ci 0,ci 1])=.row 1 (ints [0,0,1]):=rfl
 have f2:CV.row 1 (aN 1 3 [ci 0,ci 2,ci 4])=.row 1 (ints [0,2,4]):=rfl
 have f3:CV.row 1 (aN 1 4 [ci 0,ci 1,ci 2,ci 3])=.row 1 (ints [0,1,2,3]):=rfl
 have f4:CV.row 1 (aN 1 5 [ci 0,ci 1,ci 2,ci 3,ci 4])=.row 1 (ints [0,1,2,3,4]):=rfl
 have s (a:List Int) (h:a.length<9223372036854775807):D its (n+9) dE [.row 1 (ints a),.row 1 (ints a)]=some [cb true]:=by rw [QM (n+8) a a h];simp
 simp only [aDF,aD,bI,dL,e3,e4,e5,e6,e7,e8,e9,f1,f2,f3,f4,h1,h2,h3,h4,h5,h6,h7,h8,h9,h10,h11,List.getElem?_cons_zero,cA,aL,beq_self_eq_true,aB,aV,bD,s [0,0,1] (by decide),s [0,2,4] (by decide),s [0,1,2,3] (by decide),s [0,1,2,3,4] (by decide)]
 rfl
end Go.Proofs.Ythkfohoccnnphaa
namespace Go.Proofs.Ythkfohoccnnphaa
open Go Go.Sx Go.Pen
set_option maxRecDepth 100000
def qP (pens:List (List CV)):List Int:=pens.map fun e=>gi e 0
theorem kF (p:List Int):qP (ints p)=p:=by
 unfold qP ints
 rw [List.map_map]
 apply List.ext_getElem (by simp)
 intro i h1 h2
 simp
theorem SY (y:Yard) (l:List Int):∀ (k:Nat) (p:List Int),p.length≤l.length→l.length - p.length<k →
  plc (fun pens=>okP y l (qP pens)) y.pens.length l.length k (ints p)=(pls y l (l.length - p.length) p).map ints
 | 0,_,_,h=>by omega
 | k+1,p,hp,hk=>by
  simp only [plc,aH]
  by_cases e:p.length=l.length
  ·rw [if_pos e,e,Nat.sub_self]
   simp [pls]
  ·rw [if_neg e]
   obtain ⟨m,hm⟩:∃ m,l.length - p.length=m+1:=⟨l.length - p.length - 1,by omega⟩
   rw [hm]
   simp only [pls,List.map_flatMap]
   congr 1
   funext i
   simp only [cZ,kF]
   split
   ·have:=SY y l k (p++[(i:Int)]) (by simp;omega) (by simp;omega)
    rw [this]
    rw [show l.length - (p++[(i:Int)]).length=m by simp;omega]
   ·rfl
theorem aBX {its:ITS} (n:Nat) {y:Yard} (hy:y.ok=true) {l:List Int} (hs:aQ y l=true) (pens:List (List CV)) (hp:Ip pens) (hl:pens.length≤l.length) :
  ∃ c,D its (n+2) 75 [.ref (pc y),.row 1 ((ints l).take pens.length),.row 1 pens]=some [c,cb (okP y l (qP pens))]:=by
 obtain ⟨p,rfl⟩:=hp
 change ∃ c,D its (n+2) 75 [.ref (pc y),.row 1 ((ints l).take (ints p).length),.row 1 (ints p)]=some [c,cb (okP y l (qP (ints p)))]
 change (ints p).length≤l.length at hl
 rw [aH] at hl ⊢
 have h8:=bF hs
 rw [kF,vX]
 have:=aAf (its:=its) n hy (l.take p.length) p (fun s h=>CH hy hs s (List.mem_of_mem_take h)) (by rw [List.length_take];omega) (by omega)
 have hh:(p.length == (l.take p.length).length&&okZ y ((l.take p.length).zip p))=okP y l p:=by
  rw [← ZF y l p hl]
  unfold okP
  have e:(l.take p.length).length=p.length:=by rw [List.length_take];omega
  simp [e]
 rw [hh] at this
 exact ⟨_,this⟩
theorem aAq {y:Yard} (hy:y.ok=true) {l:List Int} (hs:aQ y l=true) :
  dJ Try.prog 116=true∧qZ Try.prog 116 [.ref [.row 1 (ints l)],.ref [.ref (pc y)]] (.lent 3 1) (lQ ((PL y l).map yl)):=by
 refine ⟨by kernel_rfl,?_⟩
 have h8:=bF hs
 have h5:=(bM hy).1
 have h:=ZV (M:=D MN 2) (fun {_}=>MO 2) (by kernel_rfl) (aCN 2) (lrow:=ints l) (p:=pc y) (ok:=fun pens=>okP y l (qP pens)) (n:=y.pens.length) (len:=l.length)
  (fun pens hip hl=>aBX 0 hy hs pens hip hl) (by simp) (by omega) (by simp [Yard.ps]) (by omega) (by simp)
 have e:=SY y l 9 [] (Nat.zero_le _) (by simp;omega)
 rw [LF] at e
 rw [e] at h
 rw [List.map_map] at h
 exact h
theorem aDH {a b:Kd} (h:a.cv=b.cv):a=b:=by
 cases a;cases b
 simp only [Kd.cv,List.cons.injEq,ci,CV.val.injEq,Value.int.injEq,and_true,true_and] at h
 obtain ⟨rfl,rfl,rfl,rfl⟩:=h
 rfl
theorem aDI {y z:Yard} (h:pc y=pc z):y=z:=by
 unfold pc at h
 simp only [List.cons.injEq,CV.row.injEq,true_and] at h
 obtain ⟨h1,h2,_⟩:=h
 cases y;cases z
 simp only [Yard.ps,Yard.ks] at h1 h2
 have:=LG h1
 have h3:=List.map_inj_right (f:=Kd.cv) (fun _ _=>aDH) |>.1 h2
 rw [this,h3]
open Classical in
noncomputable def FR (caps:List CV):Option (List CV):=
 if h:∃ x:Yard×List Int,x.1.ok=true∧aQ x.1 x.2=true∧caps=[.ref [.row 1 (ints x.2)],.ref [.ref (pc x.1)]] then some [.row 0 ((PL h.choose.1 h.choose.2).map yl),shC (.lent 3 1)] else none
theorem aAr {y:Yard} {l:List Int} (hy:y.ok=true) (hs:aQ y l=true):FR [.ref [.row 1 (ints l)],.ref [.ref (pc y)]]=some [.row 0 ((PL y l).map yl),shC (.lent 3 1)]:=by
 have h:∃ x:Yard×List Int,x.1.ok=true∧aQ x.1 x.2=true∧[CV.ref [.row 1 (ints l)],.ref [.ref (pc y)]]=[.ref [.row 1 (ints x.2)],.ref [.ref (pc x.1)]]:=⟨(y,l),hy,hs,rfl⟩
 unfold FR
 rw [dif_pos h]
 have hc:=h.choose_spec.2.2
 generalize h.choose=z at hc ⊢
 simp only [List.cons.injEq,CV.ref.injEq,CV.row.injEq,and_true,true_and] at hc
 rw [← LG hc.1,← aDI hc.2]
theorem FS {f:Nat} {it:List CV→Option (List CV)} {sh:YSh} (hsh:(∀ T,shC sh≠.fn T [])∧(∀ b,shC sh≠.val (.bool b))) (h:∀ caps out,it caps=some out→(∃ c cs,caps=.ref c::cs)∧∃ rows,out=[.row 0 rows,shC sh]∧dJ Try.prog f=true∧qZ Try.prog f caps sh (lQ rows)):ID f it:=by
 intro caps out ho
 obtain ⟨⟨c,cs,rfl⟩,rows,rfl,he,hs⟩:=h caps out ho
 refine ⟨fun rows' sh' hr=>?_,fun xs hx=>by simp [intsOf] at hx,fun k es' T hr=>?_,fun T k cs e e' hdr h1 h2=>by simp at h1,fun k T b h1=>by simp at h1,fun T fs h1=>by simp at h1⟩
 ·simp only [List.cons.injEq,CV.row.injEq,true_and,and_true] at hr
  obtain ⟨rfl,hr⟩:=hr
  rw [← RX hr]
  exact ⟨he,hs⟩
 ·simp only [List.cons.injEq,and_true] at hr
  exact absurd hr.2 (hsh.1 T)
theorem aBY:ID 116 FR:=FS (sh:=.lent 3 1) ⟨fun T=>by simp [shC],fun b=>by simp [shC]⟩ fun caps out h=>by
 unfold FR at h
 split at h
 ·rename_i hx
  obtain ⟨h1,h2,h3⟩:=hx.choose_spec
  generalize hx.choose=z at h h1 h2 h3
  subst h3
  cases h
  exact ⟨⟨_,_,rfl⟩,_,rfl,aAq h1 h2⟩
 ·cases h
theorem SZ (n many:Nat):∀ (k:Nat) (lst:List Int) (frm:Nat),lst.length≤many→n - frm<k →
  DN n many k (ints lst) frm=(rls n (many - lst.length) frm).map fun x=>ints (lst++x)
 | 0,_,_,_,h=>by omega
 | k+1,lst,frm,hl,hk=>by
  rw [ML,aH]
  by_cases e:lst.length=many
  ·rw [if_pos e,e,Nat.sub_self]
   simp [rls]
  ·rw [if_neg e]
   obtain ⟨m,hm⟩:∃ m,many - lst.length=m+1:=⟨many - lst.length - 1,by omega⟩
   rw [hm]
   simp only [rls,List.map_flatMap,List.map_map]
   have hcong:∀ (r:List Nat),(∀ i∈r,n - (i+1)<k)→(r.flatMap fun (i:Nat)=>DN n many k (ints lst++[[ci (i:Int)]]) (i+1))=r.flatMap fun (a:Nat)=>(rls n m (a+1)).map ((fun x=>ints (lst++x))∘fun l=>(a:Int)::l):=by
    intro r
    induction r with
    | nil=>intro _;rfl
    | cons i r ih =>
     intro hr
     rw [List.flatMap_cons,List.flatMap_cons,ih fun j hj=>hr j (by simp [hj])]
     congr 1
     rw [cZ,SZ n many k (lst++[(i:Int)]) (i+1) (by simp;omega) (hr i (by simp))]
     rw [show many - (lst++[(i:Int)]).length=m by simp;omega]
     apply List.map_congr_left
     intro x _
     simp
   exact hcong _ fun i hi=>by
    rw [List.mem_range'_1] at hi
    omega
theorem QN {n many:Nat} (hn:n<9) (h0:0<many) (hm:many<10):dJ Try.prog 121=true∧qZ Try.prog 121 [.ref [ci (many:Int)],.ref [ci (n:Int)]] (.clo [.one (.row 1)]) (lQ ((rls n many 0).map yl)):=by
 refine ⟨by kernel_rfl,?_⟩
 have h:=QE (M:=D MN 1) (fun {_}=>MO 1) (by kernel_rfl) (aCN 1) hn h0 (show many<1000 by omega) (fun lst hl=>ZX 0 (by omega)) (VS 0)
 have e:=SZ n many 10 [] 0 (Nat.zero_le _) (by omega)
 rw [LF] at e
 rw [e,List.map_map] at h
 exact h
def FT:List CV→Option (List CV)
 | [.ref [.val (.int .i64 m)],.ref [.val (.int .i64 n)]]=>if 0≤n∧n<9∧0<m∧m<10 then some [.row 0 ((rls n.toNat m.toNat 0).map yl),shC (.clo [.one (.row 1)])] else none
 | _=>none
theorem aAs {n many:Nat} (hn:n<9) (h0:0<many) (hm:many<10):FT [.ref [ci (many:Int)],.ref [ci (n:Int)]]=some [.row 0 ((rls n many 0).map yl),shC (.clo [.one (.row 1)])]:=by
 simp only [FT,ci]
 rw [if_pos (by omega)]
 simp
theorem aBZ:ID 121 FT:=FS (sh:=.clo [.one (.row 1)]) ⟨fun T=>by simp [shC,scC],fun b=>by simp [shC,scC]⟩ fun caps out h=>by
 unfold FT at h
 split at h
 ·split at h
  ·rename_i m n hc
   cases h
   have:=QN (n:=n.toNat) (many:=m.toNat) (by omega) (by omega) (by omega)
   rw [show ((m.toNat:Nat):Int)=m by omega,show ((n.toNat:Nat):Int)=n by omega] at this
   exact ⟨⟨_,_,rfl⟩,_,rfl,this⟩
  ·cases h
 ·cases h
end Go.Proofs.Ythkfohoccnnphaa
namespace Go.Proofs.Ythkfohoccnnphaa
open Go Go.Shelf
set_option maxRecDepth 100000
def aFA:Ren:=⟨fun x=>match x with | 23=>82 | n=>n,fun x=>match x with | 22=>22 | 3=>3 | 4=>4 | 0=>0 | n=>n,fun n=>n⟩
theorem aDJ:Lays2.n23 Try.prog aFA:=by
 constructor <;> first | kernel_rfl | (intro w;kernel_rfl)
def aDK:Ren:=⟨fun x=>match x with | 189=>70 | 125=>114 | 257=>113 | 128=>138 | 129=>139 | 294=>129 | 295=>130 | 296=>131 | 297=>132 | 298=>133 | 299=>134 | 216=>135 | 300=>136 | 301=>137 | 328=>141 | 329=>142 | 330=>143 | 331=>144 | 332=>145 | 215=>146 | 343=>147 | n=>n,
 fun x=>match x with | 28=>22 | 3=>3 | 46=>141 | 0=>0 | 51=>159 | 53=>161 | 4=>4 | 183=>152 | 182=>151 | 131=>156 | 5=>5 | 9=>9 | 218=>162 | 222=>166 | 228=>168 | 229=>169 | n=>n,fun n=>n⟩
theorem TA:Lays.n189 Try.prog aDK:=by
 constructor <;> first | kernel_rfl | (intro w;kernel_rfl)
end Go.Proofs.Ythkfohoccnnphaa
namespace Go.Proofs.Ythkfohoccnnphaa
open Go Go.Sx Go.Pen Go.Shelf Go.RowKit Go.Sort
set_option maxRecDepth 100000
theorem uO {F:Fence} (hF:Free F) (hr:F.round=none) {n:Nat} {P:Program} {f:FuncId} {args:Array Value} {w:World} {R:Ending→World→Prop} (h:Calls P f args w R):CallsIn F n P f args w R:=by
 rw [hF.wide hr]
 exact callsIn_wide.2 h
theorem wP {w:World} {S:Nat→Prop}:∀ {l:List Int} {xs:List Value},CV.vals w S (ints l).flatten xs→xs=l.map (Value.int .i64)
 | [],[],_=>rfl
 | [],_::_,h=>by simp [ints,CV.vals] at h
 | _::_,[],h=>by simp [ints,CV.vals] at h
 | a::l,x::xs,h=>by
  simp only [ints,List.map_cons,List.flatten_cons,List.singleton_append,CV.vals,ci,CV.holds] at h
  rw [List.map_cons,h.1.1,wP (l:=l) h.2]
theorem wQ {w:World} {S:Nat→Prop}:∀ (l:List Int),CV.vals w S (ints l).flatten (l.map (Value.int .i64))
 | []=>by simp [ints,CV.vals]
 | a::l=>by
  simp only [ints,List.map_cons,List.flatten_cons,List.singleton_append,CV.vals,ci,CV.holds]
  exact ⟨⟨trivial,rfl⟩,wQ l⟩
theorem NE (l:List Int):∀ x∈ints l,x.length=1:=by
 intro x hx
 obtain ⟨a,_,rfl⟩:=List.mem_map.1 hx
 rfl
theorem aFB (l:List Int) (i:Nat) (hi:i<l.length):JU Try.prog 82 3 1 [ci (i:Int),ci ((i+1:Nat):Int)] (ints l) (ints (l.eraseIdx i)) true:=by
 intro B V j v hv hsl hT hk hes F n hF hro n0 w0 e w vs hm ha hs
 refine uO hF hro ?_
 have hl:=Vec.sl_live hsl
 obtain ⟨xs,hown0,hvals,hrows⟩:=hm.vec j v hv hl
 have hown:=hown0.s (Vec.sl_T hsl)
 rw [hes] at hvals hown hown0
 have hxs:=wP hvals
 subst hxs
 rw [hT,hk] at hown
 rw [aH] at hown
 have hvs:vs=#[e.hdr j v.ver,.int .i64 (i:Int),.int .i64 ((i+1:Nat):Int)]:=by
  apply Array.ext'
  generalize vs.toList=us at ha
  match us,ha with
  | [a,b,c],ha =>
   simp only [List.map_cons,List.map_nil,AV.all,AV.holds,CV.holds,ci,and_true] at ha
   obtain ⟨⟨h1,_⟩,⟨h2,_⟩,h3,_⟩:=ha
   rw [h1,h2,h3]
 subst hvs
 rcases hown with ⟨a,_,h0,_⟩ | ⟨hrow,g0,hg0,hob⟩
 ·omega
 rcases hrow.2 with ⟨_,h0⟩ | ⟨g,cap,cur,hh,hng,hb,h1,h2,h3,h4⟩
 ·omega
 rw [Nat.mul_one] at h4
 have hH:Holds (Value.int .i64) w g 0 l.toArray:=holds_of_blockI hb h4
 have hcap:cap≤9223372036854775807:=h2
 have hcall:=Any.slices_Delete_int aDJ g 0 cap i (i+1) l w hH h1 hcap (Nat.le_succ i) hi
 rw [hh]
 refine Calls.mono hcall ?_
 rintro en w' ⟨rfl,q,rfl⟩
 rw [show l.length - (i+1 - i)=l.length - 1 by omega]
 let ts:List Int:=l.take i++l.drop (i+1)++List.replicate (i+1 - i) 0
 have htl:ts.length=l.length:=by simp [ts];omega
 have herl:(l.eraseIdx i).length=l.length - 1:=List.length_eraseIdx_of_lt hi
 have hhp:(putRow (Value.int .i64) (Sort.ahead w q) g 0 ts.toArray).heap[g]? = some (.cells (putCells (Value.int .i64) 0 ts.toArray cur) 3 (0,0)):=by
  have:=heap_sortedI (os:=#[]) (n:=q) ts.toArray hb
  rwa [grow_empty] at this
 have hgr:w.grownBy (putRow (Value.int .i64) (Sort.ahead w q) g 0 ts.toArray) (some g):=by
  have:=grownBy_sortedI (w:=w) (g:=g) (n:=q) (os:=#[]) ts.toArray
  rwa [grow_empty] at this
 have hsz:cur.size=cap:=by simpa using h3
 have htake:=take_putCellsI cur ts (by rw [htl,hsz];exact h1)
 have htk2:(putCells (Value.int .i64) 0 ts.toArray cur).toList.take (l.length - 1)=(l.eraseIdx i).map (Value.int .i64):=by
  have e1:(l.length - 1)=min (l.length - 1) ts.length:=by omega
  rw [e1,← List.take_take,htake,← List.map_take]
  congr 1
  have e2:ts=l.eraseIdx i++List.replicate (i+1 - i) 0:=by rw [List.eraseIdx_eq_take_drop_succ]
  rw [e2,List.take_append_of_le_length (by omega),← herl,List.take_length]
 have hown':OwnsV (putRow (Value.int .i64) (Sort.ahead w q) g 0 ts.toArray) n0 v.T v.k (.slice (some ⟨g,0,none⟩) (l.length - 1) cap) (ints (l.eraseIdx i)).length ((l.eraseIdx i).map (Value.int .i64)):=by
  rw [hT,hk,aH,herl]
  refine OwnsV.of_row (by decide) ⟨by simp [herl],.inr ⟨g,cap,_,rfl,hng,hhp,by omega,h2,?_,by rw [Nat.mul_one];exact htk2⟩⟩
  simp [putCells,hsz]
 have hoblk:aW (e.hdr j v.ver)=some g:=by
  have hc:cap≠0:=by omega
  rw [hh]
  obtain ⟨c,rfl⟩:∃ c,cap=c+1:=⟨cap - 1,by omega⟩
  rfl
 have hoblk':aW (.slice (some ⟨g,0,none⟩) (l.length - 1) cap)=some g:=by
  obtain ⟨c,rfl⟩:∃ c,cap=c+1:=⟨cap - 1,by omega⟩
  rfl
 obtain ⟨env',m1,m2,m3,_⟩:=hm.vecStep (w':=putRow (Value.int .i64) (Sort.ahead w q) g 0 ts.toArray) hv hl (.slice (some ⟨g,0,none⟩) (l.length - 1) cap) (ints (l.eraseIdx i)) ((l.eraseIdx i).map (Value.int .i64))
  hown' (wQ _) (by rw [hk];exact NE _) (by rw [hoblk];exact hgr) (.inl (by rw [hoblk,hoblk']))
 have hil:=(List.getElem?_eq_some_iff.1 hv).1
 refine ⟨env',B,_,.own j (v.ver+1),_,rfl,⟨by simp,rfl,rfl⟩,m1,m2,?_,?_⟩
 ·simp only [AV.holds]
  exact ⟨m3.symm,rfl⟩
 ·simp [AV.sco,vers,List.getD,hil]
theorem aDL (l:List Int) (hl:l.length<1000000):JU Try.prog 70 3 1 [] (ints l) (ints (sorted l)) false:=by
 intro B V j v hv hsl hT hk hes F n hF hro n0 w0 e w vs hm ha hs
 refine uO hF hro ?_
 have hlv:=Vec.sl_live hsl
 obtain ⟨xs,hown0,hvals,hrows⟩:=hm.vec j v hv hlv
 have hown:=hown0.s (Vec.sl_T hsl)
 rw [hes] at hvals hown hown0
 have hxs:=wP hvals
 subst hxs
 rw [hT,hk] at hown
 rw [aH] at hown
 have hvs:vs=#[e.hdr j v.ver]:=by
  apply Array.ext'
  generalize vs.toList=us at ha
  match us,ha with
  | [a],ha =>
   simp only [List.map_nil,AV.all,AV.holds,and_true] at ha
   rw [ha.1]
 subst hvs
 have none_case:∀ (a:Option Addr) (c:Nat),e.hdr j v.ver=.slice a 0 c→l=[]→Calls Try.prog 70 #[e.hdr j v.ver] w fun en w'=>∃ e' B' V' r u,en=.returned u∧(r=(if false=true then AV.own j (v.ver+1) else .tup [])∧B'=B∧V'=V.set j ⟨v.live,v.T,v.k,if false=true then v.ver+1 else v.ver,ints (sorted l)⟩)∧Mem n0 w0 e' B' V' w'∧Ext e w B.length (vers V) (kss V) e' w' B'.length (vers V') (kss V')∧AV.holds e' w' (kss V') r u∧AV.sco B'.length (vers V') r:=by
  intro a c hh h0
  rw [hh]
  refine Calls.mono (Any.slices_Sort_int_none TA a c w) ?_
  rintro en w' ⟨rfl,rfl⟩
  subst h0
  obtain ⟨m1,m2⟩:=hm.vecSet (w':=w') hv hlv (ints (sorted [])) [] (by
   have:(ints (sorted []))=[]:=by simp [sorted,ints]
   rw [this]
   have h5:=hown0
   simp only [ints,List.map_nil,List.length_nil] at h5
   exact h5) (by simp [sorted,ints,CV.vals]) (by simp [sorted,ints]) (World.grownBy.refl w' _)
  exact ⟨e,B,_,.tup [],_,rfl,⟨by simp,rfl,rfl⟩,m1,m2,by simp [AV.holds,AV.all],by simp [AV.sco,AV.scos]⟩
 rcases hown with ⟨a,hh,h0,_⟩ | ⟨hrow,g0,hg0,hob⟩
 ·exact none_case a 0 hh (List.length_eq_zero_iff.1 h0)
 rcases hrow.2 with ⟨hh,h0⟩ | ⟨g,cap,cur,hh,hng,hb,h1,h2,h3,h4⟩
 ·exact none_case none 0 hh (List.length_eq_zero_iff.1 h0)
 rw [Nat.mul_one] at h4
 have hH:Holds (Value.int .i64) w g 0 l.toArray:=holds_of_blockI hb h4
 have hgl:g<w.heap.size:=(Array.getElem?_eq_some_iff.1 hb).1
 have hcall:=Any.slices_Sort_int TA g 0 cap l w hH hgl (by omega)
 rw [hh]
 refine Calls.mono hcall ?_
 rintro en w' ⟨rfl,q,os,rfl⟩
 have hsz:cur.size=cap*1:=h3
 have hsl':(sorted l).length=l.length:=sE l
 have hrow':=ownsRow_sortedI (n:=q) (os:=os) hsl' hng hb h1 h2 hsz
 have hgr:=grownBy_sortedI (w:=w) (g:=g) (n:=q) (os:=os) (sorted l).toArray
 have hown':OwnsV (grow (putRow (Value.int .i64) (Sort.ahead w q) g 0 (sorted l).toArray) os) n0 v.T v.k (e.hdr j v.ver) (ints (sorted l)).length ((sorted l).map (Value.int .i64)):=by
  rw [hT,hk,aH,hsl',hh]
  exact OwnsV.of_row (by decide) hrow'
 have hoblk:w.grownBy (grow (putRow (Value.int .i64) (Sort.ahead w q) g 0 (sorted l).toArray) os) (aW (e.hdr j v.ver)):=by
  rw [hg0]
  rw [hh] at hob
  simp only [Value.ownBlock,Option.some.injEq] at hob
  rw [← hob]
  exact hgr
 obtain ⟨m1,m2⟩:=hm.vecSet hv hlv (ints (sorted l)) _ hown' (wQ _) (by rw [hk];exact NE _) hoblk
 exact ⟨e,B,_,.tup [],_,rfl,⟨by simp,rfl,rfl⟩,m1,m2,by simp [AV.holds,AV.all],by simp [AV.sco,AV.scos]⟩
end Go.Proofs.Ythkfohoccnnphaa
namespace Go.Proofs.Ythkfohoccnnphaa
open Go Go.Sx Go.Pen
set_option maxRecDepth 100000
open Classical in
noncomputable def NF:List CV→Option (List CV)
 | [.row 1 es,.fn 3 [],.val (.int .i64 lo),.val (.int .i64 hi)]=>if es=ints (qP es)∧0≤lo∧lo<es.length∧hi=lo+1 then some [.row 1 (ints ((qP es).eraseIdx lo.toNat)),.val (.bool true)] else none
 | _=>none
open Classical in
noncomputable def CO:List CV→Option (List CV)
 | [.row 1 es,.fn 3 []]=>if es=ints (qP es)∧es.length<1000000 then some [.row 1 (ints (sorted (qP es))),.val (.bool false)] else none
 | _=>none
theorem NG {f:Nat} {it:List CV→Option (List CV)} (h:∀ caps out,it caps=some out→∃ es cs es' hdr,caps=.row 1 es::.fn 3 []::cs∧out=[.row 1 es',.val (.bool hdr)]∧dJ Try.prog f=true∧JU Try.prog f 3 1 cs es es' hdr):ID f it:=by
 intro caps out ho
 obtain ⟨es,cs,es',hdr,rfl,rfl,he,hm⟩:=h caps out ho
 refine ⟨fun rows sh hr=>by simp at hr,fun xs hx=>by simp [intsOf] at hx,fun k e T hr=>by simp at hr,fun T k cs1 e e' hd h1 h2=>?_,fun k T b h1=>by simp at h1,fun T fs h1=>by simp at h1⟩
 simp only [List.cons.injEq,CV.row.injEq,CV.fn.injEq,CV.val.injEq,Value.bool.injEq,and_true] at h1 h2
 obtain ⟨⟨rfl,rfl⟩,rfl,rfl⟩:=h1
 obtain ⟨⟨_,rfl⟩,rfl⟩:=h2
 exact ⟨he,hm⟩
theorem aB0:ID 82 NF:=NG fun caps out h=>by
 unfold NF at h
 split at h
 ·rename_i es lo hi
  split at h
  ·rename_i hc
   obtain ⟨he,h0,h1,rfl⟩:=hc
   cases h
   have hl:(qP es).length=es.length:=by simp [qP]
   obtain ⟨m,rfl⟩:∃ m:Nat,lo=m:=⟨lo.toNat,by omega⟩
   have:=aFB (qP es) m (by omega)
   rw [← he] at this
   exact ⟨es,_,_,true,rfl,rfl,by kernel_rfl,this⟩
  ·cases h
 ·cases h
theorem aAt:ID 70 CO:=NG fun caps out h=>by
 unfold CO at h
 split at h
 ·rename_i es
  split at h
  ·rename_i hc
   obtain ⟨he,h0⟩:=hc
   cases h
   have hl:(qP es).length=es.length:=by simp [qP]
   have:=aDL (qP es) (by omega)
   rw [← he] at this
   exact ⟨es,_,_,false,rfl,rfl,by kernel_rfl,this⟩
  ·cases h
 ·cases h
def TB:List CV→Option (List CV)
 | [.fn 124 [],.fn 94 [],.fn 95 [],.fn 97 [],.fn 98 []]=>some [.fn 0 []]
 | _=>none
theorem aB1:ID 104 TB:=by
 intro caps out h
 unfold TB at h
 split at h
 ·cases h
  refine ⟨fun rows sh hr=>by simp at hr,fun xs hx=>by simp [intsOf] at hx,fun k e T hr=>by simp at hr,fun T k cs1 e e' hd h1=>by simp at h1,fun k T b h1=>by simp at h1,fun T fs h1 _=>?_⟩
  simp only [List.cons.injEq,CV.fn.injEq,and_true] at h1
  obtain ⟨rfl,h1⟩:=h1
  have h2:fs=[94,95,97,98]:=by
   match fs,h1 with
   | [a,b,c,d],h1=>simpa [eq_comm] using h1
   | [],h1=>simp at h1
   | [_],h1=>simp at h1
   | [_,_],h1=>simp at h1
   | [_,_,_],h1=>simp at h1
   | _::_::_::_::_::_,h1=>simp at h1
  subst h2
  exact ⟨by kernel_rfl,aDr⟩
 ·cases h
noncomputable def its:ITS:=[(76,jZ),(116,FR),(121,FT),(82,NF),(70,CO),(104,TB)]
theorem aDM:RY Try.prog its:=by
 intro e he
 simp only [its,List.mem_cons,List.not_mem_nil,or_false] at he
 rcases he with rfl | rfl | rfl | rfl | rfl | rfl
 ·exact FI
 ·exact aBY
 ·exact aBZ
 ·exact aB0
 ·exact aAt
 ·exact aB1
theorem aB2 (n:Nat):Fns Try.prog sg (D its n):=RZ aDM (by constructor <;> kernel_rfl) aCK n
theorem aFC (n:Nat) (vs:List CV):D its (n+1) 121 vs=FT vs:=by kernel_rfl
theorem aFD (n:Nat) (vs:List CV):D its (n+1) 82 vs=NF vs:=by kernel_rfl
theorem aFE (n:Nat) (vs:List CV):D its (n+1) 70 vs=CO vs:=by kernel_rfl
theorem aFF (n:Nat) (vs:List CV):D its (n+1) 104 vs=TB vs:=by kernel_rfl
theorem aFG (n:Nat) (vs:List CV):D its (n+1) 76 vs=jZ vs:=by kernel_rfl
theorem aAu:ItsM its where
 all n y l hy hs:=by
  show FR _=_
  exact aAr hy hs
 lists n k many hk h0 hm:=by
  rw [aFC]
  exact aAs hk h0 hm
 del n l i hi hl:=by
  rw [aFD]
  simp only [NF,ci]
  rw [if_pos (by rw [kF,aH];refine ⟨rfl,?_,?_,?_⟩ <;> omega),kF]
  simp
 sort n l hl:=by
  rw [aFE]
  simp only [CO]
  rw [if_pos (by rw [kF,aH];exact ⟨rfl,hl⟩),kF]
  rfl
theorem WD (n:Nat):D its (n+10) jV []=some [cb true]:=aDG aAu n
theorem aB3 {f:FuncId} {g:Sig} {vs out:List CV} {n:Nat} (hg:sg f=some g) (h:D its n f vs=some out):SpecR Try.prog f (Sc.avs g.ps vs 0) (Sc.res g.rs out):=(aB2 n).spec f g vs out hg h
end Go.Proofs.Ythkfohoccnnphaa
namespace Go.Proofs.Ythkfohoccnnphaa
open Go Go.Sx Go.Pen
set_option maxRecDepth 100000
theorem qK {n:Nat} {c:List CV} (h:Shp Try.prog (n+1) 3 c):∃ m:Int,c=[ci m]∧-9223372036854775808≤m∧m<9223372036854775808:=by
 simp only [Shp,Try.underlying3] at h
 obtain ⟨m,rfl,hm⟩:=h
 refine ⟨m,rfl,?_⟩
 simp [Lit.wf,IntKind.min,IntKind.max,IntKind.signed,IntKind.bits] at hm
 omega
theorem IQ {A:Type} {cv:A→List CV}:∀ {es:List (List CV)},(∀ x∈es,∃ a,x=cv a)→∃ l:List A,es=l.map cv
 | [],_=>⟨[],rfl⟩
 | e::es,h=>by
  obtain ⟨a,rfl⟩:=h e (by simp)
  obtain ⟨l,rfl⟩:=IQ (es:=es) fun x hx=>h x (by simp [hx])
  exact ⟨a::l,rfl⟩
theorem FU {n m:Nat} (h:n*m≤reachBytes) (hm:2≤m):n<100000000000000:=by
 have h1:n*2≤n*m:=Nat.mul_le_mul_left _ hm
 have h2:reachBytes<2 ^ 47:=by decide
 omega
theorem CP {n:Nat} {c:List CV} (h:Shp Try.prog (n+2) 22 c):∃ l:List Int,l.length<100000000000000∧c=[.row 1 (Pen.ints l)]:=by
 have c3:Try.prog.cellsOf 3=1:=by kernel_rfl
 have b3:Try.prog.bytesOf 3=8:=by kernel_rfl
 rw [Shp] at h
 simp only [Try.underlying22,c3,b3] at h
 obtain ⟨es,rfl,hes,hb⟩:=h
 obtain ⟨l,rfl⟩:=IQ (cv:=fun x:Int=>[ci x]) fun x hx=>by
  obtain ⟨m,rfl,_⟩:=qK (hes x hx)
  exact ⟨m,rfl⟩
 rw [List.length_map] at hb
 exact ⟨l,FU hb (by omega),rfl⟩
theorem aAv {n:Nat} {c:List CV} (h:Shp Try.prog (n+2) 37 c):∃ k:Kd,c=k.cv:=by
 rw [Shp] at h
 simp only [Try.underlying37,List.map_cons,List.map_nil,PV] at h
 obtain ⟨_,_,rfl,h1,_,_,rfl,h2,_,_,rfl,h3,_,_,rfl,h4,rfl⟩:=h
 obtain ⟨m1,rfl,_⟩:=qK h1
 obtain ⟨m2,rfl,_⟩:=qK h2
 obtain ⟨m3,rfl,_⟩:=qK h3
 obtain ⟨m4,rfl,_⟩:=qK h4
 exact ⟨⟨m1,m2,m3,m4⟩,rfl⟩
theorem WE {n:Nat} {c:List CV} (h:Shp Try.prog (n+3) 23 c):∃ l:List Kd,l.length<100000000000000∧c=[.row 4 (l.map Kd.cv)]:=by
 have c3:Try.prog.cellsOf 37=4:=by kernel_rfl
 have b3:Try.prog.bytesOf 37=32:=by kernel_rfl
 rw [Shp] at h
 simp only [Try.underlying23,c3,b3] at h
 obtain ⟨es,rfl,hes,hb⟩:=h
 obtain ⟨l,rfl⟩:=IQ (cv:=Kd.cv) fun x hx=>aAv (hes x hx)
 rw [List.length_map] at hb
 exact ⟨l,FU hb (by omega),rfl⟩
theorem aAw {n:Nat} {c:List CV} (h:Shp Try.prog (n+4) 25 c):∃ y:Yard,Fit y∧c=[.row 1 y.ps,.row 4 y.ks]:=by
 rw [Shp] at h
 simp only [Try.underlying25,List.map_cons,List.map_nil,PV] at h
 obtain ⟨_,_,rfl,h1,_,_,rfl,h2,rfl⟩:=h
 obtain ⟨a,ha,rfl⟩:=CP h1
 obtain ⟨b,hb,rfl⟩:=WE h2
 exact ⟨⟨a,b⟩,⟨by show a.length<_;omega,by show b.length<_;omega⟩,rfl⟩
theorem aB4 {n:Nat} {c:List CV} (h:Shp Try.prog (n+3) 67 c):∃ (k:Int) (p:List Int),p.length<100000000000000∧c=[ci k,.row 1 (Pen.ints p)]:=by
 rw [Shp] at h
 simp only [Try.underlying67,List.map_cons,List.map_nil,PV] at h
 obtain ⟨_,_,rfl,h1,_,_,rfl,h2,rfl⟩:=h
 obtain ⟨m1,rfl,_⟩:=qK h1
 obtain ⟨p,hp,rfl⟩:=CP h2
 exact ⟨m1,p,hp,rfl⟩
end Go.Proofs.Ythkfohoccnnphaa
namespace Go.Proofs.Ythkfohoccnnphaa
open Go Go.Sx Go.Pen Go.ChangeShapes Go.WideShapes Go.ChangeAt Go.RowKit
set_option maxRecDepth 100000
theorem Try.own:ownKnob Try.prog.godebug=none:=by kernel_rfl
theorem Try.kids:Kids Try.prog (·<Try.prog.types.size):=kids_rows (by kernel_rfl) (by kernel_rfl)
theorem Try.full:∀ t e,t<Try.prog.types.size→Try.prog.underlying t=some (.slice e)→0<Try.prog.cellsOf e:=slices_full_of Try.prog (by kernel_rfl)
end Go.Proofs.Ythkfohoccnnphaa
namespace Go.Pen
open Go.Sx
def gT {A:Type} (f:A→Int):List A→Int
 | []=>0
 | a::l=>f a+gT f l
theorem pQ {A:Type} (f:A→Int):∀ (l:List A) (a:Int),l.foldl (fun n s=>n+f s) a=a+gT f l
 | [],a=>by simp [gT]
 | x::l,a=>by rw [List.foldl_cons,pQ f l];simp only [gT];omega
end Go.Pen
namespace Go.Pen
open Go.Sx
def sumF (f:Nat→Int):Nat→Int
 | 0=>0
 | k+1=>sumF f k+f k
theorem CQ {f g:Nat→Int}:∀ {n},(∀ i,i<n→f i=g i)→sumF f n=sumF g n
 | 0,_=>rfl
 | n+1,h=>by simp only [sumF,CQ (n:=n) fun i hi=>h i (by omega),h n (by omega)]
theorem CR {f:Nat→Int} {c:Int} (h:∀ i,0≤f i∧f i≤c):∀ n:Nat,0≤sumF f n∧sumF f n≤c*(n:Int)
 | 0=>by simp [sumF]
 | n+1=>by
  have h1:=CR h n
  have h2:=h n
  simp only [sumF]
  have:c*((n+1:Nat):Int)=c*(n:Int)+c:=by rw [Int.natCast_add,Int.mul_add];simp
  omega
theorem FV (y:Yard) (l p:List Int) (pen:Int):∀ (k:Nat),k≤l.length→k≤p.length→load y ((l.zip p).take k) pen=sumF (fun j=>if p.getD j 0=pen then rm y (l.getD j 0) else 0) k
 | 0,_,_=>by simp [load,sumF]
 | k+1,h1,h2=>by
  have hk:k<(l.zip p).length:=by simp;omega
  rw [← List.take_append_getElem hk,oY,FV y l p pen k (by omega) (by omega)]
  have hl:l.getD k 0=l[k]:=by simp [show k<l.length by omega]
  have hp:p.getD k 0=p[k]:=by simp [show k<p.length by omega]
  simp only [sumF,List.getElem_zip,load,hl,hp]
  omega
def qQ (y:Yard) (l p:List Int) (i:Nat) (pen:Int) (j:Nat):Int:=if p.getD j 0=pen∧j≠i then rm y (l.getD j 0) else 0
def badR (y:Yard) (l p:List Int) (i:Nat) (pen:Int) (k:Nat):Bool:=decide (p.getD k 0=pen∧k≠i)&&apt y (l.getD k 0) (l.getD i 0)
def FW (y:Yard) (l p:List Int) (i:Nat) (pen:Int):Bool:=(List.range p.length).all (fun k=>!badR y l p i pen k)&&decide (rm y (l.getD i 0)+sumF (qQ y l p i pen) p.length≤y.pens.getD pen.toNat 0)
theorem CS {y:Yard} {l p:List Int} (h:p.length<l.length) {pen:Int} (hp:within pen 0 ((y.pens.length:Int) - 1)=true):FW y l p p.length pen=jO y (l.zip p) (l.getD p.length 0) pen:=by
 have hz:(l.zip p).length=p.length:=by simp;omega
 have hld:=FV y l p pen p.length (by omega) (Nat.le_refl _)
 have ht:(l.zip p).take p.length=l.zip p:=by rw [← hz,List.take_length]
 rw [ht] at hld
 have hs:sumF (qQ y l p p.length pen) p.length=load y (l.zip p) pen:=by
  rw [hld]
  refine CQ fun i hi=>?_
  unfold qQ
  by_cases e:p.getD i 0=pen
  ·rw [if_pos ⟨e,by omega⟩,if_pos e]
  ·rw [if_neg (fun h=>e h.1),if_neg e]
 unfold FW jO
 rw [hp,Bool.true_and,hs,Bool.and_comm]
 congr 1
 ·rw [Bool.eq_iff_iff,decide_eq_true_eq,decide_eq_true_eq];omega
 ·rw [Bool.eq_iff_iff,List.all_eq_true,List.all_eq_true]
  simp only [List.mem_range,badR,Bool.not_eq_true',Bool.and_eq_false_iff,decide_eq_false_iff_not,beq_eq_false_iff_ne]
  constructor
  ·intro h1 x hx
   obtain ⟨k,hk,rfl⟩:=List.mem_iff_getElem.1 hx
   have hkp:k<p.length:=by omega
   have hkl:k<l.length:=by omega
   have:=h1 k hkp
   have e1:p.getD k 0=p[k]:=by simp [hkp]
   have e2:l.getD k 0=l[k]:=by simp [hkl]
   rw [e1,e2] at this
   rw [List.getElem_zip]
   rcases this with h2 | h2
   ·exact Or.inl fun e=>h2 ⟨e,by omega⟩
   ·exact Or.inr h2
  ·intro h1 k hk
   have hkl:k<l.length:=by omega
   have hkz:k<(l.zip p).length:=by omega
   have:=h1 _ (List.getElem_mem hkz)
   rw [List.getElem_zip] at this
   have e1:p.getD k 0=p[k]:=by simp [hk]
   have e2:l.getD k 0=l[k]:=by simp [hkl]
   rw [e1,e2]
   rcases this with h2 | h2
   ·exact Or.inl fun e=>h2 e.1
   ·exact Or.inr h2
end Go.Pen
namespace Go.Pen
open Go.Sx
theorem WF {y:Yard} (hr:∀ s,0≤rm y s) {z w:BP} (h:z.Sublist w) (q:Int):load y z q≤load y w q:=by
 induction h with
 | slnil=>exact Int.le_refl _
 | cons a _ ih =>
  obtain ⟨s,r⟩:=a
  simp only [load]
  have:=hr s
  split <;> omega
 | cons_cons a _ ih =>
  obtain ⟨s,r⟩:=a
  simp only [load]
  omega
theorem WG {y:Yard} (hr:∀ s,0≤rm y s) {z w:BP} (h:z.Sublist w) (hw:Good y w):Good y z:=by
 refine ⟨fun x hx=>?_,hw.2.sublist h⟩
 have h1:=hw.1 x (h.subset hx)
 exact ⟨h1.1,Int.le_trans (WF hr h x.2) h1.2⟩
theorem aAx {A B:Type} {l w:List A} (h:l.Sublist w):∀ p:List B,p.length=w.length→∃ q:List B,q.length=l.length∧(l.zip q).Sublist (w.zip p):=by
 induction h with
 | slnil=>intro p _;exact ⟨[],rfl,by simp⟩
 | cons a _ ih =>
  intro p hp
  cases p with
  | nil=>simp at hp
  | cons b p =>
   obtain ⟨q,h1,h2⟩:=ih p (by simpa using hp)
   exact ⟨q,h1,by simpa using h2.cons (a,b)⟩
 | cons_cons a _ ih =>
  intro p hp
  cases p with
  | nil=>simp at hp
  | cons b p =>
   obtain ⟨q,h1,h2⟩:=ih p (by simpa using hp)
   exact ⟨b::q,by simp [h1],by simpa using h2⟩
theorem IR {y:Yard} (hr:∀ s,0≤rm y s) (l:List Int):can y l=true↔∃ p:List Int,p.length=l.length∧Good y (l.zip p):=by
 have h1:can y l=true↔PL y l≠[]:=by unfold can;cases PL y l <;> simp
 rw [h1]
 constructor
 ·intro h
  obtain ⟨p,hp⟩:=List.exists_mem_of_ne_nil _ h
  obtain ⟨h2,h3⟩:=nD.1 hp
  unfold okP at h3
  rw [Bool.and_eq_true] at h3
  exact ⟨p,h2,(zG hr _ _ rfl).1 h3.2⟩
 ·rintro ⟨p,h2,h3⟩
  refine List.ne_nil_of_mem (nD.2 ⟨h2,?_⟩)
  unfold okP
  rw [Bool.and_eq_true,decide_eq_true_eq]
  exact ⟨by omega,(zG hr _ _ rfl).2 h3⟩
theorem NH {y:Yard} (hr:∀ s,0≤rm y s) {l w:List Int} (h:l.Sublist w) (hw:can y w=true):can y l=true:=by
 rw [IR hr] at hw ⊢
 obtain ⟨p,h1,h2⟩:=hw
 obtain ⟨q,h3,h4⟩:=aAx h p h1
 exact ⟨q,h3,WG hr h4 h2⟩
end Go.Pen
namespace Go.Pen
open Go.Sx
theorem NI {l:List Int}:∀ {b:List Int} {frm:Nat},b.Pairwise (·<·)→(∀ i∈b,(frm:Int)≤i∧i<l.length)→(ofL l b).Sublist (l.drop frm)
 | [],_,_,_=>List.nil_sublist _
 | a::b,frm,h1,h2=>by
  rw [List.pairwise_cons] at h1
  obtain ⟨ha1,ha2⟩:=h2 a (by simp)
  have ih:=NI (l:=l) (b:=b) (frm:=a.toNat+1) h1.2 fun i hi=>by have:=h1.1 i hi;have:=h2 i (by simp [hi]);omega
  have hlt:a.toNat<l.length:=by omega
  have e:l.drop a.toNat=l[a.toNat]::l.drop (a.toNat+1):=List.drop_eq_getElem_cons hlt
  have hs:(ofL l (a::b)).Sublist (l.drop a.toNat):=by
   rw [e]
   have:ofL l (a::b)=l[a.toNat]::ofL l b:=by simp [ofL,hlt]
   rw [this]
   exact ih.cons_cons _
  have hd:l.drop a.toNat=(l.drop frm).drop (a.toNat - frm):=by rw [List.drop_drop];congr 1;omega
  rw [hd] at hs
  exact hs.trans (List.drop_sublist _ _)
theorem zR {l b:List Int} (h1:b.Pairwise (·<·)) (h2:inR l b):(ofL l b).Sublist l:=NI (frm:=0) h1 h2
theorem yI {y:Yard} (h:y.ok=true):∀ x∈y.pens,0≤x:=by
 unfold Yard.ok at h
 simp only [Bool.and_eq_true,List.all_eq_true,within,decide_eq_true_eq] at h
 exact fun x hx=>(h.1.1.2 x hx).1
theorem NJ {y:Yard} (hr:∀ s,0≤rm y s) {s q:Int}:∀ {z:BP},(s,q)∈z→rm y s≤load y z q
 | (a,r)::z,h=>by
  have h0:0≤load y z q:=by
   clear h
   induction z with
   | nil=>simp [load]
   | cons x z ih=>obtain ⟨c,d⟩:=x;simp only [load];have:=hr c;split <;> omega
  simp only [load]
  rcases List.mem_cons.1 h with h | h
  ·cases h;simp;omega
  ·have:=NJ hr h
   have:=hr a
   split <;> omega
theorem aDN {y:Yard} (hr:∀ s,0≤rm y s) {l:List Int} {s:Int} (hs:s∈l) (hb:fW y s=true):can y l=false:=by
 rw [Bool.eq_false_iff]
 intro hc
 obtain ⟨p,h1,h2⟩:=(IR hr l).1 hc
 obtain ⟨i,hi,rfl⟩:=List.getElem_of_mem hs
 have hm:(l[i],p[i]'(by omega))∈l.zip p:=List.mem_iff_getElem.2 ⟨i,by simp;omega,by simp⟩
 obtain ⟨h3,h4⟩:=h2.1 _ hm
 have h5:=NJ hr hm
 simp only [within,Bool.and_eq_true,decide_eq_true_eq] at h3
 simp only [] at h4
 have hq:(p[i]'(by omega)).toNat<y.pens.length:=by omega
 unfold fW at hb
 rw [List.all_eq_true] at hb
 have:=hb y.pens[(p[i]'(by omega)).toNat] (List.getElem_mem hq)
 simp only [Bool.not_eq_true',decide_eq_false_iff_not] at this
 rw [List.getD_eq_getElem?_getD,List.getElem?_eq_getElem hq,Option.getD_some] at h4
 omega
theorem FX (y:Yard) (l:List Int):rA y l=gT (rm y) l:=by
 unfold rA;rw [pQ];omega
theorem FY (y:Yard):total y=gT (fun x=>x) y.pens:=by
 unfold total;rw [pQ];omega
def upto (f:Nat→Int):Nat→Int
 | 0=>0
 | n+1=>upto f n+f n
theorem TC {f g:Nat→Int}:∀ n,(∀ i,i<n→f i≤g i)→upto f n≤upto g n
 | 0,_=>Int.le_refl _
 | n+1,h=>by
  have:=TC n fun i hi=>h i (by omega)
  have:=h n (by omega)
  simp only [upto];omega
theorem NK (f g:Nat→Int):∀ n,upto (fun i=>f i+g i) n=upto f n+upto g n
 | 0=>rfl
 | n+1=>by simp only [upto,NK f g n];omega
theorem NL (c:Int) (q:Int):∀ n:Nat,upto (fun i=>if q=(i:Int) then c else 0) n=if 0≤q∧q<n then c else 0
 | 0=>by simp only [upto];rw [if_neg (by omega)]
 | n+1=>by
  simp only [upto,NL c q n]
  by_cases h:0≤q∧q<n
  ·rw [if_pos h,if_neg (by omega),if_pos (by omega)];omega
  ·rw [if_neg h]
   by_cases h2:q=n
   ·rw [if_pos h2,if_pos (by omega)];omega
   ·rw [if_neg h2,if_neg (by omega)];rfl
theorem NM (l:List Int):∀ n,n≤l.length→upto (fun i=>l.getD i 0) n=gT (fun x=>x) (l.take n)
 | 0,_=>rfl
 | n+1,h=>by
  have hn:n<l.length:=by omega
  rw [← List.take_append_getElem hn]
  have:∀ (a:List Int) (x:Int),gT (fun x=>x) (a++[x])=gT (fun x=>x) a+x:=by
   intro a x
   induction a with
   | nil=>simp [gT]
   | cons b a ih=>simp only [List.cons_append,gT,ih];omega
  rw [this]
  have hg:l.getD n 0=l[n]:=by simp [hn]
  simp only [upto,NM l n (by omega),hg]
theorem NN {y:Yard} (n:Nat):∀ {z:BP},(∀ x∈z,0≤x.2∧x.2<n)→upto (fun q=>load y z q) n=gT (rm y) (z.map Prod.fst)
 | [],_=>by
  have:∀ n,upto (fun _=>(0:Int)) n=0:=by intro n;induction n with | zero=>rfl | succ n ih=>simp only [upto,ih];rfl
  simp only [load,this,List.map_nil,gT]
 | (s,q)::z,h=>by
  have ih:=NN (y:=y) n (z:=z) fun x hx=>h x (by simp [hx])
  have hq:=h (s,q) (by simp)
  have e:(fun (i:Nat)=>load y ((s,q)::z) i)=fun (i:Nat)=>(if q=(i:Int) then rm y s else 0)+load y z i:=by
   funext i;simp only [load]
  rw [e,NK,ih,NL,if_pos hq]
  simp only [List.map_cons,gT]
theorem FZ {y:Yard} {q:Int}:∀ {z:BP},(∀ x∈z,x.2≠q)→load y z q=0
 | [],_=>rfl
 | (s,r)::z,h=>by
  have:=h (s,r) (by simp)
  simp only [load]
  rw [if_neg this,FZ fun x hx=>h x (by simp [hx])]
  rfl
theorem aB5 {y:Yard} (hy:y.ok=true) (hr:∀ s,0≤rm y s) {l:List Int} (h:rA y l > total y):can y l=false:=by
 rw [Bool.eq_false_iff]
 intro hc
 obtain ⟨p,h1,h2⟩:=(IR hr l).1 hc
 have hin:∀ x∈l.zip p,0≤x.2∧x.2<(y.pens.length:Int):=by
  intro x hx
  have:=(h2.1 x hx).1
  simp only [within,Bool.and_eq_true,decide_eq_true_eq] at this
  omega
 have e1:=NN (y:=y) y.pens.length hin
 rw [List.map_fst_zip (by omega)] at e1
 have e2:upto (fun (q:Nat)=>load y (l.zip p) q) y.pens.length≤upto (fun i=>y.pens.getD i 0) y.pens.length:=by
  refine TC _ fun i hi=>?_
  by_cases hex:∃ x∈l.zip p,x.2=(i:Int)
  ·obtain ⟨x,hx,he⟩:=hex
   have:=(h2.1 x hx).2
   rw [he] at this
   simpa using this
  ·rw [FZ fun x hx he=>hex ⟨x,hx,he⟩]
   have:y.pens.getD i 0=y.pens[i]:=by simp [hi]
   rw [this]
   exact yI hy _ (List.getElem_mem hi)
 rw [NM _ _ (Nat.le_refl _),List.take_length,← FY] at e2
 rw [FX] at h
 omega
theorem IS:∀ (n:Nat) (p:List Int),p.Nodup→(∀ x∈p,0≤x∧x<n)→p.length≤n
 | 0,p,_,h=>by
  cases p with
  | nil=>simp
  | cons a p=>have:=h a (by simp);omega
 | n+1,p,hp,h=>by
  by_cases hm:(n:Int)∈p
  ·have h1:=IS n (p.erase (n:Int)) (hp.erase _) fun x hx=>by
    obtain ⟨h2,h3⟩:=(hp.mem_erase_iff).1 hx
    have:=h x h3
    omega
   rw [List.length_erase_of_mem hm] at h1
   omega
  ·have h1:=IS n p hp fun x hx=>by
    have:=h x hx
    have:x≠n:=fun e=>hm (e▸hx)
    omega
   omega
theorem aB6 {y:Yard} (hr:∀ s,0≤rm y s) {l:List Int} (ha:cK y l=true) (hl:l.length=y.pens.length+1):can y l=false:=by
 rw [Bool.eq_false_iff]
 intro hc
 obtain ⟨p,h1,h2⟩:=(IR hr l).1 hc
 have hnd:p.Nodup:=by
  rw [List.Nodup,List.pairwise_iff_getElem]
  intro i j hi hj hij he
  have hg:=List.pairwise_iff_getElem.1 h2.2 i j (by simp;omega) (by simp;omega) hij
  refine hg ⟨by simpa using he,?_⟩
  unfold cK at ha
  simp only [List.all_eq_true,List.mem_range] at ha
  have:=ha j (by omega) i hij
  rw [tR] at this
  simpa [show i<l.length by omega,show j<l.length by omega] using this
 have hin:∀ x∈p,0≤x∧x<(y.pens.length:Int):=by
  intro x hx
  obtain ⟨i,hi,rfl⟩:=List.getElem_of_mem hx
  have hm:(l[i]'(by omega),p[i])∈l.zip p:=List.mem_iff_getElem.2 ⟨i,by simp;omega,by simp⟩
  have:=(h2.1 _ hm).1
  simp only [within,Bool.and_eq_true,decide_eq_true_eq] at this
  omega
 have:=IS _ p hnd hin
 omega
def ill (y:Yard) (l:List Int) (k:Int) (b:List Int):Bool:=if k=1 then big y l b else if k=2 then nH y l b else if k=3 then many y l b else iM y l b
def wR (l b:List Int) (i:Nat):Bool:=!within (b.getD i 0) 0 ((l.length:Int) - 1) || (decide (0<i)&&decide (b.getD (i - 1) 0≥b.getD i 0))
def fO (l b:List Int):Bool:=(List.range b.length).all fun i=>!wR l b i
def less (y:Yard) (l:List Int) (k:Int) (b:List Int):Bool:=(List.range b.length).any fun i=>ill y l k (b.eraseIdx i)
def iC (y:Yard) (l:List Int) (k:Int) (b:List Int):Bool:=
 fO l b&&(within k 1 4&&decide (b.length≠0)&&ill y l k b)&&!(decide (k=2∨k=4)&&less y l k b)
def uP (y:Yard) (l:List Int) (k:Int) (b:List Int):Int:=if asked y l=0 then (if iC y l k b=true then 0 else 54) else asked y l
theorem wS {l b:List Int} (h:fO l b=true):b.Pairwise (·<·)∧inR l b:=by
 unfold fO wR at h
 simp only [List.all_eq_true,List.mem_range,Bool.not_eq_true',Bool.or_eq_false_iff,Bool.and_eq_false_iff,Bool.not_eq_false',within,Bool.and_eq_true,decide_eq_true_eq,decide_eq_false_iff_not] at h
 have hg:∀ i (hi:i<b.length),b.getD i 0=b[i]:=fun i hi=>by simp [hi]
 constructor
 ·rw [List.pairwise_iff_getElem]
  intro i j hi hj hij
  obtain ⟨k,rfl⟩:∃ k,j=i+1+k:=⟨j - i - 1,by omega⟩
  induction k with
  | zero =>
   have:=(h (i+1) (by omega)).2
   rw [show i+1 - 1=i by omega,hg i hi,hg (i+1) hj] at this
   simp only [Nat.add_zero]
   omega
  | succ k ih =>
   have h1:=ih (by omega) (by omega)
   have:=(h (i+1+(k+1)) hj).2
   rw [show i+1+(k+1) - 1=i+1+k by omega,hg (i+1+k) (by omega),hg _ hj] at this
   omega
 ·intro x hx
  obtain ⟨i,hi,rfl⟩:=List.getElem_of_mem hx
  have:=(h i hi).1
  rw [hg i hi] at this
  omega
theorem GA {l b:List Int} (h1:b.Pairwise (·<·)) (h2:inR l b):fO l b=true:=by
 unfold fO wR
 have hg:∀ i (hi:i<b.length),b.getD i 0=b[i]:=fun i hi=>by simp [hi]
 simp only [List.all_eq_true,List.mem_range,Bool.not_eq_true',Bool.or_eq_false_iff,Bool.and_eq_false_iff,Bool.not_eq_false',within,Bool.and_eq_true,decide_eq_true_eq,decide_eq_false_iff_not]
 intro i hi
 have h3:=h2 _ (List.getElem_mem hi)
 refine ⟨by rw [hg i hi];omega,?_⟩
 by_cases h0:0<i
 ·right
  have:=List.pairwise_iff_getElem.1 h1 (i - 1) i (by omega) hi (by omega)
  rw [hg i hi,hg (i - 1) (by omega)]
  omega
 ·left;exact h0
theorem aAy {A:Type}:∀ {b:List A} {i j:Nat},i≤j→((b.eraseIdx i).eraseIdx j).Sublist (b.eraseIdx (j+1))
 | [],_,_,_=>by simp
 | a::b,0,j,_=>by simp
 | a::b,i+1,0,h=>by omega
 | a::b,i+1,j+1,h=>by
  simp only [List.eraseIdx_cons_succ]
  exact (aAy (b:=b) (by omega)).cons_cons a
theorem sT {f:List Int→Bool} (hm:∀ a b:List Int,a.Sublist b→f a=true→f b=true):∀ (k:Nat) (b:List Int),f b=true→(∀ j,k≤j→j<b.length→f (b.eraseIdx j)=false) →
  (least f k b).Sublist b∧f (least f k b)=true∧∀ j,j<(least f k b).length→f ((least f k b).eraseIdx j)=false
 | 0,b,h1,h2=>⟨List.Sublist.refl _,h1,fun j hj=>h2 j (by omega) hj⟩
 | i+1,b,h1,h2=>by
  simp only [least]
  by_cases hc:f (b.eraseIdx i)=true
  ·rw [if_pos hc]
   have:=sT hm i (b.eraseIdx i) hc fun j hij hj=>by
    by_cases hib:i<b.length
    ·rw [List.length_eraseIdx_of_lt hib] at hj
     have h3:=h2 (j+1) (by omega) (by omega)
     rw [Bool.eq_false_iff] at h3 ⊢
     exact fun h=>h3 (hm _ _ (aAy hij) h)
    ·rw [List.eraseIdx_of_length_le (by omega)] at hj
     omega
   exact ⟨this.1.trans (List.eraseIdx_sublist _ _),this.2⟩
  ·rw [if_neg hc]
   refine sT hm i b h1 fun j hij hj=>?_
   by_cases hji:j=i
   ·subst hji;simpa using hc
   ·exact h2 j (by omega) hj
theorem QO {f:Int→Int} (hf:∀ x,0≤f x) {a b:List Int} (h:a.Sublist b):gT f a≤gT f b:=by
 induction h with
 | slnil=>exact Int.le_refl _
 | cons x _ ih=>simp only [gT];have:=hf x;omega
 | cons_cons x _ ih=>simp only [gT];omega
theorem uQ {l a b:List Int} (h:a.Sublist b):(ofL l a).Sublist (ofL l b):=h.map _
theorem WH {y:Yard} (hr:∀ s,0≤rm y s) {l a b:List Int} (h:a.Sublist b) (hm:nH y l a=true):nH y l b=true:=by
 unfold nH at hm ⊢
 rw [decide_eq_true_eq,FX] at hm ⊢
 have:=QO hr (uQ (l:=l) h)
 omega
theorem QP {y:Yard} (hr:∀ s,0≤rm y s) {l a b:List Int} (h:a.Sublist b) (hm:iM y l a=true):iM y l b=true:=by
 unfold iM at hm ⊢
 rw [Bool.not_eq_true'] at hm ⊢
 cases hc:can y (ofL l b) with
 | false=>rfl
 | true=>rw [NH hr (uQ (l:=l) h) hc] at hm;cases hm
theorem IT {y:Yard} (hy:y.ok=true):0≤total y:=by
 rw [FY]
 have:=yI hy
 generalize y.pens=p at this
 induction p with
 | nil=>simp [gT]
 | cons a p ih =>
  have h1:=this a (by simp)
  have h2:=ih fun x hx=>this x (by simp [hx])
  simp only [gT];omega
theorem QQ (l:List Int):(idx l).Pairwise (·<·):=by
 unfold idx
 rw [List.pairwise_map]
 exact List.pairwise_lt_range.imp fun h=>by omega
theorem wT (l:List Int):(idx l).length=l.length:=by simp [idx]
theorem DR {y:Yard} (hy:y.ok=true) (hr:∀ s,0≤rm y s) {l:List Int} (h:can y l=false):(refuse y l).2.2=0∧iC y l (refuse y l).1 (refuse y l).2.1=true:=by
 have hrls:∀ {k:Nat} {b:List Int},b∈rls l.length k 0→fO l b=true∧b.length=k:=by
  intro k b hb
  obtain ⟨h1,h2,h3⟩:=nG.1 hb
  exact ⟨GA h2 fun e he=>by have:=h3 e he;omega,h1⟩
 have hlst:∀ (f:List Int→Bool) (k:Int),(k=2∨k=4)→(∀ b,ill y l k b=f b)→(∀ a b:List Int,a.Sublist b→f a=true→f b=true)→f []=false→f (idx l)=true→iC y l k (least f l.length (idx l))=true:=by
  intro f k hk hf hm h0 h1
  obtain ⟨g1,g2,g3⟩:=sT hm l.length (idx l) h1 fun j hj hj2=>by rw [wT] at hj2;omega
  generalize least f l.length (idx l)=b at g1 g2 g3
  have hne:b.length≠0:=by
   intro e
   rw [List.length_eq_zero_iff.1 e,h0] at g2;cases g2
  have hri:fO l b=true:=GA ((QQ l).sublist g1) fun i hi=>tW l i (g1.subset hi)
  have hls:less y l k b=false:=by
   unfold less
   rw [Bool.eq_false_iff]
   intro hc
   rw [List.any_eq_true] at hc
   obtain ⟨i,hi,hc⟩:=hc
   rw [List.mem_range] at hi
   rw [hf,g3 i hi] at hc;cases hc
  unfold iC
  rw [hri,hf,g2,hls,decide_eq_true hne]
  rcases hk with rfl | rfl <;> rfl
 unfold refuse
 rw [if_neg (by rw [h];simp)]
 cases h1:(rls l.length 1 0).find? (big y l) with
 | some b =>
  have hb:=List.find?_some h1
  obtain ⟨g1,g2⟩:=hrls (List.mem_of_find?_eq_some h1)
  refine ⟨rfl,?_⟩
  unfold iC ill
  rw [g1,if_pos rfl,hb,g2]
  rfl
 | none =>
  simp only []
  by_cases hmu:nH y l (idx l)=true
  ·rw [if_pos hmu]
   refine ⟨rfl,hlst (nH y l) 2 (Or.inl rfl) (fun b=>rfl) (fun a b=>WH hr) ?_ hmu⟩
   unfold nH
   rw [decide_eq_false_iff_not]
   have:=IT hy
   simp [ofL,rA];omega
  ·rw [if_neg hmu]
   cases h2:(rls l.length (y.pens.length+1) 0).find? (many y l) with
   | some b =>
    have hb:=List.find?_some h2
    obtain ⟨g1,g2⟩:=hrls (List.mem_of_find?_eq_some h2)
    refine ⟨rfl,?_⟩
    show iC y l 3 b=true
    unfold iC
    rw [g1,show ill y l 3 b=many y l b from rfl,hb,g2]
    simp [within]
   | none =>
    refine ⟨rfl,hlst (iM y l) 4 (Or.inr rfl) (fun b=>rfl) (fun a b=>QP hr) rfl ?_⟩
    unfold iM
    rw [SH,h];rfl
end Go.Pen
namespace Go.Pen
open Go.Sx
theorem kA {A B:Type} (f:A→List B) (p:B→Bool):∀ l:List A,(l.flatMap f).find? p=l.findSome? fun a=>(f a).find? p
 | []=>rfl
 | a::l=>by
  rw [List.flatMap_cons,List.find?_append,List.findSome?_cons,kA f p l]
  cases (f a).find? p <;> rfl
theorem lI {A B:Type} {f g:A→Option B}:∀ {l:List A},(∀ a∈l,f a=g a)→l.findSome? f=l.findSome? g
 | [],_=>rfl
 | a::l,h=>by
  rw [List.findSome?_cons,List.findSome?_cons,h a (by simp),lI fun x hx=>h x (by simp [hx])]
theorem WI {y:Yard} {a b:List Int} (h:cK y (a++b)=true):cK y a=true:=by
 unfold cK at h ⊢
 simp only [List.all_eq_true,List.mem_range,List.length_append] at h ⊢
 intro i hi j hj
 have:=h i (by omega) j hj
 simpa [List.getElem?_append_left hi,List.getElem?_append_left (show j<a.length by omega)] using this
def lJ (n:Nat) (b:List Int):Nat:=if b=[] then 0 else (b.getD (b.length - 1) 0).toNat+1
def mR (y:Yard) (l:List Int):Nat→List Int→Option (List Int)
 | 0,b=>some b
 | m+1,b=>(List.range' (lJ l.length b) (l.length - lJ l.length b)).findSome? fun (i:Nat)=>if cK y (ofL l (b++[(i:Int)]))=true then mR y l m (b++[(i:Int)]) else none
theorem QR (n:Nat) (b:List Int) (i:Nat):lJ n (b++[(i:Int)])=i+1:=by
 unfold lJ
 rw [if_neg (by simp)]
 simp
theorem CT (l a b:List Int):ofL l (a++b)=ofL l a++ofL l b:=by simp [ofL]
theorem QS {y:Yard} {l:List Int}:∀ (m:Nat) (b:List Int),cK y (ofL l b)=true→mR y l m b=((rls l.length m (lJ l.length b)).find? fun x=>cK y (ofL l (b++x))).map fun x=>b++x
 | 0,b,h=>by simp [mR,rls,h]
 | m+1,b,h=>by
  simp only [mR,rls]
  rw [kA]
  have:∀ (L:List Nat),(L.findSome? fun (i:Nat)=>if cK y (ofL l (b++[(i:Int)]))=true then mR y l m (b++[(i:Int)]) else none)=(L.findSome? fun (i:Nat)=>((rls l.length m (i+1)).map fun x=>(i:Int)::x).find? fun x=>cK y (ofL l (b++x))).map fun x=>b++x:=by
   intro L
   induction L with
   | nil=>rfl
   | cons i L ih =>
    rw [List.findSome?_cons,List.findSome?_cons,ih]
    rw [List.find?_map]
    by_cases ha:cK y (ofL l (b++[(i:Int)]))=true
    ·rw [if_pos ha,QS m _ ha,QR]
     have e:(fun x=>cK y (ofL l (b++[(i:Int)]++x)))=((fun x=>cK y (ofL l (b++x)))∘fun x=>(i:Int)::x):=by
      funext x;simp
     rw [e]
     cases (rls l.length m (i+1)).find? ((fun x=>cK y (ofL l (b++x)))∘fun x=>(i:Int)::x) <;> simp
    ·rw [if_neg ha]
     have e:(rls l.length m (i+1)).find? ((fun x=>cK y (ofL l (b++x)))∘fun x=>(i:Int)::x)=none:=by
      rw [List.find?_eq_none]
      intro x _ hx
      refine ha (WI (b:=ofL l x) ?_)
      rw [← CT]
      simpa using hx
     rw [e];rfl
  exact this _
theorem aDO {y:Yard} {l:List Int} {m:Nat} {b x:List Int} (h:cK y (ofL l b)=true) (hx:mR y l m b=some x):b <+: x:=by
 rw [QS m b h] at hx
 obtain ⟨z,_,rfl⟩:=Option.map_eq_some_iff.1 hx
 exact List.prefix_append _ _
theorem aDP {y:Yard} {l:List Int} (m:Nat):mR y l m []=(rls l.length m 0).find? fun x=>cK y (ofL l x):=by
 rw [QS m [] rfl]
 simp [lJ]
theorem IU {y:Yard} {l:List Int}:mR y l (y.pens.length+1) []=(rls l.length (y.pens.length+1) 0).find? (many y l):=by
 rw [aDP]
 have:∀ L:List (List Int),(∀ x∈L,x.length=y.pens.length+1)→(L.find? fun x=>cK y (ofL l x))=L.find? (many y l):=by
  intro L
  induction L with
  | nil=>intro _;rfl
  | cons x L ih =>
   intro h
   have hx:many y l x=cK y (ofL l x):=by unfold many;rw [decide_eq_true (h x (by simp)),Bool.and_true]
   rw [List.find?_cons,List.find?_cons,hx,ih fun z hz=>h z (by simp [hz])]
 exact this _ fun x hx=>(nG.1 hx).1
def gG (y:Yard) (k:Int) (b:List Int):Bool:=if k=2 then decide (rA y b > total y) else !can y b
def aDQ (y:Yard) (l:List Int):Int×List Int×Int:=
 match (List.range l.length).find? fun i=>fW y (l.getD i 0) with
 | some i=>(1,[(i:Int)],0)
 | none=>if gG y 2 l=true then (2,least (fun b=>gG y 2 (ofL l b)) l.length (idx l),0) else
  match mR y l (y.pens.length+1) [] with
  | some b=>(3,b,0)
  | none=>if gG y 4 l=true then (4,least (fun b=>gG y 4 (ofL l b)) l.length (idx l),0) else (0,[],3)
theorem aB7 {y:Yard} {l:List Int}:(rls l.length 1 0).find? (big y l)=((List.range l.length).find? fun i=>fW y (l.getD i 0)).map fun (i:Nat)=>[(i:Int)]:=by
 simp only [rls]
 rw [kA,List.range_eq_range']
 have:∀ L:List Nat,(L.findSome? fun (i:Nat)=>(([[]]:List (List Int)).map fun x=>(i:Int)::x).find? (big y l))=(L.find? fun i=>fW y (l.getD i 0)).map fun (i:Nat)=>[(i:Int)]:=by
  intro L
  induction L with
  | nil=>rfl
  | cons i L ih =>
   have hb:big y l [(i:Int)]=fW y (l.getD i 0):=by simp [big]
   rw [List.findSome?_cons,List.find?_cons,ih]
   simp only [List.map_cons,List.map_nil,List.find?_cons,hb,List.find?_nil]
   cases fW y (l.getD i 0) <;> rfl
 exact this _
theorem aB8 {y:Yard} (hy:y.ok=true) (hr:∀ s,0≤rm y s) (l:List Int):aDQ y l=refuse y l:=by
 unfold aDQ refuse
 have hmu:nH y l (idx l)=gG y 2 l:=by unfold nH gG;rw [SH,if_pos rfl]
 cases hc:can y l with
 | true =>
  rw [if_pos rfl]
  have h1:((List.range l.length).find? fun i=>fW y (l.getD i 0))=none:=by
   rw [List.find?_eq_none]
   intro i hi hb
   rw [List.mem_range] at hi
   have hm:l.getD i 0∈l:=by
    have:l.getD i 0=l[i]:=by simp [hi]
    rw [this];exact List.getElem_mem hi
   rw [aDN hr hm hb] at hc;cases hc
  have h2:gG y 2 l=false:=by
   unfold gG
   rw [if_pos rfl,decide_eq_false_iff_not]
   intro h
   rw [aB5 hy hr h] at hc;cases hc
  have h3:mR y l (y.pens.length+1) []=none:=by
   rw [IU,List.find?_eq_none]
   intro x hx hm
   obtain ⟨g1,g2,g3⟩:=nG.1 hx
   unfold many at hm
   rw [Bool.and_eq_true,decide_eq_true_eq] at hm
   have hn:=aB6 hr hm.1 (by rw [cT];exact hm.2)
   rw [NH hr (zR g2 fun e he=>by have:=g3 e he;omega) hc] at hn;cases hn
  have h4:gG y 4 l=false:=by unfold gG;rw [if_neg (by decide),hc];rfl
  rw [h1,h2,h3,h4]
  rfl
 | false =>
  have h4:gG y 4 l=true:=by unfold gG;rw [if_neg (by decide),hc];rfl
  have e2:(fun b=>gG y 2 (ofL l b))=nH y l:=by funext b;unfold gG nH;rw [if_pos rfl]
  have e4:(fun b=>gG y 4 (ofL l b))=iM y l:=by funext b;unfold gG iM;rw [if_neg (by decide)]
  rw [if_neg (show ¬false=true by simp),aB7,hmu,← IU,h4,e2,e4]
  cases ((List.range l.length).find? fun i=>fW y (l.getD i 0)) with
  | some i=>rfl
  | none=>rfl
def fR (y:Yard) (l:List Int) (most:Nat):Nat→List Int→Option (List Int)
 | 0,p=>if used [] p > most then none else some p
 | k+1,p=>if used [] p > most then none else (List.range y.pens.length).findSome? fun (i:Nat)=>if okP y l (p++[(i:Int)])=true then fR y l most k (p++[(i:Int)]) else none
theorem aAz {y:Yard} {l:List Int} {most:Nat}:∀ (k:Nat) (p:List Int),okP y l p=true→fR y l most k p=(pls y l k p).find? fun x=>decide (used [] x≤most)
 | 0,p,_=>by
  simp only [fR,pls,List.find?_cons,List.find?_nil]
  by_cases h:used [] p > most
  ·rw [if_pos h,decide_eq_false (by omega)]
  ·rw [if_neg h,decide_eq_true (by omega)]
 | k+1,p,hp=>by
  simp only [fR]
  by_cases h:used [] p > most
  ·rw [if_pos h]
   symm
   rw [List.find?_eq_none]
   intro x hx hm
   rw [decide_eq_true_eq] at hm
   obtain ⟨⟨r,rfl⟩,_⟩:=(qE hp).1 hx
   have:=VE p r
   omega
  ·rw [if_neg h]
   simp only [pls]
   rw [kA]
   refine lI fun i _=>?_
   by_cases ho:okP y l (p++[(i:Int)])=true
   ·rw [if_pos ho,if_pos ho,aAz k _ ho]
   ·rw [if_neg ho,if_neg ho];rfl
theorem aB9 {y:Yard} {l x:List Int} (h:x∈PL y l):used [] x≤y.pens.length:=by
 obtain ⟨h1,h2⟩:=nD.1 h
 have hin:∀ q∈x,0≤q∧q<(y.pens.length:Int):=by
  intro q hq
  obtain ⟨i,hi,rfl⟩:=List.getElem_of_mem hq
  have h3:okP y l (x.take (i+1))=true:=BB (q:=x.drop (i+1)) (by rw [List.take_append_drop];exact h2)
  rw [← List.take_append_getElem hi,mK _ _ _ _ (by rw [List.length_take];omega),Bool.and_eq_true] at h3
  have:=h3.2
  unfold jO at this
  simp only [Bool.and_eq_true,within,decide_eq_true_eq] at this
  omega
 rw [pA x hin]
 exact cnt_le _ _
theorem NO {y:Yard} {l:List Int}:(List.range (y.pens.length+1)).findSome? (fun m=>fR y l m l.length [])=rW y l:=by
 have e:∀ m,fR y l m l.length []=(PL y l).find? fun x=>decide (used [] x≤m):=fun m=>aAz _ _ (tS y l)
 rw [lI (g:=fun m=>(PL y l).find? fun x=>decide (used [] x≤m)) fun m _=>e m]
 cases hb:rW y l with
 | none =>
  have hnil:PL y l=[]:=VF.1 hb
  rw [hnil,List.findSome?_eq_none_iff]
  simp
 | some a =>
  obtain ⟨ha,hmin,hfirst⟩:=rX (mL y l) hb
  have hu:=aB9 ha
  have hat:((PL y l).find? fun x=>decide (used [] x≤used [] a))=some a:=by
   cases hf:(PL y l).find? fun x=>decide (used [] x≤used [] a) with
   | none =>
    rw [List.find?_eq_none] at hf
    exact absurd (decide_eq_true (Nat.le_refl _)) (hf a ha)
   | some x =>
    obtain ⟨hx,az,bz,he,hz⟩:=List.find?_eq_some_iff_append.1 hf
    rw [decide_eq_true_eq] at hx
    have hxm:x∈PL y l:=by rw [he];simp
    have hux:used [] x=used [] a:=by have:=hmin x hxm;omega
    congr 1
    rcases hfirst x hxm hux with h | h
    ·exact h
    ·have hs:=mL y l
     rw [he] at ha hs
     rcases List.mem_append.1 ha with h1 | h1
     ·have:=hz a h1
      simp at this
     ·rcases List.mem_cons.1 h1 with h1 | h1
      ·exact h1.symm
      ·have:=(List.pairwise_cons.1 (List.pairwise_append.1 hs).2.1).1 a h1
       have:=oX h this
       rw [nE] at this;cases this
  have key:∀ (k frm:Nat),frm≤used [] a→used [] a<frm+k→(List.range' frm k).findSome? (fun m=>(PL y l).find? fun x=>decide (used [] x≤m))=some a:=by
   intro k
   induction k with
   | zero=>intro frm h1 h2;omega
   | succ k ih =>
    intro frm h1 h2
    rw [List.range'_succ,List.findSome?_cons]
    by_cases hx:frm=used [] a
    ·rw [hx,hat]
    ·have:((PL y l).find? fun x=>decide (used [] x≤frm))=none:=by
      rw [List.find?_eq_none]
      intro x hx' hm
      rw [decide_eq_true_eq] at hm
      have:=hmin x hx'
      omega
     rw [this]
     exact ih (frm+1) (by omega) (by omega)
  rw [List.range_eq_range']
  exact key _ 0 (by omega) (by omega)
end Go.Pen
namespace Go.Proofs.Ythkfohoccnnphaa
open Go Go.Sx Go.Pen
set_option maxRecDepth 10000
attribute [local simp] Bool.and_assoc Bool.or_assoc
variable {its:ITS}
theorem wU {a:Int} (h:0≤a):Int.tmod a 2=a % 2:=Int.tmod_eq_emod_of_nonneg h
theorem NP (n:Nat) (y:Yard) (h1:y.pens.length<9223372036854775807) (h2:y.kinds.length<9223372036854775807):D its (n+2) jM [.row 1 y.ps,.row 4 y.ks]=some [ci (iL y)]:=by
 rw [yS]
 unfold oE
 rw [kU (fun x=>!within x 0 1000) y.pens (fun _=>some (.ret [ci 50])) (some (.br 0 [])) (fun i=>[ci (i:Int)]) ?hv ?hR ?hX (fun i hi hp=>?p1) (fun i hi hp=>?p2) ?p3]
 case hv=>rfl
 case hR=>simp
 case hX=>simp
 case p3=>simp
 case p1 =>
  simp only [Bool.not_eq_false'] at hp
  simp [hi,hp,nF,tT,aO (show i<9223372036854775807 by omega)]
 case p2 =>
  simp only [Bool.not_eq_true'] at hp
  simp [hi,hp,nF,tT]
 rw [dI y.kinds.length (fun i=>[ci (i:Int)]) (uF y.kinds) (fun _=>some (.ret [ci 50])) (some (.br 2 [])) ?hv ?hR ?hX (fun i hi hp=>?s1) (fun i hi hp=>?s2) ?s3]
 case hv=>rfl
 case hR=>simp
 case hX=>simp
 case s3=>simp
 case s1 =>
  simp only [uF,List.getElem?_eq_getElem hi,Bool.or_eq_false_iff,Bool.not_eq_false'] at hp
  obtain ⟨hp1,hp2⟩:=hp
  have hwn:=aO (show i<9223372036854775807 by omega)
  simp only [Kd.ok,Bool.and_eq_true,decide_eq_true_eq] at hp1
  obtain ⟨⟨⟨⟨q1,q2⟩,q3⟩,q4⟩,q5⟩:=hp1
  have q4':=q4
  simp only [within,Bool.and_eq_true,decide_eq_true_eq] at q4'
  have q6:Int.tmod y.kinds[i].apart 2=0:=by rw [wU q4'.1];exact q5
  by_cases h0:0<i
  ·have hi':i - 1<y.kinds.length:=by omega
   have hw:=jU h0 (show i<9223372036854775807 by omega)
   simp only [h0,decide_true,Bool.true_and,List.getElem?_eq_getElem hi'] at hp2
   have hp3:¬y.kinds[i].sort≤y.kinds[i - 1].sort:=by simpa using hp2
   simp [hi,gD hi,kV hi,iY,q1,q2,q3,q4,q6,hwn,h0,hw,gD hi',kV hi',uG,hp3,-List.reduceReplicate]
  ·simp [hi,gD hi,kV hi,iY,q1,q2,q3,q4,q6,hwn,h0,-List.reduceReplicate]
 case s2 =>
  simp only [uF,List.getElem?_eq_getElem hi] at hp
  by_cases hok:y.kinds[i].ok=true
  ·have hok':=hok
   simp only [Kd.ok,Bool.and_eq_true,decide_eq_true_eq] at hok'
   obtain ⟨⟨⟨⟨q1,q2⟩,q3⟩,q4⟩,q5⟩:=hok'
   have q4':=q4
   simp only [within,Bool.and_eq_true,decide_eq_true_eq] at q4'
   have q6:Int.tmod y.kinds[i].apart 2=0:=by rw [wU q4'.1];exact q5
   rw [hok] at hp
   by_cases h0:0<i
   ·have hi':i - 1<y.kinds.length:=by omega
    have hw:=jU h0 (show i<9223372036854775807 by omega)
    simp only [h0,decide_true,Bool.true_and,Bool.not_true,Bool.false_or,List.getElem?_eq_getElem hi'] at hp
    have hp3:y.kinds[i].sort≤y.kinds[i - 1].sort:=by simpa using hp
    simp [hi,gD hi,kV hi,iY,q1,q2,q3,q4,q6,h0,hw,gD hi',kV hi',uG,hp3,-List.reduceReplicate]
   ·simp [h0] at hp
  ·simp only [aL,LEq,eq_true (show ((i:Int)<(y.kinds.length:Int)) by omega),decide_true,aB,gD hi,kV hi,iY,aC,aDv,aGH,aGI,aGJ,CE,aD,bD]
   cases q1:within y.kinds[i].sort 1 9 with
   | false=>rfl
   | true =>
    cases q2:within y.kinds[i].room 1 1000 with
    | false=>rfl
    | true =>
     cases q3:within y.kinds[i].eats 0 1000 with
     | false=>rfl
     | true =>
      cases q4:within y.kinds[i].apart 0 1023 with
      | false=>rfl
      | true =>
       have q4':=q4
       simp only [within,Bool.and_eq_true,decide_eq_true_eq] at q4'
       have q5:¬y.kinds[i].apart % 2=0:=fun h=>hok (by simp [Kd.ok,q1,q2,q3,q4,h])
       have q6:(Int.tmod y.kinds[i].apart 2 != 0)=true:=by rw [wU q4'.1];simp [q5]
       simp only [Bool.not_true,q6]
       rfl
 ·rw [uH]
  have hany:y.pens.findIdx? (fun x=>!within x 0 1000)=none↔y.pens.any (fun x=>!within x 0 1000)=false:=nP
  by_cases h5:5<y.pens.length
  ·have h5':5<(y.pens.length:Int):=by omega
   simp [h5,h5']
  ·have h5':¬(5<(y.pens.length:Int)):=by omega
   cases hf:y.pens.findIdx? (fun x=>!within x 0 1000) with
   | some i =>
    have:y.pens.any (fun x=>!within x 0 1000)=true:=by
     cases hc:y.pens.any (fun x=>!within x 0 1000) with
     | true=>rfl
     | false=>rw [hany.2 hc] at hf;cases hf
    rw [if_pos (Or.inr this)]
    simp [h5']
   | none =>
    rw [if_neg (by rw [hany.1 hf];simp;omega)]
    cases (List.range y.kinds.length).find? (uF y.kinds) <;> simp [h5']
theorem IV (n:Nat) (y:Yard) (h2:y.kinds.length<9223372036854775807) (s:Int):D its (n+1) iO [.row 1 y.ps,.row 4 y.ks,ci s]=some [ci (kd y s).sort,ci (kd y s).room,ci (kd y s).eats,ci (kd y s).apart,cb (has y s)]:=by
 rw [QB]
 unfold BV
 rw [BA (fun k:Kd=>k.sort == s) (fun k=>some (.ret [ci k.sort,ci k.room,ci k.eats,ci k.apart,cb true])) (some (.br 0 [ci 0,ci 0,ci 0,ci 0])) y.kinds (fun i=>[ci (i:Int),ci 0,ci 0,ci 0,ci 0]) ?hv ?hR ?hX (fun i hi hp=>?s1) (fun i hi hp=>?s2) ?s3]
 case hv=>rfl
 case hR=>simp
 case hX=>simp
 case s3=>simp [cis,gi]
 case s1 =>
  simp only [aL,LEq,eq_true (show ((i:Int)<(y.kinds.length:Int)) by omega),decide_true,aB,gD hi,kV hi,iY,aC,aDv,hp,aO (show i<9223372036854775807 by omega)]
  rfl
 case s2 =>
  simp only [aL,LEq,eq_true (show ((i:Int)<(y.kinds.length:Int)) by omega),decide_true,aB,gD hi,kV hi,iY,aC,aDv,hp]
  rfl
 ·unfold kd has kindOf
  cases hf:y.kinds.find? (fun k=>k.sort == s) with
  | some k=>rfl
  | none=>rfl
theorem CU (n:Nat) (y:Yard) (h2:y.kinds.length<9223372036854775807) (s:Int):D its (n+2) iP [.row 1 y.ps,.row 4 y.ks,ci s]=some [ci (rm y s)]:=by
 rw [PX]
 unfold BO
 rw [IV n y h2]
 rfl
theorem nT (n:Nat) {y:Yard} (hf:Fit y) (l:List Int) (hl:l.length<9223372036854775807):D its (n+3) dT [.row 1 y.ps,.row 4 y.ks,.row 1 (ints l)]=some [ci (asked y l)]:=by
 rw [wJ]
 unfold mQ
 rw [NP n y hf.p hf.k]
 rw [kU (fun s=>!has y s) l (fun _=>some (.ret [ci 51])) (some (.br 0 [])) (fun i=>[ci (i:Int)]) ?hv ?hR ?hX (fun i hi hp=>?s1) (fun i hi hp=>?s2) ?s3]
 case hv=>rfl
 case hR=>simp
 case hX=>simp
 case s3=>simp
 case s1 =>
  simp only [Bool.not_eq_false'] at hp
  simp only [aL,aF,eq_true (show ((i:Int)<(l.length:Int)) by omega),decide_true,aB,aG hi,aI hi,li1,aC,IV _ y hf.k,aD,AX,bD,hp,Bool.not_true,aO (show i<9223372036854775807 by omega)]
 case s2 =>
  simp only [Bool.not_eq_true'] at hp
  simp only [aL,aF,eq_true (show ((i:Int)<(l.length:Int)) by omega),decide_true,aB,aG hi,aI hi,li1,aC,IV _ y hf.k,aD,AX,bD,hp,Bool.not_false]
 ·unfold iL asked aQ
  have hany:l.findIdx? (fun s=>!has y s)=none↔l.any (fun s=>!has y s)=false:=nP
  rw [IG,Bool.not_eq_false'] at hany
  cases hy:y.ok with
  | false=>simp
  | true =>
   by_cases h8:l.length≤8
   ·have h8':¬(8<(l.length:Int)):=by omega
    cases hfi:l.findIdx? (fun s=>!has y s) with
    | none=>simp [h8,h8',hany.1 hfi]
    | some i =>
     have:l.all (has y)=false:=by
      cases hc:l.all (has y) with
      | false=>rfl
      | true=>rw [hany.2 hc] at hfi;cases hfi
     simp [h8,h8',this]
   ·have h8':8<(l.length:Int):=by omega
    simp [h8,h8']
theorem aCa (n:Nat) {y:Yard} (hy:y.ok=true) (l:List Int) (hll:l.length<1000000):D its (n+3) pH [.row 1 y.ps,.row 4 y.ks,.row 1 (ints l)]=some [ci (rA y l)]:=by
 have hk:=(bM hy).2
 rw [MB]
 unfold yA
 rw [(bP l (fun i (s:Int)=>[ci s,ci (i:Int)]) (fun n s=>n+rm y s) (fun i s=>0≤s∧s≤1000*(i:Int)) 0 (fun s=>[ci s]) 0 ?hv ?h0 ?hs ?he).1]
 case hv=>rfl
 case h0=>simp
 case hs =>
  intro i hi s hP
  have r0:=fH hy l[i]
  have r1:=MQ hy l[i]
  have hw:wr (s+rm y l[i])=s+rm y l[i]:=by rw [bW] <;> omega
  refine ⟨?_,by omega,by omega⟩
  simp only [aL,cA,aF,eq_true (show ((i:Int)<(l.length:Int)) by omega),decide_true,aB,aG hi,aI hi,li1,aC,CU _ y (show y.kinds.length<9223372036854775807 by omega),aD,hw,aO (show i<9223372036854775807 by omega)]
 case he=>intro s _;simp
 ·simp [rA]
theorem WJ {y:Yard} (hy:y.ok=true) (a:Int) {b:Int}:((wr (Int.ofNat (bAN (Int.fdiv (kd y a).apart ((2:Int) ^ (min (Int.toNat b) 64))) 1))) == 1)=bit (kd y a).apart b:=by
 have h:0≤(kd y a).apart∧(kd y a).apart≤1023:=by
  cases hs:has y a with
  | false=>rw [tU hs];exact ⟨Int.le_refl 0,by show (0:Int)≤1023;omega⟩
  | true =>
   have hm:=(qH hs).1
   unfold Yard.ok at hy
   simp only [Bool.and_eq_true,List.all_eq_true,Kd.ok,within,decide_eq_true_eq] at hy
   exact (hy.1.2 _ hm).1.2
 obtain ⟨m,hm⟩:∃ m:Nat,(kd y a).apart=m:=⟨(kd y a).apart.toNat,by omega⟩
 rw [hm,BE m b.toNat (by omega)]
 rfl
theorem zS (n:Nat) {y:Yard} (hy:y.ok=true) {a b:Int} (ha:0≤a) (hb:0≤b):D its (n+2) jH [.row 1 y.ps,.row 4 y.ks,ci a,ci b]=some [cb (apt y a b)]:=by
 have hk:=(bM hy).2
 rw [ME]
 unfold yB
 simp only [IV n y (show y.kinds.length<9223372036854775807 by omega),aD,cA,aL,WJ hy,eq_true ha,eq_true hb,decide_true,aC]
 unfold apt
 cases bit (kd y a).apart b <;> simp
end Go.Proofs.Ythkfohoccnnphaa
namespace Go.Proofs.Ythkfohoccnnphaa
open Go Go.Sx Go.Pen
set_option maxRecDepth 10000
attribute [local simp] Bool.and_assoc Bool.or_assoc
variable {its:ITS}
theorem aAA (n:Nat) (p:List Int) (hp:p.length<9223372036854775807):D its (n+1) sG [.row 1 (ints p)]=some [ci (used [] p:Int)]:=by
 rw [PY]
 unfold BR
 rw [(bP p (fun i (_:Unit)=>[ci (used [] (p.take i):Int),ci (i:Int)]) (fun _ _=>()) (fun _ _=>True) 0 (fun _=>[ci (used [] p:Int)]) () ?hv trivial ?hs ?he).1]
 case hv=>rfl
 case he =>
  intro _ _
  rw [List.take_length]
  simp only [aL,cA,aF,eq_false (show ¬((p.length:Int)<(p.length:Int)) by omega),decide_false,aB]
 case hs =>
  intro i hi _ _
  refine ⟨?_,trivial⟩
  have hu:=oZ (p.take i) []
  rw [List.length_take] at hu
  have hinner:∀ (step:List CV→Option Ou),(∀ (f:Bool) (k:Nat),k<i→step [cb f,ci (k:Int)]=some (.nx [cb (f&&decide (p.getD k 0≠p[i])),ci ((k+1:Nat):Int)]))→(∀ f,step [cb f,ci (i:Int)]=some (.br 2 [cb f]))→aJ step [cb true,ci 0]=some (.br 2 [cb (decide (p[i] ∉ p.take i))]):=by
   intro step h1 h2
   rw [show ([cb true,ci 0]:List CV)=[cb true,ci ((0:Nat):Int)] from rfl,(bP (p.take i) (fun k (f:Bool)=>[cb f,ci (k:Int)]) (fun f x=>f&&decide (x≠p[i])) (fun _ _=>True) 2 (fun f=>[cb f]) true rfl trivial ?hs ?he).1]
   case hs =>
    intro k hk f _
    rw [List.length_take] at hk
    refine ⟨?_,trivial⟩
    rw [h1 f k (by omega)]
    have:p.getD k 0=(p.take i)[k]'(by rw [List.length_take];omega):=by rw [List.getElem_take];simp [show k<p.length by omega]
    rw [this]
   case he =>
    intro f _
    rw [show (p.take i).length=i by rw [List.length_take];omega]
    exact h2 f
   congr 3
   have key:∀ (l:List Int) (f:Bool),l.foldl (fun f x=>f&&decide (x≠p[i])) f=(f&&decide (p[i] ∉ l)):=by
    intro l
    induction l with
    | nil=>intro f;simp
    | cons a l ih =>
     intro f
     rw [List.foldl_cons,ih,Bool.and_assoc]
     congr 1
     rw [Bool.eq_iff_iff]
     simp
     intro _
     exact ⟨fun h1 h=>h1 h.symm,fun h1 h=>h1 h.symm⟩
   rw [key,Bool.true_and]
  simp only [aL,cA,aF,eq_true (show ((i:Int)<(p.length:Int)) by omega),decide_true,aB]
  rw [hinner _ ?i1 ?i2]
  case i1 =>
   intro f k hk
   have hkp:k<p.length:=by omega
   have hd:p.getD k 0=p[k]:=by simp [hkp]
   simp only [aL,cA,bD,eq_true (show ((k:Int)<(i:Int)) by omega),decide_true,aG hkp,aI hkp,aG hi,aI hi,li1,aC,aO (show k<9223372036854775807 by omega),hd]
   cases f with
   | false=>rfl
   | true =>
    simp only [aV,bD,Bool.true_and]
    congr 4
    rw [Bool.eq_iff_iff]
    simp
  case i2 =>
   intro f
   simp only [aL,cA,bD,eq_false (show ¬((i:Int)<(i:Int)) by omega),decide_false]
  rw [← List.take_append_getElem hi,vW]
  by_cases hm:p[i]∈p.take i
  ·simp [hm,aO (show i<9223372036854775807 by omega)]
  ·have hw:=aO (show used [] (p.take i)<9223372036854775807 by omega)
   simp [hm,hw,aO (show i<9223372036854775807 by omega)]
 ·rfl
end Go.Proofs.Ythkfohoccnnphaa
namespace Go.Proofs.Ythkfohoccnnphaa
open Go Go.Sx Go.Pen
set_option maxRecDepth 10000
end Go.Proofs.Ythkfohoccnnphaa
namespace Go.Proofs.Ythkfohoccnnphaa
open Go Go.Sx Go.Pen
set_option maxRecDepth 10000
theorem bX (x z:Option Ou):aB true x z=x:=rfl
theorem bV (x z:Option Ou):aB false x z=z:=rfl
end Go.Proofs.Ythkfohoccnnphaa
namespace Go.Proofs.Ythkfohoccnnphaa
open Go Go.Sx Go.Pen
set_option maxRecDepth 10000
end Go.Proofs.Ythkfohoccnnphaa
namespace Go.Proofs.Ythkfohoccnnphaa
open Go Go.Sx Go.Pen
set_option maxRecDepth 10000
theorem CW {y:Yard} (hy:y.ok=true) (l p:List Int) (i:Nat) (pen:Int) (j:Nat):0≤qQ y l p i pen j∧qQ y l p i pen j≤1000:=by
 unfold qQ
 split
 ·exact ⟨fH hy _,MQ hy _⟩
 ·omega
theorem QT {its:ITS} (n:Nat) {y:Yard} (hy:y.ok=true) (l p:List Int) (hl:∀ s∈l,1≤s∧s≤9) (hp:p.length≤l.length) (hp2:p.length≤1000) {i:Nat} (hi:i<l.length) {q:Nat} (hq:q<y.pens.length) :
  D its (n+3) kZ [.row 1 y.ps,.row 4 y.ks,.row 1 (ints l),.row 1 (ints p),ci (i:Int),ci (q:Int)]=some [cb (FW y l p i (q:Int))]:=by
 have hk9:=(bM hy).2
 have hk:y.kinds.length<9223372036854775807:=by omega
 have hli:l.getD i 0=l[i]:=by simp [hi]
 have h9i:=hl _ (List.getElem_mem hi)
 have hr:=CR (fun j=>CW hy l p i (q:Int) j)
 have r0:=fH hy l[i]
 have r1:=MQ hy l[i]
 rw [QA]
 unfold BU
 simp only [aG hi,aI hi,li1,aC,aL,CU _ y hk,aD]
 rw [rY p.length (fun k=>[ci (rm y l[i]+sumF (qQ y l p i (q:Int)) k),ci (k:Int)]) (badR y l p i (q:Int)) (fun _=>some (.ret [cb false])) (some (.br 0 [ci (rm y l[i]+sumF (qQ y l p i (q:Int)) p.length)])) ?hv ?hR ?hX (fun k hk2 hj hp3=>?s1) (fun k hk2 hj hp3=>?s2) (fun hj=>?s3)]
 case hv=>simp [sumF]
 case hR=>simp
 case hX=>simp
 case s3=>simp only [aL,cA,aF,eq_false (show ¬((p.length:Int)<(p.length:Int)) by omega),decide_false,bV]
 case s1 =>
  have hkl:k<l.length:=by omega
  have h9k:=hl _ (List.getElem_mem hkl)
  have e1:p.getD k 0=p[k]:=by simp [hk2]
  have e2:l.getD k 0=l[k]:=by simp [hkl]
  have hrk:=hr k
  have hok:=CW hy l p i (q:Int) k
  have hk1:1000*(k:Int)≤1000000:=by omega
  have hwk:=aO (show k<9223372036854775807 by omega)
  unfold badR at hp3
  rw [e1,e2,hli] at hp3
  simp only [aL,cA,aF,eq_true (show ((k:Int)<(p.length:Int)) by omega),decide_true,bX,aG hk2,aI hk2,li1,aC,sumF]
  by_cases hpk:p[k]=(q:Int)
  ·rw [show (p[k] != (q:Int))=false by simp [hpk],bV,aV,bD]
   by_cases hki:k=i
   ·subst hki
    have ho:qQ y l p k (q:Int) k=0:=by unfold qQ;rw [if_neg (fun h=>h.2 rfl)]
    rw [show ((k:Int) == (k:Int))=true by simp,bX,bR,aL,hwk,ho,Int.add_zero]
   ·have ho:qQ y l p i (q:Int) k=rm y l[k]:=by unfold qQ;rw [e1,e2,if_pos ⟨hpk,hki⟩]
    rw [decide_eq_true ⟨hpk,hki⟩,Bool.true_and] at hp3
    rw [ho] at hok
    have hw:wr (rm y l[i]+sumF (qQ y l p i (q:Int)) k+rm y l[k])=rm y l[i]+(sumF (qQ y l p i (q:Int)) k+rm y l[k]):=by rw [bW] <;> omega
    simp only [show ((k:Int) == (i:Int))=false by (rw [beq_eq_false_iff_ne];omega),bV,aG hkl,aI hkl,aG hi,aI hi,li1,aC,aL,zS (its:=its) n hy (show 0≤l[k] by omega) (show 0≤l[i] by omega),aD,bD,hp3,CU (its:=its) n y hk,bR,hw,hwk,ho]
  ·have ho:qQ y l p i (q:Int) k=0:=by unfold qQ;rw [e1,if_neg (fun h=>hpk h.1)]
   rw [show (p[k] != (q:Int))=true by simp [hpk],bX,aV,bD,bX,bR,aL,hwk,ho,Int.add_zero]
 case s2 =>
  have hkl:k<l.length:=by omega
  have h9k:=hl _ (List.getElem_mem hkl)
  have e1:p.getD k 0=p[k]:=by simp [hk2]
  have e2:l.getD k 0=l[k]:=by simp [hkl]
  unfold badR at hp3
  rw [e1,e2,hli,Bool.and_eq_true,decide_eq_true_eq] at hp3
  obtain ⟨⟨hpk,hki⟩,ha⟩:=hp3
  simp only [aL,cA,aF,eq_true (show ((k:Int)<(p.length:Int)) by omega),decide_true,bX,aG hk2,aI hk2,li1,aC,show (p[k] != (q:Int))=false by simp [hpk],bV,aV,bD,show ((k:Int) == (i:Int))=false by (rw [beq_eq_false_iff_ne];omega),aG hkl,aI hkl,aG hi,aI hi,zS (its:=its) n hy (show 0≤l[k] by omega) (show 0≤l[i] by omega),aD,ha,oV]
 ·have key:(List.range p.length).find? (badR y l p i (q:Int))=none↔(List.range p.length).all (fun k=>!badR y l p i (q:Int) k)=true:=by
   rw [List.find?_eq_none,List.all_eq_true]
   refine forall_congr' fun k=>forall_congr' fun _=>?_
   simp
  unfold FW
  cases hf:(List.range p.length).find? (badR y l p i (q:Int)) with
  | some k =>
   have:(List.range p.length).all (fun k=>!badR y l p i (q:Int) k)=false:=by
    rw [Bool.eq_false_iff]
    intro h
    rw [key.2 h] at hf;cases hf
   rw [this]
   rfl
  | none =>
   rw [key.1 hf,Bool.true_and,hli]
   have hqd:y.pens.getD (Int.toNat (q:Int)) 0=y.pens[q]:=by simp [hq]
   simp only [bR,nF hq,tT hq,aC,li1,aL,hqd]
   rfl
end Go.Proofs.Ythkfohoccnnphaa
namespace Go.Proofs.Ythkfohoccnnphaa
open Go Go.Sx Go.Pen
set_option maxRecDepth 10000
variable {its:ITS}
theorem aDR:((0:Int) != 0)=false:=rfl
theorem wV (n:Nat) (l:List Int) {i:Nat} (hi:i<l.length) (hl:l.length<1000000):D its (n+1) fX [.row 1 (ints l),ci (i:Int)]=some [.row 1 (ints (l.eraseIdx i))]:=by
 rw [DM]
 unfold rC
 have hw:=aO (show i<9223372036854775807 by omega)
 have e1:List.drop 0 (List.take (Int.toNat (i:Int)) (ints l))=ints (l.take i):=by simp [ints,List.map_take]
 have e2:List.drop (Int.toNat ((i+1:Nat):Int)) (List.take (Int.toNat (l.length:Int)) (ints l))=ints (l.drop (i+1)):=by
  rw [Int.toNat_natCast,Int.toNat_natCast,← aH l,List.take_length];simp [ints,List.map_drop]
 have e3:ints (l.take i)++ints (l.drop (i+1))=ints (l.eraseIdx i):=by rw [List.eraseIdx_eq_take_drop_succ];simp [ints]
 have hd:(l.drop (i+1)).length=l.length - (i+1):=List.length_drop
 have ht:(l.take i).length=i:=by rw [List.length_take];omega
 rw [hw,aF,e1,e2,e3]
 simp only [aH,ht,hd,show bJ 0 i 8=true from bL (by omega) (by omega),show bJ i (l.length - (i+1)) 8=true from bL (by omega) (by omega),Int.le_refl,eq_true (show (0:Int)≤(i:Int) by omega),eq_true (show (i:Int)≤(l.length:Int) by omega),eq_true (show (0:Int)≤((i+1:Nat):Int) by omega),eq_true (show ((i+1:Nat):Int)≤(l.length:Int) by omega),decide_true,Bool.and_self,aC]
 rfl
end Go.Proofs.Ythkfohoccnnphaa
namespace Go.Proofs.Ythkfohoccnnphaa
open Go Go.Sx Go.Pen
set_option maxRecDepth 10000
variable {its:ITS}
theorem CX {P:Program} {sg:FuncId→Option Sig} {M:Den} {fe:FE} {c:Code} {vs vs':List CV} (h:Sc.avs fe.g.ps vs 0=Sc.avs fe.g.ps vs' 0):evF P sg M fe c vs=evF P sg M fe c vs':=by unfold evF;rw [h]
theorem NQ (n:Nat) (vs:List CV):D its (n+1) cV vs=evF Try.prog sg (D its n) aDp (aA Try.f80) vs:=by kernel_rfl
theorem QU (n:Nat) (a b c:List (List CV)) (k:Int):D its (n+1) cV [.row 1 a,.row 4 b,.row 1 c,.val (.slice none 0 0),ci k]=D its (n+1) cV [.row 1 a,.row 4 b,.row 1 c,.row 1 [],ci k]:=by
 rw [NQ,NQ]
 exact CX rfl
def gO (y:Yard) (l:List Int) (k:Nat) (p:List Int) (i:Nat):List (List Int):=if okP y l (p++[(i:Int)])=true then pls y l k (p++[(i:Int)]) else []
def FO (y:Yard) (l:List Int) (k:Nat) (p:List Int) (n:Nat):List (List Int):=(List.range n).flatMap (gO y l k p)
theorem uR (y:Yard) (l:List Int) (k:Nat) (p:List Int) (n:Nat):FO y l k p (n+1)=FO y l k p n++gO y l k p n:=by
 unfold FO
 rw [List.range_succ,List.flatMap_append]
 simp
theorem aAB (y:Yard) (l:List Int) (k:Nat) (p:List Int) {i n:Nat} (h:i≤n):FO y l k p i <+: FO y l k p n:=by
 induction n with
 | zero=>rw [Nat.le_zero.1 h];exact List.prefix_refl _
 | succ n ih =>
  by_cases e:i=n+1
  ·subst e;exact List.prefix_refl _
  ·rw [uR];exact (ih (by omega)).trans (List.prefix_append _ _)
theorem aAC {A:Type} {a b:List A} (h:a <+: b) {m:Nat} (hm:m≤a.length):b.take m=a.take m:=by
 obtain ⟨c,rfl⟩:=h
 rw [List.take_append_of_le_length hm]
theorem NR {y:Yard} (hy:y.ok=true) {l:List Int} (hs:aQ y l=true):∀ (k n:Nat) (p:List Int) (m:Nat),okP y l p=true→p.length+k=l.length→1≤m→m≤1000 →
  D its (n+k+4) cV [.row 1 y.ps,.row 4 y.ks,.row 1 (ints l),.row 1 (ints p),ci (m:Int)]=some [.row 1 (((pls y l k p).take m).map yl)]
 | 0,n,p,m,hp,hl,h1,h2=>by
  have h8:=bF hs
  rw [uD]
  unfold nN
  have e:((p.length:Int) == (l.length:Int))=true:=by rw [beq_iff_eq];omega
  rw [aF,aF,e,bX,aH,show bJ 0 p.length 8=true from bL (by omega) (by omega),aC]
  obtain ⟨m,rfl⟩:∃ j,m=j+1:=⟨m - 1,by omega⟩
  simp only [pls,List.take_succ_cons,List.take_nil]
  rfl
 | k+1,n,p,m,hp,hl,h1,h2=>by
  have h8:=bF hs
  have h5:=(bM hy).1
  have h9:=CH hy hs
  have ih:=NR hy hs k n
  show D its ((n+k+4)+1) cV _=_
  rw [uD]
  unfold nN
  have e:((p.length:Int) == (l.length:Int))=false:=by rw [beq_eq_false_iff_ne];omega
  rw [aF,aF,e,bV]
  rw [rY y.pens.length (fun i=>[ci (i:Int),.row 1 ((FO y l k p i).map yl)]) (fun i=>decide (m≤(FO y l k p (i+1)).length)) (fun i=>some (.ret [.row 1 (((FO y l k p (i+1)).take m).map yl)]))
   (some (.br 0 [.row 1 ((FO y l k p y.pens.length).map yl)])) ?hv ?hR ?hX (fun i hi hj hp3=>?s1) (fun i hi hj hp3=>?s2) (fun hj=>?s3)]
  case hv=>rfl
  case hR=>simp
  case hX=>simp
  case s3=>simp only [aL,eV,eq_false (show ¬((y.pens.length:Int)<(y.pens.length:Int)) by omega),decide_false,bV,dL,bI]
  case s1 =>
   rw [decide_eq_false_iff_not] at hp3
   have hFi:(FO y l k p i).length<m:=by
    have:=(aAB y l k p (show i≤i+1 by omega)).length_le
    omega
   have hfg:=CS (y:=y) (l:=l) (p:=p) (by omega) (pen:=(i:Int)) (by simp [within];omega)
   have hok:=mK y l p (i:Int) (by omega)
   rw [hp,Bool.true_and,← hfg] at hok
   have hw:=aO (show i<9223372036854775807 by omega)
   have e1:ints p++aN 1 1 [ci (i:Int)]=ints (p++[(i:Int)]):=cZ p _
   simp only [aL,cA,bI,dL,eV,eq_true (show ((i:Int)<(y.pens.length:Int)) by omega),decide_true,bX,QT (its:=its) (n+k+1) hy l p h9 (by omega) (by omega) (show p.length<l.length by omega) hi,aD,bD]
   cases hc:FW y l p p.length (i:Int) with
   | false =>
    have:FO y l k p (i+1)=FO y l k p i:=by
     rw [uR];unfold gO;rw [hok,hc];simp
    rw [this,Bool.not_false,bX,bR,hw]
    rfl
   | true =>
    rw [hc] at hok
    have hF:FO y l k p (i+1)=FO y l k p i++pls y l k (p++[(i:Int)]):=by rw [uR];unfold gO;rw [if_pos hok]
    have hr:=ih (p++[(i:Int)]) (m - (FO y l k p i).length) hok (by simp;omega) (by omega) (by omega)
    have hwm:wr ((m:Int) - il ((FO y l k p i).map yl))=((m - (FO y l k p i).length:Nat):Int):=by
     rw [HK,bW] <;> omega
    rw [hF,List.length_append] at hp3
    rw [Bool.not_true,bV,aH,show bJ 0 p.length 8=true from bL (by omega) (by omega),aC,show bJ p.length 1 8=true from bL (by omega) (by omega),aC,e1,hwm,hr,aD]
    have ht:(pls y l k (p++[(i:Int)])).take (m - (FO y l k p i).length)=pls y l k (p++[(i:Int)]):=List.take_of_length_le (by omega)
    rw [ht]
    simp only [bI,dL,← List.map_append,← hF]
    rw [show bJ ((FO y l k p i).map yl).length ((pls y l k (p++[(i:Int)])).map yl).length 24=true from bL (by simp;omega) (by simp;omega),aC]
    simp only [eq_false (show ¬(il ((FO y l k p (i+1)).map yl)≥(m:Int)) by rw [HK,hF,List.length_append];omega),decide_false,bV,bR,hw,bI]
  case s2 =>
   rw [decide_eq_true_eq] at hp3
   have hFi:(FO y l k p i).length<m:=by
    by_cases h0:i=0
    ·subst h0;simp [FO];omega
    ·have:=hj (i - 1) (by omega)
     rw [show i - 1+1=i by omega,decide_eq_false_iff_not] at this
     omega
   have hfg:=CS (y:=y) (l:=l) (p:=p) (by omega) (pen:=(i:Int)) (by simp [within];omega)
   have hok:=mK y l p (i:Int) (by omega)
   rw [hp,Bool.true_and,← hfg] at hok
   have hw:=aO (show i<9223372036854775807 by omega)
   have e1:ints p++aN 1 1 [ci (i:Int)]=ints (p++[(i:Int)]):=cZ p _
   simp only [aL,cA,bI,dL,eV,eq_true (show ((i:Int)<(y.pens.length:Int)) by omega),decide_true,bX,QT (its:=its) (n+k+1) hy l p h9 (by omega) (by omega) (show p.length<l.length by omega) hi,aD,bD]
   cases hc:FW y l p p.length (i:Int) with
   | false =>
    have:FO y l k p (i+1)=FO y l k p i:=by
     rw [uR];unfold gO;rw [hok,hc];simp
    rw [this] at hp3
    omega
   | true =>
    rw [hc] at hok
    have hF:FO y l k p (i+1)=FO y l k p i++pls y l k (p++[(i:Int)]):=by rw [uR];unfold gO;rw [if_pos hok]
    have hr:=ih (p++[(i:Int)]) (m - (FO y l k p i).length) hok (by simp;omega) (by omega) (by omega)
    have hwm:wr ((m:Int) - il ((FO y l k p i).map yl))=((m - (FO y l k p i).length:Nat):Int):=by
     rw [HK,bW] <;> omega
    rw [hF,List.length_append] at hp3
    rw [Bool.not_true,bV,aH,show bJ 0 p.length 8=true from bL (by omega) (by omega),aC,show bJ p.length 1 8=true from bL (by omega) (by omega),aC,e1,hwm,hr,aD]
    have hF2:FO y l k p i++(pls y l k (p++[(i:Int)])).take (m - (FO y l k p i).length)=(FO y l k p (i+1)).take m:=by
     rw [hF,List.take_append,List.take_of_length_le (by omega:(FO y l k p i).length≤m)]
    have hlen:((FO y l k p (i+1)).take m).length=m:=by rw [List.length_take,hF,List.length_append];omega
    simp only [bI,dL,← List.map_append,hF2]
    rw [show bJ ((FO y l k p i).map yl).length (((pls y l k (p++[(i:Int)])).take (m - (FO y l k p i).length)).map yl).length 24=true from bL (by simp;omega) (by simp;omega),aC]
    simp only [eq_true (show (il (((FO y l k p (i+1)).take m).map yl)≥(m:Int)) by rw [HK,hlen];omega),decide_true,bX,oV]
  ·have hall:pls y l (k+1) p=FO y l k p y.pens.length:=rfl
   cases hf:(List.range y.pens.length).find? (fun i=>decide (m≤(FO y l k p (i+1)).length)) with
   | some i =>
    have hi:i<y.pens.length:=by have:=List.mem_of_find?_eq_some hf;simpa using this
    have hm:m≤(FO y l k p (i+1)).length:=by simpa using List.find?_some hf
    rw [hall,aAC (aAB y l k p (show i+1≤y.pens.length by omega)) hm]
    rfl
   | none =>
    rw [List.find?_eq_none] at hf
    have hlt:(FO y l k p y.pens.length).length≤m:=by
     by_cases h0:y.pens.length=0
     ·rw [h0];simp [FO]
     ·have:=hf (y.pens.length - 1) (by simp;omega)
      rw [show y.pens.length - 1+1=y.pens.length by omega] at this
      simp at this
      omega
    rw [hall,List.take_of_length_le hlt]
    rfl
theorem aDS {y:Yard} (hy:y.ok=true) {l:List Int} (hs:aQ y l=true) (n:Nat) (m:Nat) (h1:1≤m) (h2:m≤1000) :
  D its (n+12) cV [.row 1 y.ps,.row 4 y.ks,.row 1 (ints l),.val (.slice none 0 0),ci (m:Int)]=some [.row 1 (((PL y l).take m).map yl)]:=by
 have h8:=bF hs
 rw [QU]
 have:=NR (its:=its) hy hs l.length (n+(8 - l.length)) [] m (tS y l) (by simp) h1 h2
 rw [show n+(8 - l.length)+l.length+4=n+12 by omega] at this
 exact this
end Go.Proofs.Ythkfohoccnnphaa
namespace Go.Proofs.Ythkfohoccnnphaa
open Go Go.Sx Go.Pen
set_option maxRecDepth 10000
variable {its:ITS}
theorem aAD {y:Yard} {l:List Int} (h:¬asked y l=0):(asked y l != 0)=true:=by simp [h]
theorem aFH {y:Yard} (hy:y.ok=true) {l:List Int} (hs:aQ y l=true) (n:Nat) :
  D its (n+13) wH [.row 1 y.ps,.row 4 y.ks,.row 1 (ints l)]=some [cb (can y l)]:=by
 rw [VP]
 unfold FF
 rw [show (ci 1:CV)=ci ((1:Nat):Int) from rfl,aDS hy hs n 1 (by omega) (by omega),aD,bI]
 unfold can
 cases PL y l <;> rfl
end Go.Proofs.Ythkfohoccnnphaa
namespace Go.Proofs.Ythkfohoccnnphaa
open Go Go.Sx Go.Pen
set_option maxRecDepth 10000
variable {its:ITS}
theorem qL {A:Type} {step:List CV→Option Ou} (g:Nat→Option A) (R:A→Option Ou) (X:Option Ou) (hR:∀ a l,R a≠some (.nx l)) (hX:∀ l,X≠some (.nx l)) (n:Nat)
  (hs:∀ i,i<n→step [ci (i:Int)]=match g i with | some a=>R a | none=>some (.nx [ci ((i+1:Nat):Int)])) (he:step [ci (n:Int)]=X):∀ (k i:Nat),i+k=n →
  aJ step [ci (i:Int)]=match (List.range' i k).findSome? g with | some a=>R a | none=>X
 | 0,i,h=>by
  have:i=n:=by omega
  subst this
  exact bE he hX
 | k+1,i,h=>by
  have h1:=hs i (by omega)
  rw [List.range'_succ,List.findSome?_cons]
  cases hg:g i with
  | some a =>
   rw [hg] at h1
   exact bE h1 (hR a)
  | none =>
   rw [hg] at h1
   rw [dP h1]
   exact qL g R X hR hX n hs he k (i+1) (by omega)
theorem IY (n:Nat) {y:Yard} (hy:y.ok=true) (s:Int):D its (n+3) lS [.row 1 y.ps,.row 4 y.ks,ci s]=some [cb (fW y s)]:=by
 have h5:=bM hy
 rw [LR]
 unfold xR
 rw [kU (fun x=>decide (rm y s≤x)) y.pens (fun _=>some (.ret [cb false])) (some (.br 0 [])) (fun i=>[ci (i:Int)]) ?hv ?hR ?hX (fun i hi hp=>?p1) (fun i hi hp=>?p2) ?p3]
 case hv=>rfl
 case hR=>simp
 case hX=>simp
 case p3=>simp only [aL,eV,eq_false (show ¬((y.pens.length:Int)<(y.pens.length:Int)) by omega),decide_false,bV]
 case p1 =>
  rw [decide_eq_false_iff_not] at hp
  simp only [aL,eV,eq_true (show ((i:Int)<(y.pens.length:Int)) by omega),decide_true,bX,nF hi,tT hi,li1,aC,CU (its:=its) n y (by omega),aD,eq_false hp,decide_false,bV,aO (show i<9223372036854775807 by omega)]
 case p2 =>
  rw [decide_eq_true_eq] at hp
  simp only [aL,eV,eq_true (show ((i:Int)<(y.pens.length:Int)) by omega),decide_true,bX,nF hi,tT hi,li1,aC,CU (its:=its) n y (by omega),aD,eq_true hp]
 ·have key:=NA y s
  cases hf:y.pens.findIdx? (fun x=>decide (rm y s≤x)) with
  | none=>rw [key.1 hf];rfl
  | some i =>
   have:fW y s=false:=by
    cases hc:fW y s with
    | false=>rfl
    | true=>rw [key.2 hc] at hf;cases hf
   rw [this];rfl
theorem aCb (n:Nat) {y:Yard} (hy:y.ok=true):D its (n+1) wI [.row 1 y.ps,.row 4 y.ks]=some [ci (total y)]:=by
 have h5:=(bM hy).1
 rw [VM]
 unfold FB
 rw [(bP y.pens (fun i (s:Int)=>[ci s,ci (i:Int)]) (fun n x=>n+x) (fun i s=>0≤s∧s≤1000*(i:Int)) 0 (fun s=>[ci s]) 0 ?hv ?h0 ?hs ?he).1]
 case hv=>rfl
 case h0=>simp
 case hs =>
  intro i hi s hP
  have hpr:=sB hy hi
  have hw:wr (s+y.pens[i])=s+y.pens[i]:=by rw [bW] <;> omega
  refine ⟨?_,by omega,by omega⟩
  simp only [aL,cA,eV,eq_true (show ((i:Int)<(y.pens.length:Int)) by omega),decide_true,bX,nF hi,tT hi,li1,aC,hw,aO (show i<9223372036854775807 by omega)]
 case he =>
  intro s _
  simp only [aL,cA,eV,eq_false (show ¬((y.pens.length:Int)<(y.pens.length:Int)) by omega),decide_false,bV]
 ·rfl
theorem NS (n:Nat) {y:Yard} (hy:y.ok=true) {b:List Int} (hs:aQ y b=true) (k:Int):D its (n+14) gP [.row 1 y.ps,.row 4 y.ks,.row 1 (ints b),ci k]=some [cb (gG y k b)]:=by
 have h8:=bF hs
 rw [VN]
 unfold FC gG
 by_cases h:k=2
 ·rw [show (k == 2)=true by simp [h],bX,if_pos h,aCa (n+10) hy b (by omega),aD,aCb (n+12) hy,aD]
  rfl
 ·rw [show (k == 2)=false by simp [h],bV,if_neg h,aFH hy hs n,aD]
  rfl
theorem QV (n:Nat) {l b:List Int} (hb:inR l b) (hbl:b.length<1000000):D its (n+1) iQ [.row 1 (ints l),.row 1 (ints b)]=some [.row 1 (ints (ofL l b))]:=by
 rw [PW]
 unfold BN
 rw [(bP b (fun i (_:Unit)=>[ci (i:Int),.row 1 (ints (ofL l (b.take i)))]) (fun _ _=>()) (fun _ _=>True) 0 (fun _=>[.row 1 (ints (ofL l b))]) () ?hv trivial ?hs ?he).1]
 case hv=>rfl
 case hs =>
  intro i hi _ _
  refine ⟨?_,trivial⟩
  obtain ⟨h0,h1⟩:=hb _ (List.getElem_mem hi)
  obtain ⟨m,hm⟩:∃ m:Nat,b[i]=m:=⟨b[i].toNat,by omega⟩
  have hml:m<l.length:=by omega
  have hf:bJ (ints (ofL l (b.take i))).length 1 8=true:=bL (by rw [aH,cT,List.length_take];omega) (by rw [aH,cT,List.length_take];omega)
  have hg:ofL l (b.take i)++[l[m]]=ofL l (b.take i++[b[i]]):=by rw [CT];simp [ofL,hm,hml]
  rw [← List.take_append_getElem hi,← hg]
  simp only [aL,cA,aF,eq_true (show ((i:Int)<(b.length:Int)) by omega),decide_true,bX,aG hi,aI hi,li1,aC,hm,aG hml,aI hml,dL,bI,hf,nC,nA,List.take_succ_cons,List.take_zero,cZ,aO (show i<9223372036854775807 by omega)]
 case he =>
  intro _ _
  rw [List.take_length]
  simp only [aL,aF,eq_false (show ¬((b.length:Int)<(b.length:Int)) by omega),decide_false,bV,dL,bI]
 ·rfl
theorem TD (n:Nat) {y:Yard} (hy:y.ok=true) {b:List Int} (h9:∀ s∈b,1≤s∧s≤9) (hbl:b.length<1000000):D its (n+3) lU [.row 1 y.ps,.row 4 y.ks,.row 1 (ints b)]=some [cb (cK y b)]:=by
 rw [LQ]
 unfold xQ
 have hin:∀ i (hi:i<b.length),∀ {step:List CV→Option Ou},(∀ v,step v=aB (decide ((gi v 0)<(i:Int))) (chk (inb (i:Int) (ints b))<|chk (oks [li] (el (ints b) (i:Int)) 0)<|chk (inb (gi v 0) (ints b))<|chk (oks [li] (el (ints b) (gi v 0)) 0)<|aE (D its (n+2) jH [CV.row 1 y.ps,CV.row 4 y.ks,ci (gi (el (ints b) (i:Int)) 0),ci (gi (el (ints b) (gi v 0)) 0)]) fun v2=>aB (!(gb v2 0)) (some (.ret [cb false])) (some (.nx [ci (wr ((gi v 0)+1))]))) (some (.br 2 []))) →
   aJ step [ci 0]=if ((List.range i).all fun j=>apt y (b.getD i 0) (b.getD j 0))=true then some (.br 2 []) else some (.ret [cb false]):=by
  intro i hi step hst
  have hgi:b.getD i 0=b[i]:=by simp [hi]
  have hi9:=h9 _ (List.getElem_mem hi)
  rw [dI i (fun j=>[ci (j:Int)]) (fun j=>!apt y (b.getD i 0) (b.getD j 0)) (fun _=>some (.ret [cb false])) (some (.br 2 [])) ?hv ?hR ?hX (fun j hj hp=>?s1) (fun j hj hp=>?s2) ?s3]
  case hv=>rfl
  case hR=>simp
  case hX=>simp
  case s3=>rw [hst];simp only [aL,eq_false (show ¬((i:Int)<(i:Int)) by omega),decide_false,bV]
  case s1 =>
   have hjb:j<b.length:=by omega
   have hgj:b.getD j 0=b[j]:=by simp [hjb]
   have hj9:=h9 _ (List.getElem_mem hjb)
   rw [Bool.not_eq_false',hgi,hgj] at hp
   rw [hst]
   simp only [aL,eq_true (show ((j:Int)<(i:Int)) by omega),decide_true,bX,aG hi,aI hi,aG hjb,aI hjb,li1,aC,zS (its:=its) n hy (show 0≤b[i] by omega) (show 0≤b[j] by omega),aD,bD,hp,Bool.not_true,bV,aO (show j<9223372036854775807 by omega)]
  case s2 =>
   have hjb:j<b.length:=by omega
   have hgj:b.getD j 0=b[j]:=by simp [hjb]
   have hj9:=h9 _ (List.getElem_mem hjb)
   rw [Bool.not_eq_true',hgi,hgj] at hp
   rw [hst]
   simp only [aL,eq_true (show ((j:Int)<(i:Int)) by omega),decide_true,bX,aG hi,aI hi,aG hjb,aI hjb,li1,aC,zS (its:=its) n hy (show 0≤b[i] by omega) (show 0≤b[j] by omega),aD,bD,hp,Bool.not_false]
  ·have key:(List.range i).find? (fun j=>!apt y (b.getD i 0) (b.getD j 0))=none↔((List.range i).all fun j=>apt y (b.getD i 0) (b.getD j 0))=true:=by
    rw [List.find?_eq_none,List.all_eq_true]
    refine forall_congr' fun j=>forall_congr' fun _=>?_
    simp
   cases hf:(List.range i).find? (fun j=>!apt y (b.getD i 0) (b.getD j 0)) with
   | none=>rw [if_pos (key.1 hf)]
   | some j =>
    rw [if_neg]
    intro h
    rw [key.2 h] at hf;cases hf
 rw [dI b.length (fun i=>[ci (i:Int)]) (fun i=>!((List.range i).all fun j=>apt y (b.getD i 0) (b.getD j 0))) (fun _=>some (.ret [cb false])) (some (.br 0 [])) ?hv ?hR ?hX (fun i hi hp=>?s1) (fun i hi hp=>?s2) ?s3]
 case hv=>rfl
 case hR=>simp
 case hX=>simp
 case s3=>simp only [aL,aF,eq_false (show ¬((b.length:Int)<(b.length:Int)) by omega),decide_false,bV]
 case s1 =>
  rw [Bool.not_eq_false'] at hp
  simp only [aL,aF,eq_true (show ((i:Int)<(b.length:Int)) by omega),decide_true,bX]
  erw [hin i hi (fun v=>rfl)]
  rw [if_pos hp,bR,aO (show i<9223372036854775807 by omega)]
 case s2 =>
  rw [Bool.not_eq_true'] at hp
  simp only [aL,aF,eq_true (show ((i:Int)<(b.length:Int)) by omega),decide_true,bX]
  erw [hin i hi (fun v=>rfl)]
  rw [if_neg (by rw [hp];simp),oV]
 ·have key:(List.range b.length).find? (fun i=>!((List.range i).all fun j=>apt y (b.getD i 0) (b.getD j 0)))=none↔cK y b=true:=by
   rw [List.find?_eq_none]
   unfold cK
   rw [List.all_eq_true]
   refine forall_congr' fun i=>forall_congr' fun _=>?_
   simp
  cases hf:(List.range b.length).find? (fun i=>!((List.range i).all fun j=>apt y (b.getD i 0) (b.getD j 0))) with
  | none=>rw [key.1 hf];rfl
  | some i =>
   have:cK y b=false:=by
    cases hc:cK y b with
    | false=>rfl
    | true=>rw [key.2 hc] at hf;cases hf
   rw [this];rfl
end Go.Proofs.Ythkfohoccnnphaa
namespace Go.Proofs.Ythkfohoccnnphaa
open Go Go.Sx Go.Pen
set_option maxRecDepth 10000
theorem aDT (n:Nat):D its (n+1) 104 [CV.fn 124 [],CV.fn 94 [],CV.fn 95 [],CV.fn 97 [],CV.fn 98 []]=some [.fn 0 []]:=by rw [aFF];rfl
theorem aDU (n:Nat) {l:List Int} (h:l.length<1000000):D its (n+1) 76 [.row 1 (ints l)]=some [.row 1 (ints l),.fn 3 []]:=by
 rw [aFG]
 show jZ [.row 1 (ints l)]=_
 simp [jZ,h]
theorem TE (n:Nat) {y:Yard} (hy:y.ok=true) {l:List Int} (hs:aQ y l=true) {tr:MA} (hk:Kept y tr) {k:Int} (h1:1≤k∧k≤4) {by_:List Int} (hb:inR l by_) (h8:by_.length≤8)
  {pre:(List (List CV)→Option Ou)→Option Ou} {K0:Option Ou→Option Ou} (hpre:∀ F,pre F=K0 (F (ints by_))) :
  ∃ tr',Kept y tr'∧ZS (D its (n+2)) (pc y) (ints l) k (eO tr) pre=K0 (some (.ret [cb (ill y l k by_),.row 11 (eO tr')])):=by
 have h9:=CH hy hs
 have hw:wr (k - 1)=k - 1:=by rw [bW] <;> omega
 unfold ZS
 rw [aDT,aD,show isW [CV.fn 0 []]=true from rfl,aC,hw]
 simp only [eq_true (show (0:Int)≤k - 1 by omega),eq_true (show k - 1<4 by omega),decide_true,Bool.and_self,aC,hpre]
 have hk4:k=1∨k=2∨k=3∨k=4:=by omega
 rcases hk4 with rfl | rfl | rfl | rfl
 ·refine ⟨tr,hk,?_⟩
  rw [show ((1:Int) - 1 == 0)=true from rfl,bX,SX _ hy h9 hb]
  rfl
 ·refine ⟨tr,hk,?_⟩
  rw [show ((2:Int) - 1 == 0)=false from rfl,show ((2:Int) - 1 == 1)=true from rfl,bV,bX,MY (its:=its) _ n hy h9 hb (by omega)]
  rfl
 ·refine ⟨tr,hk,?_⟩
  rw [show ((3:Int) - 1 == 0)=false from rfl,show ((3:Int) - 1 == 1)=false from rfl,show ((3:Int) - 1 == 2)=true from rfl,bV,bV,bX,NB (its:=its) _ (n+1) hy h9 hb (by omega)]
  rfl
 ·obtain ⟨tr',ht',e⟩:=FN (its:=its) aAu n hy hs hb h8 hk
  refine ⟨tr',ht',?_⟩
  rw [show ((4:Int) - 1 == 0)=false from rfl,show ((4:Int) - 1 == 1)=false from rfl,show ((4:Int) - 1 == 2)=false from rfl,bV,bV,bV,e]
  rfl
theorem GB (n:Nat) {y:Yard} (hy:y.ok=true) {l:List Int} (hs:aQ y l=true) {k:Int} (h1:1≤k∧k≤4) {b:List Int} (hb:inR l b) (h8:b.length≤8):∀ (m i:Nat) (tr:MA),i+m=b.length→Kept y tr →
  (if (List.range' i m).any (fun j=>ill y l k (b.eraseIdx j))=true then aJ (yD (D its (n+2)) (pc y) (ints l) (ints b) k) [ci (i:Int),.row 11 (eO tr)]=some (.ret [ci 54])
   else ∃ vs,aJ (yD (D its (n+2)) (pc y) (ints l) (ints b) k) [ci (i:Int),.row 11 (eO tr)]=some (.br 2 [.row 11 vs]))
 | 0,i,tr,hm,ht=>by
  rw [if_neg (by simp)]
  refine ⟨eO tr,bE ?_ (by simp)⟩
  unfold yD
  simp only [aL,aF,eq_false (show ¬((i:Int)<(b.length:Int)) by omega),decide_false,bV,dL,bI]
 | m+1,i,tr,hm,ht=>by
  have hi:i<b.length:=by omega
  have hel:=List.length_eraseIdx_of_lt hi
  have hd:=aAu.del (n+1) b i hi (by omega)
  obtain ⟨tr',ht',e⟩:=TE (n:=n) hy hs ht h1 (gN hb i) (by omega)
   (pre:=fun F=>aE (D its (n+2) 76 [CV.row 1 (ints b)]) fun v6=>chk (GY 1 3 v6)<|aE (D its (n+2) 82 ([CV.row 1 (gr v6 0),CV.fn 3 [],ci (i:Int),ci (wr ((i:Int)+1))])) fun v7=>chk (rR 1 true v7)<|eW (F (gr v7 0)) fun v8=>aB (gb v8 0) (some (.ret [ci 54])) (some (.nx [ci (wr ((i:Int)+1)),CV.row 11 (gr v8 1)])))
   (K0:=fun X=>eW X fun v8=>aB (gb v8 0) (some (.ret [ci 54])) (some (.nx [ci (wr ((i:Int)+1)),CV.row 11 (gr v8 1)]))) (fun F=>by
    simp only [aDU (n+1) (show b.length<1000000 by omega),aD,bI,aO (show i<9223372036854775807 by omega),hd]
    rfl)
  have hstep:yD (D its (n+2)) (pc y) (ints l) (ints b) k [ci (i:Int),.row 11 (eO tr)]=if ill y l k (b.eraseIdx i)=true then some (.ret [ci 54]) else some (.nx [ci ((i+1:Nat):Int),.row 11 (eO tr')]):=by
   unfold yD
   simp only [aL,cA,aF,eq_true (show ((i:Int)<(b.length:Int)) by omega),decide_true,bX,dL,bI]
   rw [e]
   simp only [bS,bD,dL,bI,aO (show i<9223372036854775807 by omega)]
   cases ill y l k (b.eraseIdx i) <;> rfl
  rw [List.range'_succ,List.any_cons]
  cases hc:ill y l k (b.eraseIdx i) with
  | true =>
   rw [hc,if_pos rfl] at hstep
   rw [Bool.true_or,if_pos rfl]
   exact bE hstep (by simp)
  | false =>
   rw [hc,if_neg (by simp)] at hstep
   rw [Bool.false_or,dP hstep]
   exact GB n hy hs h1 hb h8 m (i+1) tr' (by omega) ht'
theorem WK (n:Nat) {l:List Int} (hl:l.length<1000000) {b:List Int} (hb:b.length<9223372036854775807):aJ (MJ (D its (n+1)) (ints l) (ints b)) [ci 0]=if fO l b=true then some (.br 0 []) else some (.ret [ci 54]):=by
 have hwl:wr ((l.length:Int) - 1)=(l.length:Int) - 1:=by rw [bW] <;> omega
 rw [dI b.length (fun i=>[ci (i:Int)]) (wR l b) (fun _=>some (.ret [ci 54])) (some (.br 0 [])) ?hv ?hR ?hX (fun i hi hp=>?s1) (fun i hi hp=>?s2) ?s3]
 case hv=>rfl
 case hR=>simp
 case hX=>simp
 case s3 =>
  unfold MJ
  simp only [aL,aF,eq_false (show ¬((b.length:Int)<(b.length:Int)) by omega),decide_false,bV]
 case s1 =>
  have hg:b.getD i 0=b[i]:=by simp [hi]
  unfold wR at hp
  rw [hg,Bool.or_eq_false_iff,Bool.not_eq_false'] at hp
  unfold MJ
  simp only [aL,aF,eq_true (show ((i:Int)<(b.length:Int)) by omega),decide_true,bX,bV,aG hi,aI hi,li1,aC,hwl,MP,aD,bD,hp.1,Bool.not_true]
  by_cases h0:0<i
  ·have hg':b.getD (i - 1) 0=b[i - 1]:=by simp [show i - 1<b.length by omega]
   have hp2:=hp.2
   rw [decide_eq_true h0,Bool.true_and,hg',decide_eq_false_iff_not] at hp2
   have hw:=jU h0 (show i<9223372036854775807 by omega)
   simp only [eq_true (show (i:Int) > 0 by omega),decide_true,bX,hw,aG (show i - 1<b.length by omega),aI (show i - 1<b.length by omega),li1,aC,aL,eq_false hp2,decide_false,aV,bD,bV,aO (show i<9223372036854775807 by omega)]
  ·simp only [eq_false (show ¬(i:Int) > 0 by omega),decide_false,bV,aV,bD,aO (show i<9223372036854775807 by omega)]
 case s2 =>
  have hg:b.getD i 0=b[i]:=by simp [hi]
  unfold wR at hp
  rw [hg] at hp
  unfold MJ
  simp only [aL,aF,eq_true (show ((i:Int)<(b.length:Int)) by omega),decide_true,bX,aG hi,aI hi,li1,aC,hwl,MP,aD,bD]
  cases hw1:within b[i] 0 ((l.length:Int) - 1) with
  | false=>rfl
  | true =>
   rw [hw1,Bool.not_true,Bool.false_or,Bool.and_eq_true,decide_eq_true_eq,decide_eq_true_eq] at hp
   obtain ⟨h0,hp2⟩:=hp
   have hg':b.getD (i - 1) 0=b[i - 1]:=by simp [show i - 1<b.length by omega]
   rw [hg'] at hp2
   have hw:=jU h0 (show i<9223372036854775807 by omega)
   simp only [Bool.not_true,bV,eq_true (show (i:Int) > 0 by omega),decide_true,bX,hw,aG (show i - 1<b.length by omega),aI (show i - 1<b.length by omega),li1,aC,aL,eq_true hp2,aV,bD]
 ·have key:(List.range b.length).find? (wR l b)=none↔fO l b=true:=by
   rw [List.find?_eq_none]
   unfold fO
   rw [List.all_eq_true]
   refine forall_congr' fun i=>forall_congr' fun _=>?_
   simp
  cases hf:(List.range b.length).find? (wR l b) with
  | none=>rw [if_pos (key.1 hf)]
  | some i =>
   rw [if_neg]
   intro h
   rw [key.2 h] at hf;cases hf
theorem CY (n:Nat) {y:Yard} (hf:Fit y) (l:List Int) (k:Int) (b:List Int) (hl:l.length<9223372036854775807) (hb:b.length<9223372036854775807) :
  D its (n+8) gE [.row 1 y.ps,.row 4 y.ks,.row 1 (ints l),ci k,.row 1 (ints b)]=some [ci (uP y l k b)]:=by
 rw [sQ]
 unfold ZT uP
 have hask:=qI (its:=its) n y l hf.p hf.k hl
 change D its (n+7) 72 _=_ at hask
 rw [hask]
 by_cases h:asked y l=0
 ·obtain ⟨hy,hs⟩:=eN h
  have h8:=bF hs
  simp only [h,beq_self_eq_true,eB,if_true,aD,cA,aL,List.getD_cons_zero,fF,lW,aC]
  rw [show ((0:Int) != 0)=false from rfl,bV,WK (n+6) (by omega) hb]
  unfold iC
  cases hri:fO l b with
  | false=>rfl
  | true =>
   obtain ⟨g1,g2⟩:=wS hri
   have hbl:b.length≤8:=by
    have:=(zR g1 g2).length_le
    rw [cT] at this
    omega
   have hin:D its (n+7) 67 [ci k,ci 1,ci 4]=some [cb (within k 1 4)]:=MP (n+6) k 1 4
   rw [if_pos rfl,bR,hin,aD,bD]
   cases hwk:within k 1 4 with
   | false=>rfl
   | true =>
    have hk4:=hwk
    simp only [within,Bool.and_eq_true,decide_eq_true_eq] at hk4
    rw [Bool.not_true,bV,aF]
    by_cases h0:b.length=0
    ·rw [show (((b.length:Nat):Int) == 0)=true by simp [h0],bX,decide_eq_false (show ¬b.length≠0 by omega)]
     rfl
    ·rw [show (((b.length:Nat):Int) == 0)=false by rw [beq_eq_false_iff_ne];omega,bV,decide_eq_true h0]
     obtain ⟨tr,ht,e⟩:=TE (n:=n+5) hy hs (Kept.nil y) hk4 g2 hbl (pre:=fun F=>eW (F (ints b)) fun v4=>some (.nx [cb (!(gb v4 0)),CV.row 11 (gr v4 1)])) (K0:=fun X=>eW X fun v4=>some (.nx [cb (!(gb v4 0)),CV.row 11 (gr v4 1)])) (fun F=>rfl)
     change ZS (D its (n+7)) (pc y) (ints l) k [] _=_ at e
     rw [e]
     simp only [bS,aV,bD,dL,bI]
     cases hil:ill y l k b with
     | false=>rfl
     | true =>
      rw [Bool.not_true,bV]
      by_cases h24:k=2∨k=4
      ·have h3:bN (aB (k == 2) (some (.nx [cb true])) (some (.nx [cb (k == 4)])))=fun K=>K [cb true]:=by
        funext K
        rcases h24 with rfl | rfl <;> rfl
       rw [h3]
       simp only [bD,bX]
       have hlp:=GB (n+5) hy hs hk4 g2 hbl b.length 0 tr (by omega) ht
       rw [decide_eq_true h24]
       have hls:less y l k b=(List.range' 0 b.length).any (fun j=>ill y l k (b.eraseIdx j)):=by unfold less;rw [List.range_eq_range']
       rw [hls]
       cases hany:(List.range' 0 b.length).any (fun j=>ill y l k (b.eraseIdx j)) with
       | true =>
        rw [hany,if_pos rfl] at hlp
        change aJ (yD (D its (n+7)) (pc y) (ints l) (ints b) k) [ci 0,CV.row 11 (eO tr)]=_ at hlp
        rw [hlp]
        rfl
       | false =>
        rw [hany,if_neg (by simp)] at hlp
        obtain ⟨vs,hlp⟩:=hlp
        change aJ (yD (D its (n+7)) (pc y) (ints l) (ints b) k) [ci 0,CV.row 11 (eO tr)]=_ at hlp
        rw [hlp]
        rfl
      ·have h3:bN (aB (k == 2) (some (.nx [cb true])) (some (.nx [cb (k == 4)])))=fun K=>K [cb false]:=by
        funext K
        rw [show (k == 2)=false by simp;omega,show (k == 4)=false by simp;omega]
        rfl
       rw [h3,decide_eq_false h24]
       rfl
 ·simp only [aD,cA,aL,if_neg h]
  rw [show (asked y l != 0)=true by simp [h]]
  rfl
end Go.Proofs.Ythkfohoccnnphaa
