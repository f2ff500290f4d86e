/-
 The laws of a pinder's court (plaints) hold at every input, without any condition.
-/
import Derived.KernelRfl
import Derived.Test.YtgpnoeojpmaeiaaGreatProg
import Derived.Test.YtgpnoeojpmaeiaaGreatP10
set_option linter.unusedSectionVars false
set_option linter.unusedVariables false
set_option linter.unusedSimpArgs false
namespace Go.Plaint
open Go Go.Sx
def lC {A:Type} (E:A->Bool) (key:A->Int) (l:List A):Bool:=(List.range l.length).all fun i=>(match l[i]? with
 | some a=>E a
 | none=>true)&&(decide (i=0) || decide ((l.map key).getD (i - 1) 0<(l.map key).getD i 0))
def nE (a b:Int):Int:=if a<b then -1 else if a > b then 1 else 0
theorem jU {A:Type} {E:A->Bool} {key:A->Int} {l:List A}:lC E key l=true↔(∀ a∈l,E a=true)/\(l.map key).Pairwise (·<·):=by
 have hP:(l.map key).Pairwise (·<·)↔∀ i,0<i->i<l.length->(l.map key).getD (i - 1) 0<(l.map key).getD i 0:=by
  constructor
  ·intro h i h0 hi
   have:=List.pairwise_iff_getElem.1 h (i - 1) i (by grind) (by grind) (by omega)
   grind
  ·intro h
   rw [List.pairwise_iff_getElem];intro i j hi hj d8
   have key2:∀ d,i+d+1<l.length->(l.map key).getD i 0<(l.map key).getD (i+d+1) 0:=by
    intro d
    induction d with
    | zero=>grind
    | succ d ih =>
     grind
   have e:i+(j - i - 1)+1=j:=by omega
   grind
 rw [hP];unfold lC;constructor
 ·intro h
  refine ⟨fun a ha=>?_,fun i h0 hi=>?_⟩
  ·obtain ⟨i,hi,rfl⟩:=List.mem_iff_getElem.1 ha
   grind
  grind
 grind
theorem aCp (L:List Int) (g:Int):zY L g=lC (fun a=>inB a 1 g) id L:=by
 unfold zY lC;grind
end Go.Plaint
namespace Go.Proofs.YtgpnoeojpmaeiaaGreat
open Go Go.Sx Go.Plaint
set_option maxRecDepth 10000
section
variable {A:Type} {f:A->List CV} {l:List A} {ls:List Lf}
theorem BV (ck:List CV->Option (List CV)) (cm:List CV->List CV->Option (List CV)) {E:A->Bool} {e:Int} (he:e≠0) {key:A->Int} (hl:l.length<1000000000000000) (ka:∀ a∈l,oks ls (f a) 0=true) (L6:∀ a∈l,ck (f a)=some [ci (if E a=true then 0 else e)]) (fq:∀ a∈l,∀ b∈l,cm (f a) (f b)=some [ci (nE (key a) (key b))]) :
  aH (fun v0 =>
      aC (decide ((gi v0 0)<(il (l.map f))))
       (chk (inb (gi v0 0) (l.map f)) <|
       chk (oks ls (el (l.map f) (gi v0 0)) 0) <|
       bD (aA (ck (el (l.map f) (gi v0 0))) fun v1 =>
        aC ((gi v1 0) != 0)
         (some (.nx [cb true]))
         (aC (decide ((gi v0 0) > 0))
          (chk (inb (wr ((gi v0 0) - 1)) (l.map f)) <|
          chk (oks ls (el (l.map f) (wr ((gi v0 0) - 1))) 0) <|
          aA (cm (el (l.map f) (wr ((gi v0 0) - 1))) (el (l.map f) (gi v0 0))) fun v2 =>
          some (.nx [cb (decide ((gi v2 0)>=0))]))
          (some (.nx [cb false])))) fun v1 =>
       aC (gb v1 0)
        (some (.ret [cb false]))
        (some (.nx [ci (wr ((gi v0 0)+1))])))
       (some (.br 0 []))) [ci 0]=if lC E key l=true then some (.br 0 []) else some (.ret [cb false]):=by
 have ah:il (l.map f)=(l.length:Int):=aP _ _;refine wD l.length (fun i=>[ci (i:Int)]) _ _ _ rfl (fun i hi=>?_) ?_ (by simp) (by simp)
 ·have i1:inb (i:Int) (l.map f)=true:=aE hi
  have e1:el (l.map f) (i:Int)=f l[i]:=aK hi;have hw:=bA (show i<9223372036854775807 by omega)
  have dd:(i:Int)<(l.length:Int):=by omega
  have hm:=List.getElem_mem hi;simp only [cW,e1,L6 _ hm,aD];cases hE:E l[i] with
  | false =>
   simp_all
  | true =>
   have:((if true=true then (0:Int) else e) != 0)=false:=by simp
   by_cases h0:i=0
   ·simp_all
   ·have hp:=NI (x:=i) (by omega) (by omega)
    have i2:inb ((i - 1:Nat):Int) (l.map f)=true:=aE (by omega)
    have e2:el (l.map f) ((i - 1:Nat):Int)=f l[i - 1]:=aK (by omega)
    have Oc:l[i - 1]∈l:=List.getElem_mem _;have g0:(i:Int) > 0:=by omega
    simp only [g0];have k1:(l.map key).getD (i - 1) 0=key l[i - 1]:=by grind
    have k2:(l.map key).getD i 0=key l[i]:=by grind
    rw [k1,k2]
    by_cases an:key l[i - 1]<key l[i]
    ·simp_all [nE,decide_false,decide_true,dU,if_true]
    ·have:nE (key l[i - 1]) (key l[i])>=0:=by unfold nE;omega
     simp_all
 simp
theorem rP (call:List CV->Option (List CV)) {P:A->Bool} (hl:l.length<1000000000000000) (ka:∀ a∈l,oks ls (f a) 0=true) (hc:∀ a∈l,call (f a)=some [cb (P a)]) :
  ∃ o:Int,aJ (bG 0 (aH (fun v0 =>
    aC (decide ((gi v0 0)<(il (l.map f))))
     (chk (inb (gi v0 0) (l.map f)) <|
     chk (oks ls (el (l.map f) (gi v0 0)) 0) <|
     aA (call (el (l.map f) (gi v0 0))) fun v1 =>
     aC (gb v1 0)
      (some (.ret [ci (gi v0 0)]))
      (some (.nx [ci (wr ((gi v0 0)+1))])))
     (some (.br 0 []))) [ci 0]) fun v0=>some (.ret [ci (-1)]))=some [ci o]/\decide (o>=0)=l.any P/\o=Go.Sx.DI (l.findIdx? P):=by
 refine ⟨Go.Sx.DI (l.findIdx? P),?_,?_,rfl⟩
 ·rw [GN (vs:=[ci 0]) P l (fun i=>some (.ret [ci (i:Int)])) (some (.br 0 [])) (fun i=>[ci (i:Int)]) rfl (by simp) (by simp) (fun i hi hp=>?s1) (fun i hi hp=>?s2) ?s3]
  ·cases l.findIdx? P <;> rfl
  case s1 =>
   have i1:inb (i:Int) (l.map f)=true:=aE hi;have e1:el (l.map f) (i:Int)=f l[i]:=aK hi;have hw:=bA (show i<9223372036854775807 by omega)
   simp_all
  case s2 =>
   have i1:inb (i:Int) (l.map f)=true:=aE hi;have e1:el (l.map f) (i:Int)=f l[i]:=aK hi;simp_all
  simp
 ·cases h:l.findIdx? P with
  | none =>
   have:l.any P=false:=by grind
   rw [this];rfl
  | some i =>
   grind [Go.Sx.DI]
end
end Go.Proofs.YtgpnoeojpmaeiaaGreat
namespace Go.Plaint
open Go Go.Sx
def eF (ids:List Int) (x:Int):Nat:=ids.findIdx fun a=>decide (x<=a)
theorem aEe (ids:List Int) (x:Int):eF ids x<=ids.length:=List.findIdx_le_length
variable {ids:List Int}
theorem WM {x:Int} (k:Nat) (hk:k<eF ids x):ids.getD k 0<x:=by
 have h:=List.not_of_lt_findIdx hk;grind
theorem NP {x:Int} (hs:ids.Pairwise (·<·)) (k:Nat) (hk:eF ids x<=k) (hl:k<ids.length):x<=ids.getD k 0:=by
 have hm:eF ids x<ids.length:=by omega
 have h:=List.findIdx_getElem (p:=fun a=>decide (x<=a)) (xs:=ids) (w:=hm)
 have h':x<=ids[eF ids x]'(hm):=of_decide_eq_true h;have e:ids.getD k 0=ids[k]:=by grind
 rw [e]
 by_cases he:eF ids x=k
 ·grind
 ·have:=List.pairwise_iff_getElem.1 hs _ _ hm hl (by omega)
  omega
def wT (ids:List Int) (x:Int):Bool:=decide (eF ids x<ids.length)&&decide (ids.getD (eF ids x) 0=x)
end Go.Plaint
namespace Go.Proofs.YtgpnoeojpmaeiaaGreat
open Go Go.Sx Go.Plaint
set_option maxRecDepth 10000
theorem aEf {a b:Nat} (h:a+b<9223372036854775807):wr (Int.fdiv (IntKind.wrap .u64 (wr ((a:Int)+(b:Int)))) 2)=(((a+b) / 2:Nat):Int):=by
 grind [dQ,IntKind.wrap,IntKind.bits]
theorem aCq {step:List CV->Option Ou} {m N:Nat} {b:Nat}
  (hs:∀ i j:Nat,i<=m->m<=j->i<j->j<=N->step [ci (i:Int),ci (j:Int)]=some (.nx (if (i+j) / 2<m then [ci (((i+j) / 2+1:Nat):Int),ci (j:Int)] else [ci (i:Int),ci (((i+j) / 2:Nat):Int)])))
  (he:step [ci (m:Int),ci (m:Int)]=some (.br b [ci (m:Int)])):∀ (d i j:Nat),j - i<=d->i<=m->m<=j->j<=N->aH step [ci (i:Int),ci (j:Int)]=some (.br b [ci (m:Int)]):=by
 intro d
 induction d with
 | zero =>
  intro i j hd h1 h2 hN;have e1:i=m:=by omega
  have e2:j=m:=by omega
  subst e1;subst e2;exact aQ he (by simp)
 | succ d ih =>
  intro i j hd h1 h2 hN
  by_cases d8:i<j
  ·rw [gI (hs i j h1 h2 d8 hN)]
   by_cases hm:(i+j) / 2<m
   ·rw [if_pos hm];exact ih _ _ (by omega) (by omega) (by omega) (by omega)
   ·rw [if_neg hm];exact ih _ _ (by omega) (by omega) (by omega) (by omega)
  grind
section
variable {A:Type} {f:A->List CV} {l:List A} {ls:List Lf}
theorem aCr (cm:List CV->Option (List CV)) {key:A->Int} {x:Int} (hl:l.length<1000000000000000) (hr:(l.map key).Pairwise (·<·)) (ka:∀ a∈l,oks ls (f a) 0=true) (fq:∀ a∈l,cm (f a)=some [ci (nE (key a) x)]) :
  aJ (bG 0 (aH (fun v0 =>
      aC (decide ((gi v0 0)<(gi v0 1)))
       (chk (inb (wr (Int.fdiv (IntKind.wrap .u64 (wr ((gi v0 0)+(gi v0 1)))) 2)) (l.map f)) <|
       chk (oks ls (el (l.map f) (wr (Int.fdiv (IntKind.wrap .u64 (wr ((gi v0 0)+(gi v0 1)))) 2))) 0) <|
       aA (cm (el (l.map f) (wr (Int.fdiv (IntKind.wrap .u64 (wr ((gi v0 0)+(gi v0 1)))) 2)))) fun v1 =>
       bD (aC (decide ((gi v1 0)<0))
           (some (.nx [ci (wr ((wr (Int.fdiv (IntKind.wrap .u64 (wr ((gi v0 0)+(gi v0 1)))) 2))+1)),ci (gi v0 1)]))
           (some (.nx [ci (gi v0 0),ci (wr (Int.fdiv (IntKind.wrap .u64 (wr ((gi v0 0)+(gi v0 1)))) 2))]))) fun v2 =>
       some (.nx [ci (gi v2 0),ci (gi v2 1)]))
       (some (.br 0 [ci (gi v0 0)]))) [ci 0,ci (il (l.map f))]) fun v0 =>
  aC (decide ((gi v0 0)<(il (l.map f))))
   (chk (inb (gi v0 0) (l.map f)) <|
   chk (oks ls (el (l.map f) (gi v0 0)) 0) <|
   aA (cm (el (l.map f) (gi v0 0))) fun v1 =>
   some (.ret [ci (gi v0 0),cb ((gi v1 0) == 0)]))
   (some (.ret [ci (gi v0 0),cb false])))=some [ci (eF (l.map key) x:Int),cb (wT (l.map key) x)]:=by
 have ah:il (l.map f)=(l.length:Int):=aP _ _;have bt:=aEe (l.map key) x;rw [List.length_map] at bt;rw [show ([ci 0,ci (il (l.map f))]:List CV)=[ci ((0:Nat):Int),ci ((l.length:Nat):Int)] by simp]
 rw [aCq (m:=eF (l.map key) x) (b:=0) ?hs ?he l.length 0 l.length (by omega) (by omega) bt (Nat.le_refl _)]
 case hs =>
  intro i j h1 h2 d8 bk
  ·have hh:=aEf (a:=i) (b:=j) (by omega)
   have hm:(i+j) / 2<l.length:=by omega
   have i1:inb (((i+j) / 2:Nat):Int) (l.map f)=true:=aE hm;have e1:el (l.map f) (((i+j) / 2:Nat):Int)=f l[(i+j) / 2]:=aK hm;have hw:=bA (show (i+j) / 2<9223372036854775807 by omega)
   have Ft:(i:Int)<(j:Int):=by omega
   have ee:=List.getElem_mem hm;simp only [cW,BR,Ft,hh,i1,e1,ka _ ee,fq _ ee]
   by_cases an:(i+j) / 2<eF (l.map key) x
   ·have:=WM _ an
    simp_all [nE]
   ·have:=NP (x:=x) hr ((i+j) / 2) (by omega) (by grind)
    have hc:¬nE (key l[(i+j) / 2]) x<0:=by unfold nE;grind
    simp [hc,an]
 case he=>simp
 have hb:=jC 0 [ci (eF (l.map key) x:Int)];rw [hb];simp
 by_cases an:eF (l.map key) x<l.length
 ·have i1:inb (eF (l.map key) x:Int) (l.map f)=true:=aE an
  have e1:el (l.map f) (eF (l.map key) x:Int)=f l[eF (l.map key) x]:=aK an;have ee:=List.getElem_mem an;have Cr:((eF (l.map key) x:Nat):Int)<(l.length:Int):=by omega
  have Gq:=NP (x:=x) hr _ (Nat.le_refl _) (by grind)
  simp [i1,e1,ka _ ee,fq _ ee]
  have:(nE (key l[eF (l.map key) x]) x == 0)=wT (l.map key) x:=by
   unfold wT;grind [nE]
  grind
 grind [dP,wT]
end
end Go.Proofs.YtgpnoeojpmaeiaaGreat
namespace Go.Plaint
open Go Go.Sx
def Court.pids (c:Court):List Int:=c.ps.map Pt.i0
def Court.sids (c:Court):List Int:=c.ss.map Su.id
def Court.fids (c:Court):List Int:=c.fs.map Fi.i0
def Court.standB (c:Court) (p:Pt):Bool:=p.ss.all fun x=>c.sids.contains x
def Court.isOfB (c:Court) (f:Fi):Bool:=wT c.pids f.i1&&decide (c.needAt (eF c.pids f.i1)>=f.i4)
def Court.fineP (c:Court):Bool:=lC wS Pt.i0 c.ps&&decide (c.ps.length<=6)
def Court.fineS (c:Court):Bool:=lC IG Su.id c.ss&&decide (c.ss.length<=8)
def Court.fineF (c:Court):Bool:=lC II Fi.i0 c.fs&&decide (c.fs.length<=60)
def Court.ok (c:Court):Bool:=c.fineP&&(c.fineS&&(c.fineF&&(c.ps.all c.standB&&c.fs.all c.isOfB)))
structure Court.Fit (c:Court):Prop where
 p:c.ps.length<1000000000000000
 s:c.ss.length<1000000000000000
 f:c.fs.length<1000000000000000
 b:∀ p∈c.ps,p.bs.length<1000000000000000/\p.ss.length<1000000000000000
end Go.Plaint
namespace Go.Proofs.YtgpnoeojpmaeiaaGreat
section
open Go Go.Sx Go.Plaint
set_option maxRecDepth 10000
theorem v61 (M:Den) (p:Pt):bN sg M (.fn 61 []) (cat [[ci (gi p.cv 0),ci (gi p.cv 1),CV.row 1 (gr p.cv 2)],cis p.cv 3 4,[CV.row 1 (gr p.cv 7)]]) [.agg [li,li,.row 1,li,li,li,li,.row 1]] [.one li]=M 61 p.cv:=by rfl
theorem v59 (M:Den) (p:Su):bN sg M (.fn 59 []) ([ci (gi p.cv 0),ci (gi p.cv 1),ci (gi p.cv 2)]) [.agg [li,li,li]] [.one li]=M 59 p.cv:=by rfl
theorem v63 (M:Den) (p:Fi):bN sg M (.fn 63 []) (cis p.cv 0 6) [.agg (List.replicate 6 li)] [.one li]=M 63 p.cv:=by rfl
theorem aIq (M:Den) (p q:Pt):bN sg M (.fn 147 []) (cat [[ci (gi p.cv 0),ci (gi p.cv 1),CV.row 1 (gr p.cv 2)],cis p.cv 3 4,[CV.row 1 (gr p.cv 7),ci (gi q.cv 0),ci (gi q.cv 1),CV.row 1 (gr q.cv 2)],cis q.cv 3 4,[CV.row 1 (gr q.cv 7)]]) [.agg [li,li,.row 1,li,li,li,li,.row 1],.agg [li,li,.row 1,li,li,li,li,.row 1]] [.one li]=M 147 (p.cv++q.cv):=by rfl
theorem aJH (M:Den) (p q:Su):bN sg M (.fn 149 []) ([ci (gi p.cv 0),ci (gi p.cv 1),ci (gi p.cv 2),ci (gi q.cv 0),ci (gi q.cv 1),ci (gi q.cv 2)]) [.agg [li,li,li],.agg [li,li,li]] [.one li]=M 149 (p.cv++q.cv):=by rfl
theorem aJI (M:Den) (p q:Fi):bN sg M (.fn 131 []) (cat [cis p.cv 0 6,cis q.cv 0 6]) [.agg (List.replicate 6 li),.agg (List.replicate 6 li)] [.one li]=M 131 (p.cv++q.cv):=by rfl
section
variable (its:ITS) (n:Nat)
theorem WN (a b:Int):D its (n+2) 94 [ci a,ci b]=some [ci (nE a b)]:=KP its n a b
theorem aFd (p q:Pt):D its (n+3) 147 (p.cv++q.cv)=some [ci (nE p.i0 q.i0)]:=by
 refine (rK its (n+2) _ _ _ _ _ _ _ _ _ _ _ _ _ _ _ _).trans ?_;simp [jQ,WN]
theorem aIr (p q:Su):D its (n+3) 149 (p.cv++q.cv)=some [ci (nE p.id q.id)]:=by
 refine (zR its (n+2) _ _ _ _ _ _).trans ?_;simp [pH,WN]
theorem aIs (p q:Fi):D its (n+3) 131 (p.cv++q.cv)=some [ci (nE p.i0 q.i0)]:=by
 refine (qJ its (n+2) _ _ _ _ _ _ _ _ _ _ _ _).trans ?_;simp [iX,WN]
variable {c:Court}
theorem aEg (hc:c.Fit) (m:Int):D its (n+4) 146 [.row 8 c.p,ci m,.fn 61 [],.fn 147 []]=some [cb (lC wS Pt.i0 c.ps&&decide ((c.ps.length:Int)<=m))]:=by
 refine (uT its (n+3) _ _ _ _).trans ?_
 have h:=BV (f:=Pt.cv) (l:=c.ps) (ls:=[li,li,.row 1,li,li,li,li,.row 1]) (fun e=>bN sg (D its (n+3)) (.fn 61 []) (cat [[ci (gi e 0),ci (gi e 1),CV.row 1 (gr e 2)],cis e 3 4,[CV.row 1 (gr e 7)]]) [.agg [li,li,.row 1,li,li,li,li,.row 1]] [.one li])
  (fun e q=>bN sg (D its (n+3)) (.fn 147 []) (cat [[ci (gi e 0),ci (gi e 1),CV.row 1 (gr e 2)],cis e 3 4,[CV.row 1 (gr e 7),ci (gi q 0),ci (gi q 1),CV.row 1 (gr q 2)],cis q 3 4,[CV.row 1 (gr q 7)]]) [.agg [li,li,.row 1,li,li,li,li,.row 1],.agg [li,li,.row 1,li,li,li,li,.row 1]] [.one li])
  (E:=wS) (e:=70) (by decide) (key:=Pt.i0) hc.p (fun a _=>rfl) (fun a ha=>(v61 _ a).trans (IJ its n (hc.b a ha).1 (hc.b a ha).2)) (fun a _ b _=>(aIq _ a b).trans (aFd its n a b))
 refine (congrArg (fun z=>aJ (bG 0 z fun v0=>some (.ret [cb (decide ((il c.p)<=m))]))) h).trans ?_
 have ah:il c.p=(c.ps.length:Int):=aP _ _;rw [ah];cases lC wS Pt.i0 c.ps <;> simp
theorem aEh (hc:c.Fit) (m:Int):D its (n+4) 148 [.row 3 c.s,ci m,.fn 59 [],.fn 149 []]=some [cb (lC IG Su.id c.ss&&decide ((c.ss.length:Int)<=m))]:=by
 refine (uV its (n+3) _ _ _ _).trans ?_
 have h:=BV (f:=Su.cv) (l:=c.ss) (ls:=[li,li,li]) (fun e=>bN sg (D its (n+3)) (.fn 59 []) [ci (gi e 0),ci (gi e 1),ci (gi e 2)] [.agg [li,li,li]] [.one li])
  (fun e q=>bN sg (D its (n+3)) (.fn 149 []) [ci (gi e 0),ci (gi e 1),ci (gi e 2),ci (gi q 0),ci (gi q 1),ci (gi q 2)] [.agg [li,li,li],.agg [li,li,li]] [.one li])
  (E:=IG) (e:=71) (by decide) (key:=Su.id) hc.s (fun a _=>rfl) (fun a ha=>(v59 _ a).trans (IK its n a)) (fun a _ b _=>(aJH _ a b).trans (aIr its n a b))
 refine (congrArg (fun z=>aJ (bG 0 z fun v0=>some (.ret [cb (decide ((il c.s)<=m))]))) h).trans ?_
 have ah:il c.s=(c.ss.length:Int):=aP _ _;rw [ah];cases lC IG Su.id c.ss <;> simp
theorem aEi (hc:c.Fit) (m:Int):D its (n+4) 150 [.row 6 c.f,ci m,.fn 63 [],.fn 131 []]=some [cb (lC II Fi.i0 c.fs&&decide ((c.fs.length:Int)<=m))]:=by
 refine (tF its (n+3) _ _ _ _).trans ?_
 have h:=BV (f:=Fi.cv) (l:=c.fs) (ls:=List.replicate 6 li) (fun e=>bN sg (D its (n+3)) (.fn 63 []) (cis e 0 6) [.agg (List.replicate 6 li)] [.one li])
  (fun e q=>bN sg (D its (n+3)) (.fn 131 []) (cat [cis e 0 6,cis q 0 6]) [.agg (List.replicate 6 li),.agg (List.replicate 6 li)] [.one li])
  (E:=II) (e:=72) (by decide) (key:=Fi.i0) hc.f (fun a _=>rfl) (fun a ha=>(v63 _ a).trans (HC its n a)) (fun a _ b _=>(aJI _ a b).trans (aIs its n a b))
 refine (congrArg (fun z=>aJ (bG 0 z fun v0=>some (.ret [cb (decide ((il c.f)<=m))]))) h).trans ?_
 have ah:il c.f=(c.fs.length:Int):=aP _ _;rw [ah];cases lC II Fi.i0 c.fs <;> simp
end
theorem aJJ (M:Den) (p:Su) (r:List CV):bN sg M (.fn 202 [.ref r]) [ci (gi p.cv 0),ci (gi p.cv 1),ci (gi p.cv 2)] [.agg [li,li,li]] [.one lb]=M 202 (p.cv++[.ref r]):=by rfl
theorem aKc (M:Den) (x:Int) (r:List CV):bN sg M (.fn 178 [.ref r]) [ci x] [.one li] [.one lb]=M 178 [ci x,.ref r]:=by rfl
theorem aJK (M:Den) (p:Pt) (r:List CV):bN sg M (.fn 152 [.ref r]) (cat [[ci (gi p.cv 0),ci (gi p.cv 1),CV.row 1 (gr p.cv 2)],cis p.cv 3 4,[CV.row 1 (gr p.cv 7)]]) [.agg [li,li,.row 1,li,li,li,li,.row 1]] [.one lb]=M 152 (p.cv++[.ref r]):=by rfl
theorem aJL (M:Den) (p:Fi) (r:List CV):bN sg M (.fn 154 [.ref r]) (cis p.cv 0 6) [.agg (List.replicate 6 li)] [.one lb]=M 154 (p.cv++[.ref r]):=by rfl
theorem aEj (L:List Int) (x:Int):L.contains x=L.any fun a=>decide (a=x):=by
 grind
section
variable (its:ITS) (n:Nat)
variable {c:Court}
theorem QU (hc:c.Fit) (x:Int):D its (n+4) 179 (c.rs++[ci x])=some [cb (c.sids.contains x)]:=by
 refine (xZ its (n+3) _ _ _ _).trans ?_;obtain ⟨o,h,ho,_⟩:=rP (f:=Su.cv) (l:=c.ss) (ls:=[li,li,li]) (P:=fun s=>decide (s.id=x)) (fun e=>bN sg (D its (n+1)) (CV.fn 202 [CV.ref [ci x]]) [ci (gi e 0),ci (gi e 1),ci (gi e 2)] [.agg [li,li,li]] [.one lb]) hc.s (fun a _=>rfl) (fun a ha=>(aJJ _ a _).trans ((tQ its n _ _ _ _).trans (by rfl)))
 have h1:D its (n+2) 211 [CV.row 3 c.s,CV.fn 202 [CV.ref [ci x]]]=some [ci o]:=(oP its (n+1) _ _).trans h
 have h2:D its (n+3) 201 [CV.row 3 c.s,CV.fn 202 [CV.ref [ci x]]]=some [cb (c.sids.contains x)]:=by
  refine (mL its (n+2) _ _).trans ?_;grind [fV,aD,cW,dP,Court.sids]
 grind [oE,aD,nD,dP]
theorem aEk (hc:c.Fit) {p:Pt} (hp:p.ss.length<1000000):D its (n+8) 123 (c.rs++p.cv)=some [cb (c.standB p)]:=by
 refine (GG its (n+7) _ _ _ _ _ _ _ _ _ _ _).trans ?_
 have h:=vG its (n+5) (L:=p.ss) (by omega) (g:=CV.fn 178 [CV.ref c.rs]) (P:=fun x=>!c.sids.contains x) (fun x _=>by
  refine (zP its (n+4) _ _).trans ?_;have h1:oks [.row 8,.row 3,.row 6] c.rs 0=true:=rfl;have h2:D its (n+4) jM [CV.row 8 (gr c.rs 0),CV.row 3 (gr c.rs 1),CV.row 6 (gr c.rs 2),ci x]=some [cb (c.sids.contains x)]:=QU its n hc x;grind [pG,bR,aD,nD,dP])
 have h':D its (n+7) 107 [CV.row 1 (enc1 p.ss),CV.fn 178 [CV.ref [CV.row 8 c.p,CV.row 3 c.s,CV.row 6 c.f]]]=_:=h;grind [uX,aD,nD,dP,Court.standB]
theorem aGb (p:List (List CV)) (x:Int):D its (n+1) 177 [CV.row 8 p,ci x,ci 0,CV.val (Value.slice none 0 0),ci 0,ci 0,ci 0,ci 0,CV.val (Value.slice none 0 0),CV.fn 147 []]=D its (n+1) 177 [CV.row 8 p,ci x,ci 0,CV.row 1 [],ci 0,ci 0,ci 0,ci 0,CV.row 1 [],CV.fn 147 []]:=by rfl
theorem zZ (hc:c.Fit) (hr:c.pids.Pairwise (·<·)) (x:Int):D its (n+5) 122 (c.rs++[ci x])=some [ci (eF c.pids x:Int),cb (wT c.pids x)]:=by
 refine (wQ its (n+4) _ _ _ _).trans ?_
 have h:=aCr (f:=Pt.cv) (l:=c.ps) (ls:=[li,li,.row 1,li,li,li,li,.row 1]) (key:=Pt.i0) (x:=x) (fun e=>bN sg (D its (n+3)) (.fn 147 []) (cat [[ci (gi e 0),ci (gi e 1),CV.row 1 (gr e 2)],cis e 3 4,[CV.row 1 (gr e 7),ci x,ci 0,CV.row 1 [],ci 0,ci 0,ci 0,ci 0,CV.row 1 []]]) [.agg [li,li,.row 1,li,li,li,li,.row 1],.agg [li,li,.row 1,li,li,li,li,.row 1]] [.one li])
  hc.p hr (fun a _=>rfl) (fun a _=>(aIq (D its (n+3)) a ⟨x,0,[],0,0,0,0,[]⟩).trans (aFd its n a _))
 have h1:=(aGb its (n+3) c.p x).trans ((kL its (n+3) _ _ _ _ _ _ _ _ _ _).trans h);simp only [mT,h1];rfl
theorem aGc (hc:c.Fit) (hr:c.pids.Pairwise (·<·)) (f:Fi):D its (n+6) 132 (c.rs++f.cv)=some [cb (c.isOfB f)]:=by
 refine (IC its (n+5) _ _ _ _ _ _ _ _ _).trans ?_;have h:D its (n+5) dN [.row 8 c.p,.row 3 c.s,.row 6 c.f,ci f.i1]=_:=zZ its n hc hr f.i1;simp [xC,h,Court.isOfB];cases hh:wT c.pids f.i1 with
 | false=>rfl
 | true =>
  have an:eF c.pids f.i1<c.ps.length:=by
   simp_all [wT,Court.pids]
  have i1:inb (eF c.pids f.i1:Int) c.p=true:=aE an;have e1:el c.p (eF c.pids f.i1:Int)=c.ps[eF c.pids f.i1].cv:=aK an;have hn:c.needAt (eF c.pids f.i1)=c.ps[eF c.pids f.i1].need:=by grind [Court.needAt]
  rw [hn];simp [i1,e1];rfl
theorem aFe {A:Type} (l:List A) (P:A->Bool):l.any (fun a=>!P a)=!l.all P:=by grind
theorem WO (hc:c.Fit):D its (n+12) 65 c.rs=some [ci (if c.ok=true then 0 else 73)]:=by
 refine (GK its (n+11) _ _ _).trans ?_;have h1:D its (n+11) gX [CV.row 8 c.p,ci 6,CV.fn gW [],CV.fn dH []]=_:=aEg its (n+7) hc 6;have h2:D its (n+11) gY [CV.row 3 c.s,ci 8,CV.fn gV [],CV.fn kG []]=_:=aEh its (n+7) hc 8;have h3:D its (n+11) gB [CV.row 6 c.f,ci 60,CV.fn fZ [],CV.fn eQ []]=_:=aEi its (n+7) hc 60;have e1:(lC wS Pt.i0 c.ps&&decide ((c.ps.length:Int)<=6))=c.fineP:=by congr 1;grind
 have e2:(lC IG Su.id c.ss&&decide ((c.ss.length:Int)<=8))=c.fineS:=by congr 1;grind
 have e3:(lC II Fi.i0 c.fs&&decide ((c.fs.length:Int)<=60))=c.fineF:=by congr 1;grind
 rw [e1] at h1;rw [e2] at h2;rw [e3] at h3;unfold vC Court.ok;rw [h1,h2,h3];cases g1:c.fineP with
 | false=>rfl
 | true =>
 cases g2:c.fineS with
 | false=>rfl
 | true =>
 cases g3:c.fineF with
 | false=>rfl
 | true =>
 have gP:=jU.1 (Bool.and_eq_true _ _▸g1:lC wS Pt.i0 c.ps=true/\_).1
 have Fu:∀ p∈c.ps,p.ss.length<1000000:=fun p hp=>by
  grind [wS,inB]
 obtain ⟨o,h,ho,_⟩:=rP (f:=Pt.cv) (l:=c.ps) (ls:=[li,li,.row 1,li,li,li,li,.row 1]) (P:=fun p=>!c.standB p) (fun e=>bN sg (D its (n+9)) (CV.fn 152 [CV.ref c.rs]) (cat [[ci (gi e 0),ci (gi e 1),CV.row 1 (gr e 2)],cis e 3 4,[CV.row 1 (gr e 7)]]) [.agg [li,li,.row 1,li,li,li,li,.row 1]] [.one lb]) hc.p (fun a _=>rfl) (fun a ha=>(aJK _ a _).trans ((zU its (n+8) _ _ _ _ _ _ _ _ _).trans (by
  have k1:oks [.row 8,.row 3,.row 6] c.rs 0=true:=rfl;have k2:D its (n+8) oC [CV.row 8 (gr c.rs 0),CV.row 3 (gr c.rs 1),CV.row 6 (gr c.rs 2),ci a.i0,ci a.i1,CV.row 1 (enc1 a.bs),ci a.i3,ci a.need,ci a.i5,ci a.i6,CV.row 1 (enc1 a.ss)]=_:=aEk its n hc (Fu a ha);grind [pK,bR,aD,nD,dP])))
 have k1:D its (n+10) 187 [CV.row 8 c.p,CV.fn 152 [CV.ref c.rs]]=some [ci o]:=(oS its (n+9) _ _).trans h
 have k2:D its (n+11) dL [CV.row 8 c.p,CV.fn 152 [CV.ref [CV.row 8 c.p,CV.row 3 c.s,CV.row 6 c.f]]]=some [cb (!c.ps.all c.standB)]:=by
  refine (mK its (n+10) _ _).trans ?_;have k1':D its (n+10) eE [CV.row 8 c.p,CV.fn 152 [CV.ref [CV.row 8 c.p,CV.row 3 c.s,CV.row 6 c.f]]]=some [ci o]:=k1;grind [fU,aD,cW,dP]
 obtain ⟨o,h,ho,_⟩:=rP (f:=Fi.cv) (l:=c.fs) (ls:=List.replicate 6 li) (P:=fun p=>!c.isOfB p) (fun e=>bN sg (D its (n+9)) (CV.fn 154 [CV.ref c.rs]) (cis e 0 6) [.agg (List.replicate 6 li)] [.one lb]) hc.f (fun a _=>rfl) (fun a ha=>(aJL _ a _).trans ((zT its (n+8) _ _ _ _ _ _ _).trans (by
  have k1:oks [.row 8,.row 3,.row 6] c.rs 0=true:=rfl;have k2:D its (n+8) qA [CV.row 8 (gr c.rs 0),CV.row 3 (gr c.rs 1),CV.row 6 (gr c.rs 2),ci a.i0,ci a.i1,ci a.i2,ci a.i3,ci a.i4,ci a.i5]=_:=aGc its (n+2) hc gP.2 a;grind [pJ,bR,aD,nD,dP])))
 have k3:D its (n+10) 186 [CV.row 6 c.f,CV.fn 154 [CV.ref c.rs]]=some [ci o]:=(gZ its (n+9) _ _).trans h
 have k4:D its (n+11) dF [CV.row 6 c.f,CV.fn 154 [CV.ref [CV.row 8 c.p,CV.row 3 c.s,CV.row 6 c.f]]]=some [cb (!c.fs.all c.isOfB)]:=by
  refine (mD its (n+10) _ _).trans ?_;have k1':D its (n+10) cS [CV.row 6 c.f,CV.fn 154 [CV.ref [CV.row 8 c.p,CV.row 3 c.s,CV.row 6 c.f]]]=some [ci o]:=k3;grind [fI,aD,cW,dP]
 simp only [k2,k4];cases c.ps.all c.standB <;> cases c.fs.all c.isOfB <;> rfl
end
structure OkC (c:Court):Prop where
 p6:c.ps.length<=6
 s8:c.ss.length<=8
 f60:c.fs.length<=60
 pr:c.pids.Pairwise (·<·)
 sr:c.sids.Pairwise (·<·)
 fr:c.fids.Pairwise (·<·)
 op:∀ p∈c.ps,wS p=true
 os:∀ s∈c.ss,IG s=true
 of:∀ f∈c.fs,II f=true
 st:∀ p∈c.ps,∀ x∈p.ss,x∈c.sids
 io:∀ f∈c.fs,c.isOfB f=true
variable {c:Court}
theorem AA (h:c.ok=true):OkC c:=by
 simp only [Court.ok,Court.fineP,Court.fineS,Court.fineF,Bool.and_eq_true,decide_eq_true_eq] at h;obtain ⟨⟨h1,h2⟩,⟨h3,h4⟩,⟨h5,h6⟩,h7,h8⟩:=h;have g1:=jU.1 h1;have g3:=jU.1 h3;have g5:=jU.1 h5;refine ⟨h2,h4,h6,g1.2,g3.2,g5.2,g1.1,g3.1,g5.1,fun p hp x hx=>?_,fun f hf=>List.all_eq_true.1 h8 f hf⟩
 have:=List.all_eq_true.1 h7 p hp;have:=List.all_eq_true.1 this x hx;grind
theorem WP:c.ok=true↔OkC c:=by
 refine ⟨AA,fun h=>?_⟩
 simp only [Court.ok,Court.fineP,Court.fineS,Court.fineF,Bool.and_eq_true,decide_eq_true_eq];refine ⟨⟨jU.2 ⟨h.op,h.pr⟩,h.p6⟩,⟨jU.2 ⟨h.os,h.sr⟩,h.s8⟩,⟨jU.2 ⟨h.of,h.fr⟩,h.f60⟩,List.all_eq_true.2 fun p hp=>List.all_eq_true.2 fun x hx=>?_,List.all_eq_true.2 h.io⟩
 simpa using h.st p hp x hx
theorem OkC.bd (h:OkC c):Bd c:=by
 refine ⟨⟨by have:=h.p6;omega,by have:=h.s8;omega,by have:=h.f60;omega,fun p hp=>?_⟩,fun p hp=>?_⟩
 ·have:=h.op p hp
  grind [wS,inB]
 ·have:=h.op p hp
  grind [wS,vI]
theorem OkC.w (h:OkC c):∀ s∈c.ss,0<=s.worth/\s.worth<=1000000000:=fun s hs=>by
 have:=h.os s hs;grind [IG,vI]
theorem OkC.fit (h:OkC c):c.Fit:=by
 refine ⟨by have:=h.p6;omega,by have:=h.s8;omega,by have:=h.f60;omega,fun p hp=>?_⟩
 have:=h.op p hp;grind [wS,inB]
def mO:Court:=⟨[],[],[]⟩
def iE (c:Court) (S:List Int×List Int) (i:Int):List Int×List Int:=if KQ c (S.1++[i])=true then (S.1++[i],S.2) else (S.1,S.2++[i])
def dV (c:Court) (d:Int):List Int×List Int:=(mN c d).foldl (iE c) ([],[])
def aR (c:Court) (d:Int):List Int:=srt (dV c d).1
theorem ZY (c:Court) (d:Int):(mN c d).Perm (c.entT d c.ps.length):=KN _ _
theorem WQ (d:Int):OnP c (mN c d)/\(mN c d).length<=c.ps.length:=by
 obtain ⟨h1,h2⟩:=EA (c:=c) (d:=d) (Nat.le_refl _);have hp:=ZY c d;exact ⟨fun k hk=>h1 k (hp.mem_iff.1 hk),by rw [hp.length_eq];exact h2⟩
theorem NQ {c:Court}:∀ (l:List Int) (S:List Int×List Int),(∀ x∈S.1,x∈(l.foldl (iE c) S).1)/\(∀ x∈S.2,x∈(l.foldl (iE c) S).2)/\(∀ x∈(l.foldl (iE c) S).1,x∈S.1\/x∈l)/\(∀ x∈(l.foldl (iE c) S).2,x∈S.2\/x∈l)/\(l.foldl (iE c) S).1.length+(l.foldl (iE c) S).2.length=S.1.length+S.2.length+l.length
 | [],S=>by simp
 | i::l,S=>by
  obtain ⟨h1,h2,h3,h4,h5⟩:=NQ l (iE c S i);unfold iE at h1 h2 h3 h4 h5 ⊢;split at h1
  ·rename_i hg
   simp [hg] at h1 h2 h3 h4 h5 ⊢;refine ⟨fun x hx=>h1 x (.inl hx),h2,fun x hx=>?_,fun x hx=>?_,by omega⟩
   ·grind
   grind
  grind
theorem yF (d:Int):OnP c (dV c d).1/\OnP c (dV c d).2/\(dV c d).1.length+(dV c d).2.length<=c.ps.length:=by
 obtain ⟨_,_,h3,h4,h5⟩:=NQ (c:=c) (mN c d) ([],[]);obtain ⟨o1,o2⟩:=WQ (c:=c) d;simp at h3 h4 h5;exact ⟨fun k hk=>o1 k (h3 k hk),fun k hk=>o1 k (h4 k hk),by unfold dV;omega⟩
theorem vJ (L:List Int):(srt L).Perm L:=KN _ _
theorem hU (d:Int):OnP c (aR c d)/\(aR c d).length<=c.ps.length:=by
 obtain ⟨h1,_,h3⟩:=yF (c:=c) d;have hp:=vJ (dV c d).1;exact ⟨fun k hk=>h1 k (hp.mem_iff.1 hk),by unfold aR;rw [hp.length_eq];omega⟩
structure ItsC (its:ITS):Prop extends ItsB its where
 i214:∀ (n:Nat) (c:Court) (L:List Int),OnP c L->L.length<1000000->D its (n+1) 214 [.row 1 (enc1 L),.fn 3 [],ci 0,ci L.length,.fn 189 [.ref c.rs]]=some [.row 1 (enc1 (insL (xD c) L.length L)),cb false]
theorem UB:ItsC QS where
 i158:=fun n L h=>Eq.trans (by rfl) (aCh h)
 i169:=fun n L h=>Eq.trans (by rfl) (aCi h)
 i97:=fun n l h=>Eq.trans (by rfl) (NN (k:=1) (T:=3) h)
 i180:=fun n l h=>Eq.trans (by rfl) (NN (k:=3) (T:=67) h)
 i181:=fun n l h=>Eq.trans (by rfl) (NN (k:=6) (T:=35) h)
 i95:=fun n L h=>Eq.trans (by rfl) (aF8 h)
 i117:=fun n L h hd=>Eq.trans (by rfl) (aCj h hd)
 i214:=fun n c L h hl=>Eq.trans (by rfl) (aCn h hl)
theorem aCs (l:List CV):((List.brecOn.go (motive:=fun x=>(CV->Bool)->Bool) l List.all._f).1 CV.flat)=l.all CV.flat:=by kernel_rfl
theorem aGd (L:List Int):((List.brecOn.go (motive:=fun x=>(CV->Bool)->Bool) (enc1 L).flatten List.all._f).1 CV.flat)=true:=by
 grind [aCs,CV.flat,ci]
section
variable {its:ITS} (hi:ItsC its) (n:Nat)
include hi
theorem QV {c:Court} (hc:OkC c) (d:Int):D its (n+10) 92 (c.rs++[ci d])=some [.row 1 (enc1 (dV c d).1),.row 1 (enc1 (dV c d).2)]:=by
 refine (jS its (n+9) _ _ _ _).trans ?_;have h0:D its (n+9) 165 [.row 8 c.p,.row 3 c.s,.row 6 c.f,ci d]=some [.row 1 (enc1 (mN c d))]:=aEd hi.i214 (n+7) hc.p6 d;obtain ⟨o1,o2⟩:=WQ (c:=c) d;have Od:=hc.p6;have ah:il (enc1 (mN c d))=((mN c d).length:Int):=aP _ _;unfold jR;simp only [h0,aD];rw [eY (mN c d).length (fun i=>[ci (i:Int),.row 1 (enc1 (((mN c d).take i).foldl (iE c) ([],[])).1),.row 1 (enc1 (((mN c d).take i).foldl (iE c) ([],[])).2)]) (some (.br 0 [.row 1 (enc1 (dV c d).1),.row 1 (enc1 (dV c d).2)])) ?hv (fun i hx=>?hs) ?he (by simp)]
 case hv=>rfl
 case he=>simp [dV]
 case hs =>
  have i1:inb (i:Int) (enc1 (mN c d))=true:=aE hx;have e1:el (enc1 (mN c d)) (i:Int)=[ci (mN c d)[i]]:=aK hx;have ap:(i:Int)<((mN c d).length:Int):=by omega
  have hw:=bA (show i<9223372036854775807 by omega)
  rw [take_succ hx,List.foldl_append];obtain ⟨_,_,t3,t4,t5⟩:=NQ (c:=c) ((mN c d).take i) ([],[]);simp at t3 t4 t5;generalize ((mN c d).take i).foldl (iE c) ([],[])=S at t3 t4 t5 ⊢;have L7:D its (n+9) 97 [CV.row 1 (enc1 S.1)]=some [.row 1 (enc1 S.1),.fn 3 []]:=hi.i97 (n+8) _ (by grind)
  have bh:∀ L:List Int,L.length<=6->bL (enc1 L).length 1 8=true:=fun L hL=>by rw [List.length_map];exact cU (by omega) (by omega)
  have my:∀ L:List Int,enc1 L++aI 1 1 [ci (mN c d)[i]]=enc1 (L++[(mN c d)[i]]):=fun L=>by simp
  have Ao:D its (n+9) 99 [.row 8 c.p,.row 3 c.s,.row 6 c.f,CV.row 1 (enc1 (S.1++[(mN c d)[i]]))]=some [cb (KQ c (S.1++[(mN c d)[i]]))]:=QT hi.toItsB n hc.bd hc.w (fun k hk=>by
   rcases List.mem_append.1 hk with hk | hk
   ·exact o1 k (List.mem_of_mem_take (t3 k hk))
   ·rw [List.mem_singleton.1 hk];exact o1 _ (List.getElem_mem hx)) (by grind)
  have eh:∀ v:List CV,gr v 0=enc1 S.1->(false || ((List.brecOn.go (motive:=fun x=>(CV->Bool)->Bool) (cR (v.getD 0 dC)).flatten List.all._f).1 CV.flat))=true:=fun v hv=>by
   have:cR (v.getD 0 dC)=enc1 S.1:=hv;grind [aGd]
  simp only [cW,ah,ap,i1,e1,fO,cY,L7,aD];rw [show xS 1 3 [CV.row 1 (enc1 S.1),CV.fn 3 []]=true from rfl,eh _ rfl,bh _ (by omega)]
  simp only [bR,my,bO,Ao,aD,nD,bh _ (show S.1.length<=6 by omega),bh _ (show S.2.length<=6 by omega),List.foldl_cons,List.foldl_nil,hw,iE]
  cases KQ c (S.1++[(mN c d)[i]]) <;> rfl
 rfl
end
theorem aCt {x:Option Ou} {vs:List CV} (h:aJ x=some vs):x=some (.ret vs):=by
 unfold aJ at h;grind
def pM (o:Option Fi) (f:Fi):Bool:=match o with
 | some g=>decide (f.i2>=g.i2)
 | none=>true
def QW (c:Court) (k:Nat) (d:Int) (o:Option Fi) (f:Fi):Option Fi:=if f.i1=c.pids.getD k 0/\f.i3<=d/\pM o f=true then some f else o
def kR (c:Court) (k:Nat) (d:Int):Option Fi:=c.fs.foldl (QW c k d) none
def fiC:Option Fi->List CV
 | some f=>f.cv
 | none=>[ci 0,ci 0,ci 0,ci 0,ci 0,ci 0]
def pN (c:Court) (d:Int):List Int:=(aR c d).filter fun k=>!(kR c k.toNat d).isSome
def aEl (c:Court) (L:List Int):List Int:=srt (L.map fun k=>c.pids.getD k.toNat 0)
theorem aGe:∀ a:Int,((fun a:Int=>[ci a]) a).length=1:=fun _=>rfl
theorem aGf:∀ a:Int,oks (List.replicate 1 li) ((fun a:Int=>[ci a]) a) 0=true:=fun _=>rfl
theorem aGg:∀ a:Int,cis ((fun a:Int=>[ci a]) a) 0 1=(fun a:Int=>[ci a]) a:=fun _=>rfl
variable {L:List Int}
theorem QX {del:Int->Bool} (hl:L.length<9223372036854775807) {ix:Option (List CV)} {call:List CV->Option (List CV)} (pi:ix=some [ci (Go.Sx.DI (L.findIdx? del))]) (hc:∀ a∈L,call [ci a]=some [cb (del a)]) :
  aDX ix call 1 [ci 0] (enc1 L)=some (.ret [.row 1 (enc1 (L.filter fun a=>!del a))]):=aDY 1 (fun a:Int=>[ci a]) [ci 0] aGe aGf aGg del L hl pi hc
theorem aEm (M:Den) (p s f:List (List CV)) (d:Int):kY M p s f d=mY (eU M p s f d) fun v0=>mY (aDX (M 171 [CV.row 1 (gr v0 0),.fn 156 [.ref [.row 8 p,.row 3 s,.row 6 f],.ref [ci d]]]) (fun e=>M 156 (e++[.ref [.row 8 p,.row 3 s,.row 6 f],.ref [ci d]])) 1 [ci 0] (gr v0 0)) fun v1=>some (.ret [CV.row 1 (gr v1 0)]):=by rfl
section
variable {its:ITS} (n:Nat)
variable {c:Court}
theorem wE (hc:OkC c) {k:Nat} (hk:k<c.ps.length) (d:Int):D its (n+1) 71 (c.rs++[ci (k:Int),ci d])=some (fiC (kR c k d)++[cb (kR c k d).isSome]):=by
 refine (qF its n _ _ _ _ _).trans ?_;have ah:il c.f=(c.fs.length:Int):=aP _ _;have f60:=hc.f60;have ip:inb (k:Int) c.p=true:=aE hk;have ep:el c.p (k:Int)=c.ps[k].cv:=aK hk;have pn:c.pids.getD k 0=c.ps[k].i0:=by simp [Court.pids,hk]
 unfold iV;rw [eY c.fs.length (fun i=>[cb ((c.fs.take i).foldl (QW c k d) none).isSome,ci (i:Int)]++fiC ((c.fs.take i).foldl (QW c k d) none)) (some (.br 0 ([cb (kR c k d).isSome]++fiC (kR c k d)))) ?hv (fun i hx=>?hs) ?he (by simp)]
 case hv=>rfl
 case he =>
  rw [List.take_length];unfold kR;cases (c.fs.foldl (QW c k d) none) <;> simp [fiC,ah,Fi.cv]
 case hs =>
  have i1:inb (i:Int) c.f=true:=aE hx;have e1:el c.f (i:Int)=c.fs[i].cv:=aK hx;have ap:(i:Int)<(c.fs.length:Int):=by omega
  have hw:=bA (show i<9223372036854775807 by omega)
  rw [take_succ hx,List.foldl_append];generalize (c.fs.take i).foldl (QW c k d) none=S;have g0:gi (List.drop 0 c.ps[k].cv) 0=c.ps[k].i0:=rfl;have o0:oks [li] (List.drop 0 c.ps[k].cv) 0=true:=rfl;simp only [List.foldl_cons,QW,pn,List.cons_append,BR,cW,ah,ap,i1,e1,ip,ep,o0,g0,hw]
  by_cases h1:c.fs[i].i1=c.ps[k].i0
  ·by_cases h3:c.fs[i].i3<=d
   ·cases S with
    | none=>simp_all [fiC,Fi.cv,pM]
    | some g =>
     by_cases h2:c.fs[i].i2>=g.i2
     ·simp_all [fiC,Fi.cv,pM]
     ·simp [h2,fiC,Fi.cv,pM]
   ·cases S <;> simp [h1,h3,fiC,Fi.cv,pM]
  ·cases S <;> simp [h1,fiC,Fi.cv]
 cases kR c k d <;> simp [fiC,Fi.cv]
theorem aFf (hc:OkC c) {k:Nat} (hk:k<c.ps.length) (d:Int):D its (n+2) 156 [ci (k:Int),.ref c.rs,.ref [ci d]]=some [cb (kR c k d).isSome]:=by
 refine (qI its (n+1) _ _ _).trans ?_;have h1:oks [.row 8,.row 3,.row 6] c.rs 0=true:=rfl;have h2:oks [li] [ci d] 0=true:=rfl;have h3:D its (n+1) bB [CV.row 8 (gr c.rs 0),CV.row 3 (gr c.rs 1),CV.row 6 (gr c.rs 2),ci (k:Int),ci (gi [ci d] 0)]=_:=wE n hc hk d;unfold iW;rw [h1,h2,h3];cases kR c k d <;> rfl
theorem aJM (M:Den) (k:Int) (a b:List CV):bN sg M (.fn 156 [.ref a,.ref b]) [ci k] [.one li] [.one lb]=M 156 [ci k,.ref a,.ref b]:=by rfl
theorem aFg {L:List Int} (hL:L.length<1000000000000000) {g:CV} {P:Int->Bool} (hP:∀ x∈L,bN sg (D its n) g [ci x] [.one li] [.one lb]=some [cb (P x)]):D its (n+1) 171 [.row 1 (enc1 L),g]=some [ci (Go.Sx.DI (L.findIdx? P))]:=by
 obtain ⟨o,h,_,rfl⟩:=rP (f:=fun a:Int=>[ci a]) (l:=L) (ls:=[li]) (fun e=>bN sg (D its n) g [ci (gi e 0)] [.one li] [.one lb]) hL (fun _ _=>rfl) hP
 exact (kJ its n _ _).trans h
variable (hi:ItsC its)
include hi
theorem KS (hc:OkC c) (d:Int):eU (D its (n+9)) c.p c.s c.f d=some (.ret [.row 1 (enc1 (aR c d))]):=by
 have h:=aCt ((jS its (n+9) c.p c.s c.f d).symm.trans (QV hi n hc d));have o3:=(yF (c:=c) d).2.2;have p6:=hc.p6;have Ap:D its (n+9) 95 [.row 1 (enc1 (dV c d).1),.fn 3 []]=some [.row 1 (enc1 (srt (dV c d).1)),cb false]:=hi.i95 (n+8) _ (by omega)
 refine Eq.trans (congrArg (fun z=>mY z fun v0=>aA (D its (n+9) 95 [CV.row 1 (gr v0 0),CV.fn 3 []]) fun v1=>chk (lU 1 false v1)<|some (.ret [CV.row 1 (gr v1 0)])) h) ?_
 simp [Ap];rfl
theorem BW (hc:OkC c) (d:Int):D its (n+10) 77 (c.rs++[ci d])=some [.row 1 (enc1 (aR c d))]:=by
 refine (qE its (n+9) _ _ _ _).trans ?_;simp_all [KS]
theorem UC (hc:OkC c) (d:Int):D its (n+10) 70 (c.rs++[ci d])=some [.row 1 (enc1 (pN c d))]:=by
 refine (tI its (n+9) _ _ _ _).trans ?_;obtain ⟨a1,a2⟩:=hU (c:=c) d;have p6:=hc.p6
 have Fv:∀ a∈aR c d,D its (n+8) 156 [ci a,.ref c.rs,.ref [ci d]]=some [cb (kR c a.toNat d).isSome]:=fun a ha=>by
  obtain ⟨k0,k1⟩:=a1 a ha;have:=aFf (its:=its) (n+6) hc k1 d;grind
 have Ic:∀ a∈aR c d,D its (n+9) 156 [ci a,.ref c.rs,.ref [ci d]]=some [cb (kR c a.toNat d).isSome]:=fun a ha=>by
  obtain ⟨k0,k1⟩:=a1 a ha;have:=aFf (its:=its) (n+7) hc k1 d;grind
 have pi:D its (n+9) 171 [.row 1 (enc1 (aR c d)),.fn 156 [.ref c.rs,.ref [ci d]]]=_:=aFg (n+8) (L:=aR c d) (by omega) (P:=fun a=>(kR c a.toNat d).isSome) fun a ha=>(aJM _ _ _ _).trans (Fv a ha)
 have hl:(aR c d).length<9223372036854775807:=by omega
 have po:=QX (L:=aR c d) (del:=fun a=>(kR c a.toNat d).isSome) (ix:=D its (n+9) 171 [.row 1 (enc1 (aR c d)),.fn 156 [.ref c.rs,.ref [ci d]]]) (call:=fun e=>D its (n+9) 156 (e++[.ref c.rs,.ref [ci d]])) hl pi (by grind)
 rw [aEm,KS n hi hc d];refine Eq.trans (congrArg (fun z=>aJ (mY z fun v1=>some (.ret [CV.row 1 (gr v1 0)]))) po) ?_
 rfl
end
def bX (c:Court) (d:Int):Int:=if c.ok=true then (if inB d 0 100000=true then 0 else 6) else 73
def vK (c:Court) (x d:Int):Int:=if bX c d=0 then (if (wT c.pids x&&decide (c.entered (eF c.pids x)<=d))=true then 0 else 3) else bX c d
theorem nF {d:Int} (h:bX c d=0):OkC c:=by
 unfold bX at h;split at h
 ·exact AA ‹_›
 omega
theorem WR {x d:Int} (h:vK c x d=0):bX c d=0/\eF c.pids x<c.ps.length/\wT c.pids x=true/\c.entered (eF c.pids x)<=d:=by
 unfold vK at h;grind [wT,Court.pids]
section
variable {its:ITS} (n:Nat)
variable {c:Court}
theorem wF (hf:c.Fit) (d:Int):D its (n+13) 68 (c.rs++[ci d])=some (if bX c d=0 then c.rs++[ci 0] else mO.rs++[ci (bX c d)]):=by
 refine (GF its (n+12) _ _ _ _).trans ?_;have h1:D its (n+12) kF [.row 8 c.p,.row 3 c.s,.row 6 c.f]=_:=WO its n hf;have h2:D its (n+12) dZ [ci d]=_:=NO its (n+10) d;simp [uR,h1,h2,bX]
 by_cases g1:c.ok=true
 ·by_cases g2:inB d 0 100000=true
  ·simp [g1,g2];rfl
  ·simp [g1,eq_false_of_ne_true g2];rfl
 ·simp [eq_false_of_ne_true g1];rfl
theorem QY (hf:c.Fit) (x d:Int):D its (n+14) 78 (c.rs++[ci x,ci d])=some (if vK c x d=0 then c.rs++[ci (eF c.pids x:Int),ci 0] else mO.rs++[ci 0,ci (vK c x d)]):=by
 refine (DE its (n+13) _ _ _ _ _).trans ?_;have h1:D its (n+13) bQ [.row 8 c.p,.row 3 c.s,.row 6 c.f,ci d]=_:=wF n hf d;unfold tA vK;rw [h1]
 by_cases h:bX c d=0
 ·have hc:=nF h
  simp only [h,if_true,aD];have h2:D its (n+13) dN [.row 8 c.p,.row 3 c.s,.row 6 c.f,ci x]=_:=zZ its (n+8) hf hc.pr x;rw [h2]
  have an:wT c.pids x=true->eF c.pids x<c.ps.length:=fun h=>by
   simp_all [wT,Court.pids]
  have g:∀ v,gi (c.rs++[v]) 3=gi [v] 0:=fun _=>rfl
  simp only [g,cW];cases hh:wT c.pids x with
  | false=>rfl
  | true =>
   have h3:D its (n+13) aG [CV.row 8 (gr (c.rs++[ci 0]) 0),CV.row 3 (gr (c.rs++[ci 0]) 1),CV.row 6 (gr (c.rs++[ci 0]) 2),ci (eF c.pids x:Int)]=_:=lM its (n+12) (an hh);simp only [aD,cW,h3]
   by_cases he:c.entered (eF c.pids x)<=d
   ·have ga:¬(c.entered (eF c.pids x) > d):=by omega
    simp [ga];rfl
   ·have ga:(c.entered (eF c.pids x) > d):=by omega
    simp [he,ga];rfl
 ·simp only [h,if_false,aD]
  have g:gi (mO.rs++[ci (bX c d)]) 3=bX c d:=rfl;have g':(bX c d != 0)=true:=by simp [h]
  rw [g,g'];rfl
variable (hi:ItsC its)
include hi
theorem aIt {L:List Int} (hL:OnP c L) (hl:L.length<=12):D its (n+2) 76 (c.rs++[.row 1 (enc1 L)])=some [.row 1 (enc1 (aEl c L))]:=by
 refine (uQ its (n+1) _ _ _ _).trans ?_;unfold lX;rw [KH (A:=Int) L (fun _=>true) (fun k=>[ci (c.pids.getD k.toNat 0)]) 1 0 ?hv (fun i hx es he=>?hs) (fun es=>?he)]
 case hv=>rfl
 case hs =>
  have i1:inb (i:Int) (enc1 L)=true:=aE hx;have e1:el (enc1 L) (i:Int)=[ci L[i]]:=aK hx;have hw:=bA (show i<9223372036854775807 by omega)
  obtain ⟨k0,k1⟩:=hL _ (List.getElem_mem hx);have i2:inb L[i] c.p=true:=by have:=aE (f:=Pt.cv) k1;rwa [Int.toNat_of_nonneg k0] at this
  have e2:el c.p L[i]=c.ps[L[i].toNat].cv:=by have:=aK (f:=Pt.cv) k1;rwa [Int.toNat_of_nonneg k0] at this
  have hp:c.pids.getD L[i].toNat 0=c.ps[L[i].toNat].i0:=by simp [Court.pids,k1]
  have hf:bL es.length 1 8=true:=cU (by omega) (by omega)
  have g0:gi (List.drop 0 c.ps[L[i].toNat].cv) 0=c.ps[L[i].toNat].i0:=rfl;have o0:oks [li] (List.drop 0 c.ps[L[i].toNat].cv) 0=true:=rfl;simp_all
 case he=>simp
 rw [ZQ];have Ap:D its (n+1) 95 [.row 1 (enc1 (L.map fun k=>c.pids.getD k.toNat 0)),.fn 3 []]=some [.row 1 (enc1 (aEl c L)),cb false]:=hi.i95 n _ (by grind)
 have hm:(L.map fun k=>[ci (c.pids.getD k.toNat 0)])=enc1 (L.map fun k=>c.pids.getD k.toNat 0):=by simp
 rw [hm,jC];erw [Ap];rfl
end
theorem HD (d:Int):OnP c (pN c d)/\(pN c d).length<=c.ps.length:=by
 obtain ⟨h1,h2⟩:=hU (c:=c) d;exact ⟨fun k hk=>h1 k (List.mem_filter.1 hk).1,Nat.le_trans (List.length_filter_le _ _) h2⟩
theorem aCu (h:L.length<1000000):xQ (enc1 L) (some (.ret [.row 1 []])) (chk (bL 0 (enc1 L).length 8) (some (.ret [.row 1 (enc1 L)])))=some (.ret [.row 1 (enc1 L)]):=ZP 1 8 (fun a:Int=>[ci a]) L (by omega) (by omega)
theorem aJN (M:Den) (k:Int) (r:List CV):bN sg M (.fn 170 [.ref r]) [ci k] [.one li] [.one lb]=M 170 [ci k,.ref r]:=by rfl
theorem UD (M:Den) (L:List (List CV)) (x:Int):rF M L x=mY (xQ L (some (.ret [.row 1 []])) (chk (bL 0 L.length 8) (some (.ret [.row 1 L])))) fun v0=>mY (aDX (M 171 [CV.row 1 (gr v0 0),.fn 170 [.ref [ci x]]]) (fun e=>M 170 (e++[.ref [ci x]])) 1 [ci 0] (gr v0 0)) fun v1=>some (.ret [CV.row 1 (gr v1 0)]):=by rfl
def HE (L:List Int) (x:Int):List Int:=L.filter fun m=>!decide (m=x)
def oK (c:Court) (f i:Int):Bool:=decide (c.entered i.toNat<c.entered f.toNat) || (decide (c.entered i.toNat=c.entered f.toNat)&&decide (i<f))
def yG (c:Court) (S:List Int) (i:Int):List Int:=if KQ c (HE S i)=true then S else HE S i
def fE (c:Court) (f:Int) (yes:List Int):List Int:=srt (f::yes.filter (oK c f))
def aEn (c:Court) (f:Int) (yes:List Int):List Int:=(fE c f yes).reverse.foldl (yG c) (fE c f yes)
def spY (c:Court) (i:Int) (v:Int) (S:List Int):Int:=if S.contains i=true then (if v<0\/c.back S c.worths - jW (eA c S)<v then c.back S c.worths - jW (eA c S) else v) else v
def aGh (c:Court) (L:List Int) (i:Int):Int:=(parts L).foldl (spY c i) (-1)
theorem vL {A S:Type} {step:List CV->List CV->Option Ou} {f:A->List CV} (E:S->List CV) (g:S->A->S) (P:S->Prop):∀ (l:List A) (s:S),P s->(∀ a∈l,∀ s,P s->step (f a) (E s)=some (.nx (E (g s a)))/\P (g s a))->kE step (l.map f) (E s)=some (.nx (E (l.foldl g s)))/\P (l.foldl g s)
 | [],s,h,_=>⟨rfl,h⟩
 | a::l,s,h,hs=>by
  obtain ⟨h1,h2⟩:=hs a (by simp) s h
  simp [kE,h1];exact vL E g P l _ h2 fun b hb=>hs b (by grind)
theorem aCv {S:Type} (g:S->Int->S) (L:List Int) (s:S):(List.range L.length).foldl (fun s p=>g s (L.getD (L.length - 1 - p) 0)) s=L.reverse.foldl g s:=by
 have h:(List.range L.length).map (fun p=>L.getD (L.length - 1 - p) 0)=L.reverse:=by
  refine List.ext_getElem (by simp) fun i h1 h2=>?_
  grind
 grind [List.foldl_map]
theorem aJO {M:Den} (h:M 169 [.ref [.row 1 (enc1 L)]]=some [.row 0 (pL L),shC QP]):rZ sg M (.fn 169 [.ref [.row 1 (enc1 L)]]) (.clo [.one li,.one li])=some (pL L):=by
 have hs:sg 169=none:=by rfl
 unfold rZ;grind
section
variable {its:ITS} (n:Nat)
theorem ZZ {L:List Int} (hL:L.length<1000000) (x:Int):D its (n+3) 98 [.row 1 (enc1 L),ci x]=some [.row 1 (enc1 (HE L x))]:=by
 refine (BK its (n+2) _ _).trans ?_;have Fw:∀ (m:Nat),∀ a∈L,D its (m+1) 170 [ci a,.ref [ci x]]=some [cb (decide (a=x))]:=fun m a _=>(wP its m _ _).trans (by rfl)
 have pi:D its (n+2) 171 [.row 1 (enc1 L),.fn 170 [.ref [ci x]]]=_:=aFg (n+1) (L:=L) (by omega) (P:=fun a=>decide (a=x)) fun a ha=>(aJN _ _ _).trans (Fw n a ha)
 have po:=QX (L:=L) (del:=fun a=>decide (a=x)) (ix:=D its (n+2) 171 [.row 1 (enc1 L),.fn 170 [.ref [ci x]]]) (call:=fun e=>D its (n+2) 170 (e++[.ref [ci x]])) (by omega) pi (by grind)
 rw [UD,aCu hL];simp;rw [po];rfl
theorem aJP (a b:Int):D its (n+1) 93 [.row 1 (enc1 [a,b])]=some [ci (if a≠0 then a else b)]:=by
 refine (NF its n _).trans ?_;unfold zO
 by_cases ha:a=0
 ·subst ha
  rw [gI (vs':=[ci 1]) (by rfl)]
  by_cases hb:b=0
  ·subst hb;rw [gI (vs':=[ci 2]) (by rfl),aQ (r:=some (.br 0 [])) (by rfl) (by simp)];rfl
  ·rw [aQ (r:=some (.ret [ci b])) (by simp [il,inb,el,hb]) (by simp)];simp
 ·rw [aQ (r:=some (.ret [ci a])) (by simp [il,inb,el,ha]) (by simp)];simp [ha]
variable (hi:ItsC its)
include hi
theorem aLc {c:Court} (hf:c.Fit) (d:Int):D its (n+14) 18 (c.rs++[ci d])=some [.row 1 (enc1 (if bX c d=0 then aEl c (aR c d) else [])),ci (bX c d)]:=by
 refine (aKz its (n+13) _ _ _ _).trans ?_;have h1:D its (n+13) bQ [.row 8 c.p,.row 3 c.s,.row 6 c.f,ci d]=_:=wF n hf d;unfold aKo;rw [h1]
 by_cases h:bX c d=0
 ·have hc:=nF h
  obtain ⟨a1,a2⟩:=hU (c:=c) d;have p6:=hc.p6;have h2:D its (n+13) cD [CV.row 8 (gr (c.rs++[ci 0]) 0),CV.row 3 (gr (c.rs++[ci 0]) 1),CV.row 6 (gr (c.rs++[ci 0]) 2),ci d]=_:=BW (n+3) hi hc d;have h3:D its (n+13) eK [CV.row 8 (gr (c.rs++[ci 0]) 0),CV.row 3 (gr (c.rs++[ci 0]) 1),CV.row 6 (gr (c.rs++[ci 0]) 2),CV.row 1 (enc1 (aR c d))]=_:=aIt (n+11) hi a1 (by omega)
  simp only [h,if_true,aD,h2,cY,h3];rfl
 ·have g:gi (mO.rs++[ci (bX c d)]) 3=bX c d:=rfl
  simp_all
end
theorem HF (h:OnP c L) (p:Int->Bool):OnP c (L.filter p):=fun k hk=>h k (List.mem_filter.1 hk).1
def orV (a b:Int):Int:=if a≠0 then a else b
theorem aAa (c:Court) (f i:Int):orV (nE (c.entered i.toNat) (c.entered f.toNat)) (nE i f)<0↔oK c f i=true:=by
 unfold oK orV nE;grind
theorem aAb (L:List Int):pL L=(List.range L.length).map fun p=>[ci ((L.length - 1 - p:Nat):Int),ci (L.getD (L.length - 1 - p) 0)]:=rfl
section
variable {its:ITS} (n:Nat) (hi:ItsC its)
include hi
theorem UE {c:Court} (hc:OkC c) {S:List Int} (hS:OnP c S/\S.length<=6) (v w:Int) :
  (aA (D its (n+13) 98 [CV.row 1 (gr [CV.row 1 (enc1 S)] 0),ci (gi [ci v,ci w] 1)]) fun v7 =>
   aA (D its (n+13) 99 [CV.row 8 (gr (c.rs++[ci 0]) 0),CV.row 3 (gr (c.rs++[ci 0]) 1),CV.row 6 (gr (c.rs++[ci 0]) 2),CV.row 1 (gr v7 0)]) fun v8 =>
   bD (aC (!(gb v8 0))
       (some (.nx [CV.row 1 (gr v7 0)]))
       (some (.nx [CV.row 1 (gr [CV.row 1 (enc1 S)] 0)]))) fun v9 =>
   some (.nx [CV.row 1 (gr v9 0)]))=some (.nx [CV.row 1 (enc1 (yG c S w))]):=by
 have h1:D its (n+13) 98 [CV.row 1 (enc1 S),ci w]=_:=ZZ (n+10) (L:=S) (by omega) w
 have hl:(HE S w).length<=S.length:=List.length_filter_le _ _;have h2:D its (n+13) 99 [CV.row 8 (gr (c.rs++[ci 0]) 0),CV.row 3 (gr (c.rs++[ci 0]) 1),CV.row 6 (gr (c.rs++[ci 0]) 2),CV.row 1 (enc1 (HE S w))]=_:=QT hi.toItsB (n+4) hc.bd hc.w (HF hS.1 _) (by omega)
 simp only [cY,BR,cW,h1,aD,h2,nD,yG];cases KQ c (HE S w) <;> rfl
theorem aEo {c:Court} (hf:c.Fit) (d:Int):D its (n+14) 30 (c.rs++[ci d])=some (if bX c d=0 then (match (dV c d).2 with
  | []=>[.row 1 [],ci 75]
  | f::_=>[.row 1 (enc1 (aEl c (aEn c f (dV c d).1))),ci 0]) else [.row 1 [],ci (bX c d)]):=by
 refine (GI its (n+13) _ _ _ _).trans ?_;have h1:D its (n+13) bQ [.row 8 c.p,.row 3 c.s,.row 6 c.f,ci d]=_:=wF n hf d;unfold uZ;rw [h1]
 by_cases h:bX c d=0
 case neg =>
  simp only [h,if_false,aD];have g:gi (mO.rs++[ci (bX c d)]) 3=bX c d:=rfl;simp_all
 have hc:=nF h;obtain ⟨a0,a1,a2⟩:=yF (c:=c) d;have p6:=hc.p6;have h2:D its (n+13) fD [CV.row 8 (gr (c.rs++[ci 0]) 0),CV.row 3 (gr (c.rs++[ci 0]) 1),CV.row 6 (gr (c.rs++[ci 0]) 2),ci d]=_:=QV hi (n+3) hc d;have g3:gi (c.rs++[ci 0]) 3=0:=rfl;simp only [h,if_true,aD,h2,g3,fO,cY];generalize (dV c d).1=Y at a0 a2 ⊢;generalize (dV c d).2=N at a1 a2 ⊢;cases N with
 | nil=>rfl
 | cons f N =>
  simp at a2;have Fx:il (enc1 (f::N))=((N.length+1:Nat):Int):=by rw [aP];simp
  have ah:il (enc1 Y)=(Y.length:Int):=aP _ _;have gN:(((N.length+1:Nat):Int) == 0)=false:=by rfl
  have iN:inb 0 (enc1 (f::N))=true:=QN (f:=fun a:Int=>[ci a]) (l:=f::N) (by simp)
  have gD:List.getD (enc1 (f::N)) 0 []=[ci f]:=rfl;obtain ⟨f0,f1⟩:=a1 f (by simp)
  have ox:∀ k:Int,0<=k->k.toNat<c.ps.length->D its (n+13) aG [CV.row 8 (gr (c.rs++[ci 0]) 0),CV.row 3 (gr (c.rs++[ci 0]) 1),CV.row 6 (gr (c.rs++[ci 0]) 2),ci k]=some [ci (c.entered k.toNat)]:=fun k k0 k1=>by
   have:=lM its (n+12) k1;rw [Int.toNat_of_nonneg k0] at this;exact this
  rw [Fx,gN,iN,gD];simp only [show ((0:Int) != 0)=false from rfl,dU,bR,nH,KG,KF,Bool.and_self];rw [eY Y.length (fun i=>[ci (i:Int),.row 1 (enc1 (f::(Y.take i).filter (oK c f)))]) (some (.br 0 [.row 1 (enc1 (f::Y.filter (oK c f)))])) ?hv (fun i hx=>?hs) ?he (by simp)]
  case hv=>rfl
  case he =>
   simp
  case hs =>
   have i1:inb (i:Int) (enc1 Y)=true:=aE hx;have e1:el (enc1 Y) (i:Int)=[ci Y[i]]:=aK hx;have ap:(i:Int)<(Y.length:Int):=by omega
   have hw:=bA (show i<9223372036854775807 by omega)
   obtain ⟨y0,y1⟩:=a0 _ (List.getElem_mem hx);have ak:((Y.take i).filter (oK c f)).length<=6:=Nat.le_trans (List.length_filter_le _ _) (by simp;omega)
   have bh:bL (enc1 (f::(Y.take i).filter (oK c f))).length 1 8=true:=by rw [List.length_map];exact cU (by simp;omega) (by simp;omega)
   have gz:aI 1 2 [ci (nE (c.entered Y[i].toNat) (c.entered f.toNat)),ci (nE Y[i] f)]=enc1 [nE (c.entered Y[i].toNat) (c.entered f.toNat),nE Y[i] f]:=rfl;have Fy:∀ a b,D its (n+13) bZ [ci a,ci b]=some [ci (nE a b)]:=fun a b=>WN its (n+11) a b
   have L8:∀ a b,D its (n+13) sG [.row 1 (enc1 [a,b])]=some [ci (orV a b)]:=fun a b=>aJP (n+12) a b
   simp only [cW,fO,cY,ah,ap,decide_true,iP,i1,e1,bR,nH,KG,KF,Bool.and_self,ox _ y0 y1,ox _ f0 f1,aD,Fy,gz,L8,hw];have Id:=aAa c f Y[i];rw [take_succ hx,List.filter_append]
   by_cases an:orV (nE (c.entered Y[i].toNat) (c.entered f.toNat)) (nE Y[i] f)<0
   ·simp only [an,Id.1 an,decide_true,iP,bh,bR,eX,cY,List.filter_cons,List.filter_nil,if_true]
    simp [aI]
   ·simp only [an,eq_false_of_ne_true (fun h=>an (Id.2 h)),decide_false,dU,eX,cY,List.filter_cons,List.filter_nil,if_false,Bool.false_eq_true,List.append_nil]
  have bt:(f::Y.filter (oK c f)).length<=6:=by
   have:=List.length_filter_le (oK c f) Y;simp only [List.length_cons];omega
  have Ap:D its (n+13) 95 [.row 1 (enc1 (f::Y.filter (oK c f))),.fn 3 []]=some [.row 1 (enc1 (fE c f Y)),cb false]:=hi.i95 (n+12) _ (by omega)
  have t0:(fE c f Y).Perm (f::Y.filter (oK c f)):=vJ _;have bo:(fE c f Y).length<=6:=by rw [t0.length_eq];exact bt
  have rk:OnP c (fE c f Y):=fun k hk=>by
   rcases List.mem_cons.1 (t0.mem_iff.1 hk) with rfl | hk
   ·exact ⟨f0,f1⟩
   ·exact a0 k (List.mem_filter.1 hk).1
  simp only [jC,cY];erw [Ap];simp only [aD];rw [show lU 1 false [CV.row 1 (enc1 (fE c f Y)),cb false]=true from rfl,bR];simp only [cY];rw [aCu (by omega)]
  simp only [GL,cY];have L9:D its (n+13) gA [.row 1 (enc1 (fE c f Y))]=some [.fn 169 [.ref [.row 1 (enc1 (fE c f Y))]]]:=(tK its (n+12) _).trans rfl;rw [L9];simp only [aD];have rz:List.getD [CV.fn 169 [.ref [.row 1 (enc1 (fE c f Y))]]] 0 dC=CV.fn 169 [.ref [.row 1 (enc1 (fE c f Y))]]:=rfl;rw [rz,aJO (hi.i169 (n+12) _ (by omega))]
  have ej:=vL (A:=Nat) (f:=fun p=>[ci (((fE c f Y).length - 1 - p:Nat):Int),ci ((fE c f Y).getD ((fE c f Y).length - 1 - p) 0)]) (fun S=>[CV.row 1 (enc1 S)]) (fun S p=>yG c S ((fE c f Y).getD ((fE c f Y).length - 1 - p) 0)) (fun S=>OnP c S/\S.length<=6) (List.range (fE c f Y).length) (fE c f Y) ⟨rk,bo⟩ (step:=fun x6 v6 =>
       aA (D its (n+13) 98 [CV.row 1 (gr v6 0),ci (gi x6 1)]) fun v7 =>
       aA (D its (n+13) 99 [CV.row 8 (gr (c.rs++[ci 0]) 0),CV.row 3 (gr (c.rs++[ci 0]) 1),CV.row 6 (gr (c.rs++[ci 0]) 2),CV.row 1 (gr v7 0)]) fun v8 =>
       bD (aC (!(gb v8 0))
           (some (.nx [CV.row 1 (gr v7 0)]))
           (some (.nx [CV.row 1 (gr v6 0)]))) fun v9 =>
       some (.nx [CV.row 1 (gr v9 0)])) (fun p _ S hS=>⟨UE n hi hc hS _ _,by
        unfold yG;split
        ·exact hS
        ·exact ⟨HF hS.1 _,Nat.le_trans (List.length_filter_le _ _) hS.2⟩⟩)
  rw [aCv (yG c)] at ej;unfold fN;simp only;rw [aAb];refine Eq.trans (congrArg (fun z=>aJ (bD (brO z) _)) ej.1) ?_
  have Ma:D its (n+13) eK [CV.row 8 (gr (c.rs++[ci 0]) 0),CV.row 3 (gr (c.rs++[ci 0]) 1),CV.row 6 (gr (c.rs++[ci 0]) 2),CV.row 1 (enc1 (aEn c f Y))]=_:=aIt (n+11) hi ej.2.1 (by have:=ej.2.2;unfold aEn;omega)
  have Fz:D its (n+13) eK [CV.row 8 (gr (c.rs++[ci 0]) 0),CV.row 3 (gr (c.rs++[ci 0]) 1),CV.row 6 (gr (c.rs++[ci 0]) 2),CV.row 1 (enc1 ((fE c f Y).reverse.foldl (yG c) (fE c f Y)))]=some [.row 1 (enc1 (aEl c (aEn c f Y)))]:=Ma;simp only [brO,eX,cY,Fz,aD,dP]
end
theorem KT (hc:OkC c):c.worths.length=c.ss.length/\∀ x∈c.worths,0<=x/\x<=1000000000000:=by
 refine ⟨by simp [Court.worths],fun x hx=>?_⟩
 simp [Court.worths] at hx;obtain ⟨s,hs,rfl⟩:=hx;have:=hc.w s hs;omega
theorem aEp (hc:OkC c) (S:List Int):0<=c.back S c.worths/\c.back S c.worths<=8000000000000:=by
 have h:=zW (KT hc).2 (c:=c) (S:=S) c.ss.length;have:=hc.s8;unfold Court.back;omega
section
variable {its:ITS} (n:Nat) (hi:ItsC its)
include hi
theorem aEq {c:Court} (hf:c.Fit) (x d:Int):D its (n+15) 19 (c.rs++[ci x,ci d])=some (if vK c x d=0 then (if (aR c d).contains (eF c.pids x:Int)=true then [ci (aGh c (aR c d) (eF c.pids x)),ci 0] else [ci 0,ci 79]) else [ci 0,ci (vK c x d)]):=by
 refine (GD its (n+14) _ _ _ _ _).trans ?_;have h1:D its (n+14) fR [.row 8 c.p,.row 3 c.s,.row 6 c.f,ci x,ci d]=_:=QY n hf x d;unfold uP;rw [h1]
 by_cases h:vK c x d=0
 case neg =>
  simp only [h,if_false,aD];have g:gi (mO.rs++[ci 0,ci (vK c x d)]) 4=vK c x d:=rfl;have g':(vK c x d != 0)=true:=by simp [h]
  rw [g,g'];rfl
 obtain ⟨h0,an,_⟩:=WR h;have hc:=nF h0;generalize hm:(eF c.pids x:Int)=m
 have hg:∀ i,gr (c.rs++[ci m,ci 0]) i=gr c.rs i:=fun i=>by
  match i with
  | 0=>rfl
  | 1=>rfl
  | 2=>rfl
  | 3=>rfl
  | 4=>rfl
  | _+5=>rfl
 have g0:gr c.rs 0=c.p:=rfl;have g1:gr c.rs 1=c.s:=rfl;have g2:gr c.rs 2=c.f:=rfl;have g3:gi (c.rs++[ci m,ci 0]) 3=m:=rfl;have g4:gi (c.rs++[ci m,ci 0]) 4=0:=rfl;obtain ⟨a1,a2⟩:=hU (c:=c) d;have p6:=hc.p6;have h2:D its (n+14) cD [.row 8 c.p,.row 3 c.s,.row 6 c.f,ci d]=_:=BW (n+4) hi hc d;have h3:∀ S:List Int,S.length<=6->D its (n+14) aL [.row 1 (enc1 S),ci m]=some [cb (S.contains m)]:=fun S hS=>oI its (n+12) (by omega) m
 simp only [h,if_true,aD,g3,g4,hg,g0,g1,g2,h2,cY,h3 _ (show (aR c d).length<=6 by omega),nD,show ((0:Int) != 0)=false from rfl,dU]
 generalize aR c d=L at a1 a2 ⊢
 by_cases B5:L.contains m=true
 case neg=>rw [if_neg B5,eq_false_of_ne_true B5];rfl
 rw [if_pos B5,B5];have h4:D its (n+14) lQ [.row 1 (enc1 L)]=_:=TZ its (n+13) L;have h5:=itV (M:=D its (n+14)) (hi.i158 (n+13) L (by omega))
 have rz:List.getD [CV.fn 158 [.ref [.row 1 (enc1 L)]]] 0 dC=CV.fn 158 [.ref [.row 1 (enc1 L)]]:=rfl;simp only [Bool.not_true,dU,h4,aD,rz,h5];have Mb:D its (n+14) dE [.row 8 c.p,.row 3 c.s,.row 6 c.f]=_:=w_all its (n+12) hc.bd.sm;obtain ⟨w1,w2⟩:=KT hc
 have ej:=vL (A:=List Int) (f:=fun X=>[CV.row 1 (enc1 X)]) (fun v=>[ci v]) (spY c m) (fun _=>True) (parts L) (-1) trivial (step:=fun x4 v4 =>
       bG 1 (aA (D its (n+14) aL [CV.row 1 (gr x4 0),ci m]) fun v5 =>
        aC (!(gb v5 0))
         (some (.br 1 [ci (gi v4 0)]))
         (aA (D its (n+14) dE [.row 8 c.p,.row 3 c.s,.row 6 c.f]) fun v6 =>
         aA (D its (n+14) bK [.row 8 c.p,.row 3 c.s,.row 6 c.f,CV.row 1 (gr x4 0),CV.row 1 (gr v6 0)]) fun v7 =>
         aA (D its (n+14) bU [.row 8 c.p,.row 3 c.s,.row 6 c.f,CV.row 1 (gr x4 0)]) fun v8 =>
         bD (aC (decide ((gi v4 0)<0))
             (some (.nx [cb true]))
             (some (.nx [cb (decide ((wr ((gi v7 0) - (gi v8 0)))<(gi v4 0)))]))) fun v9 =>
         bD (aC (gb v9 0)
             (some (.nx [ci (wr ((gi v7 0) - (gi v8 0)))]))
             (some (.nx [ci (gi v4 0)]))) fun v10 =>
         some (.br 1 [ci (gi v10 0)]))) fun v5 =>
       some (.nx [ci (gi v5 0)])) (fun X hX v _=>⟨by
  obtain ⟨m1,m2⟩:=rM hX;have Ia:X.length<=6:=by omega
  have F1:OnP c X:=fun k hk=>a1 k (m1 k hk)
  simp only [cY,h3 X Ia,aD,nD,spY]
  by_cases Oe:X.contains m=true
  case neg=>rw [if_neg Oe,eq_false_of_ne_true Oe];rfl
  have k1:D its (n+14) bK [.row 8 c.p,.row 3 c.s,.row 6 c.f,CV.row 1 (enc1 X),CV.row 1 (enc1 c.worths)]=some [ci (c.back X c.worths)]:=BU its (n+7) hc.bd.sm F1 (by omega) w1 w2
  have k2:D its (n+14) bU [.row 8 c.p,.row 3 c.s,.row 6 c.f,CV.row 1 (enc1 X)]=some [ci (jW (eA c X))]:=NK its (n+12) F1 (by omega) hc.bd.need
  have b1:=aEp hc X;have b2:=GV hc.bd F1 (by omega)
  have hw:wr (c.back X c.worths - jW (eA c X))=c.back X c.worths - jW (eA c X):=dQ (by omega) (by omega)
  simp only [Oe,Bool.not_true,dU,Mb,aD,cY,k1,k2,cW,hw,if_true]
  by_cases hv:v<0
  ·simp only [hv,decide_true,iP,eX,nD,cW,true_or,if_true,jC]
  ·by_cases jm:c.back X c.worths - jW (eA c X)<v
   ·simp only [hv,jm,decide_true,decide_false,iP,dU,eX,nD,cW,or_true,if_true,jC]
   ·simp only [hv,jm,decide_false,dU,eX,nD,cW,or_self,if_false,jC],trivial⟩)
 unfold fN;rw [GS];refine Eq.trans (congrArg (fun z=>aJ (bD (brO z) fun v4=>some (.ret [ci (gi v4 0),ci 0]))) ej.1) ?_
 rfl
end
end
section
open Go Go.Sx Go.RowKit
set_option maxRecDepth 100000
variable [G:Ghost]
abbrev cN (i:Int):AV:=.cv (.val (.int .i64 i))
def b0 (p s f:List (List CV)):Box:=⟨true,97,[.cv (.row 8 p),.cv (.row 3 s),.cv (.row 6 f)]⟩
def b1 (k:Int):Box:=⟨true,3,[cN k]⟩
def bm (n i:Nat):Box:=⟨true,22,(List.range n).map fun j=>if j<i then .own j 1 else .cv (.val (.slice none 0 0))⟩
def b3 (n:Nat):Box:=⟨true,68,[.slb n 2 0]⟩
def iv (r:List Int):List (List CV):=r.map fun x=>[.val (.int .i64 x)]
def vm (rs:List (List Int)):List Vec:=rs.map fun r=>⟨true,3,1,1,iv r⟩
abbrev nilA:AV:=.cv (.val (.slice none 0 0))
abbrev zr (m:Nat):List Int:=List.replicate m 0
abbrev cA (p s f:List (List CV)):AV:=.agg [.cv (.row 8 p),.cv (.row 3 s),.cv (.row 6 f)]
abbrev LM:List (Nat×AV):=[(5,.ptr 3 0),(3,.ptr 1 0),(2,.ptr 0 0)]
omit G in
theorem t68:aZ Tryz.prog 68=some ⟨1,[.slice none 0 0],.slc 22 1 24⟩:=by rfl
omit G in
theorem t22:aZ Tryz.prog 22=some ⟨1,[.slice none 0 0],.slc 3 1 8⟩:=by rfl
omit G in
theorem t3:aZ Tryz.prog 3=some ⟨1,[.int .i64 0],.int .i64⟩:=by rfl
omit G in
theorem bm0 (n:Nat):bm n 0=⟨true,22,List.replicate n (.cv (.val (.slice none 0 0)))⟩:=by
 unfold bm;congr 1;refine List.ext_getElem? fun i=>?_
 grind
omit G in
theorem aCw (n i j:Nat) (h:j<n):(bm n i).cs[j]? = some (if j<i then .own j 1 else .cv (.val (.slice none 0 0))):=by simp [bm,h]
omit G in
theorem aGi (n i:Nat) (h:i<n):splice (bm n i).cs i [.own i 1]=(bm n (i+1)).cs:=by
 refine List.ext_getElem? fun j=>?_
 unfold splice bm;grind
section
variable [C:Co Tryz.prog] {F:Fence} {n:Nat}
theorem aEr (hF:Free F) (p s f:List (List CV)) (k:Int) (hp:p.length<=1000) (hs:s.length<=1000) {REST:Code} {Q:Exit->St->Prop} (hc:∃ r0 r1 r2,aB Tryz.f69=.seq r0 (.seq r1 (.seq r2 REST)))
  (h:W2 F n Tryz.prog REST ⟨mkT 94 LM,[b0 p s f,b1 k,bm p.length p.length,b3 p.length],vm (List.replicate p.length (zr (1+s.length)))⟩ Q) :
  W2 F n Tryz.prog (aB Tryz.f69) ⟨mkT 94 [(0,cA p s f),(1,cN k)],[],[]⟩ Q:=by
 obtain ⟨r0,r1,r2,hc⟩:=hc;unfold aB Tryz.f69 at hc ⊢;injection hc with h0 hc
 injection hc with h1 hc
 injection hc with h2 hc
 rw [hc];refine nX (W.w2 (aV ?_));refine wop hF (A:=.ptr 0 0) (B':=[b0 p s f]) (V':=[]) rfl rfl (by rfl) ?_
 refine wop hF (A:=.ptr 1 0) (B':=[b0 p s f,b1 k]) (V':=[]) rfl rfl (by rfl) ?_
 refine wop hF (A:=nilA) (B':=[b0 p s f,b1 k]) (V':=[]) rfl rfl (by rfl) ?_
 refine aN ?_;refine nX (W.w2 (aV ?_));refine wop hF (A:=.ptr 0 0) (B':=[b0 p s f,b1 k]) (V':=[]) rfl rfl (by rfl) ?_
 refine wop hF (A:=.ptr 0 0) (B':=[b0 p s f,b1 k]) (V':=[]) rfl rfl (by rfl) ?_
 refine wop hF (A:=.cv (.row 8 p)) (B':=[b0 p s f,b1 k]) (V':=[]) rfl rfl (by kernel_rfl) ?_
 refine wop hF (A:=cN p.length) (B':=[b0 p s f,b1 k]) (V':=[]) rfl rfl (by rfl) ?_
 refine aBw hF (A:=.slb p.length 2 0) (B':=[b0 p s f,b1 k,bm p.length 0]) (V':=[]) rfl rfl (by simp) (fun a=>by exact k_v (uD _ _ _)) ?_ ?_
 ·rw [bm0]
  exact TM (te:=⟨1,[.slice none 0 0],.slc 3 1 8⟩) (by rfl) (by rfl) (by rfl) t68 t22 rfl rfl (by omega) (Nat.le_trans hp (by decide))
 refine wop hF (A:=.ptr 3 0) (B':=[b0 p s f,b1 k,bm p.length 0,⟨true,68,[nilA]⟩]) (V':=[]) rfl rfl (by rfl) ?_
 refine aDN hF (A:=.any) (B':=[b0 p s f,b1 k,bm p.length 0,b3 p.length]) (V':=[]) rfl rfl (by rfl) ?_
 refine aN ?_;refine nX (W.w2 (dG (aV ?_)));refine wop hF (A:=.slb p.length 2 0) (B':=[b0 p s f,b1 k,bm p.length 0,b3 p.length]) (V':=[]) rfl rfl (by rfl) ?_
 refine aBw hF (A:=cN p.length) (B':=[b0 p s f,b1 k,bm p.length 0,b3 p.length]) (V':=[]) rfl rfl (by simp) (fun a=>by exact k_v (aER _ _ _)) (ZD (T:=68) (l:=p.length) (i:=2) (off:=0) (by rfl) (by rfl) t68) ?_
 refine wop hF (A:=cN 0) (B':=[b0 p s f,b1 k,bm p.length 0,b3 p.length]) (V':=[]) rfl rfl (by rfl) ?_
 refine aN ?_;refine oW (PJ (st1:=⟨mkT 94 ((21,cN (0:Nat))::(20,cN p.length)::LM),[b0 p s f,b1 k,bm p.length 0,b3 p.length],vm (List.replicate 0 (zr (1+s.length)))⟩) (Wk.slots (by simp)) ?_)
 refine MR (fun j st=>∃ i,i+j=p.length/\st=⟨mkT 94 ((21,cN (i:Nat))::(20,cN p.length)::LM),[b0 p s f,b1 k,bm p.length i,b3 p.length],vm (List.replicate i (zr (1+s.length)))⟩) (k0:=p.length) ⟨0,by omega,rfl⟩ ?_
 rintro j st ⟨i,d8,rfl⟩;refine dG (aV ?_);refine wop hF (A:=.cv (.val (.bool (decide ((i:Int)<p.length))))) (B':=[b0 p s f,b1 k,bm p.length i,b3 p.length]) (V':=vm (List.replicate i (zr (1+s.length)))) rfl rfl (by rfl) ?_
 refine aN ?_;refine dG (mG (b:=decide ((i:Int)<p.length)) (by rfl) (fun hb=>mF ?_) fun hb=>EW ?_)
 ·have hi:i<p.length:=by grind
  refine dG (oW (dG (aV ?_)));refine wop hF (A:=cN i) (B':=[b0 p s f,b1 k,bm p.length i,b3 p.length]) (V':=vm (List.replicate i (zr (1+s.length)))) rfl rfl (by rfl) ?_
  refine wop hF (A:=cN i) (B':=[b0 p s f,b1 k,bm p.length i,b3 p.length]) (V':=vm (List.replicate i (zr (1+s.length)))) rfl rfl (by rfl) ?_
  refine aN ?_;refine aBi (ds:=[⟨false,3,1,0,[]⟩]) (by simp) (by simp [ghT,bE]) ?_
  refine DR (vb:=fun j=>j<i) (by rfl) (by kernel_rfl) ?_
  refine uL hF (A:=.slb p.length 2 0) [3] [] rfl rfl (by decide) rfl (by rfl) (by rfl) (by rfl) (by rfl) ?_
  refine uL hF (A:=cN i) [] [] rfl rfl (by decide) rfl (by kernel_rfl) (by kernel_rfl) (by kernel_rfl) (by kernel_rfl) ?_
  refine uL hF (A:=.ptr 0 0) [] [] rfl rfl (by decide) rfl (by kernel_rfl) (by kernel_rfl) (by kernel_rfl) (by kernel_rfl) ?_
  refine uL hF (A:=.ptr 0 1) [] [] rfl rfl (by decide) rfl (by kernel_rfl) (by kernel_rfl) (by kernel_rfl) (by kernel_rfl) ?_
  refine uL hF (A:=.cv (.row 3 s)) [0] [] rfl rfl (by decide) rfl (by kernel_rfl) (by rfl) (by kernel_rfl) (by kernel_rfl) ?_
  refine uL hF (A:=cN s.length) [] [] rfl rfl (by decide) rfl (by kernel_rfl) (by kernel_rfl) (by kernel_rfl) (by kernel_rfl) ?_
  refine uL hF (A:=cN (IntKind.wrap .i64 (1+s.length))) [] [] rfl rfl (by decide) rfl (by kernel_rfl) (by kernel_rfl) (by kernel_rfl) (by kernel_rfl) ?_
  have hw:IntKind.wrap .i64 (1+(s.length:Int))=((1+s.length:Nat):Int):=by rw [IntKind.wrap_i64];omega
  rw [hw];refine aG0 hF (l1:=((1+s.length:Nat):Int)) (c:=((1+s.length:Nat):Int)) (j:=i) (v:=⟨false,3,1,0,[]⟩) rfl rfl rfl (by rfl) (by rfl) t22 (by decide) t3 rfl rfl (by omega) (by omega) (by omega) (Nat.le_trans (show _<=1001 by omega) (by decide)) (by simp [vm]) rfl rfl (by omega) ?_
  have hV:(vm (List.replicate i (zr (1+s.length)))++[(⟨false,3,1,0,[]⟩:Vec)]).set i ⟨true,3,1,0+1,List.replicate ((1+s.length:Nat):Int).toNat (([Value.int .i64 0]).map .val)⟩=vm (List.replicate (i+1) (zr (1+s.length))):=by
   have h1:(1+(s.length:Int)).toNat=1+s.length:=by omega
   simp [vm,iv,List.replicate_succ',h1]
  rw [hV];refine uL hF (A:=.ptr 2 i) [] [] rfl rfl (by decide) rfl (by kernel_rfl) (by kernel_rfl) (by kernel_rfl) (NA (len:=p.length) (off:=0) (by rfl) (by rfl) t68 (by decide) (by omega) (by omega) (by simp)) ?_
  refine .inr ⟨by kernel_rfl,?_⟩
  refine aDN hF rfl rfl (aBz (i:=2) (off:=i) (b:=bm p.length i) (by rfl) (by rfl) (by rfl) t22 rfl (by rfl) rfl (by simp [bm,hi]) rfl) ?_
  refine aN ?_
  have Mc:(⟨(bm p.length i).live,(bm p.length i).T,splice (bm p.length i).cs i [.own i (0+1)]⟩:Box)=bm p.length (i+1):=by
   rw [show 0+1=1 from rfl,aGi _ _ hi];rfl
  rw [Mc];refine aV ?_;refine wop hF (A:=cN (IntKind.wrap .i64 (i+1))) (B':=[b0 p s f,b1 k,bm p.length (i+1),b3 p.length]) (V':=vm (List.replicate (i+1) (zr (1+s.length)))) rfl rfl (by kernel_rfl) ?_
  have er:IntKind.wrap .i64 ((i:Int)+1)=((i+1:Nat):Int):=by rw [IntKind.wrap_i64];omega
  rw [er];refine wop hF (A:=cN (i+1:Nat)) (B':=[b0 p s f,b1 k,bm p.length (i+1),b3 p.length]) (V':=vm (List.replicate (i+1) (zr (1+s.length)))) rfl rfl (by kernel_rfl) ?_
  refine aN ?_;exact ⟨_,Wk.slots (by simp),j - 1,by omega,i+1,by omega,rfl⟩
 ·have hi:i=p.length:=by grind
  subst hi;refine MV ?_ h;exact Wk.slots (by simp)
end
abbrev wr' (x:Int):Int:=IntKind.wrap .i64 x
abbrev mn (n rest:Int):Int:=if rest<n then rest else n
def fl:Int->List Int->List Int×Int
 | rest,[]=>([],rest)
 | rest,n::ns=>(mn n rest::(fl (wr' (rest - mn n rest)) ns).1,(fl (wr' (rest - mn n rest)) ns).2)
omit G in
theorem WS:∀ (ns:List Int) (rest n:Int),fl rest (ns++[n])=((fl rest ns).1++[mn n (fl rest ns).2],wr' ((fl rest ns).2 - mn n (fl rest ns).2))
 | [],rest,n=>rfl
 | m::ns,rest,n=>by simp only [List.cons_append,fl,WS ns]
omit G in
theorem NR:∀ (ns:List Int) (rest:Int),(fl rest ns).1.length=ns.length
 | [],_=>rfl
 | n::ns,rest=>by simp only [fl,List.length_cons,NR ns]
def IL (a p:Int) (ns r:List Int):List Int:=p::(fl (wr' (a - p)) ns).1++r.drop (1+ns.length)
omit G in
theorem UF {r:List Int} {i:Nat} {x:Int} (h:r[i]? = some x):(iv r)[i]? = some [.val (.int .i64 x)]:=by simp [iv,h]
omit G in
theorem BX (r:List Int):(iv r).length=r.length:=by simp [iv]
omit G in
theorem aGj (r:List Int) (i:Nat) (x:Int):(iv r).set i [.val (.int .i64 x)]=iv (r.set i x):=by simp [iv]
omit G in
theorem BY {rs:List (List Int)} {i:Nat} {r:List Int} (h:rs[i]? = some r):(vm rs)[i]? = some ⟨true,3,1,1,iv r⟩:=by simp [vm,h]
omit G in
theorem aGk (rs:List (List Int)) (i:Nat) (r:List Int):(vm rs).set i ⟨true,3,1,1,iv r⟩=vm (rs.set i r):=by simp [vm]
section
variable [C:Co Tryz.prog] {F:Fence} {n:Nat} {p s f:List (List CV)} {k:Int} {D:List Box}
abbrev BB (p s f:List (List CV)) (k:Int) (D:List Box):List Box:=[b0 p s f,b1 k,bm p.length p.length,b3 p.length]++D
abbrev b9 (fs:List CV):Box:=⟨true,35,fs.map .cv⟩
abbrev LBd (i:Nat) (ns:List Int) (L:Nat) (rest:Int):List (Nat×AV):=(11,cN rest)::(9,.ptr L 0)::(8,.cv (.row 1 (iv ns)))::(7,cN i)::LM
variable {r:List Int} {j:Nat}
omit G in
theorem aIu {x:Int} (h:j<r.length):spl ((iv r).getD j []) 0 [.val (.int .i64 x)]=[.val (.int .i64 x)]:=by
 have h1:(iv r)[j]? = some [.val (.int .i64 r[j])]:=UF (by simp [h])
 simp [h1,spl]
variable {rs:List (List Int)} {i:Nat}
theorem QZ {st:St} {o:Oper} {x y:Operand} {v:Int} (aa:o.op=.store 3 x y) (hx:st.ev x=.opt i 1 j 0) (hy:st.ev y=cN v) (hV:st.V=vm rs) (hr:rs[i]? = some r) (hj:j<r.length) :
  Step Tryz.prog o st .any st.B (vm (rs.set i (r.set j v))):=by
 have h0:=pU (P:=Tryz.prog) (st:=st) (i:=i) (u:=1) (el:=j) (off:=0) (v:=⟨true,3,1,1,iv r⟩) (new:=[cN v]) (cs:=[.val (.int .i64 v)]) aa hx (hv:=by rw [hV];exact BY hr) rfl rfl (by grind [BX]) t3 (by simp_all) rfl rfl (by simp)
 grind [aIu,aGj,aGk]
def k1:Code->Code
 | .seq a _=>a
 | c=>c
def k2:Code->Code
 | .seq _ b=>b
 | c=>c
def kB:Code->Code
 | .block _ c=>c
 | .loop c=>c
 | .rangeFunc _ _ _ c=>c
 | c=>c
noncomputable def dbT:Code:=k2 (k2 (k2 (aB Tryz.f69)))
noncomputable def dbR:Code:=kB (k2 (k1 (k2 dbT)))
noncomputable def dbX:Code:=kB (kB dbR)
noncomputable def dbL:Code:=kB (kB (k2 (k2 (k2 (k2 (k2 dbX))))))
variable {ns:List Int} {Q:Exit->St->Prop}
theorem aCx (hF:Free F) {rest:Int} {fs:List CV} {nj:Int} (hr:rs[i]? = some r) (hi:i<p.length) (hj:ns[j]? = some nj) (hl:1+ns.length<=r.length) (F2:r.length<=100000)
  (h:Q .normal ⟨mkT 94 ((67,cN (j+1:Nat))::(66,cN ns.length)::(65,.cv (.row 1 (iv ns)))::LBd i ns (BB p s f k D).length (wr' (rest - mn nj rest))),BB p s f k D++[b9 fs],vm (rs.set i (r.set (1+j) (mn nj rest)))⟩) :
  W F n Tryz.prog (k2 (k2 dbL)) ⟨mkT 94 ((67,cN j)::(66,cN ns.length)::(65,.cv (.row 1 (iv ns)))::LBd i ns (BB p s f k D).length rest),BB p s f k D++[b9 fs],vm rs⟩ (fun ex st'=>∃ s1,Wk st' s1/\Q ex s1):=by
 have bk:=(List.getElem?_eq_some_iff.1 hj).1;have e1:IntKind.wrap .i64 (1+(j:Int))=((1+j:Nat):Int):=by grind [IntKind.wrap_i64]
 have e2:IntKind.wrap .i64 ((j:Int)+1)=((j+1:Nat):Int):=by grind
 refine dG (oW (dG (aV ?_)));refine wop hF (A:=cN j) (B':=BB p s f k D++[b9 fs]) (V':=vm rs) rfl rfl (by rfl) ?_
 refine wop hF (A:=.cv (.ref [.val (.int .i64 nj)])) (B':=BB p s f k D++[b9 fs]) (V':=vm rs) rfl rfl (aFM (es:=iv ns) (by rfl) (by rfl) t22 (by decide) (by omega) (by grind [BX]) (by simp [UF hj])) ?_
 refine wop hF (A:=cN nj) (B':=BB p s f k D++[b9 fs]) (V':=vm rs) rfl rfl (by rfl) ?_
 refine wop hF (A:=cN j) (B':=BB p s f k D++[b9 fs]) (V':=vm rs) rfl rfl (by rfl) ?_
 refine wop hF (A:=cN nj) (B':=BB p s f k D++[b9 fs]) (V':=vm rs) rfl rfl (by rfl) ?_
 refine aN ?_;refine dG (aV ?_);refine wop hF (A:=.slb p.length 2 0) (B':=BB p s f k D++[b9 fs]) (V':=vm rs) rfl rfl (by rfl) ?_
 refine wop hF (A:=cN i) (B':=BB p s f k D++[b9 fs]) (V':=vm rs) rfl rfl (by rfl) ?_
 refine wop hF (A:=.ptr 2 i) (B':=BB p s f k D++[b9 fs]) (V':=vm rs) rfl rfl (NA (len:=p.length) (off:=0) (by rfl) (by rfl) t68 (by decide) (by omega) (by omega) (by simp)) ?_
 refine wop hF (A:=.own i 1) (B':=BB p s f k D++[b9 fs]) (V':=vm rs) rfl rfl (vZ (i:=2) (off:=i) (b:=bm p.length p.length) (by rfl) t22 rfl (by rfl) rfl (by simp_all [aCw])) ?_
 refine wop hF (A:=cN j) (B':=BB p s f k D++[b9 fs]) (V':=vm rs) rfl rfl (by rfl) ?_
 refine wop hF (A:=cN (IntKind.wrap .i64 (1+(j:Int)))) (B':=BB p s f k D++[b9 fs]) (V':=vm rs) rfl rfl (by rfl) ?_
 rw [e1];refine wop hF (A:=cN nj) (B':=BB p s f k D++[b9 fs]) (V':=vm rs) rfl rfl (by rfl) ?_
 refine wop hF (A:=cN rest) (B':=BB p s f k D++[b9 fs]) (V':=vm rs) rfl rfl (by rfl) ?_
 refine wop hF (A:=cN (mn nj rest)) (B':=BB p s f k D++[b9 fs]) (V':=vm rs) rfl rfl (by rfl) ?_
 refine wop hF (A:=.opt i 1 (1+j) 0) (B':=BB p s f k D++[b9 fs]) (V':=vm rs) rfl rfl (TL (v:=⟨true,3,1,1,iv r⟩) (i:=((1+j:Nat):Int)) (by rfl) (by rfl) t22 (by decide) (BY hr) rfl rfl rfl (by omega) (by grind [BX])) ?_
 refine aGY hF (A:=.any) (B':=BB p s f k D++[b9 fs]) (V':=vm (rs.set i (r.set (1+j) (mn nj rest)))) rfl rfl (by simp) (fun a=>by exact k_b (qT _ _ _) fun _=>trivial) ?_ ?_
 ·exact QZ (by rfl) (by rfl) (by rfl) rfl hr (by omega)
 have ba:(rs.set i (r.set (1+j) (mn nj rest)))[i]? = some (r.set (1+j) (mn nj rest)):=by grind
 generalize Md:rs.set i (r.set (1+j) (mn nj rest))=rs' at *;refine aN ?_;refine aV ?_;refine wop hF (A:=cN rest) (B':=BB p s f k D++[b9 fs]) (V':=vm rs') rfl rfl (by rfl) ?_
 refine wop hF (A:=.slb p.length 2 0) (B':=BB p s f k D++[b9 fs]) (V':=vm rs') rfl rfl (by rfl) ?_
 refine wop hF (A:=cN i) (B':=BB p s f k D++[b9 fs]) (V':=vm rs') rfl rfl (by rfl) ?_
 refine wop hF (A:=.ptr 2 i) (B':=BB p s f k D++[b9 fs]) (V':=vm rs') rfl rfl (NA (len:=p.length) (off:=0) (by rfl) (by rfl) t68 (by decide) (by omega) (by omega) (by simp)) ?_
 refine wop hF (A:=.own i 1) (B':=BB p s f k D++[b9 fs]) (V':=vm rs') rfl rfl (vZ (i:=2) (off:=i) (b:=bm p.length p.length) (by rfl) t22 rfl (by rfl) rfl (by simp_all [aCw])) ?_
 refine wop hF (A:=cN j) (B':=BB p s f k D++[b9 fs]) (V':=vm rs') rfl rfl (by rfl) ?_
 refine wop hF (A:=cN (IntKind.wrap .i64 (1+(j:Int)))) (B':=BB p s f k D++[b9 fs]) (V':=vm rs') rfl rfl (by rfl) ?_
 rw [e1];refine wop hF (A:=.opt i 1 (1+j) 0) (B':=BB p s f k D++[b9 fs]) (V':=vm rs') rfl rfl (TL (v:=⟨true,3,1,1,iv (r.set (1+j) (mn nj rest))⟩) (i:=((1+j:Nat):Int)) (by rfl) (by rfl) t22 (by decide) (BY ba) rfl rfl rfl (by omega) (by grind [BX])) ?_
 refine wop hF (A:=cN (mn nj rest)) (B':=BB p s f k D++[b9 fs]) (V':=vm rs') rfl rfl (aBy (j:=i) (u:=1) (el:=1+j) (o:=0) (by rfl) t3 rfl (BY ba) rfl rfl (UF (i:=1+j) (x:=mn nj rest) (List.getElem?_set_self (by omega))) rfl) ?_
 refine wop hF (A:=cN (wr' (rest - mn nj rest))) (B':=BB p s f k D++[b9 fs]) (V':=vm rs') rfl rfl (by rfl) ?_
 refine wop hF (A:=cN (wr' (rest - mn nj rest))) (B':=BB p s f k D++[b9 fs]) (V':=vm rs') rfl rfl (by rfl) ?_
 refine aN ?_;refine aV ?_;refine wop hF (A:=cN (IntKind.wrap .i64 ((j:Int)+1))) (B':=BB p s f k D++[b9 fs]) (V':=vm rs') rfl rfl (by rfl) ?_
 rw [e2];refine wop hF (A:=cN (j+1:Nat)) (B':=BB p s f k D++[b9 fs]) (V':=vm rs') rfl rfl (by rfl) ?_
 refine aN ?_;exact ⟨_,Wk.slots (by simp),h⟩
def rJ (a p:Int) (ns r:List Int) (j:Nat):List Int:=p::(fl a (ns.take j)).1++r.drop (1+j)
variable {a:Int}
omit G in
theorem aCy {p:Int} (hj:j<=ns.length) (hl:1+ns.length<=r.length):(rJ a p ns r j).length=r.length:=by
 grind [rJ,NR]
omit G in
theorem aEs {p:Int} {nj:Int} (hj:ns[j]? = some nj) (hl:1+ns.length<=r.length):(rJ a p ns r j).set (1+j) (mn nj (fl a (ns.take j)).2)=rJ a p ns r (j+1)/\(fl a (ns.take (j+1))).2=wr' ((fl a (ns.take j)).2 - mn nj (fl a (ns.take j)).2):=by
 have bk:=(List.getElem?_eq_some_iff.1 hj).1;have ht:ns.take (j+1)=ns.take j++[nj]:=by grind [List.take_add_one]
 have tw:(fl a (ns.take j)).1.length=j:=by grind [NR]
 unfold rJ;rw [ht,WS,show 1+j=j+1 by omega,List.cons_append,List.set_cons_succ,List.cons_append,List.set_append_right _ _ (by omega),tw,Nat.sub_self]
 have hd:r.drop (j+1)=(r[j+1]'(by omega))::r.drop (j+1+1):=List.drop_eq_getElem_cons (by omega)
 grind
theorem aCz (hF:Free F) {p1:Int} {fs:List CV} (hr:i<rs.length) (hi:i<p.length) (hl:1+ns.length<=r.length) (F2:r.length<=100000)
  (h:∀ l:List (Nat×AV),(∀ q∈LM,lk l q.1=q.2)->Q .normal ⟨mkT 94 l,BB p s f k D++[b9 fs],vm (rs.set i (rJ a p1 ns r ns.length))⟩) :
  W F n Tryz.prog (.block 4 (.loop dbL)) ⟨mkT 94 ((67,cN (0:Nat))::(66,cN ns.length)::(65,.cv (.row 1 (iv ns)))::LBd i ns (BB p s f k D).length a),BB p s f k D++[b9 fs],vm (rs.set i (rJ a p1 ns r 0))⟩ Q:=by
 refine oW ?_;refine MR (fun m st=>∃ j,j+m=ns.length/\st=⟨mkT 94 ((67,cN j)::(66,cN ns.length)::(65,.cv (.row 1 (iv ns)))::LBd i ns (BB p s f k D).length (fl a (ns.take j)).2),BB p s f k D++[b9 fs],vm (rs.set i (rJ a p1 ns r j))⟩) (k0:=ns.length) ⟨0,by omega,by rfl⟩ ?_
 rintro m st ⟨j,y8,rfl⟩;refine dG (aV ?_);refine wop hF (A:=.cv (.val (.bool (decide ((j:Int)<ns.length))))) (B':=BB p s f k D++[b9 fs]) (V':=vm (rs.set i (rJ a p1 ns r j))) rfl rfl (by rfl) ?_
 refine aN ?_;refine dG (mG (b:=decide ((j:Int)<ns.length)) (by rfl) (fun hb=>mF ?_) fun hb=>EW ?_)
 ·have hj:j<ns.length:=by grind
  obtain ⟨nj,F3⟩:∃ x,ns[j]? = some x:=⟨ns[j],by simp⟩
  obtain ⟨q1,q2⟩:=aEs (a:=a) (p:=p1) F3 hl;refine PJ (Wk.slots (l':=(67,cN j)::(66,cN ns.length)::(65,.cv (.row 1 (iv ns)))::LBd i ns (BB p s f k D).length (fl a (ns.take j)).2) (by simp)) ?_
  refine W.qq (aCx hF (Q:=fun ex st'=>ex=.normal/\st'=⟨mkT 94 ((67,cN (j+1:Nat))::(66,cN ns.length)::(65,.cv (.row 1 (iv ns)))::LBd i ns (BB p s f k D).length (fl a (ns.take (j+1))).2),BB p s f k D++[b9 fs],vm (rs.set i (rJ a p1 ns r (j+1)))⟩) (r:=rJ a p1 ns r j) (by grind) hi F3 (by grind [aCy]) (by grind [aCy]) ⟨rfl,?_⟩) ?_
  ·simp_all
  ·rintro ex st' ⟨s1,hw,rfl,rfl⟩
   exact ⟨_,hw,m - 1,by omega,j+1,by omega,rfl⟩
 ·have hj:j=ns.length:=by grind
  simp_all
abbrev shD:YSh:=.clo [.one li,.one (.row 1)]
abbrev fsD (f0 f1 f2 f3 a p1:Int):List CV:=[.val (.int .i64 f0),.val (.int .i64 f1),.val (.int .i64 f2),.val (.int .i64 f3),.val (.int .i64 a),.val (.int .i64 p1)]
abbrev aCA (f0 f1 f2 f3 a p1:Int) (is:Bool):AV:=.tup [.agg [cN f0,cN f1,cN f2,cN f3,cN a,cN p1],.cv (.val (.bool is))]
omit G C in
theorem aJQ (f0 f1 f2 f3 a p1:Int) (B:List Box):(B++[(⟨true,35,[cN 0,cN 0,cN 0,cN 0,cN 0,cN 0]⟩:Box)]).set B.length ⟨true,35,splice [cN 0,cN 0,cN 0,cN 0,cN 0,cN 0] 0 [cN f0,cN f1,cN f2,cN f3,cN a,cN p1]⟩=B++[b9 (fsD f0 f1 f2 f3 a p1)]:=by
 simp
theorem aEt (hF:Free F) {f0 f1 f2 f3 p1:Int} {is:Bool} (da:dS Tryz.prog 71=true) (qe:SpecR Tryz.prog 71 [cA p s f,cN i,cN k] (aCA f0 f1 f2 f3 a p1 is)) (hr:rs[i]? = some r) (hi:i<p.length) (hl:1+ns.length<=r.length) (F2:r.length<=100000)
  (h:∀ l D',(∀ b∈D',b.live=false)->Q .normal ⟨mkT 94 (l++LM),BB p s f k D++D',vm (if is=true then rs.set i (IL a p1 ns r) else rs)⟩) :
  W F n Tryz.prog (kB dbR) ⟨mkT 94 ((8,.cv (.row 1 (iv ns)))::(7,cN i)::LM),BB p s f k D,vm rs⟩ (fun ex st'=>∃ s1,Wk st' s1/\Q ex s1):=by
 have ah:=(List.getElem?_eq_some_iff.1 hr).1
 have aT:∀ (l l':List (Nat×AV)) (V:List Vec),(∀ q∈l',lk l q.1=q.2\/q.2=.any)->Wk ⟨mkT 94 l,BB p s f k D++[b9 (fsD f0 f1 f2 f3 a p1)],V⟩ ⟨mkT 94 l',BB p s f k D++[⟨false,35,[]⟩],V⟩:=by
  intro l l' V gl;refine Wk.mk' gl (by simp) fun j b hb=>?_
  grind
 refine oW (dG (aV ?_));refine wop hF (A:=cA p s f) (B':=BB p s f k D) (V':=vm rs) rfl rfl (by rfl) ?_
 refine wop hF (A:=cN i) (B':=BB p s f k D) (V':=vm rs) rfl rfl (by rfl) ?_
 refine wop hF (A:=cN k) (B':=BB p s f k D) (V':=vm rs) rfl rfl (by kernel_rfl) ?_
 refine aBx hF (r:=aCA f0 f1 f2 f3 a p1 is) rfl rfl rfl da qe (by rfl) rfl rfl ?_
 refine wop hF (A:=aCA f0 f1 f2 f3 a p1 is) (B':=BB p s f k D) (V':=vm rs) rfl rfl (by kernel_rfl) ?_
 refine wop hF (A:=.agg [cN f0,cN f1,cN f2,cN f3,cN a,cN p1]) (B':=BB p s f k D) (V':=vm rs) rfl rfl (by kernel_rfl) ?_
 refine wop hF (A:=.cv (.val (.bool is))) (B':=BB p s f k D) (V':=vm rs) rfl rfl (by kernel_rfl) ?_
 refine wop hF (A:=.ptr (BB p s f k D).length 0) (B':=BB p s f k D++[⟨true,35,[cN 0,cN 0,cN 0,cN 0,cN 0,cN 0]⟩]) (V':=vm rs) rfl rfl (by rfl) ?_
 refine aDN hF rfl rfl (ZC (T:=35) (i:=(BB p s f k D).length) (off:=0) (b:=⟨true,35,[cN 0,cN 0,cN 0,cN 0,cN 0,cN 0]⟩) (new:=[cN f0,cN f1,cN f2,cN f3,cN a,cN p1]) (by rfl) (by rfl) (by rfl) (ti:=⟨6,[.int .i64 0,.int .i64 0,.int .i64 0,.int .i64 0,.int .i64 0,.int .i64 0],.strct [(0,1),(1,1),(2,1),(3,1),(4,1),(5,1)]⟩) (by rfl) rfl (by simp) rfl (by simp) rfl) ?_
 rw [aJQ];refine wop hF (A:=.cv (.val (.bool is))) (B':=BB p s f k D++[b9 (fsD f0 f1 f2 f3 a p1)]) (V':=vm rs) rfl rfl (by rfl) ?_
 refine aN ?_;refine dG (dG (aV ?_));refine wop hF (A:=.cv (.val (.bool is))) (B':=BB p s f k D++[b9 (fsD f0 f1 f2 f3 a p1)]) (V':=vm rs) rfl rfl (by rfl) ?_
 refine wop hF (A:=.cv (.val (.bool (!is)))) (B':=BB p s f k D++[b9 (fsD f0 f1 f2 f3 a p1)]) (V':=vm rs) rfl rfl (by rfl) ?_
 refine aN ?_;refine mG (b:=!is) (by rfl) (fun hb=>EW ?_) fun hb=>mF ?_
 ·have F4:is=false:=by grind
  subst F4;exact ⟨_,aT _ (LM) _ (by simp),h [] _ (by simp)⟩
 have F4:is=true:=by grind
 subst F4;refine dG ?_;refine DR (vb:=fun _=>False) (by rfl) (by kernel_rfl) ?_
 refine uL hF (A:=.slb p.length 2 0) [3] [] rfl rfl (by decide) rfl (by rfl) (by rfl) (by rfl) (by rfl) ?_
 refine uL hF (A:=cN i) [] [] rfl rfl (by decide) rfl (by rfl) (by rfl) (by rfl) (by kernel_rfl) ?_
 refine uL hF (A:=.ptr 2 i) [] [] rfl rfl (by decide) rfl (by kernel_rfl) (by kernel_rfl) (by kernel_rfl) (NA (len:=p.length) (off:=0) (by rfl) (by rfl) t68 (by decide) (by omega) (by omega) (by simp)) ?_
 refine uL hF (A:=.own i 1) [2] [] rfl rfl (by decide) rfl (by kernel_rfl) (by kernel_rfl) (by kernel_rfl) (vZ (i:=2) (off:=i) (b:=bm p.length p.length) (by rfl) t22 rfl (by rfl) rfl (by rw [aCw _ _ _ hi,if_pos hi])) ?_
 refine uL hF (A:=.ptr (BB p s f k D).length (0+5)) [] [] rfl rfl (by decide) rfl (by kernel_rfl) (by kernel_rfl) (by kernel_rfl) (by kernel_rfl) ?_
 refine dop hF (A:=cN p1) [(BB p s f k D).length] [] rfl rfl (by decide) rfl (by simp) (by intro T x j off h1 h2;cases h1;simp_all) (by intro _ x hx j hj;simp [Op.operands] at hx;subst hx;cases hj) (vZ (i:=(BB p s f k D).length) (off:=0+5) (b:=b9 (fsD f0 f1 f2 f3 a p1)) (by rfl) t3 rfl (by simp) rfl rfl) ?_
 refine uL hF (A:=.opt i 1 0 0) [] [i] rfl rfl (by decide) rfl (by kernel_rfl) (by kernel_rfl) (by kernel_rfl) (TL (v:=⟨true,3,1,1,iv r⟩) (i:=0) (by rfl) (by rfl) t22 (by decide) (BY hr) rfl rfl rfl (by omega) (by grind [BX])) ?_
 refine .inr ⟨by kernel_rfl,?_⟩
 refine aGY hF (A:=.any) (B':=BB p s f k D++[b9 (fsD f0 f1 f2 f3 a p1)]) (V':=vm (rs.set i (r.set 0 p1))) rfl rfl (by simp) (fun a=>by exact k_b (qT _ _ _) fun _=>trivial) ?_ ?_
 ·exact QZ (by rfl) (by rfl) (by rfl) rfl hr (by omega)
 have jv:r.set 0 p1=rJ (wr' (a - p1)) p1 ns r 0:=by
  unfold rJ;cases r with
  | nil=>simp at hl
  | cons x r=>simp [fl]
 rw [jv];refine aN ?_;refine dG (aV ?_);refine wop hF (A:=.ptr (BB p s f k D).length (0+4)) (B':=BB p s f k D++[b9 (fsD f0 f1 f2 f3 a p1)]) (V':=vm (rs.set i (rJ (wr' (a - p1)) p1 ns r 0))) rfl rfl (by kernel_rfl) ?_
 refine wop hF (A:=cN a) (B':=BB p s f k D++[b9 (fsD f0 f1 f2 f3 a p1)]) (V':=vm (rs.set i (rJ (wr' (a - p1)) p1 ns r 0))) rfl rfl (vZ (i:=(BB p s f k D).length) (off:=0+4) (b:=b9 (fsD f0 f1 f2 f3 a p1)) (by rfl) t3 rfl (by simp) rfl rfl) ?_
 refine wop hF (A:=.ptr (BB p s f k D).length (0+5)) (B':=BB p s f k D++[b9 (fsD f0 f1 f2 f3 a p1)]) (V':=vm (rs.set i (rJ (wr' (a - p1)) p1 ns r 0))) rfl rfl (by kernel_rfl) ?_
 refine wop hF (A:=cN p1) (B':=BB p s f k D++[b9 (fsD f0 f1 f2 f3 a p1)]) (V':=vm (rs.set i (rJ (wr' (a - p1)) p1 ns r 0))) rfl rfl (vZ (i:=(BB p s f k D).length) (off:=0+5) (b:=b9 (fsD f0 f1 f2 f3 a p1)) (by rfl) t3 rfl (by simp) rfl rfl) ?_
 refine wop hF (A:=cN (wr' (a - p1))) (B':=BB p s f k D++[b9 (fsD f0 f1 f2 f3 a p1)]) (V':=vm (rs.set i (rJ (wr' (a - p1)) p1 ns r 0))) rfl rfl (by kernel_rfl) ?_
 refine wop hF (A:=cN (wr' (a - p1))) (B':=BB p s f k D++[b9 (fsD f0 f1 f2 f3 a p1)]) (V':=vm (rs.set i (rJ (wr' (a - p1)) p1 ns r 0))) rfl rfl (by kernel_rfl) ?_
 refine aN ?_;refine dG (aV ?_);refine wop hF (A:=.cv (.row 1 (iv ns))) (B':=BB p s f k D++[b9 (fsD f0 f1 f2 f3 a p1)]) (V':=vm (rs.set i (rJ (wr' (a - p1)) p1 ns r 0))) rfl rfl (by kernel_rfl) ?_
 refine wop hF (A:=cN (iv ns).length) (B':=BB p s f k D++[b9 (fsD f0 f1 f2 f3 a p1)]) (V':=vm (rs.set i (rJ (wr' (a - p1)) p1 ns r 0))) rfl rfl (by kernel_rfl) ?_
 rw [BX];refine wop hF (A:=cN (0:Nat)) (B':=BB p s f k D++[b9 (fsD f0 f1 f2 f3 a p1)]) (V':=vm (rs.set i (rJ (wr' (a - p1)) p1 ns r 0))) rfl rfl (by rfl) ?_
 refine aN ?_;refine PJ (Wk.slots (l':=(67,cN (0:Nat))::(66,cN ns.length)::(65,.cv (.row 1 (iv ns)))::LBd i ns (BB p s f k D).length (wr' (a - p1))) (by simp)) ?_
 refine aCz hF ah hi hl F2 fun l tw=>?_
 have dn:=h [] [⟨false,35,[]⟩] (by simp)
 rw [if_pos rfl,show IL a p1 ns r=rJ (wr' (a - p1)) p1 ns r ns.length by simp [IL,rJ]] at dn
 exact ⟨_,aT _ LM _ fun q hq=>.inl (tw q hq),dn⟩
end
end
section
open Go Go.Sx Go.RowKit
set_option maxRecDepth 100000
def eO (rs:List (List Int)):List (List CV):=rs.map fun r=>[.row 1 (iv r)]
def tR (x:Nat×List Int):List CV:=[.val (.int .i64 x.1),.row 1 (iv x.2)]
def stD (fnd:Nat->Option (Int×Int)) (x:Nat×List Int) (rs:List (List Int)):List (List Int):=match fnd x.1 with
 | none=>rs
 | some (a,p)=>rs.set x.1 (IL a p x.2 (rs.getD x.1 []))
theorem UG:∀ {a b:List Int},iv a=iv b->a=b
 | [],[],_=>rfl
 | x::a,y::b,h=>by
  simp [iv] at h;rw [h.1,UG (a:=a) (b:=b) (by simpa [iv] using h.2)]
 | [],_::_,h=>by grind [iv]
 | _::_,[],h=>by grind [iv]
theorem AB:∀ {a b:List (List Int)},eO a=eO b->a=b
 | [],[],_=>rfl
 | x::a,y::b,h=>by
  simp [eO] at h;rw [UG h.1,AB (a:=a) (b:=b) (by simpa [eO] using h.2)]
 | [],_::_,h=>by grind [eO]
 | _::_,[],h=>by grind [eO]
theorem aCB {a b:Nat×List Int} (h:tR a=tR b):a=b:=by
 grind [tR,UG]
def aAc (n m:Nat) (fnd:Nat->Option (Int×Int)) (rw:List (Nat×List Int)) (es:List (List CV)) (x:List CV) (es':List (List CV)):Prop:=
 ∃ rs y,es=eO rs/\x=tR y/\y∈rw/\rs.length=n/\(∀ r∈rs,r.length=m)/\es'=eO (stD fnd y rs)
variable {n m:Nat} {fnd:Nat->Option (Int×Int)} {rw:List (Nat×List Int)} {es:List (List CV)} {x:List CV}
theorem aCC {a b:List (List CV)} (h:aAc n m fnd rw es x a) (h':aAc n m fnd rw es x b):a=b:=by
 obtain ⟨rs,y,h1,h2,_,_,_,h3⟩:=h;obtain ⟨rs',y',g1,g2,_,_,_,g3⟩:=h';grind [AB,aCB]
open Classical in
noncomputable def yfD (n m:Nat) (fnd:Nat->Option (Int×Int)) (rw:List (Nat×List Int)):YF:=fun es x=>if h:∃ es',aAc n m fnd rw es x es' then some (true,Classical.choose h) else none
variable {es':List (List CV)}
theorem aCD (h:aAc n m fnd rw es x es'):yfD n m fnd rw es x=some (true,es'):=by
 unfold yfD;rw [dif_pos ⟨es',h⟩,aCC (Classical.choose_spec (⟨es',h⟩:∃ es',aAc n m fnd rw es x es')) h]
theorem aEu {b:Bool} (h:yfD n m fnd rw es x=some (b,es')):b=true/\aAc n m fnd rw es x es':=by
 unfold yfD at h;split at h
 ·grind
 grind
theorem aCE {a p:Int} {ns r:List Int} (h:1+ns.length<=r.length):(IL a p ns r).length=r.length:=by
 grind [IL,NR]
theorem WT {x:Nat×List Int} {rs:List (List Int)} (h1:rs.length=n) (h2:∀ r∈rs,r.length=m) (hx:x.1<n) (hl:1+x.2.length<=m):(stD fnd x rs).length=n/\∀ r∈stD fnd x rs,r.length=m:=by
 unfold stD;grind [aCE]
def dbs (fnd:Nat->Option (Int×Int)) (rw:List (Nat×List Int)) (rs:List (List Int)):List (List Int):=rw.foldl (fun rs x=>stD fnd x rs) rs
theorem WU {n m:Nat} {fnd:Nat->Option (Int×Int)} {rw:List (Nat×List Int)}:∀ (l:List (Nat×List Int)) (rs:List (List Int)),(∀ x∈l,x∈rw/\x.1<n/\1+x.2.length<=m)->rs.length=n->(∀ r∈rs,r.length=m) ->
  fC (l.map tR) (yfD n m fnd rw) (eO rs)=some (eO (dbs fnd l rs))
 | [],rs,_,_,_=>rfl
 | x::l,rs,hl,h1,h2=>by
  obtain ⟨q1,q2,q3⟩:=hl x (by simp)
  obtain ⟨g1,g2⟩:=WT (fnd:=fnd) h1 h2 q2 q3;have:=aCD (n:=n) (m:=m) (fnd:=fnd) (rw:=rw) (es:=eO rs) (x:=tR x) ⟨rs,x,rfl,rfl,q1,h1,h2,rfl⟩;simp [fC,this];exact WU l _ (fun y hy=>hl y (by grind)) g1 g2
section
variable [G:Ghost] [C:Co Tryz.prog] {p s f:List (List CV)} {k:Int}
def KD (p s f:List (List CV)) (k:Int) (rs:List (List Int)):AV->List Box->List Vec->Prop:=fun r B V=>r=.slb p.length 2 0/\∃ D,B=BB p s f k D/\V=vm rs/\rs.length=p.length
theorem RA {al:List (List CV)} {caps:List CV} {fnd:Nat->Option (Int×Int)} {rw:List (Nat×List Int)} (hp:p.length<=1000) (hs:s.length<=1000) (e77:dS Tryz.prog 77=true) (e111:dS Tryz.prog 111=true) (e172:dS Tryz.prog 172=true) (e71:dS Tryz.prog 71=true)
  (F5:0<=k->SpecR Tryz.prog 77 [cA p s f,cN k] (.cv (.row 1 al))) (w8:0<=k->SpecR Tryz.prog 111 [cA p s f,.cv (.row 1 al)] (.cv (.fn 172 caps))) (vv:0<=k->rB Tryz.prog 172 caps shD (fC (rw.map tR)))
  (B6:0<=k->∀ x∈rw,x.1<p.length/\x.2.length<=s.length)
  (qe:0<=k->∀ x∈rw,∃ f0 f1 f2 f3 a p1 is,SpecR Tryz.prog 71 [cA p s f,cN x.1,cN k] (aCA f0 f1 f2 f3 a p1 is)/\fnd x.1=if is=true then some (a,p1) else none) :
  CallPc Tryz.prog 69 [cA p s f,cN k] (KD p s f k (if k<0 then List.replicate p.length (zr (1+s.length)) else dbs fnd rw (List.replicate p.length (zr (1+s.length))))):=by
 refine oZ (fn:=Tryz.f69) (c:=aB Tryz.f69) (by rfl) (by rfl) fun F n hF am=>?_
 refine aEr hF p s f k hp hs ⟨_,_,_,rfl⟩ ?_;generalize hz:List.replicate p.length (zr (1+s.length))=Z;have Ie:Z.length=p.length:=by grind
 have Me:∀ r∈Z,r.length=1+s.length:=by grind
 refine nX (W.w2 (dG (aV ?_)));refine wop hF (A:=cN k) (B':=BB p s f k []) (V':=vm Z) rfl rfl (by rfl) ?_
 refine wop hF (A:=.cv (.val (.bool (decide (k<0))))) (B':=BB p s f k []) (V':=vm Z) rfl rfl (by rfl) ?_
 refine aN ?_;refine mG (b:=decide (k<0)) (by rfl) (fun hb=>?_) fun hb=>mF ?_
 ·have hk:k<0:=by grind
  refine dG (aV ?_);refine wop hF (A:=.slb p.length 2 0) (B':=BB p s f k []) (V':=vm Z) rfl rfl (by rfl) ?_
  refine wop hF (A:=.slb p.length 2 0) (B':=BB p s f k []) (V':=vm Z) rfl rfl (by rfl) ?_
  refine aN (yW ?_);refine ⟨.inr rfl,.slb p.length 2 0,by rfl,rfl,[],rfl,by grind,by grind⟩
 have hk:0<=k:=by grind
 refine nX (nX (W.w2 ?_));refine DR (vb:=fun _=>False) (by rfl) (by kernel_rfl) ?_
 refine uL hF (A:=cA p s f) [0] [] rfl rfl (by decide) rfl (by rfl) (by rfl) (by rfl) (by rfl) ?_
 refine uL hF (A:=cA p s f) [0] [] rfl rfl (by decide) rfl (by rfl) (by rfl) (by rfl) (by rfl) ?_
 refine uL hF (A:=cN k) [1] [] rfl rfl (by decide) rfl (by rfl) (by rfl) (by rfl) (by rfl) ?_
 refine dcall hF rfl rfl rfl e77 (F5 hk) (by rfl) rfl rfl ?_
 refine dcall hF rfl rfl rfl e111 (w8 hk) (by rfl) rfl rfl ?_
 refine ⟨by kernel_rfl,?_⟩
 refine MV (s1:=⟨mkT 94 ((41,.cv (.fn 172 caps))::LM),BB p s f k [],vm Z⟩) (Wk.slots (by simp)) ?_
 have ej:=WU (n:=p.length) (m:=1+s.length) (fnd:=fnd) (rw:=rw) rw Z (fun x hx=>⟨hx,(B6 hk x hx).1,by grind⟩) Ie Me
 refine uJ (JZ hF am (sh:=shD) (R:=fC (rw.map tR)) (yf:=yfD p.length (1+s.length) fnd rw) (es0:=eO Z) (es1:=eO (dbs fnd rw Z)) (f:=172) (caps:=caps)
  (fun es st'=>∃ rs D,es=eO rs/\rs.length=p.length/\(∀ b∈D,b.live=false)/\st'=⟨mkT 94 ((41,.cv (.fn 172 caps))::LM),BB p s f k D,vm rs⟩) (fun _=>none) rfl (by rfl) e172 (vv hk) ej ⟨Z,[],rfl,Ie,by simp,rfl⟩ rfl ?_ ?_)
 ·rintro F n hF es x b es' st' hy ⟨rs,D,rfl,hl,hD,rfl⟩
  obtain ⟨rfl,rs',y,h1,rfl,If,h2,h3,rfl⟩:=aEu hy;obtain rfl:=AB h1;refine ⟨rfl,?_⟩;obtain ⟨i,ns⟩:=y;obtain ⟨hi,Of⟩:=B6 hk _ If;obtain ⟨f0,f1,f2,f3,a,p1,is,jq,la⟩:=qe hk _ If;have ah:i<rs.length:=by omega
  obtain ⟨r,hr⟩:∃ r,rs[i]? = some r:=⟨rs[i],by simp⟩
  have jk:r.length=1+s.length:=h3 r (List.mem_of_getElem? hr);show W F n Tryz.prog _ ⟨iL (mkT 94 ((41,.cv (.fn 172 caps))::LM)) [42,43] [cN i,.cv (.row 1 (iv ns))],BB p s f k D,vm rs⟩ _;simp only [iL,aDh];refine dG (aV ?_);refine wop hF (A:=cN i) (B':=BB p s f k D) (V':=vm rs) rfl rfl (by rfl) ?_
  refine aN (aV ?_);refine wop hF (A:=.cv (.row 1 (iv ns))) (B':=BB p s f k D) (V':=vm rs) rfl rfl (by rfl) ?_
  refine aN ⟨rfl,?_⟩;refine PJ (Wk.slots (l':=(8,.cv (.row 1 (iv ns)))::(7,cN i)::LM) (by simp)) ?_
  refine W.qq (aEt hF (Q:=fun ex st'=>ex=.normal/\∃ l D',(∀ b∈D',b.live=false)/\st'=⟨mkT 94 (l++LM),BB p s f k D++D',vm (if is=true then rs.set i (IL a p1 ns r) else rs)⟩) e71 jq hr hi (by grind) (by omega) fun l D' vk=>⟨rfl,l,D',vk,rfl⟩) ?_
  rintro ex st2 ⟨s1,hw,rfl,l,D',vk,rfl⟩
  have ax:stD fnd (i,ns) rs=if is=true then rs.set i (IL a p1 ns r) else rs:=by
   unfold stD;grind
  refine ⟨⟨mkT 94 ((41,.cv (.fn 172 caps))::LM),BB p s f k (D++D'),vm (stD fnd (i,ns) rs)⟩,?_,?_,?_,⟨_,D++D',rfl,?_,?_,rfl⟩,.inl ⟨rfl,rfl,rfl⟩,trivial⟩
  ·have tj:Wk ⟨mkT 94 ((41,.cv (.fn 172 caps))::LM),st2.B,st2.V⟩ ⟨mkT 94 ((41,.cv (.fn 172 caps))::LM),BB p s f k D++D',vm (if is=true then rs.set i (IL a p1 ns r) else rs)⟩:=
    ⟨AV.les_refl _,hw.Bl,hw.B,hw.V,fun _ _ h=>h,hw.scB⟩
   rw [ax,show BB p s f k (D++D')=BB p s f k D++D' by rfl]
   exact tj.d
  ·simp
  ·simp [vm]
   grind
  ·grind
  grind
 ·rintro st' ⟨rs,D,he,hl,hD,rfl⟩
  refine ⟨?_,(by simp),(by simp),Or.inl rfl⟩
  intro _;obtain rfl:=AB he;refine nX (W.w2 (aV ?_));refine wop hF (A:=.slb p.length 2 0) (B':=BB p s f k D) (V':=vm (dbs fnd rw Z)) rfl rfl (by rfl) ?_
  refine wop hF (A:=.slb p.length 2 0) (B':=BB p s f k D) (V':=vm (dbs fnd rw Z)) rfl rfl (by rfl) ?_
  refine aN (W.w2 (yW ?_));refine ⟨.inr rfl,.slb p.length 2 0,by rfl,rfl,D,rfl,by grind,by grind⟩
end
theorem aEv (rs:List (List Int)):dR (vm rs) (bm rs.length rs.length).cs=some (rs.map fun r=>.row 1 (iv r)):=by
 have key:∀ (l:List Nat) (ts:List (List Int)),l.length=ts.length->(∀ (j i:Nat),l[j]? = some i->rs[i]? = ts[j]?)->dR (vm rs) (l.map fun i=>AV.own i 1)=some (ts.map fun r=>.row 1 (iv r)):=by
  intro l
  induction l with
  | nil=>intro ts h _;cases ts with
   | nil=>rfl
   | cons _ _=>grind
  | cons i l ih =>
   intro ts h hj;cases ts with
   | nil=>grind
   | cons t ts =>
    have h0:rs[i]? = some t:=by simpa using hj 0 i rfl
    have h1:=ih ts (by grind) fun j i' dd=>by simpa using hj (j+1) i' (by grind)
    simp [dR,fB,BY h0,h1];rfl
 have bc:(bm rs.length rs.length).cs=(List.range rs.length).map fun i=>AV.own i 1:=by
  refine List.map_congr_left fun j hj=>?_
  grind
 grind
section
variable [G:Ghost] [C:Co Tryz.prog] {p s f:List (List CV)} {k:Int}
theorem UH {al:List (List CV)} {caps:List CV} {fnd:Nat->Option (Int×Int)} {rw:List (Nat×List Int)} (hp:p.length<=1000) (hs:s.length<=1000) (e77:dS Tryz.prog 77=true) (e111:dS Tryz.prog 111=true) (e172:dS Tryz.prog 172=true) (e71:dS Tryz.prog 71=true)
  (F5:0<=k->SpecR Tryz.prog 77 [cA p s f,cN k] (.cv (.row 1 al))) (w8:0<=k->SpecR Tryz.prog 111 [cA p s f,.cv (.row 1 al)] (.cv (.fn 172 caps))) (vv:0<=k->rB Tryz.prog 172 caps shD (fC (rw.map tR)))
  (B6:0<=k->∀ x∈rw,x.1<p.length/\x.2.length<=s.length)
  (qe:0<=k->∀ x∈rw,∃ f0 f1 f2 f3 a p1 is,SpecR Tryz.prog 71 [cA p s f,cN x.1,cN k] (aCA f0 f1 f2 f3 a p1 is)/\fnd x.1=if is=true then some (a,p1) else none) :
  SpecR Tryz.prog 69 [cA p s f,cN k] (.cv (.row 1 (eO (if k<0 then List.replicate p.length (zr (1+s.length)) else dbs fnd rw (List.replicate p.length (zr (1+s.length))))))):=by
 refine CallP.freezeL (RA hp hs e77 e111 e172 e71 F5 w8 vv B6 qe) (by simp) rfl ?_
 rintro n0 w0 e w r B V S v ⟨rfl,D,rfl,rfl,hl⟩ hm hS nq jj hv;generalize (if k<0 then List.replicate p.length (zr (1+s.length)) else dbs fnd rw (List.replicate p.length (zr (1+s.length))))=rs at *
 rw [AV.slb_holds] at hv;have ak:(eO rs).length=p.length:=by simp [eO,hl]
 have Aq:AV.holds { e with S:=S } w [] (AV.lend (BB p s f k D) (vm rs) (.ptr 2 0)) (.pointer (some ⟨e.ρ 2,0,none⟩)):=AV.lend_holds' hm hS nq jj (.ptr 2 0) _ rfl
 have hB:(BB p s f k D)[2]? = some (bm rs.length rs.length):=by grind
 have Ar:AV.lend (BB p s f k D) (vm rs) (.ptr 2 0)=.cv (.ref (rs.map fun r=>.row 1 (iv r))):=by
  simp only [AV.lend,hB,aEv];rfl
 rw [Ar] at Aq;obtain ⟨b,o,h1,h2,h3⟩:=Aq;cases h1;refine ⟨some ⟨e.ρ 2,0,none⟩,p.length,by grind,by omega,Nat.le_trans hp (by decide),.inr ⟨e.ρ 2,0,rfl,h2,?_⟩⟩
 have:=aE5 h3;grind [eO,Function.comp_def]
end
end
section
open Go Go.Sx Go.Plaint Go.RowKit
set_option maxRecDepth 100000
theorem aGl {a b:Su} (h:a.cv=b.cv):a=b:=by
 obtain ⟨b0,b1,b2⟩:=b;simp [Su.cv,ci] at h;obtain ⟨h0,h1,h2⟩:=h;subst h0 h1 h2;rfl
theorem aGm {a b:Fi} (h:a.cv=b.cv):a=b:=by
 obtain ⟨b0,b1,b2,b3,b4,b5⟩:=b;simp [Fi.cv,ci] at h;obtain ⟨h0,h1,h2,h3,h4,h5⟩:=h;subst h0 h1 h2 h3 h4 h5;rfl
theorem UI {a b:Court} (h:a.rs=b.rs):a=b:=by
 obtain ⟨b0,b1,b2⟩:=b;simp [Court.rs] at h;obtain ⟨h0,h1,h2⟩:=h;have e0:=aCm h0;have e1:=(List.map_inj_right fun _ _ h=>aGl h).1 h1
 have e2:=(List.map_inj_right fun _ _ h=>aGm h).1 h2
 subst e0 e1 e2;rfl
noncomputable section
def jV (c:Court) (L:List Int):List (Nat×List Int):=(List.range L.length).map fun i=>((L.getD i 0).toNat,(vH c L i (lmT c L i)).2.2)
def aAd (c:Court) (d:Int) (k:Nat):Option (Int×Int):=(kR c k d).map fun f=>(f.i4,f.i5)
def aO (c:Court) (d:Int):List (List Int):=if d<0 then List.replicate c.ps.length (zr (1+c.ss.length)) else dbs (aAd c d) (jV c (aR c d)) (List.replicate c.ps.length (zr (1+c.ss.length)))
def S69 (caps out:List CV):Prop:=∃ (c:Court) (d:Int),OkC c/\caps=c.rs++[ci d]/\out=[.row 1 (eO (aO c d))]
variable {c:Court}
theorem aIv (hc:OkC c) (d:Int):cIt S69 (c.rs++[ci d])=some [.row 1 (eO (aO c d))]:=by
 refine mM ⟨c,d,hc,rfl,rfl⟩ ?_;rintro o ⟨c',d',_,h2,rfl⟩;have h3:c.rs=c'.rs:=List.append_inj_left h2 rfl;have h4:=List.append_inj_right h2 rfl;grind [ci,UI]
theorem KU (c:Court) (k:Nat) (R:List Int) (x:Int×List Int×List Int):∀ j,(rO c k R x j).2.2.length=x.2.2.length
 | 0=>rfl
 | j+1=>by
  have ih:=KU c k R x j;grind [rO,stJ]
theorem RB (c:Court) (L:List Int) (i:Nat) (lm:List Int):(vH c L i lm).2.2.length=c.ss.length:=by
 unfold vH;simp [KU]
theorem RC {L:List Int} (hL:OnP c L):((List.range (enc1 L).length).map fun (i:Nat)=>[ci (gi (el (enc1 L) (i:Int)) 0),CV.row 1 (enc1 (vH c L i (lmT c L i)).2.2)])=(jV c L).map tR:=by
 unfold jV;rw [List.map_map,List.length_map];refine List.map_congr_left fun i hi=>?_
 have hi:i<L.length:=by grind
 obtain ⟨k0,_⟩:=hL _ (List.getElem_mem hi);have e1:=kP hi;have g:L.getD i 0=L[i]:=by grind
 rw [e1,g];have e2:(((L.getD i 0).toNat:Nat):Int)=L[i]:=by omega
 simp only [Function.comp_apply,tR];rw [e2];rfl
def aGn (caps out:List CV):Prop:=∃ (c:Court) (L:List Int),OkC c/\OnP c L/\L.length<=6/\caps=[.ref c.rs,.ref [.row 1 (enc1 L)]]/\out=[.row 0 ((jV c L).map tR),shC shR]
theorem aFh (hc:OkC c) {L:List Int} (hL:OnP c L) (hl:L.length<=6):cIt aGn [.ref c.rs,.ref [.row 1 (enc1 L)]]=some [.row 0 ((jV c L).map tR),shC shR]:=by
 refine mM ⟨c,L,hc,hL,hl,rfl,rfl⟩ ?_;rintro o ⟨c',L',_,_,_,h2,rfl⟩;grind [UI,iY]
section
variable [C:Co Tryz.prog]
theorem RD [Ghost] {f:Nat} {xs ys:List AV} {r s:AV} (h:SpecR Tryz.prog f xs r) (e1:xs=ys) (e2:r=s):SpecR Tryz.prog f ys s:=by
 grind
theorem wG [Ghost] {M:Den} (la:Fns Tryz.prog sg M) {f:Nat} {g:Sig} {vs out:List CV} {xs:List AV} {r:AV} (hs:sg f=some g) (h:M f vs=some out) (e1:Sc.avs g.ps vs 0=xs) (e2:Sc.res g.rs out=r):SpecR Tryz.prog f xs r:=by
 rw [<- e1,<- e2];exact la.spec f g vs out hs h
theorem aJR [Ghost]:DJ 69 (cIt S69):=by
 intro caps out ho;obtain ⟨c,d,hc,rfl,rfl⟩:=eN ho;refine ⟨fun g hg=>?_,fun rows' sh' hr=>?_,fun k' e T' hr=>?_,fun T k cs1 e e' hd h1 h2=>?_,fun k T b h1=>?_,fun T fs h1 h2=>?_⟩
 ·cases hg
  have la:Fns Tryz.prog sg (D QS 20):=jA DZ ⟨kO,rfl,rfl⟩ tC 20;obtain ⟨a1,a2⟩:=hU (c:=c) d;have p6:=hc.p6;have s8:=hc.s8;have lp:c.p.length=c.ps.length:=by simp [Court.p]
  have ls:c.s.length=c.ss.length:=by simp [Court.s]
  have key:=UH (al:=enc1 (aR c d)) (caps:=[cts c.p c.s c.f,.ref [.row 1 (enc1 (aR c d))]]) (fnd:=aAd c d) (rw:=jV c (aR c d)) (p:=c.p) (s:=c.s) (f:=c.f) (k:=d) (by omega) (by omega) (by rfl) (by rfl) (by rfl) (by rfl)
   (fun _=>wG la (g:=aG7.g) (by rfl) (BW 10 UB hc d) (by rfl) (by rfl))
   (fun _=>wG la (g:=aE6.g) (by rfl) (aCl QS 19 c (aR c d)) (by rfl) (by rfl))
   (fun _=>by
    rw [<- RC a1];exact aCg (its:=QS) (n:=10) DZ ⟨rfl,rfl⟩ hc.bd hc.w a1 (by omega) s8 fun R hR=>UB.i158 16 R hR)
   (fun _ x hx=>by
    simp [jV] at hx;obtain ⟨i,hi,rfl⟩:=hx;obtain ⟨k0,k1⟩:=a1 _ (List.getElem_mem hi);grind [RB])
   (fun _ x hx=>by
    simp only [jV,List.mem_map,List.mem_range] at hx;obtain ⟨i,hi,rfl⟩:=hx;obtain ⟨k0,k1⟩:=a1 _ (List.getElem_mem hi);have g:(aR c d).getD i 0=(aR c d)[i]:=by grind
    rw [g];have qe:=wE (its:=QS) 19 hc k1 d;unfold aAd;cases hF:kR c (aR c d)[i].toNat d with
    | none =>
     rw [hF] at qe;exact ⟨0,0,0,0,0,0,false,wG la (g:=aFT.g) (by rfl) qe (by rfl) (by rfl),rfl⟩
    | some f =>
     rw [hF] at qe;exact ⟨f.i0,f.i1,f.i2,f.i3,f.i4,f.i5,true,wG la (g:=aFT.g) (by rfl) qe (by rfl) (by rfl),rfl⟩)
  rw [lp,ls] at key;exact RD key (by rfl) (by rfl)
 ·grind
 ·grind
 ·grind
 ·simp
 grind
theorem aIw [Ghost]:DJ 172 (cIt aGn):=by
 intro caps out ho;obtain ⟨c,L,hc,hL,hl,rfl,rfl⟩:=eN ho;have hs:jG tb 172=none:=by rfl
 refine ⟨fun g hg=>(by grind),fun rows' sh' hr=>?_,fun k e T hr=>by grind [shC],fun T k cs1 e e' hd h1 h2=>by grind,fun k T b h1=>by simp,fun T fs h1 h2=>by grind⟩
 simp at hr;obtain ⟨rfl,hr⟩:=hr;rw [DV hr.symm];refine ⟨by rfl,?_⟩
 rw [<- RC hL];exact aCg (its:=QS) (n:=10) DZ ⟨rfl,rfl⟩ hc.bd hc.w hL hl hc.s8 fun R hR=>UB.i158 16 R hR
def tS:ITS:=(69,cIt S69)::(172,cIt aGn)::QS
theorem EB (G:Ghost):@sV G Tryz.prog _ (jG tb) tS:=fun e he=>by
 rcases List.mem_cons.1 he with rfl | he
 ·exact @aJR _ G
 rcases List.mem_cons.1 he with rfl | he
 ·exact @aIw _ G
 ·exact DZ G e he
end
structure ItsD (its:ITS):Prop extends ItsC its where
 i69:∀ (n:Nat) (c:Court) (d:Int),OkC c->D its (n+1) 69 (c.rs++[ci d])=some [.row 1 (eO (aO c d))]
 i172:∀ (n:Nat) (c:Court) (L:List Int),OkC c->OnP c L->L.length<=6->D its (n+1) 172 [.ref c.rs,.ref [.row 1 (enc1 L)]]=some [.row 0 ((jV c L).map tR),shC shR]
theorem aCF:ItsD tS where
 i158:=fun n L h=>Eq.trans (by rfl) (aCh h)
 i169:=fun n L h=>Eq.trans (by rfl) (aCi h)
 i97:=fun n l h=>Eq.trans (by rfl) (NN (k:=1) (T:=3) h)
 i180:=fun n l h=>Eq.trans (by rfl) (NN (k:=3) (T:=67) h)
 i181:=fun n l h=>Eq.trans (by rfl) (NN (k:=6) (T:=35) h)
 i95:=fun n L h=>Eq.trans (by rfl) (aF8 h)
 i117:=fun n L h hd=>Eq.trans (by rfl) (aCj h hd)
 i214:=fun n c L h hl=>Eq.trans (by rfl) (aCn h hl)
 i69:=fun n c d hc=>Eq.trans (by rfl) (aIv hc d)
 i172:=fun n c L hc h hl=>Eq.trans (by rfl) (aFh hc h hl)
end
end
section
open Go Go.Sx Go.Plaint
set_option maxRecDepth 10000
theorem WV {fnd:Nat->Option (Int×Int)} {n m:Nat}:∀ (rw:List (Nat×List Int)) (rs:List (List Int)),rs.length=n->(∀ r∈rs,r.length=m)->(∀ x∈rw,x.1<n/\1+x.2.length<=m)->(dbs fnd rw rs).length=n/\∀ r∈dbs fnd rw rs,r.length=m
 | [],rs,h1,h2,_=>⟨h1,h2⟩
 | x::rw,rs,h1,h2,h3=>by
  obtain ⟨g1,g2⟩:=WT (fnd:=fnd) (x:=x) h1 h2 (h3 x (by simp)).1 (h3 x (by simp)).2
  exact WV rw (stD fnd x rs) g1 g2 fun y hy=>h3 y (by grind)
variable {c:Court} {L:List Int}
theorem KV (hL:OnP c L):∀ x∈jV c L,x.1<c.ps.length/\x.2.length=c.ss.length:=fun x hx=>by
 simp only [jV,List.mem_map,List.mem_range] at hx;obtain ⟨i,hi,rfl⟩:=hx;have g:L.getD i 0=L[i]:=by grind
 refine ⟨?_,RB _ _ _ _⟩;rw [g];exact (hL _ (List.getElem_mem hi)).2
theorem lN (c:Court) (d:Int):(aO c d).length=c.ps.length/\∀ r∈aO c d,r.length=1+c.ss.length:=by
 unfold aO;split
 ·simp
 ·refine WV _ _ (by simp) (fun r hr=>?_) fun x hx=>?_
  ·grind
  ·have:=KV (hU (c:=c) d).1 x hx
   omega
def aFi (c:Court) (i:Nat) (s d:Int):Int:=match c.ss.findIdx? (fun x=>decide (x.id=s)) with
 | some k=>((aO c d).getD i []).getD (1+k) 0
 | none=>((aO c d).getD i []).getD 0 0
theorem CR {A:Type} {step:List CV->List CV->Option Ou} {f:A->List CV} {g:A->List CV} {k:Nat}:∀ (l:List A) (es:List (List CV)),es.length+l.length<=1000->(∀ a∈l,∀ es:List (List CV),es.length<=1000->step (f a) [.row k es]=some (.nx [.row k (es++[g a])]))->kE step (l.map f) [.row k es]=some (.nx [.row k (es++l.map g)])
 | [],es,_,_=>by simp [kE]
 | a::l,es,h,hs=>by
  simp only [List.length_cons] at h;have h1:=hs a (by simp) es (by omega)
  simp only [List.map_cons,kE,h1];rw [CR l (es++[g a]) (by simp;omega) fun b hb=>hs b (by simp [hb])]
  simp
theorem aJS {M:Den} (h:M 172 [.ref c.rs,.ref [.row 1 (enc1 L)]]=some [.row 0 ((jV c L).map tR),shC shR]):rZ sg M (.fn 172 [.ref c.rs,.ref [.row 1 (enc1 L)]]) (.clo [.one li,.one (.row 1)])=some ((jV c L).map tR):=by
 have hs:sg 172=none:=by rfl
 unfold rZ;grind
section
variable {its:ITS} (n:Nat) (hi:ItsD its)
include hi
theorem aCG {c:Court} (hf:c.Fit) (d:Int):D its (n+14) 37 (c.rs++[ci d])=some [.row 1 (if bX c d=0 then eO ((jV c (aR c d)).map (·.2)) else []),ci (bX c d)]:=by
 refine (DD its (n+13) _ _ _ _).trans ?_;have h1:D its (n+13) bQ [.row 8 c.p,.row 3 c.s,.row 6 c.f,ci d]=_:=wF n hf d;unfold sZ;rw [h1]
 by_cases h:bX c d=0
 case neg =>
  have g:gi (mO.rs++[ci (bX c d)]) 3=bX c d:=rfl;simp_all
 have hc:=nF h;obtain ⟨a1,a2⟩:=hU (c:=c) d;have p6:=hc.p6;have h2:D its (n+13) cD [CV.row 8 (gr (c.rs++[ci 0]) 0),CV.row 3 (gr (c.rs++[ci 0]) 1),CV.row 6 (gr (c.rs++[ci 0]) 2),ci d]=_:=BW (n+3) hi.toItsC hc d;have h3:D its (n+13) eB [CV.row 8 (gr (c.rs++[ci 0]) 0),CV.row 3 (gr (c.rs++[ci 0]) 1),CV.row 6 (gr (c.rs++[ci 0]) 2),CV.row 1 (enc1 (aR c d))]=_:=aCl its (n+12) c (aR c d);simp only [h,if_true,aD,h2,cY,h3];have g3:gi (c.rs++[ci 0]) 3=0:=rfl;have rz:List.getD [CV.fn 172 [.ref c.rs,.ref [.row 1 (enc1 (aR c d))]]] 0 dC=CV.fn 172 [.ref c.rs,.ref [.row 1 (enc1 (aR c d))]]:=rfl
 rw [g3,rz,aJS (hi.i172 (n+12) c _ hc a1 (by omega))]
 have hr:=CR (f:=tR) (g:=fun x=>[CV.row 1 (iv x.2)]) (k:=1) (jV c (aR c d)) [] (by grind [jV]) (step:=fun x3 v3 =>
      chk (bL (List.length (gr v3 0)) 1 24) <|
      some (.nx ([CV.row 1 ((gr v3 0)++(aI 1 1 [CV.row 1 (gr x3 1)]))]))) (fun x _ es he=>by
  have bh:bL es.length 1 24=true:=cU (by omega) (by omega)
  simp_all [tR])
 refine Eq.trans (congrArg (fun z=>aJ (bD (brO z) fun v3=>some (.ret [CV.row 1 (gr v3 0),ci 0]))) hr) ?_
 simp only [brO,eX,cY,dP,List.nil_append,eO,List.map_map];rfl
theorem aGo {c:Court} (hf:c.Fit) (x s d:Int):D its (n+15) 23 (c.rs++[ci x,ci s,ci d])=some (if vK c x d=0 then (if (decide (s≠0)&&!(c.ps.getD (eF c.pids x) ⟨0,0,[],0,0,0,0,[]⟩).ss.contains s)=true then [ci 0,ci 1] else [ci (aFi c (eF c.pids x) s d),ci 0]) else [ci 0,ci (vK c x d)]):=by
 refine (IB its (n+14) _ _ _ _ _ _).trans ?_;have h1:D its (n+14) fR [.row 8 c.p,.row 3 c.s,.row 6 c.f,ci x,ci d]=_:=QY n hf x d;unfold wZ;rw [h1]
 by_cases h:vK c x d=0
 case neg =>
  have g:gi (mO.rs++[ci 0,ci (vK c x d)]) 4=vK c x d:=rfl;simp_all
 obtain ⟨h0,an,_⟩:=WR h;have hc:=nF h0;generalize eF c.pids x=m at an ⊢
 have hg:∀ i,gr (c.rs++[ci (m:Int),ci 0]) i=gr c.rs i:=fun i=>by
  match i with
  | 0=>rfl
  | 1=>rfl
  | 2=>rfl
  | 3=>rfl
  | 4=>rfl
  | _+5=>rfl
 have g0:gr c.rs 0=c.p:=rfl;have g1:gr c.rs 1=c.s:=rfl;have g2:gr c.rs 2=c.f:=rfl;have g3:gi (c.rs++[ci (m:Int),ci 0]) 3=(m:Int):=rfl;have g4:gi (c.rs++[ci (m:Int),ci 0]) 4=0:=rfl;have ip:inb (m:Int) c.p=true:=aE an;have ep:el c.p (m:Int)=c.ps[m].cv:=aK an;have gss:gr (List.drop 7 c.ps[m].cv) 0=enc1 c.ps[m].ss:=rfl;have oss:oks [.row 1] (List.drop 7 c.ps[m].cv) 0=true:=rfl;have gD:c.ps.getD m ⟨0,0,[],0,0,0,0,[]⟩=c.ps[m]:=by grind
 have B5:D its (n+14) aL [.row 1 (enc1 c.ps[m].ss),ci s]=_:=oI its (n+12) (by have:=hc.bd.sm.ss _ (List.getElem_mem an);omega) s
 have B7:D its (n+14) 69 [.row 8 c.p,.row 3 c.s,.row 6 c.f,ci d]=_:=hi.i69 (n+13) c d hc;simp only [h,if_true,aD,g3,g4,hg,g0,g1,g2,ip,ep,gss,oss,bR,B5,nD,gD,show ((0:Int) != 0)=false from rfl,dU]
 have Mf:∀ K:List CV->Option Ou,bD (aC (s != 0) (some (.nx [cb (!c.ps[m].ss.contains s)])) (some (.nx [cb false]))) K=K [cb (decide (s≠0)&&!c.ps[m].ss.contains s)]:=fun K=>by
  simp
 rw [Mf]
 by_cases hb:(decide (s≠0)&&!c.ps[m].ss.contains s)=true
 ·simp_all
 rw [if_neg hb,eq_false_of_ne_true hb];obtain ⟨l1,l2⟩:=lN c d;have hm:m<(aO c d).length:=by omega
 have i69:inb (m:Int) (eO (aO c d))=true:=aE hm;have e69:el (eO (aO c d)) (m:Int)=[.row 1 (iv (aO c d)[m])]:=aK hm;have jk:(aO c d)[m].length=1+c.ss.length:=l2 _ (List.getElem_mem hm);have gM:(aO c d).getD m []=(aO c d)[m]:=by grind
 have s8:=hc.s8;have orow:∀ es,oks [.row 1] [CV.row 1 es] 0=true:=fun _=>rfl
 have ah:il c.s=(c.ss.length:Int):=aP _ _;simp only [nD,dU];erw [B7];simp only [aD,cY,i69,e69,bR,orow];rw [GN (vs:=[ci 0]) (fun q:Su=>decide (q.id=s)) c.ss (fun i=>some (.ret [ci ((aO c d)[m].getD (1+i) 0),ci 0])) (some (.br 0 [])) (fun i=>[ci (i:Int)]) rfl (by simp) (by simp) (fun i hx hp=>?s1) (fun i hx hp=>?s2) ?s3]
 case s1 =>
  have i1:inb (i:Int) c.s=true:=aE hx;have e1:el c.s (i:Int)=c.ss[i].cv:=aK hx;have hw:=bA (show i<9223372036854775807 by omega)
  have o1:oks [li,li,li] c.ss[i].cv 0=true:=rfl;have c0:gi c.ss[i].cv 0=c.ss[i].id:=rfl;simp_all
 case s2 =>
  have i1:inb (i:Int) c.s=true:=aE hx;have e1:el c.s (i:Int)=c.ss[i].cv:=aK hx;have hw:wr (1+(i:Int))=((1+i:Nat):Int):=by grind [dQ]
  have o1:oks [li,li,li] c.ss[i].cv 0=true:=rfl;have c0:gi c.ss[i].cv 0=c.ss[i].id:=rfl;have i2:inb ((1+i:Nat):Int) (iv (aO c d)[m])=true:=aE (by omega)
  have e2:el (iv (aO c d)[m]) ((1+i:Nat):Int)=[ci ((aO c d)[m].getD (1+i) 0)]:=kP (by omega)
  simp_all
 case s3=>simp_all
 unfold aFi;rw [gM];have i0:inb 0 (iv (aO c d)[m])=true:=QN (by omega)
 have e0:List.getD (iv (aO c d)[m]) 0 []=[ci ((aO c d)[m].getD 0 0)]:=by
  grind [iv,ci]
 cases c.ss.findIdx? (fun q:Su=>decide (q.id=s)) with
 | some k=>rfl
 | none =>
  simp_all
end
noncomputable def aGp (M:Den) (p s f:List (List CV)):Option Ou:=aA (M 180 [CV.row 3 s]) fun v1 =>
    chk (xS 3 67 v1) <|
    aA (M 181 [CV.row 6 f]) fun v2 =>
    chk (xS 6 35 v2) <|
    bG 0 (aH (fun v3 =>
      aC (decide ((gi v3 0)<(il p)))
       (chk (inb (gi v3 0) p) <|
       chk (oks [li,li,.row 1,li,li,li,li,.row 1] (el p (gi v3 0)) 0) <|
       aA (M 126 (cat [[ci (gi (el p (gi v3 0)) 0),ci (gi (el p (gi v3 0)) 1),CV.row 1 (gr (el p (gi v3 0)) 2)],cis (el p (gi v3 0)) 3 4,[CV.row 1 (gr (el p (gi v3 0)) 7)]])) fun v4 =>
       chk (bL (List.length (gr v3 3)) 1 96) <|
       some (.nx ([ci (wr ((gi v3 0)+1)),CV.row 3 (gr v3 1),CV.row 6 (gr v3 2),CV.row 8 ((gr v3 3)++(aI 8 1 (cat [[ci (gi v4 0),ci (gi v4 1),CV.row 1 (gr v4 2)],cis v4 3 4,[CV.row 1 (gr v4 7)]])))])))
       (some (.br 0 [CV.row 3 (gr v3 1),CV.row 6 (gr v3 2),CV.row 8 (gr v3 3)]))) ([ci 0,CV.row 3 (gr v1 0),CV.row 6 (gr v2 0),CV.row 8 []])) fun v3 =>
    some (.ret [CV.row 3 (gr v3 0),CV.row 6 (gr v3 1),CV.row 8 (gr v3 2)])
theorem UJ (M:Den) (p s f:List (List CV)) (x:Int):rI M p s f x=aA (M 65 [CV.row 8 p,CV.row 3 s,CV.row 6 f]) fun v0 =>
  aC ((gi v0 0) != 0)
   (some (.ret ([CV.row 8 [],CV.row 3 [],CV.row 6 [],ci (gi v0 0)])))
   (mY (aGp M p s f) fun v1 =>
   mY (aBR (M 186 ([CV.row 6 (gr v1 1),CV.fn 136 ([CV.ref [ci x]])])) (fun e=>M 136 (e++[CV.ref [ci x]])) 6 [ci 0,ci 0,ci 0,ci 0,ci 0,ci 0] (gr v1 1) fun es=>some (.ret [CV.row 3 (gr v1 0),CV.row 6 es,CV.row 8 (gr v1 2)])) fun v2 =>
   aC ((il (gr v2 1)) == (il f))
    (some (.ret ([CV.row 8 [],CV.row 3 [],CV.row 6 [],ci 3])))
    (some (.ret [CV.row 8 (gr v2 2),CV.row 3 (gr v2 0),CV.row 6 (gr v2 1),ci 0]))):=by rfl
def aF (c:Court) (x:Int):Court:=⟨c.ps,c.ss,c.fs.filter fun f=>!decide (f.i0=x)⟩
theorem CS (hc:OkC c) (x:Int):OkC (aF c x):=by
 refine ⟨hc.p6,hc.s8,Nat.le_trans (List.length_filter_le _ _) hc.f60,hc.pr,hc.sr,?_,hc.op,hc.os,fun f hf=>hc.of f (List.mem_filter.1 hf).1,hc.st,fun f hf=>hc.io f (List.mem_filter.1 hf).1⟩
 exact hc.fr.sublist ((List.filter_sublist (l:=c.fs)).map _)
theorem aJT (M:Den) (f:Fi) (r:List CV):bN sg M (.fn 136 [.ref r]) (cis f.cv 0 6) [.agg (List.replicate 6 li)] [.one lb]=M 136 (f.cv++[.ref r]):=by rfl
theorem all_range_eq {A B:List Int} (h:A.length=B.length):((List.range A.length).all fun i=>decide (A.getD i 0=B.getD i 0))=decide (A=B):=by
 rw [Bool.eq_iff_iff,List.all_eq_true,decide_eq_true_eq];constructor
 ·intro hh
  refine List.ext_getElem h fun i h1 h2=>?_
  simp_all
 grind
section
variable {its:ITS} (n:Nat)
theorem aEw {A B:List Int} (hA:A.length<1000000000000000):D its (n+1) 72 [.row 1 (enc1 A),.row 1 (enc1 B)]=some [cb (decide (A=B))]:=by
 refine (yA its n _ _).trans ?_;have Og:il (enc1 A)=(A.length:Int):=aP _ _;have Bh:il (enc1 B)=(B.length:Int):=aP _ _;unfold oF
 by_cases hl:A.length=B.length
 ·rw [wD A.length (fun i=>[ci (i:Int)]) (fun i=>decide (A.getD i 0=B.getD i 0)) (some (.br 0 [])) (some (.ret [cb false])) ?hv (fun i hi=>?hs) ?he (by simp) (by simp)]
  case hv=>rfl
  case he=>simp
  case hs =>
   have i1:inb (i:Int) (enc1 A)=true:=aE hi;have e1:=kP hi;have i2:inb (i:Int) (enc1 B)=true:=aE (by omega)
   have e2:=kP (L:=B) (i:=i) (by omega)
   have hw:=bA (show i<9223372036854775807 by omega)
   simp_all
  rw [all_range_eq hl]
  by_cases he:A=B
  ·simp_all
  simp_all
 ·have g:(il (enc1 A) != il (enc1 B))=true:=by grind
  rw [g,decide_eq_false (fun h=>hl (by rw [h]))];rfl
variable (hi:ItsC its)
include hi
theorem NS {p:Pt} (h1:p.bs.length<1000000) (h2:p.ss.length<1000000):D its (n+2) 126 p.cv=some p.cv:=by
 refine (wM its (n+1) _ _ _ _ _ _ _ _).trans ?_;have k1:D its (n+1) cH [CV.row 1 (enc1 p.bs)]=some [CV.row 1 (enc1 p.bs),.fn 3 []]:=hi.i97 n _ (by grind)
 have k2:D its (n+1) cH [CV.row 1 (enc1 p.ss)]=some [CV.row 1 (enc1 p.ss),.fn 3 []]:=hi.i97 n _ (by grind)
 unfold mS;rw [k1,k2];rfl
theorem aGq {c:Court} (hc:OkC c):aGp (D its (n+2)) c.p c.s c.f=some (.ret [CV.row 3 c.s,CV.row 6 c.f,CV.row 8 c.p]):=by
 have p6:=hc.p6;have s8:=hc.s8;have f60:=hc.f60;have k1:D its (n+2) 180 [CV.row 3 c.s]=_:=hi.i180 (n+1) c.s (by grind [Court.s])
 have k2:D its (n+2) 181 [CV.row 6 c.f]=_:=hi.i181 (n+1) c.f (by grind [Court.f])
 have ah:il c.p=(c.ps.length:Int):=aP _ _;unfold aGp;rw [k1];simp only [aD];rw [show xS 3 67 [CV.row 3 c.s,CV.fn 67 []]=true from rfl,k2];simp only [aD];rw [eY c.ps.length (fun i=>[ci (i:Int),.row 3 c.s,.row 6 c.f,.row 8 ((c.ps.take i).map Pt.cv)]) (some (.br 0 [.row 3 c.s,.row 6 c.f,.row 8 c.p])) ?hv (fun i hx=>?hs) ?he (by simp)]
 case hv=>rfl
 case he =>
  simp [ah];rfl
 case hs =>
  have i1:inb (i:Int) c.p=true:=aE hx;have e1:el c.p (i:Int)=c.ps[i].cv:=aK hx;have ap:(i:Int)<(c.ps.length:Int):=by omega
  have hw:=bA (show i<9223372036854775807 by omega)
  have Mg:=hc.op _ (List.getElem_mem hx);simp [wS,inB] at Mg;have k3:D its (n+2) 126 (cat [[ci (gi c.ps[i].cv 0),ci (gi c.ps[i].cv 1),CV.row 1 (gr c.ps[i].cv 2)],cis c.ps[i].cv 3 4,[CV.row 1 (gr c.ps[i].cv 7)]])=some c.ps[i].cv:=NS n hi (p:=c.ps[i]) (by omega) (by omega)
  have bh:bL ((c.ps.take i).map Pt.cv).length 1 96=true:=by exact cU (by grind) (by grind)
  simp only [cW,fO,cY,ah,ap,i1,e1,k3,bh,hw];rw [take_succ hx,List.map_append];rfl
 rfl
theorem aAe {c:Court} (hf:c.Fit) (x:Int):D its (n+13) 56 (c.rs++[ci x])=some (if c.ok=true then (if (aF c x).fs.length=c.fs.length then mO.rs++[ci 3] else (aF c x).rs++[ci 0]) else mO.rs++[ci 73]):=by
 refine (BO its (n+12) _ _ _ _).trans ?_;have h1:D its (n+12) 65 [.row 8 c.p,.row 3 c.s,.row 6 c.f]=_:=WO its n hf;rw [UJ,h1]
 by_cases h:c.ok=true
 case neg=>simp [eq_false_of_ne_true h];rfl
 have hc:=AA h;have f60:=hc.f60;simp only [h];rw [aGq (n+10) hi hc];simp only [GL,fO,cY];have F6:∀ (m:Nat),∀ a∈c.fs,D its (m+1) 136 (a.cv++[.ref [ci x]])=some [cb (decide (a.i0=x))]:=fun m a _=>(wK its m _ _ _ _ _ _ _).trans (by rfl)
 obtain ⟨o,pi,_,rfl⟩:=rP (f:=Fi.cv) (l:=c.fs) (ls:=List.replicate 6 li) (P:=fun f=>decide (f.i0=x)) (fun e=>bN sg (D its (n+11)) (.fn 136 [.ref [ci x]]) (cis e 0 6) [.agg (List.replicate 6 li)] [.one lb]) (by omega) (fun _ _=>rfl) (fun a ha=>(aJT _ a _).trans (F6 (n+10) a ha))
 have F7:D its (n+12) 186 [CV.row 6 c.f,CV.fn 136 [CV.ref [ci x]]]=some [ci (Go.Sx.DI (c.fs.findIdx? fun f=>decide (f.i0=x)))]:=(gZ its (n+11) _ _).trans pi
 have po:=QO 6 Fi.cv [ci 0,ci 0,ci 0,ci 0,ci 0,ci 0] (fun _=>rfl) (fun _=>rfl) (fun _=>rfl) (fun f:Fi=>decide (f.i0=x)) c.fs (by omega) F7 (call:=fun e=>D its (n+12) 136 (e++[CV.ref [ci x]])) (by grind) (fun es=>some (.ret [CV.row 3 c.s,CV.row 6 es,CV.row 8 c.p]))
 have As:aBR (D its (n+12) 186 [CV.row 6 c.f,CV.fn 136 [CV.ref [ci x]]]) (fun e=>D its (n+12) 136 (e++[CV.ref [ci x]])) 6 [ci 0,ci 0,ci 0,ci 0,ci 0,ci 0] c.f (fun es=>some (.ret [CV.row 3 c.s,CV.row 6 es,CV.row 8 c.p]))=some (.ret [CV.row 3 c.s,CV.row 6 (aF c x).f,CV.row 8 c.p]):=po
 rw [As];simp only [GL,fO,cY];have i8:il (aF c x).f=((aF c x).fs.length:Int):=aP _ _;have l9:il c.f=(c.fs.length:Int):=aP _ _;rw [i8,l9]
 by_cases he:(aF c x).fs.length=c.fs.length
 ·have g:(((aF c x).fs.length:Int) == (c.fs.length:Int))=true:=by grind
  rw [g,if_pos he];rfl
 ·have g:(((aF c x).fs.length:Int) == (c.fs.length:Int))=false:=by grind
  rw [g,if_neg he];rfl
end
def amC (o:Option Fi):Int:=match o with
 | some f=>f.i4
 | none=>0
def DK (c c':Court) (d:Int) (i:Nat):Bool:=!decide ((aO c d).getD i []=(aO c' d).getD i []) || (((pN c d).contains (i:Int) != (pN c' d).contains (i:Int)) || (decide (c.entered i<=d)&&(((kR c i d).isSome != (kR c' i d).isSome) || (amC (kR c i d) != amC (kR c' i d)))))
def yH (c:Court) (x d:Int):List Int:=((List.range c.ps.length).filter (DK c (aF c x) d)).map fun i=>c.pids.getD i 0
theorem aGr (o:Option Fi):gb (fiC o++[cb o.isSome]) 6=o.isSome:=by cases o <;> rfl
theorem aGs (o:Option Fi):gi (fiC o++[cb o.isSome]) 4=amC o:=by cases o <;> rfl
theorem UK (c:Court) (e:CV):gr (c.rs++[e]) 0=c.p/\gr (c.rs++[e]) 1=c.s/\gr (c.rs++[e]) 2=c.f:=⟨rfl,rfl,rfl⟩
section
variable {its:ITS} (n:Nat) (hi:ItsD its)
include hi
theorem WW {c:Court} (hf:c.Fit) (x d:Int):D its (n+14) 16 (c.rs++[ci x,ci d])=some (if bX c d=0 then (if (aF c x).fs.length=c.fs.length then [.row 1 [],ci 3] else [.row 1 (enc1 (yH c x d)),ci 0]) else [.row 1 [],ci (bX c d)]):=by
 refine (GJ its (n+13) _ _ _ _ _).trans ?_;have h1:D its (n+13) bQ [.row 8 c.p,.row 3 c.s,.row 6 c.f,ci d]=_:=wF n hf d;have h2:D its (n+13) lK [.row 8 c.p,.row 3 c.s,.row 6 c.f,ci x]=_:=aAe n hi.toItsC hf x;unfold vB;rw [h1,h2]
 by_cases h:bX c d=0
 case neg =>
  simp only [h,if_false,aD];have g:gi (mO.rs++[ci (bX c d)]) 3=bX c d:=rfl;have g':(bX c d != 0)=true:=by simp [h]
  rw [g,g'];rfl
 have hc:=nF h;have bg:c.ok=true:=WP.2 hc;simp only [h,bg,if_true,aD];have g3:gi (c.rs++[ci 0]) 3=0:=rfl;rw [g3];simp only [show ((0:Int) != 0)=false from rfl,dU]
 by_cases hl:(aF c x).fs.length=c.fs.length
 ·simp only [hl,if_true];rfl
 simp only [hl,if_false];have gc:=CS hc x;obtain ⟨a1,a2,a3⟩:=UK c (ci 0);obtain ⟨b1,b2,b3⟩:=UK (aF c x) (ci 0);have g3':gi ((aF c x).rs++[ci 0]) 3=0:=rfl;have p6:=hc.p6;obtain ⟨o1,o2⟩:=HD (c:=c) d;obtain ⟨o1',o2'⟩:=HD (c:=aF c x) d;have o2'':(pN (aF c x) d).length<=c.ps.length:=o2';have k1:D its (n+13) cO [.row 8 c.p,.row 3 c.s,.row 6 c.f,ci d]=_:=hi.i69 (n+12) c d hc;have k1':D its (n+13) cO [CV.row 8 (aF c x).p,CV.row 3 (aF c x).s,CV.row 6 (aF c x).f,ci d]=_:=hi.i69 (n+12) (aF c x) d gc;have k2:D its (n+13) bM [.row 8 c.p,.row 3 c.s,.row 6 c.f,ci d]=_:=UC (n+3) hi.toItsC hc d
 have k2':D its (n+13) bM [CV.row 8 (aF c x).p,CV.row 3 (aF c x).s,CV.row 6 (aF c x).f,ci d]=_:=UC (n+3) hi.toItsC gc d;have ah:il c.p=(c.ps.length:Int):=aP _ _;rw [g3',a1,a2,a3,b1,b2,b3];simp only [show ((0:Int) != 0)=false from rfl,dU];simp only [k1,k1',aD,k2,k2',cY];rw [KH (A:=Nat) (List.range c.ps.length) (DK c (aF c x) d) (fun i=>[ci (c.pids.getD i 0)]) 1 0 ?hv (fun i hx es he=>?hs) (fun es=>?he)]
 case hv=>rfl
 case he=>simp only [cW,fO,cY,ah,List.length_range,Int.lt_irrefl,decide_false,dU]
 case hs =>
  have hx:i<c.ps.length:=by simpa using hx
  have gR:(List.range c.ps.length)[i]'(by simpa using hx)=i:=List.getElem_range _
  have i1:inb (i:Int) c.p=true:=aE hx;have e1:el c.p (i:Int)=c.ps[i].cv:=aK hx;have ap:(i:Int)<(c.ps.length:Int):=by omega
  have hw:=bA (show i<9223372036854775807 by omega)
  have ho:oks [li,li,.row 1,li,li,li,li,.row 1] c.ps[i].cv 0=true:=rfl;have hp:c.pids.getD i 0=c.ps[i].i0:=by simp [Court.pids,hx]
  have j1:D its (n+13) bB [.row 8 c.p,.row 3 c.s,.row 6 c.f,ci (i:Int),ci d]=_:=wE (n+12) hc hx d;have j1':D its (n+13) bB [CV.row 8 (aF c x).p,CV.row 3 (aF c x).s,CV.row 6 (aF c x).f,ci (i:Int),ci d]=_:=wE (n+12) gc hx d;obtain ⟨l1,l2⟩:=lN c d;obtain ⟨l1',l2'⟩:=lN (aF c x) d;have l1'':(aO (aF c x) d).length=c.ps.length:=l1';have iD:inb (i:Int) (eO (aO c d))=true:=aE (by omega)
  have iD':inb (i:Int) (eO (aO (aF c x) d))=true:=aE (by omega)
  have Mh:i<(aO c d).length:=by omega
  have F8:i<(aO (aF c x) d).length:=by omega
  have eD:el (eO (aO c d)) (i:Int)=[.row 1 (enc1 ((aO c d).getD i []))]:=by
   have:(aO c d).getD i []=(aO c d)[i]:=by simp [Mh]
   rw [this];exact aK Mh
  have eD':el (eO (aO (aF c x) d)) (i:Int)=[.row 1 (enc1 ((aO (aF c x) d).getD i []))]:=by
   have:(aO (aF c x) d).getD i []=(aO (aF c x) d)[i]:=by simp [F8]
   rw [this];exact aK F8
  have jk:((aO c d).getD i []).length<1000000000000000:=by
   have:(aO c d).getD i []=(aO c d)[i]:=by simp [Mh]
   have s8:=hc.s8;rw [this,l2 _ (List.getElem_mem Mh)];omega
  have j2:D its (n+13) jI [CV.row 1 (enc1 ((aO c d).getD i [])),CV.row 1 (enc1 ((aO (aF c x) d).getD i []))]=_:=aEw (n+12) jk;have j3:D its (n+13) aL [CV.row 1 (enc1 (pN c d)),ci (i:Int)]=_:=oI its (n+11) (by omega) _
  have j3':D its (n+13) aL [CV.row 1 (enc1 (pN (aF c x) d)),ci (i:Int)]=_:=oI its (n+11) (by omega) _
  have j4:D its (n+13) aG [.row 8 c.p,.row 3 c.s,.row 6 c.f,ci (i:Int)]=_:=lM its (n+12) hx;have bh:bL es.length 1 8=true:=cU (by omega) (by omega)
  have orow:∀ es,oks [.row 1] [CV.row 1 es] 0=true:=fun _=>rfl
  have c0:gi c.ps[i].cv 0=c.ps[i].i0:=rfl;simp only [gR,cW,fO,cY,ah,ap,decide_true,iP,i1,e1,ho,bR,j1,j1',aD,iD,iD',eD,eD',orow,j2,j3,j3',j4,nD,aGr,aGs,bh,hw,c0,hp];simp only [aFc,aCo,eX,nD];show bD (aC (DK c (aF c x) d i) (some (.nx [CV.row 1 (es++aI 1 1 [ci c.ps[i].i0])])) (some (.nx [CV.row 1 es]))) (fun v10=>some (.nx [ci ((i+1:Nat):Int),CV.row 1 (gr v10 0)]))=_
  by_cases hb:DK c (aF c x) d i=true
  ·rw [hb];rfl
  ·rw [eq_false_of_ne_true hb];rfl
 have hm:((List.range c.ps.length).filter (DK c (aF c x) d)).map (fun i=>[ci (c.pids.getD i 0)])=enc1 (yH c x d):=by
  unfold yH enc1;rw [List.map_map];rfl
 rw [hm];rfl
end
def IM:List Int->List Int
 | []=>[]
 | [a]=>[a]
 | a::b::l=>if a=b then IM (b::l) else a::IM (b::l)
theorem HG:∀ {L:List Int},CP L->IM L=L
 | [],_=>rfl
 | [_],_=>rfl
 | a::b::l,h=>by
  have h0:b≠a:=by simpa using h 0 (by simp)
  have ih:IM (b::l)=b::l:=HG fun i hi=>by simpa using h (i+1) (by grind)
  simp_all [IM,if_neg,Ne.symm,h0]
def oL (its:ITS) (L:List Int):Prop:=(∀ n,D its (n+1) 95 [.row 1 (enc1 L),.fn 3 []]=some [.row 1 (enc1 (srt L)),cb false])/\∀ n,D its (n+1) 117 [.row 1 (enc1 (srt L)),.fn 3 []]=some [.row 1 (enc1 (IM (srt L))),cb true]
theorem KW {its:ITS} (hi:ItsC its) (h:L.length<=12) (hd:CP (srt L)):oL its L:=
 ⟨fun n=>hi.i95 n L h,fun n=>by rw [HG hd];exact hi.i117 n _ (by rw [(vJ L).length_eq];omega) hd⟩
def pO (c:Court) (k:Int):List Int:=match c.ps[k.toNat]? with
 | some p=>p.bs
 | none=>[]
def NT (c:Court) (d:Int):List Int:=(pN c d).flatMap (pO c)
def AC (c:Court):List Int:=(List.range c.ps.length).map c.entered
def eV (c:Court):List Int:=AC c++c.fs.map Fi.i3
def bC (c:Court):List Int:=IM (srt (eV c))
theorem HH (A B:List Int):enc1 (A++B)=enc1 A++enc1 B:=List.map_append
theorem qX {A:Type} {f:A->List Int} {m:Nat}:∀ (l:List A),(∀ a∈l,(f a).length<=m)->(l.flatMap f).length<=m*l.length
 | [],_=>by simp
 | a::l,h=>by
  have:=qX l fun b hb=>h b (by grind)
  grind [Nat.mul_add]
section
variable {its:ITS} (n:Nat)
theorem aEx {c:Court} (hc:OkC c) (hs:oL its (eV c)):D its (n+2) 110 c.rs=some [.row 1 (enc1 (bC c))]:=by
 refine (sO its (n+1) _ _ _).trans ?_;have ah:il c.p=(c.ps.length:Int):=aP _ _;have Ig:il c.f=(c.fs.length:Int):=aP _ _;have p6:=hc.p6;have f60:=hc.f60;unfold kM;rw [eY c.ps.length (fun i=>[ci (i:Int),.row 1 (enc1 ((List.range i).map c.entered))]) (some (.br 0 [.row 1 (enc1 (AC c))])) ?hv (fun i hx=>?hs) ?he (by simp)]
 case hv=>rfl
 case he=>simp only [cW,ah,Int.lt_irrefl];rfl
 case hs =>
  have hw:=bA (show i<9223372036854775807 by omega)
  have j4:D its (n+1) aG [.row 8 c.p,.row 3 c.s,.row 6 c.f,ci (i:Int)]=_:=lM its n hx;have bh:bL (enc1 ((List.range i).map c.entered)).length 1 8=true:=cU (by grind) (by grind)
  simp_all [List.range_succ]
 simp;rw [eY c.fs.length (fun i=>[ci (i:Int),.row 1 (enc1 (AC c++(c.fs.take i).map Fi.i3))]) (some (.br 2 [.row 1 (enc1 (eV c))])) ?hv (fun i hx=>?hs) ?he (by simp)]
 case hv=>simp
 case he=>rw [List.take_length];simp only [cW,Ig,Int.lt_irrefl];rfl
 case hs =>
  have ap:(i:Int)<(c.fs.length:Int):=by omega
  have hw:=bA (show i<9223372036854775807 by omega)
  have i1:inb (i:Int) c.f=true:=aE hx;have e1:el c.f (i:Int)=c.fs[i].cv:=aK hx;have bh:bL (enc1 (AC c++(c.fs.take i).map Fi.i3)).length 1 8=true:=cU (by grind [AC]) (by grind [AC])
  simp only [cW,fO,cY,Ig,ap,i1,e1,bh,hw];rw [take_succ hx,List.map_append,<- List.append_assoc,HH (AC c++_)];rfl
 have h1:D its (n+1) cC [CV.row 1 (enc1 (eV c)),CV.fn 3 []]=_:=hs.1 n;have h2:D its (n+1) eL [CV.row 1 (enc1 (srt (eV c))),CV.fn 3 []]=_:=hs.2 n;simp [h1,h2];rfl
variable (hi:ItsC its)
include hi
theorem aGt {c:Court} (hf:c.Fit) (d:Int) (hs:bX c d=0->oL its (NT c d)):D its (n+14) 44 (c.rs++[ci d])=some [.row 1 (enc1 (if bX c d=0 then IM (srt (NT c d)) else [])),ci (bX c d)]:=by
 refine (HY its (n+13) _ _ _ _).trans ?_;have h1:D its (n+13) bQ [.row 8 c.p,.row 3 c.s,.row 6 c.f,ci d]=_:=wF n hf d;unfold wY;rw [h1]
 by_cases h:bX c d=0
 case neg =>
  have g:gi (mO.rs++[ci (bX c d)]) 3=bX c d:=rfl;simp_all
 have hc:=nF h;have hs:=hs h;obtain ⟨a1,a2,a3⟩:=UK c (ci 0);obtain ⟨o1,o2⟩:=HD (c:=c) d;have p6:=hc.p6;have h2:D its (n+13) bM [.row 8 c.p,.row 3 c.s,.row 6 c.f,ci d]=_:=UC (n+3) hi hc d;have g3:gi (c.rs++[ci 0]) 3=0:=rfl;simp [h,a1,a2,a3,h2];have hL:NT c d=(pN c d).flatMap (pO c):=rfl;rw [hL] at hs ⊢;generalize pN c d=L at o1 o2 hs ⊢;have ah:il (enc1 L)=(L.length:Int):=aP _ _
 have Mi:∀ p∈c.ps,p.bs.length<=12:=fun p hp=>by
  have:=hc.op p hp;grind [wS,inB]
 have Ih:∀ k∈L,(pO c k).length<=12:=fun k hk=>by
  grind [pO]
 rw [eY L.length (fun i=>[ci (i:Int),.row 1 (enc1 ((L.take i).flatMap (pO c)))]) (some (.br 0 [.row 1 (enc1 (L.flatMap (pO c)))])) ?hv (fun i hx=>?hs) ?he (by simp)]
 case hv=>rfl
 case he=>simp
 case hs =>
  have ap:(i:Int)<(L.length:Int):=by omega
  have hw:=bA (show i<9223372036854775807 by omega)
  obtain ⟨k0,k1⟩:=o1 _ (List.getElem_mem hx);have i1:inb (i:Int) (enc1 L)=true:=aE hx;have e1:el (enc1 L) (i:Int)=[ci L[i]]:=aK hx;have i2:inb L[i] c.p=true:=by have:=aE (f:=Pt.cv) k1;rwa [Int.toNat_of_nonneg k0] at this
  have e2:el c.p L[i]=c.ps[L[i].toNat].cv:=by have:=aK (f:=Pt.cv) k1;rwa [Int.toNat_of_nonneg k0] at this
  have o2:oks [.row 1] (List.drop 2 c.ps[L[i].toNat].cv) 0=true:=rfl
  have g2:gr (List.drop 2 c.ps[L[i].toNat].cv) 0=enc1 (pO c L[i]):=by
   have:pO c L[i]=c.ps[L[i].toNat].bs:=by simp [pO,k1]
   rw [this];rfl
  have i8:=qX (L.take i) (f:=pO c) (m:=12) fun k hk=>Ih k (List.mem_of_mem_take hk)
  have l9:=Ih _ (List.getElem_mem hx);have zh:(L.take i).length<=6:=by grind
  have bh:bL (enc1 ((L.take i).flatMap (pO c))).length (enc1 (pO c L[i])).length 8=true:=by
   rw [List.length_map,List.length_map];exact cU (by omega) (by omega)
  simp only [cW,fO,cY,ah,ap,i1,e1,i2,e2,o2,g2,bh,hw];rw [take_succ hx,List.flatMap_append,HH];simp
 have h1:D its (n+13) cC [CV.row 1 (enc1 (L.flatMap (pO c))),CV.fn 3 []]=_:=hs.1 (n+12);have h2:D its (n+13) eL [CV.row 1 (enc1 (srt (L.flatMap (pO c)))),CV.fn 3 []]=_:=hs.2 (n+12);have m1:∀ L,lU 1 false [CV.row 1 L,cb false]=true:=fun _=>rfl
 have m2:∀ L,lU 1 true [CV.row 1 L,cb true]=true:=fun _=>rfl
 simp_all
end
theorem aCH {k:Nat} {d:Int} {f:Fi} (h:kR c k d=some f):f∈c.fs/\f.i1=c.pids.getD k 0/\f.i3<=d:=by
 have key:∀ (l:List Fi) (o:Option Fi),(∀ f,l.foldl (QW c k d) o=some f->o=some f\/(f∈l/\f.i1=c.pids.getD k 0/\f.i3<=d)):=by
  intro l
  induction l with
  | nil=>simp
  | cons a l ih =>
   intro o f h;rcases ih _ _ h with h | h
   ·unfold QW at h
    grind
   grind
 rcases key c.fs none f h with h | h
 ·cases h
 omega
def jN (r:List Int):Prop:=∀ y∈r,-5000000000<=y/\y<=1000000000000
theorem KX {c:Court} (hb:Bd c) {R:List Int} (hR:OnP c R) (pk:R.length<=5) {B:Int} (k:Nat) {x:Int×List Int×List Int} (hx:StB c B x) (h0:jN x.2.2):∀ {j:Nat},j<=c.ss.length->B+5000000000*(j:Int)<=1000000000000->jN (rO c k R x j).2.2
 | 0,_,_=>h0
 | j+1,hj,hB=>by
  have ih:=KX hb hR pk k hx h0 (j:=j) (by omega) (by omega)
  have hs:=DY hb hR pk k hx (j:=j) (by omega) (by omega)
  simp [rO];generalize rO c k R x j=s at ih hs;obtain ⟨s1,s2,s3⟩:=s;have g0:=hs.l0;have g1:=hs.l1;have g2:=hs.lm;simp only at ih g0 g1 g2;unfold stJ;split
  ·intro y hy
   simp only at hy;rcases List.mem_or_eq_of_mem_set hy with hy | rfl
   ·exact ih y hy
   ·have:=NM hb hR (by omega) (lm:=s2) (fun y hy=>⟨(g2 y hy).1,by grind⟩) g0 (by omega) j
    omega
  omega
theorem UL (hc:OkC c) (hL:OnP c L) (tz:L.length<=6):∀ x∈jV c L,jN x.2:=fun x hx=>by
 simp [jV] at hx;obtain ⟨i,hi,rfl⟩:=hx;obtain ⟨h1,h2⟩:=UA hc.bd hc.w hL tz hc.s8 i (by omega)
 obtain ⟨k0,k1⟩:=hL _ (List.getElem_mem hi);have Mj:L.getD i 0=L[i]:=by grind
 have fc:=hc.bd.need _ (List.getElem_mem k1);have Fp:c.needAt L[i]=c.ps[L[i].toNat].need:=by simp [Court.needAt,k1]
 have hR:OnP c (L.drop (i+1)):=fun k hk=>hL k (List.mem_of_mem_drop hk)
 have s8:=hc.s8;have ei:StB c (1000000000+40000000000*(i:Int)) (c.needAt L[i],lmT c L i,List.replicate c.ss.length 0):=⟨by omega,by omega,h1,by simp,h2⟩
 simp only [vH,Mj];refine KX hc.bd hR (by grind) L[i].toNat ei (fun y hy=>?_) (Nat.le_refl _) (by omega)
 grind
theorem RE:∀ (ns:List Int) (rest:Int),jN ns->0<=rest->rest+5000000000*(ns.length:Int)<=1000000000000->jN (fl rest ns).1
 | [],_,_,_,_=>fun y hy=>by grind [fl]
 | n::ns,rest,hs,h0,h1=>by
  have hn:=hs n (by simp)
  simp at h1;have hm:mn n rest<=rest/\-5000000000<=mn n rest:=by grind
  have hw:wr' (rest - mn n rest)=rest - mn n rest:=by
   grind [IntKind.wrap_i64]
  intro y hy;rcases List.mem_cons.1 hy with rfl | hy
  ·omega
  ·exact RE ns _ (fun y hy=>hs y (by grind)) (by omega) (by omega) y hy
theorem KY {fnd:Nat->Option (Int×Int)}:∀ (rw:List (Nat×List Int)) (rs:List (List Int)),(∀ r∈rs,jN r)->(∀ x∈rw,jN x.2/\x.2.length<=8)->(∀ k a p,fnd k=some (a,p)->0<=p/\p<=a/\a<=1000000)->∀ r∈dbs fnd rw rs,jN r
 | [],rs,h,_,_=>h
 | x::rw,rs,h,h1,h2=>by
  refine KY rw (stD fnd x rs) (fun r hr=>?_) (fun y hy=>h1 y (by grind)) h2
  unfold stD at hr;split at hr
  ·grind
  ·rename_i a p hf
   obtain ⟨p0,p1,p2⟩:=h2 _ _ _ hf;rcases List.mem_or_eq_of_mem_set hr with hr | rfl
   ·grind
   ·have hx:=h1 x (by simp)
    have hw:wr' (a - p)=a - p:=by grind [IntKind.wrap_i64]
    have eh:=RE x.2 (a - p) hx.1 (by omega) (by omega)
    intro y hy;unfold IL at hy;rw [hw] at hy;simp only [List.cons_append,List.mem_cons,List.mem_append] at hy;rcases hy with rfl | hy | hy
    ·omega
    ·exact eh y hy
    ·by_cases hk:x.1<rs.length
     ·have g:rs.getD x.1 []=rs[x.1]:=by grind
      rw [g] at hy;exact h _ (List.getElem_mem hk) y (List.mem_of_mem_drop hy)
     grind
theorem aEy (hc:OkC c) (d:Int):∀ k a p,aAd c d k=some (a,p)->0<=p/\p<=a/\a<=1000000:=fun k a p h=>by
 unfold aAd at h;cases hf:kR c k d with
 | none=>grind
 | some f =>
  have:=hc.of f (aCH hf).1;simp_all [II,inB]
theorem AD (hc:OkC c) (d:Int):∀ r∈aO c d,jN r:=by
 have hz:∀ r∈List.replicate c.ps.length (zr (1+c.ss.length)),jN r:=fun r hr y hy=>by
  grind
 unfold aO;split
 ·exact hz
 ·obtain ⟨a1,a2⟩:=hU (c:=c) d
  have p6:=hc.p6;have s8:=hc.s8;exact KY _ _ hz (fun x hx=>⟨UL hc a1 (by omega) x hx,by have:=(KV a1 x hx).2;omega⟩) (aEy hc d)
end
end Go.Proofs.YtgpnoeojpmaeiaaGreat
