/-
 The law PenRefuses of the pens of a pound holds at every input, without any condition.
-/
import Derived.Test.YthkfohoccnnphaaP11
namespace Go.Proofs.Ythkfohoccnnphaa
open Go Go.Sx Go.Pen
set_option maxRecDepth 10000
variable {its:ITS}
theorem aAE (n:Nat) (vs:List CV):D its (n+1) eJ vs=evF Try.prog sg (D its n) ZO (aA Try.f102) vs:=by kernel_rfl
theorem aAF (n:Nat) (a b c:List (List CV)) (k:Int):D its (n+1) eJ [.row 1 a,.row 4 b,.row 1 c,.val (.slice none 0 0),ci k]=D its (n+1) eJ [.row 1 a,.row 4 b,.row 1 c,.row 1 [],ci k]:=by
 rw [aAE,aAE]
 exact CX rfl
theorem TF (n:Nat) (vs:List CV):D its (n+1) cX vs=evF Try.prog sg (D its n) ZP (aA Try.f103) vs:=by kernel_rfl
theorem WL (n:Nat) (a b c:List (List CV)) (k:Int):D its (n+1) cX [.row 1 a,.row 4 b,.row 1 c,.val (.slice none 0 0),ci k]=D its (n+1) cX [.row 1 a,.row 4 b,.row 1 c,.row 1 [],ci k]:=by
 rw [TF,TF]
 exact CX rfl
theorem aAG {l b:List Int} (hb:inR l b):lJ l.length b≤l.length:=by
 unfold lJ
 split
 ·omega
 ·rename_i h
  have h0:0<b.length:=List.length_pos_iff.2 h
  have hg:b.getD (b.length - 1) 0=b[b.length - 1]:=by simp [show b.length - 1<b.length by omega]
  have:=hb _ (List.getElem_mem (show b.length - 1<b.length by omega))
  rw [hg]
  omega
theorem aAH {l b:List Int} (hb:inR l b) {i:Nat} (hi:i<l.length):inR l (b++[(i:Int)]):=by
 intro x hx
 rcases List.mem_append.1 hx with h | h
 ·exact hb x h
 ·rw [List.mem_singleton.1 h];omega
theorem aAI (n:Nat) {y:Yard} (hy:y.ok=true) {l:List Int} (hs:aQ y l=true):∀ (m:Nat) (b:List Int),inR l b→cK y (ofL l b)=true→b.length+m≤1000 →
  D its (n+m+4) eJ [.row 1 y.ps,.row 4 y.ks,.row 1 (ints l),.row 1 (ints b),ci (m:Int)]=some [.row 1 (ints ((mR y l m b).getD []))]
 | 0,b,hb,ha,hm=>by
  rw [BQ]
  unfold sO
  rfl
 | m+1,b,hb,ha,hm=>by
  have h8:=bF hs
  have h9:=CH hy hs
  have ih:=aAI n hy hs m
  show D its ((n+m+4)+1) eJ _=_
  rw [BQ]
  unfold sO
  have e0:(((m+1:Nat):Int) == 0)=false:=by rw [beq_eq_false_iff_ne];omega
  have hwm:wr (((m+1:Nat):Int) - 1)=(m:Int):=by rw [bW] <;> omega
  have hst:bN (aB (decide ((il (ints b)) > 0)) (chk (inb (wr ((il (ints b)) - 1)) (ints b))<|chk (oks [li] (el (ints b) (wr ((il (ints b)) - 1))) 0)<|some (.nx [ci (wr ((gi (el (ints b) (wr ((il (ints b)) - 1))) 0)+1))])) (some (.nx [ci 0])))=fun K=>K [ci (lJ l.length b:Int)]:=by
   funext K
   by_cases h0:b=[]
   ·subst h0;rfl
   ·have hp:0<b.length:=List.length_pos_iff.2 h0
    have hx:=hb _ (List.getElem_mem (show b.length - 1<b.length by omega))
    have hg:b.getD (b.length - 1) 0=b[b.length - 1]:=by simp [show b.length - 1<b.length by omega]
    have hn:(lJ l.length b:Int)=b[b.length - 1]+1:=by
     unfold lJ;rw [if_neg h0,hg];omega
    have hw:wr (b[b.length - 1]+1)=b[b.length - 1]+1:=by rw [bW] <;> omega
    simp only [aF,eq_true (show ((b.length:Int) > 0) by omega),decide_true,bX,jU hp (show b.length<9223372036854775807 by omega),aG (show b.length - 1<b.length by omega),aI (show b.length - 1<b.length by omega),li1,aC,aL,hw,aV,hn]
  rw [e0,bV,hst]
  simp only [aL,hwm]
  have hle:=aAG hb
  rw [qL (fun i=>if cK y (ofL l (b++[(i:Int)]))=true then mR y l m (b++[(i:Int)]) else none) (fun x=>some (.ret [.row 1 (ints x)])) (some (.br 0 [])) ?hR ?hX l.length (fun i hi=>?s1) ?s2 (l.length - lJ l.length b) (lJ l.length b) (by omega)]
  case hR=>simp
  case hX=>simp
  case s2=>simp only [aL,aF,eq_false (show ¬((l.length:Int)<(l.length:Int)) by omega),decide_false,bV]
  case s1 =>
   have hbi:=aAH hb hi
   have hbl:(b++[(i:Int)]).length<1000000:=by simp;omega
   have e1:ints b++aN 1 1 [ci (i:Int)]=ints (b++[(i:Int)]):=cZ b _
   have hal:=TD (its:=its) (n+m+1) hy (b:=ofL l (b++[(i:Int)])) (fun s hs=>h9 s (zI hbi hs)) (by rw [cT];exact hbl)
   simp only [aL,aF,eq_true (show ((i:Int)<(l.length:Int)) by omega),decide_true,bX,aH,show bJ 0 b.length 8=true from bL (by omega) (by omega),show bJ b.length 1 8=true from bL (by omega) (by omega),aC,e1,QV (its:=its) (n+m+3) hbi hbl,aD,bI,hal,bD,aO (show i<9223372036854775807 by omega)]
   by_cases hc:cK y (ofL l (b++[(i:Int)]))=true
   ·have hr:=ih (b++[(i:Int)]) hbi hc (by simp;omega)
    rw [if_pos hc,hc,Bool.not_true,bV,hr,aD,bI]
    cases hx:mR y l m (b++[(i:Int)]) with
    | none=>rfl
    | some x =>
     have hpre:=(aDO hc hx).length_le
     have hxl:0<x.length:=by simp at hpre;omega
     simp only [Option.getD_some,aF,eq_true (show ((x.length:Int) > 0) by omega),decide_true,bX,oV]
   ·have hc':cK y (ofL l (b++[(i:Int)]))=false:=by simpa using hc
    rw [if_neg hc,hc',Bool.not_false,bX,bR]
  ·have hm2:mR y l (m+1) b=(List.range' (lJ l.length b) (l.length - lJ l.length b)).findSome? fun (i:Nat)=>if cK y (ofL l (b++[(i:Int)]))=true then mR y l m (b++[(i:Int)]) else none:=rfl
   rw [← hm2]
   cases mR y l (m+1) b <;> rfl
theorem WM {y:Yard} (hy:y.ok=true) {l:List Int} (hs:aQ y l=true) (n:Nat) :
  D its (n+11) eJ [.row 1 y.ps,.row 4 y.ks,.row 1 (ints l),.val (.slice none 0 0),ci (wr ((y.pens.length:Int)+1))]=some [.row 1 (ints ((mR y l (y.pens.length+1) []).getD []))]:=by
 have h5:=(bM hy).1
 rw [aAF,aO (show y.pens.length<9223372036854775807 by omega)]
 have:=aAI (its:=its) (n+(6 - y.pens.length)) hy hs (y.pens.length+1) [] (by intro x hx;cases hx) rfl (by simp;omega)
 rw [show n+(6 - y.pens.length)+(y.pens.length+1)+4=n+11 by omega] at this
 exact this
theorem GC (l b:List Int) (i:Nat):(ofL l b).eraseIdx i=ofL l (b.eraseIdx i):=by
 unfold ofL
 induction b generalizing i with
 | nil=>simp
 | cons a b ih=>cases i <;> simp [ih,-List.getD_eq_getElem?_getD]
theorem TG {y:Yard} (hy:y.ok=true) {l:List Int} (hs:aQ y l=true) (n:Nat) (kd_:Int) :
  D its (n+15) lT [.row 1 y.ps,.row 4 y.ks,.row 1 (ints l),ci kd_]=some [.row 1 (ints (least (fun b=>gG y kd_ (ofL l b)) l.length (idx l)))]:=by
 have h8:=bF hs
 rw [LU]
 unfold xV
 rw [(bP l (fun i (_:Unit)=>[ci (i:Int),.row 1 (ints ((idx l).take i))]) (fun _ _=>()) (fun _ _=>True) 0 (fun _=>[.row 1 (ints (idx l))]) () ?hv trivial ?hs ?he).1]
 case hv=>rfl
 case hs =>
  intro i hi _ _
  refine ⟨?_,trivial⟩
  have hil:i<(idx l).length:=by rw [wT];exact hi
  have hg:(idx l)[i]=(i:Int):=by simp [idx]
  have hl':(ints ((idx l).take i)).length=i:=by rw [aH,List.length_take,wT];omega
  rw [← List.take_append_getElem hil,hg]
  simp only [aL,cA,aF,eq_true (show ((i:Int)<(l.length:Int)) by omega),decide_true,bX,dL,bI,hl',show bJ i 1 8=true from bL (by omega) (by omega),aC,nC,nA,List.take_succ_cons,List.take_zero,cZ,aO (show i<9223372036854775807 by omega)]
 case he =>
  intro _ _
  have:(idx l).take l.length=idx l:=List.take_of_length_le (by rw [wT];omega)
  simp only [aL,aF,eq_false (show ¬((l.length:Int)<(l.length:Int)) by omega),decide_false,bV,dL,bI,this]
 have key:∀ {step:List CV→Option Ou},(∀ v1,step v1=aB (decide ((gi v1 1)≥0)) (aE (D its (n+14) fX [CV.row 1 (gr v1 0),ci (gi v1 1)]) fun v2=>aE (D its (n+14) iQ [CV.row 1 (ints l),CV.row 1 (gr v2 0)]) fun v3=>aE (D its (n+14) gP [CV.row 1 y.ps,CV.row 4 y.ks,CV.row 1 (gr v3 0),ci kd_]) fun v4=>bN (aB (gb v4 0) (some (.nx [CV.row 1 (gr v2 0)])) (some (.nx [CV.row 1 (gr v1 0)]))) fun v5=>some (.nx [CV.row 1 (gr v5 0),ci (wr ((gi v1 1) - 1))])) (some (.br 2 [CV.row 1 (gr v1 0)]))) →
   ∀ (k:Nat) (b:List Int),inR l b→b.length≤8→k≤b.length→aJ step [.row 1 (ints b),ci ((k:Int) - 1)]=some (.br 2 [.row 1 (ints (least (fun b=>gG y kd_ (ofL l b)) k b))]):=by
  intro step hst k
  induction k with
  | zero =>
   intro b _ _ _
   refine bE ?_ (by simp)
   rw [hst]
   simp only [cA,aL,eq_false (show ¬(((0:Nat):Int) - 1≥0) by omega),decide_false,bV,bI,least]
  | succ k ih =>
   intro b hb hb8 hk
   have e:(((k+1:Nat):Int) - 1)=(k:Int):=by omega
   have hel:=List.length_eraseIdx_le b k
   have hbe:=gN hb k
   have hw:wr ((k:Int) - 1)=(k:Int) - 1:=by rw [bW] <;> omega
   have hstep:step [.row 1 (ints b),ci (((k+1:Nat):Int) - 1)]=some (.nx [.row 1 (ints (if gG y kd_ (ofL l (b.eraseIdx k))=true then b.eraseIdx k else b)),ci ((k:Int) - 1)]):=by
    rw [hst]
    simp only [e,cA,aL,eq_true (show ((k:Int)≥0) by omega),decide_true,bX,bI,wV (its:=its) (n+13) b (show k<b.length by omega) (by omega),aD,QV (its:=its) (n+13) hbe (by omega),NS (its:=its) n hy (mU hs hbe (by omega)) kd_,bD,hw]
    cases gG y kd_ (ofL l (b.eraseIdx k)) <;> rfl
   rw [dP hstep,least]
   split
   ·have:=List.length_eraseIdx_of_lt (show k<b.length by omega)
    exact ih _ hbe (by omega) (by omega)
   ·exact ih _ hb hb8 (by omega)
 have hw:wr ((l.length:Int) - 1)=(l.length:Int) - 1:=by rw [bW] <;> omega
 simp only [bR,bI,aF,hw]
 erw [key (fun v=>rfl) l.length (idx l) (tW l) (by rw [wT];exact h8) (by rw [wT];exact Nat.le_refl _)]
 rfl
theorem aAJ {y:Yard} (hf:Fit y) (l:List Int) (hl:l.length<9223372036854775807) (n:Nat) :
  D its (n+16) jW [.row 1 y.ps,.row 4 y.ks,.row 1 (ints l)]=some (if asked y l=0 then [ci (refuse y l).1,.row 1 (ints (refuse y l).2.1),ci (refuse y l).2.2] else [ci 0,.row 1 [],ci (asked y l)]):=by
 rw [HX]
 unfold uB
 rw [nT (n+12) hf l hl,aD,aL]
 by_cases h:asked y l=0
 case neg=>rw [aAD h,bX,if_neg h];rfl
 obtain ⟨hy,hs⟩:=eN h
 have h8:=bF hs
 rw [h,aDR,bV,if_pos rfl,← aB8 hy (fH hy) l]
 unfold aDQ
 rw [dI l.length (fun i=>[ci (i:Int),ci 0,if i=0 then .val (.slice none 0 0) else .row 1 []]) (fun i=>fW y (l.getD i 0)) (fun i=>some (.ret [ci 1,.row 1 (ints [(i:Int)]),ci 0])) (some (.br 0 [ci 0,.row 1 []])) ?hv ?hR ?hX (fun i hi hp=>?s1) (fun i hi hp=>?s2) ?s3]
 case hv=>rfl
 case hR=>simp
 case hX=>simp
 case s3 =>
  simp only [aL,cA,dL,aF,eq_false (show ¬((l.length:Int)<(l.length:Int)) by omega),decide_false,bV]
  split <;> rfl
 case s1 =>
  have hg:l.getD i 0=l[i]:=by simp [hi]
  rw [hg] at hp
  simp only [aL,cA,dL,aF,eq_true (show ((i:Int)<(l.length:Int)) by omega),decide_true,bX,aG hi,aI hi,li1,aC,IY (its:=its) (n+12) hy,aD,bD,hp,bV,aO (show i<9223372036854775807 by omega)]
  rw [if_neg (show ¬(i+1=0) by omega)]
  split <;> rfl
 case s2 =>
  have hg:l.getD i 0=l[i]:=by simp [hi]
  rw [hg] at hp
  simp only [aL,cA,dL,aF,eq_true (show ((i:Int)<(l.length:Int)) by omega),decide_true,bX,aG hi,aI hi,li1,aC,IY (its:=its) (n+12) hy,aD,bD,hp]
  rfl
 ·cases (List.range l.length).find? (fun i=>fW y (l.getD i 0)) with
  | some i=>rfl
  | none =>
   simp only [bR,NS (its:=its) (n+1) hy hs,aD,bD]
   cases hb2:gG y 2 l with
   | true =>
    rw [bX,TG hy hs n 2,aD]
    rfl
   | false =>
    rw [bV,eV,WM hy hs (n+4),aD,bI]
    cases hmr:mR y l (y.pens.length+1) [] with
    | some b =>
     have hbl:0<b.length:=by
      rw [IU] at hmr
      have:=(nG.1 (List.mem_of_find?_eq_some hmr)).1
      omega
     simp only [Option.getD_some,aF,eq_true (show ((b.length:Int) > 0) by omega),decide_true,bX]
     rfl
    | none =>
     have hz:decide (il (ints (none.getD ([]:List Int))) > 0)=false:=rfl
     rw [hz,bV]
     cases hb4:gG y 4 l with
     | true =>
      rw [bX,TG hy hs n 4,aD]
      rfl
     | false=>rfl
theorem TH {y:Yard} (hy:y.ok=true) {l:List Int} (hs:aQ y l=true) (most:Nat):∀ (k n:Nat) (p:List Int),okP y l p=true→p.length+k=l.length →
  D its (n+k+4) cX [.row 1 y.ps,.row 4 y.ks,.row 1 (ints l),.row 1 (ints p),ci (most:Int)]=some (match fR y l most k p with | some x=>[.row 1 (ints x),cb true] | none=>[.row 1 [],cb false])
 | 0,n,p,hp,hl=>by
  have h8:=bF hs
  rw [xU]
  unfold pJ
  have e:((p.length:Int) == (l.length:Int))=true:=by rw [beq_iff_eq];omega
  rw [aAA (n+2) p (by omega),aD,aL,aF,aF,e,bX]
  unfold fR
  by_cases hu:used [] p > most
  ·rw [if_pos hu,decide_eq_true (show (used [] p:Int) > (most:Int) by omega)];rfl
  ·rw [if_neg hu,decide_eq_false (show ¬(used [] p:Int) > (most:Int) by omega)];rfl
 | k+1,n,p,hp,hl=>by
  have h8:=bF hs
  have h5:=(bM hy).1
  have h9:=CH hy hs
  have ih:=TH hy hs most k n
  show D its ((n+k+4)+1) cX _=_
  rw [xU]
  unfold pJ
  have e:((p.length:Int) == (l.length:Int))=false:=by rw [beq_eq_false_iff_ne];omega
  rw [aAA (n+k+3) p (by omega),aD,aL,aF,aF,e,bV]
  rw [show fR y l most (k+1) p=if used [] p > most then none else (List.range y.pens.length).findSome? fun (i:Nat)=>if okP y l (p++[(i:Int)])=true then fR y l most k (p++[(i:Int)]) else none from rfl]
  by_cases hu:used [] p > most
  ·rw [if_pos hu,decide_eq_true (show (used [] p:Int) > (most:Int) by omega)];rfl
  rw [if_neg hu,decide_eq_false (show ¬(used [] p:Int) > (most:Int) by omega),bV]
  have hlp:=qL (step:=fun v1=>aB (decide ((gi v1 0)<(il y.ps))) (bO 1 (aE (D its (n+k+4) kZ [CV.row 1 y.ps,CV.row 4 y.ks,CV.row 1 (ints l),CV.row 1 (ints p),ci (p.length:Int),ci (gi v1 0)]) fun v2=>aB (!(gb v2 0)) (some (.br 1 [])) (chk (bJ 0 (List.length (ints p)) 8)<|chk (bJ (List.length (ints p)) 1 8)<|aE (D its (n+k+4) cX ([CV.row 1 y.ps,CV.row 4 y.ks,CV.row 1 (ints l),CV.row 1 (ints p++(aN 1 1 [ci (gi v1 0)])),ci (most:Int)])) fun v3=>aB (gb v3 1) (some (.ret [CV.row 1 (gr v3 0),cb true])) (some (.br 1 [])))) fun v2=>some (.nx [ci (wr ((gi v1 0)+1))])) (some (.br 0 [])))
   (fun (i:Nat)=>if okP y l (p++[(i:Int)])=true then fR y l most k (p++[(i:Int)]) else none) (fun x=>some (.ret [.row 1 (ints x),cb true])) (some (.br 0 [])) ?hR ?hX y.pens.length (fun i hi=>?s1) ?s2 y.pens.length 0 (by omega)
  case hR=>simp
  case hX=>simp
  case s2=>simp only [aL,eV,eq_false (show ¬((y.pens.length:Int)<(y.pens.length:Int)) by omega),decide_false,bV]
  case s1 =>
   have hfg:=CS (y:=y) (l:=l) (p:=p) (by omega) (pen:=(i:Int)) (by simp [within];omega)
   have hok:=mK y l p (i:Int) (by omega)
   rw [hp,Bool.true_and,← hfg] at hok
   have hw:=aO (show i<9223372036854775807 by omega)
   have e1:ints p++aN 1 1 [ci (i:Int)]=ints (p++[(i:Int)]):=cZ p _
   simp only [aL,cA,bI,dL,eV,eq_true (show ((i:Int)<(y.pens.length:Int)) by omega),decide_true,bX,QT (its:=its) (n+k+1) hy l p h9 (by omega) (by omega) (show p.length<l.length by omega) hi,aD,bD]
   rw [← hok]
   by_cases hc:okP y l (p++[(i:Int)])=true
   ·have hr:=ih (p++[(i:Int)]) hc (by simp;omega)
    rw [if_pos hc,hc,Bool.not_true,bV,aH,show bJ 0 p.length 8=true from bL (by omega) (by omega),aC,show bJ p.length 1 8=true from bL (by omega) (by omega),aC,e1,hr,aD]
    cases fR y l most k (p++[(i:Int)]) with
    | none=>rw [hw.symm];rfl
    | some x=>rfl
   ·have hc':okP y l (p++[(i:Int)])=false:=by simpa using hc
    rw [if_neg hc,hc',Bool.not_false,bX,bR,hw]
  ·rw [← List.range_eq_range'] at hlp
   erw [hlp]
   cases (List.range y.pens.length).findSome? (fun (i:Nat)=>if okP y l (p++[(i:Int)])=true then fR y l most k (p++[(i:Int)]) else none) <;> rfl
theorem aAK {y:Yard} (hf:Fit y) (l:List Int) (hl:l.length<9223372036854775807) (n:Nat) :
  D its (n+13) jX [.row 1 y.ps,.row 4 y.ks,.row 1 (ints l)]=some (if asked y l=0 then (match rW y l with | some x=>[.row 1 (ints x),ci 0] | none=>[.row 1 [],ci 53]) else [.row 1 [],ci (asked y l)]):=by
 rw [HR]
 unfold tY
 rw [nT (n+9) hf l hl,aD,aL]
 by_cases h:asked y l=0
 case neg=>rw [aAD h,bX,if_neg h];rfl
 obtain ⟨hy,hs⟩:=eN h
 have h8:=bF hs
 have h5:=(bM hy).1
 rw [h,aDR,bV,if_pos rfl,← NO]
 have hlp:=qL (step:=fun v1=>aB (decide ((gi v1 0)≤(il y.ps))) (aE (D its (n+12) cX [CV.row 1 y.ps,CV.row 4 y.ks,CV.row 1 (ints l),CV.val (Value.slice none 0 0),ci (gi v1 0)]) fun v2=>aB (gb v2 1) (some (.ret [CV.row 1 (gr v2 0),ci 0])) (some (.nx [ci (wr ((gi v1 0)+1))]))) (some (.br 0 [])))
  (fun m=>fR y l m l.length []) (fun x=>some (.ret [.row 1 (ints x),ci 0])) (some (.br 0 [])) ?hR ?hX (y.pens.length+1) (fun i hi=>?s1) ?s2 (y.pens.length+1) 0 (by omega)
 case hR=>simp
 case hX=>simp
 case s2=>simp only [aL,eV,eq_false (show ¬(((y.pens.length+1:Nat):Int)≤(y.pens.length:Int)) by omega),decide_false,bV]
 case s1 =>
  have hr:=TH (its:=its) hy hs i l.length (n+(8 - l.length)) [] (tS y l) (by simp)
  rw [show n+(8 - l.length)+l.length+4=n+12 by omega] at hr
  simp only [aL,eV,eq_true (show ((i:Int)≤(y.pens.length:Int)) by omega),decide_true,bX]
  rw [WL,show D its (n+11+1)=D its (n+12) from rfl,show ([]:List (List CV))=ints [] from rfl,hr,aD,aO (show i<9223372036854775807 by omega)]
  cases fR y l i l.length [] <;> rfl
 ·rw [← List.range_eq_range'] at hlp
  erw [hlp]
  cases (List.range (y.pens.length+1)).findSome? (fun m=>fR y l m l.length []) <;> rfl
end Go.Proofs.Ythkfohoccnnphaa
namespace Go.Proofs.Ythkfohoccnnphaa
open Go Go.Sx Go.Pen
set_option maxRecDepth 10000
variable {its:ITS}
theorem aDV (n:Nat) {l:List Int} (hl:l.length<1000000) {b:List Int} (hb:b.length<9223372036854775807) {step:List CV→Option Ou} (hst:∀ v0,step v0=aB (decide ((gi v0 0)<(il (ints b)))) (chk (inb (gi v0 0) (ints b))<|chk (oks [li] (el (ints b) (gi v0 0)) 0)<|bN (aE (D its (n+1) cU [ci (gi (el (ints b) (gi v0 0)) 0),ci 0,ci (wr ((il (ints l)) - 1))]) fun v1=>aB (!(gb v1 0)) (some (.nx [cb true])) (aB (decide ((gi v0 0) > 0)) (chk (inb (wr ((gi v0 0) - 1)) (ints b))<|chk (oks [li] (el (ints b) (wr ((gi v0 0) - 1))) 0)<|some (.nx [cb (decide ((gi (el (ints b) (wr ((gi v0 0) - 1))) 0)≥(gi (el (ints b) (gi v0 0)) 0)))])) (some (.nx [cb false])))) fun v1=>aB (gb v1 0) (some (.ret [cb false])) (some (.nx [ci (wr ((gi v0 0)+1))]))) (some (.br 0 []))) :
  aJ step [ci 0]=if fO l b=true then some (.br 0 []) else some (.ret [cb false]):=by
 have hwl:wr ((l.length:Int) - 1)=(l.length:Int) - 1:=by rw [bW] <;> omega
 rw [dI b.length (fun i=>[ci (i:Int)]) (wR l b) (fun _=>some (.ret [cb false])) (some (.br 0 [])) ?hv ?hR ?hX (fun i hi hp=>?s1) (fun i hi hp=>?s2) ?s3]
 case hv=>rfl
 case hR=>simp
 case hX=>simp
 case s3 =>
  rw [hst]
  simp only [aL,aF,eq_false (show ¬((b.length:Int)<(b.length:Int)) by omega),decide_false,bV]
 case s1 =>
  have hg:b.getD i 0=b[i]:=by simp [hi]
  unfold wR at hp
  rw [hg,Bool.or_eq_false_iff,Bool.not_eq_false'] at hp
  rw [hst]
  simp only [aL,aF,eq_true (show ((i:Int)<(b.length:Int)) by omega),decide_true,bX,bV,aG hi,aI hi,li1,aC,hwl,CE,aD,bD,hp.1,Bool.not_true]
  by_cases h0:0<i
  ·have hg':b.getD (i - 1) 0=b[i - 1]:=by simp [show i - 1<b.length by omega]
   have hp2:=hp.2
   rw [decide_eq_true h0,Bool.true_and,hg',decide_eq_false_iff_not] at hp2
   have hw:=jU h0 (show i<9223372036854775807 by omega)
   simp only [eq_true (show (i:Int) > 0 by omega),decide_true,bX,hw,aG (show i - 1<b.length by omega),aI (show i - 1<b.length by omega),li1,aC,aL,eq_false hp2,decide_false,aV,bD,bV,aO (show i<9223372036854775807 by omega)]
  ·simp only [eq_false (show ¬(i:Int) > 0 by omega),decide_false,bV,aV,bD,aO (show i<9223372036854775807 by omega)]
 case s2 =>
  have hg:b.getD i 0=b[i]:=by simp [hi]
  unfold wR at hp
  rw [hg] at hp
  rw [hst]
  simp only [aL,aF,eq_true (show ((i:Int)<(b.length:Int)) by omega),decide_true,bX,aG hi,aI hi,li1,aC,hwl,CE,aD,bD]
  cases hw1:within b[i] 0 ((l.length:Int) - 1) with
  | false=>rfl
  | true =>
   rw [hw1,Bool.not_true,Bool.false_or,Bool.and_eq_true,decide_eq_true_eq,decide_eq_true_eq] at hp
   obtain ⟨h0,hp2⟩:=hp
   have hg':b.getD (i - 1) 0=b[i - 1]:=by simp [show i - 1<b.length by omega]
   rw [hg'] at hp2
   have hw:=jU h0 (show i<9223372036854775807 by omega)
   simp only [Bool.not_true,bV,eq_true (show (i:Int) > 0 by omega),decide_true,bX,hw,aG (show i - 1<b.length by omega),aI (show i - 1<b.length by omega),li1,aC,aL,eq_true hp2,aV,bD]
 ·have key:(List.range b.length).find? (wR l b)=none↔fO l b=true:=by
   rw [List.find?_eq_none]
   unfold fO
   rw [List.all_eq_true]
   refine forall_congr' fun i=>forall_congr' fun _=>?_
   simp
  cases hf:(List.range b.length).find? (wR l b) with
  | none=>rw [if_pos (key.1 hf)]
  | some i =>
   rw [if_neg]
   intro h
   rw [key.2 h] at hf;cases hf
theorem aCW {y:Yard} {l:List Int} {k:Int} (h:k=2∨k=4) (b:List Int):ill y l k b=gG y k (ofL l b):=by
 unfold ill gG
 rcases h with rfl | rfl <;> rfl
theorem QW {y:Yard} (hy:y.ok=true) {l:List Int} (hs:aQ y l=true) (n:Nat) (k:Int) (b:List Int) (hb:b.length<9223372036854775807) :
  D its (n+15) kY [.row 1 y.ps,.row 4 y.ks,.row 1 (ints l),ci k,.row 1 (ints b)]=some [cb (iC y l k b)]:=by
 have h8:=bF hs
 have h5:=(bM hy).1
 have h9:=CH hy hs
 rw [BT]
 unfold pL
 rw [aF]
 by_cases h0:b.length=0
 ·rw [show (((b.length:Nat):Int) == 0)=true by simp [h0],bX]
  unfold iC
  rw [decide_eq_false (show ¬b.length≠0 by omega)]
  cases fO l b <;> cases within k 1 4 <;> rfl
 rw [show (((b.length:Nat):Int) == 0)=false by rw [beq_eq_false_iff_ne];omega,bV]
 rw [show ((b.length:Nat):Int)=il (ints b) by rw [aF]]
 erw [aDV (its:=its) (n+13) (l:=l) (by omega) hb (fun v=>rfl)]
 unfold iC
 rw [decide_eq_true (show b.length≠0 from h0),Bool.and_true]
 cases hri:fO l b with
 | false=>rfl
 | true =>
  obtain ⟨g1,g2⟩:=wS hri
  have hbl:b.length≤8:=by
   have:=(zR g1 g2).length_le
   rw [cT] at this
   omega
  rw [if_pos rfl,bR,QV (its:=its) (n+13) g2 (by omega),aD,bI,aF,cT,Bool.true_and]
  by_cases h1:k=1
  ·subst h1
   rw [show ((1:Int) == 1)=true from rfl,bX]
   by_cases hb1:b.length=1
   ·match b,hb1 with
    | [i],_ =>
     have hi:=g2 i (by simp)
     simp only [ofL,List.map_cons,List.map_nil]
     rw [show (((([i]:List Int).length:Nat):Int) == 1)=true from rfl,bX]
     have hin:inb 0 (ints [l.getD i.toNat 0])=true:=rfl
     rw [hin,aC,show List.getD (ints [l.getD i.toNat 0]) 0 []=[ci (l.getD i.toNat 0)] from rfl,li1,aC,aL,IY (its:=its) (n+11) hy,aD,bD]
     have hib:ill y l 1 [i]=fW y (l.getD i.toNat 0):=by
      unfold ill big
      rw [if_pos rfl,show [i].headD 0=i from rfl,decide_eq_true (show [i].length=1 from rfl),Bool.true_and]
     rw [hib,show within 1 1 4=true from rfl,decide_eq_false (show ¬((1:Int)=2∨(1:Int)=4) by decide),Bool.false_and,Bool.not_false,Bool.and_true,Bool.true_and]
     cases fW y (l.getD i.toNat 0) <;> rfl
   ·rw [show (((b.length:Nat):Int) == 1)=false by rw [beq_eq_false_iff_ne];omega,bV]
    have:ill y l 1 b=false:=by unfold ill big;rw [if_pos rfl,decide_eq_false hb1];rfl
    rw [this];rfl
  rw [show (k == 1)=false by simp [h1],bV]
  by_cases h3:k=3
  ·subst h3
   rw [show ((3:Int) == 3)=true from rfl,bX,eV,aO (show y.pens.length<9223372036854775807 by omega)]
   have hill:ill y l 3 b=(cK y (ofL l b)&&decide (b.length=y.pens.length+1)):=rfl
   rw [hill]
   by_cases hbl2:b.length=y.pens.length+1
   ·rw [show ((b.length:Int) == ((y.pens.length+1:Nat):Int))=true by rw [beq_iff_eq];omega,bX,TD (its:=its) (n+11) hy (fun s hs=>h9 s (zI g2 hs)) (by rw [cT];omega),aD,bD,decide_eq_true hbl2,Bool.and_true]
    cases cK y (ofL l b) <;> rfl
   ·rw [show ((b.length:Int) == ((y.pens.length+1:Nat):Int))=false by rw [beq_eq_false_iff_ne];omega,bV,decide_eq_false hbl2,Bool.and_false]
    rfl
  rw [show (k == 3)=false by simp [h3],bV]
  by_cases h24:k=2∨k=4
  ·have hsq:bN (aB (k == 2) (some (.nx [cb (k == 2)])) (some (.nx [cb (k == 4)])))=fun K=>K [cb true]:=by
    funext K
    rcases h24 with rfl | rfl <;> rfl
   have hwk:within k 1 4=true:=by unfold within;simp;omega
   rw [hsq,decide_eq_true h24,hwk,Bool.true_and,Bool.true_and,aCW h24]
   simp only [bD,bX]
   have hob:=mU hs g2 hbl
   rw [NS (its:=its) n hy hob k,aD,bD]
   cases hbd:gG y k (ofL l b) with
   | false=>rfl
   | true =>
    rw [Bool.not_true,bV]
    have hls:less y l k b=(List.range b.length).any fun i=>gG y k (ofL l (b.eraseIdx i)):=by
     unfold less
     congr 1
     funext i
     exact aCW h24 _
    rw [dI b.length (fun i=>[ci (i:Int)]) (fun i=>gG y k (ofL l (b.eraseIdx i))) (fun _=>some (.ret [cb false])) (some (.br 3 [])) ?hv ?hR ?hX (fun i hi hp=>?s1) (fun i hi hp=>?s2) ?s3]
    case hv=>rfl
    case hR=>simp
    case hX=>simp
    case s3=>simp only [aL,eq_false (show ¬((b.length:Int)<(b.length:Int)) by omega),decide_false,bV]
    case s1 =>
     have hel:=List.length_eraseIdx_le b i
     simp only [aL,eq_true (show ((i:Int)<(b.length:Int)) by omega),decide_true,bX,wV (its:=its) (n+13) (ofL l b) (show i<(ofL l b).length by rw [cT];exact hi) (by rw [cT];omega),aD,bI,GC,NS (its:=its) n hy (mU hs (gN g2 i) (by omega)) k,bD,hp,bV,aO (show i<9223372036854775807 by omega)]
    case s2 =>
     have hel:=List.length_eraseIdx_le b i
     simp only [aL,eq_true (show ((i:Int)<(b.length:Int)) by omega),decide_true,bX,wV (its:=its) (n+13) (ofL l b) (show i<(ofL l b).length by rw [cT];exact hi) (by rw [cT];omega),aD,bI,GC,NS (its:=its) n hy (mU hs (gN g2 i) (by omega)) k,bD,hp]
    ·have key:(List.range b.length).find? (fun i=>gG y k (ofL l (b.eraseIdx i)))=none↔less y l k b=false:=by
      rw [List.find?_eq_none,hls,List.any_eq_false]
     cases hf:(List.range b.length).find? (fun i=>gG y k (ofL l (b.eraseIdx i))) with
     | none=>rw [key.1 hf];rfl
     | some i =>
      have:less y l k b=true:=by
       cases hc:less y l k b with
       | true=>rfl
       | false=>rw [key.2 hc] at hf;cases hf
      rw [this];rfl
  ·have hsq:bN (aB (k == 2) (some (.nx [cb (k == 2)])) (some (.nx [cb (k == 4)])))=fun K=>K [cb false]:=by
    funext K
    rw [show (k == 2)=false by simp;omega,show (k == 4)=false by simp;omega]
    rfl
   have hwk:within k 1 4=false:=by
    unfold within
    rw [Bool.eq_false_iff]
    intro h
    rw [Bool.and_eq_true,decide_eq_true_eq,decide_eq_true_eq] at h
    omega
   rw [hsq,hwk]
   rfl
theorem CZ (n:Nat) {y:Yard} (hf:Fit y) (l:List Int) (k:Int) (b:List Int) (hl:l.length<9223372036854775807) (hb:b.length<9223372036854775807) :
  D its (n+16) gF [.row 1 y.ps,.row 4 y.ks,.row 1 (ints l),ci k,.row 1 (ints b)]=some [ci (uP y l k b)]:=by
 rw [sM]
 unfold lC uP
 rw [nT (n+12) hf l hl,aD,aL]
 by_cases h:asked y l=0
 case neg=>rw [aAD h,bX,if_neg h];rfl
 obtain ⟨hy,hs⟩:=eN h
 rw [h,aDR,bV,if_pos rfl,QW hy hs n k b hb,aD,bD]
 cases iC y l k b <;> rfl
end Go.Proofs.Ythkfohoccnnphaa
namespace Go.Proofs.Ythkfohoccnnphaa
open Go Go.Sx Go.Pen
set_option maxRecDepth 10000
theorem WN {y:Yard} {l:List Int} {k:Int} {b:List Int} (h:iC y l k b=true):b.length≤l.length:=by
 unfold iC at h
 simp only [Bool.and_eq_true] at h
 obtain ⟨g1,g2⟩:=wS h.1.1
 have:=(zR g1 g2).length_le
 rwa [cT] at this
theorem QX {y:Yard} {l:List Int} (h:asked y l=0):(refuse y l).2.1.length<9223372036854775807:=by
 obtain ⟨hy,hs⟩:=eN h
 have h8:=bF hs
 cases hc:can y l with
 | true=>unfold refuse;rw [if_pos hc];simp
 | false =>
  have:=WN (DR hy (fH hy) hc).2
  omega
theorem IZ (n:Nat) (y:Yard) (l:List Int) (k:Int) (b:List Int) (hf:Fit y) (hl:l.length<100000000000000) (hb:b.length<100000000000000) :
  D its (n+17) kX [.row 1 y.ps,.row 4 y.ks,.row 1 (ints l),ci k,.row 1 (ints b)]=some [cb true]:=by
 rw [sP]
 unfold lE
 obtain ⟨k0,x,e,hx,h1,h2⟩:∃ k0 x e,x.length<9223372036854775807∧D its (n+16) eF [.row 1 y.ps,.row 4 y.ks,.row 1 (ints l)]=some [ci k0,.row 1 (ints x),ci e]∧D its (n+16) jW [.row 1 y.ps,.row 4 y.ks,.row 1 (ints l)]=some [ci k0,.row 1 (ints x),ci e]:=by
  rw [uN aAu (n+8) hf l (by omega),aAJ (its:=its) hf l (by omega) n]
  by_cases h:asked y l=0
  ·simp only [if_pos h];exact ⟨_,_,_,QX h,rfl,rfl⟩
  ·simp only [if_neg h];exact ⟨0,[],_,by simp,rfl,rfl⟩
 obtain ⟨z,d,hz,h3,h4⟩:∃ z d,z.length<9223372036854775807∧D its (n+16) hU [.row 1 y.ps,.row 4 y.ks,.row 1 (ints l)]=some [.row 1 (ints z),ci d]∧D its (n+16) jX [.row 1 y.ps,.row 4 y.ks,.row 1 (ints l)]=some [.row 1 (ints z),ci d]:=by
  rw [MV aAu (n+8) hf l (by omega),aAK (its:=its) hf l (by omega) (n+3)]
  by_cases h:asked y l=0
  ·simp only [if_pos h]
   obtain ⟨hy,hs⟩:=eN h
   have h8:=bF hs
   cases hx:rW y l with
   | some x=>exact ⟨x,0,by have:=QJ (rX (mL y l) hx).1;omega,rfl,rfl⟩
   | none=>exact ⟨[],53,by simp,rfl,rfl⟩
  ·simp only [if_neg h];exact ⟨[],_,by simp,rfl,rfl⟩
 simp only [h1,h2,h3,h4,aD,bI,dL,cA,aL,QM (its:=its) (n+15) x x hx,QM (its:=its) (n+15) z z hz,decide_true,bD,beq_self_eq_true,bX,CY (n+8) hf l k b (by omega) (by omega),CZ (its:=its) n hf l k b (by omega) (by omega),WD (n+6)]
 rfl
end Go.Proofs.Ythkfohoccnnphaa
namespace Go.Proofs.Ythkfohoccnnphaa
open Go Go.Sx Go.Pen Go.ChangeShapes Go.WideShapes Go.ChangeAt Go.RowKit
set_option maxRecDepth 100000
theorem yW (css:List (List CV)) (h:nI Try.prog 6 Try.f11.params.toList css):SpecR Try.prog 11 (xL Try.prog Try.f11.params.toList css) (.cv (cb true)):=by
 rw [Try.params11] at h ⊢
 match css,h with
 | [c1,c2,c3],h =>
  simp only [nI,and_true] at h
  obtain ⟨h1,h2,h3⟩:=h
  obtain ⟨y0,hy0,rfl⟩:=aAw h1
  obtain ⟨l1,hl1,rfl⟩:=CP h2
  obtain ⟨k2,p2,hp2,rfl⟩:=aB4 h3
  exact aB3 (g:=aDo.g) rfl (IZ 0 y0 l1 k2 p2 hy0 hl1 hp2)
 | [],h=>simp [nI] at h
 | [_],h=>simp [nI] at h
 | [_,_],h=>simp [nI] at h
 | _::_::_::_::_,h=>simp [nI] at h
theorem uS (os:Os) (started:os.Started) (H:Type) (enc:TypeId×Value→H) :
  ReturnsInHanded {} Try.checked os 11 .any (Rows.penRefusesSpec.pre6 enc Try.prog Try.f11 Rows.penRefusesRow.domain false) (Rows.penRefusesSpec.post enc Try.prog Try.f11 false true false false):=
 ZN (C:=Try.checked) (tb:=4) 6 Try.own started (by kernel_rfl) Try.func11 Try.kids Try.full
  (by rw [Try.params11];intro t ht;simp only [List.mem_cons,List.not_mem_nil,or_false] at ht;rcases ht with rfl | rfl | rfl <;> exact of_decide_eq_true (by kernel_rfl))
  (by kernel_rfl) (by rfl) Try.underlying4 rfl
  (fun ds h=>by
   rw [Try.params11] at h
   match ds,h with
   | [_,_,_],_=>rfl)
  (ChangeSpec.witness6 (enc:=enc) (C:=Try.checked) false ⟨#[],#[.agg #[.slice none 0 0,.slice none 0 0],.slice none 0 0,.agg #[.int .i64 0,.slice none 0 0]],[]⟩ 8 (by kernel_rfl) (by kernel_rfl) (by kernel_rfl) (by kernel_rfl))
  yW
theorem penRefuses_holds:Rows.PenRefusesSaid:=
 OpenClaim.holds_of_wide 11 Try.f11 rfl rfl rfl rfl rfl rfl rfl ⟨rfl,rfl,rfl,rfl,rfl⟩ rfl rfl rfl rfl rfl (by kernel_rfl) Try.func11 (by kernel_rfl)
  (of_decide_eq_true (by kernel_rfl)) (by unfold Func.isWrapper;first | (rw [if_pos (by decide +kernel)];kernel_rfl) | (rw [if_neg (by decide +kernel)];exact ⟨rfl,rfl⟩))
  (fun os started H enc _=>uS os started H enc)
end Go.Proofs.Ythkfohoccnnphaa
