/-
 What the beasts of a pound have lU by their pens is what they are charged for, and those who stand in the pens are those who are inside: at every input, without any condition.
-/
import Derived.KernelRfl
import Derived.Test.YtnnifohchhjkhaaProg
import Derived.Test.YtnnifohchhjkhaaRows
import Derived.Test.YtnnifohchhjkhaaP11
namespace Go.Proofs.Ytnnifohchhjkhaa
open Go Go.Sx Go.Pen
set_option maxRecDepth 100000
open Classical in
noncomputable def PY:List CV→Option (List CV)
 | [.row 1 es,.fn 3 [],.val (.int .i64 lo),.val (.int .i64 hi)]=>if es=ints (ER es)∧0≤lo∧lo<es.length∧hi=lo+1 then some [.row 1 (ints ((ER es).eraseIdx lo.toNat)),.val (.bool true)] else none
 | _=>none
theorem aB7 {f:Nat} {it:List CV→Option (List CV)} (h:∀ caps out,it caps=some out→∃ es cs es' hdr,caps=.row 1 es::.fn 3 []::cs∧out=[.row 1 es',.val (.bool hdr)]∧dM Try.prog f=true∧QU Try.prog f 3 1 cs es es' hdr):KW f it:=by
 intro caps out ho
 obtain ⟨es,cs,es',hdr,rfl,rfl,he,hm⟩:=h caps out ho
 refine ⟨fun rows sh hr=>by simp at hr,fun xs hx=>by simp [intsOf] at hx,fun k e T hr=>by simp at hr,fun T k cs1 e e' hd h1 h2=>?_,fun k T b h1=>by simp at h1,fun T fs h1=>by simp at h1⟩
 simp only [List.cons.injEq,CV.row.injEq,CV.fn.injEq,CV.val.injEq,Value.bool.injEq,and_true] at h1 h2
 obtain ⟨⟨rfl,rfl⟩,rfl,rfl⟩:=h1
 obtain ⟨⟨_,rfl⟩,rfl⟩:=h2
 exact ⟨he,hm⟩
theorem aDJ:KW 57 PY:=aB7 fun caps out h=>by
 unfold PY at h
 split at h
 ·rename_i es lo hi
  split at h
  ·rename_i hc
   obtain ⟨he,h0,h1,rfl⟩:=hc
   cases h
   have hl:(ER es).length=es.length:=by simp [ER]
   obtain ⟨m,rfl⟩:∃ m:Nat,lo=m:=⟨lo.toNat,by omega⟩
   have:=aGZ (ER es) m (by omega)
   rw [← he] at this
   exact ⟨es,_,_,true,rfl,rfl,by kernel_rfl,this⟩
  ·cases h
 ·cases h
def WC:List CV→Option (List CV)
 | [.fn 121 [],.fn 51 [],.fn 52 [],.fn 54 [],.fn 55 []]=>some [.fn 0 []]
 | _=>none
theorem aDK:KW 56 WC:=by
 intro caps out h
 unfold WC at h
 split at h
 ·cases h
  refine ⟨fun rows sh hr=>by simp at hr,fun xs hx=>by simp [intsOf] at hx,fun k e T hr=>by simp at hr,fun T k cs1 e e' hd h1=>by simp at h1,fun k T b h1=>by simp at h1,fun T fs h1 _=>?_⟩
  simp only [List.cons.injEq,CV.fn.injEq,and_true] at h1
  obtain ⟨rfl,h1⟩:=h1
  have h2:fs=[51,52,54,55]:=by
   match fs,h1 with
   | [a,b,c,d],h1=>simpa [eq_comm] using h1
   | [],h1=>simp at h1
   | [_],h1=>simp at h1
   | [_,_],h1=>simp at h1
   | [_,_,_],h1=>simp at h1
   | _::_::_::_::_::_,h1=>simp at h1
  subst h2
  exact ⟨by kernel_rfl,aER⟩
 ·cases h
theorem aB8:KW 102 rB:=by
 intro caps out h
 have hl:∃ l:List Int,out=l.map ci:=by
  unfold rB at h
  split at h
  ·split at h
   ·cases h;exact ⟨_,rfl⟩
   ·cases h
  ·cases h
 refine ⟨fun rows sh hr=>?_,fun xs hx=>aDg caps _ h xs hx,fun k es T hr=>?_,fun T k cs e e' hd h1 hr=>?_,fun k T b _ hr=>?_,fun T fs _ hr=>?_⟩ <;>
 ·obtain ⟨l,rfl⟩:=hl
  rcases l with _ | ⟨a,l⟩ <;> simp [ci] at hr
noncomputable def its:ITS:=[(58,lB),(100,IJ),(84,IL),(57,PY),(102,rB),(56,WC)]
theorem aFb:UO Try.prog its:=by
 intro e he
 simp only [its,List.mem_cons,List.not_mem_nil,or_false] at he
 rcases he with rfl | rfl | rfl | rfl | rfl | rfl
 ·exact IC
 ·exact aDH
 ·exact aDI
 ·exact aDJ
 ·exact aB8
 ·exact aDK
theorem aDL (n:Nat):Fns Try.prog sg (D its n):=UP aFb (by constructor <;> kernel_rfl) aD4 n
theorem aG0 (n:Nat) (vs:List CV):D its (n+1) 84 vs=IL vs:=by kernel_rfl
theorem aG1 (n:Nat) (vs:List CV):D its (n+1) 57 vs=PY vs:=by kernel_rfl
theorem aFc (n:Nat) (vs:List CV):D its (n+1) 102 vs=rB vs:=by kernel_rfl
theorem aG2 (n:Nat) (vs:List CV):D its (n+1) 56 vs=WC vs:=by kernel_rfl
theorem aG3 (n:Nat) (vs:List CV):D its (n+1) 58 vs=lB vs:=by kernel_rfl
theorem aDM:ItsM its where
 all n y l hy hs:=by
  show IJ _=_
  exact aB4 hy hs
 lists n k many hk h0 hm:=by
  rw [aG0]
  exact aB5 hk h0 hm
 del n l i hi hl:=by
  rw [aG1]
  simp only [PY,ci]
  rw [if_pos (by rw [sE,bJ];refine ⟨rfl,?_,?_,?_⟩ <;> omega),sE]
  simp
theorem aDN {f:FuncId} {g:Sig} {vs out:List CV} {n:Nat} (hg:sg f=some g) (h:D its n f vs=some out):SpecR Try.prog f (Sc.avs g.ps vs 0) (Sc.res g.rs out):=(aDL n).spec f g vs out hg h
end Go.Proofs.Ytnnifohchhjkhaa
namespace Go.Proofs.Ytnnifohchhjkhaa
open Go Go.Sx Go.Pen
set_option maxRecDepth 10000
theorem lC (x y:Option Ou):aB true x y=x:=rfl
theorem fI (x y:Option Ou):aB false x y=y:=rfl
theorem aFd (n:Nat):D its (n+1) 56 [CV.fn 121 [],CV.fn 51 [],CV.fn 52 [],CV.fn 54 [],CV.fn 55 []]=some [.fn 0 []]:=by rw [aG2];rfl
theorem aFe (n:Nat) {l:List Int} (h:l.length<1000000):D its (n+1) 58 [.row 1 (ints l)]=some [.row 1 (ints l),.fn 3 []]:=by
 rw [aG3]
 show lB [.row 1 (ints l)]=_
 simp [lB,h]
theorem WD (n:Nat) {y:Yard} (hy:y.ok=true) {l:List Int} (hs:bF y l=true) {tr:MA} (hk:Kept y tr) {k:Int} (h1:1≤k∧k≤4) {by_:List Int} (hb:inR l by_) (h8:by_.length≤8)
  {pre:(List (List CV)→Option Ou)→Option Ou} {K0:Option Ou→Option Ou} (hpre:∀ F,pre F=K0 (F (ints by_))) :
  ∃ tr',Kept y tr'∧aBC (D its (n+2)) (pc y) (ints l) k (gW tr) pre=K0 (some (.ret [cb (ill y l k by_),.row 11 (gW tr')])):=by
 have h9:=aBS hy hs
 have hw:wr (k - 1)=k - 1:=by rw [bE] <;> omega
 unfold aBC
 rw [aFd,aD,show isW [CV.fn 0 []]=true from rfl,aE,hw]
 simp only [eq_true (show (0:Int)≤k - 1 by omega),eq_true (show k - 1<4 by omega),decide_true,Bool.and_self,aE,hpre]
 have hk4:k=1∨k=2∨k=3∨k=4:=by omega
 rcases hk4 with rfl | rfl | rfl | rfl
 ·refine ⟨tr,hk,?_⟩
  rw [show ((1:Int) - 1 == 0)=true from rfl,lC,VZ _ hy h9 hb]
  rfl
 ·refine ⟨tr,hk,?_⟩
  rw [show ((2:Int) - 1 == 0)=false from rfl,show ((2:Int) - 1 == 1)=true from rfl,fI,lC,PV (its:=its) _ n hy h9 hb (by omega)]
  rfl
 ·refine ⟨tr,hk,?_⟩
  rw [show ((3:Int) - 1 == 0)=false from rfl,show ((3:Int) - 1 == 1)=false from rfl,show ((3:Int) - 1 == 2)=true from rfl,fI,fI,lC,PX (its:=its) _ (n+1) hy h9 hb (by omega)]
  rfl
 ·obtain ⟨tr',ht',e⟩:=II (its:=its) aDM n hy hs hb h8 hk
  refine ⟨tr',ht',?_⟩
  rw [show ((4:Int) - 1 == 0)=false from rfl,show ((4:Int) - 1 == 1)=false from rfl,show ((4:Int) - 1 == 2)=false from rfl,fI,fI,fI,e]
  rfl
theorem IQ (n:Nat) {y:Yard} (hy:y.ok=true) {l:List Int} (hs:bF y l=true) {k:Int} (h1:1≤k∧k≤4) {b:List Int} (hb:inR l b) (h8:b.length≤8):∀ (m i:Nat) (tr:MA),i+m=b.length→Kept y tr →
  (if (List.range' i m).any (fun j=>ill y l k (b.eraseIdx j))=true then aG (zZ (D its (n+2)) (pc y) (ints l) (ints b) k) [ci (i:Int),.row 11 (gW tr)]=some (.ret [ci 54])
   else ∃ vs,aG (zZ (D its (n+2)) (pc y) (ints l) (ints b) k) [ci (i:Int),.row 11 (gW tr)]=some (.br 2 [.row 11 vs]))
 | 0,i,tr,hm,ht=>by
  rw [if_neg (by simp)]
  refine ⟨gW tr,bS ?_ (by simp)⟩
  unfold zZ
  simp only [aZ,aK,eq_false (show ¬((i:Int)<(b.length:Int)) by omega),decide_false,fI,dY,bN]
 | m+1,i,tr,hm,ht=>by
  have hi:i<b.length:=by omega
  have hel:=List.length_eraseIdx_of_lt hi
  have hd:=aDM.del (n+1) b i hi (by omega)
  obtain ⟨tr',ht',e⟩:=WD (n:=n) hy hs ht h1 (nT hb i) (by omega)
   (pre:=fun F=>aC (D its (n+2) 58 [CV.row 1 (ints b)]) fun v6=>chk (JP 1 3 v6)<|aC (D its (n+2) 57 ([CV.row 1 (gr v6 0),CV.fn 3 [],ci (i:Int),ci (wr ((i:Int)+1))])) fun v7=>chk (xN 1 true v7)<|dD (F (gr v7 0)) fun v8=>aB (gb v8 0) (some (.ret [ci 54])) (some (.nx [ci (wr ((i:Int)+1)),CV.row 11 (gr v8 1)])))
   (K0:=fun X=>dD X fun v8=>aB (gb v8 0) (some (.ret [ci 54])) (some (.nx [ci (wr ((i:Int)+1)),CV.row 11 (gr v8 1)]))) (fun F=>by
    simp only [aFe (n+1) (show b.length<1000000 by omega),aD,bN,aQ (show i<9223372036854775807 by omega),hd]
    rfl)
  have hstep:zZ (D its (n+2)) (pc y) (ints l) (ints b) k [ci (i:Int),.row 11 (gW tr)]=if ill y l k (b.eraseIdx i)=true then some (.ret [ci 54]) else some (.nx [ci ((i+1:Nat):Int),.row 11 (gW tr')]):=by
   unfold zZ
   simp only [aZ,dE,aK,eq_true (show ((i:Int)<(b.length:Int)) by omega),decide_true,lC,dY,bN]
   rw [e]
   simp only [bL,cY,dY,bN,aQ (show i<9223372036854775807 by omega)]
   cases ill y l k (b.eraseIdx i) <;> rfl
  rw [List.range'_succ,List.any_cons]
  cases hc:ill y l k (b.eraseIdx i) with
  | true =>
   rw [hc,if_pos rfl] at hstep
   rw [Bool.true_or,if_pos rfl]
   exact bS hstep (by simp)
  | false =>
   rw [hc,if_neg (by simp)] at hstep
   rw [Bool.false_or,eA hstep]
   exact IQ n hy hs h1 hb h8 m (i+1) tr' (by omega) ht'
theorem ZR (n:Nat) {l:List Int} (hl:l.length<1000000) {b:List Int} (hb:b.length<9223372036854775807):aG (PI (D its (n+1)) (ints l) (ints b)) [ci 0]=if lW l b=true then some (.br 0 []) else some (.ret [ci 54]):=by
 have hwl:wr ((l.length:Int) - 1)=(l.length:Int) - 1:=by rw [bE] <;> omega
 rw [hZ b.length (fun i=>[ci (i:Int)]) (OJ l b) (fun _=>some (.ret [ci 54])) (some (.br 0 [])) ?hv ?hR ?hX (fun i hi hp=>?s1) (fun i hi hp=>?s2) ?s3]
 case hv=>rfl
 case hR=>simp
 case hX=>simp
 case s3 =>
  unfold PI
  simp only [aZ,aK,eq_false (show ¬((b.length:Int)<(b.length:Int)) by omega),decide_false,fI]
 case s1 =>
  have hg:b.getD i 0=b[i]:=by simp [hi]
  unfold OJ at hp
  rw [hg,Bool.or_eq_false_iff,Bool.not_eq_false'] at hp
  unfold PI
  simp only [aZ,aK,eq_true (show ((i:Int)<(b.length:Int)) by omega),decide_true,lC,fI,aW hi,bI hi,li1,aE,hwl,TJ,aD,cY,hp.1,Bool.not_true]
  by_cases h0:0<i
  ·have hg':b.getD (i - 1) 0=b[i - 1]:=by simp [show i - 1<b.length by omega]
   have hp2:=hp.2
   rw [decide_eq_true h0,Bool.true_and,hg',decide_eq_false_iff_not] at hp2
   have hw:=jT h0 (show i<9223372036854775807 by omega)
   simp only [eq_true (show (i:Int) > 0 by omega),decide_true,lC,hw,aW (show i - 1<b.length by omega),bI (show i - 1<b.length by omega),li1,aE,aZ,eq_false hp2,decide_false,cJ,cY,fI,aQ (show i<9223372036854775807 by omega)]
  ·simp only [eq_false (show ¬(i:Int) > 0 by omega),decide_false,fI,cJ,cY,aQ (show i<9223372036854775807 by omega)]
 case s2 =>
  have hg:b.getD i 0=b[i]:=by simp [hi]
  unfold OJ at hp
  rw [hg] at hp
  unfold PI
  simp only [aZ,aK,eq_true (show ((i:Int)<(b.length:Int)) by omega),decide_true,lC,aW hi,bI hi,li1,aE,hwl,TJ,aD,cY]
  cases hw1:within b[i] 0 ((l.length:Int) - 1) with
  | false=>rfl
  | true =>
   rw [hw1,Bool.not_true,Bool.false_or,Bool.and_eq_true,decide_eq_true_eq,decide_eq_true_eq] at hp
   obtain ⟨h0,hp2⟩:=hp
   have hg':b.getD (i - 1) 0=b[i - 1]:=by simp [show i - 1<b.length by omega]
   rw [hg'] at hp2
   have hw:=jT h0 (show i<9223372036854775807 by omega)
   simp only [Bool.not_true,fI,eq_true (show (i:Int) > 0 by omega),decide_true,lC,hw,aW (show i - 1<b.length by omega),bI (show i - 1<b.length by omega),li1,aE,aZ,eq_true hp2,cJ,cY]
 ·have key:(List.range b.length).find? (OJ l b)=none↔lW l b=true:=by
   rw [List.find?_eq_none]
   unfold lW
   rw [List.all_eq_true]
   refine forall_congr' fun i=>forall_congr' fun _=>?_
   simp
  cases hf:(List.range b.length).find? (OJ l b) with
  | none=>rw [if_pos (key.1 hf)]
  | some i =>
   rw [if_neg]
   intro h
   rw [key.2 h] at hf;cases hf
theorem ES (n:Nat) {y:Yard} (hf:Fit y) (l:List Int) (k:Int) (b:List Int) (hl:l.length<9223372036854775807) (hb:b.length<9223372036854775807) :
  D its (n+8) eW [.row 1 y.ps,.row 4 y.ks,.row 1 (ints l),ci k,.row 1 (ints b)]=some [ci (vY y l k b)]:=by
 rw [uK]
 unfold aBD vY
 have hask:=BR (its:=its) n y l hf.p hf.k hl
 change D its (n+7) 46 _=_ at hask
 rw [hask]
 by_cases h:asked y l=0
 ·obtain ⟨hy,hs⟩:=gN h
  have h8:=jL hs
  simp only [h,beq_self_eq_true,kI,if_true,aD,dE,aZ,List.getD_cons_zero,uL,EK,aE]
  rw [show ((0:Int) != 0)=false from rfl,fI,ZR (n+6) (by omega) hb]
  unfold mZ
  cases hri:lW l b with
  | false=>rfl
  | true =>
   obtain ⟨g1,g2⟩:=HS hri
   have hbl:b.length≤8:=by
    have:=(VE g1 g2).length_le
    rw [mQ] at this
    omega
   have hin:D its (n+7) 33 [ci k,ci 1,ci 4]=some [cb (within k 1 4)]:=TJ (n+6) k 1 4
   rw [if_pos rfl,cD,hin,aD,cY]
   cases hwk:within k 1 4 with
   | false=>rfl
   | true =>
    have hk4:=hwk
    simp only [within,Bool.and_eq_true,decide_eq_true_eq] at hk4
    rw [Bool.not_true,fI,aK]
    by_cases h0:b.length=0
    ·rw [show (((b.length:Nat):Int) == 0)=true by simp [h0],lC,decide_eq_false (show ¬b.length≠0 by omega)]
     rfl
    ·rw [show (((b.length:Nat):Int) == 0)=false by rw [beq_eq_false_iff_ne];omega,fI,decide_eq_true h0]
     obtain ⟨tr,ht,e⟩:=WD (n:=n+5) hy hs (Kept.nil y) hk4 g2 hbl (pre:=fun F=>dD (F (ints b)) fun v4=>some (.nx [cb (!(gb v4 0)),CV.row 11 (gr v4 1)])) (K0:=fun X=>dD X fun v4=>some (.nx [cb (!(gb v4 0)),CV.row 11 (gr v4 1)])) (fun F=>rfl)
     change aBC (D its (n+7)) (pc y) (ints l) k [] _=_ at e
     rw [e]
     simp only [bL,cJ,cY,dY,bN]
     cases hil:ill y l k b with
     | false=>rfl
     | true =>
      rw [Bool.not_true,fI]
      by_cases h24:k=2∨k=4
      ·have h3:aJ (aB (k == 2) (some (.nx [cb true])) (some (.nx [cb (k == 4)])))=fun K=>K [cb true]:=by
        funext K
        rcases h24 with rfl | rfl <;> rfl
       rw [h3]
       simp only [cY,lC]
       have hlp:=IQ (n+5) hy hs hk4 g2 hbl b.length 0 tr (by omega) ht
       rw [decide_eq_true h24]
       have hls:less y l k b=(List.range' 0 b.length).any (fun j=>ill y l k (b.eraseIdx j)):=by unfold less;rw [List.range_eq_range']
       rw [hls]
       cases hany:(List.range' 0 b.length).any (fun j=>ill y l k (b.eraseIdx j)) with
       | true =>
        rw [hany,if_pos rfl] at hlp
        change aG (zZ (D its (n+7)) (pc y) (ints l) (ints b) k) [ci 0,CV.row 11 (gW tr)]=_ at hlp
        rw [hlp]
        rfl
       | false =>
        rw [hany,if_neg (by simp)] at hlp
        obtain ⟨vs,hlp⟩:=hlp
        change aG (zZ (D its (n+7)) (pc y) (ints l) (ints b) k) [ci 0,CV.row 11 (gW tr)]=_ at hlp
        rw [hlp]
        rfl
      ·have h3:aJ (aB (k == 2) (some (.nx [cb true])) (some (.nx [cb (k == 4)])))=fun K=>K [cb false]:=by
        funext K
        rw [show (k == 2)=false by simp;omega,show (k == 4)=false by simp;omega]
        rfl
       rw [h3,decide_eq_false h24]
       rfl
 ·simp only [aD,dE,aZ,if_neg h]
  rw [show (asked y l != 0)=true by simp [h]]
  rfl
end Go.Proofs.Ytnnifohchhjkhaa
namespace Go.Proofs.Ytnnifohchhjkhaa
open Go Go.Sx Go.Pen Go.Feed
set_option maxRecDepth 10000
variable {its:ITS}
theorem aG4 {a m:Int} (h0:0<m) (h1:m≤1000000):Int.tmod (wr ((Int.tmod a m)+m)) m=a % m:=by
 have h2:=Int.tmod_lt_of_pos a h0
 have h3:-m<Int.tmod a m:=by
  have:=Int.tmod_lt_of_pos (-a) h0
  rw [Int.neg_tmod] at this;omega
 have hw:wr (Int.tmod a m+m)=Int.tmod a m+m:=by rw [bE] <;> omega
 rw [hw,Int.tmod_eq_emod_of_nonneg (by omega),Int.add_emod_right]
 have h4:=Int.tmod_add_mul_tdiv a m
 have h5:Int.tmod a m=a+m*(-(Int.tdiv a m)):=by rw [Int.mul_neg];omega
 rw [h5,Int.add_mul_emod_self_left]
theorem pQ (n:Nat) (a:Int) {m:Int} (h0:0<m) (h1:m≤1000000):D its (n+1) cH [ci a,ci m]=some [ci (a % m)]:=by
 rw [YX]
 unfold HV
 have:(m != 0)=true:=by simp;omega
 rw [this,aG4 h0 h1]
 rfl
theorem aB9 (n:Nat) (l:List Int) (x:Int) (hl:l.length<9223372036854775807):D its (n+1) nU [.row 1 (ints l),ci x]=some [cb (l.any fun y=>decide (y=x))]:=by
 rw [YY]
 unfold HW
 rw [tV (fun y=>decide (y=x)) (fun _=>some (.ret [cb true])) (some (.br 0 [])) l (fun i=>[ci (i:Int)]) ?hv ?hR ?hX (fun i hi hp=>?h1) (fun i hi hp=>?h2) ?h3]
 case hv=>rfl
 case hR=>simp
 case hX=>simp
 case h3=>simp [ints]
 case h1 =>
  have hw:=aQ (show i<9223372036854775807 by omega)
  simp at hp
  simp [hi,ints,aR,bK,hw,hp]
 case h2 =>
  simp at hp
  simp [hi,ints,aR,bK,hp]
 ·have key:(l.any fun y=>decide (y=x))=(l.find? fun y=>decide (y=x)).isSome:=by rw [List.isSome_find?]
  rw [key]
  cases l.find? (fun y=>decide (y=x)) <;> rfl
theorem PZ {A B:Type} (f:Nat→A→B) {l:List A} {i:Nat} (h:i<l.length):(l.mapIdx f).take (i+1)=(l.mapIdx f).take i++[f i l[i]]:=by
 rw [← List.take_append_getElem (by simpa using h)]
 simp
theorem aFf (x:T3):oks [li,li,li] x.cv 0=true:=rfl
theorem aCa (x:T4):oks (List.replicate 4 li) x.cv 0=true:=rfl
theorem WE (x:Fine.Held):oks (List.replicate 9 li) x.cv 0=true:=rfl
theorem US (a b:Bool):aJ (aB a (some (.nx [cb b])) (some (.nx [cb false])))=fun K=>K [cb (a&&b)]:=by
 funext K
 cases a <;> rfl
theorem aCb (a b c:Bool):aJ (aB a (aB b (some (.nx [cb c])) (some (.nx [cb false]))) (some (.nx [cb false])))=fun K=>K [cb (a&&b&&c)]:=by
 funext K
 cases a <;> cases b <;> rfl
theorem ZS (ks:List T3) (ss:List T4):(bU ks ss).length≤8:=by unfold bU;simp;omega
theorem aCc (n:Nat) (xs:List Int) (ks:List T3) (ss ns:List T4) (h1:xs.length<100000000000000) (h2:ks.length<100000000000000) (h3:ss.length<100000000000000) (h4:ns.length<100000000000000) :
  D its (n+2) oQ [.row 1 (ints xs),.row 3 (ks.map T3.cv),.row 4 (ss.map T4.cv),.row 4 (ns.map T4.cv)]=some [.row 1 (kL xs ks).ps,.row 4 (kL xs ks).ks,.row 24 [tar.cv],.row 9 ((bU ks ss).map Fine.Held.cv),.row 7 ((told (bU ks ss) ns).map Fine.Note.cv)]:=by
 rw [KG]
 unfold wC
 simp only [US,aCb]
 rw [(cE (xs.take 4) (fun i (_:Unit)=>[ci (i:Int),.row 4 [],.row 1 (ints ((fO xs).take i))]) (fun _ _=>()) (fun _ _=>True) 0 (fun _=>[.row 4 [],.row 1 (ints (fO xs))]) () ?hv trivial ?hs ?he).1]
 case hv=>rfl
 case hs =>
  intro i hi _ _
  refine ⟨?_,trivial⟩
  have hi1:i<xs.length:=by simp at hi;omega
  have hi4:i<4:=by simp at hi;omega
  have hp:i<(fO xs).length:=by unfold fO;simpa using hi
  have hg:(fO xs)[i]=xs[i] % 12:=by unfold fO;simp
  rw [← List.take_append_getElem hp,hg]
  have hl:(ints ((fO xs).take i)).length=i:=by rw [bJ,List.length_take];omega
  simp only [aZ,dE,dY,bN,aK,cY,eq_true (show ((i:Int)<(xs.length:Int)) by omega),eq_true (show ((i:Int)<4) by omega),decide_true,Bool.and_self,aB,aW hi1,bI hi1,li1,aE,pQ (its:=its) n xs[i] (show (0:Int)<12 by omega) (by omega),aD,hl,show cX i 1 8=true from dZ (by omega) (by omega),vL,vK,List.take_succ_cons,List.take_zero,jJ,aQ (show i<9223372036854775807 by omega)]
 case he =>
  intro _ _
  have hnb:((decide (((xs.take 4).length:Int)<(xs.length:Int)))&&(decide (((xs.take 4).length:Int)<4)))=false:=by
   rw [Bool.and_eq_false_iff,decide_eq_false_iff_not,decide_eq_false_iff_not,List.length_take];omega
  have ht:(fO xs).take (xs.take 4).length=fO xs:=List.take_of_length_le (by unfold fO;simp)
  simp only [aZ,dY,bN,aK,cY,hnb,aB,ht]
 simp only [cD,bN,dY]
 rw [(cE [1,2,3] (fun i (_:Unit)=>[ci ((i:Int)+1),.row 4 (([kd3 ks 1,kd3 ks 2,kd3 ks 3].take i).map Kd.cv),.row 1 (ints (fO xs))]) (fun _ (_:Nat)=>()) (fun _ _=>True) 2 (fun _=>[.row 4 ((kL xs ks).ks),.row 1 (ints (fO xs))]) () ?kv trivial ?ks ?ke).1]
 case kv=>rfl
 case ks =>
  intro i hi _ _
  refine ⟨?_,trivial⟩
  have hi3:i<3:=hi
  have hkl:i<[kd3 ks 1,kd3 ks 2,kd3 ks 3].length:=hi3
  have hg:[kd3 ks 1,kd3 ks 2,kd3 ks 3][i]=kd3 ks (i+1):=by
   have:i=0∨i=1∨i=2:=by omega
   rcases this with rfl | rfl | rfl <;> rfl
  rw [← List.take_append_getElem hkl,hg,List.map_append]
  have hl:(([kd3 ks 1,kd3 ks 2,kd3 ks 3].take i).map Kd.cv).length=i:=by rw [List.length_map,List.length_take];simp;omega
  have hsel:∀ K:List CV→Option Ou,aJ (aB (decide ((il (ks.map T3.cv)) > 0)) (chk ((il (ks.map T3.cv)) != 0)<|chk (inb (Int.tmod ((i:Int)+1) (il (ks.map T3.cv))) (ks.map T3.cv))<|chk (oks [li,li,li] (el (ks.map T3.cv) (Int.tmod ((i:Int)+1) (il (ks.map T3.cv)))) 0)<|some (.nx [ci (gi (el (ks.map T3.cv) (Int.tmod ((i:Int)+1) (il (ks.map T3.cv)))) 0),ci (gi (el (ks.map T3.cv) (Int.tmod ((i:Int)+1) (il (ks.map T3.cv)))) 1),ci (gi (el (ks.map T3.cv) (Int.tmod ((i:Int)+1) (il (ks.map T3.cv)))) 2)])) (some (.nx [ci 0,ci 0,ci 0]))) K=K (k3 ks (i+1)).cv:=by
   intro K
   rw [mX]
   by_cases h0:ks=[]
   ·subst h0;rfl
   ·have hp:0<ks.length:=List.length_pos_iff.2 h0
    have hm:Int.tmod ((i:Int)+1) (ks.length:Int)=(((i+1) % ks.length:Nat):Int):=by
     rw [Int.tmod_eq_emod_of_nonneg (by omega)];rfl
    have hlt:(i+1) % ks.length<ks.length:=Nat.mod_lt _ hp
    have hk:k3 ks (i+1)=ks[(i+1) % ks.length]:=by unfold k3;rw [if_neg h0];simp [hlt]
    rw [decide_eq_true (show (ks.length:Int) > 0 by omega),show ((ks.length:Int) != 0)=true by simp;omega,hm,aR hlt,bK hlt,aFf,hk]
    rfl
  have hw:wr ((i:Int)+1+1)=((i+1:Nat):Int)+1:=by rw [bE] <;> omega
  have hw1:wr (1+(k3 ks (i+1)).a % 6)=1+(k3 ks (i+1)).a % 6:=by rw [bE] <;> omega
  have hw2:wr (2*((k3 ks (i+1)).c % 8))=2*((k3 ks (i+1)).c % 8):=by rw [bE] <;> omega
  simp only [aZ,dE,dY,bN,eq_true (show ((i:Int)+1≤3) by omega),decide_true,lC,hsel]
  simp only [T3.cv,aZ,dE,pQ (its:=its) n _ (show (0:Int)<6 by omega) (by omega),pQ (its:=its) n _ (show (0:Int)<40 by omega) (by omega),pQ (its:=its) n _ (show (0:Int)<8 by omega) (by omega),aD,hl,show cX i 1 32=true from dZ (by omega) (by omega),aE,hw,hw1,hw2]
  rfl
 case ke =>
  intro _ _
  rfl
 simp only [cD,bN,dY]
 rw [eA (vs':=[ci 2,ci 0,ci 0,ci 5,ci 0,ci 0,ci 0,ci 0,ci 0,ci 0,ci 0,ci 0,ci 0,ci 2,ci 0,ci 0,ci 0,ci 0,ci 0,ci 0,ci 0,ci 0,ci 10,ci 12,ci 7]) (by rfl)]
 rw [eA (vs':=[ci 3,ci 0,ci 0,ci 5,ci 10,ci 0,ci 0,ci 0,ci 0,ci 0,ci 0,ci 0,ci 0,ci 2,ci 4,ci 0,ci 0,ci 0,ci 0,ci 0,ci 0,ci 0,ci 10,ci 12,ci 7]) (by rfl)]
 rw [eA (vs':=[ci 4,ci 0,ci 0,ci 5,ci 10,ci 15,ci 0,ci 0,ci 0,ci 0,ci 0,ci 0,ci 0,ci 2,ci 4,ci 6,ci 0,ci 0,ci 0,ci 0,ci 0,ci 0,ci 10,ci 12,ci 7]) (by rfl)]
 rw [bS (r:=some (.br 4 tar.cv)) (by rfl) (by simp)]
 rw [cD]
 have hcis:cis tar.cv 0 24=tar.cv:=rfl
 have hchk:aS 24 1 tar.cv=[tar.cv]:=rfl
 simp only [hcis,hchk]
 rw [(cE (ss.take 8) (fun i (_:Unit)=>[ci (i:Int),.row 24 [tar.cv],.row 7 [],.row 9 (((bU ks ss).take i).map Fine.Held.cv)]) (fun _ _=>()) (fun _ _=>True) 6 (fun _=>[.row 24 [tar.cv],.row 7 [],.row 9 ((bU ks ss).map Fine.Held.cv)]) () ?sv trivial ?ss ?se).1]
 case sv=>rfl
 case ss =>
  intro i hi _ _
  refine ⟨?_,trivial⟩
  have hi1:i<ss.length:=by simp at hi;omega
  have hi8:i<8:=by simp at hi;omega
  have htk:(bU ks ss).take (i+1)=(bU ks ss).take i++[held ks i ss[i]]:=by
   have:=PZ (held ks) hi
   simpa [bU] using this
  have hl:(((bU ks ss).take i).map Fine.Held.cv).length=i:=by rw [List.length_map,List.length_take];simp [bU] at hi ⊢;omega
  rw [htk,List.map_append]
  have hsort:0≤ss[i].a % 3∧ss[i].a % 3<3:=by omega
  have hw1:wr (1+ss[i].a % 3)=1+ss[i].a % 3:=by rw [bE] <;> omega
  have hw2:wr (1+ss[i].a % 3 - 1)=(((ss[i].a % 3).toNat:Nat):Int):=by rw [bE] <;> omega
  have hwi:wr (1+(i:Int))=1+(i:Int):=by rw [bE] <;> omega
  have hkl:(ss[i].a % 3).toNat<(kL xs ks).kinds.length:=by show _<3;omega
  have hek:el (kL xs ks).ks (((ss[i].a % 3).toNat:Nat):Int)=(kd3 ks (1+ss[i].a % 3).toNat).cv:=by
   rw [zH hkl]
   have:(ss[i].a % 3).toNat=0∨(ss[i].a % 3).toNat=1∨(ss[i].a % 3).toNat=2:=by omega
   have e2:(1+ss[i].a % 3).toNat=(ss[i].a % 3).toNat+1:=by omega
   rw [e2]
   generalize (ss[i].a % 3).toNat=m at *
   rcases this with rfl | rfl | rfl <;> rfl
  have hoks:∀ k:Kd,oks [li] k.cv 2=true:=fun k=>rfl
  have hlen:decide (Int.toNat (((ss[i].a % 3).toNat:Nat):Int)<(kL xs ks).ks.length)=true:=by
   rw [decide_eq_true_eq,Int.toNat_natCast];show _<3;omega
  simp only [aZ,dE,dY,bN,mX,cY,eq_true (show ((i:Int)<(ss.length:Int)) by omega),eq_true (show ((i:Int)<8) by omega),decide_true,Bool.and_self,lC,aR hi1,bK hi1,aCa,aE]
  simp only [T4.cv,aZ,dE,pQ (its:=its) n _ (show (0:Int)<3 by omega) (by omega),pQ (its:=its) n _ (show (0:Int)<20 by omega) (by omega),pQ (its:=its) n _ (show (0:Int)<300 by omega) (by omega),pQ (its:=its) n _ (show (0:Int)<4 by omega) (by omega),aD,hw1,hw2,qP hkl,hlen,hek,hoks,aE,hl,show cX i 1 72=true from dZ (by omega) (by omega),hwi,aQ (show i<9223372036854775807 by omega)]
  rfl
 case se =>
  intro _ _
  have hnb:((decide (((ss.take 8).length:Int)<(ss.length:Int)))&&(decide (((ss.take 8).length:Int)<8)))=false:=by
   rw [Bool.and_eq_false_iff,decide_eq_false_iff_not,decide_eq_false_iff_not,List.length_take];omega
  have ht:(bU ks ss).take (ss.take 8).length=bU ks ss:=List.take_of_length_le (by unfold bU;simp)
  simp only [aZ,dY,bN,mX,cY,hnb,fI,ht]
 simp only [cD,bN,dY]
 have hh8:=ZS ks ss
 have hts:∀ s∈bU ks ss,0≤s.day∧s.day<20:=by
  intro s hs
  obtain ⟨j,m,_,rfl⟩:=yD hs
  simp only [held];omega
 generalize bU ks ss=hs at hh8 hts
 rw [(cE (if hs=[] then [] else ns.take 8) (fun i (_:Unit)=>[ci (i:Int),.row 24 [tar.cv],.row 7 (((told hs ns).take i).map Fine.Note.cv),.row 9 (hs.map Fine.Held.cv)]) (fun _ _=>()) (fun _ _=>True) 8 (fun _=>[.row 24 [tar.cv],.row 7 ((told hs ns).map Fine.Note.cv),.row 9 (hs.map Fine.Held.cv)]) () ?nv trivial ?ns ?ne).1]
 case nv=>rfl
 case ns =>
  intro i hi _ _
  refine ⟨?_,trivial⟩
  have hne:hs≠[]:=by rintro rfl;simp at hi
  have hp:0<hs.length:=List.length_pos_iff.2 hne
  simp only [if_neg hne] at hi ⊢
  have hi1:i<ns.length:=by simp at hi;omega
  have hi8:i<8:=by simp at hi;omega
  have htk:(told hs ns).take (i+1)=(told hs ns).take i++[note hs i ns[i]]:=by
   have:=PZ (note hs) hi
   simpa [told,hne] using this
  have hl:(((told hs ns).take i).map Fine.Note.cv).length=i:=by rw [List.length_map,List.length_take];simp [told,hne] at hi ⊢;omega
  rw [htk,List.map_append]
  have e1:=Int.emod_nonneg ns[i].a (show (hs.length:Int)≠0 by omega)
  have e2:=Int.emod_lt_of_pos ns[i].a (show (0:Int)<hs.length by omega)
  obtain ⟨m,hm⟩:∃ m:Nat,ns[i].a % (hs.length:Int)=m:=⟨(ns[i].a % (hs.length:Int)).toNat,by omega⟩
  have hml:m<hs.length:=by omega
  have hd:=hts hs[m] (List.getElem_mem hml)
  have hgd:hs.getD m Fine.hz=hs[m]:=by simp [hml]
  have hlen:(Int.toNat (m:Int)<(hs.map Fine.Held.cv).length)=True:=eq_true (by rw [Int.toNat_natCast,List.length_map];exact hml)
  have hw1:wr (1+ns[i].b % 3)=1+ns[i].b % 3:=by rw [bE] <;> omega
  have hw2:wr (1+ns[i].d % 3)=1+ns[i].d % 3:=by rw [bE] <;> omega
  have hw3:wr (hs[m].day+ns[i].c % 15)=hs[m].day+ns[i].c % 15:=by rw [bE] <;> omega
  have hw4:wr (hs[m].day+ns[i].c % 15+ns[i].c % 3)=hs[m].day+ns[i].c % 15+ns[i].c % 3:=by rw [bE] <;> omega
  have hw5:wr (50+(i:Int))=50+(i:Int):=by rw [bE] <;> omega
  have hcv0:gi hs[m].cv 0=hs[m].src:=rfl
  have hcv6:gi hs[m].cv 6=hs[m].day:=rfl
  simp only [aZ,dE,dY,bN,mX,cY,eq_true (show ((i:Int)<(ns.length:Int)) by omega),eq_true (show ((i:Int)<8) by omega),eq_true (show ((hs.length:Int) > 0) by omega),decide_true,Bool.and_self,lC,aR hi1,bK hi1,aCa,aE]
  simp only [T4.cv,aZ,dE,pQ (its:=its) n _ (show (0:Int)<hs.length by omega) (by omega),pQ (its:=its) n _ (show (0:Int)<3 by omega) (by omega),pQ (its:=its) n _ (show (0:Int)<15 by omega) (by omega),aD,hm,aR hml,bK hml,hlen,decide_true,WE,aE,hcv0,hcv6,hw1,hw3,hw4,hw5,hl,show cX i 1 56=true from dZ (by omega) (by omega),aQ (show i<9223372036854775807 by omega)]
  have hnote:note hs i ns[i]=⟨50+(i:Int),hs[m].src,1+ns[i].b % 3,if ns[i].b % 3=1 then 0 else 1+ns[i].d % 3,hs[m].day+ns[i].c % 15,hs[m].day+ns[i].c % 15+ns[i].c % 3,0⟩:=by
   unfold note;rw [hm,Int.toNat_natCast,hgd]
  rw [hnote]
  by_cases hk:ns[i].b % 3=1
  ·rw [show ((1+ns[i].b % 3) != 2)=false by rw [hk];rfl,fI,if_pos hk]
   rfl
  ·rw [show ((1+ns[i].b % 3) != 2)=true by simp;omega,lC,if_neg hk,hw2]
   rfl
 case ne =>
  intro _ _
  have hnb:(decide (((if hs=[] then [] else ns.take 8).length:Int)<(ns.length:Int))&&decide (((if hs=[] then [] else ns.take 8).length:Int)<8)&&decide ((hs.length:Int) > 0))=false:=by
   by_cases hne:hs=[]
   ·subst hne;simp
   ·rw [if_neg hne,Bool.and_eq_false_iff,Bool.and_eq_false_iff,decide_eq_false_iff_not,decide_eq_false_iff_not,List.length_take];omega
  have ht:(told hs ns).take (if hs=[] then [] else ns.take 8).length=told hs ns:=List.take_of_length_le (by unfold told;split <;> simp)
  simp only [aZ,dY,bN,mX,cY,hnb,fI,ht]
 simp only [cD,bN,dY]
 rfl
end Go.Proofs.Ytnnifohchhjkhaa
namespace Go.Proofs.Ytnnifohchhjkhaa
open Go Go.Sx Go.Pen Go.Feed
set_option maxRecDepth 10000
instance itsD:ItsD its:=⟨aFc⟩
theorem ET {A:Type} {num:A→Int}:∀ {l:List A},Fine.rising (l.map num)=true→∀ {x y:A},x∈l→y∈l→num x=num y→x=y
 | [],_,_,_,hx,_,_=>by simp at hx
 | a::l,h,x,y,hx,hy,e=>by
  obtain ⟨h1,h2⟩:=Fine.aD0 (x:=num a) (l:=l.map num) h
  rcases List.mem_cons.1 hx with rfl | hx' <;> rcases List.mem_cons.1 hy with rfl | hy'
  ·rfl
  ·have:=h2 (num y) (List.mem_map_of_mem hy');omega
  ·have:=h2 (num x) (List.mem_map_of_mem hx');omega
  ·exact ET h1 hx' hy' e
theorem WF {p:Fine.Acc} (h:p.ok=true) {s t:Fine.Held} (hs:s∈p.ss) (ht:t∈p.ss) (e:s.src=t.src):s=t:=by
 simp only [Fine.Acc.ok,Fine.qJ,Bool.and_eq_true] at h
 exact ET h.1.2.1.2 hs ht e
theorem WG {p:Fine.Acc} (h:p.ok=true) (q:Fine.Held→Bool) {L:List Fine.Held} (hL:∀ s∈L,s∈p.ss) {s:Fine.Held} (hs:s∈L):((L.filter q).map Fine.Held.src).any (fun y=>decide (y=s.src))=q s:=by
 rw [Bool.eq_iff_iff,List.any_eq_true]
 constructor
 ·rintro ⟨x,hx,he⟩
  obtain ⟨t,ht,rfl⟩:=List.mem_map.1 hx
  obtain ⟨h1,h2⟩:=List.mem_filter.1 ht
  rw [decide_eq_true_eq] at he
  rw [← WF h (hL t h1) (hL s hs) he]
  exact h2
 ·intro h2
  exact ⟨s.src,List.mem_map_of_mem (List.mem_filter.2 ⟨hs,h2⟩),by simp⟩
theorem IR {p:Fine.Acc} (h:p.ok=true) {k:Int} (hk:Fine.eO k=true) {s:Fine.Held} (hs:s∈Fine.stays p k):Fine.dN p s.src k=(s,0):=by
 have ha:Fine.asked p k=0:=by unfold Fine.asked;rw [h,hk];rfl
 unfold Fine.dN
 rw [if_pos ha]
 cases hf:(Fine.stays p k).find? fun t=>t.src == s.src with
 | none =>
  rw [List.find?_eq_none] at hf
  exact absurd (by simp) (hf s hs)
 | some t =>
  have h1:=Fine.HF (List.mem_of_find?_eq_some hf)
  have h2:=List.find?_some hf
  rw [WF h h1 (Fine.HF hs) (by simpa using h2)]
theorem aCd {p:Fine.Acc} (h:p.ok=true) {k:Int} (hk:Fine.eO k=true) {s:Fine.Held} (hs:s∈Fine.stays p k):Fi.ED p s.src k=(Fine.lot p s k,0):=by
 unfold Fi.ED;rw [IR h hk hs,if_pos rfl]
theorem LL {p:Fine.Acc} (h:p.ok=true) {k:Int} (hk:Fine.eO k=true) {s:Fine.Held} (hs:s∈Fine.stays p k):Fi.lF p s.src k=(Fine.iP p s (Fine.lot p s k) k,0):=by
 unfold Fi.lF;rw [IR h hk hs,if_pos rfl]
theorem aCe (n:Nat) (ks:List T3) (ss ns:List T4) {k:Int} (h0:0≤k) (h1:k≤1000) :
  D its (n+12) kW [.row 24 ((acc ks ss ns).ts.map Fine.Tariff.cv),.row 9 ((acc ks ss ns).ss.map Fine.Held.cv),.row 7 ((acc ks ss ns).ns.map Fine.Note.cv),ci k]=some [.row 3 (stays (bG (acc ks ss ns) k)),cb true]:=by
 have hok:=SQ ks ss ns
 have hfit:=Fine.Acc.ok_fits hok
 have hlen:=(Fine.Acc.ok_len hok).2.1
 have hday:Fine.eO k=true:=wF h0 (by omega)
 have hask:Fine.asked (acc ks ss ns) k=0:=by unfold Fine.asked;rw [hok,hday];rfl
 have hsf:∀ s,s∈Fine.stays (acc ks ss ns) k→(mH s (Fine.lot (acc ks ss ns) s k)).out≤2000:=by
  intro s hs
  have h4:=lE h0 hs
  unfold mH
  simp only
  split
  ·omega
  ·split <;> omega
 have hlow:∀ s,s∈Fine.stays (acc ks ss ns) k→-1≤(Fine.lot (acc ks ss ns) s k).day∧(Fine.lot (acc ks ss ns) s k).day≤1000:=by
  intro s hs
  have h4:=lE h0 hs
  have:=(dX hs).2.2.2.2.1
  omega
 have hst:D its (n+11) eV [.row 24 ((acc ks ss ns).ts.map Fine.Tariff.cv),.row 9 ((acc ks ss ns).ss.map Fine.Held.cv),.row 7 ((acc ks ss ns).ns.map Fine.Note.cv),ci k]=some [.row 1 (ints ((Fine.stays (acc ks ss ns) k).map Fine.Held.src)),ci 0]:=by
  have h:=Fi.aHf (its:=its) (n+1) (acc ks ss ns) k hfit
  rw [if_pos hask] at h
  exact h
 have hpen:bG (acc ks ss ns) k=((acc ks ss ns).ss.filter fun s=>Fine.counts s.known s.til k).map fun s=>mH s (Fine.lot (acc ks ss ns) s k):=rfl
 rw [KQ]
 unfold wL
 rw [hst,aD]
 generalize hp:acc ks ss ns=p at *
 rw [(cE p.ss (fun i (_:Unit)=>[ci (i:Int),.row 3 (stays (((p.ss.take i).filter fun s=>Fine.counts s.known s.til k).map fun s=>mH s (Fine.lot p s k)))]) (fun _ _=>()) (fun _ _=>True) 0 (fun _=>[.row 3 (stays (bG p k))]) () ?hv trivial ?hs ?he).1]
 case hv=>rfl
 case hs =>
  intro i hi _ _
  refine ⟨?_,trivial⟩
  have hm:p.ss[i]∈p.ss:=List.getElem_mem hi
  have hany:=WG hok (fun s=>Fine.counts s.known s.til k) (L:=p.ss) (fun s h=>h) hm
  have hhas:=aB9 (its:=its) (n+10) ((Fine.stays p k).map Fine.Held.src) p.ss[i].src (by rw [List.length_map];have:=Fine.lT (fun s:Fine.Held=>Fine.counts s.known s.til k) p.ss;unfold Fine.stays;omega)
  rw [show ((Fine.stays p k).map Fine.Held.src).any (fun y=>decide (y=p.ss[i].src))=Fine.counts p.ss[i].known p.ss[i].til k from hany] at hhas
  have hcl:((p.ss.take i).filter fun s=>Fine.counts s.known s.til k).length≤60:=by
   have:=Fine.lT (fun s:Fine.Held=>Fine.counts s.known s.til k) (p.ss.take i)
   rw [List.length_take] at this;omega
  have hsrc:gi p.ss[i].cv 0=p.ss[i].src:=rfl
  simp only [aZ,dE,bN,dY,mX,eq_true (show ((i:Int)<(p.ss.length:Int)) by omega),decide_true,lC,aR hi,bK hi,WE,aE,hsrc]
  rw [hhas,aD,cY,← List.take_append_getElem hi,List.filter_append,List.map_append]
  cases hc:Fine.counts p.ss[i].known p.ss[i].til k with
  | false =>
   have e:[p.ss[i]].filter (fun s=>Fine.counts s.known s.til k)=[]:=by simp [hc]
   rw [e,Bool.not_false,lC,cD,aQ (show i<9223372036854775807 by omega),List.map_nil,List.append_nil]
   rfl
  | true =>
   have e:[p.ss[i]].filter (fun s=>Fine.counts s.known s.til k)=[p.ss[i]]:=by simp [hc]
   have hmem:p.ss[i]∈Fine.stays p k:=List.mem_filter.2 ⟨hm,hc⟩
   have hlot:=Fi.aIz (its:=its) n p p.ss[i].src k hfit
   rw [aCd hok hday hmem] at hlot
   have hlf:=hsf _ hmem
   have hlo:=hlow _ hmem
   have hsn:∀ x:Pen.Stay,stays (((p.ss.take i).filter fun s=>Fine.counts s.known s.til k).map fun s=>mH s (Fine.lot p s k))++[x.cv]=stays ((((p.ss.take i).filter fun s=>Fine.counts s.known s.til k).map fun s=>mH s (Fine.lot p s k))++[x]):=fun x=>by simp [stays]
   rw [e,List.map_cons,List.map_nil,← hsn,Bool.not_true,fI,hlot,aD]
   simp only [aZ,dE]
   rw [show ((0:Int) != 0)=false from rfl,fI]
   have hsl:(stays (((p.ss.take i).filter fun s=>Fine.counts s.known s.til k).map fun s=>mH s (Fine.lot p s k))).length≤60:=by rw [stays,List.length_map,List.length_map];exact hcl
   have hfa:=dZ (n:=(stays (((p.ss.take i).filter fun s=>Fine.counts s.known s.til k).map fun s=>mH s (Fine.lot p s k))).length) (k:=1) (by_:=24) (by omega) (by omega)
   have hout:aJ (aB ((Fine.lot p p.ss[i] k).fin == 2) (some (.nx [ci (gi p.ss[i].cv 2),ci (gi p.ss[i].cv 6),ci (wr ((Fine.lot p p.ss[i] k).day+1))])) (aJ (aB ((Fine.lot p p.ss[i] k).fin != 0) (some (.nx [ci (gi p.ss[i].cv 2),ci (gi p.ss[i].cv 6),ci (Fine.lot p p.ss[i] k).day])) (some (.nx [ci (gi p.ss[i].cv 2),ci (gi p.ss[i].cv 6),ci (-1)]))) fun v4=>some (.nx [ci (gi v4 0),ci (gi v4 1),ci (gi v4 2)])))=fun K=>K (mH p.ss[i] (Fine.lot p p.ss[i] k)).cv:=by
    funext K
    have c2:gi p.ss[i].cv 2=p.ss[i].sort:=rfl
    have c6:gi p.ss[i].cv 6=p.ss[i].day:=rfl
    unfold mH
    rw [c2,c6]
    by_cases h2:(Fine.lot p p.ss[i] k).fin=2
    ·have hw:wr ((Fine.lot p p.ss[i] k).day+1)=(Fine.lot p p.ss[i] k).day+1:=by rw [bE] <;> omega
     rw [show ((Fine.lot p p.ss[i] k).fin == 2)=true by simp [h2],lC,if_pos h2,hw]
     rfl
    ·rw [show ((Fine.lot p p.ss[i] k).fin == 2)=false by simp [h2],fI,if_neg h2]
     by_cases h3:(Fine.lot p p.ss[i] k).fin=0
     ·rw [show ((Fine.lot p p.ss[i] k).fin != 0)=false by simp [h3],fI,if_pos h3];rfl
     ·rw [show ((Fine.lot p p.ss[i] k).fin != 0)=true by simp [h3],lC,if_neg h3];rfl
   rw [hout]
   simp only [hfa,aE,cD,aQ (show i<9223372036854775807 by omega)]
   rfl
 case he =>
  intro _ _
  rw [List.take_length]
  simp only [aZ,bN,dY,mX,eq_false (show ¬((p.ss.length:Int)<(p.ss.length:Int)) by omega),decide_false,fI]
  rfl
 ·rfl
def exT:Fine.Tariff:=⟨0,0,0,0,0,0,0,0,0,0,0,0,0,0,0,0,0,0,0,0,0,5,0,0⟩
def exH:Fine.Held:=⟨1,7,1,20,0,0,10,10,0⟩
theorem aCf {P:Program} {sg:FuncId→Option Sig} {M:Den} {fe:FE} {c:Code} {vs vs':List CV} (h:Sc.avs fe.g.ps vs 0=Sc.avs fe.g.ps vs' 0):evF P sg M fe c vs=evF P sg M fe c vs':=by unfold evF;rw [h]
theorem IS (n:Nat) (vs:List CV):D its (n+1) cG vs=evF Try.prog sg (D its n) aEP (aA Try.f12) vs:=by kernel_rfl
theorem QA (n:Nat) (a b:List (List CV)) (c d:CV):D its (n+1) cG [.row 24 a,.row 9 b,.val (.slice none 0 0),c,d]=D its (n+1) cG [.row 24 a,.row 9 b,.row 7 [],c,d]:=by
 rw [IS,IS]
 exact aCf rfl
theorem aDO (n:Nat):D its (n+12) qT []=some [cb true]:=by
 rw [OQ]
 unfold zR
 have h1:=VU (its:=its) (n+3) ⟨[4],[⟨1,2,8,0⟩]⟩ [⟨1,3,6⟩] 5 (by decide) (by decide) (by decide)
 have h2:=Fi.aFh (its:=its) n ⟨[exT],[exH],[]⟩ 1 13 (by unfold Fine.Acc.fits;decide)
 have e1:eU ⟨[4],[⟨1,2,8,0⟩]⟩ [⟨1,3,6⟩]=0:=by decide
 have e2:Pen.lU ⟨[4],[⟨1,2,8,0⟩]⟩ [⟨1,3,6⟩] 5=24:=by decide
 have e3:(Fi.lF ⟨[exT],[exH],[]⟩ 1 13).1.feed=40:=by decide
 have e4:(Fi.lF ⟨[exT],[exH],[]⟩ 1 13).2=0:=by decide
 rw [if_pos e1,if_pos (by decide),e2] at h1
 rw [e3,e4] at h2
 have h3:D its (n+11) iA ([CV.row 1 (aS 1 1 [ci 4]),CV.row 4 (aS 4 1 [ci 1,ci 2,ci 8,ci 0]),CV.row 3 (aS 3 1 [ci 1,ci 3,ci 6]),ci 5])=_:=h1
 rw [h3,aD,QA]
 have h4:D its (n+10+1) cG [CV.row 24 (aS 24 1 [ci 0,ci 0,ci 0,ci 0,ci 0,ci 0,ci 0,ci 0,ci 0,ci 0,ci 0,ci 0,ci 0,ci 0,ci 0,ci 0,ci 0,ci 0,ci 0,ci 0,ci 0,ci 5,ci 0,ci 0]),CV.row 9 (aS 9 1 [ci 1,ci 7,ci 1,ci 20,ci 0,ci 0,ci 10,ci 10,ci 0]),.row 7 [],ci 1,ci 13]=_:=h2
 rw [h4,aD]
 rfl
theorem AD {xs:List Int} {ks:List T3} {ss ns:List T4} {k:Int} (hk:0≤k):∀ (L:List Fine.Held) (a:Int),(∀ s∈L,s∈Fine.stays (acc ks ss ns) k) →
  L.foldl (fun n s=>n+(Fine.iP (acc ks ss ns) s (Fine.lot (acc ks ss ns) s k) k).feed) a=(L.map fun s=>mH s (Fine.lot (acc ks ss ns) s k)).foldl (fun n s=>n+Pen.eats (kL xs ks) k s) a
 | [],a,_=>rfl
 | s::L,a,h=>by
  rw [List.map_cons,List.foldl_cons,List.foldl_cons,YU (xs:=xs) hk (h s (by simp))]
  exact AD hk L _ fun t ht=>h t (by simp [ht])
theorem EU {A:Type} (p:A→Bool):∀ (l:List A) (j:Int) (i:Nat) (hi:i<l.length),p l[i]=true→j+i∈places p l j
 | [],j,i,hi,_=>by simp at hi
 | a::l,j,0,_,hp=>by
  simp only [List.getElem_cons_zero] at hp
  simp [places,hp]
 | a::l,j,i+1,hi,hp=>by
  have ih:=EU p l (j+1) i (by simpa using hi) (by simpa using hp)
  rw [show j+1+(i:Int)=j+((i+1:Nat):Int) by omega] at ih
  simp only [places]
  split
  ·exact List.mem_cons_of_mem _ ih
  ·exact ih
end Go.Proofs.Ytnnifohchhjkhaa
namespace Go.Proofs.Ytnnifohchhjkhaa
open Go Go.Sx Go.Pen Go.Feed
set_option maxRecDepth 10000
theorem TQ {y:Yard} {l:List Int} {k:Int} {b:List Int} (h:mZ y l k b=true):b.length≤l.length:=by
 unfold mZ at h
 simp only [Bool.and_eq_true] at h
 obtain ⟨g1,g2⟩:=HS h.1.1
 have:=(VE g1 g2).length_le
 rwa [mQ] at this
theorem aG5 (n:Nat) {y:Yard} {l:List Int} (h:asked y l=0) {K:Option Ou} (hK:K=aC (D its (n+11) mS [CV.row 1 y.ps,CV.row 4 y.ks,CV.row 1 (ints l)]) fun v12=>aB ((gi v12 1) == 0) (aC (D its (n+11) fW [CV.row 1 y.ps,CV.row 4 y.ks,CV.row 1 (ints l),CV.row 1 (gr v12 0)]) fun v13=>some (.ret [cb ((gi v13 0) == 0)])) (aC (D its (n+11) kX [CV.row 1 y.ps,CV.row 4 y.ks,CV.row 1 (ints l)]) fun v13=>aB ((gi v12 1) == 53) (aB ((gi v13 2) == 0) (aC (D its (n+11) eW [CV.row 1 y.ps,CV.row 4 y.ks,CV.row 1 (ints l),ci (gi v13 0),CV.row 1 (gr v13 1)]) fun v14=>some (.ret [cb ((gi v14 0) == 0)])) (some (.ret [cb false]))) (some (.ret [cb false])))) :
  K=some (.ret [cb true]):=by
 obtain ⟨hy,hs⟩:=gN h
 have h8:=jL hs
 have hr:=nP hy
 have h5:=fU hy
 have hf:Fit y:=⟨by omega,by omega⟩
 have hci:∀ p,oY y l p=0↔p∈PL y l:=by
  intro p
  unfold oY
  rw [if_pos h,← aDA]
  cases isP y l p <;> simp
 rw [hK,aDB aDM (n+3) hf l (by omega),if_pos h]
 cases hx:(PL y l)[0]? with
 | some x =>
  have hxm:=List.mem_of_getElem? hx
  have hxl:=aBT hxm
  simp only [aD,dE,aZ,bN]
  rw [show ((0:Int) == 0)=true from rfl,lC,LG (its:=its) (n+3) hf l x (by omega) (by omega),(hci x).2 hxm,aD]
  rfl
 | none =>
  have hnil:PL y l=[]:=by
   cases hP:PL y l with
   | nil=>rfl
   | cons x L=>rw [hP] at hx;cases hx
  have hc:can y l=false:=by unfold can;rw [hnil];rfl
  obtain ⟨r1,r2⟩:=FK hy hr hc
  have hrl:=TQ r2
  simp only [aD,dE,aZ]
  rw [show ((53:Int) == 0)=false from rfl,fI,aB2 aDM (n+3) hf l (by omega),if_pos h,aD,show ((53:Int) == 53)=true from rfl,lC]
  generalize refuse y l=R at r1 r2 hrl
  obtain ⟨k',b',e'⟩:=R
  simp only at r1 r2 hrl
  subst r1
  have hcr':vY y l k' b'=0:=by unfold vY;rw [if_pos h,if_pos r2]
  simp only [dE,aZ,dY,bN]
  rw [show ((0:Int) == 0)=true from rfl,lC,ES (n+3) hf l k' b' (by omega) (by omega),hcr',aD]
  rfl
theorem ZT (n:Nat) (xs:List Int) (ks:List T3) (ss ns:List T4) (day:Int) (h1:xs.length<100000000000000) (h2:ks.length<100000000000000) (h3:ss.length<100000000000000) (h4:ns.length<100000000000000) :
  D its (n+14) sT [.row 1 (ints xs),.row 3 (ks.map T3.cv),.row 4 (ss.map T4.cv),.row 4 (ns.map T4.cv),ci day]=some [cb true]:=by
 rw [FQ]
 unfold sY
 have hk0:0≤day % 60:=by omega
 have hk1:day % 60≤1000:=by omega
 rw [aDO (n+1),aD,aCc (its:=its) (n+11) xs ks ss ns (by omega) h2 (by omega) (by omega),aD,pQ (its:=its) (n+12) day (show (0:Int)<60 by omega) (by omega),aD]
 simp only [bN,dY,aZ,cY]
 generalize day % 60=k at hk0 hk1
 have hpen:=aCe (n+1) ks ss ns hk0 hk1
 have hok:=SQ ks ss ns
 have hyo:=aDa xs ks
 have hy5:=fU hyo
 have hfit:=Fine.Acc.ok_fits hok
 have hday:Fine.eO k=true:=wF hk0 (by omega)
 have hdp:within k 0 100000=true:=wP hk0 (by omega)
 have hask:Fine.asked (acc ks ss ns) k=0:=by unfold Fine.asked;rw [hok,hday];rfl
 have hst:D its (n+13) eV [.row 24 ((acc ks ss ns).ts.map Fine.Tariff.cv),.row 9 ((acc ks ss ns).ss.map Fine.Held.cv),.row 7 ((acc ks ss ns).ns.map Fine.Note.cv),ci k]=some [.row 1 (ints ((Fine.stays (acc ks ss ns) k).map Fine.Held.src)),ci 0]:=by
  have h:=Fi.aHf (its:=its) (n+3) (acc ks ss ns) k hfit
  rw [if_pos hask] at h
  exact h
 have hch:=Fi.aHd (its:=its) (n+5) (acc ks ss ns) hfit
 rw [show Fine.check (acc ks ss ns)=0 by unfold Fine.check;rw [hok];rfl] at hch
 have hpl:=DP ks ss ns k
 have hpo:=YV xs ks ss ns hk0 hk1
 have hstg:eU (kL xs ks) (bG (acc ks ss ns) k)=0:=by unfold eU;rw [hyo,hpo];rfl
 have hcy:=rH (its:=its) (n+7) (kL xs ks) (by omega) (by omega)
 rw [show jI (kL xs ks)=0 by unfold jI;rw [hyo];rfl] at hcy
 have hcs:=LF (its:=its) (n+5) (kL xs ks) (bG (acc ks ss ns) k) (by omega) (by omega) (by omega)
 rw [hstg] at hcs
 have hea:=VU (its:=its) (n+5) (kL xs ks) (bG (acc ks ss ns) k) k (by omega) (by omega) (by omega)
 rw [if_pos hstg,if_pos hdp] at hea
 have hth:=aDy (its:=its) (n+5) (kL xs ks) (bG (acc ks ss ns) k) k (by omega) (by omega) (by omega)
 rw [if_pos hstg,if_pos hdp] at hth
 have hin:=Fi.aGN (its:=its) (n+3) (acc ks ss ns) k hfit
 have hino:Fi.wQ (acc ks ss ns) k=(((Fine.stays (acc ks ss ns) k).filter fun s=>decide (s.day≤k)&&decide ((Fine.lot (acc ks ss ns) s k).fin=0)).map Fine.Held.src,0):=by unfold Fi.wQ;rw [if_neg (by rw [hask];simp)]
 rw [hino] at hin
 change D its (n+12+1) kW [.row 24 [tar.cv],.row 9 ((bU ks ss).map Fine.Held.cv),.row 7 ((told (bU ks ss) ns).map Fine.Note.cv),ci k]=_ at hpen
 change D its (n+12+1) iT [.row 24 [tar.cv],.row 9 ((bU ks ss).map Fine.Held.cv),.row 7 ((told (bU ks ss) ns).map Fine.Note.cv)]=_ at hch
 change D its (n+12+1) eV [.row 24 [tar.cv],.row 9 ((bU ks ss).map Fine.Held.cv),.row 7 ((told (bU ks ss) ns).map Fine.Note.cv),ci k]=_ at hst
 change D its (n+12+1) jV [.row 24 [tar.cv],.row 9 ((bU ks ss).map Fine.Held.cv),.row 7 ((told (bU ks ss) ns).map Fine.Note.cv),ci k]=some [.row 1 (ints _),ci 0] at hin
 change D its (n+13) dQ _=_ at hcy
 change D its (n+13) fV _=_ at hcs
 change D its (n+13) iA _=_ at hea
 change D its (n+13) mR _=_ at hth
 rw [hpen,aD]
 simp only [bN,aEI,cY,hch,hcy,hcs,aD,aZ]
 have z0:((0:Int) != 0)=false:=rfl
 simp only [Bool.not_true,fI,z0,cJ,cY]
 rw [hst,aD]
 simp only [bN,dE,aZ]
 have hb60:(Fine.stays (acc ks ss ns) k).length≤60:=Nat.le_trans (Fine.lT _ _) (Fine.Acc.ok_len hok).2.1
 rw [(cE (Fine.stays (acc ks ss ns) k) (fun i (s:Int)=>[ci s,ci (i:Int)]) (fun a s=>a+(Fine.iP (acc ks ss ns) s (Fine.lot (acc ks ss ns) s k) k).feed) (fun i a=>0≤a∧a≤20000000000*(i:Int)) 0 (fun a=>[ci a]) 0 ?hv ?h0 ?hs ?he).1]
 case hv=>rfl
 case h0=>simp
 case hs =>
  intro i hi a ha
  have hm:=List.getElem_mem hi
  have hl:=lE hk0 hm
  have hb:=Fine.aCi hok (dX hm).1 (Fine.lot (acc ks ss ns) (Fine.stays (acc ks ss ns) k)[i] k) k (by omega) (by omega)
  have hc:=Fi.aFh (its:=its) (n+2) (acc ks ss ns) (Fine.stays (acc ks ss ns) k)[i].src k hfit
  rw [LL hok hday hm] at hc
  simp only at hc
  change D its (n+13) cG [.row 24 [tar.cv],.row 9 ((bU ks ss).map Fine.Held.cv),.row 7 ((told (bU ks ss) ns).map Fine.Note.cv),ci (Fine.stays (acc ks ss ns) k)[i].src,ci k]=_ at hc
  generalize Fine.iP (acc ks ss ns) (Fine.stays (acc ks ss ns) k)[i] (Fine.lot (acc ks ss ns) (Fine.stays (acc ks ss ns) k)[i] k) k=c at hb hc ⊢
  have hil:i<((Fine.stays (acc ks ss ns) k).map Fine.Held.src).length:=by simpa using hi
  have hg:((Fine.stays (acc ks ss ns) k).map Fine.Held.src)[i]=(Fine.stays (acc ks ss ns) k)[i].src:=by simp
  have hw:wr (a+c.feed)=a+c.feed:=by rw [bE] <;> omega
  refine ⟨?_,by omega,by omega⟩
  simp only [aZ,dE,aK,List.length_map,eq_true (show ((i:Int)<((Fine.stays (acc ks ss ns) k).length:Int)) by omega),decide_true,lC,aW hil,bI hil,hg,li1,aE]
  rw [hc,aD]
  simp only [aZ,dE,z0,fI,eq_false (show ¬c.feed<0 by omega),eq_false (show ¬c.head<0 by omega),eq_false (show ¬c.fine<0 by omega),decide_false,cJ,cY,hw,aQ (show i<9223372036854775807 by omega)]
 case he =>
  intro a _
  simp only [aZ,dE,aK,List.length_map,eq_false (show ¬(((Fine.stays (acc ks ss ns) k).length:Int)<((Fine.stays (acc ks ss ns) k).length:Int)) by omega),decide_false,fI]
 rw [AD (xs:=xs) hk0 _ 0 (fun s h=>h),show ((Fine.stays (acc ks ss ns) k).map fun s=>mH s (Fine.lot (acc ks ss ns) s k)).foldl (fun n s=>n+Pen.eats (kL xs ks) k s) 0=Pen.lU (kL xs ks) (bG (acc ks ss ns) k) k from rfl]
 have hln:(bG (acc ks ss ns) k).length=(Fine.stays (acc ks ss ns) k).length:=by unfold bG;rw [List.length_map]
 have hne:∀ a:Int,(a != a)=false:=fun a=>by simp
 simp only [cD,aZ]
 rw [hea,aD,hth,aD,hin,aD]
 simp only [dE,aZ,bN,z0,fI,hne,aK,vV,List.length_map,hln,cJ,cY]
 rw [(cE (bG (acc ks ss ns) k) (fun i (_:Unit)=>[ci (i:Int),.row 1 (ints ((((bG (acc ks ss ns) k).take i).filter fun x=>decide (x.out=-1)).map Stay.sort))]) (fun _ _=>()) (fun _ _=>True) 2 (fun _=>[.row 1 (ints (((bG (acc ks ss ns) k).filter fun x=>decide (x.out=-1)).map Stay.sort))]) () ?hv trivial ?hs ?he).1]
 case hv=>rfl
 case hs =>
  intro i hi _ _
  refine ⟨?_,trivial⟩
  have hi2:i<(Fine.stays (acc ks ss ns) k).length:=by omega
  have hm:=List.getElem_mem hi2
  have hpx:(bG (acc ks ss ns) k)[i]=mH (Fine.stays (acc ks ss ns) k)[i] (Fine.lot (acc ks ss ns) (Fine.stays (acc ks ss ns) k)[i] k):=by simp [bG]
  have hout:=ON hk0 hm
  have hdk:=(dX hm).2.2.2.2.2.2
  have hil:i<((Fine.stays (acc ks ss ns) k).map Fine.Held.src).length:=by simpa using hi2
  have hg:((Fine.stays (acc ks ss ns) k).map Fine.Held.src)[i]=(Fine.stays (acc ks ss ns) k)[i].src:=by simp
  have hfl:=Fine.lT (fun s:Fine.Held=>decide (s.day≤k)&&decide ((Fine.lot (acc ks ss ns) s k).fin=0)) (Fine.stays (acc ks ss ns) k)
  have hhas:=aB9 (its:=its) (n+12) (((Fine.stays (acc ks ss ns) k).filter fun s=>decide (s.day≤k)&&decide ((Fine.lot (acc ks ss ns) s k).fin=0)).map Fine.Held.src) (Fine.stays (acc ks ss ns) k)[i].src (by rw [List.length_map];omega)
  rw [WG hok (fun s=>decide (s.day≤k)&&decide ((Fine.lot (acc ks ss ns) s k).fin=0)) (fun s h=>Fine.HF h) hm,decide_eq_true hdk,Bool.true_and] at hhas
  have hth2:=aB9 (its:=its) (n+12) (mP (bG (acc ks ss ns) k) k) (i:Int) (by have:=tX (mO k) (bG (acc ks ss ns) k) 0;unfold mP;omega)
  rw [← List.take_append_getElem hi,List.filter_append,List.map_append]
  have hdr:∀ x:Stay,oks [li] (List.drop 2 x.cv) 0=true:=fun _=>rfl
  have hdr0:∀ x:Stay,oks [li] (List.drop 0 x.cv) 0=true:=fun _=>rfl
  have hd2:∀ x:Stay,gi (List.drop 2 x.cv) 0=x.out:=fun _=>rfl
  have hd0:∀ x:Stay,gi (List.drop 0 x.cv) 0=x.sort:=fun _=>rfl
  have hfs:=Fine.lT (fun x:Stay=>decide (x.out=-1)) ((bG (acc ks ss ns) k).take i)
  rw [List.length_take] at hfs
  simp only [aZ,dE,bN,dY,eq_true (show ((i:Int)<((Fine.stays (acc ks ss ns) k).length:Int)) by omega),decide_true,lC,nR hi,qQ hi,hdr,hdr0,hd2,hd0,aW hil,bI hil,hg,li1,aE]
  rw [hhas,aD,cY]
  by_cases ho:(bG (acc ks ss ns) k)[i].out=-1
  ·have hf0:(Fine.lot (acc ks ss ns) (Fine.stays (acc ks ss ns) k)[i] k).fin=0:=by rw [hpx] at ho;exact hout.1 ho
   have e:[(bG (acc ks ss ns) k)[i]].filter (fun x=>decide (x.out=-1))=[(bG (acc ks ss ns) k)[i]]:=by simp [ho]
   have hany:(mP (bG (acc ks ss ns) k) k).any (fun y=>decide (y=(i:Int)))=true:=by
    rw [List.any_eq_true]
    refine ⟨(i:Int),?_,by simp⟩
    have:=EU (mO k) (bG (acc ks ss ns) k) 0 i hi (by
     unfold mO
     rw [ho,hpx]
     unfold mH
     simp only
     rw [decide_eq_true hdk];rfl)
    simpa [mP] using this
   rw [hany] at hth2
   rw [e,ho,show ((-1:Int) == -1)=true from rfl,decide_eq_true hf0,show (true != true)=false from rfl,fI,show ((-1:Int) != -1)=false from rfl,fI,hth2,aD,cY,Bool.not_true,fI]
   have hsl:(ints ((((bG (acc ks ss ns) k).take i).filter fun x=>decide (x.out=-1)).map Stay.sort)).length≤60:=by rw [bJ,List.length_map];omega
   rw [dZ (by omega) (by omega),aE,cD,aQ (show i<9223372036854775807 by omega),bN]
   rw [show ints ((((bG (acc ks ss ns) k).take i).filter fun x=>decide (x.out=-1)).map Stay.sort)++aS 1 1 [ci (bG (acc ks ss ns) k)[i].sort]=ints ((((bG (acc ks ss ns) k).take i).filter fun x=>decide (x.out=-1)).map Stay.sort++[(bG (acc ks ss ns) k)[i]].map Stay.sort) from jJ _ _]
  ·have hf0:¬(Fine.lot (acc ks ss ns) (Fine.stays (acc ks ss ns) k)[i] k).fin=0:=fun h=>ho (by rw [hpx];exact hout.2 h)
   have e:[(bG (acc ks ss ns) k)[i]].filter (fun x=>decide (x.out=-1))=[]:=by simp [ho]
   rw [e,show ((bG (acc ks ss ns) k)[i].out == -1)=false by simp [ho],decide_eq_false hf0,show (false != false)=false from rfl,fI,show ((bG (acc ks ss ns) k)[i].out != -1)=true by simp [ho],lC,cD,aQ (show i<9223372036854775807 by omega),bN,List.map_nil,List.append_nil]
 case he =>
  intro _ _
  rw [List.take_length]
  simp only [aZ,bN,dY,hln,eq_false (show ¬(((Fine.stays (acc ks ss ns) k).length:Int)<((Fine.stays (acc ks ss ns) k).length:Int)) by omega),decide_false,fI]
 have hsl:((bG (acc ks ss ns) k).filter fun x=>decide (x.out=-1)).length=((Fine.stays (acc ks ss ns) k).filter fun s=>decide (s.day≤k)&&decide ((Fine.lot (acc ks ss ns) s k).fin=0)).length:=by
  unfold bG
  rw [List.filter_map,List.length_map]
  congr 1
  refine List.filter_congr fun s hs=>?_
  have h1:=ON hk0 hs
  have h2:=(dX hs).2.2.2.2.2.2
  simp only [Function.comp]
  rw [decide_eq_true h2,Bool.true_and,Bool.eq_iff_iff,decide_eq_true_eq,decide_eq_true_eq]
  exact h1
 have hs8:=Fine.lT (fun x:Stay=>decide (x.out=-1)) (bG (acc ks ss ns) k)
 have hsok:bF (kL xs ks) (((bG (acc ks ss ns) k).filter fun x=>decide (x.out=-1)).map Stay.sort)=true:=by
  unfold bF
  rw [List.length_map,decide_eq_true (by omega),Bool.true_and,List.all_eq_true]
  intro x hx
  obtain ⟨t,ht,rfl⟩:=List.mem_map.1 hx
  obtain ⟨s,hs,rfl⟩:=List.mem_map.1 (List.mem_filter.1 ht).1
  exact OM xs ks (dX hs).2.1 (dX hs).2.2.1
 simp only [cD,bN,aK,List.length_map,hsl,hne,fI]
 rw [decide_eq_false (show ¬((((Fine.stays (acc ks ss ns) k).filter fun s=>decide (s.day≤k)&&decide ((Fine.lot (acc ks ss ns) s k).fin=0)).length:Int) > 8) by omega),fI]
 rw [aG5 (n+2) (TM hyo hsok) rfl]
 rfl
end Go.Proofs.Ytnnifohchhjkhaa
namespace Go.Proofs.Ytnnifohchhjkhaa
open Go Go.Sx Go.Feed Go.ChangeShapes Go.WideShapes Go.ChangeAt Go.RowKit
set_option maxRecDepth 100000
theorem Try.own:ownKnob Try.prog.godebug=none:=by kernel_rfl
theorem Try.kids:Kids Try.prog (·<Try.prog.types.size):=kids_rows (by kernel_rfl) (by kernel_rfl)
theorem Try.full:∀ t e,t<Try.prog.types.size→Try.prog.underlying t=some (.slice e)→0<Try.prog.cellsOf e:=slices_full_of Try.prog (by kernel_rfl)
theorem LM {n:Nat} {c:List CV} (h:Shp Try.prog (n+1) 3 c):∃ m:Int,c=[ci m]:=by
 simp only [Shp,Try.underlying3] at h
 obtain ⟨m,rfl,hm⟩:=h
 exact ⟨m,rfl⟩
theorem EW {n:Nat}:∀ {k:Nat} {c:List CV},SU (Shp Try.prog (n+1)) (List.replicate k 3) c→∃ l:List Int,l.length=k∧c=l.map ci
 | 0,c,h=>⟨[],rfl,h⟩
 | k+1,c,h=>by
  simp only [List.replicate_succ,SU] at h
  obtain ⟨a,b,rfl,h1,h2⟩:=h
  obtain ⟨m,rfl⟩:=LM h1
  obtain ⟨l,h3,rfl⟩:=EW h2
  exact ⟨m::l,by simp [h3],rfl⟩
theorem BU {A:Type} {cv:A→List CV}:∀ {es:List (List CV)},(∀ x∈es,∃ a,x=cv a)→∃ l:List A,es=l.map cv
 | [],_=>⟨[],rfl⟩
 | e::es,h=>by
  obtain ⟨a,rfl⟩:=h e (by simp)
  obtain ⟨l,rfl⟩:=BU (es:=es) fun x hx=>h x (by simp [hx])
  exact ⟨a::l,rfl⟩
theorem yQ {n m:Nat} (h:n*m≤reachBytes) (hm:2≤m):n<100000000000000:=by
 have h1:n*2≤n*m:=Nat.mul_le_mul_left _ hm
 have h2:reachBytes<2 ^ 47:=by decide
 omega
theorem aCg {n:Nat} {c:List CV} (h:Shp Try.prog (n+2) 22 c):∃ l:List Int,l.length<100000000000000∧c=[.row 1 (Pen.ints l)]:=by
 have c3:Try.prog.cellsOf 3=1:=by kernel_rfl
 have b3:Try.prog.bytesOf 3=8:=by kernel_rfl
 rw [Shp] at h
 simp only [Try.underlying22,c3,b3] at h
 obtain ⟨es,rfl,hes,hb⟩:=h
 obtain ⟨l,rfl⟩:=BU (cv:=fun x:Int=>[ci x]) fun x hx=>LM (hes x hx)
 rw [List.length_map] at hb
 exact ⟨l,yQ hb (by omega),rfl⟩
theorem aFg {n:Nat} {c:List CV} (h:Shp Try.prog (n+3) 23 c):∃ l:List T3,l.length<100000000000000∧c=[.row 3 (l.map T3.cv)]:=by
 have c3:Try.prog.cellsOf 74=3:=by kernel_rfl
 have b3:Try.prog.bytesOf 74=24:=by kernel_rfl
 rw [Shp] at h
 simp only [Try.underlying23,c3,b3] at h
 obtain ⟨es,rfl,hes,hb⟩:=h
 obtain ⟨l,rfl⟩:=BU (cv:=T3.cv) fun x hx=>by
  have h1:=hes x hx
  rw [Shp] at h1
  simp only [Try.underlying74] at h1
  obtain ⟨l,hl,rfl⟩:=EW h1
  match l,hl with
  | [a,b,c],_=>exact ⟨⟨a,b,c⟩,rfl⟩
 rw [List.length_map] at hb
 exact ⟨l,yQ hb (by omega),rfl⟩
theorem aCh {n:Nat} {c:List CV} (h:Shp Try.prog (n+3) 24 c):∃ l:List T4,l.length<100000000000000∧c=[.row 4 (l.map T4.cv)]:=by
 have c3:Try.prog.cellsOf 75=4:=by kernel_rfl
 have b3:Try.prog.bytesOf 75=32:=by kernel_rfl
 rw [Shp] at h
 simp only [Try.underlying24,c3,b3] at h
 obtain ⟨es,rfl,hes,hb⟩:=h
 obtain ⟨l,rfl⟩:=BU (cv:=T4.cv) fun x hx=>by
  have h1:=hes x hx
  rw [Shp] at h1
  simp only [Try.underlying75] at h1
  obtain ⟨l,hl,rfl⟩:=EW h1
  match l,hl with
  | [a,b,c,d],_=>exact ⟨⟨a,b,c,d⟩,rfl⟩
 rw [List.length_map] at hb
 exact ⟨l,yQ hb (by omega),rfl⟩
theorem LN (css:List (List CV)) (h:qS Try.prog 6 Try.f3.params.toList css):SpecR Try.prog 3 (zM Try.prog Try.f3.params.toList css) (.cv (cb true)):=by
 rw [Try.params3] at h ⊢
 match css,h with
 | [c1,c2],h =>
  simp only [qS,and_true] at h
  obtain ⟨h1,h2⟩:=h
  rw [Shp] at h1
  simp only [Try.underlying26,List.map_cons,List.map_nil,SU] at h1
  obtain ⟨_,_,rfl,g1,_,_,rfl,g2,_,_,rfl,g3,_,_,rfl,g4,rfl⟩:=h1
  obtain ⟨xs,l1,rfl⟩:=aCg g1
  obtain ⟨ks,l2,rfl⟩:=aFg g2
  obtain ⟨ss,l3,rfl⟩:=aCh g3
  obtain ⟨ns,l4,rfl⟩:=aCh g4
  obtain ⟨day,rfl⟩:=LM h2
  exact aDN (g:=fe3.g) rfl (ZT 0 xs ks ss ns day l1 l2 l3 l4)
 | [],h=>simp [qS] at h
 | [_],h=>simp [qS] at h
 | _::_::_::_,h=>simp [qS] at h
theorem EX (os:Os) (started:os.Started) (H:Type) (enc:TypeId×Value→H) :
  ReturnsInHanded {} Try.checked os 3 .any (Rows.topFeedSpec.pre6 enc Try.prog Try.f3 Rows.topFeedRow.domain false) (Rows.topFeedSpec.post enc Try.prog Try.f3 false true false false):=
 aBv (C:=Try.checked) (tb:=4) 6 Try.own started (by kernel_rfl) Try.func3 Try.kids Try.full
  (by rw [Try.params3];intro t ht;simp only [List.mem_cons,List.not_mem_nil,or_false] at ht;rcases ht with rfl | rfl <;> exact of_decide_eq_true (by kernel_rfl))
  (by kernel_rfl) (by rfl) Try.underlying4 rfl
  (fun ds h=>by
   rw [Try.params3] at h
   match ds,h with
   | [_,_],_=>rfl)
  (ChangeSpec.witness6 (enc:=enc) (C:=Try.checked) false ⟨#[],#[.agg #[.slice none 0 0,.slice none 0 0,.slice none 0 0,.slice none 0 0],.int .i64 0],[]⟩ 8 (by kernel_rfl) (by kernel_rfl) (by kernel_rfl) (by kernel_rfl))
  LN
theorem topFeed_holds:Rows.TopFeedSaid:=
 OpenClaim.holds_of_wide 3 Try.f3 rfl rfl rfl rfl rfl rfl rfl ⟨rfl,rfl,rfl,rfl,rfl⟩ rfl rfl rfl rfl rfl (by kernel_rfl) Try.func3 (by kernel_rfl)
  (of_decide_eq_true (by kernel_rfl)) (by unfold Func.isWrapper;first | (rw [if_pos (by decide +kernel)];kernel_rfl) | (rw [if_neg (by decide +kernel)];exact ⟨rfl,rfl⟩))
  (fun os started H enc _=>EX os started H enc)
end Go.Proofs.Ytnnifohchhjkhaa
