/-
 The laws of a pinder's court (plaints) hold at every input, without any condition.
-/
import Derived.KernelRfl
import Derived.Test.YtgpnoeojpmaeiaaGreatP09
set_option linter.unusedSectionVars false
set_option linter.unusedVariables false
set_option linter.unusedSimpArgs false
namespace Go.Sx
open Go
@[simp] theorem aJY (n:Int):cI (ci n)=n:=rfl
@[simp] theorem aJZ (b:Bool):cB (cb b)=b:=rfl
@[simp] theorem aJs (k:Nat) (es:List (List CV)):cR (.row k es)=es:=rfl
@[simp] theorem cW (n:Int) (l:List CV):gi (ci n::l) 0=n:=rfl
@[simp] theorem BR (c:CV) (l:List CV) (n:Nat):gi (c::l) (n+1)=gi l n:=rfl
@[simp] theorem nD (b:Bool) (l:List CV):gb (cb b::l) 0=b:=rfl
@[simp] theorem aJ9 (c:CV) (l:List CV) (n:Nat):gb (c::l) (n+1)=gb l n:=rfl
@[simp] theorem cY (k:Nat) (es:List (List CV)) (l:List CV):gr (.row k es::l) 0=es:=rfl
@[simp] theorem fO (c:CV) (l:List CV) (n:Nat):gr (c::l) (n+1)=gr l n:=rfl
@[simp] theorem aJ0 (v:List CV) (i:Nat):cis v i 0=[]:=rfl
@[simp] theorem aJ1 (v:List CV) (i n:Nat):cis v i (n+1)=ci (gi v i)::cis v (i+1) n:=rfl
@[simp] theorem aJ2:cat []=[]:=rfl
@[simp] theorem aJ3 (x:List CV):cat [x]=x:=rfl
@[simp] theorem aJ4 (x y:List CV) (l:List (List CV)):cat (x::y::l)=x++cat (y::l):=rfl
@[simp] theorem NH (b:Bool) (x y:Option Ou):aC b x y=if b=true then x else y:=by cases b <;> rfl
@[simp] theorem bR (x:Option Ou):chk true x=x:=rfl
@[simp] theorem aD (vs:List CV) (K:List CV->Option Ou):aA (some vs) K=K vs:=rfl
@[simp] theorem GL (vs:List CV) (K:List CV->Option Ou):mY (some (.ret vs)) K=K vs:=rfl
@[simp] theorem eX (vs:List CV) (K:List CV->Option Ou):bD (some (.nx vs)) K=K vs:=rfl
@[simp] theorem aHT (vs:List CV) (K:List CV->Option Ou):bD (some (.ret vs)) K=some (.ret vs):=rfl
@[simp] theorem aID (i:Nat) (vs:List CV) (K:List CV->Option Ou):bD (some (.br i vs)) K=some (.br i vs):=rfl
@[simp] theorem aIE (i:Nat) (vs:List CV) (K:List CV->Option Ou):bG i (some (.nx vs)) K=some (.nx vs):=rfl
@[simp] theorem aHU (i:Nat) (vs:List CV) (K:List CV->Option Ou):bG i (some (.ret vs)) K=some (.ret vs):=rfl
@[simp] theorem jC (i:Nat) (vs:List CV) (K:List CV->Option Ou):bG i (some (.br i vs)) K=K vs:=by simp [bG]
@[simp] theorem dP (vs:List CV):aJ (some (.ret vs))=some vs:=rfl
@[simp] theorem aHV (a:Option Ou):eqO a a=a:=by simp [eqO]
theorem WE {es:List (List CV)} {kt kf:Option Ou} (h:es=[]->kt=kf):xQ es kt kf=kf:=by
 cases es with
 | nil=>simp [xQ,h rfl]
 | cons=>rfl
@[simp] theorem aDW (a b:Int):(a == b)=decide (a=b):=rfl
@[simp] theorem aIF (a b:Int):(a != b)=!decide (a=b):=rfl
section
variable (c:Prop) [Decidable c]
@[simp] theorem aJt (xs ys:List CV):(if c then some (Ou.nx xs) else some (Ou.nx ys))=some (Ou.nx (if c then xs else ys)):=by split <;> rfl
@[simp] theorem aIG (xs ys:List CV):(if c then some (Ou.ret xs) else some (Ou.ret ys))=some (Ou.ret (if c then xs else ys)):=by split <;> rfl
@[simp] theorem aGE (a b:CV) (az bs:List CV):(if c then a::az else b::bs)=(if c then a else b)::(if c then az else bs):=by split <;> rfl
@[simp] theorem aJu (a b:Int):(if c then ci a else ci b)=ci (if c then a else b):=by split <;> rfl
@[simp] theorem aJv (a b:Bool):(if c then cb a else cb b)=cb (if c then a else b):=by split <;> rfl
end
variable {A:Type}
@[simp] theorem aP {B:Type} (f:A->B) (l:List A):il (l.map f)=l.length:=by simp [il]
theorem aFU (l:List A):il l=l.length:=rfl
variable {i:Nat}
theorem aE {A:Type} {f:A->List CV} {l:List A} (h:i<l.length):inb (i:Int) (l.map f)=true:=by simp [inb,h]
theorem aK {A:Type} {f:A->List CV} {l:List A} (h:i<l.length):el (l.map f) (i:Int)=f l[i]:=by simp [el,h]
theorem QN {A:Type} {f:A->List CV} {l:List A} (h:0<l.length):inb 0 (l.map f)=true:=aE (i:=0) h
theorem dQ {x:Int} (h:-9223372036854775808<=x) (h':x<9223372036854775808):wr x=x:=by
 grind [wr,IntKind.wrap_i64]
theorem bA {x:Nat} (h:x<9223372036854775807):wr ((x:Int)+1)=((x+1:Nat):Int):=by grind [dQ]
theorem NI {x:Nat} (h0:0<x) (h:x<9223372036854775807):wr ((x:Int) - 1)=((x - 1:Nat):Int):=by grind [dQ]
theorem cU {n k by_:Nat} (h:(n+k)*by_<=140737488355328) (h':n+k<=9223372036854775807):bL n k by_=true:=by
 have e:maxLen=9223372036854775807:=by decide
 grind [bL]
@[simp] theorem aIH (k:Nat) (l:List CV):aI k 0 l=[]:=rfl
@[simp] theorem aII (k n:Nat) (l:List CV):aI k (n+1) l=l.take k::aI k n (l.drop k):=rfl
@[simp] theorem KF (cs:List CV) (o:Nat):oks [] cs o=true:=rfl
@[simp] theorem KG (n:Int):Lf.ok li (ci n)=true:=rfl
@[simp] theorem aJ5 (b:Bool):Lf.ok lb (cb b)=true:=rfl
@[simp] theorem aBQ (ls:List Lf) (c:CV) (cs:List CV) (o:Nat):oks ls (c::cs) (o+1)=oks ls cs o:=by
  induction ls generalizing o with
  | nil=>rfl
  | cons l ls ih=>simp only [oks,List.getElem?_cons_succ,ih]
@[simp] theorem nH (l:Lf) (ls:List Lf) (c:CV) (cs:List CV):oks (l::ls) (c::cs) 0=(l.ok c&&oks ls cs 0):=by
  simp only [oks,List.getElem?_cons_zero,aBQ ls c cs 0]
variable {step:List CV->Option Ou} {vs:List CV}
theorem gI {vs':List CV} (h:step vs=some (.nx vs')):aH step vs=aH step vs':=by rw [PW,h]
theorem aQ {r:Option Ou} (h:step vs=r) (hr:∀ l,r≠some (.nx l)):aH step vs=r:=by
 grind [PW]
theorem iC {step:List CV->Option Ou} (T:Nat->List CV):∀ (n:Nat),(∀ i,i<n->step (T i)=some (.nx (T (i+1))))->aH step (T 0)=aH step (T n)
 | 0,_=>rfl
 | n+1,h=>by rw [iC T n fun i hi=>h i (by omega)];exact gI (h n (by omega))
theorem aGF (n:Nat) (T:Nat->List CV) (p:Nat->Bool) (R:Nat->Option Ou) (X:Option Ou) (hv:vs=T 0) (hR:∀ i,i<n->p i=true->∀ l,R i≠some (.nx l)) (hX:∀ l,X≠some (.nx l))
  (h1:∀ i,i<n->p i=false->step (T i)=some (.nx (T (i+1)))) (h2:∀ i,i<n->p i=true->step (T i)=R i) (h3:step (T n)=X) :
  aH step vs=match (List.range n).find? p with
   | some i=>R i
   | none=>X:=by
 subst hv;cases hf:(List.range n).find? p with
 | none =>
  rw [iC T n fun i hi=>h1 i hi (by grind)]
  exact aQ h3 hX
 | some i =>
  rw [List.find?_range_eq_some] at hf;obtain ⟨hp,hi,hq⟩:=hf;have dd:i<n:=by grind
  rw [iC T i fun j hj=>h1 j (by omega) (by grind)]
  exact aQ (h2 i dd hp) (hR i dd hp)
theorem GM {A:Type} (k:Nat) (cv:A->List CV) (keep:A->Bool) (l:List A) {step:List CV->Option Ou} (b:Nat)
  (h1:∀ (i j:Nat) (az:List A) (hj:j<az.length),i<j->az.length=l.length->az[j]∈l->step [ci i,ci j,.row k (az.map cv)]=some (.nx (if keep az[j]=true then [ci (i+1:Nat),ci (j+1:Nat),.row k ((az.set i az[j]).map cv)] else [ci i,ci (j+1:Nat),.row k (az.map cv)])))
  (h2:∀ (i:Nat) (az:List A),az.length=l.length->step [ci i,ci az.length,.row k (az.map cv)]=some (.br b [ci i,.row k (az.map cv)])) :
  ∀ (m i j:Nat) (az:List A),j+m=l.length->i<j->az.length=l.length->az.take i=(l.take j).filter keep->az.drop j=l.drop j ->
  ∃ (az':List A) (i':Nat),aH step [ci i,ci j,.row k (az.map cv)]=some (.br b [ci i',.row k (az'.map cv)])/\az'.length=l.length/\az'.take i'=l.filter keep/\i'<=l.length
 | 0,i,j,az,hm,d8,hl,ht,hd=>by
  have hj:j=az.length:=by omega
  refine ⟨az,i,?_,hl,?_,by omega⟩
  ·rw [hj];exact aQ (h2 i az hl) (by simp)
  grind
 | m+1,i,j,az,hm,d8,hl,ht,hd=>by
  have hj:j<az.length:=by omega
  have bk:j<l.length:=by omega
  have he:az[j]=l[j]:=by
   have h3:=congrArg (fun x=>x[0]?) hd
   grind
  have Lg:az.drop (j+1)=l.drop (j+1):=by
   have h3:=congrArg (List.drop 1) hd;grind [List.drop_drop,Nat.add_comm]
  have Lh:l.take (j+1)=l.take j++[l[j]]:=(List.take_append_getElem bk).symm;rw [gI (h1 i j az hj d8 hl (he▸List.getElem_mem bk))];cases hk:keep az[j] with
  | true =>
   refine GM k cv keep l b h1 h2 m (i+1) (j+1) _ (by omega) (by omega) (by grind) ?_ ?_
   ·have hi:i<(az.set i az[j]).length:=by grind
    rw [Lh,List.filter_append,<- ht,<- he,<- List.take_append_getElem hi,List.take_set_of_le (Nat.le_refl _)];grind
   grind [List.drop_set_of_lt]
  | false =>
   refine GM k cv keep l b h1 h2 m i (j+1) _ (by omega) (by omega) hl ?_ Lg
   grind
theorem ZP (k by_:Nat) (cv:A->List CV) (l:List A) (h:l.length*by_<=140737488355328) (h':l.length<=9223372036854775807) :
  xQ (l.map cv) (some (.ret [.row k []])) (chk (bL 0 (l.map cv).length by_) (some (.ret [.row k (l.map cv)])))=some (.ret [.row k (l.map cv)]):=by
 have hf:bL 0 (l.map cv).length by_=true:=cU (by grind) (by grind)
 grind [WE,bR]
theorem GN {A:Type} {step:List CV->Option Ou} (p:A->Bool):∀ (m:List A) (R:Nat->Option Ou) (X:Option Ou) (T:Nat->List CV) {vs:List CV},vs=T 0->(∀ i l,R i≠some (.nx l))->(∀ l,X≠some (.nx l)) ->
  (∀ i (h:i<m.length),p m[i]=false->step (T i)=some (.nx (T (i+1))))->(∀ i (h:i<m.length),p m[i]=true->step (T i)=R i)->step (T m.length)=X ->
  aH step vs=match m.findIdx? p with
   | some i=>R i
   | none=>X
 | [],R,X,T,vs,hv,hR,hX,h1,h2,h3=>by subst hv;exact aQ h3 hX
 | a::m,R,X,T,vs,hv,hR,hX,h1,h2,h3=>by
  subst hv;rw [List.findIdx?_cons];cases hp:p a with
  | true=>exact aQ (h2 0 (by simp) hp) fun l=>hR 0 l
  | false =>
   rw [gI (h1 0 (by simp) hp),GN p m (fun i=>R (i+1)) X (fun i=>T (i+1)) rfl (fun i l=>hR (i+1) l) hX (fun i h hq=>h1 (i+1) (by grind) hq) (fun i h hq=>h2 (i+1) (by grind) hq) h3]
   grind
noncomputable def DX (call:List CV->Option (List CV)) (k:Nat):List CV->Option Ou:=fun v2 =>
      aC (decide ((gi v2 1)<(il (gr v2 2))))
       (chk (inb (gi v2 1) (gr v2 2)) <|
       chk (decide ((Int.toNat (gi v2 1))<(List.length (gr v2 2)))) <|
       chk (oks (List.replicate k li) (el (gr v2 2) (gi v2 1)) 0) <|
       aA (call (cis (el (gr v2 2) (gi v2 1)) 0 k)) fun v3 =>
       bD (aC (!(gb v3 0))
           (chk (inb (gi v2 0) (gr v2 2)) <|
           chk ((decide ((Int.toNat (gi v2 0))<(List.length (gr v2 2))))&&(decide (k<=k))) <|
           some (.nx [ci (wr ((gi v2 0)+1)),CV.row k (List.set (gr v2 2) (Int.toNat (gi v2 0)) (spl (el (gr v2 2) (gi v2 0)) 0 (cis (el (gr v2 2) (gi v2 1)) 0 k)))]))
           (some (.nx [ci (gi v2 0),CV.row k (gr v2 2)]))) fun v4 =>
       some (.nx [ci (gi v4 0),ci (wr ((gi v2 1)+1)),CV.row k (gr v4 1)]))
       (some (.br 0 [ci (gi v2 0),CV.row k (gr v2 2)]))
noncomputable def aBR (ix:Option (List CV)) (call:List CV->Option (List CV)) (k:Nat) (z:List CV) (es:List (List CV)) (K:List (List CV)->Option Ou):Option Ou:=
 aA ix fun v1 =>
   aC ((gi v1 0) == (-1))
    (K es)
    (bG 0 (aH (DX call k) [ci (gi v1 0),ci (wr ((gi v1 0)+1)),CV.row k es]) fun v2 =>
    chk ((decide (0<=(gi v2 0)))&&(decide ((gi v2 0)<=(il (gr v2 1))))) <|
    chk ((decide (0<=(gi v2 0)))&&(decide ((gi v2 0)<=(il ((List.take (Int.toNat (gi v2 0)) (gr v2 1))++(List.replicate ((List.length (gr v2 1)) - (Int.toNat (gi v2 0))) z)))))) <|
    K (List.take (Int.toNat (gi v2 0)) ((List.take (Int.toNat (gi v2 0)) (gr v2 1))++(List.replicate ((List.length (gr v2 1)) - (Int.toNat (gi v2 0))) z))))
noncomputable def aDX (ix:Option (List CV)) (call:List CV->Option (List CV)) (k:Nat) (z:List CV) (es:List (List CV)):Option Ou:=aBR ix call k z es fun es=>some (.ret [CV.row k es])
def DI (o:Option Nat):Int:=match o with
 | some i=>i
 | none=>-1
variable {ix:Option (List CV)} {call:List CV->Option (List CV)}
theorem QO (k:Nat) (cv:A->List CV) (z:List CV) (hk:∀ a,(cv a).length=k) (ka:∀ a,oks (List.replicate k li) (cv a) 0=true) (ww:∀ a,cis (cv a) 0 k=cv a) (del:A->Bool) (l:List A) (hl:l.length<9223372036854775807) (pi:ix=some [ci (DI (l.findIdx? del))]) (hc:∀ a∈l,call (cv a)=some [cb (del a)]) :
  ∀ K,aBR ix call k z (l.map cv) K=K ((l.filter fun a=>!del a).map cv):=by
 intro K;subst pi;simp only [aBR,aD,cW];cases hf:l.findIdx? del with
 | none =>
  rw [List.findIdx?_eq_none_iff] at hf;have:l.filter (fun a=>!del a)=l:=List.filter_eq_self.2 fun a ha=>by simp [hf a ha]
  simp [DI,this]
 | some i0 =>
  obtain ⟨hi,hd,hb⟩:=List.findIdx?_eq_some_iff_getElem.1 hf;have hw:=bA (show i0<9223372036854775807 by omega)
  simp only [DI,aDW,show ¬((i0:Int)=-1) by omega,decide_false,NH,Bool.false_eq_true,if_false,hw]
  have un:l.take i0=(l.take (i0+1)).filter fun a=>!del a:=by
   rw [<- List.take_append_getElem hi,List.filter_append]
   have h1:(l.take i0).filter (fun a=>!del a)=l.take i0:=List.filter_eq_self.2 fun a ha=>by
    obtain ⟨j,hj,rfl⟩:=List.mem_iff_getElem.1 ha;rw [List.length_take] at hj;have:=hb j (by omega)
    simpa using this
   rw [h1];simp [hd]
  obtain ⟨az,i',h1,h2,h3,h4⟩:=GM (step:=DX call k) k cv (fun a=>!del a) l 0 (fun i j az hj d8 gl hm=>by
    have hi:i<az.length:=by omega
    have Af:=bA (show i<9223372036854775807 by omega)
    have E9:=bA (show j<9223372036854775807 by omega)
    have jq:spl (cv az[i]) 0 (cv az[j])=cv az[j]:=by simp [spl,hk]
    have yh:(j:Int)<az.length:=by omega
    have dm:=aE (f:=cv) hj;have Fa:=aE (f:=cv) hi;have ma:=aK (f:=cv) hj;have Fb:=aK (f:=cv) hi;simp only [DX,cW,BR,cY,fO,aP,yh,decide_true,NH,if_true,dm,Fa,ma,Fb,ka,ww,hc _ hm,bR,aD,nD,Int.toNat_natCast,List.length_map,hj,hi,Nat.le_refl,Bool.and_self,Af,E9,jq];cases del az[j] <;> simp [List.map_set]) (fun i az gl=>by
    simp only [DX,cW,BR,cY,fO,aP,Int.lt_irrefl,decide_false,NH,Bool.false_eq_true,if_false]) (l.length - (i0+1)) i0 (i0+1) l (by omega) (by omega) rfl un rfl
  simp only [h1,jC,cW,cY,fO,aP,Int.toNat_natCast];have e1:(i':Int)<=az.length:=by omega
  have e2:((List.take i' (az.map cv))++List.replicate ((az.map cv).length - i') z).length=az.length:=by simp;omega
  simp only [il,e2,Int.natCast_nonneg,e1,decide_true,Bool.and_self,bR,Int.ofNat_eq_natCast]
  have e3:List.take i' ((List.take i' (az.map cv))++List.replicate ((az.map cv).length - i') z)=((l.filter fun a=>!del a).map cv):=by
   rw [List.take_append_of_le_length (by simp;omega),List.take_take,Nat.min_self,<- List.map_take,h3]
  rw [e3]
theorem aDY (k:Nat) (cv:A->List CV) (z:List CV) (hk:∀ a,(cv a).length=k) (ka:∀ a,oks (List.replicate k li) (cv a) 0=true) (ww:∀ a,cis (cv a) 0 k=cv a) (del:A->Bool) (l:List A) (hl:l.length<9223372036854775807) (pi:ix=some [ci (DI (l.findIdx? del))]) (hc:∀ a∈l,call (cv a)=some [cb (del a)]) :
  aDX ix call k z (l.map cv)=some (.ret [.row k ((l.filter fun a=>!del a).map cv)]):=QO k cv z hk ka ww del l hl pi hc _
theorem eY (n:Nat) (T:Nat->List CV) (r:Option Ou) (hv:vs=T 0) (hs:∀ i,i<n->step (T i)=some (.nx (T (i+1)))) (he:step (T n)=r) (hr:∀ l,r≠some (.nx l)):aH step vs=r:=by
 subst hv;rw [iC T n hs];exact aQ he hr
theorem take_succ {A:Type} {l:List A} (h:i<l.length):l.take (i+1)=l.take i++[l[i]]:=(List.take_append_getElem h).symm
theorem KH (l:List A) (q:A->Bool) (g:A->List CV) (k b:Nat) (hv:vs=[ci 0,.row k []])
  (hs:∀ i (h:i<l.length) (es:List (List CV)),es.length<=i->step [ci (i:Int),.row k es]=some (.nx [ci ((i+1:Nat):Int),.row k (if q l[i]=true then es++[g l[i]] else es)]))
  (he:∀ es,step [ci (l.length:Int),.row k es]=some (.br b [.row k es])):aH step vs=some (.br b [.row k ((l.filter q).map g)]):=by
 refine eY l.length (fun i=>[ci (i:Int),.row k (((l.take i).filter q).map g)]) _ hv (fun i hi=>?_) ?_ (by simp)
 ·grind [take_succ]
 grind
theorem ZQ (l:List A):l.filter (fun _=>true)=l:=List.filter_eq_self.2 (by simp)
end Go.Sx
namespace Go.Proofs.YtgpnoeojpmaeiaaGreat
section
open Go Go.Sx
set_option maxRecDepth 100000
noncomputable section
def aBT:FE:=⟨40,[],.two (.reg [] [0,1,9,10] none []) (.blk ⟨[],[],[],[(0,1048576,0,some 0)]⟩ (.lp [] ⟨[0,1,9],[(10,.lf li)],[],[(0,1048576,0,some 0)]⟩ (.two (.reg [] [0,1,9,10,11] none []) (.two (.cond none (.nil) (.nil)) (.two (.thru (.two (.reg [] [0,1,3,9,10] none []) (.two (.reg [] [0,1,3,4,9,10] none []) (.two (.two (.reg [] [0,1,3,4,9,10,13,14,15] none []) (.blk ⟨[0,1,9,10],[(4,.own 1)],[],[(1,3,1,none)]⟩ (.lp [.mk 4 3 1] ⟨[0,1,3,9,10,13,14],[(4,.own 1),(15,.lf li)],[],[(1,3,1,none)]⟩ (.two (.reg [] [0,1,3,4,9,10,13,14,15,16] none []) (.two (.cond none (.nil) (.nil)) (.two (.thru (.two (.reg [] [0,1,3,4,5,6,9,10,13,14,15] none []) (.two (.reg [] [0,1,3,4,6,9,10,13,14,15,24] none []) (.cond (some ⟨[0,1,3,9,10,13,14,15],[(4,.own 1)],[],[(1,3,1,none)]⟩) (.reg [] [0,1,3,4,9,10,13,14,15] none []) (.nil))))) (.reg [] [0,1,3,4,9,10,13,14,15] none []))))))) (.two (.reg [.fz 1] [] (some ⟨[0,1,9,10],[(38,.lf lb)],[],[(0,1048576,0,some 0)]⟩) [(some 36,⟨[],[],[],[]⟩,.yl (.clo [.one (Lf.row 1)]))]) (.cond none (.nil) (.nil))))))) (.reg [] [0,1,9,10] none [])))))),⟨[],[]⟩⟩
def aBU:FE:=⟨19,[],.two (.reg [] [0,1,3] none []) (.blk ⟨[],[],[],[(0,1048576,0,some 0)]⟩ (.lp [] ⟨[0,1],[(3,.lf li)],[],[(0,1048576,0,some 0)]⟩ (.two (.two (.reg [] [0,1,3,8] none []) (.cond none (.nil) (.nil))) (.two (.thru (.two (.reg [] [0,1,3,18] none [(some 17,⟨[],[],[],[]⟩,.yl (.clo [.one li,.one li]))]) (.cond none (.nil) (.nil)))) (.reg [] [0,1,3] none []))))),⟨[],[]⟩⟩
def stepS (M:Den) (y:Nat) (l:List (List CV)) (v0:List CV):Option Ou:=
    aC (decide ((gi v0 0)<(wr (1*((2:Int) ^ (min (Int.toNat (il l)) 64))))))
     (bG 2 (aH (fun v1 =>
       aC (decide ((gi v1 0)<(il l)))
        (chk (inb (gi v1 0) l) <|
        chk (oks [li] (el l (gi v1 0)) 0) <|
        chk (decide (0<=(gi v1 0))) <|
        bD (aC ((wr (Int.ofNat (bAN (Int.fdiv (gi v0 0) ((2:Int) ^ (min (Int.toNat (gi v1 0)) 64))) 1))) == 1)
            (chk (bL (List.length (gr v1 1)) 1 8) <|
            some (.nx ([CV.row 1 ((gr v1 1)++(aI 1 1 [ci (gi (el l (gi v1 0)) 0)]))])))
            (some (.nx [CV.row 1 (gr v1 1)]))) fun v2 =>
        some (.nx [ci (wr ((gi v1 0)+1)),CV.row 1 (gr v2 0)]))
        (some (.br 2 [CV.row 1 (gr v1 1)]))) ([ci 0,CV.row 1 []])) fun v1 =>
     bD (aC (decide ((il (gr v1 0)) > 0))
         (aA (M 1048576 ([CV.val (Value.func (Fn.yield y) #[] #[]),CV.row 0 ([[CV.row 1 []]]),CV.row 0 (gr v0 1),CV.row 1 (gr v1 0)])) fun v2 =>
         some (.nx [cb (!(gb v2 0)),CV.row 0 (gr v2 1)]))
         (some (.nx [cb false,CV.row 0 (gr v0 1)]))) fun v2 =>
     aC (gb v2 0)
      (some (.ret [CV.row 0 (gr v2 1)]))
      (some (.nx [ci (wr ((gi v0 0)+1)),CV.row 0 (gr v2 1)])))
     (some (.br 0 [CV.row 0 (gr v0 1)]))
theorem aHW (M:Den) (y:Nat) (l:List (List CV)) (es:List (List CV)):evY Tryz.prog sg M 11 aBT (aB Tryz.f158) y [.ref [.row 1 l]] es=aJ (bG 0 (aH (stepS M y l) [ci 0,CV.row 0 es]) fun v0=>some (.ret [CV.row 0 (gr v0 0)])):=by kernel_rfl
def KI (M:Den) (y:Nat) (l:List (List CV)) (v0:List CV):Option Ou:=
        aC (decide ((gi v0 0)>=0))
         (chk (inb (gi v0 0) l) <|
         chk (oks [li] (el l (gi v0 0)) 0) <|
         aA (M 1048576 ([CV.val (Value.func (Fn.yield y) #[] #[]),CV.row 0 ([[ci 0],[ci 0]]),CV.row 0 (gr v0 1),ci (gi v0 0),ci (gi (el l (gi v0 0)) 0)])) fun v1 =>
         aC (!(gb v1 0))
          (some (.ret [CV.row 0 (gr v1 1)]))
          (some (.nx [ci (wr ((gi v0 0) - 1)),CV.row 0 (gr v1 1)])))
         (some (.br 0 [CV.row 0 (gr v0 1)]))
theorem aHX (M:Den) (y:Nat) (l:List (List CV)) (es:List (List CV)):evY Tryz.prog sg M 11 aBU (aB Tryz.f169) y [.ref [.row 1 l]] es=aJ (bG 0 (aH (KI M y l) [ci (wr ((il l) - 1)),CV.row 0 es]) fun v0=>some (.ret [CV.row 0 (gr v0 0)])):=by kernel_rfl
end
end
section
open Go Go.Sx
set_option maxRecDepth 10000
theorem iP (a b:Option Ou):aC true a b=a:=rfl
theorem dU (a b:Option Ou):aC false a b=b:=rfl
theorem yE {step:List CV->Option Ou} {b:Nat} {rows:List (List CV)} {yf:YF} (T:Nat->List (List CV)->List CV)
  (h1:∀ p (hp:p<rows.length) es,(∀ e,yf es rows[p]=some (true,e)->step (T p es)=some (.nx (T (p+1) e)))/\(∀ e,yf es rows[p]=some (false,e)->step (T p es)=some (.ret [.row 0 e])))
  (h2:∀ es,step (T rows.length es)=some (.br b [.row 0 es])):∀ (d p:Nat) (es es':List (List CV)),p+d=rows.length->fC (rows.drop p) yf es=some es'->aH step (T p es)=some (.br b [.row 0 es'])\/aH step (T p es)=some (.ret [.row 0 es'])
 | 0,p,es,es',hp,h=>by
  have:p=rows.length:=by omega
  subst this;simp [fC] at h;subst h;exact .inl (aQ (h2 es) (by simp))
 | d+1,p,es,es',hp,h=>by
  have an:p<rows.length:=by omega
  rw [List.drop_eq_getElem_cons an] at h;simp [fC] at h;split at h
  ·rename_i e he
   rw [gI ((h1 p an es).1 e he)];exact yE T h1 h2 d (p+1) e es' (by omega) h
  ·rename_i e he
   cases h;exact .inr (aQ ((h1 p an es).2 _ he) (by simp))
  grind
variable {M:Den} {l:Nat} {yf:YF} {es:List (List CV)}
theorem wC {sh:YSh} {x:List (List CV)} {y:List CV}:withY M l sh yf 1048576 (CV.val (.func (.yield l) #[] #[])::shC sh::.row 0 es::y)=match yf es y with
   | some (b,es')=>some [cb b,.row 0 es']
   | none=>none:=by
 simp [withY];rfl
abbrev enc1 (L:List Int):List (List CV):=L.map fun a=>[ci a]
abbrev QP:YSh:=.clo [.one li,.one li]
def pL (L:List Int):List (List CV):=((List.range L.length).map fun p=>[ci ((L.length - 1 - p:Nat):Int),ci (L.getD (L.length - 1 - p) 0)])
variable {L:List Int} {es':List (List CV)}
theorem ZR (hL:L.length<=1000000) (hR:fC (pL L) yf es=some es') :
  aJ (bG 0 (aH (KI (withY M l QP yf) l (enc1 L)) [ci (wr ((il (enc1 L)) - 1)),CV.row 0 es]) fun v0=>some (.ret [CV.row 0 (gr v0 0)]))=some [.row 0 es']:=by
 have jk:(pL L).length=L.length:=by simp [pL]
 have key:=yE (b:=0) (rows:=pL L) (yf:=yf) (fun p es=>[ci ((L.length:Int) - 1 - p),.row 0 es]) (step:=KI (withY M l QP yf) l (enc1 L)) ?h1 ?h2 (pL L).length 0 es es' (by omega) (by grind)
 case h2 =>
  intro es;rw [jk];have h0:¬((L.length:Int) - 1 - (L.length:Int)>=0):=by omega
  simp only [KI,cW,fO,cY,h0,decide_false,dU]
 case h1 =>
  intro p hp es;have hq:L.length - 1 - p<L.length:=by omega
  have hi:(L.length:Int) - 1 - p=((L.length - 1 - p:Nat):Int):=by omega
  have ge:(pL L)[p]'(by omega)=[ci ((L.length - 1 - p:Nat):Int),ci L[L.length - 1 - p]]:=by
   simp [pL,hq]
  have hw:wr (((L.length - 1 - p:Nat):Int) - 1)=(L.length:Int) - 1 - ((p+1:Nat):Int):=by grind [dQ]
  have s9:(CV.row 0 [[ci 0],[ci 0]]:CV)=shC QP:=rfl;rw [ge,hi];constructor
  ·intro e he
   simp [KI,aE hq,aK hq,s9,wC (x:=[]),he,hw]
  ·intro e he
   simp [KI,aE hq,aK hq,s9,wC (x:=[]),he]
 have ax:([ci (wr ((il (enc1 L)) - 1)),CV.row 0 es]:List CV)=[ci ((L.length:Int) - 1 - ((0:Nat):Int)),.row 0 es]:=by
  grind [aFU,dQ]
 rw [ax];rcases key with h | h <;> rw [h] <;> simp
def mU (L:List Int) (b:Nat):Nat->List Int
 | 0=>[]
 | j+1=>mU L b j++if b.testBit j=true then [L.getD j 0] else []
def IE (L:List Int) (b:Nat):List Int:=mU L b L.length
theorem BS (L:List Int) (b:Nat):∀ j,(mU L b j).length<=j
 | 0=>by simp [mU]
 | j+1=>by
  have:=BS L b j;grind [mU]
theorem KJ {L:List Int} {b:Nat}:∀ {j:Nat},mU L b j=[]->∀ i,i<j->b.testBit i=false
 | 0,_,i,hi=>by omega
 | j+1,h,i,hi=>by
  simp [mU] at h
  by_cases d8:i=j
  ·grind
  ·exact KJ h.1 i (by omega)
theorem aDZ {b:Nat} (h0:0<b) (hb:b<2 ^ L.length):IE L b≠[]:=by
 intro h;have h1:=KJ h
 have:b=0:=by
  refine Nat.eq_of_testBit_eq fun i=>?_
  rw [Nat.zero_testBit]
  by_cases hi:i<L.length
  ·grind
  ·exact Nat.testBit_lt_two_pow (Nat.lt_of_lt_of_le hb (Nat.pow_le_pow_right (by decide) (by omega)))
 omega
theorem aFV (b j:Nat) (hb:b<2 ^ 62) (hj:j<62):(wr (Int.ofNat (bAN (Int.fdiv (b:Int) ((2:Int) ^ (min (Int.toNat (j:Int)) 64))) 1)) == 1)=b.testBit j:=by
 have h3:bAN ((b / 2 ^ j:Nat):Int) 1=(b / 2 ^ j) % 2:=by
  have h4:b / 2 ^ j<2 ^ 64:=Nat.lt_of_le_of_lt (Nat.div_le_self _ _) (by omega)
  have h5:(BitVec.ofInt 64 ((b / 2 ^ j:Nat):Int)).toNat=b / 2 ^ j:=by
   rw [BitVec.ofInt_natCast,BitVec.toNat_ofNat,Nat.mod_eq_of_lt h4]
  grind
 have h8:wr (0:Int)=0:=by decide
 have h9:wr (1:Int)=1:=by decide
 grind
abbrev shS:YSh:=.clo [.one (.row 1)]
def lB (L:List Int):List (List CV):=(List.range (2 ^ L.length - 1)).map fun q=>[.row 1 (enc1 (IE L (q+1)))]
theorem aBV {b:Nat} (hb:b<2 ^ 62) (hL:L.length<62) :
  aH (fun v1 =>
       aC (decide ((gi v1 0)<(il (enc1 L))))
        (chk (inb (gi v1 0) (enc1 L)) <|
        chk (oks [li] (el (enc1 L) (gi v1 0)) 0) <|
        chk (decide (0<=(gi v1 0))) <|
        bD (aC ((wr (Int.ofNat (bAN (Int.fdiv (b:Int) ((2:Int) ^ (min (Int.toNat (gi v1 0)) 64))) 1))) == 1)
            (chk (bL (List.length (gr v1 1)) 1 8) <|
            some (.nx ([CV.row 1 ((gr v1 1)++(aI 1 1 [ci (gi (el (enc1 L) (gi v1 0)) 0)]))])))
            (some (.nx [CV.row 1 (gr v1 1)]))) fun v2 =>
        some (.nx [ci (wr ((gi v1 0)+1)),CV.row 1 (gr v2 0)]))
        (some (.br 2 [CV.row 1 (gr v1 1)]))) ([ci 0,CV.row 1 []])=some (.br 2 [.row 1 (enc1 (IE L b))]):=by
 have h:=iC (fun j=>[ci (j:Int),.row 1 (enc1 (mU L b j))]) L.length (step:=fun v1 =>
             aC (decide ((gi v1 0)<(il (enc1 L))))
              (chk (inb (gi v1 0) (enc1 L)) <|
              chk (oks [li] (el (enc1 L) (gi v1 0)) 0) <|
              chk (decide (0<=(gi v1 0))) <|
              bD (aC ((wr (Int.ofNat (bAN (Int.fdiv (b:Int) ((2:Int) ^ (min (Int.toNat (gi v1 0)) 64))) 1))) == 1)
                  (chk (bL (List.length (gr v1 1)) 1 8) <|
                  some (.nx ([CV.row 1 ((gr v1 1)++(aI 1 1 [ci (gi (el (enc1 L) (gi v1 0)) 0)]))])))
                  (some (.nx [CV.row 1 (gr v1 1)]))) fun v2 =>
              some (.nx [ci (wr ((gi v1 0)+1)),CV.row 1 (gr v2 0)]))
              (some (.br 2 [CV.row 1 (gr v1 1)]))) ?_
 ·refine Eq.trans (Eq.trans (by rfl) h) (aQ ?_ (by simp))
  simp [IE]
 ·intro j hj
  have bh:bL (List.length (List.map (fun a=>[ci a]) (mU L b j))) 1 8=true:=by
   have:=BS L b j;rw [List.length_map];exact cU (by omega) (by omega)
  have hw:wr ((j:Int)+1)=((j+1:Nat):Int):=bA (by omega)
  simp only [cW,aE hj,aK hj,aFV b j hb (by omega)]
  cases cd:b.testBit j with
  | true =>
   simp_all [mU]
  | false =>
   simp_all [mU]
theorem ZS (hL:L.length<=40) (hR:fC (lB L) yf es=some es') :
  aJ (bG 0 (aH (stepS (withY M l shS yf) l (enc1 L)) [ci 0,CV.row 0 es]) fun v0=>some (.ret [CV.row 0 (gr v0 0)]))=some [.row 0 es']:=by
 have dy:0<2 ^ L.length:=Nat.two_pow_pos _;have bt:2 ^ L.length<=2 ^ 40:=Nat.pow_le_pow_right (by decide) hL
 have jk:(lB L).length=2 ^ L.length - 1:=by simp [lB]
 have B3:wr (1*((2:Int) ^ (min (Int.toNat (il (enc1 L))) 64)))=((2 ^ L.length:Nat):Int):=by
  have h1:min (Int.toNat (il (enc1 L))) 64=L.length:=by grind [aP]
  rw [h1,Int.one_mul,show ((2:Int) ^ L.length)=((2 ^ L.length:Nat):Int) by simp]
  exact dQ (by omega) (by omega)
 have s9:(CV.row 0 [[CV.row 1 []]]:CV)=shC shS:=rfl
 have aw:∀ (b:Nat) (es:List (List CV)),b<2 ^ L.length->stepS (withY M l shS yf) l (enc1 L) [ci (b:Int),.row 0 es] =
   (bD (aC (decide ((il (enc1 (IE L b))) > 0))
       (aA (withY M l shS yf 1048576 ([CV.val (Value.func (Fn.yield l) #[] #[]),shC shS,CV.row 0 es,CV.row 1 (enc1 (IE L b))])) fun v2 =>
       some (.nx [cb (!(gb v2 0)),CV.row 0 (gr v2 1)]))
       (some (.nx [cb false,CV.row 0 es]))) fun v2 =>
     aC (gb v2 0)
      (some (.ret [CV.row 0 (gr v2 1)]))
      (some (.nx [ci (wr ((b:Int)+1)),CV.row 0 (gr v2 1)]))):=by
  intro b es hb;have h1:((b:Int)<((2 ^ L.length:Nat):Int)):=by omega
  have h2:=aBV (L:=L) (b:=b) (by omega) (by omega)
  unfold stepS;simp_all
 have Li:IE L 0=[]:=by
  have:∀ j,mU L 0 j=[]:=by
   intro j
   induction j with
   | zero=>rfl
   | succ j ih=>simp [mU,ih]
  exact this _
 have key:=yE (b:=0) (rows:=lB L) (yf:=yf) (fun p es=>[ci ((p+1:Nat):Int),.row 0 es]) (step:=stepS (withY M l shS yf) l (enc1 L)) ?h1 ?h2 (lB L).length 0 es es' (by omega) (by grind)
 case h2 =>
  unfold stepS;grind [cW,fO,cY,dU]
 case h1 =>
  intro p hp es;have ge:(lB L)[p]'(by omega)=[.row 1 (enc1 (IE L (p+1)))]:=by simp [lB]
  have bY:=aDZ (L:=L) (b:=p+1) (by omega) (by omega)
  have H9:(il (enc1 (IE L (p+1)))) > 0:=by
   rw [aP];have:=List.length_pos_iff.2 bY;omega
  have hw:wr (((p+1:Nat):Int)+1)=((p+1+1:Nat):Int):=bA (by omega)
  rw [ge,aw (p+1) es (by omega)]
  constructor
  ·intro e he
   simp only [H9,decide_true,iP,wC (x:=[]),he,aD,eX,nD,Bool.not_true,fO,cY,dU,hw]
  ·intro e he
   simp only [H9,decide_true,iP,wC (x:=[]),he,aD,eX,nD,Bool.not_false,fO,cY]
 have wx:aH (stepS (withY M l shS yf) l (enc1 L)) [ci 0,CV.row 0 es]=aH (stepS (withY M l shS yf) l (enc1 L)) [ci ((0+1:Nat):Int),.row 0 es]:=by
  refine gI ?_;have h1:=aw 0 es dy;have h3:wr (((0:Nat):Int)+1)=((0+1:Nat):Int):=bA (by omega)
  rw [show (ci 0:CV)=ci ((0:Nat):Int) from rfl,h1,Li,h3];rfl
 rw [wx];rcases key with h | h <;> rw [h] <;> simp
end
section
open Go Go.Sx
set_option maxRecDepth 100000
theorem aD0 {k:Nat} {fe:FE} {f:Func} {l:List (Nat×FE×Code)} (h1:dS Tryz.prog k=true) (h2:Tryz.prog.funcs[k]? = some f) (h3:f.body.isSome=true) (h4:f.ntmps=fe.n) (h5:f.results.toList=fe.rs)
  (hl:∀ e∈l,∃ fn,EntOk Tryz.prog e.1 e.2.1 fn/\e.2.2=aB fn):∀ e∈(k,fe,aB f)::l,∃ fn,EntOk Tryz.prog e.1 e.2.1 fn/\e.2.2=aB fn:=by
 intro e he;rcases List.mem_cons.1 he with rfl | he
 ·exact ⟨f,⟨h1,h2,h3,h4,h5⟩,rfl⟩
 ·exact hl e he
theorem tC:∀ e∈tb,∃ fn,EntOk Tryz.prog e.1 e.2.1 fn/\e.2.2=aB fn:=by
 unfold tb
 repeat
  refine aD0 ?_ ?_ ?_ ?_ ?_ ?_
  iterate 5 kernel_rfl
 exact fun e he=>nomatch he
theorem kO:nY ghT tb=none:=by kernel_rfl
theorem aBW:sg ghT=none:=by kernel_rfl
section
variable [C:Co Tryz.prog]
theorem BT (G:Ghost):@sV G Tryz.prog _ (jG tb) []:=fun _ h=>by cases h
theorem aBX [Ghost]:Fns Tryz.prog sg (Dt [] 0):=jA (fun G=>BT G) ⟨kO,rfl,rfl⟩ tC 0
theorem aFW {L:List Int} (hL:L.length<=40):rB Tryz.prog 158 [.ref [.row 1 (enc1 L)]] shS (fC (lB L)):=
 QD (M:=Dt [] 0) (fun [Ghost]=>aBX) aBW (fun _=>rfl) (fn:=Tryz.f158) (c:=aB Tryz.f158) (fe:=aBT) (dp:=11) (by rfl) (by rfl) (by rfl) (by rfl) fun l yf es es' h=>by
  rw [aHW];exact ZS hL h
theorem aFX {L:List Int} (hL:L.length<=1000000):rB Tryz.prog 169 [.ref [.row 1 (enc1 L)]] QP (fC (pL L)):=
 QD (M:=Dt [] 0) (fun [Ghost]=>aBX) aBW (fun _=>rfl) (fn:=Tryz.f169) (c:=aB Tryz.f169) (fe:=aBU) (dp:=11) (by rfl) (by rfl) (by rfl) (by rfl) fun l yf es es' h=>by
  rw [aHX];exact ZR hL h
end
section
variable [G:Ghost] [C:Co Tryz.prog]
theorem aJw (M:Den) (lst:List (List CV)):aBD Tryz.prog (fun _=>none) M aHS (aB Tryz.f97) [.row 1 lst]=aJ (xQ lst (some (.ret [.row 1 [],.fn 3 []])) (chk (bL 0 (List.length lst) 8)<|some (.ret [.row 1 lst,.fn 3 []]))):=by rfl
theorem aHY (M:Den) (lst:List (List CV)):aBD Tryz.prog (fun _=>none) M aE8 (aB Tryz.f180) [.row 3 lst]=aJ (xQ lst (some (.ret [.row 3 [],.fn 67 []])) (chk (bL 0 (List.length lst) 24)<|some (.ret [.row 3 lst,.fn 67 []]))):=by rfl
theorem aHZ (M:Den) (lst:List (List CV)):aBD Tryz.prog (fun _=>none) M aE9 (aB Tryz.f181) [.row 6 lst]=aJ (xQ lst (some (.ret [.row 6 [],.fn 35 []])) (chk (bL 0 (List.length lst) 48)<|some (.ret [.row 6 lst,.fn 35 []]))):=by rfl
variable {lst:List (List CV)}
theorem TV {k:Nat} {T:Nat} {by_:Nat} (h:lst.length*by_<=140737488355328) (h':lst.length<=9223372036854775807):aJ (xQ lst (some (.ret [.row k [],.fn T []])) (chk (bL 0 (List.length lst) by_)<|some (.ret [.row k lst,.fn T []])))=some [.row k lst,.fn T []]:=by
 simp_all [cU,WE]
theorem aD1 (h:lst.length<1000000):sT Tryz.prog 97 [.cv (.row 1 lst)] 3 1 lst:=
 xW (fe:=aHS) (c:=aB Tryz.f97) (fn:=Tryz.f97) (vs:=[.row 1 lst]) (@Fns.none' calm _ _) (@Yls.none calm _ _ _ (fun _=>rfl)) (Its.none' _) (by rfl) (by rfl) (by rfl) (by rfl) (by grind [aJw,TV])
theorem aBY (h:lst.length<1000000):sT Tryz.prog 180 [.cv (.row 3 lst)] 67 3 lst:=
 xW (fe:=aE8) (c:=aB Tryz.f180) (fn:=Tryz.f180) (vs:=[.row 3 lst]) (@Fns.none' calm _ _) (@Yls.none calm _ _ _ (fun _=>rfl)) (Its.none' _) (by rfl) (by rfl) (by rfl) (by rfl) (by grind [aHY,TV])
theorem aBZ (h:lst.length<1000000):sT Tryz.prog 181 [.cv (.row 6 lst)] 35 6 lst:=
 xW (fe:=aE9) (c:=aB Tryz.f181) (fn:=Tryz.f181) (vs:=[.row 6 lst]) (@Fns.none' calm _ _) (@Yls.none calm _ _ _ (fun _=>rfl)) (Its.none' _) (by rfl) (by rfl) (by rfl) (by rfl) (by grind [aHZ,TV])
end
noncomputable section
def aB0:FE:=⟨49,[],.two (.reg [] [0,1,2,6] none []) (.blk ⟨[],[],[],[(0,3,1,some 0)]⟩ (.lp [] ⟨[0,1,2],[(6,.lf li)],[],[(0,3,1,some 0)]⟩ (.two (.two (.reg [] [0,1,2,6,12] none []) (.cond none (.nil) (.nil))) (.two (.thru (.two (.reg [] [0,1,2,6,7] none []) (.blk ⟨[0,1,2,6],[],[],[(0,3,1,some 0)]⟩ (.lp [] ⟨[0,1,2,6],[(7,.lf li)],[],[(0,3,1,some 0)]⟩ (.two (.two (.reg [] [] (some ⟨[0,1,2,6,7],[(30,.lf lb)],[],[]⟩) []) (.cond none (.nil) (.nil))) (.two (.thru (.reg [] [0,1,2,6,7] none [])) (.reg [] [0,1,2,6,7] none []))))))) (.reg [] [0,1,2,6] none []))))),⟨[],[]⟩⟩
def aB1:FE:=⟨53,[],.two (.reg [] [0,1,2,3,8] none []) (.blk ⟨[],[],[],[(0,3,1,some 0)]⟩ (.lp [] ⟨[0,1,2,3],[(8,.lf li)],[],[(0,3,1,some 0)]⟩ (.two (.two (.reg [] [0,1,2,3,8,14] none []) (.cond none (.nil) (.nil))) (.two (.thru (.two (.reg [] [0,1,2,3,8,9] none []) (.blk ⟨[0,1,2,3,8],[],[],[(0,3,1,some 0)]⟩ (.lp [] ⟨[0,1,2,3,8],[(9,.lf li)],[],[(0,3,1,some 0)]⟩ (.two (.two (.reg [] [] (some ⟨[0,1,2,3,8,9],[(34,.lf lb)],[],[]⟩) []) (.cond none (.nil) (.nil))) (.two (.thru (.reg [] [0,1,2,3,8,9] none [])) (.reg [] [0,1,2,3,8,9] none []))))))) (.reg [] [0,1,2,3,8] none []))))),⟨[],[]⟩⟩
def aB2:FE:=⟨134,[],.two (.reg [] [0,1,2] none []) (.two (.reg [] [0,1,2] none []) (.thru (.lp [] ⟨[0,1,2],[],[],[(0,3,1,some 0)]⟩ (.thru (.two (.reg [] [0,1,2,10] none []) (.two (.two (.reg [] [0,1,2,23] none []) (.cond none (.two (.reg [] [] none [(some 27,⟨[],[],[],[]⟩,.mt false)]) (.nil)) (.nil))) (.nil))))))),⟨[],[]⟩⟩
def aFa:FE:=⟨11,[],.two (.reg [] [0,2] none []) (.reg [] [] none [(some 10,⟨[],[],[],[]⟩,.mt false)]),⟨[],[]⟩⟩
def aB3:FE:=⟨61,[],.two (.reg [] [0,2] none []) (.two (.two (.reg [] [0,2,8] none []) (.cond none (.two (.reg [] [2] none []) (.nil)) (.nil))) (.two (.two (.reg [] [0,2,3] none []) (.blk ⟨[0],[],[],[]⟩ (.lp [] ⟨[0,2],[(3,.lf li)],[],[]⟩ (.two (.two (.reg [] [0,2,3,13] none []) (.cond none (.nil) (.nil))) (.two (.thru (.two (.reg [] [0,2,3,25] none []) (.cond none (.nil) (.nil)))) (.reg [] [0,2,3] none [])))))) (.two (.reg [] [2] none []) (.nil)))),⟨[],[]⟩⟩
def swO (es:List (List CV)) (x y:Int) (k:List (List CV)->Option Ou):Option Ou:=
        chk (inb y es) <|
        chk (decide ((Int.toNat y)<(List.length es))) <|
        chk (oks [li] (el es y) 0) <|
        chk (inb x es) <|
        chk (decide ((Int.toNat x)<(List.length es))) <|
        chk (oks [li] (el es x) 0) <|
        chk (inb x es) <|
        chk ((decide ((Int.toNat x)<(List.length es)))&&(decide (1<=1))) <|
        chk (inb y (List.set es (Int.toNat x) (spl (el es x) 0 [ci (gi (el es y) 0)]))) <|
        chk ((decide ((Int.toNat y)<(List.length (List.set es (Int.toNat x) (spl (el es x) 0 [ci (gi (el es y) 0)])))))&&(decide (1<=1))) <|
        k (List.set (List.set es (Int.toNat x) (spl (el es x) 0 [ci (gi (el es y) 0)])) (Int.toNat y) (spl (el (List.set es (Int.toNat x) (spl (el es x) 0 [ci (gi (el es y) 0)])) y) 0 [ci (gi (el es x) 0)]))
def rdO (es:List (List CV)) (x y:Int) (k:Option Ou):Option Ou:=
                  chk (inb x es) <|
                  chk (decide ((Int.toNat x)<(List.length es))) <|
                  chk (oks [li] (el es x) 0) <|
                  chk (inb y es) <|
                  chk (decide ((Int.toNat y)<(List.length es))) <|
                  chk (oks [li] (el es y) 0)<|k
def stI (C:List (List CV)->Int->Int->Option Ou) (v1:List CV):Option Ou:=
       bD (aC (decide ((gi v1 0) > 0)) (rdO (gr v1 1) (gi v1 0) (wr ((gi v1 0) - 1)) (C (gr v1 1) (gi v1 0) (wr ((gi v1 0) - 1))))
           (some (.nx [cb false]))) fun v2 =>
       aC (gb v2 0)
        (swO (gr v1 1) (gi v1 0) (wr ((gi v1 0) - 1)) fun es=>some (.nx ([ci (wr ((gi v1 0) - 1)),CV.row 1 es])))
        (some (.br 2 [CV.row 1 (gr v1 1)]))
def stO (C:List (List CV)->Int->Int->Option Ou) (b:Int) (v0:List CV):Option Ou:=
    aC (decide ((gi v0 0)<b))
     (bG 2 (aH (stI C) [ci (gi v0 0),CV.row 1 (gr v0 1)]) fun v1 =>
     some (.nx [ci (wr ((gi v0 0)+1)),CV.row 1 (gr v1 0)]))
     (some (.br 0 [CV.row 1 (gr v0 1)]))
def aD2 (C:List (List CV)->Int->Int->Option Ou) (b:Int) (es:List (List CV)):Option Ou:=
 bG 0 (aH (stO C b) [ci (wr (0+1)),CV.row 1 es]) fun v0 =>
  some (.ret [CV.row 1 (gr v0 0)])
def aH0 (M:Den) (es:List (List CV)) (x y:Int):Option Ou:=aA (M 196 [ci (gi (el es x) 0),ci (gi (el es y) 0)]) fun v2=>some (.nx [cb (gb v2 0)])
def aH1 (M:Den) (p s f:List (List CV)) (es:List (List CV)) (x y:Int):Option Ou:=aA (bN sg M (CV.fn 189 ([CV.ref [CV.row 8 p,CV.row 3 s,CV.row 6 f]])) [ci (gi (el es x) 0),ci (gi (el es y) 0)] [.one li,.one li] [.one li]) fun v2=>some (.nx [cb (decide ((gi v2 0)<0))])
theorem aH2 (M:Den) (b:Int) (es:List (List CV)):evM Tryz.prog sg M 11 aB0 (aB Tryz.f190) 3 1 [ci 0,ci b] es=aJ (aD2 (aH0 M) b es):=by kernel_rfl
theorem aH3 (M:Den) (p s f:List (List CV)) (b:Int) (es:List (List CV)):evM Tryz.prog sg M 11 aB1 (aB Tryz.f214) 3 1 [ci 0,ci b,.fn 189 [.ref [.row 8 p,.row 3 s,.row 6 f]]] es=aJ (aD2 (aH1 M p s f) b es):=by kernel_rfl
end
def zV (less:Int->Int->Bool):Nat->List Int->List Int
 | 0,L=>L
 | j+1,L=>if less (L.getD (j+1) 0) (L.getD j 0)=true then zV less j ((L.set (j+1) (L.getD j 0)).set j (L.getD (j+1) 0)) else L
def insL (less:Int->Int->Bool) (b:Nat) (L:List Int):List Int:=(List.range' 1 (b - 1)).foldl (fun L i=>zV less i L) L
theorem aFY {L:List Int} {x y:Nat} (hx:x<L.length) (hy:y<L.length) (bY:x≠y) (k:List (List CV)->Option Ou):swO (enc1 L) (x:Int) (y:Int) k=k (enc1 ((L.set x (L.getD y 0)).set y (L.getD x 0))):=by
 have jq:∀ a b:Int,spl [ci a] 0 [ci b]=[ci b]:=fun _ _=>rfl
 have pv:y<(L.set x L[y]).length:=by grind
 have e1:el (enc1 L) (x:Int)=[ci L[x]]:=aK hx;have e2:el (enc1 L) (y:Int)=[ci L[y]]:=aK hy;have i1:inb (x:Int) (enc1 L)=true:=aE hx;have i2:inb (y:Int) (enc1 L)=true:=aE hy;have i3:inb (y:Int) (enc1 (L.set x L[y]))=true:=aE pv;have e3:el (enc1 (L.set x L[y])) (y:Int)=[ci (L.set x L[y])[y]]:=aK pv;simp_all [swO]
theorem aB4 {L:List Int} {x y:Nat} (hx:x<L.length) (hy:y<L.length) (k:Option Ou):rdO (enc1 L) (x:Int) (y:Int) k=k:=by
 have e1:el (enc1 L) (x:Int)=[ci L[x]]:=aK hx;have e2:el (enc1 L) (y:Int)=[ci L[y]]:=aK hy;have i1:inb (x:Int) (enc1 L)=true:=aE hx;have i2:inb (y:Int) (enc1 L)=true:=aE hy;grind [rdO,Int.toNat_natCast,bR,nH,KG,KF]
theorem GO (less:Int->Int->Bool):∀ (j:Nat) (L:List Int),(zV less j L).length=L.length
 | 0,L=>rfl
 | j+1,L=>by
  unfold zV;split
  ·rw [GO less j];simp
  ·rfl
section
variable {C:List (List CV)->Int->Int->Option Ou} {less:Int->Int->Bool} {P:List Int->Prop} (hC:∀ (L:List Int) (x y:Nat),P L->x<L.length->y<L.length->C (enc1 L) x y=some (.nx [cb (less (L.getD x 0) (L.getD y 0))]))
 (hP:∀ (L:List Int) (x y:Nat),x<L.length->y<L.length->P L->P ((L.set x (L.getD y 0)).set y (L.getD x 0)))
include hC hP
theorem aB5:∀ (j:Nat) (L:List Int),P L->j<L.length->L.length<1000000->aH (stI C) [ci (j:Int),.row 1 (enc1 L)]=some (.br 2 [.row 1 (enc1 (zV less j L))])/\P (zV less j L)
 | 0,L,hL,hj,hb=>by
  refine ⟨aQ ?_ (by simp),hL⟩
  rfl
 | j+1,L,hL,hj,hb=>by
  have h0:(((j+1:Nat):Int) > 0):=by omega
  have hw:wr (((j+1:Nat):Int) - 1)=((j:Nat):Int):=by grind [dQ]
  have gg:j<L.length:=by omega
  have hc:=hC L (j+1) j hL hj gg;cases hl:less (L.getD (j+1) 0) (L.getD j 0) with
  | true =>
   have Ag:=hP L (j+1) j hj gg hL
   have hs:stI C [ci ((j+1:Nat):Int),.row 1 (enc1 L)]=some (.nx [ci (j:Int),.row 1 (enc1 ((L.set (j+1) (L.getD j 0)).set j (L.getD (j+1) 0)))]):=by
    simp only [stI,cW,fO,cY,h0,decide_true,iP,hw,aB4 hj gg,hc,hl,eX,nD,aFY hj gg (by omega:j+1≠j)]
   rw [gI hs];have ih:=aB5 j ((L.set (j+1) (L.getD j 0)).set j (L.getD (j+1) 0)) Ag (by grind) (by grind)
   simp_all [zV]
  | false =>
   have hs:stI C [ci ((j+1:Nat):Int),.row 1 (enc1 L)]=some (.br 2 [.row 1 (enc1 L)]):=by
    simp only [stI,cW,fO,cY,h0,decide_true,iP,hw,aB4 hj gg,hc,hl,eX,nD,dU]
   simp only [zV,hl];exact ⟨aQ hs (by simp),hL⟩
theorem WF {L:List Int} (hL:P L) (hb:L.length<1000000):aJ (aD2 C (L.length:Int) (enc1 L))=some [.row 1 (enc1 (insL less L.length L))]/\P (insL less L.length L):=by
 have key:∀ (n:Nat) (k:Nat) (L':List Int),P L'->L'.length=L.length->k+1+n=L.length\/(n=0/\L.length<=k+1) ->
   aH (stO C (L.length:Int)) [ci ((k+1:Nat):Int),.row 1 (enc1 L')]=some (.br 0 [.row 1 (enc1 ((List.range' (k+1) n).foldl (fun L i=>zV less i L) L'))])/\P ((List.range' (k+1) n).foldl (fun L i=>zV less i L) L'):=by
  intro n
  induction n with
  | zero =>
   intro k L' Ag hl hn;refine ⟨aQ ?_ (by simp),Ag⟩
   have h0:¬(((k+1:Nat):Int)<(L.length:Int)):=by omega
   simp only [stO,cW,fO,cY,h0,decide_false,dU,List.range'_zero,List.foldl_nil]
  | succ n ih =>
   intro k L' Ag hl hn;have h0:(((k+1:Nat):Int)<(L.length:Int)):=by omega
   obtain ⟨h1,h2⟩:=aB5 hC hP (k+1) L' Ag (by omega) (by omega)
   have hs:stO C (L.length:Int) [ci ((k+1:Nat):Int),.row 1 (enc1 L')]=some (.nx [ci ((k+1+1:Nat):Int),.row 1 (enc1 (zV less (k+1) L'))]):=by
    simp only [stO,cW,fO,cY,h0,decide_true,iP,h1,jC,bA (show k+1<9223372036854775807 by omega)]
   rw [gI hs];grind [GO,List.range'_succ]
 have h1:wr ((0:Int)+1)=((0+1:Nat):Int):=by decide
 obtain ⟨k1,k2⟩:=key (L.length - 1) 0 L hL rfl (by omega)
 unfold aD2;simp_all [insL]
end
def aFZ:FE:=⟨89,[],.two (.reg [] [0,1,2,4] none [(some 14,⟨[0,1,2],[(14,.own 1)],[],[(1,3,1,none)]⟩,.two (.reg [] [1] none []) (.two (.reg [] [1,3] none []) (.two (.two (.reg [] [1,3,8,9] none []) (.blk ⟨[],[(3,.own 1)],[],[(1,3,1,none)]⟩ (.lp [.mk 3 3 1] ⟨[1,8],[(3,.own 1),(9,.lf li)],[],[(1,3,1,none)]⟩ (.two (.reg [] [1,3,8,9,10] none []) (.two (.cond none (.nil) (.nil)) (.two (.thru (.two (.reg [] [1,3,4,8,9] none []) (.reg [] [1,3,8,9] none []))) (.reg [] [1,3,8,9] none []))))))) (.two (.reg [] [2] none []) (.nil)))))]) (.two (.reg [] [0,1,2,4,15,16,17] none []) (.blk ⟨[],[],[],[(0,1048576,0,some 0),(1,3,1,some 0)]⟩ (.lp [] ⟨[0,1,2,4,15,16],[(17,.lf li)],[],[(0,1048576,0,some 0),(1,3,1,some 0)]⟩ (.two (.reg [] [0,1,2,4,15,16,17,18] none []) (.two (.cond none (.nil) (.nil)) (.two (.thru (.two (.reg [] [0,1,2,4,5,6,15,16,17] none []) (.two (.reg [] [0,1,2,4,6,7,15,16,17] none []) (.two (.reg [] [0,1,2,4,6,7,8,15,16,17] none []) (.two (.reg [] [0,1,2,4,6,7,8,9,15,16,17] none []) (.two (.two (.reg [] [0,1,2,4,6,7,8,9,15,16,17,37,38] none []) (.blk ⟨[0,1,2,4,6,8,15,16,17],[],[],[(1,3,1,some 0),(2,3,1,some 0)]⟩ (.lp [] ⟨[0,1,2,4,6,7,8,15,16,17,37],[(9,.lf li),(38,.lf li)],[],[(1,3,1,some 0),(2,3,1,some 0)]⟩ (.two (.reg [] [0,1,2,4,6,7,8,9,15,16,17,37,38,39] none []) (.two (.cond none (.nil) (.nil)) (.two (.blk ⟨[0,1,2,4,6,7,8,15,16,17,37,38],[(9,.lf li)],[],[(1,3,1,some 0),(2,3,1,some 0)]⟩ (.two (.reg [] [0,1,2,4,6,7,8,9,10,15,16,17,37,38] none []) (.two (.two (.reg [] [0,1,2,4,6,7,8,9,10,15,16,17,37,38,45] none []) (.cond none (.nil) (.nil))) (.two (.reg [] [0,1,2,4,6,7,8,9,10,11,15,16,17,37,38] none []) (.two (.two (.reg [] [0,1,2,4,6,7,8,9,10,11,15,16,17,37,38,53] none []) (.rg (.clo [.one (Lf.row 1)]) ⟨[0,1,2,4,6,7,8,9,10,11,15,16,17,37,38,53],[],[(2,3,[.lf li])],[]⟩ (.reg [] [0,1,2,4,6,7,8,9,10,11,12,15,16,17,37,38] none []) (.thru (.two (.reg [] [1,4,11,12,57] none []) (.cond (some ⟨[],[],[(2,3,[.lf li])],[]⟩) (.reg [] [] none []) (.nil)))))) (.two (.reg [] [0,1,2,4,6,7,8,9,10,11,15,16,17,37,38] none []) (.two (.reg [] [0,1,2,4,6,7,8,9,10,11,15,16,17,37,38] none []) (.reg [] [0,1,2,4,6,7,8,9,15,16,17,37,38] none [])))))))) (.reg [] [0,1,2,4,6,7,8,9,15,16,17,37,38] none []))))))) (.two (.reg [] [0,1,2,4,15,16,17,87] none [(some 86,⟨[],[],[],[]⟩,.yl (.clo [.one li,.one (Lf.row 1)]))]) (.cond none (.nil) (.nil))))))))) (.reg [] [0,1,2,4,15,16,17] none []))))))),⟨[],[]⟩⟩
def q1:Code->Code | .seq a _=>a | .block _ a=>a | .loop a=>a | c=>c
def q2:Code->Code | .seq _ a=>a | c=>c
def x1:HT->HT | .two a _=>a | .thru a=>a | .blk _ a=>a | .lp _ _ a=>a | x=>x
def x2:HT->HT | .two _ a=>a | x=>x
noncomputable def CB:Code:=aB Tryz.f172
noncomputable def HB:HT:=aFZ.ht
def L0:Lk:=⟨[],[],[],[]⟩
def yv (y:Nat):AV:=.cv (.val (.func (.yield y) #[] #[]))
section
variable (y:Nat) (p s f l lm:List (List CV)) (i:Int)
def cts:CV:=.ref [.row 8 p,.row 3 s,.row 6 f]
def s00:SS:=⟨89,dB 0 (yv y::[cts p s f,.ref [.row 1 l]].map .cv),[],[⟨false,0,0,0,[]⟩]⟩
noncomputable def LB:Code:=q1 (q1 (q2 (q2 CB)))
noncomputable def LH:HT:=x1 (x1 (x2 (x2 HB)))
noncomputable def BB1:Code:=q1 (q1 (q2 (q2 LB)))
noncomputable def HB1:HT:=x1 (x1 (x2 (x2 LH)))
def h0:Hint:=⟨[0,1,2,4,15,16],[(17,.lf li)],[],[(1,3,1,some 0)]⟩
def L1:Lk:=⟨[0,1,2,4,15,16],[0],[0],[]⟩
def tH:List (Nat×AV):=[(0,yv y),(1,.cv (cts p s f)),(2,.cv (.ref [.row 1 l])),(4,.ptr 0 0),(15,.cv (.row 1 l)),(16,.cv (ci (il l))),(17,.cv (ci i))]
def sH:SS:=⟨89,tH y p s f l i,[⟨true,22,[.own 1 0]⟩],[⟨false,0,0,0,[]⟩,⟨true,3,1,0,lm⟩]⟩
def s2:SS:=⟨89,[(0,yv y),(1,.cv (cts p s f)),(2,.cv (.ref [.row 1 l])),(4,.ptr 0 0),(15,.cv (.row 1 l)),(16,.cv (ci (il l))),(17,.cv (ci i)),(18,.cv (.val (.bool (decide (i<il l))))),(0,yv y),(1,.cv (cts p s f)),(2,.cv (.ref [.row 1 l])),(4,.ptr 0 0),(15,.cv (.row 1 l)),(16,.cv (ci (il l)))],[⟨true,22,[.own 1 0]⟩],[⟨false,0,0,0,[]⟩,⟨true,3,1,0,lm⟩]⟩
noncomputable def aD3 (M:Den) (k:List CV->Option Ou):Option Ou:=
 mY (bG 0 (aH (fun v0 =>
     aC (decide ((gi v0 0)<(il s)))
      (aA (M 162 [CV.row 8 p,CV.row 3 s,CV.row 6 f,ci (gi v0 0)]) fun v1 =>
      chk (bL (List.length (gr v0 1)) 1 8) <|
      some (.nx ([ci (wr ((gi v0 0)+1)),CV.row 1 ((gr v0 1)++(aI 1 1 [ci (gi v1 0)]))])))
      (some (.br 0 [CV.row 1 (gr v0 1)]))) ([ci 0,CV.row 1 []])) fun v0 =>
     some (.ret [CV.row 1 (gr v0 0)])) k
noncomputable def aD4 (M:Den) (k:List CV->Option Ou):Option Ou:=
 chk (inb i l) <|
  chk (oks [li] (el l i) 0) <|
  chk (((decide (0<=(wr (i+1))))&&(decide ((wr (i+1))<=(il l))))&&(decide ((il l)<=(il l)))) <|
  chk (((decide (0<=(il s)))&&(decide ((il s)<=(il s))))&&(bL (Int.toNat (il s)) 0 8)) <|
  aA (M 163 [CV.row 8 p,CV.row 3 s,CV.row 6 f,ci (gi (el l i) 0)]) fun v0 =>
  bG 2 (aH (fun v1 =>
    aC (decide ((gi v1 1)<(il s)))
     (bG 3 (aA (M 160 [CV.row 8 p,CV.row 3 s,CV.row 6 f,ci (gi (el l i) 0),ci (gi v1 1)]) fun v2 =>
      aC (!(gb v2 0))
       (some (.br 3 [ci (gi v1 0),CV.row 1 (gr v1 2),CV.row 1 (gr v1 3)]))
       (chk (inb (gi v1 1) (gr v1 2)) <|
       chk (decide ((Int.toNat (gi v1 1))<(List.length (gr v1 2)))) <|
       chk (oks [li] (el (gr v1 2) (gi v1 1)) 0) <|
       aA (M 79 [CV.row 1 (List.drop (Int.toNat (wr (i+1))) (List.take (Int.toNat (il l)) l))]) fun v3 =>
       bD (brO (fN (rZ sg M (List.getD v3 0 dC) (.clo [.one (.row 1)])) (fun x4 v4 =>
          aA (M 107 ([CV.row 1 (gr x4 0),CV.fn 173 ([CV.ref [CV.row 8 p,CV.row 3 s,CV.row 6 f],CV.ref [ci (gi v1 1)]])])) fun v5 =>
          bD (aC (gb v5 0)
              (aA (M 80 [CV.row 8 p,CV.row 3 s,CV.row 6 f,CV.row 1 (gr x4 0),CV.row 1 (gr v1 2)]) fun v6 =>
              aA (M 82 [CV.row 8 p,CV.row 3 s,CV.row 6 f,CV.row 1 (gr x4 0)]) fun v7 =>
              some (.nx [ci (if (wr ((gi v6 0) - (gi v7 0)))<(gi v4 0) then wr ((gi v6 0) - (gi v7 0)) else gi v4 0)]))
              (some (.nx [ci (gi v4 0)]))) fun v6 =>
          some (.nx [ci (gi v6 0)])) [ci (if (gi (el (gr v1 2) (gi v1 1)) 0)<(gi v1 0) then gi (el (gr v1 2) (gi v1 1)) 0 else gi v1 0)])) fun v4 =>
       chk (inb (gi v1 1) (gr v1 3)) <|
       chk ((decide ((Int.toNat (gi v1 1))<(List.length (gr v1 3))))&&(decide (1<=1))) <|
       chk (inb (gi v1 1) (gr v1 2)) <|
       chk (decide ((Int.toNat (gi v1 1))<(List.length (gr v1 2)))) <|
       chk (oks [li] (el (gr v1 2) (gi v1 1)) 0) <|
       chk (inb (gi v1 1) (gr v1 2)) <|
       chk ((decide ((Int.toNat (gi v1 1))<(List.length (gr v1 2))))&&(decide (1<=1))) <|
       some (.br 3 ([ci (wr ((gi v1 0) - (gi v4 0))),CV.row 1 (List.set (gr v1 2) (Int.toNat (gi v1 1)) (spl (el (gr v1 2) (gi v1 1)) 0 [ci (wr ((gi (el (gr v1 2) (gi v1 1)) 0) - (gi v4 0)))])),CV.row 1 (List.set (gr v1 3) (Int.toNat (gi v1 1)) (spl (el (gr v1 3) (gi v1 1)) 0 [ci (gi v4 0)]))])))) fun v2 =>
     some (.nx [ci (gi v2 0),ci (wr ((gi v1 1)+1)),CV.row 1 (gr v2 1),CV.row 1 (gr v2 2)]))
     (some (.br 2 [CV.row 1 (gr v1 2),CV.row 1 (gr v1 3)]))) ([ci (gi v0 0),ci 0,CV.row 1 lm,CV.row 1 (List.replicate (Int.toNat (il s)) [ci 0])])) k
def sB (r1 r2:List (List CV)):SS:=⟨89,[(0,yv y),(1,.cv (cts p s f)),(2,.cv (.ref [.row 1 l])),(4,.ptr 0 0),(6,.cv (ci (gi (el l i) 0))),(8,.own 2 0),(15,.cv (.row 1 l)),(16,.cv (ci (il l))),(17,.cv (ci i)),(0,yv y),(1,.cv (cts p s f)),(2,.cv (.ref [.row 1 l])),(4,.ptr 0 0),(15,.cv (.row 1 l)),(16,.cv (ci (il l)))],[⟨true,22,[.own 1 0]⟩],[⟨false,0,0,0,[]⟩,⟨true,3,1,0,r1⟩,⟨true,3,1,0,r2⟩]⟩
def sC (r1 r2:List (List CV)):SS:=⟨89,[(0,yv y),(1,.cv (cts p s f)),(2,.cv (.ref [.row 1 l])),(4,.ptr 0 0),(6,.cv (ci (gi (el l i) 0))),(8,.cv (.row 1 r2)),(15,.cv (.row 1 l)),(16,.cv (ci (il l))),(17,.cv (ci i)),(0,yv y),(1,.cv (cts p s f)),(2,.cv (.ref [.row 1 l])),(4,.ptr 0 0),(15,.cv (.row 1 l)),(16,.cv (ci (il l)))],[⟨true,22,[.own 1 0]⟩],[⟨false,0,0,0,[]⟩,⟨true,3,1,0,r1⟩,⟨false,3,1,0,r2⟩]⟩
noncomputable abbrev IF (M:Den) (c:Code) (h:HT) (lk:Lk) (s:SS) (K:SS->Option Ou):Option Ou:=evT Tryz.prog sg M (inN Tryz.prog sg M false 11) (fun _=>none) c h lk [] s K
variable (M:Den) (K:SS->Option Ou)
theorem y_A:IF M (q1 CB) (x1 HB) L0 (s00 y p s f l) (fun s'=>IF M (q1 (q2 CB)) (x1 (x2 HB)) L0 s' K)=aD3 p s f M fun vs=>K (sH y p s f l (gr vs 0) 0):=by
 kernel_rfl
theorem y_2:IF M (q1 LB) (x1 LH) L1 (sH y p s f l lm i) K=K (s2 y p s f l lm i):=by
 rfl
theorem y_B:IF M (q1 BB1) (x1 HB1) L1 (s2 y p s f l lm i) (fun s'=>IF M (q1 (q2 BB1)) (x1 (x2 HB1)) L1 s' fun s'=>IF M (q1 (q2 (q2 BB1))) (x1 (x2 (x2 HB1))) L1 s' fun s'=>IF M (q1 (q2 (q2 (q2 BB1)))) (x1 (x2 (x2 (x2 HB1)))) L1 s' fun s'=>IF M (q1 (q2 (q2 (q2 (q2 BB1))))) (x1 (x2 (x2 (x2 (x2 HB1))))) L1 s' K)=aD4 p s f l lm i M fun vs=>K (sB y p s f l i (gr vs 0) (gr vs 1)):=by
 kernel_rfl
theorem aJx (r1 r2:List (List CV)):nR [.fz 2] L1 (sB y p s f l i r1 r2)=some (sC y p s f l i r1 r2):=by
 rfl
def sD (r1 r2:List (List CV)):SS:=⟨89,[(0,yv y),(1,.cv (cts p s f)),(2,.cv (.ref [.row 1 l])),(4,.ptr 0 0),(15,.cv (.row 1 l)),(16,.cv (ci (il l))),(17,.cv (ci (wr (i+1)))),(0,yv y),(1,.cv (cts p s f)),(2,.cv (.ref [.row 1 l])),(4,.ptr 0 0),(15,.cv (.row 1 l)),(16,.cv (ci (il l)))],[⟨true,22,[.own 1 0]⟩],[⟨false,0,0,0,[]⟩,⟨true,3,1,0,r1⟩,⟨false,3,1,0,r2⟩]⟩
theorem aJy (r1 r2:List (List CV)):IF M (q2 (q2 (q2 LB))) (x2 (x2 (x2 LH))) L1 (sC y p s f l i r1 r2) K=K (sD y p s f l i r1 r2):=by
 rfl
theorem aH4 (r1 r2:List (List CV)):iK h0 (sD y p s f l i r1 r2)=some [ci (wr (i+1)),.row 1 r1]:=by
 rfl
theorem aKa (lm0:List (List CV)) (i0:Int):bF h0 L0 (sH y p s f l lm0 i0) [ci i,.row 1 lm]=sH y p s f l lm i:=by
 rfl
theorem aJz (lm0:List (List CV)) (i0:Int):dD h0 L0 (sH y p s f l lm0 i0)=L1:=by
 rfl
theorem aJA (lm0:List (List CV)) (i0:Int):fM h0 L0 (sH y p s f l lm0 i0)=true:=by
 rfl
def aF0:Code->Array Oper | .region _ ops _=>ops | _=>#[]
noncomputable def o20 (k:Nat):Oper:=(aF0 (q1 (q2 (q2 (q2 (q2 (q2 BB1))))))).getD k default
omit M K in
theorem aH5:CB=.seq (q1 CB) (.seq (q1 (q2 CB)) (.block 0 (.loop LB))):=by rfl
theorem aJ6:LB=.seq (q1 LB) (.seq (.cond (.tmp 18) .skip (.exit 0)) (.seq (.block 1 BB1) (q2 (q2 (q2 LB))))):=by rfl
theorem aJ7:BB1=.seq (q1 BB1) (.seq (q1 (q2 BB1)) (.seq (q1 (q2 (q2 BB1))) (.seq (q1 (q2 (q2 (q2 BB1)))) (.seq (q1 (q2 (q2 (q2 (q2 BB1))))) (.seq (.region 20 #[o20 0,o20 1,o20 2,o20 3,o20 4] false) (.cond (.tmp 87) .ret .skip)))))):=by rfl
theorem aH6:(o20 3).op=.call { callee:=.value (.tmp 83),args:=#[.tmp 84,.tmp 85],argTypes:=#[3,22] }:=by rfl
theorem o_g:(o20 0).guard=none/\(o20 1).guard=none/\(o20 2).guard=none/\(o20 3).guard=none/\(o20 4).guard=none/\(o20 0).dst=some 83/\(o20 1).dst=some 84/\(o20 2).dst=some 85/\(o20 3).dst=some 86/\(o20 4).dst=some 87:=by
 refine ⟨?_,?_,?_,?_,?_,?_,?_,?_,?_,?_⟩ <;> kernel_rfl
end
end
section
open Go Go.Sx Go.RowKit
set_option maxRecDepth 100000
noncomputable section
def GP:Code:=aB Tryz.f200
def wR (k j:Nat):Oper:=(aF0 (match k with
 | 0=>q1 GP
 | 1=>q1 (q1 (q2 GP))
 | 4=>q1 (q1 (q2 (q2 GP)))
 | 7=>q1 (q1 (q2 (q2 (q2 GP))))
 | _=>q1 (q2 (q2 (q2 (q2 GP)))))).getD j default
def thn:Code->Code | .cond _ a _=>a | c=>c
theorem aD5:GP=.seq (.region 0 #[wR 0 0] false) (.seq (.seq (.region 1 #[wR 1 0,wR 1 1] false) (.cond (.tmp 4) (thn (q2 (q1 (q2 GP)))) .skip)) (.seq (.seq (.region 4 #[wR 4 0,wR 4 1] false) (.cond (.tmp 8) (thn (q2 (q1 (q2 (q2 GP))))) .skip))
  (.seq (.seq (.region 7 #[wR 7 0,wR 7 1] false) (.cond (.tmp 14) (thn (q2 (q1 (q2 (q2 (q2 GP)))))) .skip)) (.seq (.region 10 #[wR 10 0,wR 10 1,wR 10 2,wR 10 3,wR 10 4,wR 10 5,wR 10 6] false) .ret)))):=by rfl
def ZT:Code:=aB Tryz.f168
def aB6 (k j:Nat):Oper:=(aF0 (match k with
 | 0=>q1 ZT
 | _=>q1 (q2 (q2 ZT)))).getD j default
theorem aIJ:ZT=.seq (.region 0 #[aB6 0 0] false) (.seq (.cond (.const (.bool false)) (thn (q1 (q2 ZT))) .skip) (.seq (.region 2 #[aB6 2 0,aB6 2 1,aB6 2 2] false) .ret)):=by rfl
theorem aJB:(aB6 2 1).op=.call { callee:=.value (.func 200),args:=#[.tmp 6],argTypes:=#[205] }:=by rfl
def strOf:Op->ByteArray | .index _ (.const (.string s)) _=>s | _=>default
def sQ:ByteArray:=strOf (wR 10 3).op
theorem aH7:(wR 10 3).op=.index 9 (.const (.string sQ)) (.tmp 21):=by rfl
theorem aB7:sQ.size=256:=by kernel_rfl
theorem str9:Tryz.prog.underlying 9=some .string:=by rfl
def KK (u:Int):Nat:=if h:u.toNat<sQ.size then (sQ[u.toNat]'h).toNat else 0
def NJ (u:Int):Int:=wr (0+IntKind.wrap .i64 (KK u:Int))
end
section
variable [G:Ghost] [C:Co Tryz.prog]
theorem TW {u:Int} (h0:0<=u) (h1:u<256):SpecR Tryz.prog 200 [.cv (.val (.int .u64 u))] (.cv (ci (NJ u))):=by
 refine pC (fn:=Tryz.f200) (c:=GP) (by rfl) (by rfl) fun F n hF am=>?_
 show W F n Tryz.prog GP ⟨mkT 25 [(0,.cv (.val (.int .u64 u)))],[],[]⟩ _;rw [aD5];refine dG (aV ?_);refine wop hF (d:=2) (A:=.cv (ci 0)) (B':=[]) (V':=[]) (by rfl) (by rfl) (by rfl) (aN ?_)
 refine dG (dG (aV ?_));refine wop hF (d:=3) (A:=.cv (.val (.int .u64 u))) (B':=[]) (V':=[]) (by rfl) (by rfl) (by rfl) ?_
 refine wop hF (d:=4) (A:=.cv (.val (.bool (decide (u>=4294967296))))) (B':=[]) (V':=[]) (by rfl) (by rfl) (by rfl) (aN ?_)
 refine mG (b:=decide (u>=4294967296)) (by rfl) (fun hb=>absurd (of_decide_eq_true hb) (by omega)) fun _=>mF ?_
 refine dG (dG (aV ?_));refine wop hF (d:=7) (A:=.cv (.val (.int .u64 u))) (B':=[]) (V':=[]) (by rfl) (by rfl) (by rfl) ?_
 refine wop hF (d:=8) (A:=.cv (.val (.bool (decide (u>=65536))))) (B':=[]) (V':=[]) (by rfl) (by rfl) (by rfl) (aN ?_)
 refine mG (b:=decide (u>=65536)) (by rfl) (fun hb=>absurd (of_decide_eq_true hb) (by omega)) fun _=>mF ?_
 refine dG (dG (aV ?_));refine wop hF (d:=13) (A:=.cv (.val (.int .u64 u))) (B':=[]) (V':=[]) (by rfl) (by rfl) (by rfl) ?_
 refine wop hF (d:=14) (A:=.cv (.val (.bool (decide (u>=256))))) (B':=[]) (V':=[]) (by rfl) (by rfl) (by rfl) (aN ?_)
 refine mG (b:=decide (u>=256)) (by rfl) (fun hb=>absurd (of_decide_eq_true hb) (by omega)) fun _=>mF ?_
 refine dG (aV ?_);refine wop hF (d:=19) (A:=.cv (ci 0)) (B':=[]) (V':=[]) (by rfl) (by rfl) (by rfl) ?_
 refine wop hF (d:=20) (A:=.cv (.val (.int .u64 u))) (B':=[]) (V':=[]) (by rfl) (by rfl) (by rfl) ?_
 refine wop hF (d:=21) (A:=.cv (.val (.int .u8 (IntKind.wrap .u8 u)))) (B':=[]) (V':=[]) (by rfl) (by rfl) (by rfl) ?_
 have Lj:IntKind.wrap .u8 u=u:=by
  grind [IntKind.wrap,IntKind.bits,IntKind.signed]
 rw [Lj];refine aBw hF (d:=22) (A:=.cv (.val (.int .u8 (KK u:Int)))) (B':=[]) (V':=[]) (by rfl) (by rfl) (fun c=>by simp [aH7]) (fun a=>by exact k_v (UY _ _ _)) ?_ ?_
 ·refine Step.pure fun n0 w0 e a w hr=>?_
  have cr:=(hr.ev (.tmp 21)).1;have hx:a.eval (.tmp 21)=.int .u8 u:=cr.1;have cn:=aB7;have an:u.toNat<sQ.size:=by omega
  refine ⟨.int .u8 (KK u:Int),?_,?_,by simp⟩
  ·have ag:=run_index_string (P:=Tryz.prog) w 9 sQ .u8 u str9
   rw [dif_pos ⟨h0,by omega⟩] at ag
   have ae:KK u=(sQ[u.toNat]'(an)).toNat:=by unfold KK;grind
   simp only [execOp,aH7];rw [hx,show a.eval (.const (.string sQ))=.string sQ from rfl,Sem.run_bind,ag];simp [ae]
  ·simp [AV.holds,CV.holds]
 refine wop hF (d:=23) (A:=.cv (.val (.int .i64 (IntKind.wrap .i64 (KK u:Int))))) (B':=[]) (V':=[]) (by rfl) (by rfl) (by rfl) ?_
 refine wop hF (d:=24) (A:=.cv (ci (NJ u))) (B':=[]) (V':=[]) (by rfl) (by rfl) (by rfl) ?_
 refine wop hF (d:=2) (A:=.cv (ci (NJ u))) (B':=[]) (V':=[]) (by rfl) (by rfl) (by rfl) (aN ?_)
 refine yW ⟨.inr rfl,.cv (ci (NJ u)),by rfl,rfl,rfl,rfl⟩
theorem aJC:dS Tryz.prog 200=true:=by kernel_rfl
theorem aB8 {u:Int} (h0:0<=u) (h1:u<256):SpecR Tryz.prog 168 [.cv (.val (.int .u64 u))] (.cv (ci (NJ u))):=by
 refine pC (fn:=Tryz.f168) (c:=ZT) (by rfl) (by rfl) fun F n hF am=>?_
 show W F n Tryz.prog ZT ⟨mkT 8 [(0,.cv (.val (.int .u64 u)))],[],[]⟩ _;refine dG (aV ?_);refine wop hF (d:=2) (A:=.cv (ci 0)) (B':=[]) (V':=[]) (by rfl) (by rfl) (by rfl) (aN ?_)
 refine dG (mG (b:=false) (by rfl) (fun hb=>by cases hb) fun _=>mF ?_)
 refine dG (aV ?_);refine wop hF (d:=6) (A:=.cv (.val (.int .u64 u))) (B':=[]) (V':=[]) (by rfl) (by rfl) (by rfl) ?_
 refine aBx hF (d:=7) (by rfl) (by rfl) aJB aJC (TW h0 h1) (by rfl) rfl rfl ?_
 refine wop hF (d:=2) (A:=.cv (ci (NJ u))) (B':=[]) (V':=[]) (by rfl) (by rfl) (by rfl) (aN ?_)
 refine yW ⟨.inr rfl,.cv (ci (NJ u)),by rfl,rfl,rfl,rfl⟩
end
end
section
open Go Go.Sx
set_option maxRecDepth 100000
noncomputable section
open Classical in
def cIt (S:List CV->List CV->Prop) (caps:List CV):Option (List CV):=if h:∃ o,S caps o then some (Classical.choose h) else none
variable {S:List CV->List CV->Prop} {caps:List CV}
theorem mM {o:List CV} (h:S caps o) (hu:∀ o',S caps o'->o'=o):cIt S caps=some o:=by
 have h1:∃ o,S caps o:=⟨o,h⟩;unfold cIt;grind
theorem eN {o:List CV} (h:cIt S caps=some o):S caps o:=by
 unfold cIt at h;split at h
 ·grind
 grind
section
variable [G:Ghost] [C:Co Tryz.prog]
def DJ (f:Nat) (it:List CV->Option (List CV)):Prop:=∀ caps out,it caps=some out ->
 (∀ g,jG tb f=some g->SpecR Tryz.prog f (Sc.avs g.ps caps 0) (Sc.res g.rs out)) /\
 (∀ rows sh,out=[.row 0 rows,shC sh]->dS Tryz.prog f=true/\rB Tryz.prog f caps sh (fC rows)) /\
 (∀ k es T,out=[.row k es,.fn T []]->dS Tryz.prog f=true/\sT Tryz.prog f (caps.map .cv) T k es) /\
 (∀ T k cs es es' hdr,caps=.row k es::.fn T []::cs->out=[.row k es',.val (.bool hdr)]->dS Tryz.prog f=true/\AQ Tryz.prog f T k cs es es' hdr) /\
 (∀ k T by_,caps=[]->out=[.row k [],.fn T [],.fn by_ []]->dS Tryz.prog f=true/\aGT Tryz.prog f T k by_) /\
 (∀ T fs,caps=.fn T []::fs.map (fun g=>.fn g [])->out=[.fn 0 []]->dS Tryz.prog f=true/\XU Tryz.prog f T fs)
theorem GQ {its:ITS} (h:∀ e∈its,DJ e.1 e.2):sV Tryz.prog (jG tb) its:=fun e he caps out ho=>h e he caps out ho
variable {it:List CV->Option (List CV)}
theorem vE {f:Nat} (hs:jG tb f=none) (he:dS Tryz.prog f=true) (h:∀ caps out,it caps=some out->∃ k T es cs es' hdr,caps=.row k es::.fn T []::cs/\out=[.row k es',.val (.bool hdr)]/\AQ Tryz.prog f T k cs es es' hdr):DJ f it:=by
 intro caps out ho;obtain ⟨k,T,es,cs,es',hdr,rfl,rfl,hm⟩:=h caps out ho;refine ⟨fun g hg=>(by grind),fun rows sh hr=>by cases sh <;> simp [shC] at hr,fun k e T hr=>by grind,fun T k cs1 e e' hd h1 h2=>?_,fun k T b h1=>by simp,fun T fs h1=>by simp⟩
 grind
theorem aB9 {f:Nat} {g:Sig} (hs:jG tb f=some g) (h:∀ caps out,it caps=some out->(∃ n,out=[ci n])/\(∀ k es T cs,caps≠.row k es::.fn T []::cs)/\SpecR Tryz.prog f (Sc.avs g.ps caps 0) (Sc.res g.rs out)):DJ f it:=by
 intro caps out ho;obtain ⟨⟨n,rfl⟩,hc,hm⟩:=h caps out ho;simp_all [ci]
end
abbrev ltB (a b:Int):Bool:=decide (a<b)
theorem aF1 (its:ITS) (n:Nat) (a:Int):Dt its (n+1) 166 [ci a]=some [cb (a != a)]:=by rfl
theorem aJD (its:ITS) (n:Nat) (a b:Int):Dt its (n+2) 196 [ci a,ci b]=aJ (aA (Dt its (n+1) 166 [ci a]) fun v0 =>
  aC (gb v0 0)
   (aA (Dt its (n+1) 166 [ci b]) fun v1 =>
   aC (!(gb v1 0))
    (some (.ret [cb true]))
    (some (.ret [cb (decide (a<b))])))
   (some (.ret [cb (decide (a<b))]))):=by kernel_rfl
theorem aD6 (its:ITS) (n:Nat) (a b:Int):Dt its (n+2) 196 [ci a,ci b]=some [cb (ltB a b)]:=by
 simp [aJD,aF1]
def srt (L:List Int):List Int:=insL ltB L.length L
section
variable [C:Co Tryz.prog]
theorem aF2 [Ghost] {L:List Int} (hL:L.length<1000000):AQ Tryz.prog 190 3 1 [ci 0,ci L.length] (enc1 L) (enc1 (srt L)) false:=
 DW (M:=Dt [] 2) (sg:=sg) (jA (fun G=>BT G) ⟨kO,rfl,rfl⟩ tC 2) (fun _=>uK ⟨kO,rfl⟩ 2 _) (fn:=Tryz.f190) (c:=aB Tryz.f190) (fe:=aB0) (dp:=11) (by rfl) (by rfl) (by rfl) (by rfl) (by
  rw [aH2];refine (WF (less:=ltB) (P:=fun _=>True) (fun L x y _ hx hy=>?_) (fun _ _ _ _ _ _=>trivial) trivial hL).1
  have e1:el (enc1 L) (x:Int)=[ci L[x]]:=aK hx;have e2:el (enc1 L) (y:Int)=[ci L[y]]:=aK hy;simp_all [aH0,aD6])
def aD7 (caps out:List CV):Prop:=∃ L:List Int,L.length<1000000/\caps=[.row 1 (enc1 L),.fn 3 [],ci 0,ci L.length]/\out=[.row 1 (enc1 (srt L)),.val (.bool false)]
end
theorem iY {L L':List Int} (h:enc1 L=enc1 L'):L=L':=by
 have:=List.map_inj_right (f:=fun a:Int=>[ci a]) (fun a b h=>by grind [ci]) |>.1 h
 omega
theorem aH8 {L:List Int} (hL:L.length<1000000):cIt aD7 [.row 1 (enc1 L),.fn 3 [],ci 0,ci L.length]=some [.row 1 (enc1 (srt L)),cb false]:=by
 refine mM ⟨L,hL,rfl,rfl⟩ ?_;rintro o ⟨L',h1,h2,rfl⟩;simp at h2;rw [iY h2.1];rfl
end
noncomputable section
theorem aH9 (M:Den) (b c:Int) (es:List (List CV)):evM Tryz.prog sg M 11 aB2 (aB Tryz.f167) 3 1 [ci 0,ci b,ci c] es=aJ (aH (fun v0 =>
   aC (decide ((wr (b - 0))<=12))
    (aA (M 190 ([CV.row 1 (gr v0 0),CV.fn 3 [],ci 0,ci b])) fun v1 =>
    chk (lU 1 false v1) <|
    some (.ret [CV.row 1 (gr v1 0)]))
    (none)) [CV.row 1 es]):=by kernel_rfl
theorem aJE (M:Den) (es:List (List CV)):evM Tryz.prog sg M 11 aFa (aB Tryz.f95) 3 1 [] es=aJ (aA (M 168 [CV.val (.int .u64 (IntKind.wrap .u64 (il es)))]) fun v0 =>
  aA (M 167 ([CV.row 1 es,CV.fn 3 [],ci 0,ci (il es),ci (gi v0 0)])) fun v1 =>
  chk (lU 1 false v1) <|
  some (.ret [CV.row 1 (gr v1 0)])):=by rfl
section
variable [C:Co Tryz.prog]
theorem aIa [Ghost]:DJ 190 (cIt aD7):=vE (by rfl) (by rfl) fun caps out ho=>by
 obtain ⟨L,hL,rfl,rfl⟩:=eN ho;exact ⟨1,3,enc1 L,[ci 0,ci L.length],enc1 (srt L),false,rfl,rfl,aF2 hL⟩
def I1:ITS:=[(190,cIt aD7)]
theorem aIb (G:Ghost):@sV G Tryz.prog _ (jG tb) I1:=GQ fun e he=>by
 simp [I1] at he;subst he;exact aIa
variable {L:List Int}
theorem aF3 [Ghost] (hL:L.length<=12) (c:Int):AQ Tryz.prog 167 3 1 [ci 0,ci L.length,ci c] (enc1 L) (enc1 (srt L)) false:=
 DW (M:=Dt I1 1) (sg:=sg) (jA aIb ⟨kO,rfl,rfl⟩ tC 1) (fun _=>uK ⟨kO,rfl⟩ 1 _) (fn:=Tryz.f167) (c:=aB Tryz.f167) (fe:=aB2) (dp:=11) (by rfl) (by rfl) (by rfl) (by rfl) (by
  rw [aH9];have Fc:∀ caps,Dt I1 1 190 caps=cIt aD7 caps:=fun caps=>by rfl
  have hw:wr ((L.length:Int) - 0)<=12:=by grind [dQ]
  have hs:aH (fun v0 =>
   aC (decide ((wr ((L.length:Int) - 0))<=12))
    (aA (Dt I1 1 190 ([CV.row 1 (gr v0 0),CV.fn 3 [],ci 0,ci L.length])) fun v1 =>
    chk (lU 1 false v1) <|
    some (.ret [CV.row 1 (gr v1 0)]))
    (none)) [CV.row 1 (enc1 L)]=some (.ret [.row 1 (enc1 (srt L))]):=by
   refine aQ ?_ (by simp)
   simp only [hw,cY,Fc,aH8 (L:=L) (by omega)]
   rfl
  simp_all)
def aD8 (caps out:List CV):Prop:=∃ (L:List Int) (c:Int),L.length<=12/\caps=[.row 1 (enc1 L),.fn 3 [],ci 0,ci L.length,ci c]/\out=[.row 1 (enc1 (srt L)),.val (.bool false)]
def aD9 (caps out:List CV):Prop:=∃ u:Int,0<=u/\u<256/\caps=[.val (.int .u64 u)]/\out=[ci (NJ u)]
theorem aIc [Ghost]:DJ 167 (cIt aD8):=vE (by rfl) (by rfl) fun caps out ho=>by
 obtain ⟨L,c,hL,rfl,rfl⟩:=eN ho;exact ⟨1,3,enc1 L,[ci 0,ci L.length,ci c],enc1 (srt L),false,rfl,rfl,aF3 hL c⟩
theorem aId [Ghost]:DJ 168 (cIt aD9):=aB9 (g:=aE7.g) (by rfl) fun caps out ho=>by
 obtain ⟨u,h0,h1,rfl,rfl⟩:=eN ho;exact ⟨⟨_,rfl⟩,fun _ _ _ _ h=>by grind,aB8 h0 h1⟩
theorem aIe {u:Int} (h0:0<=u) (h1:u<256):cIt aD9 [.val (.int .u64 u)]=some [ci (NJ u)]:=by
 refine mM ⟨u,h0,h1,rfl,rfl⟩ ?_;rintro o ⟨u',_,_,h2,rfl⟩;grind
theorem aIf (hL:L.length<=12) (c:Int):cIt aD8 [.row 1 (enc1 L),.fn 3 [],ci 0,ci L.length,ci c]=some [.row 1 (enc1 (srt L)),cb false]:=by
 refine mM ⟨L,c,hL,rfl,rfl⟩ ?_;rintro o ⟨L',c',h1,h2,rfl⟩;simp at h2;rw [iY h2.1];rfl
def I2:ITS:=[(167,cIt aD8),(168,cIt aD9)]
theorem aIg (G:Ghost):@sV G Tryz.prog _ (jG tb) I2:=GQ fun e he=>by
 simp [I2] at he;rcases he with rfl | rfl
 ·exact aIc
 ·exact aId
theorem aIh [Ghost] (hL:L.length<=12):AQ Tryz.prog 95 3 1 [] (enc1 L) (enc1 (srt L)) false:=
 DW (M:=Dt I2 1) (sg:=sg) (jA aIg ⟨kO,rfl,rfl⟩ tC 1) (fun _=>uK ⟨kO,rfl⟩ 1 _) (fn:=Tryz.f95) (c:=aB Tryz.f95) (fe:=aFa) (dp:=11) (by rfl) (by rfl) (by rfl) (by rfl) (by
  rw [aJE];have Fd:∀ caps,Dt I2 1 167 caps=cIt aD8 caps:=fun caps=>by rfl
  have Fe:∀ caps,Dt I2 1 168 caps=cIt aD9 caps:=fun caps=>by rfl
  have hw:IntKind.wrap .u64 (il (enc1 L))=(L.length:Int):=by
   grind [aP,IntKind.wrap,IntKind.bits]
  have ah:il (enc1 L)=(L.length:Int):=aP _ _;rw [hw,ah,Fe,aIe (by omega) (by omega),aD,Fd,aIf hL,aD]
  rfl)
end
end
noncomputable section
def stC (es:List (List CV)) (v0:List CV):Option Ou:=
     aC (decide ((gi v0 0)<(il es)))
      (chk (inb (gi v0 0) es) <|
      chk (decide ((Int.toNat (gi v0 0))<(List.length es))) <|
      chk (oks [li] (el es (gi v0 0)) 0) <|
      chk (inb (wr ((gi v0 0) - 1)) es) <|
      chk (decide ((Int.toNat (wr ((gi v0 0) - 1)))<(List.length es))) <|
      chk (oks [li] (el es (wr ((gi v0 0) - 1))) 0) <|
      aC ((gi (el es (gi v0 0)) 0) == (gi (el es (wr ((gi v0 0) - 1))) 0))
       (none)
       (some (.nx [ci (wr ((gi v0 0)+1))])))
      (some (.br 0 []))
theorem aIi (M:Den) (es:List (List CV)):aFO Tryz.prog sg M 11 aB3 (aB Tryz.f117) 3 1 2 [] es=aJ (aC (decide ((il es)<2))
   (some (.ret [CV.row 1 es]))
   (bG 0 (aH (stC es) [ci 1]) fun v0 =>
   some (.ret [CV.row 1 es]))):=by kernel_rfl
def CP (L:List Int):Prop:=∀ i,i+1<L.length->L.getD (i+1) 0≠L.getD i 0
theorem ZU {L:List Int} (hd:CP L) (hL:L.length<1000000) (h2:2<=L.length):aH (stC (enc1 L)) [ci 1]=some (.br 0 []):=by
 have h:=iC (step:=stC (enc1 L)) (fun j=>[ci ((j+1:Nat):Int)]) (L.length - 1) ?_
 ·refine Eq.trans (Eq.trans (by rfl) h) (aQ ?_ (by simp))
  grind [stC,cW,aP,dU]
 ·intro j hj
  have so:j+1<L.length:=by omega
  have xm:j<L.length:=by omega
  have h1:(((j+1:Nat):Int)<(L.length:Int)):=by omega
  have hw:wr (((j+1:Nat):Int) - 1)=((j:Nat):Int):=by grind [dQ]
  have er:wr (((j+1:Nat):Int)+1)=((j+1+1:Nat):Int):=bA (by omega)
  have bY:=hd j so;have hl:(enc1 L).length=L.length:=by simp
  have e1:el (enc1 L) ((j+1:Nat):Int)=[ci L[j+1]]:=aK so;have e2:el (enc1 L) ((j:Nat):Int)=[ci L[j]]:=aK xm;have i1:inb ((j+1:Nat):Int) (enc1 L)=true:=aE so;have i2:inb ((j:Nat):Int) (enc1 L)=true:=aE xm;have ah:il (enc1 L)=(L.length:Int):=aP _ _;have Ll:(L[j+1] == L[j])=false:=by grind
  simp only [stC,cW,ah,h1,decide_true,iP,hw,i1,i2,e1,e2,Int.toNat_natCast,hl,so,xm,bR,nH,KG,KF,Bool.and_self,Ll,dU,er]
section
variable [C:Co Tryz.prog]
theorem aF4 [Ghost] {L:List Int} (hd:CP L) (hL:L.length<1000000):AQ Tryz.prog 117 3 1 [] (enc1 L) (enc1 L) true:=
 aBF (M:=Dt [] 1) (sg:=sg) (jA (fun G=>BT G) ⟨kO,rfl,rfl⟩ tC 1) (fun _=>uK ⟨kO,rfl⟩ 1 _) (fn:=Tryz.f117) (c:=aB Tryz.f117) (fe:=aB3) (dp:=11) (by rfl) (by rfl) (by rfl) (by rfl) (by
  rw [aIi]
  by_cases h2:2<=L.length
  ·simp_all [ZU]
  ·have h0:il (enc1 L)<2:=by grind [aP]
   simp_all)
end
end
section
variable [C:Co Tryz.prog]
theorem aF5 [Ghost] {its:ITS} {n:Nat} (bg:∀ G:Ghost,@sV G Tryz.prog _ (jG tb) its) (hg:nY ghT its=none/\its.all (fun e=>decide (e.1<aFv))=true) {p s f:List (List CV)} {less:Int->Int->Bool} {L:List Int} (hL:L.length<1000000)
  (hC:∀ a∈L,∀ b∈L,∃ z,bN sg (Dt its n) (CV.fn 189 ([CV.ref [CV.row 8 p,CV.row 3 s,CV.row 6 f]])) [ci a,ci b] [.one li,.one li] [.one li]=some [ci z]/\decide (z<0)=less a b) :
  AQ Tryz.prog 214 3 1 [ci 0,ci L.length,.fn 189 [.ref [.row 8 p,.row 3 s,.row 6 f]]] (enc1 L) (enc1 (insL less L.length L)) false:=
 DW (M:=Dt its n) (sg:=sg) (jA bg ⟨kO,hg.1,hg.2⟩ tC n) (fun _=>uK ⟨kO,hg.1⟩ n _) (fn:=Tryz.f214) (c:=aB Tryz.f214) (fe:=aB1) (dp:=11) (by rfl) (by rfl) (by rfl) (by rfl) (by
  rw [aH3];refine (WF (less:=less) (P:=fun L'=>∀ x∈L',x∈L) (fun L' x y hP hx hy=>?_) (fun L' x y hx hy hP z hz=>?_) (fun _ h=>h) hL).1
  ·have e1:el (enc1 L') (x:Int)=[ci L'[x]]:=aK hx
   have e2:el (enc1 L') (y:Int)=[ci L'[y]]:=aK hy;obtain ⟨z,h1,h2⟩:=hC L'[x] (hP _ (List.getElem_mem hx)) L'[y] (hP _ (List.getElem_mem hy));grind [aH1,cW,aD]
  grind)
end
theorem KM (less:Int->Int->Bool):∀ (j:Nat) (L:List Int),j<L.length->(zV less j L).Perm L
 | 0,L,_=>List.Perm.refl _
 | j+1,L,hj=>by
  unfold zV;split
  ·refine (KM less j _ (by grind)).trans ?_
   grind
  rfl
theorem KN (less:Int->Int->Bool) (L:List Int):(insL less L.length L).Perm L:=by
 have key:∀ (n k:Nat) (L':List Int),k+n<=L'.length->((List.range' k n).foldl (fun L i=>zV less i L) L').Perm L':=by
  intro n
  induction n with
  | zero=>simp
  | succ n ih =>
   intro k L' h;exact (ih (k+1) _ (by grind [GO])).trans (KM less k L' (by omega))
 unfold insL
 by_cases h:L.length=0
 ·simp_all
 ·grind
end
end Go.Proofs.YtgpnoeojpmaeiaaGreat
namespace Go.Plaint
open Go Go.Sx
structure Pt where
 i0:Int
 i1:Int
 bs:List Int
 i3:Int
 need:Int
 i5:Int
 i6:Int
 ss:List Int
structure Su where
 id:Int
 worth:Int
 z:Int
structure Fi where
 i0:Int
 i1:Int
 i2:Int
 i3:Int
 i4:Int
 i5:Int
structure Court where
 ps:List Pt
 ss:List Su
 fs:List Fi
abbrev en1 (L:List Int):List (List CV):=L.map fun a=>[ci a]
def Pt.cv (p:Pt):List CV:=[ci p.i0,ci p.i1,.row 1 (en1 p.bs),ci p.i3,ci p.need,ci p.i5,ci p.i6,.row 1 (en1 p.ss)]
def Su.cv (s:Su):List CV:=[ci s.id,ci s.worth,ci s.z]
def Fi.cv (s:Fi):List CV:=[ci s.i0,ci s.i1,ci s.i2,ci s.i3,ci s.i4,ci s.i5]
def Court.p (c:Court):List (List CV):=c.ps.map Pt.cv
def Court.s (c:Court):List (List CV):=c.ss.map Su.cv
def Court.f (c:Court):List (List CV):=c.fs.map Fi.cv
def Court.rs (c:Court):List CV:=[.row 8 c.p,.row 3 c.s,.row 6 c.f]
structure Court.Sm (c:Court):Prop where
 p:c.ps.length<=1000
 s:c.ss.length<=1000
 f:c.fs.length<=1000
 ss:∀ p∈c.ps,p.ss.length<=1000
def Court.stands (c:Court) (k j:Nat):Bool:=match c.ps[k]?,c.ss[j]? with
 | some p,some s=>p.ss.contains s.id
 | _,_=>false
end Go.Plaint
namespace Go.Proofs.YtgpnoeojpmaeiaaGreat
open Go Go.Sx Go.Plaint
set_option maxRecDepth 10000
section
variable (its:ITS) (n:Nat)
variable {c:Court}
theorem WG {j:Nat} (hj:j<c.ss.length):D its (n+1) cP (c.rs++[ci (j:Int)])=some [ci c.ss[j].worth]:=by
 have i1:inb (j:Int) c.s=true:=aE hj;have e1:el c.s (j:Int)=c.ss[j].cv:=aK hj;refine (sP its n _ _ _ _).trans ?_;simp_all [kN,Su.cv]
theorem aCa {k:Nat} (hk:k<c.ps.length):D its (n+1) cV (c.rs++[ci (k:Int)])=some [ci c.ps[k].need]:=by
 have i1:inb (k:Int) c.p=true:=aE hk;have e1:el c.p (k:Int)=c.ps[k].cv:=aK hk;refine (tL its n _ _ _ _).trans ?_;simp_all [kZ,Pt.cv]
def DI (x:Int):List Int->Nat->Int
 | [],_=>-1
 | a::l,i=>if x=a then (i:Int) else DI x l (i+1)
theorem WH (x:Int):∀ (l:List Int) (i:Nat),decide (DI x l i>=0)=l.contains x
 | [],i=>by rfl
 | a::l,i=>by
  have ih:=WH x l (i+1);unfold DI;grind
theorem aEa {L:List Int} (hL:L.length<=1000000) (x:Int):D its (n+1) jL [.row 1 (enc1 L),ci x]=some [ci (DI x L 0)]:=by
 refine (yD its n _ _).trans ?_
 have key:∀ (l A:List Int) (i:Nat),A.length=i->A++l=L->aJ (bG 0 (aH (fun v0 =>
    aC (decide ((gi v0 0)<(il (enc1 L))))
     (chk (inb (gi v0 0) (enc1 L)) <|
     chk (oks [li] (el (enc1 L) (gi v0 0)) 0) <|
     aC (x == (gi (el (enc1 L) (gi v0 0)) 0))
      (some (.ret [ci (gi v0 0)]))
      (some (.nx [ci (wr ((gi v0 0)+1))])))
     (some (.br 0 []))) [ci (i:Int)]) fun v0 =>
  some (.ret [ci (-1)]))=some [ci (DI x l i)]:=by
  intro l
  induction l with
  | nil =>
   intro A i hA Ff;rw [aQ (r:=some (.br 0 [])) (by simp_all) (by simp)]
   rfl
  | cons a l ih =>
   intro A i hA Ff;have hi:i<L.length:=by grind
   have hg:L[i]=a:=by subst hA;grind
   have h0:((i:Int)<(L.length:Int)):=by omega
   have i1:inb (i:Int) (enc1 L)=true:=aE hi;have e1:el (enc1 L) (i:Int)=[ci a]:=by rw [<- hg];exact aK hi
   by_cases hx:x=a
   ·subst hx
    rw [aQ (r:=some (.ret [ci (i:Int)])) (by simp_all) (by simp)]
    simp [DI]
   ·have hb:(x == a)=false:=by simpa using hx
    rw [gI (vs':=[ci ((i+1:Nat):Int)]) (by simp [h0,i1,e1,hb,bA (show i<9223372036854775807 by omega)])]
    rw [ih (A++[a]) (i+1) (by grind) (by grind)]
    simp [DI,hx]
 exact key L [] 0 rfl rfl
theorem oI {L:List Int} (hL:L.length<=1000000) (x:Int):D its (n+2) aL [.row 1 (enc1 L),ci x]=some [cb (L.contains x)]:=by
 refine (tO its (n+1) _ _).trans ?_;simp only [lA,aEa its n hL];exact congrArg (fun b=>some [cb b]) (WH x L 0)
theorem GR (hc:c.Sm) {k j:Nat} (hk:k<c.ps.length) (hj:j<c.ss.length):D its (n+3) dI (c.rs++[ci (k:Int),ci (j:Int)])=some [cb (c.stands k j)]:=by
 have i1:inb (j:Int) c.s=true:=aE hj;have e1:el c.s (j:Int)=c.ss[j].cv:=aK hj;have i2:inb (k:Int) c.p=true:=aE hk;have e2:el c.p (k:Int)=c.ps[k].cv:=aK hk;have hl:=hc.ss _ (List.getElem_mem hk);refine (rL its (n+2) _ _ _ _ _).trans ?_;have Gs:gr (List.drop 7 c.ps[k].cv) 0=enc1 c.ps[k].ss:=rfl;have ax:c.stands k j=c.ps[k].ss.contains c.ss[j].id:=by grind [Court.stands]
 simp [jT,i1,e1,i2,e2,Gs];have h2:oks [.row 1] (List.drop 7 c.ps[k].cv) 0=true:=rfl;rw [h2,ax];simp [Su.cv,oI its n (show c.ps[k].ss.length<=1000000 by omega)]
end
def Fits (L:List Int):Prop:=L.length<=1000/\∀ x∈L,-1000000000000000<=x/\x<=1000000000000000
def jW (L:List Int):Int:=L.foldl (·+·) 0
theorem Fits.part {A B:List Int} (h:Fits (A++B)):-1000000000000000*(A.length:Int)<=jW A/\jW A<=1000000000000000*(A.length:Int):=by
 have key:∀ (l:List Int) (s:Int),(∀ x∈l,-1000000000000000<=x/\x<=1000000000000000)->s - 1000000000000000*(l.length:Int)<=l.foldl (·+·) s/\l.foldl (·+·) s<=s+1000000000000000*(l.length:Int):=by
  intro l
  induction l with
  | nil=>simp
  | cons a l ih =>
   intro s hl;have h1:=ih (s+a) fun x hx=>hl x (by grind)
   have h2:=hl a (by simp)
   grind
 have:=key A 0 fun x hx=>h.2 x (by grind)
 unfold jW;omega
section
variable (its:ITS) (n:Nat)
variable {L:List Int}
theorem aFb (hL:Fits L):D its (n+1) kH [.row 1 (enc1 L)]=some [ci (jW L)]:=by
 refine (NG its n _).trans ?_
 have h:=iC (fun j=>[ci (jW (L.take j)),ci (j:Int)]) L.length (step:=fun v0 =>
    aC (decide ((gi v0 1)<(il (enc1 L))))
     (chk (inb (gi v0 1) (enc1 L)) <|
     chk (oks [li] (el (enc1 L) (gi v0 1)) 0) <|
     some (.nx [ci (wr ((gi v0 0)+(gi (el (enc1 L) (gi v0 1)) 0))),ci (wr ((gi v0 1)+1))]))
     (some (.br 0 [ci (gi v0 0)]))) ?_
 ·have h2:=Eq.trans h (aQ (r:=some (.br 0 [ci (jW L)])) ?_ (by simp))
  ·unfold zQ
   rw [show ([ci 0,ci 0]:List CV)=[ci (jW (L.take 0)),ci ((0:Nat):Int)] from rfl];simp_all
  simp
 ·intro j hj
  have i1:inb (j:Int) (enc1 L)=true:=aE hj;have e1:el (enc1 L) (j:Int)=[ci L[j]]:=aK hj
  have lq:jW (L.take (j+1))=jW (L.take j)+L[j]:=by
   unfold jW;grind [List.take_succ_eq_append_getElem]
  have bh:=Fits.part (A:=L.take j) (B:=L.drop j) (by simp_all)
  have hx:=hL.2 _ (List.getElem_mem hj);have ak:=hL.1;have xf:(L.take j).length=j:=by grind
  have hw:wr (jW (L.take j)+L[j])=jW (L.take (j+1)):=by rw [lq];exact dQ (by omega) (by omega)
  have er:wr ((j:Int)+1)=((j+1:Nat):Int):=bA (by omega)
  simp_all
theorem aJF (M:Den) (k:Int) (a b:List CV):bN sg M (.fn 173 [.ref a,.ref b]) [ci k] [.one li] [.one lb]=M 173 [ci k,.ref a,.ref b]:=by rfl
theorem aKb (M:Den) (k:Int) (a b:List CV):bN sg M (.fn 159 [.ref a,.ref b]) [ci k] [.one li] [.one lb]=M 159 [ci k,.ref a,.ref b]:=by rfl
theorem aIj {c:Court} (hc:c.Sm) {k j:Nat} (hk:k<c.ps.length) (hj:j<c.ss.length):D its (n+4) 173 [ci (k:Int),.ref c.rs,.ref [ci (j:Int)]]=some [cb (c.stands k j)]:=by
 refine (nA its (n+3) _ _ _).trans ?_;have h:=GR its n hc hk hj;have h1:oks [.row 8,.row 3,.row 6] c.rs 0=true:=rfl;have h2:oks [li] [ci (j:Int)] 0=true:=rfl;have g:([CV.row 8 (gr c.rs 0),CV.row 3 (gr c.rs 1),CV.row 6 (gr c.rs 2),ci (k:Int),ci (gi [ci (j:Int)] 0)]:List CV)=c.rs++[ci (k:Int),ci (j:Int)]:=rfl;unfold gG;simp_all
theorem aIk {c:Court} (hc:c.Sm) {k j:Nat} (hk:k<c.ps.length) (hj:j<c.ss.length):D its (n+4) 159 [ci (k:Int),.ref c.rs,.ref [ci (j:Int)]]=some [cb (c.stands k j)]:=by
 refine (nC its (n+3) _ _ _).trans ?_;have h:=GR its n hc hk hj;have h1:oks [.row 8,.row 3,.row 6] c.rs 0=true:=rfl;have h2:oks [li] [ci (j:Int)] 0=true:=rfl;have g:([CV.row 8 (gr c.rs 0),CV.row 3 (gr c.rs 1),CV.row 6 (gr c.rs 2),ci (k:Int),ci (gi [ci (j:Int)] 0)]:List CV)=c.rs++[ci (k:Int),ci (j:Int)]:=rfl;unfold gH;simp_all
def TX (P:Int->Bool):List Int->Nat->Int
 | [],_=>-1
 | a::l,i=>if P a=true then (i:Int) else TX P l (i+1)
theorem WJ (P:Int->Bool):∀ (l:List Int) (i:Nat),decide (TX P l i>=0)=l.any P
 | [],i=>by rfl
 | a::l,i=>by
  have ih:=WJ P l (i+1);unfold TX;grind
variable {P:Int->Bool}
theorem aCb (hL:L.length<=1000000) {g:CV} (hP:∀ x∈L,bN sg (D its n) g [ci x] [.one li] [.one lb]=some [cb (P x)]):D its (n+1) cQ [.row 1 (enc1 L),g]=some [ci (TX P L 0)]:=by
 refine (kJ its n _ _).trans ?_
 have key:∀ (l A:List Int) (i:Nat),A.length=i->A++l=L->aJ (bG 0 (aH (fun v0 =>
    aC (decide ((gi v0 0)<(il (enc1 L))))
     (chk (inb (gi v0 0) (enc1 L)) <|
     chk (oks [li] (el (enc1 L) (gi v0 0)) 0) <|
     aA (bN sg (D its n) g [ci (gi (el (enc1 L) (gi v0 0)) 0)] [.one li] [.one lb]) fun v1 =>
     aC (gb v1 0)
      (some (.ret [ci (gi v0 0)]))
      (some (.nx [ci (wr ((gi v0 0)+1))])))
     (some (.br 0 []))) [ci (i:Int)]) fun v0 =>
  some (.ret [ci (-1)]))=some [ci (TX P l i)]:=by
  intro l
  induction l with
  | nil =>
   intro A i hA Ff;rw [aQ (r:=some (.br 0 [])) (by simp_all) (by simp)]
   rfl
  | cons a l ih =>
   intro A i hA Ff;have hi:i<L.length:=by grind
   have hg:L[i]=a:=by subst hA;grind
   have h0:((i:Int)<(L.length:Int)):=by omega
   have i1:inb (i:Int) (enc1 L)=true:=aE hi;have e1:el (enc1 L) (i:Int)=[ci a]:=by rw [<- hg];exact aK hi
   have hp:=hP a (by grind)
   cases hx:P a with
   | true =>
    rw [aQ (r:=some (.ret [ci (i:Int)])) (by simp_all) (by simp)]
    simp [TX,hx]
   | false =>
    rw [hx] at hp;rw [gI (vs':=[ci ((i+1:Nat):Int)]) (by simp [h0,i1,e1,hp,bA (show i<9223372036854775807 by omega)])]
    rw [ih (A++[a]) (i+1) (by grind) (by grind)]
    simp [TX,hx]
 exact key L [] 0 rfl rfl
theorem vG (hL:L.length<=1000000) {g:CV} (hP:∀ x∈L,bN sg (D its n) g [ci x] [.one li] [.one lb]=some [cb (P x)]):D its (n+2) bV [.row 1 (enc1 L),g]=some [cb (L.any P)]:=by
 refine (oQ its (n+1) _ _).trans ?_;simp only [iI,aCb its n hL hP];exact congrArg (fun b=>some [cb b]) (WJ P L 0)
end
end Go.Proofs.YtgpnoeojpmaeiaaGreat
namespace Go.Plaint
open Go Go.Sx
def Court.accB (c:Court) (S lim:List Int):Nat->Int
 | 0=>0
 | j+1=>c.accB S lim j+if S.any (fun k=>c.stands k.toNat j)=true then lim.getD j 0 else 0
def Court.back (c:Court) (S lim:List Int):Int:=c.accB S lim c.ss.length
def Court.needAt (c:Court) (k:Int):Int:=match c.ps[k.toNat]? with
 | some p=>p.need
 | none=>0
def OnP (c:Court) (S:List Int):Prop:=∀ k∈S,0<=k/\k.toNat<c.ps.length
end Go.Plaint
namespace Go.Proofs.YtgpnoeojpmaeiaaGreat
section
open Go Go.Sx Go.Plaint
set_option maxRecDepth 10000
theorem zW {c:Court} {S lim:List Int} (hl:∀ x∈lim,0<=x/\x<=1000000000000):∀ j:Nat,0<=c.accB S lim j/\c.accB S lim j<=1000000000000*(j:Int)
 | 0=>by simp [Court.accB]
 | j+1=>by
  have ih:=zW hl (c:=c) (S:=S) j
  have hx:0<=lim.getD j 0/\lim.getD j 0<=1000000000000:=by
   by_cases h:j<lim.length
   ·simp_all
   grind
  unfold Court.accB;omega
section
variable (its:ITS) (n:Nat)
theorem BU {c:Court} (hc:c.Sm) {S lim:List Int} (hS:OnP c S) (qc:S.length<=1000000) (ak:lim.length=c.ss.length) (hl:∀ x∈lim,0<=x/\x<=1000000000000) :
  D its (n+7) bK (c.rs++[.row 1 (enc1 S),.row 1 (enc1 lim)])=some [ci (c.back S lim)]:=by
 refine (qH its (n+6) _ _ _ _ _).trans ?_
 have h:=iC (fun j=>[ci (c.accB S lim j),ci (j:Int)]) c.ss.length (step:=fun v0 =>
    aC (decide ((gi v0 1)<(il c.s)))
     (aA (D its (n+6) bV ([CV.row 1 (enc1 S),CV.fn 159 ([CV.ref [CV.row 8 c.p,CV.row 3 c.s,CV.row 6 c.f],CV.ref [ci (gi v0 1)]])])) fun v1 =>
     bD (aC (gb v1 0)
         (chk (inb (gi v0 1) (enc1 lim)) <|
         chk (oks [li] (el (enc1 lim) (gi v0 1)) 0) <|
         aA (D its (n+6) kH ([CV.row 1 (aI 1 2 [ci (gi v0 0),ci (gi (el (enc1 lim) (gi v0 1)) 0)])])) fun v2 =>
         some (.nx [ci (gi v2 0)]))
         (some (.nx [ci (gi v0 0)]))) fun v2 =>
     some (.nx [ci (gi v2 0),ci (wr ((gi v0 1)+1))]))
     (some (.br 0 [ci (gi v0 0)]))) ?_
 ·have ah:il c.s=(c.ss.length:Int):=aP _ _
  have h2:=Eq.trans h (aQ (r:=some (.br 0 [ci (c.back S lim)])) (by
   simp [ah];rfl) (by simp))
  refine Eq.trans (congrArg (fun z=>aJ (bG 0 z fun v0=>some (.ret [ci (gi v0 0)]))) h2) ?_
  rfl
 ·intro j hj
  have h1:((j:Int)<(c.ss.length:Int)):=by omega
  have ah:il c.s=(c.ss.length:Int):=aP _ _;have bk:j<lim.length:=by omega
  have i1:inb (j:Int) (enc1 lim)=true:=aE bk;have e1:el (enc1 lim) (j:Int)=[ci lim[j]]:=aK bk;have hs:=hc.s;have er:wr ((j:Int)+1)=((j+1:Nat):Int):=bA (by omega)
  have ll:=vG its (n+4) (L:=S) qc (g:=CV.fn 159 ([CV.ref [CV.row 8 c.p,CV.row 3 c.s,CV.row 6 c.f],CV.ref [ci (j:Int)]])) (P:=fun k=>c.stands k.toNat j) (fun x hx=>by
   obtain ⟨x0,x1⟩:=hS x hx;have:=aIk its n hc (k:=x.toNat) (j:=j) x1 hj;rw [Int.toNat_of_nonneg x0] at this;exact this)
  have hb:=zW hl (c:=c) (S:=S) j;have hx:=hl _ (List.getElem_mem bk);have wy:aI 1 2 [ci (c.accB S lim j),ci lim[j]]=enc1 [c.accB S lim j,lim[j]]:=rfl
  have lq:=aFb its (n+5) (L:=[c.accB S lim j,lim[j]]) ⟨by simp,by
   grind⟩
  have Lm:jW [c.accB S lim j,lim[j]]=c.accB S lim j+lim[j]:=by simp [jW]
  have hg:lim.getD j 0=lim[j]:=by grind
  simp only [BR,cW,ah,h1,decide_true,ll,aD,nD];cases hA:S.any (fun k=>c.stands k.toNat j) with
  | true =>
   simp only [iP,i1,e1,bR,nH,KG,KF,Bool.and_self,cW,wy,lq,aD,eX,er,Lm,Court.accB,hA,if_true,hg]
  | false =>
   simp [er,Court.accB,hA]
def eA (c:Court) (S:List Int):List Int:=S.map c.needAt
theorem NK {c:Court} {S:List Int} (hS:OnP c S) (qc:S.length<=1000) (hn:∀ p∈c.ps,0<=p.need/\p.need<=1000000000) :
  D its (n+2) bU (c.rs++[.row 1 (enc1 S)])=some [ci (jW (eA c S))]:=by
 refine (sK its (n+1) _ _ _ _).trans ?_
 have h:=iC (fun j=>[ci (j:Int),.row 1 (enc1 ((eA c S).take j))]) S.length (step:=fun v0 =>
    aC (decide ((gi v0 0)<(il (enc1 S))))
     (chk (inb (gi v0 0) (enc1 S)) <|
     chk (oks [li] (el (enc1 S) (gi v0 0)) 0) <|
     aA (D its (n+1) cV [.row 8 c.p,.row 3 c.s,.row 6 c.f,ci (gi (el (enc1 S) (gi v0 0)) 0)]) fun v1 =>
     chk (bL (List.length (gr v0 1)) 1 8) <|
     some (.nx ([ci (wr ((gi v0 0)+1)),CV.row 1 ((gr v0 1)++(aI 1 1 [ci (gi v1 0)]))])))
     (some (.br 0 [CV.row 1 (gr v0 1)]))) ?_
 ·have ah:il (enc1 S)=(S.length:Int):=aP _ _
  have Cz:(eA c S).length=S.length:=by simp [eA]
  have h2:=Eq.trans h (aQ (r:=some (.br 0 [.row 1 (enc1 (eA c S))])) (by
   grind [cW,fO,cY,dU]) (by simp))
  have lq:=aFb its n (L:=eA c S) ⟨by omega,fun x hx=>by
   grind [eA,Court.needAt]⟩
  unfold kI;simp_all
 ·intro j hj
  have i1:inb (j:Int) (enc1 S)=true:=aE hj;have e1:el (enc1 S) (j:Int)=[ci S[j]]:=aK hj;have er:wr ((j:Int)+1)=((j+1:Nat):Int):=bA (by omega)
  obtain ⟨k0,k1⟩:=hS _ (List.getElem_mem hj)
  have l8:D its (n+1) cV [.row 8 c.p,.row 3 c.s,.row 6 c.f,ci S[j]]=some [ci (c.needAt S[j])]:=by
   have:=aCa its n (c:=c) k1;rw [Int.toNat_of_nonneg k0] at this;simp [Court.needAt,List.getElem?_eq_getElem k1];exact this
  have xf:(enc1 ((eA c S).take j)).length=j:=by grind [eA]
  have bh:bL (enc1 ((eA c S).take j)).length 1 8=true:=by exact cU (by omega) (by omega)
  have ky:enc1 ((eA c S).take j)++aI 1 1 [ci (c.needAt S[j])]=enc1 ((eA c S).take (j+1)):=by
   grind [List.take_succ_eq_append_getElem,eA,aI]
  simp_all
end
end
section
open Go Go.Sx Go.RowKit
set_option maxRecDepth 100000
section
variable [G:Ghost] [C:Co Tryz.prog] {F:Fence} {n:Nat} {M:Den}
variable {es:List (List CV)}
theorem zX (hF:Free F) (am:F.round=none) (hM:@Fns calm Tryz.prog C sg M) (hY:@Yls calm Tryz.prog C M) (hT:Its Tryz.prog sg M) {c:Code} {hh:HT} {lk:Lk} {s:SS} {K:SS->Option Ou} {r:Ou} {m:Emb} {st:St} {Q:Exit->List (List CV)->St->Prop}
  (hE:Em m s st) (h:IF M c hh lk s K=some r) (hk:∀ m' s' st',K s'=some r->Em m' s' st'->Adv lk m s st m' s' st'->Q .normal es st'):WI F n Tryz.prog c es st Q:=
 QF (@BE calm _ _ _ _ _ _ rfl hM hT hF am _ (fun F n hF=>@rY calm _ _ _ _ false (fun h=>by cases h) hM hY 11 _ _ hF) _ (fun s o h=>by cases h) c hh lk [] s K r m st _ hE h hk (fun _ _ _ _ _ _ h0=>by grind [kU]) (fun _ _ _ h=>by cases h))
theorem WK {P:Program} [C:Co P] {ops:Array Oper} {o:Oper} {rest:List Oper} {N d:Nat} {l:List (Nat×AV)} {B B':List Box} {V V':List Vec} {A:AV} {Q:List (List CV)->St->Prop} (hg:o.guard=none) (hd:o.dst=some d) (h:bI P ⟨mkT N l,B,V⟩ o.op=some (A,B',V'))
  (hk:CM F n P ops rest es ⟨mkT N ((d,A)::l),B',V'⟩ Q):CM F n P ops (o::rest) es ⟨mkT N l,B,V⟩ Q:=
 aBB hg h (by grind [MZ])
theorem NL {P:Program} {st:St} {x:Operand} {o:Oper} {A:AV} (ho:o.op=.move x) (hx:st.ev x=A):bI P st o.op=some (A,st.B,st.V):=by
 simp_all
abbrev shR:YSh:=.clo [.one li,.one (.row 1)]
theorem TY (hF:Free F) {l':Nat} {es1:List (List CV)} {b:Bool} {X:List (Nat×AV)} {B:List Box} {V:List Vec} {a:Int} {r2:List (List CV)} (N9:lk X 0=yv l') (Ia:lk X 6=.cv (ci a)) (Oa:lk X 8=.cv (.row 1 r2)) (hX:∀ q∈X,lk X q.1=q.2/\q.1<83) (eh:gQ r2=true)
  (hy:lG Tryz.prog l' shR es [ci a,.row 1 r2] b es1) :
  WI F n Tryz.prog (.seq (.region 20 #[o20 0,o20 1,o20 2,o20 3,o20 4] false) (.cond (.tmp 87) .ret .skip)) es ⟨mkT 89 X,B,V⟩ fun ex es2 st2=>es2=es1/\((ex=.normal/\b=true/\Wk st2 ⟨mkT 89 X,B,V⟩)\/(ex=.ret/\b=false)):=by
 obtain ⟨g0,g1,g2,g3,g4,d0,d1,d2,d3,d4⟩:=o_g;refine nZ (ZE ?_);refine WK g0 d0 (B':=B) (V':=V) (A:=yv l') (NL (x:=.tmp 0) (by rfl) (by simp_all)) ?_
 refine WK g1 d1 (B':=B) (V':=V) (A:=.cv (ci a)) (NL (x:=.tmp 6) (by rfl) (by simp_all)) ?_
 refine WK g2 d2 (B':=B) (V':=V) (A:=.cv (.row 1 r2)) (NL (x:=.tmp 8) (by rfl) (by simp_all)) ?_
 refine QH hF (l:=l') (vs0:=[ci a,.row 1 r2]) (cs:=[.one li,.one (.row 1)]) g3 aH6 (by rfl) ?_ (by rfl) (by grind [CV.firm,ci]) hy ?_
 ·rfl
 rw [d3,MZ];refine WK g4 d4 (B':=B) (V':=V) (A:=.cv (.val (.bool (!b)))) (by rfl) ?_
 refine ZF ?_
 have hw:Wk ⟨mkT 89 ((87,.cv (.val (.bool (!b))))::(86,.cv (.val (.bool b)))::(85,.cv (.row 1 r2))::(84,.cv (ci a))::(83,yv l')::X),B,V⟩ ⟨mkT 89 X,B,V⟩:=by
  refine Wk.slots fun q hq=>.inl ?_
  simp;grind
 refine WA (b:=!b) (by rfl) (fun hb=>?_) (fun hb=>?_)
 ·exact QF (@W.w2 calm _ _ _ _ _ _ _ (@yW calm _ _ _ _ _ _ ⟨rfl,.inr ⟨rfl,by grind⟩⟩))
 ·exact QF (@W.w2 calm _ _ _ _ _ _ _ (@mF calm _ _ _ _ _ _ ⟨rfl,.inl ⟨rfl,by grind,hw⟩⟩))
end
section
variable [C:Co Tryz.prog] {M:Den}
theorem aEb {k:Nat} (h:k<4611686018427387904):wr ((k:Int)+1)=((k+1:Nat):Int):=by
 unfold wr
 have:IntKind.wrap .i64 ((k:Int)+1)=(k:Int)+1:=by
  unfold IntKind.wrap;grind [IntKind.bits]
 omega
open Classical in
theorem ZV (hM:∀ [Ghost],Fns Tryz.prog sg M) (hY:∀ [Ghost],Yls Tryz.prog M) (hT:Its Tryz.prog sg M) {p s f l:List (List CV)} (T RW:Nat->List (List CV)) (ak:l.length<4611686018427387904)
  (oq:∃ vs,gr vs 0=T 0/\∀ k,aD3 p s f M k=k vs)
  (Fg:∀ i:Nat,i<l.length->gQ (RW i)=true/\∃ vs,gr vs 0=T (i+1)/\gr vs 1=RW i/\∀ k,aD4 p s f l (T i) i M k=k vs) :
  rB Tryz.prog 172 [cts p s f,.ref [.row 1 l]] shR (fC ((List.range l.length).map fun (i:Nat)=>[ci (gi (el l (i:Int)) 0),.row 1 (RW i)])):=by
 refine aBC (N:=89) (fn:=Tryz.f172) (c:=CB) (by rfl) (by rfl) (by rfl) (by simp) (by rfl) ?_
 intro G l' yf es es' hy zy F n hF am;generalize bj:((List.range l.length).map fun (i:Nat)=>[ci (gi (el l (i:Int)) 0),CV.row 1 (RW i)])=rows at zy
 have km:Em ⟨[],[0],[0]⟩ (s00 l' p s f l) ⟨mkT 89 (dB 0 (.cv (.val (.func (.yield l') #[] #[]))::[cts p s f,.ref [.row 1 l]].map .cv)),[],[⟨false,0,0,0,[]⟩]⟩:=by
  refine ⟨?_,kA _ _ (by rfl),⟨rfl,rfl,rfl,by simp [s00],?_,?_,by simp [s00],?_⟩⟩
  ·rfl
  ·grind [Emb.fv,Vec.cz,Emb.fo,s00]
  ·grind [Emb.fv]
  ·simp [s00]
 obtain ⟨v0,fh,mu⟩:=oq;rw [aH5];have hA:=y_A l' p s f l M (fun s'=>if s'=sH l' p s f l (T 0) 0 then some (.nx []) else none)
 rw [mu,if_pos (by rw [fh])] at hA
 refine nZ (zX hF am (@hM calm) (@hY calm) hT km hA fun m1 t1 st1 h1 cg d9=>?_)
 refine nZ (zX hF am (@hM calm) (@hY calm) hT cg h1 fun m2 t2 st2 h2 ig Hi=>?_)
 split at h2
 case isFalse=>cases h2
 rename_i he;subst he
 refine QG (aBA (fun k es st=>∃ (i:Nat) (m:Emb),k=l.length - i/\i<=l.length/\Em m (sH l' p s f l (T i) i) st/\Adv L1 m2 (sH l' p s f l (T 0) 0) st2 m (sH l' p s f l (T i) i) st/\fC (rows.drop i) yf es=some es') (k0:=l.length)
  ⟨0,m2,rfl,Nat.zero_le _,ig,Adv.refl _ _ _ _,by grind⟩ ?_)
 rintro k es1 st ⟨i,m,rfl,hi,hE,ha,hf⟩;have h2:=y_2 l' p s f l (T i) i M (fun s'=>if s'=s2 l' p s f l (T i) i then some (.nx []) else none)
 rw [if_pos rfl] at h2;refine nZ (zX hF am (@hM calm) (@hY calm) hT hE h2 fun m3 t3 st3 h3 Bq Dn=>?_)
 split at h3
 case isFalse=>cases h3
 rename_i he;subst he;refine nZ (WA (b:=decide ((i:Int)<il l)) (by rw [Bq.ev];rfl) (fun ht=>?_) (fun yb=>?_))
 case refine_2 =>
  refine QF (@W.w2 calm _ _ _ _ _ _ _ (@EW calm _ _ _ _ _ _ _ ?_));have:¬((i:Int)<(l.length:Int)):=of_decide_eq_false yb;grind [List.drop_eq_nil_of_le,fC,Option.some.injEq]
 have ah:i<l.length:=by
  have h:=of_decide_eq_true ht;have h':(i:Int)<(l.length:Int):=h;omega
 refine QF (@W.w2 calm _ _ _ _ _ _ _ (@mF calm _ _ _ _ _ _ ?_));refine nZ (QG ?_);obtain ⟨eh,vs,p1,p2,hk⟩:=Fg i ah;have hB:=y_B l' p s f l (T i) i M (fun s'=>if s'=sB l' p s f l i (gr vs 0) (gr vs 1) then some (.nx []) else none)
 rw [hk,if_pos rfl] at hB;refine nZ (zX hF am (@hM calm) (@hY calm) hT Bq hB fun m4 t4 st4 h4 Ln Lo=>?_)
 refine nZ (zX hF am (@hM calm) (@hY calm) hT Ln h4 fun m5 t5 st5 h5 Lp Lq=>?_)
 refine nZ (zX hF am (@hM calm) (@hY calm) hT Lp h5 fun m6 t6 st6 h6 Lr Ls=>?_)
 refine nZ (zX hF am (@hM calm) (@hY calm) hT Lr h6 fun m7 t7 st7 h7 Lt Lu=>?_)
 refine nZ (zX hF am (@hM calm) (@hY calm) hT Lt h7 fun m8 t8 st8 h8 Lw Lx=>?_)
 split at h8
 case isFalse=>cases h8
 rename_i he;subst he;refine aDP Lw (aJx l' p s f l i (gr vs 0) (gr vs 1)) fun m9 st9 Ib Ly=>?_
 obtain ⟨t9,B9,V9⟩:=st9;have Lz:t9=mkT 89 ((sC l' p s f l i (gr vs 0) (gr vs 1)).t.map fun q=>(q.1,q.2.cz m9)):=Ib.t
 subst Lz
 have Ah:rows.drop i=[ci (gi (el l (i:Int)) 0),.row 1 (RW i)]::rows.drop (i+1):=by
  grind [List.drop_eq_getElem_cons]
 rw [Ah] at hf;cases we:yf es1 [ci (gi (el l (i:Int)) 0),.row 1 (RW i)] with
 | none=>grind [fC]
 | some be =>
  obtain ⟨b,es2⟩:=be;refine aDO (TY hF (l':=l') (a:=gi (el l (i:Int)) 0) (r2:=gr vs 1) (b:=b) (es1:=es2) (by rfl) (by rfl) (by rfl) ?_ (by grind) (by grind)) ?_
  ·simp [sC,List.map_cons,List.map_nil,List.mem_cons,List.not_mem_nil,or_false]
  rintro ex es3 st10 ⟨rfl,Ak⟩;rcases Ak with ⟨rfl,rfl,hw⟩ | ⟨rfl,rfl⟩
  ·simp [fC,we] at hf
   refine aFN hw ?_;have B4:=aJy l' p s f l i M (fun s'=>if s'=sD l' p s f l i (gr vs 0) (gr vs 1) then some (.nx []) else none) (gr vs 0) (gr vs 1)
   rw [if_pos rfl] at B4;refine zX hF am (@hM calm) (@hY calm) hT Ib B4 fun m11 t11 st11 mw Fh Fj=>?_
   split at mw
   case isFalse=>grind
   rename_i he;subst he;have LE:=ha.trans (Dn.trans (Lo.trans (Lq.trans (Ls.trans (Lu.trans (Lx.trans (Ly.trans Fj)))))));obtain ⟨m12,st12,w1,w2,w3⟩:=gC (h:=h0) (lk:=L0) ig Fh (by grind [aJz]) (aH4 ..) (aJA ..)
   rw [p1,aEb (by omega)] at w2 w3
   exact ⟨st12,w1,l.length - (i+1),by omega,i+1,m12,rfl,ah,w2,w3,hf⟩
  grind [fC,Option.some.injEq]
end
end
section
open Go Go.Sx Go.Plaint
set_option maxRecDepth 10000
section
variable (its:ITS) (n:Nat)
variable {c:Court}
theorem aEc (hc:c.Sm):∃ vs,gr vs 0=enc1 (c.ss.map Su.worth)/\∀ k,aD3 c.p c.s c.f (D its (n+1)) k=k vs:=by
 refine ⟨[.row 1 (enc1 (c.ss.map Su.worth))],rfl,fun k=>?_⟩
 have h:=iC (fun j=>[ci (j:Int),.row 1 (enc1 ((c.ss.map Su.worth).take j))]) c.ss.length (step:=fun v0 =>
     aC (decide ((gi v0 0)<(il c.s)))
      (aA (D its (n+1) 162 [.row 8 c.p,.row 3 c.s,.row 6 c.f,ci (gi v0 0)]) fun v1 =>
      chk (bL (List.length (gr v0 1)) 1 8) <|
      some (.nx ([ci (wr ((gi v0 0)+1)),CV.row 1 ((gr v0 1)++(aI 1 1 [ci (gi v1 0)]))])))
      (some (.br 0 [CV.row 1 (gr v0 1)]))) ?_
 ·have ah:il c.s=(c.ss.length:Int):=aP _ _
  have h2:=Eq.trans h (aQ (r:=some (.br 0 [.row 1 (enc1 (c.ss.map Su.worth))])) (by
   grind [List.take_of_length_le,cW,fO,cY,dU]) (by simp))
  unfold aD3;simp_all
 ·intro j hj
  have ah:il c.s=(c.ss.length:Int):=aP _ _;have er:wr ((j:Int)+1)=((j+1:Nat):Int):=bA (by have:=hc.s;omega)
  have hm:D its (n+1) 162 [.row 8 c.p,.row 3 c.s,.row 6 c.f,ci (j:Int)]=some [ci c.ss[j].worth]:=WG its n hj;have xf:(enc1 ((c.ss.map Su.worth).take j)).length=j:=by grind
  have bh:bL (enc1 ((c.ss.map Su.worth).take j)).length 1 8=true:=by have:=hc.s;exact cU (by omega) (by omega)
  have ky:enc1 ((c.ss.map Su.worth).take j)++aI 1 1 [ci c.ss[j].worth]=enc1 ((c.ss.map Su.worth).take (j+1)):=by
   simp_all [List.take_succ_eq_append_getElem]
  simp_all
def parts (R:List Int):List (List Int):=(List.range (2 ^ R.length - 1)).map fun q=>IE R (q+1)
theorem GS (R:List Int):lB R=(parts R).map fun S=>[CV.row 1 (enc1 S)]:=by simp [lB,parts]
theorem KO {L:List Int} {b:Nat}:∀ {j:Nat},j<=L.length->∀ x∈mU L b j,x∈L
 | 0,_,x,hx=>by grind [mU]
 | j+1,hj,x,hx=>by
  simp [mU] at hx;rcases hx with hx | hx
  ·exact KO (by omega) x hx
  grind
variable {S:List Int}
theorem rM {R:List Int} (h:S∈parts R):(∀ x∈S,x∈R)/\S.length<=R.length:=by
 simp [parts] at h;obtain ⟨q,_,rfl⟩:=h;exact ⟨KO (Nat.le_refl _),BS _ _ _⟩
def minS (c:Court) (j:Nat) (lm:List Int) (v:Int) (S:List Int):Int:=
 if S.any (fun k=>c.stands k.toNat j)=true then (if c.back S lm - jW (eA c S)<v then c.back S lm - jW (eA c S) else v) else v
theorem itV {M:Den} {R:List Int} (h:M 158 [.ref [.row 1 (enc1 R)]]=some [.row 0 (lB R),shC shS]):rZ sg M (.fn 158 [.ref [.row 1 (enc1 R)]]) (.clo [.one (.row 1)])=some (lB R):=by
 have hs:sg 158=none:=by rfl
 unfold rZ;grind
theorem GU {A:Type} {step:List CV->List CV->Option Ou} {f:A->List CV} {g:Int->A->Int}:∀ (l:List A) (v:Int),(∀ a∈l,∀ v,step (f a) [ci v]=some (.nx [ci (g v a)]))->kE step (l.map f) [ci v]=some (.nx [ci (l.foldl g v)])
 | [],v,_=>rfl
 | a::l,v,h=>by
  simp [kE,h a (by simp) v]
  exact GU l _ fun b hb=>h b (by grind)
structure Bd (c:Court):Prop where
 sm:c.Sm
 need:∀ p∈c.ps,0<=p.need/\p.need<=1000000000
theorem GV (hb:Bd c) (hS:OnP c S) (_:S.length<=1000):0<=jW (eA c S)/\jW (eA c S)<=1000000000*(S.length:Int):=by
 have key:∀ (l:List Int) (s:Int),(∀ x∈l,0<=x/\x<=1000000000)->s<=l.foldl (·+·) s/\l.foldl (·+·) s<=s+1000000000*(l.length:Int):=by
  intro l
  induction l with
  | nil=>simp
  | cons a l ih =>
   intro s hl;have h1:=ih (s+a) fun x hx=>hl x (by grind)
   have h2:=hl a (by simp)
   grind
 have h:=key (eA c S) 0 fun x hx=>by
  simp [eA] at hx;obtain ⟨k,hk,rfl⟩:=hx;obtain ⟨k0,k1⟩:=hS k hk;have:=hb.need _ (List.getElem_mem k1);grind [Court.needAt]
 have Cz:(eA c S).length=S.length:=by simp [eA]
 unfold jW;omega
theorem aCc (hb:Bd c) {j:Nat} (hj:j<c.ss.length) {lm:List Int} (ak:lm.length=c.ss.length) (hl:∀ x∈lm,0<=x/\x<=1000000000000) (hS:OnP c S) (qc:S.length<=1000) (v:Int) :
  (aA (D its (n+7) 107 ([CV.row 1 (gr [CV.row 1 (enc1 S)] 0),CV.fn 173 ([CV.ref [CV.row 8 c.p,CV.row 3 c.s,CV.row 6 c.f],CV.ref [ci (j:Int)]])])) fun v5 =>
   bD (aC (gb v5 0)
    (aA (D its (n+7) 80 [.row 8 c.p,.row 3 c.s,.row 6 c.f,CV.row 1 (gr [CV.row 1 (enc1 S)] 0),CV.row 1 (enc1 lm)]) fun v6 =>
    aA (D its (n+7) 82 [.row 8 c.p,.row 3 c.s,.row 6 c.f,CV.row 1 (gr [CV.row 1 (enc1 S)] 0)]) fun v7 =>
    some (.nx [ci (if (wr ((gi v6 0) - (gi v7 0)))<(gi [ci v] 0) then wr ((gi v6 0) - (gi v7 0)) else gi [ci v] 0)]))
    (some (.nx [ci (gi [ci v] 0)]))) fun v6 =>
   some (.nx [ci (gi v6 0)]))=some (.nx [ci (minS c j lm v S)]):=by
 have ll:=vG its (n+5) (L:=S) (by omega) (g:=CV.fn 173 ([CV.ref [CV.row 8 c.p,CV.row 3 c.s,CV.row 6 c.f],CV.ref [ci (j:Int)]])) (P:=fun k=>c.stands k.toNat j) (fun x hx=>by
   obtain ⟨x0,x1⟩:=hS x hx;rw [aJF];have:=aIj its (n+1) hb.sm (k:=x.toNat) (j:=j) x1 hj;rw [Int.toNat_of_nonneg x0] at this;exact this)
 have pj:D its (n+7) 80 [.row 8 c.p,.row 3 c.s,.row 6 c.f,CV.row 1 (enc1 S),CV.row 1 (enc1 lm)]=some [ci (c.back S lm)]:=BU its n hb.sm hS (by omega) ak hl
 have fc:D its (n+7) 82 [.row 8 c.p,.row 3 c.s,.row 6 c.f,CV.row 1 (enc1 S)]=some [ci (jW (eA c S))]:=NK its (n+5) hS (by omega) hb.need
 have b1:=zW hl (c:=c) (S:=S) c.ss.length;have b2:=GV hb hS qc;have dg:=hb.sm.s;have hw:wr (c.back S lm - jW (eA c S))=c.back S lm - jW (eA c S):=dQ (by unfold Court.back;omega) (by unfold Court.back;omega)
 simp [ll,pj,fc,hw];unfold minS;simp
end
def rN (c:Court) (R:List Int) (j:Nat) (left:Int) (lm:List Int):Int:=(parts R).foldl (minS c j lm) (if lm.getD j 0<left then lm.getD j 0 else left)
def stJ (c:Court) (k:Nat) (R:List Int) (j:Nat) (x:Int×List Int×List Int):Int×List Int×List Int:=
 if c.stands k j=true then (x.1 - rN c R j x.1 x.2.1,x.2.1.set j (x.2.1.getD j 0 - rN c R j x.1 x.2.1),x.2.2.set j (rN c R j x.1 x.2.1)) else x
noncomputable def aF6 (M:Den) (p s f:List (List CV)) (j:Int) (lm:List (List CV)) (x4 v4:List CV):Option Ou:=
          aA (M 107 ([CV.row 1 (gr x4 0),CV.fn 173 ([CV.ref [CV.row 8 p,CV.row 3 s,CV.row 6 f],CV.ref [ci j]])])) fun v5 =>
          bD (aC (gb v5 0)
              (aA (M 80 [CV.row 8 p,CV.row 3 s,CV.row 6 f,CV.row 1 (gr x4 0),CV.row 1 lm]) fun v6 =>
              aA (M 82 [CV.row 8 p,CV.row 3 s,CV.row 6 f,CV.row 1 (gr x4 0)]) fun v7 =>
              some (.nx [ci (if (wr ((gi v6 0) - (gi v7 0)))<(gi v4 0) then wr ((gi v6 0) - (gi v7 0)) else gi v4 0)]))
              (some (.nx [ci (gi v4 0)]))) fun v6 =>
          some (.nx [ci (gi v6 0)])
noncomputable def QQ (M:Den) (p s f l:List (List CV)) (i:Int) (v1:List CV):Option Ou:=
    aC (decide ((gi v1 1)<(il s)))
     (bG 3 (aA (M 160 [CV.row 8 p,CV.row 3 s,CV.row 6 f,ci (gi (el l i) 0),ci (gi v1 1)]) fun v2 =>
      aC (!(gb v2 0))
       (some (.br 3 [ci (gi v1 0),CV.row 1 (gr v1 2),CV.row 1 (gr v1 3)]))
       (chk (inb (gi v1 1) (gr v1 2)) <|
       chk (decide ((Int.toNat (gi v1 1))<(List.length (gr v1 2)))) <|
       chk (oks [li] (el (gr v1 2) (gi v1 1)) 0) <|
       aA (M 79 [CV.row 1 (List.drop (Int.toNat (wr (i+1))) (List.take (Int.toNat (il l)) l))]) fun v3 =>
       bD (brO (fN (rZ sg M (List.getD v3 0 dC) (.clo [.one (.row 1)])) (aF6 M p s f (gi v1 1) (gr v1 2)) [ci (if (gi (el (gr v1 2) (gi v1 1)) 0)<(gi v1 0) then gi (el (gr v1 2) (gi v1 1)) 0 else gi v1 0)])) fun v4 =>
       chk (inb (gi v1 1) (gr v1 3)) <|
       chk ((decide ((Int.toNat (gi v1 1))<(List.length (gr v1 3))))&&(decide (1<=1))) <|
       chk (inb (gi v1 1) (gr v1 2)) <|
       chk (decide ((Int.toNat (gi v1 1))<(List.length (gr v1 2)))) <|
       chk (oks [li] (el (gr v1 2) (gi v1 1)) 0) <|
       chk (inb (gi v1 1) (gr v1 2)) <|
       chk ((decide ((Int.toNat (gi v1 1))<(List.length (gr v1 2))))&&(decide (1<=1))) <|
       some (.br 3 ([ci (wr ((gi v1 0) - (gi v4 0))),CV.row 1 (List.set (gr v1 2) (Int.toNat (gi v1 1)) (spl (el (gr v1 2) (gi v1 1)) 0 [ci (wr ((gi (el (gr v1 2) (gi v1 1)) 0) - (gi v4 0)))])),CV.row 1 (List.set (gr v1 3) (Int.toNat (gi v1 1)) (spl (el (gr v1 3) (gi v1 1)) 0 [ci (gi v4 0)]))])))) fun v2 =>
     some (.nx [ci (gi v2 0),ci (wr ((gi v1 1)+1)),CV.row 1 (gr v2 1),CV.row 1 (gr v2 2)]))
     (some (.br 2 [CV.row 1 (gr v1 2),CV.row 1 (gr v1 3)]))
theorem aCd (M:Den) (p s f l lm:List (List CV)) (i:Int) (k:List CV->Option Ou):aD4 p s f l lm i M k=(chk (inb i l) <|
  chk (oks [li] (el l i) 0) <|
  chk (((decide (0<=(wr (i+1))))&&(decide ((wr (i+1))<=(il l))))&&(decide ((il l)<=(il l)))) <|
  chk (((decide (0<=(il s)))&&(decide ((il s)<=(il s))))&&(bL (Int.toNat (il s)) 0 8)) <|
  aA (M 163 [CV.row 8 p,CV.row 3 s,CV.row 6 f,ci (gi (el l i) 0)]) fun v0 =>
  bG 2 (aH (QQ M p s f l i) ([ci (gi v0 0),ci 0,CV.row 1 lm,CV.row 1 (List.replicate (Int.toNat (il s)) [ci 0])])) k):=rfl
section
variable (its:ITS) (n:Nat)
theorem TZ (R:List Int):D its (n+1) 79 [.row 1 (enc1 R)]=some [.fn 158 [.ref [.row 1 (enc1 R)]]]:=(IA its n _).trans rfl
variable {c:Court} {lm:List Int}
theorem NM (hb:Bd c) {R:List Int} (hR:OnP c R) (pk:R.length<=1000) (hl:∀ x∈lm,0<=x/\x<=1000000000000) {left:Int} (h0:0<=left) (h1:left<=1000000000000) (j:Nat) :
  -(1000000000*(R.length:Int))<=rN c R j left lm/\rN c R j left lm<=left/\rN c R j left lm<=lm.getD j 0:=by
 have key:∀ (P:List (List Int)) (v:Int),(∀ S∈P,S∈parts R)->-(1000000000*(R.length:Int))<=v->-(1000000000*(R.length:Int))<=P.foldl (minS c j lm) v/\P.foldl (minS c j lm) v<=v:=by
  intro P
  induction P with
  | nil=>simp
  | cons S P ih =>
   intro v hP hv;obtain ⟨m1,m2⟩:=rM (hP S (by simp))
   have b1:=zW hl (c:=c) (S:=S) c.ss.length;have b2:=GV hb (fun k hk=>hR k (m1 k hk)) (by omega:S.length<=1000)
   have hs:-(1000000000*(R.length:Int))<=minS c j lm v S/\minS c j lm v S<=v:=by
    unfold minS;split
    ·split
     ·unfold Court.back at *;omega
     ·omega
    ·omega
   grind
 have hx:0<=lm.getD j 0:=by
  by_cases h:j<lm.length
  ·simp_all
  grind
 have h:=key (parts R) (if lm.getD j 0<left then lm.getD j 0 else left) (fun _ h=>h) (by omega)
 refine ⟨h.1,Int.le_trans h.2 ?_,Int.le_trans h.2 ?_⟩ <;> split <;> omega
theorem aF7 (hb:Bd c) {L:List Int} (hL:OnP c L) (tz:L.length<=40) {i:Nat} (hi:i<L.length) {j:Nat} (hj:j<c.ss.length) {left:Int} {row:List Int} (ak:lm.length=c.ss.length) (ge:row.length=c.ss.length) (hl:∀ x∈lm,0<=x/\x<=1000000000000) (h0:0<=left) (h1:left<=1000000000000)
  (pm:∀ R:List Int,R.length<=40->D its (n+7) 158 [.ref [.row 1 (enc1 R)]]=some [.row 0 (lB R),shC shS]) :
  QQ (D its (n+7)) c.p c.s c.f (enc1 L) (i:Int) [ci left,ci (j:Int),.row 1 (enc1 lm),.row 1 (enc1 row)] =
   some (.nx [ci (stJ c L[i].toNat (L.drop (i+1)) j (left,lm,row)).1,ci ((j+1:Nat):Int),.row 1 (enc1 (stJ c L[i].toNat (L.drop (i+1)) j (left,lm,row)).2.1),.row 1 (enc1 (stJ c L[i].toNat (L.drop (i+1)) j (left,lm,row)).2.2)]):=by
 obtain ⟨k0,k1⟩:=hL _ (List.getElem_mem hi);have dg:=hb.sm.s;have ah:il c.s=(c.ss.length:Int):=aP _ _;have an:((j:Int)<(c.ss.length:Int)):=by omega
 have e1:el (enc1 L) (i:Int)=[ci L[i]]:=aK hi
 have ax:D its (n+7) 160 [.row 8 c.p,.row 3 c.s,.row 6 c.f,ci L[i],ci (j:Int)]=some [cb (c.stands L[i].toNat j)]:=by
  have:=GR its (n+4) hb.sm k1 hj;rw [Int.toNat_of_nonneg k0] at this;exact this
 have er:wr ((j:Int)+1)=((j+1:Nat):Int):=bA (by omega)
 have Af:wr ((i:Int)+1)=((i+1:Nat):Int):=bA (by omega)
 unfold QQ;cases hA:c.stands L[i].toNat j with
 | false =>
  simp_all [stJ]
 | true =>
  have bk:j<lm.length:=by omega
  have Fk:j<row.length:=by omega
  have i1:inb (j:Int) (enc1 lm)=true:=aE bk;have e2:el (enc1 lm) (j:Int)=[ci lm[j]]:=aK bk;have i3:inb (j:Int) (enc1 row)=true:=aE Fk;have e3:el (enc1 row) (j:Int)=[ci row[j]]:=aK Fk;have l1:(enc1 lm).length=lm.length:=by simp
  have l2:(enc1 row).length=row.length:=by simp
  have wz:Int.toNat (il (enc1 L))=L.length:=by simp
  have hdr:List.drop (i+1) (List.take L.length (enc1 L))=enc1 (L.drop (i+1)):=by
   simp [List.take_of_length_le]
  have pk:(L.drop (i+1)).length<=40:=by grind
  have hR:OnP c (L.drop (i+1)):=fun k hk=>hL k (List.mem_of_mem_drop hk)
  have hg:lm.getD j 0=lm[j]:=by grind
  have LT:=NM hb hR (by omega) hl h0 h1 j
  have Fl:=GU (step:=aF6 (D its (n+7)) c.p c.s c.f (j:Int) (enc1 lm)) (f:=fun S=>[CV.row 1 (enc1 S)]) (g:=minS c j lm) (parts (L.drop (i+1))) (if lm[j]<left then lm[j] else left) (fun S hS v=>aCc its n hb hj ak hl (fun k hk=>hR k ((rM hS).1 k hk)) (by have:=(rM hS).2;omega) v)
  rw [<- GS] at Fl;have Bv:(parts (L.drop (i+1))).foldl (minS c j lm) (if lm[j]<left then lm[j] else left)=rN c (L.drop (i+1)) j left lm:=by unfold rN;rw [hg]
  rw [Bv] at Fl;have lx:=hl _ (List.getElem_mem bk);have nu:wr (left - rN c (L.drop (i+1)) j left lm)=left - rN c (L.drop (i+1)) j left lm:=dQ (by omega) (by omega)
  have L2:wr (lm[j] - rN c (L.drop (i+1)) j left lm)=lm[j] - rN c (L.drop (i+1)) j left lm:=dQ (by omega) (by omega)
  have jq:∀ a b:Int,spl [ci a] 0 [ci b]=[ci b]:=fun _ _=>rfl
  have jv:∀ (Z:List Int) (v:Int),List.set (enc1 Z) j [ci v]=enc1 (Z.set j v):=fun Z v=>by simp
  have rz:List.getD [CV.fn 158 [.ref [.row 1 (enc1 (L.drop (i+1)))]]] 0 dC=CV.fn 158 [.ref [.row 1 (enc1 (L.drop (i+1)))]]:=rfl
  have Fm:fN (rZ sg (D its (n+7)) (CV.fn 158 [.ref [.row 1 (enc1 (L.drop (i+1)))]]) (.clo [.one (.row 1)])) (aF6 (D its (n+7)) c.p c.s c.f (j:Int) (enc1 lm)) [ci (if lm[j]<left then lm[j] else left)]=some (.nx [ci (rN c (L.drop (i+1)) j left lm)]):=by
   rw [itV (pm _ pk)];exact Fl
  have L3:∀ vs,brO (some (.nx vs))=some (.nx vs):=fun _=>rfl
  simp only [BR,cW,fO,cY,ah,an,decide_true,iP,e1,ax,hA,aD,nD,Bool.not_true,dU,i1,e2,Int.toNat_natCast,l1,bk,bR,nH,KG,KF,Bool.and_self,Af,wz,hdr,TZ,rz,Fm,L3,eX,i3,e3,l2,Fk,Nat.le_refl,nu,L2,jq,jv,jC,er,stJ,if_true,hg]
structure StB (c:Court) (B:Int) (x:Int×List Int×List Int):Prop where
 l0:0<=x.1
 l1:x.1<=B
 len:x.2.1.length=c.ss.length
 row:x.2.2.length=c.ss.length
 lm:∀ y∈x.2.1,0<=y/\y<=B
theorem aCe (hb:Bd c) {R:List Int} (hR:OnP c R) (pk:R.length<=5) {B:Int} (hB:B<=1000000000000) {x:Int×List Int×List Int} (hx:StB c B x) (k:Nat) {j:Nat} (hj:j<c.ss.length):StB c (B+5000000000) (stJ c k R j x):=by
 obtain ⟨x1,x2,x3⟩:=x;have mu:=hx.l0;have i8:=hx.l1;have r8:=hx.lm;have ak:=hx.len;have ge:=hx.row;simp only at mu i8 r8 ak ge;have LT:=NM hb hR (by omega) (lm:=x2) (fun y hy=>⟨(r8 y hy).1,Int.le_trans (r8 y hy).2 hB⟩) mu (by omega) j
 have bk:j<x2.length:=by omega
 have wu:=r8 _ (List.getElem_mem bk);unfold stJ;split
 ·refine ⟨by grind,by grind,by grind,by grind,fun y hy=>?_⟩
  grind
 ·exact ⟨mu,by omega,ak,ge,fun y hy=>by grind⟩
def rO (c:Court) (k:Nat) (R:List Int) (x:Int×List Int×List Int):Nat->Int×List Int×List Int
 | 0=>x
 | j+1=>stJ c k R j (rO c k R x j)
theorem DY {c:Court} (hb:Bd c) {R:List Int} (hR:OnP c R) (pk:R.length<=5) {B:Int} (k:Nat) {x:Int×List Int×List Int} (hx:StB c B x):∀ {j:Nat},j<=c.ss.length->B+5000000000*(j:Int)<=1000000000000->StB c (B+5000000000*(j:Int)) (rO c k R x j)
 | 0,_,_=>by grind [rO]
 | j+1,hj,hB=>by
  have ih:=DY hb hR pk k hx (j:=j) (by omega) (by omega)
  have:=aCe hb hR pk (by omega) ih k (j:=j) (by omega)
  have e:B+5000000000*((j+1:Nat):Int)=B+5000000000*(j:Int)+5000000000:=by omega
  rw [e];exact this
def vH (c:Court) (L:List Int) (i:Nat) (lm:List Int):Int×List Int×List Int:=rO c (L.getD i 0).toNat (L.drop (i+1)) (c.needAt (L.getD i 0),lm,List.replicate c.ss.length 0) c.ss.length
theorem aCf (Z:List Int):gQ (enc1 Z)=true:=by simp [gQ,ci]
theorem ZW (hb:Bd c) {L:List Int} (hL:OnP c L) (tz:L.length<=6) (Al:c.ss.length<=8) {i:Nat} (hi:i<L.length) {B:Int} (ak:lm.length=c.ss.length) (r8:∀ y∈lm,0<=y/\y<=B) (Ob:1000000000<=B) (hB:B+40000000000<=1000000000000)
  (pm:∀ R:List Int,R.length<=40->D its (n+7) 158 [.ref [.row 1 (enc1 R)]]=some [.row 0 (lB R),shC shS]) :
  gQ (enc1 (vH c L i lm).2.2)=true/\∃ vs,gr vs 0=enc1 (vH c L i lm).2.1/\gr vs 1=enc1 (vH c L i lm).2.2/\∀ k,aD4 c.p c.s c.f (enc1 L) (enc1 lm) (i:Int) (D its (n+7)) k=k vs:=by
 refine ⟨aCf _,[.row 1 (enc1 (vH c L i lm).2.1),.row 1 (enc1 (vH c L i lm).2.2)],rfl,rfl,fun k=>?_⟩
 obtain ⟨k0,k1⟩:=hL _ (List.getElem_mem hi);have hR:OnP c (L.drop (i+1)):=fun k hk=>hL k (List.mem_of_mem_drop hk)
 have pk:(L.drop (i+1)).length<=5:=by grind
 have fc:=hb.need _ (List.getElem_mem k1);have Fp:c.needAt L[i]=c.ps[L[i].toNat].need:=by simp [Court.needAt,k1]
 have ei:StB c B (c.needAt L[i],lm,List.replicate c.ss.length 0):=⟨by omega,by omega,ak,by simp,r8⟩
 have h:=iC (step:=QQ (D its (n+7)) c.p c.s c.f (enc1 L) (i:Int)) (fun j=>[ci (rO c L[i].toNat (L.drop (i+1)) (c.needAt L[i],lm,List.replicate c.ss.length 0) j).1,ci (j:Int),.row 1 (enc1 (rO c L[i].toNat (L.drop (i+1)) (c.needAt L[i],lm,List.replicate c.ss.length 0) j).2.1),.row 1 (enc1 (rO c L[i].toNat (L.drop (i+1)) (c.needAt L[i],lm,List.replicate c.ss.length 0) j).2.2)]) c.ss.length (fun j hj=>by
  have hx:=DY hb hR pk L[i].toNat ei (j:=j) (by omega) (by omega)
  exact aF7 its n hb hL (by omega) hi hj hx.len hx.row (fun y hy=>⟨(hx.lm y hy).1,by have:=(hx.lm y hy).2;omega⟩) hx.l0 (by have:=hx.l1;omega) pm)
 have ah:il c.s=(c.ss.length:Int):=aP _ _
 have ji:=Eq.trans h (aQ (r:=some (.br 2 [.row 1 (enc1 (vH c L i lm).2.1),.row 1 (enc1 (vH c L i lm).2.2)])) (by
  unfold QQ vH;simp_all) (by simp))
 rw [aCd];have qo:inb (i:Int) (enc1 L)=true:=aE hi;have L4:el (enc1 L) (i:Int)=[ci L[i]]:=aK hi;have Af:wr ((i:Int)+1)=((i+1:Nat):Int):=bA (by omega)
 have wz:il (enc1 L)=(L.length:Int):=aP _ _
 have l8:D its (n+7) 163 [.row 8 c.p,.row 3 c.s,.row 6 c.f,ci L[i]]=some [ci (c.needAt L[i])]:=by
  have:=aCa its (n+6) (c:=c) k1;rw [Int.toNat_of_nonneg k0] at this;rw [Fp];exact this
 have d2:((i+1:Nat):Int)<=(L.length:Int):=by omega
 have Fq:List.replicate (Int.toNat (c.ss.length:Int)) [ci 0]=enc1 (List.replicate c.ss.length 0):=by simp
 have bh:bL (Int.toNat (c.ss.length:Int)) 0 8=true:=cU (by omega) (by omega)
 simp only [qo,L4,Af,wz,d2,Int.le_refl,ah,bh,cW,l8,Fq];exact Eq.trans (congrArg (fun z=>bG 2 z k) ji) (by rfl)
end
def lmT (c:Court) (L:List Int):Nat->List Int
 | 0=>c.ss.map Su.worth
 | i+1=>(vH c L i (lmT c L i)).2.1
theorem UA {c:Court} (hb:Bd c) (hw:∀ s∈c.ss,0<=s.worth/\s.worth<=1000000000) {L:List Int} (hL:OnP c L) (tz:L.length<=6) (Al:c.ss.length<=8):∀ i:Nat,i<=L.length->(lmT c L i).length=c.ss.length/\∀ y∈lmT c L i,0<=y/\y<=1000000000+40000000000*(i:Int)
 | 0,_=>by
  grind [lmT]
 | i+1,hi=>by
  obtain ⟨h1,h2⟩:=UA hb hw hL tz Al i (by omega)
  have ah:i<L.length:=by omega
  obtain ⟨k0,k1⟩:=hL _ (List.getElem_mem ah);have fc:=hb.need _ (List.getElem_mem k1);have Fp:c.needAt L[i]=c.ps[L[i].toNat].need:=by simp [Court.needAt,k1]
  have hR:OnP c (L.drop (i+1)):=fun k hk=>hL k (List.mem_of_mem_drop hk)
  have ei:StB c (1000000000+40000000000*(i:Int)) (c.needAt L[i],lmT c L i,List.replicate c.ss.length 0):=⟨by omega,by omega,h1,by simp,h2⟩
  have hx:=DY hb hR (by grind) L[i].toNat ei (j:=c.ss.length) (Nat.le_refl _) (by omega)
  have he:lmT c L (i+1)=(rO c L[i].toNat (L.drop (i+1)) (c.needAt L[i],lmT c L i,List.replicate c.ss.length 0) c.ss.length).2.1:=by grind [lmT,vH]
  rw [he];exact ⟨hx.len,fun y hy=>by have:=hx.lm y hy;omega⟩
section
variable [C:Co Tryz.prog]
theorem aCg {its:ITS} {n:Nat} (bg:∀ G:Ghost,@sV G Tryz.prog _ (jG tb) its) (hg:nY ghT its=none/\its.all (fun e=>decide (e.1<aFv))=true) {c:Court} (hb:Bd c) (hw:∀ s∈c.ss,0<=s.worth/\s.worth<=1000000000) {L:List Int} (hL:OnP c L) (tz:L.length<=6) (Al:c.ss.length<=8)
  (pm:∀ R:List Int,R.length<=40->D its (n+7) 158 [.ref [.row 1 (enc1 R)]]=some [.row 0 (lB R),shC shS]) :
  rB Tryz.prog 172 [cts c.p c.s c.f,.ref [.row 1 (enc1 L)]] shR (fC ((List.range (enc1 L).length).map fun (i:Nat)=>[ci (gi (el (enc1 L) (i:Int)) 0),.row 1 (enc1 (vH c L i (lmT c L i)).2.2)])):=
 ZV (M:=D its (n+7)) (fun [G:Ghost]=>jA bg ⟨kO,hg.1,hg.2⟩ tC (n+7)) (fun [G:Ghost]=>Yls.none fun _=>uK ⟨kO,hg.1⟩ (n+7) _) (VY (bg _) (n+7)) (fun i=>enc1 (lmT c L i)) (fun i=>enc1 (vH c L i (lmT c L i)).2.2) (by grind)
  (aEc its (n+6) hb.sm) fun i hi=>by
   have dd:i<L.length:=by grind
   obtain ⟨h1,h2⟩:=UA hb hw hL tz Al i (by omega)
   exact ZW its n hb hL tz Al dd h1 h2 (by omega) (by omega) pm
end
end
section
open Go Go.Sx
set_option maxRecDepth 100000
noncomputable section
section
variable [G:Ghost] [C:Co Tryz.prog]
variable {it:List CV->Option (List CV)}
theorem QR {f:Nat} (hs:jG tb f=none) (he:dS Tryz.prog f=true) (h:∀ caps out,it caps=some out->∃ cs rows sc,caps=[.ref cs]/\out=[.row 0 rows,shC (.clo sc)]/\rB Tryz.prog f caps (.clo sc) (fC rows)):DJ f it:=by
 intro caps out ho;obtain ⟨cs,rows,sc,rfl,rfl,hi⟩:=h caps out ho;grind [shC,DV]
theorem GX {f:Nat} (hs:jG tb f=none) (he:dS Tryz.prog f=true) (h:∀ caps out,it caps=some out->∃ k T es,caps=[.row k es]/\out=[.row k es,.fn T []]/\sT Tryz.prog f [.cv (.row k es)] T k es):DJ f it:=by
 intro caps out ho;obtain ⟨k,T,es,rfl,rfl,hi⟩:=h caps out ho;refine ⟨fun g hg=>(by grind),fun rows' sh' hr=>by cases sh' <;> simp [shC] at hr,fun k' e T' hr=>?_,fun T k cs1 e e' hd h1 h2=>by grind,fun k T b h1=>by simp,fun T fs h1 h2=>by grind⟩
 grind
end
def aIl (caps out:List CV):Prop:=∃ L:List Int,L.length<=40/\caps=[.ref [.row 1 (enc1 L)]]/\out=[.row 0 (lB L),shC shS]
def aIm (caps out:List CV):Prop:=∃ L:List Int,L.length<=1000000/\caps=[.ref [.row 1 (enc1 L)]]/\out=[.row 0 (pL L),shC QP]
def SCl (k T:Nat) (caps out:List CV):Prop:=∃ l:List (List CV),l.length<1000000/\caps=[.row k l]/\out=[.row k l,.fn T []]
def S95 (caps out:List CV):Prop:=∃ L:List Int,L.length<=12/\caps=[.row 1 (enc1 L),.fn 3 []]/\out=[.row 1 (enc1 (srt L)),.val (.bool false)]
def aIn (caps out:List CV):Prop:=∃ L:List Int,L.length<1000000/\CP L/\caps=[.row 1 (enc1 L),.fn 3 []]/\out=[.row 1 (enc1 L),.val (.bool true)]
variable {L:List Int}
theorem aCh (h:L.length<=40):cIt aIl [.ref [.row 1 (enc1 L)]]=some [.row 0 (lB L),shC shS]:=by
 refine mM ⟨L,h,rfl,rfl⟩ ?_;rintro o ⟨L',_,h2,rfl⟩;grind [iY]
theorem aCi (h:L.length<=1000000):cIt aIm [.ref [.row 1 (enc1 L)]]=some [.row 0 (pL L),shC QP]:=by
 refine mM ⟨L,h,rfl,rfl⟩ ?_;rintro o ⟨L',_,h2,rfl⟩;grind [iY]
theorem NN {k T:Nat} {l:List (List CV)} (h:l.length<1000000):cIt (SCl k T) [.row k l]=some [.row k l,.fn T []]:=by
 refine mM ⟨l,h,rfl,rfl⟩ ?_;rintro o ⟨l',_,h2,rfl⟩;grind
theorem aF8 (h:L.length<=12):cIt S95 [.row 1 (enc1 L),.fn 3 []]=some [.row 1 (enc1 (srt L)),cb false]:=by
 refine mM ⟨L,h,rfl,rfl⟩ ?_;rintro o ⟨L',_,h2,rfl⟩;simp at h2;rw [iY h2];rfl
theorem aCj (h:L.length<1000000) (hd:CP L):cIt aIn [.row 1 (enc1 L),.fn 3 []]=some [.row 1 (enc1 L),cb true]:=by
 refine mM ⟨L,h,hd,rfl,rfl⟩ ?_;rintro o ⟨L',_,_,h2,rfl⟩;simp at h2;rw [iY h2];rfl
def aCk:ITS:=[(158,cIt aIl),(169,cIt aIm),(97,cIt (SCl 1 3)),(180,cIt (SCl 3 67)),(181,cIt (SCl 6 35)),(95,cIt S95),(117,cIt aIn)]
section
variable [C:Co Tryz.prog]
theorem WL (G:Ghost):@sV G Tryz.prog _ (jG tb) aCk:=GQ fun e he=>by
 simp [aCk] at he;rcases he with rfl | rfl | rfl | rfl | rfl | rfl | rfl
 ·exact QR (by rfl) (by rfl) fun caps out ho=>by
   obtain ⟨L,h,rfl,rfl⟩:=eN ho;exact ⟨_,_,_,rfl,rfl,aFW h⟩
 ·exact QR (by rfl) (by rfl) fun caps out ho=>by
   obtain ⟨L,h,rfl,rfl⟩:=eN ho;exact ⟨_,_,_,rfl,rfl,aFX h⟩
 ·exact GX (by rfl) (by rfl) fun caps out ho=>by
   obtain ⟨l,h,rfl,rfl⟩:=eN ho;exact ⟨_,_,_,rfl,rfl,aD1 h⟩
 ·exact GX (by rfl) (by rfl) fun caps out ho=>by
   obtain ⟨l,h,rfl,rfl⟩:=eN ho;exact ⟨_,_,_,rfl,rfl,aBY h⟩
 ·exact GX (by rfl) (by rfl) fun caps out ho=>by
   obtain ⟨l,h,rfl,rfl⟩:=eN ho;exact ⟨_,_,_,rfl,rfl,aBZ h⟩
 ·exact vE (by rfl) (by rfl) fun caps out ho=>by
   obtain ⟨L,h,rfl,rfl⟩:=eN ho;exact ⟨1,3,enc1 L,[],enc1 (srt L),false,rfl,rfl,aIh h⟩
 ·exact vE (by rfl) (by rfl) fun caps out ho=>by
   obtain ⟨L,h,hd,rfl,rfl⟩:=eN ho;exact ⟨1,3,enc1 L,[],enc1 L,true,rfl,rfl,aF4 hd h⟩
end
end
end
section
open Go Go.Sx Go.Plaint
set_option maxRecDepth 10000
section
variable (its:ITS) (n:Nat)
theorem aCl (c:Court) (L:List Int):D its (n+1) eB (c.rs++[.row 1 (enc1 L)])=some [.fn 172 [.ref c.rs,.ref [.row 1 (enc1 L)]]]:=(tN its n _ _ _ _).trans rfl
structure ItsB (its:ITS):Prop where
 i158:∀ (n:Nat) (L:List Int),L.length<=40->D its (n+1) 158 [.ref [.row 1 (enc1 L)]]=some [.row 0 (lB L),shC shS]
 i169:∀ (n:Nat) (L:List Int),L.length<=1000000->D its (n+1) 169 [.ref [.row 1 (enc1 L)]]=some [.row 0 (pL L),shC QP]
 i97:∀ (n:Nat) (l:List (List CV)),l.length<1000000->D its (n+1) 97 [.row 1 l]=some [.row 1 l,.fn 3 []]
 i180:∀ (n:Nat) (l:List (List CV)),l.length<1000000->D its (n+1) 180 [.row 3 l]=some [.row 3 l,.fn 67 []]
 i181:∀ (n:Nat) (l:List (List CV)),l.length<1000000->D its (n+1) 181 [.row 6 l]=some [.row 6 l,.fn 35 []]
 i95:∀ (n:Nat) (L:List Int),L.length<=12->D its (n+1) 95 [.row 1 (enc1 L),.fn 3 []]=some [.row 1 (enc1 (srt L)),cb false]
 i117:∀ (n:Nat) (L:List Int),L.length<1000000->CP L->D its (n+1) 117 [.row 1 (enc1 L),.fn 3 []]=some [.row 1 (enc1 L),cb true]
end
end
end Go.Proofs.YtgpnoeojpmaeiaaGreat
namespace Go.Plaint
open Go Go.Sx
def Court.entered (c:Court) (k:Nat):Int:=match c.ps[k]? with
 | some p=>if p.i6 > p.i5 then p.i6 else p.i5
 | none=>0
end Go.Plaint
namespace Go.Proofs.YtgpnoeojpmaeiaaGreat
section
open Go Go.Sx Go.Plaint
set_option maxRecDepth 10000
section
variable (its:ITS) (n:Nat)
theorem lM {c:Court} {k:Nat} (hk:k<c.ps.length):D its (n+1) 74 (c.rs++[ci (k:Int)])=some [ci (c.entered k)]:=by
 have i1:inb (k:Int) c.p=true:=aE hk;have e1:el c.p (k:Int)=c.ps[k].cv:=aK hk;refine (qC its n _ _ _ _).trans ?_;have h5:oks [li] (List.drop 5 c.ps[k].cv) 0=true:=rfl;have h6:oks [li] (List.drop 6 c.ps[k].cv) 0=true:=rfl;have g5:gi (List.drop 5 c.ps[k].cv) 0=c.ps[k].i5:=rfl;have g6:gi (List.drop 6 c.ps[k].cv) 0=c.ps[k].i6:=rfl;have he:c.entered k=if c.ps[k].i6 > c.ps[k].i5 then c.ps[k].i6 else c.ps[k].i5:=by simp [Court.entered,hk]
 unfold iT;simp_all
theorem KP (a b:Int):D its (n+2) 94 [ci a,ci b]=some [ci (if a<b then -1 else if a > b then 1 else 0)]:=by
 refine (zS its (n+1) _ _).trans ?_;have h1:D its (n+1) 166 [ci a]=some [cb (a != a)]:=aF1 its n a;have h2:D its (n+1) 166 [ci b]=some [cb (b != b)]:=aF1 its n b;unfold pI;simp_all
theorem aJG (M:Den) (a b:Int) (r:List CV):bN sg M (.fn 189 [.ref r]) [ci a,ci b] [.one li,.one li] [.one li]=M 189 [ci a,ci b,.ref r]:=by rfl
theorem aIo {c:Court} {a b:Nat} (ha:a<c.ps.length) (hb:b<c.ps.length):D its (n+3) 189 [ci (a:Int),ci (b:Int),.ref c.rs]=some [ci (if c.entered a<c.entered b then -1 else if c.entered a > c.entered b then 1 else 0)]:=by
 refine (oT its (n+2) _ _ _).trans ?_;have h1:oks [.row 8,.row 3,.row 6] c.rs 0=true:=rfl;have g:∀ k:Int,([CV.row 8 (gr c.rs 0),CV.row 3 (gr c.rs 1),CV.row 6 (gr c.rs 2),ci k]:List CV)=c.rs++[ci k]:=fun _=>rfl
 have ea:=lM its (n+1) ha;have eb:=lM its (n+1) hb;have hc:=KP its n (c.entered a) (c.entered b);unfold iJ;simp_all
end
end
section
open Go Go.Sx Go.Plaint
set_option maxRecDepth 100000
theorem aF9 {a b:Pt} (h:a.cv=b.cv):a=b:=by
 obtain ⟨b0,b1,b2,b3,b4,b5,b6,b7⟩:=b;simp [Pt.cv,ci] at h;obtain ⟨h0,h1,h2,h3,h4,h5,h6,h7⟩:=h;have e2:=iY h2;have e7:=iY h7;subst h0 h1 h3 h4 h5 h6 e2 e7;rfl
theorem aCm {l m:List Pt} (h:l.map Pt.cv=m.map Pt.cv):l=m:=(List.map_inj_right fun _ _ h=>aF9 h).1 h
noncomputable section
def xD (c:Court) (a b:Int):Bool:=decide (c.entered a.toNat<c.entered b.toNat)
def aGa (caps out:List CV):Prop:=∃ (c:Court) (L:List Int),OnP c L/\L.length<1000000/\caps=[.row 1 (enc1 L),.fn 3 [],ci 0,ci L.length,.fn 189 [.ref c.rs]]/\out=[.row 1 (enc1 (insL (xD c) L.length L)),.val (.bool false)]
theorem aCn {c:Court} {L:List Int} (hL:OnP c L) (hl:L.length<1000000):cIt aGa [.row 1 (enc1 L),.fn 3 [],ci 0,ci L.length,.fn 189 [.ref c.rs]]=some [.row 1 (enc1 (insL (xD c) L.length L)),cb false]:=by
 refine mM ⟨c,L,hL,hl,rfl,rfl⟩ ?_;rintro o ⟨c',L',_,_,h2,rfl⟩;simp [Court.rs] at h2;obtain ⟨h3,_,h4,_⟩:=h2;rw [iY h3];have hp:=aCm h4
 have Am:xD c=xD c':=by
  have he:c.entered=c'.entered:=by
   unfold Court.entered;rw [hp]
  unfold xD;rw [he]
 rw [Am];rfl
section
variable [C:Co Tryz.prog]
theorem aIp [Ghost]:DJ 214 (cIt aGa):=vE (by rfl) (by rfl) fun caps out ho=>by
 obtain ⟨c,L,hL,hl,rfl,rfl⟩:=eN ho;refine ⟨1,3,enc1 L,[ci 0,ci L.length,.fn 189 [.ref c.rs]],enc1 (insL (xD c) L.length L),false,rfl,rfl,?_⟩;refine aF5 (its:=aCk) (n:=3) WL ⟨by rfl,by rfl⟩ hl fun a ha b hb=>?_
 obtain ⟨a0,a1⟩:=hL a ha;obtain ⟨b0,b1⟩:=hL b hb;have h:=aIo aCk 0 a1 b1;rw [Int.toNat_of_nonneg a0,Int.toNat_of_nonneg b0] at h;refine ⟨_,(aJG _ _ _ _).trans h,?_⟩;unfold xD;grind
def QS:ITS:=(214,cIt aGa)::aCk
theorem DZ (G:Ghost):@sV G Tryz.prog _ (jG tb) QS:=fun e he=>by
 rcases List.mem_cons.1 he with rfl | he
 ·exact @aIp _ G
 ·exact WL G e he
end
end
end
end Go.Proofs.YtgpnoeojpmaeiaaGreat
namespace Go.Plaint
open Go Go.Sx
def Court.entT (c:Court) (d:Int):Nat->List Int
 | 0=>[]
 | j+1=>c.entT d j++if c.entered j<=d then [(j:Int)] else []
end Go.Plaint
namespace Go.Proofs.YtgpnoeojpmaeiaaGreat
open Go Go.Sx Go.Plaint
set_option maxRecDepth 10000
theorem EA {c:Court} {d:Int}:∀ {j:Nat},j<=c.ps.length->OnP c (c.entT d j)/\(c.entT d j).length<=j
 | 0,_=>⟨fun k hk=>by grind [Court.entT],by simp [Court.entT]⟩
 | j+1,hj=>by
  obtain ⟨h1,h2⟩:=EA (c:=c) (d:=d) (j:=j) (by omega)
  unfold Court.entT;refine ⟨fun k hk=>?_,?_⟩
  ·rcases List.mem_append.1 hk with hk | hk
   ·exact h1 k hk
   grind
  grind
def mN (c:Court) (d:Int):List Int:=insL (xD c) (c.entT d c.ps.length).length (c.entT d c.ps.length)
theorem aEd {its:ITS} (Fr:∀ (n:Nat) (c:Court) (L:List Int),OnP c L->L.length<1000000->D its (n+1) 214 [.row 1 (enc1 L),.fn 3 [],ci 0,ci L.length,.fn 189 [.ref c.rs]]=some [.row 1 (enc1 (insL (xD c) L.length L)),cb false]) (n:Nat) {c:Court} (hc:c.ps.length<=6) (d:Int) :
  D its (n+2) 165 (c.rs++[ci d])=some [.row 1 (enc1 (mN c d))]:=by
 refine (sN its (n+1) _ _ _ _).trans ?_
 have h:=iC (fun j=>[ci (j:Int),.row 1 (enc1 (c.entT d j))]) c.ps.length (step:=fun v0 =>
    aC (decide ((gi v0 0)<(il c.p)))
     (aA (D its (n+1) aG [.row 8 c.p,.row 3 c.s,.row 6 c.f,ci (gi v0 0)]) fun v1 =>
     bD (aC (decide ((gi v1 0)<=d))
         (chk (bL (List.length (gr v0 1)) 1 8) <|
         some (.nx ([CV.row 1 ((gr v0 1)++(aI 1 1 [ci (gi v0 0)]))])))
         (some (.nx [CV.row 1 (gr v0 1)]))) fun v2 =>
     some (.nx [ci (wr ((gi v0 0)+1)),CV.row 1 (gr v2 0)]))
     (some (.br 0 [CV.row 1 (gr v0 1)]))) (fun j hj=>by
  have h1:((j:Int)<(c.ps.length:Int)):=by omega
  have ah:il c.p=(c.ps.length:Int):=aP _ _;have er:wr ((j:Int)+1)=((j+1:Nat):Int):=bA (by omega)
  have he:D its (n+1) aG [.row 8 c.p,.row 3 c.s,.row 6 c.f,ci (j:Int)]=some [ci (c.entered j)]:=lM its n hj;have hl:=(EA (c:=c) (d:=d) (j:=j) (by omega)).2
  have bh:bL (enc1 (c.entT d j)).length 1 8=true:=by rw [List.length_map];exact cU (by omega) (by omega)
  simp [ah,h1,he,er,Court.entT]
  by_cases hd:c.entered j<=d
  ·simp_all
  ·simp [hd])
 have ah:il c.p=(c.ps.length:Int):=aP _ _
 have ji:=Eq.trans h (aQ (r:=some (.br 0 [.row 1 (enc1 (c.entT d c.ps.length))])) (by
  simp_all) (by simp))
 obtain ⟨L5,bt⟩:=EA (c:=c) (d:=d) (j:=c.ps.length) (Nat.le_refl _);have hE:il (enc1 (c.entT d c.ps.length))=((c.entT d c.ps.length).length:Int):=aP _ _;have Fs:D its (n+1) 214 [CV.row 1 (enc1 (c.entT d c.ps.length)),CV.fn 3 [],ci 0,ci ((c.entT d c.ps.length).length:Int),CV.fn 189 [CV.ref [CV.row 8 c.p,CV.row 3 c.s,CV.row 6 c.f]]]=some [.row 1 (enc1 (mN c d)),cb false]:=Fr n c _ L5 (by omega)
 refine Eq.trans (congrArg (fun z=>aJ (bG 0 z _)) ji) ?_
 simp;rw [aQ (r:=some (.br 0 [ci 0,.row 1 (enc1 (c.entT d c.ps.length))])) (by grind [BR,cW,fO,cY]) (by simp)]
 simp [Fs];rw [aQ (r:=some (.br 2 [.row 1 (enc1 (mN c d))])) (by grind [cW,fO,cY]) (by simp)]
 rfl
end Go.Proofs.YtgpnoeojpmaeiaaGreat
namespace Go.Plaint
open Go Go.Sx
def Court.worths (c:Court):List Int:=c.ss.map Su.worth
end Go.Plaint
namespace Go.Proofs.YtgpnoeojpmaeiaaGreat
open Go Go.Sx Go.Plaint
set_option maxRecDepth 10000
def GY (c:Court) (S:List Int):Bool:=decide (jW (eA c S) > c.back S c.worths)
section
variable (its:ITS) (n:Nat)
theorem w_all {c:Court} (hc:c.Sm):D its (n+2) 81 c.rs=some [.row 1 (enc1 c.worths)]:=by
 refine (vD its (n+1) _ _ _).trans ?_
 have h:=iC (fun j=>[ci (j:Int),.row 1 (enc1 (c.worths.take j))]) c.ss.length (step:=fun v0 =>
     aC (decide ((gi v0 0)<(il c.s)))
      (aA (D its (n+1) cP [.row 8 c.p,.row 3 c.s,.row 6 c.f,ci (gi v0 0)]) fun v1 =>
      chk (bL (List.length (gr v0 1)) 1 8) <|
      some (.nx ([ci (wr ((gi v0 0)+1)),CV.row 1 ((gr v0 1)++(aI 1 1 [ci (gi v1 0)]))])))
      (some (.br 0 [CV.row 1 (gr v0 1)]))) (fun j hj=>by
  have h1:((j:Int)<(c.ss.length:Int)):=by omega
  have ah:il c.s=(c.ss.length:Int):=aP _ _;have hs:=hc.s;have er:wr ((j:Int)+1)=((j+1:Nat):Int):=bA (by omega)
  have hm:D its (n+1) cP [.row 8 c.p,.row 3 c.s,.row 6 c.f,ci (j:Int)]=some [ci c.ss[j].worth]:=WG its n hj;have xf:(enc1 (c.worths.take j)).length=j:=by simp [Court.worths];omega
  have bh:bL (enc1 (c.worths.take j)).length 1 8=true:=by rw [xf];exact cU (by omega) (by omega)
  have ky:enc1 (c.worths.take j)++aI 1 1 [ci c.ss[j].worth]=enc1 (c.worths.take (j+1)):=by
   rw [List.take_succ_eq_append_getElem (show j<c.worths.length by simpa [Court.worths] using hj)]
   simp [aI,Court.worths]
  simp only [BR,cW,fO,cY,ah,h1,decide_true,iP,hm,aD,bh,bR,er,ky])
 have ah:il c.s=(c.ss.length:Int):=aP _ _
 have h2:=Eq.trans h (aQ (r:=some (.br 0 [.row 1 (enc1 c.worths)])) (by
   have h0:¬((c.ss.length:Int)<(c.ss.length:Int)):=by omega
   have ht:c.worths.take c.ss.length=c.worths:=by rw [List.take_of_length_le];simp [Court.worths]
   rw [ht];simp only [BR,cW,fO,cY,ah,h0,decide_false,dU]) (by simp))
 unfold mC;rw [show ([ci 0,CV.row 1 []]:List CV)=[ci ((0:Nat):Int),.row 1 (enc1 (c.worths.take 0))] from rfl];refine Eq.trans (congrArg (fun z=>aJ (bG 0 z _)) h2) ?_
 simp only [jC,cY,dP]
theorem ZX {c:Court} (hb:Bd c) (hw:∀ s∈c.ss,0<=s.worth/\s.worth<=1000000000) {S:List Int} (hS:OnP c S) (qc:S.length<=1000):D its (n+8) 106 (c.rs++[.row 1 (enc1 S)])=some [cb (GY c S)]:=by
 refine (qD its (n+7) _ _ _ _).trans ?_;have h1:D its (n+7) 82 [.row 8 c.p,.row 3 c.s,.row 6 c.f,CV.row 1 (enc1 S)]=some [ci (jW (eA c S))]:=NK its (n+5) hS qc hb.need;have h2:D its (n+7) 81 [.row 8 c.p,.row 3 c.s,.row 6 c.f]=some [.row 1 (enc1 c.worths)]:=w_all its (n+5) hb.sm
 have h3:D its (n+7) 80 [.row 8 c.p,.row 3 c.s,.row 6 c.f,CV.row 1 (enc1 S),CV.row 1 (enc1 c.worths)]=some [ci (c.back S c.worths)]:=BU its n hb.sm hS (by omega) (by simp [Court.worths]) fun x hx=>by
  simp only [Court.worths,List.mem_map] at hx;obtain ⟨s,hs,rfl⟩:=hx;have:=hw s hs;omega
 unfold iU;simp only [h1,h2,h3,aD,cY,cW,dP];rfl
end
theorem GZ {A:Type} {step:List CV->List CV->Option Ou} {f:A->List CV} {P:A->Bool} {v:List CV}:∀ (l:List A),(∀ a∈l,step (f a) v=if P a=true then some (.ret [cb false]) else some (.nx v))->kE step (l.map f) v=if l.any P=true then some (.ret [cb false]) else some (.nx v)
 | [],_=>by rfl
 | a::l,h=>by
  have ih:=GZ l fun b hb=>h b (by grind)
  grind [kE]
def KQ (c:Court) (S:List Int):Bool:=!(parts S).any (GY c)
theorem QT {its:ITS} (hi:ItsB its) (n:Nat) {c:Court} (hb:Bd c) (hw:∀ s∈c.ss,0<=s.worth/\s.worth<=1000000000) {S:List Int} (hS:OnP c S) (qc:S.length<=40):D its (n+9) 99 (c.rs++[.row 1 (enc1 S)])=some [cb (KQ c S)]:=by
 refine (rG its (n+8) _ _ _ _).trans ?_;have h1:D its (n+8) 79 [.row 1 (enc1 S)]=some [.fn 158 [.ref [.row 1 (enc1 S)]]]:=TZ its (n+7) S;have h2:=itV (M:=D its (n+8)) (hi.i158 (n+7) S qc)
 have h3:=GZ (f:=fun X=>[CV.row 1 (enc1 X)]) (P:=GY c) (v:=[cb false]) (step:=fun x1 v1 =>
     aA (D its (n+8) cX [.row 8 c.p,.row 3 c.s,.row 6 c.f,CV.row 1 (gr x1 0)]) fun v2 =>
     aC (gb v2 0)
      (some (.ret [cb false]))
      (some (.nx [cb (gb v1 0)]))) (parts S) (fun X hX=>by
  obtain ⟨m1,m2⟩:=rM hX;have hs:D its (n+8) cX [.row 8 c.p,.row 3 c.s,.row 6 c.f,CV.row 1 (enc1 X)]=some [cb (GY c X)]:=ZX its n hb hw (fun k hk=>hS k (m1 k hk)) (by omega)
  simp [hs];rfl)
 rw [<- GS] at h3;have rz:List.getD [CV.fn 158 [.ref [.row 1 (enc1 S)]]] 0 dC=CV.fn 158 [.ref [.row 1 (enc1 S)]]:=rfl;unfold jP;simp only [h1,aD,rz];rw [h2];unfold fN KQ;refine Eq.trans (congrArg (fun z=>aJ (bD (brO z) fun v1=>some (.ret [cb true]))) h3) ?_
 cases (parts S).any (GY c) <;> rfl
end Go.Proofs.YtgpnoeojpmaeiaaGreat
namespace Go.Sx
open Go
@[simp high] theorem aFc (b c:Bool):aC b (some (.nx [cb true])) (some (.nx [cb c]))=some (.nx [cb (b || c)]):=by simp
@[simp high] theorem aCo (b c:Bool):aC b (some (.nx [cb c])) (some (.nx [cb false]))=some (.nx [cb (b&&c)]):=by simp
@[simp high] theorem aIK (b c:Bool):aC b (some (.ret [cb c])) (some (.ret [cb false]))=some (.ret [cb (b&&c)]):=by simp
theorem wD {step:List CV->Option Ou} (n:Nat) (T:Nat->List CV) (ok:Nat->Bool) (X Y:Option Ou) {vs:List CV} (hv:vs=T 0) (hs:∀ i,i<n->step (T i)=if ok i=true then some (.nx (T (i+1))) else Y) (he:step (T n)=X) (hX:∀ l,X≠some (.nx l)) (hY:∀ l,Y≠some (.nx l)) :
  aH step vs=if (List.range n).all ok=true then X else Y:=by
 have key:∀ m i,i+m=n->aH step (T i)=if (List.range' i m).all ok=true then X else Y:=by
  intro m
  induction m with
  | zero =>
   simp_all [aQ]
  | succ m ih =>
   intro i h;have h1:=hs i (by omega)
   rw [List.range'_succ,List.all_cons]
   by_cases hp:ok i=true
   ·grind [gI]
   simp_all [aQ]
 simp_all
end Go.Sx
namespace Go.Plaint
open Go Go.Sx
def inB (a lo hi:Int):Bool:=decide (lo<=a)&&decide (a<=hi)
def zY (L:List Int) (g:Int):Bool:=(List.range L.length).all fun i=>inB (L.getD i 0) 1 g&&(decide (i=0) || decide (L.getD (i - 1) 0<L.getD i 0))
def vI (lo hi:Int):Bool:=decide (0<=lo)&&(decide (lo<=hi)&&decide (hi<=1000000))
def wS (p:Pt):Bool:=inB p.i0 1 999&&inB p.i1 1 99&&(zY p.bs 9999&&inB p.bs.length 1 12)&&vI p.i3 p.need&&inB p.i5 0 100000&&inB p.i6 0 100000&&(zY p.ss 999&&inB p.ss.length 1 8)
def IG (s:Su):Bool:=inB s.id 1 999&&vI s.worth s.z
def II (f:Fi):Bool:=inB f.i0 1 99999&&inB f.i1 1 999&&inB f.i2 0 100000&&inB f.i3 0 100000&&inB f.i4 0 1000000&&inB f.i5 0 f.i4
end Go.Plaint
namespace Go.Proofs.YtgpnoeojpmaeiaaGreat
open Go Go.Sx Go.Plaint
set_option maxRecDepth 10000
theorem kP {L:List Int} {i:Nat} (h:i<L.length):el (enc1 L) (i:Int)=[ci (L.getD i 0)]:=by
 have:=aK (f:=fun a:Int=>[ci a]) h
 grind
section
variable (its:ITS) (n:Nat)
theorem oJ (a lo hi:Int):D its (n+1) 141 [ci a,ci lo,ci hi]=some [cb (inB a lo hi)]:=by
 refine (DH its n _ _ _).trans ?_;simp [tB,inB]
theorem HA (a:Int):D its (n+2) 138 [ci a]=some [cb (inB a 1 999)]:=by
 refine (DC its (n+1) _).trans ?_;simp [sY,oJ]
theorem NO (a:Int):D its (n+2) 143 [ci a]=some [cb (inB a 0 100000)]:=by
 refine (GH its (n+1) _).trans ?_;simp [uY,oJ]
theorem KR (lo hi:Int):D its (n+1) 139 [ci lo,ci hi]=some [cb (vI lo hi)]:=by
 refine (BN its n _ _).trans ?_;simp [rH,vI]
theorem CQ {L:List Int} (hL:L.length<1000000000000000) (m g:Int):D its (n+2) 142 [.row 1 (enc1 L),ci m,ci g]=some [cb (zY L g&&inB L.length 1 m)]:=by
 refine (yB its (n+1) _ _ _).trans ?_;unfold oG;rw [wD L.length (fun i=>[ci (i:Int)]) (fun i=>inB (L.getD i 0) 1 g&&(decide (i=0) || decide (L.getD (i - 1) 0<L.getD i 0))) (some (.br 0 [])) (some (.ret [cb false])) ?hv (fun i hi=>?hs) ?he (by simp) (by simp)]
 case hv=>rfl
 case he=>simp
 case hs =>
  have i1:inb (i:Int) (enc1 L)=true:=aE hi;have e1:=kP hi;have hw:=bA (show i<9223372036854775807 by omega)
  by_cases h0:i=0
  ·have g0:¬(0<i):=by omega
   simp [i1,e1,oJ,g0];grind
  ·have hp:=NI (x:=i) (by omega) (by omega)
   have i2:inb ((i - 1:Nat):Int) (enc1 L)=true:=aE (by omega)
   have e2:=kP (L:=L) (i:=i - 1) (by omega)
   simp [i1,e1,oJ,hp,i2,e2];grind
 have ah:il (enc1 L)=(L.length:Int):=aP _ _;unfold zY;cases (List.range L.length).all fun i=>inB (L.getD i 0) 1 g&&(decide (i=0) || decide (L.getD (i - 1) 0<L.getD i 0)) <;> simp [oJ,ah]
theorem IJ {p:Pt} (hb:p.bs.length<1000000000000000) (hs:p.ss.length<1000000000000000):D its (n+3) 61 p.cv=some [ci (if wS p=true then 0 else 70)]:=by
 refine (uW its (n+2) _ _ _ _ _ _ _ _).trans ?_;simp [lY,HA,oJ,CQ its n hb,CQ its n hs,KR,NO,wS];grind
theorem IK (s:Su):D its (n+3) 59 s.cv=some [ci (if IG s=true then 0 else 71)]:=by
 refine (vA its (n+2) _ _ _).trans ?_;simp [lZ,HA,KR,IG];grind
theorem HC (f:Fi):D its (n+3) 63 f.cv=some [ci (if II f=true then 0 else 72)]:=by
 refine (tG its (n+2) _ _ _ _ _ _).trans ?_;simp [kX,HA,NO,oJ,II];grind
end
end Go.Proofs.YtgpnoeojpmaeiaaGreat
