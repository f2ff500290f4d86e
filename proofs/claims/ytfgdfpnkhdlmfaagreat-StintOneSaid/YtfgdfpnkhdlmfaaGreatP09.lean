/-
 The laws of the stints of a common hold at every input, without any condition.
-/
import Derived.KernelRfl
import Derived.Test.YtfgdfpnkhdlmfaaGreatProg
import Derived.Test.YtfgdfpnkhdlmfaaGreatP08
set_option linter.unusedVariables false
set_option linter.unusedSimpArgs false
namespace Go.Sx
instance ghost0:Ghost:=⟨fun _ _=>True,0,default,false⟩
def upto (a b:Int):List Int:=(List.range (b+1 - a).toNat).map fun i=>a+(i:Nat)
theorem upto_length (a b:Int):(upto a b).length=(b+1 - a).toNat:=by simp [upto]
theorem LO {a b x:Int}:x∈upto a b↔a<=x/\x<=b:=by
 simp only [upto,List.mem_map,List.mem_range];constructor
 ·rintro ⟨i,hi,rfl⟩;omega
 ·rintro ⟨h1,h2⟩;exact ⟨(x - a).toNat,by omega,by omega⟩
end Go.Sx
namespace Go.Sx
open Go
@[simp] theorem aEM (n:Int):cI (ci n)=n:=rfl
@[simp] theorem aEN (b:Bool):cB (cb b)=b:=rfl
@[simp] theorem aLS (k:Nat) (es:List (List CV)):cR (.row k es)=es:=rfl
@[simp] theorem aQ (n:Int) (l:List CV):gi (ci n::l) 0=n:=rfl
@[simp] theorem eL (c:CV) (l:List CV) (n:Nat):gi (c::l) (n+1)=gi l n:=rfl
@[simp] theorem fK (b:Bool) (l:List CV):gb (cb b::l) 0=b:=rfl
@[simp] theorem aJ0 (c:CV) (l:List CV) (n:Nat):gb (c::l) (n+1)=gb l n:=rfl
@[simp] theorem bW (k:Nat) (es:List (List CV)) (l:List CV):gr (.row k es::l) 0=es:=rfl
@[simp] theorem dZ (c:CV) (l:List CV) (n:Nat):gr (c::l) (n+1)=gr l n:=rfl
@[simp] theorem aNb (v:List CV) (i:Nat):cis v i 0=[]:=rfl
@[simp] theorem aNc (v:List CV) (i n:Nat):cis v i (n+1)=ci (gi v i)::cis v (i+1) n:=rfl
@[simp] theorem aNd:cat []=[]:=rfl
@[simp] theorem QM (x:List CV):cat [x]=x:=rfl
@[simp] theorem QN (x y:List CV) (l:List (List CV)):cat (x::y::l)=x++cat (y::l):=rfl
@[simp] theorem rU (b:Bool) (x y:Option Ou):aA b x y=if b=true then x else y:=by cases b <;> rfl
@[simp] theorem aJ (x:Option Ou):chk true x=x:=rfl
@[simp] theorem aC (vs:List CV) (K:List CV->Option Ou):aB (some vs) K=K vs:=rfl
@[simp] theorem WR (vs:List CV) (K:List CV->Option Ou):gQ (some (.ret vs)) K=K vs:=rfl
@[simp] theorem bC (vs:List CV) (K:List CV->Option Ou):aN (some (.nx vs)) K=K vs:=rfl
@[simp] theorem aJ1 (vs:List CV) (K:List CV->Option Ou):aN (some (.ret vs)) K=some (.ret vs):=rfl
@[simp] theorem aLG (i:Nat) (vs:List CV) (K:List CV->Option Ou):aN (some (.br i vs)) K=some (.br i vs):=rfl
@[simp] theorem aLH (i:Nat) (vs:List CV) (K:List CV->Option Ou):cD i (some (.nx vs)) K=some (.nx vs):=rfl
@[simp] theorem aJ2 (i:Nat) (vs:List CV) (K:List CV->Option Ou):cD i (some (.ret vs)) K=some (.ret vs):=rfl
@[simp] theorem cP (i:Nat) (vs:List CV) (K:List CV->Option Ou):cD i (some (.br i vs)) K=K vs:=by simp [cD]
@[simp] theorem iY (vs:List CV):aV (some (.ret vs))=some vs:=rfl
@[simp] theorem rV (a b:Int):(a == b)=decide (a=b):=rfl
@[simp] theorem mN (a b:Int):(a != b)=!decide (a=b):=rfl
section
variable (c:Prop) [Decidable c]
@[simp] theorem aLT (xs ys:List CV):(if c then some (Ou.nx xs) else some (Ou.nx ys))=some (Ou.nx (if c then xs else ys)):=by split <;> rfl
@[simp] theorem aLI (xs ys:List CV):(if c then some (Ou.ret xs) else some (Ou.ret ys))=some (Ou.ret (if c then xs else ys)):=by split <;> rfl
@[simp] theorem aJJ (a b:CV) (az bs:List CV):(if c then a::az else b::bs)=(if c then a else b)::(if c then az else bs):=by split <;> rfl
@[simp] theorem aLU (a b:Int):(if c then ci a else ci b)=ci (if c then a else b):=by split <;> rfl
@[simp] theorem aLV (a b:Bool):(if c then cb a else cb b)=cb (if c then a else b):=by split <;> rfl
@[simp] theorem aLJ (k:Nat) (a b:List (List CV)):(if c then CV.row k a else CV.row k b)=CV.row k (if c then a else b):=by split <;> rfl
end
variable {A:Type}
@[simp] theorem cQ {B:Type} (f:A->B) (l:List A):il (l.map f)=l.length:=by simp [il]
theorem TM (l:List A):il l=l.length:=rfl
variable {i:Nat}
theorem aG {A:Type} {f:A->List CV} {l:List A} (h:i<l.length):inb (i:Int) (l.map f)=true:=by simp [inb,h]
theorem aM {A:Type} {f:A->List CV} {l:List A} (h:i<l.length):el (l.map f) (i:Int)=f l[i]:=by simp [el,h]
theorem bJ {x:Int} (h:-9223372036854775808<=x) (h':x<9223372036854775808):wr x=x:=by
 grind [wr,IntKind.wrap_i64]
theorem bG {x:Nat} (h:x<9223372036854775807):wr ((x:Int)+1)=((x+1:Nat):Int):=by grind [bJ]
theorem aHn {x:Nat} (h0:0<x) (h:x<9223372036854775807):wr ((x:Int) - 1)=((x - 1:Nat):Int):=by grind [bJ]
theorem dE {n k by_:Nat} (h:(n+k)*by_<=140737488355328) (h':n+k<=9223372036854775807):cJ n k by_=true:=by
 have e:maxLen=9223372036854775807:=by decide
 grind [cJ]
@[simp] theorem aLK (k:Nat) (l:List CV):aS k 0 l=[]:=rfl
@[simp] theorem aLL (k n:Nat) (l:List CV):aS k (n+1) l=l.take k::aS k n (l.drop k):=rfl
@[simp] theorem aIm (cs:List CV) (o:Nat):oks [] cs o=true:=rfl
@[simp] theorem aIn (n:Int):Lf.ok li (ci n)=true:=rfl
@[simp] theorem aNe (b:Bool):Lf.ok lb (cb b)=true:=rfl
@[simp] theorem aEO (ls:List Lf) (c:CV) (cs:List CV) (o:Nat):oks ls (c::cs) (o+1)=oks ls cs o:=by
  induction ls generalizing o with
  | nil=>rfl
  | cons l ls ih=>simp only [oks,List.getElem?_cons_succ,ih]
@[simp] theorem QO (l:Lf) (ls:List Lf) (c:CV) (cs:List CV):oks (l::ls) (c::cs) 0=(l.ok c&&oks ls cs 0):=by
  simp only [oks,List.getElem?_cons_zero,aEO ls c cs 0]
variable {step:List CV->Option Ou} {vs vs':List CV}
theorem eB (h:step vs=some (.nx vs')):aL step vs=aL step vs':=by rw [CR,h]
theorem bH {r:Option Ou} (h:step vs=r) (hr:∀ l,r≠some (.nx l)):aL step vs=r:=by
 grind [CR]
theorem JE {step:List CV->Option Ou} (T:Nat->List CV):∀ (n:Nat),(∀ i,i<n->step (T i)=some (.nx (T (i+1))))->aL step (T 0)=aL step (T n)
 | 0,_=>rfl
 | n+1,h=>by rw [JE T n fun i hi=>h i (by omega)];exact eB (h n (by omega))
theorem aAo {S:Type} (l:List A) (E:Nat->S->List CV) (f:S->A->S) (P:S->Prop) (b:Nat) (G:S->List CV) (s:S) (hv:vs=E 0 s) (h0:P s)
  (hs:∀ i (h:i<l.length) s,P s->step (E i s)=some (.nx (E (i+1) (f s l[i])))/\P (f s l[i])) (he:∀ s,step (E l.length s)=some (.br b (G s))) :
  aL step vs=some (.br b (G (l.foldl f s)))/\P (l.foldl f s):=by
 subst hv
 have key:∀ n,n<=l.length->aL step (E 0 s)=aL step (E n ((l.take n).foldl f s))/\P ((l.take n).foldl f s):=by
  intro n
  induction n with
  | zero=>grind
  | succ n ih =>
   intro hn;obtain ⟨h1,h2⟩:=ih (by omega)
   obtain ⟨h3,h4⟩:=hs n (by omega) _ h2
   have e:(l.take (n+1)).foldl f s=f ((l.take n).foldl f s) l[n]:=by
    grind [List.take_append_getElem]
   rw [e];exact ⟨h1.trans (eB h3),h4⟩
 obtain ⟨h1,h2⟩:=key l.length (Nat.le_refl _);rw [List.take_length] at h1 h2;exact ⟨h1.trans (bH (he _) (by simp)),h2⟩
theorem aAp {S:Type} (l:List A) (E:Nat->S->List CV) (f:S->A->S) (b:Nat) (G:S->List CV) (s:S) (hv:vs=E 0 s)
  (hs:∀ i (h:i<l.length) s,step (E i s)=some (.nx (E (i+1) (f s l[i])))) (he:∀ s,step (E l.length s)=some (.br b (G s))) :
  aL step vs=some (.br b (G (l.foldl f s))):=
 (aAo l E f (fun _=>True) b G s hv trivial (fun i h s _=>⟨hs i h s,trivial⟩) he).1
theorem qB (n:Nat) (T:Nat->List CV) (p:Nat->Bool) (R:Nat->Option Ou) (X:Option Ou) (hv:vs=T 0) (hR:∀ i,i<n->p i=true->∀ l,R i≠some (.nx l)) (hX:∀ l,X≠some (.nx l))
  (h1:∀ i,i<n->p i=false->step (T i)=some (.nx (T (i+1)))) (h2:∀ i,i<n->p i=true->step (T i)=R i) (h3:step (T n)=X) :
  aL step vs=match (List.range n).find? p with
   | some i=>R i
   | none=>X:=by
 subst hv;cases hf:(List.range n).find? p with
 | none =>
  rw [JE T n fun i hi=>h1 i hi (by grind)]
  exact bH h3 hX
 | some i =>
  rw [List.find?_range_eq_some] at hf;obtain ⟨hp,hi,hq⟩:=hf;have gw:i<n:=by grind
  rw [JE T i fun j hj=>h1 j (by omega) (by grind)]
  exact bH (h2 i gw hp) (hR i gw hp)
theorem qS {A:Type} {step:List CV->Option Ou} (p:A->Bool) (R:A->Option Ou) (X:Option Ou):∀ (m:List A) (T:Nat->List CV) {vs:List CV},vs=T 0->(∀ x l,p x=true->R x≠some (.nx l))->(∀ l,X≠some (.nx l)) ->
  (∀ i (h:i<m.length),p m[i]=false->step (T i)=some (.nx (T (i+1))))->(∀ i (h:i<m.length),p m[i]=true->step (T i)=R m[i])->step (T m.length)=X ->
  aL step vs=match m.find? p with
   | some x=>R x
   | none=>X
 | [],T,vs,hv,hR,hX,h1,h2,h3=>by subst hv;exact bH h3 hX
 | a::m,T,vs,hv,hR,hX,h1,h2,h3=>by
  subst hv;cases hp:p a with
  | true=>rw [List.find?_cons_of_pos hp];exact bH (h2 0 (by simp) hp) fun l=>hR a l hp
  | false =>
   rw [List.find?_cons_of_neg (by grind),eB (h1 0 (by simp) hp)]
   exact qS p R X m (fun i=>T (i+1)) rfl hR hX (fun i h hq=>h1 (i+1) (by grind) hq) (fun i h hq=>h2 (i+1) (by grind) hq) h3
theorem LP {A:Type} (k:Nat) (cv:A->List CV) (keep:A->Bool) (l:List A) {step:List CV->Option Ou} (b:Nat)
  (h1:∀ (i j:Nat) (az:List A) (hj:j<az.length),i<j->az.length=l.length->az[j]∈l->step [ci i,ci j,.row k (az.map cv)]=some (.nx (if keep az[j]=true then [ci (i+1:Nat),ci (j+1:Nat),.row k ((az.set i az[j]).map cv)] else [ci i,ci (j+1:Nat),.row k (az.map cv)])))
  (h2:∀ (i:Nat) (az:List A),az.length=l.length->step [ci i,ci az.length,.row k (az.map cv)]=some (.br b [ci i,.row k (az.map cv)])) :
  ∀ (m i j:Nat) (az:List A),j+m=l.length->i<j->az.length=l.length->az.take i=(l.take j).filter keep->az.drop j=l.drop j ->
  ∃ (az':List A) (i':Nat),aL step [ci i,ci j,.row k (az.map cv)]=some (.br b [ci i',.row k (az'.map cv)])/\az'.length=l.length/\az'.take i'=l.filter keep/\i'<=l.length
 | 0,i,j,az,hm,gp,hl,ht,hd=>by
  have hj:j=az.length:=by omega
  refine ⟨az,i,?_,hl,?_,by omega⟩
  ·rw [hj];exact bH (h2 i az hl) (by simp)
  grind
 | m+1,i,j,az,hm,gp,hl,ht,hd=>by
  have hj:j<az.length:=by omega
  have bu:j<l.length:=by omega
  have he:az[j]=l[j]:=by
   have h3:=congrArg (fun x=>x[0]?) hd
   grind
  have ta:az.drop (j+1)=l.drop (j+1):=by
   have h3:=congrArg (List.drop 1) hd;grind [List.drop_drop,Nat.add_comm]
  have Jn:l.take (j+1)=l.take j++[l[j]]:=(List.take_append_getElem bu).symm;rw [eB (h1 i j az hj gp hl (he▸List.getElem_mem bu))];cases hk:keep az[j] with
  | true =>
   refine LP k cv keep l b h1 h2 m (i+1) (j+1) _ (by omega) (by omega) (by grind) ?_ ?_
   ·have hi:i<(az.set i az[j]).length:=by grind
    rw [Jn,List.filter_append,<- ht,<- he,<- List.take_append_getElem hi,List.take_set_of_le (Nat.le_refl _)];grind
   grind [List.drop_set_of_lt]
  | false =>
   refine LP k cv keep l b h1 h2 m i (j+1) _ (by omega) (by omega) hl ?_ ta
   grind
theorem WS {A:Type} {step:List CV->Option Ou} (p:A->Bool):∀ (m:List A) (R:Nat->Option Ou) (X:Option Ou) (T:Nat->List CV) {vs:List CV},vs=T 0->(∀ i l,R i≠some (.nx l))->(∀ l,X≠some (.nx l)) ->
  (∀ i (h:i<m.length),p m[i]=false->step (T i)=some (.nx (T (i+1))))->(∀ i (h:i<m.length),p m[i]=true->step (T i)=R i)->step (T m.length)=X ->
  aL step vs=match m.findIdx? p with
   | some i=>R i
   | none=>X
 | [],R,X,T,vs,hv,hR,hX,h1,h2,h3=>by subst hv;exact bH h3 hX
 | a::m,R,X,T,vs,hv,hR,hX,h1,h2,h3=>by
  subst hv;rw [List.findIdx?_cons];cases hp:p a with
  | true=>exact bH (h2 0 (by simp) hp) fun l=>hR 0 l
  | false =>
   rw [eB (h1 0 (by simp) hp),WS p m (fun i=>R (i+1)) X (fun i=>T (i+1)) rfl (fun i l=>hR (i+1) l) hX (fun i h hq=>h1 (i+1) (by grind) hq) (fun i h hq=>h2 (i+1) (by grind) hq) h3]
   grind
noncomputable def JF (call:List CV->Option (List CV)) (k:Nat):List CV->Option Ou:=fun v2 =>
      aA (decide ((gi v2 1)<(il (gr v2 2))))
       (chk (inb (gi v2 1) (gr v2 2)) <|
       chk (decide ((Int.toNat (gi v2 1))<(List.length (gr v2 2)))) <|
       chk (oks (List.replicate k li) (el (gr v2 2) (gi v2 1)) 0) <|
       aB (call (cis (el (gr v2 2) (gi v2 1)) 0 k)) fun v3 =>
       aN (aA (!(gb v3 0))
           (chk (inb (gi v2 0) (gr v2 2)) <|
           chk ((decide ((Int.toNat (gi v2 0))<(List.length (gr v2 2))))&&(decide (k<=k))) <|
           some (.nx [ci (wr ((gi v2 0)+1)),CV.row k (List.set (gr v2 2) (Int.toNat (gi v2 0)) (spl (el (gr v2 2) (gi v2 0)) 0 (cis (el (gr v2 2) (gi v2 1)) 0 k)))]))
           (some (.nx [ci (gi v2 0),CV.row k (gr v2 2)]))) fun v4 =>
       some (.nx [ci (gi v4 0),ci (wr ((gi v2 1)+1)),CV.row k (gr v4 1)]))
       (some (.br 0 [ci (gi v2 0),CV.row k (gr v2 2)]))
noncomputable def aJ3 (ix:Option (List CV)) (call:List CV->Option (List CV)) (k:Nat) (z:List CV) (es:List (List CV)):Option Ou:=
 aB ix fun v1 =>
   aA ((gi v1 0) == (-1))
    (some (.ret [CV.row k es]))
    (cD 0 (aL (JF call k) [ci (gi v1 0),ci (wr ((gi v1 0)+1)),CV.row k es]) fun v2 =>
    chk ((decide (0<=(gi v2 0)))&&(decide ((gi v2 0)<=(il (gr v2 1))))) <|
    chk ((decide (0<=(gi v2 0)))&&(decide ((gi v2 0)<=(il ((List.take (Int.toNat (gi v2 0)) (gr v2 1))++(List.replicate ((List.length (gr v2 1)) - (Int.toNat (gi v2 0))) z)))))) <|
    some (.ret ([CV.row k (List.take (Int.toNat (gi v2 0)) ((List.take (Int.toNat (gi v2 0)) (gr v2 1))++(List.replicate ((List.length (gr v2 1)) - (Int.toNat (gi v2 0))) z)))])))
def aAq (o:Option Nat):Int:=match o with
 | some i=>i
 | none=>-1
theorem aHo (k:Nat) (cv:A->List CV) (z:List CV) (hk:∀ a,(cv a).length=k) (um:∀ a,oks (List.replicate k li) (cv a) 0=true) (rx:∀ a,cis (cv a) 0 k=cv a) (del:A->Bool) (l:List A) (hl:l.length<9223372036854775807)
  {ix:Option (List CV)} {call:List CV->Option (List CV)} (hix:ix=some [ci (aAq (l.findIdx? del))]) (hc:∀ a∈l,call (cv a)=some [cb (del a)]) :
  aJ3 ix call k z (l.map cv)=some (.ret [.row k ((l.filter fun a=>!del a).map cv)]):=by
 subst hix;simp [aJ3];cases hf:l.findIdx? del with
 | none =>
  have:l.filter (fun a=>!del a)=l:=List.filter_eq_self.2 fun a ha=>by grind
  grind [aAq]
 | some i0 =>
  obtain ⟨hi,hd,hb⟩:=List.findIdx?_eq_some_iff_getElem.1 hf;have hw:=bG (show i0<9223372036854775807 by omega)
  simp only [aAq,hw]
  have At:l.take i0=(l.take (i0+1)).filter fun a=>!del a:=by
   rw [<- List.take_append_getElem hi,List.filter_append]
   have h1:(l.take i0).filter (fun a=>!del a)=l.take i0:=List.filter_eq_self.2 fun a ha=>by
    obtain ⟨j,hj,rfl⟩:=List.mem_iff_getElem.1 ha;grind
   grind
  obtain ⟨az,i',h1,h2,h3,h4⟩:=LP (step:=JF call k) k cv (fun a=>!del a) l 0 (fun i j az hj gp ij hm=>by
    have hi:i<az.length:=by omega
    have Nb:=bG (show i<9223372036854775807 by omega)
    have Nc:=bG (show j<9223372036854775807 by omega)
    have lx:spl (cv az[i]) 0 (cv az[j])=cv az[j]:=by simp [spl,hk]
    have dc:=aG (f:=cv) hj;have Hh:=aG (f:=cv) hi;have oy:=aM (f:=cv) hj;have Hi:=aM (f:=cv) hi;simp [JF,dc,Hh,oy,Hi,um,rx,hc _ hm,hj,hi,Nb,Nc,lx];grind) (fun i az ij=>by
    simp [JF]) (l.length - (i0+1)) i0 (i0+1) l (by omega) (by omega) rfl At rfl
  simp only [h1,cP,aQ,bW,dZ,cQ,Int.toNat_natCast];have e1:(i':Int)<=az.length:=by omega
  have e2:((List.take i' (az.map cv))++List.replicate ((az.map cv).length - i') z).length=az.length:=by grind
  simp only [il,e2,Int.natCast_nonneg,e1,decide_true,Bool.and_self,aJ,Int.ofNat_eq_natCast];grind [Nat.min_self,List.map_take]
theorem bZ (n:Nat) (T:Nat->List CV) (r:Option Ou) (hv:vs=T 0) (hs:∀ i,i<n->step (T i)=some (.nx (T (i+1)))) (he:step (T n)=r) (hr:∀ l,r≠some (.nx l)):aL step vs=r:=by
 subst hv;rw [JE T n hs];exact bH he hr
theorem cK {A:Type} {l:List A} (h:i<l.length):l.take (i+1)=l.take i++[l[i]]:=(List.take_append_getElem h).symm
theorem FM (h:step vs=step vs'):aL step vs=aL step vs':=by grind [CR]
end Go.Sx
namespace Go.Stint
open Go Go.Sx
def within (n lo hi:Int):Bool:=decide (lo<=n)&&decide (n<=hi)
structure Pas where
 (id lo hi:Int)
structure By where
 (so pa fr q0 q1 q2 q3 q4 q5 q6 q7 q8 q9:Int)
structure Dd where
 (m no kind day kn ho tt ow pa pt un om on:Int)
def Pas.cv (p:Pas):List CV:=[ci p.id,ci p.lo,ci p.hi]
def By.cv (b:By):List CV:=[ci b.so,ci b.pa,ci b.fr,ci b.q0,ci b.q1,ci b.q2,ci b.q3,ci b.q4,ci b.q5,ci b.q6,ci b.q7,ci b.q8,ci b.q9]
def Dd.cv (x:Dd):List CV:=[ci x.m,ci x.no,ci x.kind,ci x.day,ci x.kn,ci x.ho,ci x.tt,ci x.ow,ci x.pa,ci x.pt,ci x.un,ci x.om,ci x.on]
def By.q (b:By):List Int:=[b.q0,b.q1,b.q2,b.q3,b.q4,b.q5,b.q6,b.q7,b.q8,b.q9]
def Dd.eqb (a b:Dd):Bool:=(a.m == b.m)&&((a.no == b.no)&&((a.kind == b.kind)&&((a.day == b.day)&&((a.kn == b.kn)&&((a.ho == b.ho)&&((a.tt == b.tt)&&((a.ow == b.ow)&&((a.pa == b.pa)&&((a.pt == b.pt)&&((a.un == b.un)&&((a.om == b.om)&&((a.on == b.on)&&true))))))))))))
section
variable (p:Pas) (b:By) (x:Dd)
@[simp] theorem aCP:gi p.cv 0=p.id:=rfl
@[simp] theorem aJ4:gi p.cv 1=p.lo:=rfl
@[simp] theorem aJ5:gi p.cv 2=p.hi:=rfl
@[simp] theorem aLW:oks [li,li,li] p.cv 0=true:=rfl
@[simp] theorem aNf:p.cv.length=3:=rfl
@[simp] theorem byC:cis b.cv 0 13=b.cv:=rfl
abbrev _root_.Go.Sx.liA:List Lf:=[li,li,li,li,li,li,li,li,li,li,li,li,li]
@[simp] theorem byO:oks liA b.cv 0=true:=rfl
@[simp] theorem aNg:oks [li,li,li,li,li,li,li,li,li,li,li,li,li] b.cv 0=true:=rfl
@[simp] theorem aNh:oks [li,li,li,li,li,li,li,li,li,li,li,li,li] x.cv 0=true:=rfl
@[simp] theorem byL:b.cv.length=13:=rfl
@[simp] theorem by1:gi b.cv 1=b.pa:=rfl
@[simp] theorem by2:gi b.cv 2=b.fr:=rfl
@[simp] theorem by0:gi b.cv 0=b.so:=rfl
@[simp] theorem ddC:cis x.cv 0 13=x.cv:=rfl
@[simp] theorem ddO:oks liA x.cv 0=true:=rfl
@[simp] theorem ddL:x.cv.length=13:=rfl
@[simp] theorem dd0:gi x.cv 0=x.m:=rfl
@[simp] theorem dd1:gi x.cv 1=x.no:=rfl
@[simp] theorem dd2:gi x.cv 2=x.kind:=rfl
@[simp] theorem dd3:gi x.cv 3=x.day:=rfl
@[simp] theorem dd4:gi x.cv 4=x.kn:=rfl
@[simp] theorem dd5:gi x.cv 5=x.ho:=rfl
@[simp] theorem dd6:gi x.cv 6=x.tt:=rfl
@[simp] theorem dd7:gi x.cv 7=x.ow:=rfl
@[simp] theorem dd8:gi x.cv 8=x.pa:=rfl
@[simp] theorem dd9:gi x.cv 9=x.pt:=rfl
@[simp] theorem aLX:gi x.cv 10=x.un:=rfl
@[simp] theorem aLY:gi x.cv 11=x.om:=rfl
@[simp] theorem aLZ:gi x.cv 12=x.on:=rfl
end
def Pas.ok (p:Pas):Bool:=within p.id 1 99&&within p.lo 0 359&&within p.hi 0 359
def By.ok (b:By):Bool:=within b.so 1 99999&&within b.pa 1 99&&within b.fr 0 100000&&decide (b.q0=0)&&b.q.all fun n=>within n 0 100000
def pI (m no:Int):Bool:=within m 0 5&&within no 0 9999
def kHo (k:Int):Bool:=decide (k=1\/k=3\/k=2\/k=4\/k=5\/k=6)
def kTt (k:Int):Bool:=decide (k=4\/k=5\/k=6)
def kOw (k:Int):Bool:=decide (k=1\/k=3)
def kPa (k:Int):Bool:=decide (k=2\/k=4\/k=6\/k=7\/k=8)
def kPt (k:Int):Bool:=decide (k=2\/k=4\/k=6)
def kUn (k:Int):Bool:=decide (k=6\/k=7\/k=8)
def may (b:Bool) (n lo hi:Int):Bool:=if b then within n lo hi else decide (n=0)
def Dd.flds (x:Dd):Bool:=may (kHo x.kind) x.ho 1 99&&may (kTt x.kind) x.tt 1 99&&may (kOw x.kind) x.ow 1 99&&may (kPa x.kind) x.pa 1 99&&may (kPt x.kind) x.pt 1 100000&&may (kUn x.kind) x.un x.day 100000
def Dd.ok (x:Dd):Bool:=pI x.m x.no&&within x.kn 0 100000 &&
 (if x.kind=0 then decide (x.day=0)&&decide (x.ho=0)&&decide (x.tt=0)&&decide (x.ow=0)&&decide (x.pa=0)&&decide (x.pt=0)&&decide (x.un=0)&&pI x.om x.on&&decide (x.om=x.m)&&decide (x.on<x.no)
  else within x.kind 1 8&&within x.day 0 100000&&x.flds&&!(kTt x.kind&&decide (x.tt=x.ho))&&decide (x.om=0)&&decide (x.on=0))
def nbB {A:Type} (lt:A->A->Bool) (l:List A) (i:Nat):Bool:=match l[i]?,l[i+1]? with
 | some x,some y=>lt x y
 | _,_=>true
def gR {A:Type} (lt:A->A->Bool) (l:List A):Bool:=(List.range (l.length - 1)).all fun i=>nbB lt l i
theorem uZ {A:Type} {lt:A->A->Bool} {l:List A} {i:Nat} (h:i+1<l.length):nbB lt l i=lt l[i] l[i+1]:=by
 unfold nbB;grind
def iZ (a b c d:Int):Bool:=decide (a<c) || (decide (a=c)&&decide (b<d))
def Pas.lt (a b:Pas):Bool:=decide (a.id<b.id)
def By.lt (a b:By):Bool:=iZ a.pa a.fr b.pa b.fr
def Dd.lt (a b:Dd):Bool:=iZ a.m a.no b.m b.no
structure Cm where
 ps:List Pas
 bl:List By
 ds:List Dd
def Cm.rs (c:Cm):List CV:=[.row 3 (c.ps.map Pas.cv),.row 13 (c.bl.map By.cv),.row 13 (c.ds.map Dd.cv)]
def Cm.ok (c:Cm):Bool:=decide (c.ps.length<=8)&&decide (c.bl.length<=20)&&decide (c.ds.length<=60)&&c.ps.all Pas.ok&&c.bl.all By.ok&&c.ds.all Dd.ok&&gR Pas.lt c.ps&&gR By.lt c.bl&&gR Dd.lt c.ds
def Cm.chk (c:Cm):Int:=cond c.ok 0 23
theorem orN (c d:Bool):aA c (some (.nx [cb true])) (some (.nx [cb d]))=some (.nx [cb (c || d)]):=by simp
theorem aL0 (c d:Bool):aA c (some (.ret [cb d])) (some (.ret [cb false]))=some (.ret [cb (c&&d)]):=by simp
theorem ifR (c:Bool) (a b:Int):aA c (some (.ret [ci a])) (some (.ret [ci b]))=some (.ret [ci (cond c a b)]):=by cases c <;> rfl
theorem ifN (c:Bool) (a b:Bool):aA c (some (.nx [cb a])) (some (.nx [cb b]))=some (.nx [cb (cond c a b)]):=by cases c <;> rfl
theorem WT {A S:Type} {step:List CV->Option Ou} (E:Nat->S->List CV) (F:S->List A->Option Ou) (I:S->Prop) (l:List A)
  (hs:∀ i (_:i<l.length) s,I s->(∃ s',step (E i s)=some (.nx (E (i+1) s'))/\F s (l.drop i)=F s' (l.drop (i+1))/\I s')\/(step (E i s)=F s (l.drop i)/\∀ v,F s (l.drop i)≠some (.nx v)))
  (he:∀ s,I s->step (E l.length s)=F s []/\∀ v,F s []≠some (.nx v)):∀ (d k:Nat) (s:S),k+d=l.length->I s->aL step (E k s)=F s (l.drop k)
 | 0,k,s,hk,hI=>by
  have:k=l.length:=by omega
  subst this;rw [List.drop_length];exact bH (he s hI).1 (he s hI).2
 | d+1,k,s,hk,hI=>by
  rcases hs k (by omega) s hI with ⟨s',h1,h2,h3⟩ | ⟨h1,h2⟩
  ·rw [eB h1,h2]
   exact WT E F I l hs he d (k+1) s' (by omega) h3
  ·exact bH h1 h2
theorem QP {A S:Type} {step:List CV->Option Ou} (E:Nat->S->List CV) (F:S->List A->Option Ou) (I:S->Prop) (l:List A) (s:S) {vs:List CV} (hv:vs=E 0 s) (hI:I s)
  (hs:∀ i (_:i<l.length) s,I s->(∃ s',step (E i s)=some (.nx (E (i+1) s'))/\F s (l.drop i)=F s' (l.drop (i+1))/\I s')\/(step (E i s)=F s (l.drop i)/\∀ v,F s (l.drop i)≠some (.nx v)))
  (he:∀ s,I s->step (E l.length s)=F s []/\∀ v,F s []≠some (.nx v)):aL step vs=F s l:=by
 have:=WT E F I l hs he l.length 0 s (by omega) hI
 grind
def bL (x:Dd) (l:List Dd):Nat:=l.findIdx fun y=>!y.lt x
def jW (a b:Dd):Bool:=decide (a.m=b.m)&&decide (a.no=b.no)
def putAt (out:List Dd) (x:Dd):List Dd:=out.take (bL x out)++x::out.drop (bL x out)
def zR (out:List Dd) (x:Dd):Option (List Dd):=match out[bL x out]? with
 | some y=>cond (jW y x) (cond (y.eqb x) (some out) none) (some (putAt out x))
 | none=>some (putAt out x)
def joinL:List Dd->List Dd->List Dd×Int
 | out,[]=>(out,0)
 | out,x::l=>cond x.ok (match zR out x with
  | some o=>joinL o l
  | none=>([],27)) ([],22)
def eR (c:Cm) (l:List Dd):Cm×Int:=
 if c.ok then (match joinL c.ds l with
  | (o,e)=>if e=0 then (if 60<o.length then (⟨[],[],[]⟩,2) else (⟨c.ps,c.bl,o⟩,0)) else (⟨[],[],[]⟩,e))
 else (⟨[],[],[]⟩,23)
section
variable {K:Type} [DecidableEq K]
def bR (kc:K->List CV) (ks:List K) (f:K->Option CV):List (List CV):=ks.filterMap fun k=>(f k).map fun d=>kc k++[d]
structure KeyOk (n:Nat) (kc:K->List CV) (lt:K->K->Bool):Prop where
 len:∀ k,(kc k).length=n
 eq:∀ a b,eqB ((kc a).map cvV) ((kc b).map cvV)=decide (a=b)
 hlt:∀ a b,ltK (kc a) (kc b)=lt a b
 asym:∀ a b,lt a b=true->lt b a=false
variable {n:Nat} {kc:K->List CV} {lt:K->K->Bool} {f:K->Option CV}
def sV (f:K->Option CV) (k:K) (d:Option CV):K->Option CV:=fun x=>if x=k then d else f x
omit [DecidableEq K] in
theorem iJ (A B:List K):bR kc (A++B) f=bR kc A f++bR kc B f:=by simp [bR]
omit [DecidableEq K] in
theorem dF {g:K->Option CV} {A:List K} (h:∀ k∈A,f k=g k):bR kc A f=bR kc A g:=by
 unfold bR
 induction A with
 | nil=>rfl
 | cons a A ih=>grind
theorem KeyOk.take (hk:KeyOk n kc lt) (k:K) (d:CV):(kc k++[d]).take n=kc k:=by rw [<- hk.len k,List.take_left]
theorem lV (hk:KeyOk n kc lt) {k:K}:∀ {A:List K} (B:List (List CV)),k ∉ A->bN n (kc k) (bR kc A f++B)=(bR kc A f).length+bN n (kc k) B
 | [],B,_=>by simp [bR]
 | a::A,B,h=>by
  simp at h;have ih:=lV hk (A:=A) B h.2;unfold bR at ih ⊢;rw [List.filterMap_cons];cases hf:f a with
  | none=>grind
  | some d =>
   simp [bN,hk.take,hk.eq,h.1];omega
theorem aJ6 (k:List CV):bN n k []=0:=rfl
theorem CW (hk:KeyOk n kc lt) (k:K) (d:CV) (B:List (List CV)):bN n (kc k) ((kc k++[d])::B)=0:=by
 simp [bN,hk.take,hk.eq]
variable {k:K}
omit [DecidableEq K] in
theorem CX:∀ {ks:List K},k∈ks->ks.Nodup->∃ A B,ks=A++k::B/\k ∉ A/\k ∉ B:=by
 intro ks h hn;obtain ⟨A,B,rfl⟩:=List.append_of_mem h;grind
omit [DecidableEq K] in
theorem iK (k:K) (B:List K):bR kc (k::B) f=(match f k with | some d=>[kc k++[d]] | none=>[])++bR kc B f:=by
 unfold bR;grind
variable {ks:List K}
theorem CY (hk:KeyOk n kc lt) (hn:ks.Nodup) (hm:k∈ks) (z:Value):aH n (kc k) z (bR kc ks f)=(f k).getD (.val z):=by
 obtain ⟨A,B,rfl,hA,hB⟩:=CX hm hn;unfold aH;rw [iJ,lV hk _ hA,iK];cases hf:f k with
 | some d =>
  simp [CW hk];simp [<- hk.len k]
 | none =>
  have:=lV (f:=f) hk ([]:List (List CV)) hB;grind
theorem aEP (hk:KeyOk n kc lt) (hn:ks.Nodup) (hm:k∈ks):bN n (kc k) (bR kc ks f)<(bR kc ks f).length↔(f k).isSome=true:=by
 obtain ⟨A,B,rfl,hA,hB⟩:=CX hm hn;rw [iJ,lV hk _ hA,iK];cases hf:f k with
 | some d=>simp [CW hk]
 | none =>
  have:=lV (f:=f) hk ([]:List (List CV)) hB;grind
theorem QQ (hk:KeyOk n kc lt) {k:K}:∀ {A:List K} (B:List (List CV)),(∀ a∈A,lt k a=false)->HU n (kc k) (bR kc A f++B)=(bR kc A f).length+HU n (kc k) B
 | [],B,_=>by simp [bR]
 | a::A,B,h=>by
  have ih:=QQ hk (A:=A) B fun a ha=>h a (by grind)
  unfold bR at ih ⊢;rw [List.filterMap_cons];cases hf:f a with
  | none=>grind
  | some d =>
   simp [HU,hk.take,hk.hlt,h a (by simp)]
   omega
theorem QR (hk:KeyOk n kc lt) {k:K}:∀ {B:List K},(∀ b∈B,lt k b=true)->HU n (kc k) (bR kc B f)=0
 | [],_=>rfl
 | b::B,h=>by
  have ih:=QR hk (B:=B) fun b hb=>h b (by grind)
  rw [iK];cases hf:f b with
  | none=>grind
  | some d=>simp [HU,hk.take,hk.hlt,h b (by simp)]
theorem LQ (hk:KeyOk n kc lt) (hs:ks.Pairwise fun a b=>lt a b=true) (hn:ks.Nodup) (hm:k∈ks) (d:CV):bV n (kc k) d (bR kc ks f)=bR kc ks (sV f k (some d)):=by
 obtain ⟨A,B,rfl,hA,hB⟩:=CX hm hn
 have e1:bR kc A (sV f k (some d))=bR kc A f:=dF fun a ha=>by
  unfold sV;grind
 have e2:bR kc B (sV f k (some d))=bR kc B f:=dF fun a ha=>by
  unfold sV;grind
 have e3:bR kc (A++k::B) (sV f k (some d))=bR kc A f++((kc k++[d])::bR kc B f):=by
  grind [iJ,iK,sV]
 rw [e3];have hp:=aEP (f:=f) hk hn hm;unfold bV;cases hf:f k with
 | some x =>
  have e4:bR kc (A++k::B) f=bR kc A f++((kc k++[x])::bR kc B f):=by
   grind [iJ,iK]
  rw [e4,lV hk _ hA,CW hk,Nat.add_zero];simp
 | none =>
  rw [if_neg (fun h=>by grind)]
  have e4:bR kc (A++k::B) f=bR kc A f++bR kc B f:=by
   grind [iJ,iK]
  rw [List.pairwise_append] at hs;obtain ⟨s1,s2,s3⟩:=hs;rw [e4,QQ hk _ (fun a ha=>hk.asym _ _ (s3 a ha k (by simp))),QR hk (fun b hb=>List.rel_of_pairwise_cons s2 hb),Nat.add_zero]
  simp
theorem aEQ (hk:KeyOk n kc lt) (hn:ks.Nodup) (hm:k∈ks):zQ n (kc k) (bR kc ks f)=bR kc ks (sV f k none):=by
 obtain ⟨A,B,rfl,hA,hB⟩:=CX hm hn
 have e1:bR kc A (sV f k none)=bR kc A f:=dF fun a ha=>by
  unfold sV;grind
 have e2:bR kc B (sV f k none)=bR kc B f:=dF fun a ha=>by
  unfold sV;grind
 have e3:bR kc (A++k::B) (sV f k none)=bR kc A f++bR kc B f:=by
  grind [iJ,iK,sV]
 unfold zQ;rw [iJ,lV hk _ hA,iK];cases hf:f k with
 | some d =>
  simp [CW hk];grind
 | none =>
  have:=lV (f:=f) hk ([]:List (List CV)) hB;grind
omit [DecidableEq K] in
theorem LS (kl:List LK) (vl:LK) (Dr:∀ k,(kc k).map kC=kl.map some) (hf:∀ k d,f k=some d->kC d=some vl) (ks:List K):dX kl vl (bR kc ks f)=true:=by
 unfold dX;rw [List.all_eq_true];intro e he;unfold bR at he;grind [Option.map_eq_some_iff]
end
def k1 (a:Int):List CV:=[ci a]
def k2 (a:Int×Int):List CV:=[ci a.1,ci a.2]
def lt1 (a b:Int):Bool:=decide (a<b)
def lt2 (a b:Int×Int):Bool:=iZ a.1 a.2 b.1 b.2
theorem WU:KeyOk 1 k1 lt1:=by
 refine ⟨fun _=>rfl,fun a b=>?_,fun a b=>?_,fun a b h=>?_⟩
 ·grind [k1,ci,cvV,eqB,vEq]
 ·simp [k1,ltK,ltC,ci,lt1]
 grind [lt1]
theorem aER:KeyOk 2 k2 lt2:=by
 refine ⟨fun _=>rfl,fun a b=>?_,fun a b=>?_,fun a b h=>?_⟩
 ·grind [k2,ci,cvV,eqB,vEq]
 ·grind [k2,ltK,ltC,ci,lt2,iZ]
 grind [lt2,iZ]
def pairs (a b c d:Int):List (Int×Int):=(upto a b).flatMap fun x=>(upto c d).map fun y=>(x,y)
theorem QS {a b c d:Int} {x:Int×Int}:x∈pairs a b c d↔(a<=x.1/\x.1<=b)/\c<=x.2/\x.2<=d:=by
 grind [pairs,LO]
theorem JG (a b:Int):(upto a b).Pairwise fun x y=>lt1 x y=true:=by
 unfold upto;rw [List.pairwise_map];refine List.pairwise_lt_range.imp ?_;intro i j h;show decide (a+(i:Int)<a+(j:Int))=true;grind
theorem LU (a b c d:Int):(pairs a b c d).Pairwise fun x y=>lt2 x y=true:=by
 unfold pairs;rw [List.pairwise_flatMap];refine ⟨fun x _=>?_,?_⟩
 ·rw [List.pairwise_map]
  refine (JG c d).imp ?_;intro i j h;have h:=of_decide_eq_true h;simp [lt2,iZ,h]
 ·refine (JG a b).imp ?_
  intro i j h p hp q hq;have h:=of_decide_eq_true h;grind [lt2,iZ]
theorem aBp (a b:Int):(upto a b).Nodup:=by
 refine (JG a b).imp ?_;grind [lt1]
theorem WV (a b c d:Int):(pairs a b c d).Nodup:=by
 refine (LU a b c d).imp ?_;grind [lt2,iZ]
def cH:List Int->Int
 | []=>0
 | x::l=>x+cH l
theorem jX:∀ (l m:List Int),cH (l++m)=cH l+cH m
 | [],m=>by simp [cH]
 | x::l,m=>by simp only [List.cons_append,cH,jX l m];omega
theorem QT {l m:List Int} (h:l.Perm m):cH l=cH m:=by
 induction h with
 | nil=>rfl
 | cons x _ ih=>grind [cH]
 | swap x y l=>grind [cH]
 | trans _ _ h1 h2=>omega
theorem lW:∀ {l:List Int},(∀ x∈l,0<=x)->0<=cH l
 | [],_=>by simp [cH]
 | x::l,h=>by
  have h1:=h x (by simp)
  have h2:=lW (l:=l) fun y hy=>h y (by grind)
  grind [cH]
theorem aBq:∀ {l:List Int},(∀ x∈l,0<=x)->∀ x∈l,x<=cH l
 | [],_,x,hx=>by grind
 | y::l,h,x,hx=>by
  have h0:=lW (l:=l) fun y hy=>h y (by grind)
  have h1:=h y (by simp)
  simp [cH];rcases List.mem_cons.1 hx with rfl | hx
  ·omega
  ·have:=aBq (l:=l) (fun y hy=>h y (by grind)) x hx
   omega
def fA {K:Type} (ks:List K) (g:K->Int):Int:=cH (ks.map g)
theorem fG {K:Type} {ks:List K} {g g':K->Int} (h:∀ k∈ks,g k=g' k):fA ks g=fA ks g':=by
 unfold fA;rw [List.map_congr_left h]
theorem mO {K:Type} [DecidableEq K]:∀ {ks:List K} (g:K->Int) {k:K} (v:Int),ks.Nodup->k∈ks->fA ks (fun x=>if x=k then v else g x)=fA ks g - g k+v
 | [],_,_,_,_,h=>by grind
 | a::ks,g,k,v,hn,h=>by
  rw [List.nodup_cons] at hn;unfold fA;simp [cH]
  by_cases e:a=k
  ·have:fA ks (fun x=>if x=a then v else g x)=fA ks g:=fG fun x hx=>by
    grind
   unfold fA at this;grind
  ·have h':k∈ks:=by
    grind
   have:=mO g v hn.2 h';unfold fA at this;grind
def jR:List Int:=upto 1 99
theorem qT:jR.Nodup:=aBp 1 99
structure Land where
 own:Int->Option Int
 ev:Int->Bool
 rt:Int×Int->Option Int
 lets:List Dd
 gates:List Dd
 vd:List (Int×Int)
def jA (ps:List Pas) (p:Int):Bool:=ps.any fun q=>decide (q.id=p)
def Land.g (L:Land) (h p:Int):Int:=(L.rt (h,p)).getD 0
def Land.tot (L:Land) (p:Int):Int:=fA jR fun h=>L.g h p
def fU (q:Dd->Bool) (l:List Dd):Int:=cH ((l.filter q).map (·.pt))
def jB (h p day:Int) (y:Dd):Bool:=decide (y.ho=h)&&decide (y.pa=p)&&decide (day<=y.un)
def toQ (h p day:Int) (y:Dd):Bool:=decide (y.tt=h)&&decide (y.pa=p)&&decide (day<=y.un)
def Land.free (L:Land) (h p day:Int):Int:=L.g h p - fU (jB h p day) L.lets
def Land.use (L:Land) (h p day:Int):Int:=L.free h p day+fU (toQ h p day) L.lets
def Land.th (L:Land) (h:Int):Bool:=(L.own h).isSome
def Land.bound (L:Land) (h day:Int):Bool:=L.lets.any fun y=>(decide (y.ho=h) || decide (y.tt=h))&&decide (day<=y.un)
def iA (ps:List Pas) (L:Land) (x:Dd):Option Land:=
 if x.kind=1 then (if L.ev x.ho then none else some { L with own:=fun h=>if h=x.ho then some x.ow else L.own h,ev:=fun h=>if h=x.ho then true else L.ev h })
 else if x.kind=2 then (if L.th x.ho&&jA ps x.pa&&decide (L.tot x.pa+x.pt<=1000000) then some { L with rt:=fun k=>if k=(x.ho,x.pa) then some (L.g x.ho x.pa+x.pt) else L.rt k } else none)
 else if x.kind=3 then (if L.th x.ho then some { L with own:=fun h=>if h=x.ho then some x.ow else L.own h } else none)
 else if x.kind=4 then (if L.th x.ho&&L.th x.tt&&decide (x.pt<=L.free x.ho x.pa x.day) then some { L with rt:=fun k=>if k=(x.tt,x.pa) then some (L.g x.tt x.pa+x.pt) else if k=(x.ho,x.pa) then some (L.g x.ho x.pa - x.pt) else L.rt k } else none)
 else if x.kind=5 then (if L.th x.ho&&L.th x.tt&&!L.bound x.ho x.day then some { L with rt:=fun k=>if jA ps k.2 then (if k.1=x.tt then some (L.g x.tt k.2+L.g x.ho k.2) else if k.1=x.ho then none else L.rt k) else L.rt k,own:=fun h=>if h=x.ho then none else L.own h } else none)
 else if x.kind=6 then (if L.th x.ho&&L.th x.tt&&decide (x.pt<=L.free x.ho x.pa x.day) then some { L with lets:=L.lets++[x] } else none)
 else (if jA ps x.pa then some { L with gates:=L.gates++[x] } else none)
def bK (ps:List Pas) (L:Land) (x:Dd):Land:=match iA ps L x with
 | some L'=>L'
 | none=>{ L with vd:=L.vd++[(x.m,x.no)] }
def Land.z:Land:=⟨fun _=>none,fun _=>false,fun _=>none,[],[],[]⟩
def itC (x:Int×Int):List CV:=[ci x.1,ci x.2]
def wN (ps:List Pas):List (List CV):=bR k1 jR fun p=>if jA ps p then some (cb true) else none
def BH (L:Land):List (List CV):=bR k1 jR fun h=>(L.own h).map ci
def evR (L:Land):List (List CV):=bR k1 jR fun h=>if L.ev h then some (cb true) else none
def aHp:List (Int×Int):=pairs 1 99 1 99
def rtR (L:Land):List (List CV):=bR k2 aHp fun k=>(L.rt k).map ci
def cS (ps:List Pas) (L:Land):List CV:=[.mp 1 (wN ps),.mp 1 (BH L),.mp 1 (evR L),.mp 2 (rtR L),.row 13 (L.lets.map Dd.cv),.row 13 (L.gates.map Dd.cv),.row 2 (L.vd.map itC)]
structure Inv (N:Nat) (L:Land):Prop where
 nn:∀ k v,L.rt k=some v->0<=v
 tb:∀ p,L.tot p<=1000000
 lok:∀ y∈L.lets,1<=y.pt/\y.pt<=100000
 ll:L.lets.length<=N
 gl:L.gates.length<=N
 vl:L.vd.length<=N
variable {N:Nat} {L:Land}
theorem Inv.g0 (h:Inv N L) (a p:Int):0<=L.g a p:=by
 unfold Land.g;cases hr:L.rt (a,p) with
 | none=>simp
 | some v=>exact h.nn _ _ hr
variable {h:Int}
theorem lX:h∈jR↔1<=h/\h<=99:=LO
theorem aES {k:Int×Int}:k∈aHp↔(1<=k.1/\k.1<=99)/\1<=k.2/\k.2<=99:=QS
theorem Inv.gle (h:Inv N L) {a:Int} (p:Int) (ha:1<=a/\a<=99):L.g a p<=1000000:=by
 have h1:=aBq (l:=jR.map fun a=>L.g a p) (fun x hx=>by
  obtain ⟨b,_,rfl⟩:=List.mem_map.1 hx;exact h.g0 b p) (L.g a p) (List.mem_map.2 ⟨a,lX.2 ha,rfl⟩)
 have h2:=h.tb p;unfold Land.tot fA at h2;omega
theorem lN {q:Dd->Bool}:∀ {l:List Dd},(∀ y∈l,1<=y.pt/\y.pt<=100000)->0<=fU q l/\fU q l<=100000*l.length
 | [],_=>by simp [fU,cH]
 | y::l,h=>by
  have h2:=lN (q:=q) (l:=l) fun z hz=>h z (by grind)
  unfold fU at h2 ⊢;grind [cH]
theorem Inv.z (N:Nat):Inv N Land.z:=by
 refine ⟨by simp [Land.z],fun p=>?_,by simp [Land.z],by simp [Land.z],by simp [Land.z],by simp [Land.z]⟩
 have:Land.z.tot p=0:=by
  have:∀ l:List Int,cH (l.map fun h=>Land.z.g h p)=0:=by
   intro l
   induction l with
   | nil=>rfl
   | cons a l ih=>simp [cH,ih];rfl
  exact this _
 omega
theorem Inv.mono {M:Nat} (h:Inv N L) (Hj:N<=M):Inv M L:=⟨h.nn,h.tb,h.lok,Nat.le_trans h.ll Hj,Nat.le_trans h.gl Hj,Nat.le_trans h.vl Hj⟩
theorem TN {rt:Int×Int->Option Int} {p v:Int} (hh:1<=h/\h<=99) (hr:∀ a q,(rt (a,q)).getD 0=if q=p then (if a=h then v else L.g a q) else L.g a q) (q:Int) :
  Land.tot { L with rt:=rt } q=if q=p then L.tot q - L.g h q+v else L.tot q:=by
 unfold Land.tot
 by_cases e:q=p
 ·subst e
  rw [if_pos rfl]
  have:fA jR (fun a=>Land.g { L with rt:=rt } a q)=fA jR (fun a=>if a=h then v else L.g a q):=fG fun a _=>by
   show (rt (a,q)).getD 0=_;grind
  rw [this];exact mO (fun a=>L.g a q) v qT (lX.2 hh)
 ·rw [if_neg e]
  refine fG fun a _=>?_
  show (rt (a,q)).getD 0=_;grind
theorem Dd.ok_item {x:Dd} (h:x.ok=true):within x.m 0 5=true/\within x.no 0 9999=true:=by
 simp_all [Dd.ok,pI]
theorem Dd.ok_flds {x:Dd} (h:x.ok=true) (h0:x.kind≠0):within x.kind 1 8=true/\within x.day 0 100000=true/\(kHo x.kind=true->1<=x.ho/\x.ho<=99)/\(kTt x.kind=true->(1<=x.tt/\x.tt<=99)/\x.tt≠x.ho)/\(kOw x.kind=true->1<=x.ow/\x.ow<=99)/\(kPa x.kind=true->1<=x.pa/\x.pa<=99)/\(kPt x.kind=true->1<=x.pt/\x.pt<=100000)/\(kUn x.kind=true->x.day<=x.un/\x.un<=100000):=by
 simp [Dd.ok,if_neg h0,Dd.flds] at h;obtain ⟨_,⟨⟨⟨⟨h1,h2⟩,⟨⟨⟨⟨⟨f1,f2⟩,f3⟩,f4⟩,f5⟩,f6⟩⟩,h3⟩,_⟩,_⟩:=h;refine ⟨h1,h2,fun k=>?_,fun k=>⟨?_,?_⟩,fun k=>?_,fun k=>?_,fun k=>?_,fun k=>?_⟩
 ·grind [may,within]
 ·grind [may,within]
 ·grind
 ·grind [may,within]
 ·grind [may,within]
 ·grind [may,within]
 grind [may,within]
variable {ps:List Pas}
theorem aBr {L':Land} {x:Dd} (hx:x.ok=true) (h0:x.kind≠0) (ha:iA ps L x=some L') (q:Int):L'.tot q=if x.kind=2/\x.pa=q then L.tot q+x.pt else L.tot q:=by
 obtain ⟨hk,hd,qa,tc,zx,wg,jv,ki⟩:=x.ok_flds hx h0;unfold iA at ha;split at ha
 ·rw [if_neg (by omega)]
  split at ha <;> cases ha;rfl
 split at ha
 ·rename_i k1 k2
  have e1:=qa (by simp [kHo,k2])
  split at ha <;> cases ha
  rw [TN (L:=L) (h:=x.ho) (p:=x.pa) (v:=L.g x.ho x.pa+x.pt) e1 (fun a q=>by
   grind [Land.g])]
  grind
 rename_i k1 k2;rw [if_neg (fun e=>k2 e.1)]
 split at ha
 ·split at ha <;> cases ha;rfl
 split at ha
 ·rename_i k3 k4
  have e1:=qa (by simp [kHo,k4])
  have e3:=tc (by simp [kTt,k4])
  have t1:=TN (L:=L) (rt:=fun k=>if k=(x.ho,x.pa) then some (L.g x.ho x.pa - x.pt) else L.rt k) (h:=x.ho) (p:=x.pa) (v:=L.g x.ho x.pa - x.pt) e1 (fun a q=>by
   grind [Land.g]) q
  have t2:=TN (L:={ L with rt:=fun k=>if k=(x.ho,x.pa) then some (L.g x.ho x.pa - x.pt) else L.rt k }) (rt:=fun k=>if k=(x.tt,x.pa) then some (L.g x.tt x.pa+x.pt) else if k=(x.ho,x.pa) then some (L.g x.ho x.pa - x.pt) else L.rt k) (h:=x.tt) (p:=x.pa) (v:=L.g x.tt x.pa+x.pt) e3.1 (fun a q=>by
   grind [Land.g]) q
  grind [Land.g]
 split at ha
 ·rename_i k3 k4 k5
  have e1:=qa (by simp [kHo,k5])
  have e3:=tc (by simp [kTt,k5])
  split at ha <;> cases ha;unfold Land.tot
  by_cases hq:jA ps q=true
  ·have:fA jR (fun h=>Land.g { L with rt:=fun k=>if jA ps k.2 then (if k.1=x.tt then some (L.g x.tt k.2+L.g x.ho k.2) else if k.1=x.ho then none else L.rt k) else L.rt k,own:=fun h=>if h=x.ho then none else L.own h } h q)
      = fA jR (fun h=>if h=x.tt then (L.g x.tt q+L.g x.ho q) else (fun h=>if h=x.ho then 0 else L.g h q) h):=fG fun h _=>by
    grind [Land.g]
   rw [this,mO _ _ qT (lX.2 e3.1),mO (fun h=>L.g h q) 0 qT (lX.2 e1)]
   omega
  grind [Land.g]
 split at ha
 ·split at ha <;> cases ha;rfl
 ·split at ha <;> cases ha;rfl
theorem Inv.step (hI:Inv N L) (ps:List Pas) {x:Dd} (hx:x.ok=true) (h0:x.kind≠0):Inv (N+1) (bK ps L x):=by
 obtain ⟨hk,hd,qa,tc,zx,wg,jv,ki⟩:=x.ok_flds hx h0;have hM:=hI.mono (Nat.le_succ N);unfold bK;cases ha:iA ps L x with
 | none=>exact ⟨hI.nn,hI.tb,hI.lok,hM.ll,hM.gl,by simp;exact hI.vl⟩
 | some L' =>
  simp only
  have ht:∀ q,L'.tot q<=1000000:=fun q=>by
   rw [aBr hx h0 ha q];split
   ·unfold iA at ha
    grind
   ·exact hI.tb q
  unfold iA at ha;split at ha
  ·split at ha <;> cases ha;exact ⟨hI.nn,ht,hI.lok,hM.ll,hM.gl,hM.vl⟩
  split at ha
  ·rename_i k1 k2
   have e2:=jv (by simp [kPt,k2])
   split at ha <;> cases ha;refine ⟨fun k v hv=>?_,ht,hI.lok,hM.ll,hM.gl,hM.vl⟩
   simp only at hv;split at hv
   ·cases hv;have:=hI.g0 x.ho x.pa;omega
   ·exact hI.nn k v hv
  split at ha
  ·split at ha <;> cases ha;exact ⟨hI.nn,ht,hI.lok,hM.ll,hM.gl,hM.vl⟩
  split at ha
  ·rename_i k1 k2 k3 k4
   have e2:=jv (by simp [kPt,k4])
   split at ha <;> cases ha;rename_i hc;simp at hc
   have hf:x.pt<=L.g x.ho x.pa:=by
    have:=(lN (q:=jB x.ho x.pa x.day) hI.lok).1;have h2:=hc.2;unfold Land.free at h2;omega
   refine ⟨fun k v hv=>?_,ht,hI.lok,hM.ll,hM.gl,hM.vl⟩
   simp only at hv;split at hv
   ·cases hv;have:=hI.g0 x.tt x.pa;omega
   ·split at hv
    ·grind
    ·exact hI.nn k v hv
  split at ha
  ·split at ha <;> cases ha
   refine ⟨fun k v hv=>?_,ht,hI.lok,hM.ll,hM.gl,hM.vl⟩
   simp only at hv;split at hv
   ·split at hv
    ·cases hv;have:=hI.g0 x.tt k.2;have:=hI.g0 x.ho k.2;omega
    ·split at hv
     ·cases hv
     ·exact hI.nn k v hv
   ·exact hI.nn k v hv
  split at ha
  ·rename_i k1 k2 k3 k4 k5 k6
   have e2:=jv (by simp [kPt,k6])
   split at ha <;> cases ha;refine ⟨hI.nn,ht,fun y hy=>?_,by simp;exact hI.ll,hM.gl,hM.vl⟩
   rcases List.mem_append.1 hy with hy | hy
   ·exact hI.lok y hy
   grind
  ·split at ha <;> cases ha
   exact ⟨hI.nn,ht,hI.lok,hM.ll,by simp;exact hI.gl,hM.vl⟩
section
variable {A:Type} (le:A->A->Bool)
def LW (x:A):List A->List A
 | []=>[x]
 | y::l=>cond (le x y) (x::y::l) (y::LW x l)
def aD:List A->List A
 | []=>[]
 | x::l=>LW le x (aD l)
theorem FN (x:A):∀ (l:List A),(LW le x l).Perm (x::l)
 | []=>.refl _
 | y::l=>by
  simp [LW];cases le x y with
  | true=>rfl
  | false=>exact ((FN x l).cons y).trans (.swap x y l)
theorem aU:∀ (l:List A),(aD le l).Perm l
 | []=>.refl _
 | x::l=>(FN le x _).trans ((aU l).cons x)
theorem xQ (ht:∀ a b c,le a b=true->le b c=true->le a c=true) (hd:∀ a b,le a b=false->le b a=true) (x:A):∀ {l:List A},l.Pairwise (fun a b=>le a b=true)->(LW le x l).Pairwise fun a b=>le a b=true
 | [],_=>by simp [LW]
 | y::l,h=>by
  simp [LW];cases hc:le x y with
  | true =>
   grind [List.pairwise_cons]
  | false =>
   simp only [cond_false];rw [List.pairwise_cons] at h ⊢;refine ⟨fun z hz=>?_,xQ ht hd x h.2⟩
   rcases List.mem_cons.1 ((FN le x l).subset hz) with rfl | hz
   ·grind
   grind
theorem kL (ht:∀ a b c,le a b=true->le b c=true->le a c=true) (hd:∀ a b,le a b=false->le b a=true):∀ (l:List A),(aD le l).Pairwise fun a b=>le a b=true
 | []=>by simp [aD]
 | x::l=>xQ le ht hd x (kL ht hd l)
theorem rW (ha:∀ a b,le a b=true->le b a=true->a=b):∀ {l m:List A},l.Perm m->l.Pairwise (fun a b=>le a b=true)->m.Pairwise (fun a b=>le a b=true)->l=m
 | [],m,h,_,_=>(List.nil_perm.1 h).symm
 | x::l,[],h,_,_=>by simp at h
 | x::l,y::m,h,hl,hm=>by
  have e:x=y:=by
   rcases List.mem_cons.1 (h.subset (show x∈x::l by simp)) with e | hx
   ·exact e
   ·rcases List.mem_cons.1 (h.symm.subset (show y∈y::m by simp)) with e | hy
    ·grind
    ·exact ha _ _ (List.rel_of_pairwise_cons hl hy) (List.rel_of_pairwise_cons hm hx)
  subst e;rw [rW ha h.cons_inv (List.Pairwise.of_cons hl) (List.Pairwise.of_cons hm)]
end
def leI (a b:Int):Bool:=decide (a<=b)
def WW (l:List Int):List Int:=aD leI l
theorem aET {l m:List Int} (h:l.Perm m) (hm:m.Pairwise fun a b=>lt1 a b=true):WW l=m:=by
 refine rW leI (fun a b h1 h2=>?_) ((aU leI l).trans h) (kL leI (fun a b c h1 h2=>?_) (fun a b h1=>?_) l) (hm.imp ?_)
 ·grind [leI]
 ·grind [leI]
 ·grind [leI]
 grind [leI,lt1]
def leT (a b:Int×Int):Bool:=!iZ b.1 b.2 a.1 a.2
def kZ (l:List (Int×Int)):List (Int×Int):=aD leT l
def Land.hold (L:Land):List Int:=jR.filter L.th
def Land.owned (L:Land) (o:Int):List Int:=L.hold.filter fun h=>decide ((L.own h).getD 0=o)
def Land.uses (L:Land) (o p day:Int):Int:=cH ((L.owned o).map fun h=>L.use h p day)
def vA (p:Pas) (day:Int):Bool:=if p.hi<p.lo then decide (p.lo<=Int.tmod day 360) || decide (Int.tmod day 360<=p.hi) else within (Int.tmod day 360) p.lo p.hi
def WX (id day:Int) (x:Dd):Bool:=decide (x.pa=id)&&decide (day<=x.un)
def Land.open (L:Land) (p:Pas) (day:Int):Bool:=((L.gates.reverse.find? (WX p.id day)).map fun x=>decide (x.kind=7)).getD (vA p day)
def eM {A:Type} (l:List A):List (Nat×A):=(l.zipIdx.map fun e=>(e.2,e.1)).reverse
theorem QU {A:Type} (l:List A):(eM l).map (·.2)=l.reverse:=by
 unfold eM;rw [List.map_reverse,List.map_map];congr 1;exact List.zipIdx_map_fst 0 l
theorem xR {A:Type} {step:List CV->List CV->Option Ou} (g:A->List CV) (q:A->Bool) (R:A->Ou) (v:List CV) (hR:∀ a l,R a≠.nx l) (h1:∀ a,q a=false->step (g a) v=some (.nx v)) (h2:∀ a,q a=true->step (g a) v=some (R a)) :
  ∀ (l:List A),uX step (l.map g) v=some (((l.find? q).map R).getD (.nx v))
 | []=>rfl
 | a::l=>by
  rw [List.map_cons,uX];cases hq:q a with
  | true =>
   grind
  | false =>
   rw [h1 a hq,List.find?_cons_of_neg (by grind)]
   exact xR g q R v hR h1 h2 l
theorem xS {A S:Type} {step:List CV->List CV->Option Ou} (g:A->List CV) (E:S->List CV) (f:S->A->S) (I:S->List A->Prop) (hs:∀ s a l,I s (a::l)->step (g a) (E s)=some (.nx (E (f s a)))/\I (f s a) l) :
  ∀ (l:List A) (s:S),I s l->uX step (l.map g) (E s)=some (.nx (E (l.foldl f s)))
 | [],s,_=>rfl
 | a::l,s,h=>by
  rw [List.map_cons,uX,(hs s a l h).1];exact xS g E f I hs l (f s a) (hs s a l h).2
structure Hd where
 (h0 h1 h2 h3 h4 h5 h6 h7 h8 h9:Int)
def Hd.l (h:Hd):List Int:=[h.h0,h.h1,h.h2,h.h3,h.h4,h.h5,h.h6,h.h7,h.h8,h.h9]
def Hd.cv (h:Hd):List CV:=[ci h.h0,ci h.h1,ci h.h2,ci h.h3,ci h.h4,ci h.h5,ci h.h6,ci h.h7,ci h.h8,ci h.h9]
def Hd.ok (h:Hd):Bool:=decide (h.h0=0)&&h.l.all fun n=>within n 0 1000
def LX (p d:Int) (b:By):Bool:=decide (b.pa=p)&&decide (b.fr<=d)
def pJ (bl:List By) (p d:Int):Option By:=bl.reverse.find? (LX p d)
def mP:List Int->List Int->List Int
 | a::l,b::m=>a*b::mP l m
 | _,_=>[]
def nX (b:By) (h:Hd):Int:=cH (mP h.l b.q)
def bars:List Int->List Int->List Int
 | a::l,b::m=>(if b=0 then a else 0)::bars l m
 | _,_=>[]
def fW (b:By) (h:Hd):Int:=cH (bars h.l b.q)
def dN (k:Int) (s:(Int×Int->Bool)×List Int) (e:Nat×Dd):(Int×Int->Bool)×List Int:=
 if k<e.2.kn\/s.1 (e.2.m,e.2.no)=true then s else (if e.2.kind=0 then fun q=>decide (q=(e.2.om,e.2.on)) || s.1 q else s.1,s.2++[(e.1:Int)])
def dV (ds:List Dd) (k:Int):List Int:=((eM ds).foldl (dN k) (fun _=>false,[])).2.reverse
def leD (a b:Dd):Bool:=decide (a.day<=b.day)
def gD (ds:List Dd) (day:Int) (l:List Int):List Dd:=l.filterMap fun i=>(ds[i.toNat]?).bind fun x=>if x.kind=0 then none else if x.day<=day then some x else none
def gE (ds:List Dd) (day k:Int):List Dd:=aD leD (gD ds day (dV ds k))
def aK (c:Cm) (day k:Int):Land:=(gE c.ds day k).foldl (bK c.ps) Land.z
def gB (c:Cm) (o:Int) (p:Pas) (d k:Int):Int:=if (aK c d k).open p d then (aK c d k).uses o p.id d else 0
def partOf (b:By) (s:Int):Int:=b.q.getD s.toNat 0
def tL (parts may:Int):Int:=if parts=0 then 0 else min (Int.tdiv may parts) 1000
def QV (c:Cm) (o:Int) (p:Pas) (s d k:Int):Int×Int:=match pJ c.bl p.id d with
 | none=>(0,26)
 | some b=>(tL (partOf b s) (gB c o p d k),0)
def Cm.less (c:Cm) (i:Nat):Cm:=⟨c.ps,c.bl,c.ds.eraseIdx i⟩
variable {ds:List Dd} {k:Int}
theorem lY {day:Int} {x:Dd} (h:x∈gE ds day k):x∈ds/\x.kind≠0/\x.day<=day:=by
 have h1:=(aU leD _).subset h;unfold gD at h1;grind
theorem WY {step:List CV->Option Ou} {b:Nat} (hs:∀ (A:List Int) (a:Int) (M:List Int) (c:Int) (B:List Int),(A++a::(M++c::B)).length<=1000000->step [ci (A.length:Int),ci ((A.length+M.length+1:Nat):Int),.row 1 ((A++a::(M++c::B)).map fun x=>[ci x])]=some (.nx [ci ((A.length+1:Nat):Int),ci ((A.length+M.length:Nat):Int),.row 1 ((A++c::(M++a::B)).map fun x=>[ci x])]))
  (he:∀ (i j:Int) es,j<=i->step [ci i,ci j,.row 1 es]=some (.br b [.row 1 es])):∀ (n:Nat) (A M B:List Int),M.length<=n->(A++M++B).length<=1000000 ->
  aL step [ci (A.length:Int),ci ((A.length:Int)+M.length - 1),.row 1 ((A++M++B).map fun x=>[ci x])]=some (.br b [.row 1 ((A++M.reverse++B).map fun x=>[ci x])])
 | n,A,[],B,_,_=>bH (he (A.length:Int) _ ((A++[]++B).map fun x=>[ci x]) (by grind)) (by simp)
 | n,A,[x],B,_,_=>bH (he (A.length:Int) _ ((A++[x]++B).map fun x=>[ci x]) (by simp)) (by simp)
 | 0,A,a::a'::M,B,hn,_=>by grind
 | n+1,A,a::a'::M,B,hn,hl=>by
  obtain ⟨M',c,hM⟩:∃ M' c,a'::M=M'++[c]:=by
   refine ⟨(a'::M).dropLast,(a'::M).getLast (by simp),?_⟩
   rw [List.dropLast_concat_getLast]
  rw [hM] at hn hl ⊢;have e1:A++a::(M'++[c])++B=A++a::(M'++c::B):=by simp
  have e2:(A.length:Int)+((a::(M'++[c])).length:Nat) - 1=((A.length+M'.length+1:Nat):Int):=by simp;omega
  rw [e1] at hl ⊢;rw [e2,eB (hs A a M' c B hl)];have e3:A++c::(M'++a::B)=(A++[c])++M'++(a::B):=by simp
  have e4:((A.length+1:Nat):Int)=((A++[c]).length:Int):=by simp
  have e5:((A.length+M'.length:Nat):Int)=((A++[c]).length:Int)+M'.length - 1:=by simp;omega
  rw [e3,e4,e5];rw [WY hs he n (A++[c]) M' (a::B) (by simp at hn;omega) (by simp at hl ⊢;omega)]
  simp
def jC (ps:List Pas) (p:Int):Option Pas:=ps.find? fun q=>decide (q.id=p)
def bA (d:Int):Bool:=within d 0 100000
def CZ (c:Cm) (o p s d k:Int):Int×Int:=
 if c.ok then (if within o 1 99&&within s 1 9 then (match jC c.ps p with
  | some q=>if bA d&&bA k then QV c o q s d k else (0,6)
  | none=>(0,20)) else (0,1)) else (0,23)
def aEU (c:Cm) (o:Int) (q:Pas) (h:Hd) (d k:Int):Int×Int:=match pJ c.bl q.id d with
 | none=>(0,26)
 | some b=>if 0<fW b h then (- fW b h,0) else (max 0 (nX b h - gB c o q d k),0)
def pN (c:Cm) (o p:Int) (h:Hd) (d k:Int):Int×Int:=
 if c.ok then (if within o 1 99 then (match jC c.ps p with
  | some q=>if h.ok then (if bA d&&bA k then aEU c o q h d k else (0,6)) else (0,25)
  | none=>(0,20)) else (0,1)) else (0,23)
def LY (c:Cm) (k:Int):List (Int×Int)×Int:=if c.ok then (if bA k then (kZ (aK c 100000 k).vd,0) else ([],6)) else ([],23)
def WZ (c:Cm) (d k1 k2:Int):List Int:=jR.filter fun o=>c.ps.any fun p=>!decide (gB c o p d k1=gB c o p d k2)
def xT (c:Cm) (d k1 k2:Int):List Int×Int:=if c.ok then (if bA d&&bA k1&&bA k2 then (WZ c d k1 k2,0) else ([],6)) else ([],23)
def aAr (c:Cm) (o:Int) (p:Pas) (d k:Int):List (Int×Int):=(List.range c.ds.length).filterMap fun i=>if gB (c.less i) o p d k=gB c o p d k then none else (c.ds[i]?).map fun x=>(x.m,x.no)
def LZ (c:Cm) (o p d k:Int):List (Int×Int)×Int:=
 if c.ok then (if within o 1 99 then (match jC c.ps p with
  | some q=>if bA d&&bA k then (aAr c o q d k,0) else ([],6)
  | none=>([],20)) else ([],1)) else ([],23)
def cmS:Cm:=⟨[⟨1,90,270⟩,⟨2,300,60⟩],[⟨1,1,0,0,60,0,12,0,0,0,0,0,0⟩,⟨2,1,360,0,60,0,20,0,0,0,0,0,0⟩],
 [⟨0,0,1,1,1,1,0,5,0,0,0,0,0⟩,⟨0,1,1,1,1,2,0,6,0,0,0,0,0⟩,⟨0,2,2,2,2,1,0,0,1,300,0,0,0⟩,⟨0,3,4,100,100,1,2,0,1,60,0,0,0⟩,⟨0,4,6,110,110,1,2,0,1,120,200,0,0⟩,⟨0,5,5,150,150,2,1,0,0,0,0,0,0⟩,⟨0,6,8,120,120,0,0,0,1,0,130,0,0⟩,⟨0,7,0,0,400,0,0,0,0,0,0,0,3⟩]⟩
def fX (l:List Dd):Prop:=l.Pairwise fun a b=>a.day<=b.day
def onD (d:Int) (x:Dd):Bool:=decide (x.day=d)
def aEV (l r:List Dd):Prop:=fX r/\∀ d,r.filter (onD d)=l.filter (onD d)
theorem QW (x:Dd) (d:Int):∀ (l:List Dd),(LW leD x l).filter (onD d)=(x::l).filter (onD d)
 | []=>rfl
 | y::l=>by
  simp [LW];cases hc:leD x y with
  | true=>rfl
  | false =>
   have hlt:y.day<x.day:=by grind [leD,decide_eq_false_iff_not]
   simp;rw [List.filter_cons,QW x d l,List.filter_cons,List.filter_cons,List.filter_cons]
   by_cases h1:x.day=d
   ·have h2:¬y.day=d:=by omega
    simp [onD,h1,h2]
   ·simp [onD,h1]
variable {l:List Dd}
theorem TO (x:Dd) (h:fX l):fX (LW leD x l):=by
 have:=xQ leD (fun a b c h1 h2=>by grind [leD]) (fun a b h1=>by grind [leD]) x (l:=l) (h.imp fun h=>decide_eq_true h)
 exact this.imp fun h=>of_decide_eq_true h
theorem dJ:∀ (l:List Dd),aEV l (aD leD l)
 | []=>⟨List.Pairwise.nil,fun _=>rfl⟩
 | x::l=>by
  have ih:=dJ l;refine ⟨TO x ih.1,fun d=>?_⟩
  simp [aD];rw [QW,List.filter_cons,ih.2,List.filter_cons]
theorem HC:∀ {r s:List Dd},fX r->fX s->(∀ d,r.filter (onD d)=s.filter (onD d))->r=s
 | [],[],_,_,_=>rfl
 | [],b::s,_,_,h=>by have:=h b.day;grind [onD]
 | a::r,[],_,_,h=>by have:=h a.day;grind [onD]
 | a::r,b::s,hr,hs,h=>by
  have Jo:=List.pairwise_cons.1 hr;have sq:=List.pairwise_cons.1 hs
  have h1:b.day<=a.day:=by
   have e:=h a.day;have hm:a∈(b::s).filter (onD a.day):=by rw [<- e];simp [onD]
   rcases List.mem_cons.1 (List.mem_filter.1 hm).1 with e | hm
   ·subst e;omega
   ·exact sq.1 a hm
  have h2:a.day<=b.day:=by
   have e:=h b.day;have hm:b∈(a::r).filter (onD b.day):=by rw [e];simp [onD]
   rcases List.mem_cons.1 (List.mem_filter.1 hm).1 with e | hm
   ·subst e;omega
   ·exact Jo.1 b hm
  have hd:a.day=b.day:=by omega
  have e:=h a.day;rw [List.filter_cons_of_pos (by simp [onD]),List.filter_cons_of_pos (by simp [onD,hd])] at e
  injection e with e1 e2
  subst e1;rw [HC Jo.2 sq.2 fun d=>?_]
  have:=h d
  by_cases hdd:a.day=d
  ·rw [List.filter_cons_of_pos (by simp [onD,hdd]),List.filter_cons_of_pos (by simp [onD,hdd])] at this
   injection this
  ·rw [List.filter_cons_of_neg (by simp [onD,hdd]),List.filter_cons_of_neg (by simp [onD,hdd])] at this
   exact this
theorem qC {r:List Dd} (h:aEV l r):r=aD leD l:=
 HC h.1 (dJ l).1 fun d=>(h.2 d).trans ((dJ l).2 d).symm
theorem zN (h:fX l):aD leD l=l:=(qC ⟨h,fun _=>rfl⟩).symm
theorem XA {X Y:List Dd} (hf:∀ d,(X++Y).filter (onD d)=l.filter (onD d)) (h:∀ x∈X,∀ y∈Y,x.day<=y.day):aD leD X++aD leD Y=aD leD l:=by
 refine qC ⟨?_,fun d=>?_⟩
 ·unfold fX
  rw [List.pairwise_append];refine ⟨(dJ X).1,(dJ Y).1,fun x hx y hy=>h x ((aU leD X).subset hx) y ((aU leD Y).subset hy)⟩
 ·rw [List.filter_append,(dJ X).2,(dJ Y).2,<- hf d,List.filter_append]
theorem zO {m:List Dd} (h:∀ d,l.filter (onD d)=m.filter (onD d)):aD leD l=aD leD m:=
 qC ⟨(dJ l).1,fun d=>((dJ l).2 d).trans (h d)⟩
theorem tM {X Y:List Dd} (h:∀ x∈X,∀ y∈Y,x.day≠y.day) (d:Int):(X++Y).filter (onD d)=(Y++X).filter (onD d):=by
 grind [List.filter_eq_nil_iff,onD]
def vB (x:Dd):List Dd->List Dd->List Dd
 | [],P=>x::P
 | y::r,P=>cond (decide (x.day<y.day)) (vB x r (y::P)) ((y::r).reverse++x::P)
theorem HD (x:Dd):∀ (r P:List Dd),fX (r.reverse++P)->(∀ y∈P,x.day<y.day)->aEV (r.reverse++P++[x]) (vB x r P)
 | [],P,h,hP=>by
  refine ⟨?_,fun d=>?_⟩
  ·grind [vB,fX]
  ·exact tM (X:=[x]) (fun a ha y hy=>by grind) d
 | y::r,P,h,hP=>by
  simp only [vB]
  by_cases hc:x.day<y.day
  ·have h':fX (r.reverse++(y::P)):=by grind
   have:=HD x r (y::P) h' (fun z hz=>by
    grind)
   grind
  ·rw [decide_eq_false hc,cond_false]
   have h0:=List.pairwise_append.1 h;refine ⟨?_,fun d=>?_⟩
   ·unfold fX
    grind
   ·rw [List.append_assoc,List.filter_append,List.filter_append (l₁:=(y::r).reverse)]
    congr 1;exact tM (X:=[x]) (fun a ha y hy=>by grind) d
theorem tN {q:Dd->Bool} (h:∀ y∈l,q y=false):fU q l=0:=by
 unfold fU;rw [List.filter_eq_nil_iff.2 (by simpa using h)];rfl
def sdS (k:Int) (x:Dd) (s:(Int×Int->Bool)×List Dd):(Int×Int->Bool)×List Dd:=
 if k<x.kn\/s.1 (x.m,x.no)=true then s else (if x.kind=0 then fun q=>decide (q=(x.om,x.on)) || s.1 q else s.1,x::s.2)
def sd (k:Int) (l:List Dd):(Int×Int->Bool)×List Dd:=l.foldr (sdS k) (fun _=>false,[])
def rF (day:Int) (x:Dd):Bool:=!decide (x.kind=0)&&decide (x.day<=day)
theorem vD (k:Int) (x:Dd) (l:List Dd):sd k (x::l)=sdS k x (sd k l):=rfl
theorem aE1 (ds:List Dd) (k:Int):∀ (Q:List Dd) (n:Nat),(∀ j,ds[n+j]? = Q[j]?) ->
  ((Q.zipIdx n).foldr (fun e s=>dN k s (e.2,e.1)) (fun _=>false,[])).1=(sd k Q).1 /\
  ((Q.zipIdx n).foldr (fun e s=>dN k s (e.2,e.1)) (fun _=>false,[])).2.reverse.filterMap (fun i=>ds[i.toNat]?)=(sd k Q).2
 | [],n,_=>by simp [sd]
 | x::Q,n,h=>by
  have ih:=aE1 ds k Q (n+1) fun j=>by
   have:=h (j+1);rw [List.getElem?_cons_succ] at this;rw [<- this];congr 1;omega
  have h0:ds[n]? = some x:=by simpa using h 0
  rw [List.zipIdx_cons,List.foldr_cons,vD];generalize (Q.zipIdx (n+1)).foldr (fun e s=>dN k s (e.2,e.1)) (fun _=>false,[])=r at ih ⊢
  generalize sd k Q=t at ih ⊢;unfold dN sdS;rw [ih.1];split
  ·exact ih
  ·refine ⟨rfl,?_⟩
   simp only [List.reverse_append,List.reverse_singleton,List.singleton_append,List.filterMap_cons,Int.toNat_natCast,h0];rw [ih.2]
theorem HE (ds:List Dd) (day:Int):∀ l:List Int,gD ds day l=(l.filterMap fun i=>ds[i.toNat]?).filter (rF day)
 | []=>rfl
 | i::l=>by
  have ih:=HE ds day l;unfold gD at ih ⊢;rw [List.filterMap_cons,List.filterMap_cons];cases h:ds[i.toNat]? with
  | none=>simpa using ih
  | some x =>
   simp only [Option.bind_some];rw [List.filter_cons];unfold rF at ih ⊢
   by_cases h1:x.kind=0
   ·simp [h1,ih]
   ·by_cases h2:x.day<=day
    ·simp [h1,h2,ih]
    ·simp [h1,h2,ih]
theorem lA (ds:List Dd) (day k:Int):gE ds day k=aD leD ((sd k ds).2.filter (rF day)):=by
 unfold gE;rw [HE];have h:=(aE1 ds k ds 0 fun j=>by simp).2
 have e:dV ds k=((ds.zipIdx 0).foldr (fun e s=>dN k s (e.2,e.1)) (fun _=>false,[])).2.reverse:=by
  unfold dV eM;rw [List.foldl_reverse,List.foldr_map]
 rw [e,h]
theorem aE2 (k:Int) (g:Int×Int->Bool) (t:List Dd):∀ A:List Dd,A.foldr (sdS k) (g,t)=((A.foldr (sdS k) (g,[])).1,(A.foldr (sdS k) (g,[])).2++t)
 | []=>rfl
 | x::A=>by
  rw [List.foldr_cons,List.foldr_cons,aE2 k g t A];generalize A.foldr (sdS k) (g,[])=r;unfold sdS;simp only;split <;> simp
theorem aCT {x:Dd} {day:Int} (hk:x.kn<=k) (h0:x.kind≠0) (hd:x.day=day):gE (ds++[x]) day k=gE ds day k++[x]:=by
 rw [lA,lA]
 have e:(sd k (ds++[x])).2=(sd k ds).2++[x]:=by
  unfold sd;rw [List.foldr_append]
  have:([x].foldr (sdS k) (fun _=>false,[]):(Int×Int->Bool)×List Dd)=(fun _=>false,[x]):=by
   unfold sdS;grind
  rw [this,aE2]
 rw [e,List.filter_append,List.filter_cons,if_pos (by grind [rF]),List.filter_nil]
 have:=XA (l:=(sd k ds).2.filter (rF day)++[x]) (X:=(sd k ds).2.filter (rF day)) (Y:=[x]) (fun _=>rfl) fun y hy z hz=>by
  simp_all [rF]
 rw [<- this];rfl
theorem aCU {x:Dd} (h:bL x l<l.length):(l[bL x l]).lt x=false:=by
 grind [bL]
theorem aE3 {o:List Dd} {x:Dd} (hm:x.m=5) (hn:x.no=9999) (aa:∀ y∈ds,y.ok=true) (h:zR ds x=some o):o=ds\/o=ds++[x]:=by
 have A8:(∀ i:Nat,i<ds.length->i<bL x ds)->putAt ds x=ds++[x]:=fun ha=>by
  have:ds.length<=bL x ds:=by
   grind
  unfold putAt;grind [List.take_of_length_le]
 unfold zR at h;split at h
 ·rename_i y hy
  cases hs:jW y x with
  | true =>
   grind
  | false =>
   obtain ⟨hl,e⟩:=List.getElem?_eq_some_iff.1 hy;have h1:=aCU hl;have h2:=Dd.ok_item (aa y (List.mem_of_getElem? hy));grind [within,jW,Dd.lt,iZ]
 grind
theorem aE4 (L:Land) (o:Int):(L.owned o).Nodup:=(qT.filter _).filter _
theorem aCV {ks:List Int} (g:Int->Int) (hn:ks.Nodup) (h:k∈ks):fA (ks.filter fun x=>!decide (x=k)) g=fA ks g - g k:=by
 induction ks with
 | nil=>grind
 | cons a ks ih =>
  rw [List.nodup_cons] at hn
  by_cases e:a=k
  ·have:(ks.filter fun x=>!decide (x=a))=ks:=List.filter_eq_self.2 fun x hx=>by
    grind
   unfold fA;grind [cH]
  ·have:=ih hn.2 ((List.mem_cons.1 h).resolve_left fun f=>e f.symm)
   unfold fA at this ⊢;grind [cH]
theorem XD (L:Land) (o p d:Int):L.uses o p d=fA (L.owned o) fun h=>L.use h p d:=rfl
theorem RA {o:Int}:h∈L.owned o↔(1<=h/\h<=99)/\L.th h=true/\(L.own h).getD 0=o:=by
 unfold Land.owned Land.hold;rw [List.mem_filter,List.mem_filter,lX,decide_eq_true_eq,and_assoc]
theorem aCW {x:Dd} {o:Int} (hk:x.kind=4\/x.kind=5) (ax:x.tt≠x.ho) (h1:x.ho∈L.owned o) (h2:x.tt∈L.owned o) {q:Pas} (hq:q∈ps):(bK ps L x).uses o q.id x.day=L.uses o q.id x.day:=by
 unfold bK;cases ha:iA ps L x with
 | none=>rfl
 | some L' =>
  have hp:jA ps q.id=true:=by
   unfold jA;grind
  rw [XD,XD];have df:=aE4 L o;rcases hk with hk | hk
  ·simp only [iA,hk,show ¬(4:Int)=1 by decide,show ¬(4:Int)=2 by decide,show ¬(4:Int)=3 by decide,if_true,if_false] at ha
   split at ha <;> cases ha;have eo:Land.owned { L with rt:=fun k=>if k=(x.tt,x.pa) then some (L.g x.tt x.pa+x.pt) else if k=(x.ho,x.pa) then some (L.g x.ho x.pa - x.pt) else L.rt k } o=L.owned o:=rfl
   rw [eo]
   have eu:∀ h,Land.use { L with rt:=fun k=>if k=(x.tt,x.pa) then some (L.g x.tt x.pa+x.pt) else if k=(x.ho,x.pa) then some (L.g x.ho x.pa - x.pt) else L.rt k } h q.id x.day
     = if q.id=x.pa then (if h=x.tt then L.use x.tt q.id x.day+x.pt else if h=x.ho then L.use x.ho q.id x.day - x.pt else L.use h q.id x.day) else L.use h q.id x.day:=fun h=>by
    unfold Land.use Land.free Land.g;grind
   rw [fG fun h _=>eu h]
   by_cases e:q.id=x.pa
   ·simp [if_pos e]
    rw [mO (fun h=>if h=x.ho then L.use x.ho q.id x.day - x.pt else L.use h q.id x.day) _ df h2,mO (fun h=>L.use h q.id x.day) _ df h1,if_neg ax]
    omega
   grind
  ·simp only [iA,hk,show ¬(5:Int)=1 by decide,show ¬(5:Int)=2 by decide,show ¬(5:Int)=3 by decide,show ¬(5:Int)=4 by decide,if_true,if_false] at ha
   split at ha <;> cases ha;rename_i hc;simp at hc
   have eo:Land.owned { L with rt:=fun k=>if jA ps k.2 then (if k.1=x.tt then some (L.g x.tt k.2+L.g x.ho k.2) else if k.1=x.ho then none else L.rt k) else L.rt k,own:=fun h=>if h=x.ho then none else L.own h } o=(L.owned o).filter fun h=>!decide (h=x.ho):=by
    unfold Land.owned Land.hold;rw [List.filter_filter,List.filter_filter,List.filter_filter];unfold Land.th;grind
   rw [eo];have eb:=hc.2;unfold Land.bound at eb
   have eh:L.use x.ho q.id x.day=L.g x.ho q.id:=by
    have z1:fU (jB x.ho q.id x.day) L.lets=0:=tN fun y hy=>by
     simp_all [jB]
    have z2:fU (toQ x.ho q.id x.day) L.lets=0:=tN fun y hy=>by
     simp_all [toQ]
    unfold Land.use Land.free;omega
   have eu:∀ h∈(L.owned o).filter fun h=>!decide (h=x.ho),Land.use { L with rt:=fun k=>if jA ps k.2 then (if k.1=x.tt then some (L.g x.tt k.2+L.g x.ho k.2) else if k.1=x.ho then none else L.rt k) else L.rt k,own:=fun h=>if h=x.ho then none else L.own h } h q.id x.day
     = if h=x.tt then L.use x.tt q.id x.day+L.use x.ho q.id x.day else L.use h q.id x.day:=fun h hh=>by
    rw [eh];unfold Land.use Land.free Land.g;grind
   rw [fG eu,mO (fun h=>L.use h q.id x.day) _ (df.filter _) (List.mem_filter.2 ⟨h2,by grind⟩),aCV _ df h1]
   omega
end Go.Stint
namespace Go.Proofs.YtfgdfpnkhdlmfaaGreat
open Go Go.Sx
set_option maxRecDepth 100000
abbrev liB:List Sh:=[.lf li,.lf li,.lf li,.lf li,.lf li,.lf li,.lf li,.lf li,.lf li,.lf li,.lf li,.lf li,.lf li]
abbrev rg (l:List Nat):HT:=.reg [] l none []
abbrev rq (l:List Nat) (x:HT):HT:=.two (rg l) x
def fe3:FE:=⟨108,[.tmp 4],rq [1,2] (rq [1,2,5] (.two (rq [1,2,5,20] (.cond none (rq [7] (rq [4] .nil)) .nil)) (rq [2,5,8] (rq [2,5,8,9,10] (rq [2,8,9,10,11,12] (rq [2,9,10,11,12,13] (.two (.reg [] [] (some ⟨[2,9,10,11,12,13],[(14,.lf lb)],[],[]⟩) []) (.two (rq [2,9,10,11,12,13,14,76] (.cond (some ⟨[9,10,11,12],[(14,.lf lb)],[],[]⟩) (.reg [] [] (some ⟨[9,10,11,12],[(14,.lf lb)],[],[]⟩) []) .nil)) (rq [4] .nil))))))))),⟨[.agg [li,li,li],.one li],[.one lb]⟩⟩
def aKb:FE:=⟨158,[.tmp 6],rq [1,3,5] (rq [1,3,5,7,8] (rq [3,5,7,8,9,10] (.two (.two (.reg [] [] (some ⟨[3,5],[(49,.lf lb)],[],[]⟩) []) (.cond none (rq [6] .nil) .nil)) (.two (rq [3,5,52] (.cond none (rq [6] .nil) .nil)) (rq [3,5,11] (rq [3,5,11,12] (rq [3,5,11,12,13] (.two (rq [3,5,11,12,13,60,61,62] (.blk ⟨[3,11],[(12,.own 0),(13,.lf (Lf.row 13))],[],[(0,56,13,none)]⟩ (.lp [.mk 12 56 13] ⟨[3,5,11,60,61],[(12,.own 0),(13,.lf (Lf.row 13)),(62,.lf li)],[],[(0,56,13,none)]⟩ (rq [3,5,11,12,13,60,61,62,63] (.two (.cond none .nil .nil) (.two (.thru (rq [3,5,11,12,13,14,15,60,61,62] (rq [3,5,11,12,13,15,60,61,62,76] (.cond (some ⟨[3,5,11,60,61,62],[(12,.own 0),(13,.lf (Lf.row 13))],[],[(0,56,13,none)]⟩) (rg [3,5,11,12,13,60,61,62]) (.reg [] [3,5,11,12,13,60,61,62] none [(some 13,⟨[],[],[],[]⟩,.rt [.fz 1])]))))) (rg [3,5,11,12,13,60,61,62]))))))) (.two (.reg [] [3,11,12,13,16,17] none [(some 89,⟨[],[],[],[]⟩,.rt [.fz 0])]) (rq [3,11,12,13,17,18,19] (.two (.two (.reg [] [] (some ⟨[3,11,12,13],[(109,.lf lb)],[],[]⟩) []) (.cond none (rq [6] .nil) .nil)) (rq [3,12,13,20] (.two (rq [3,12,20,111,112,113] (.blk ⟨[3,12,20],[],[(7,30,[.lf (Lf.row 3),.lf (Lf.row 13),.lf (Lf.row 13)])],[]⟩ (.lp [] ⟨[3,12,20,111,112],[(113,.lf li)],[(7,30,[.lf (Lf.row 3),.lf (Lf.row 13),.lf (Lf.row 13)])],[]⟩ (rq [3,12,20,111,112,113,114] (.two (.cond none .nil .nil) (.two (.thru (rq [3,12,20,22,111,112,113] (rq [3,12,20,23,24,111,112,113] (.two (rq [3,12,20,23,111,112,113,124] (.cond none (rq [6] .nil) .nil)) (rg [3,12,20,111,112,113]))))) (rg [3,12,20,111,112,113]))))))) (rq [3,12,25,26] (rq [3,25,26,27,28] (rq [6] .nil)))))))))))))))),⟨[.agg [Lf.row 3,Lf.row 13,Lf.row 13],.one (Lf.row 13),.agg [li,li]],[.one lb]⟩⟩
def aKc:FE:=⟨176,[.tmp 6],rq [3,4,5] (.two (.two (.reg [] [] (some ⟨[3,4,5],[(39,.lf lb)],[],[]⟩) []) (.cond none (rq [6] .nil) .nil)) (rq [3,4,5,7,8] (.two (rq [3,4,5,7,48] (.cond none (rq [6] .nil) .nil)) (.two (.two (.reg [] [] (some ⟨[3,4,5,7],[(57,.lf lb)],[],[]⟩) []) (.cond none (rq [6] .nil) .nil)) (rq [3,4,5,7,9] (rq [3,4,5,7,9,10] (rq [3,4,5,10,11] (rq [3,4,5,10,11,12,13] (rq [3,4,5,10,11,12,13,14,15] (.two (.two (.reg [] [] (some ⟨[3,4,5,10,11,12,14],[(102,.lf lb)],[],[]⟩) []) (.cond none (rq [6] .nil) .nil)) (.two (rq [3,4,5,10,11,12,105] (.cond none (rq [6] .nil) .nil)) (rq [3,4,5,12,16] (.two (rq [3,4,5,12,16,118] (.cond (some ⟨[3,4,12,16],[],[(3,56,liB)],[]⟩) (rq [3,4,5,12,16] (rq [3,4,5,12,16] (rg [3,4,12,16]))) .nil)) (rq [3,4,12,17,18] (.two (rq [3,4,12,17,18,144] (.cond none (rq [6] .nil) .nil)) (rq [4,12,17,19,20] (rq [19,20,21,22] (rq [6] .nil)))))))))))))))))),⟨[.agg [Lf.row 3,Lf.row 13,Lf.row 13],.agg [li,li],.agg [li,li,li,li]],[.one lb]⟩⟩
def aL2:FE:=⟨134,[.tmp 2],rq [1] (.two (.two (.reg [] [] (some ⟨[1],[(24,.lf lb)],[],[]⟩) []) (.cond none (rq [2] .nil) .nil)) (.two (rq [1,26,27,28] (.blk ⟨[1],[],[],[]⟩ (.lp [] ⟨[1,26,27],[(28,.lf li)],[],[]⟩ (rq [1,26,27,28,29] (.two (.cond none .nil .nil) (.two (.thru (rq [1,3,4,26,27,28] (.two (.reg [] [] (some ⟨[1,26,27,28],[(51,.lf lb)],[],[]⟩) []) (.cond none (rq [2] .nil) .nil)))) (rg [1,26,27,28]))))))) (.two (rq [1,54,55,56] (.blk ⟨[1],[],[],[]⟩ (.lp [] ⟨[1,54,55],[(56,.lf li)],[],[]⟩ (rq [1,54,55,56,57] (.two (.cond none .nil .nil) (.two (.thru (rq [1,5,6,54,55,56] (.two (.reg [] [] (some ⟨[1,54,55,56],[(103,.lf lb)],[],[]⟩) []) (.cond none (rq [2] .nil) .nil)))) (rg [1,54,55,56]))))))) (.two (rq [1,106,107,108] (.blk ⟨[],[],[],[]⟩ (.lp [] ⟨[1,106,107],[(108,.lf li)],[],[]⟩ (rq [1,106,107,108,109] (.two (.cond none .nil .nil) (.two (.thru (rq [1,7,8,106,107,108] (.two (.reg [] [] (some ⟨[1,106,107,108],[(132,.lf lb)],[],[]⟩) []) (.cond none (rq [2] .nil) .nil)))) (rg [1,106,107,108]))))))) (rq [2] .nil))))),⟨[.agg [Lf.row 3,Lf.row 13,Lf.row 13]],[.one li]⟩⟩
def aL3:FE:=⟨36,[.tmp 6,.tmp 7],rq [1,3,5] (.two (rq [1,3,5,8] (rq [1,3,5,8,14] (.cond none (rq [6,7] .nil) .nil))) (rq [3,5,9,10] (.two (.thru (rq [3,5,9,22] (.cond none (rq [6,7] .nil) (rq [3,5,9,25] (.cond none (rq [6,7] .nil) .nil))))) (rq [6,7] .nil)))),⟨[.agg [Lf.row 3,Lf.row 13,Lf.row 13],.one li,.agg [li,li]],[.one lb,.one li]⟩⟩
def aL4:FE:=⟨172,[.tmp 0],rq [] (rq [1] (rq [1,2] (rq [1,2,3,4] (rq [1,2,3,4,5,6] (rq [1,2,3,4,5,6,7,8] (rq [1,2,3,4,5,6,7,8,9,10] (rq [1,2,3,4,5,6,7,8,9,10,11,12] (rq [1,2,3,4,5,6,7,8,9,10,11,12,13,14] (rq [1,2,3,4,5,6,7,8,9,10,11,12,13,14,15,16] (rq [1,2,3,4,5,6,7,8,9,10,11,12,13,14,15,16,17,18] (rq [1,2,3,4,5,6,7,8,9,10,11,12,13,14,15,16,17,18,19,20] (rq [3,4,5,6,7,8,9,10,11,12,13,14,15,16,17,18,19,20,21,22] (.two (.reg [] [] (some ⟨[3,5,7,9,11,13,15,17,19,21],[(23,.lf lb)],[],[]⟩) []) (rq [0] .nil)))))))))))))),⟨[],[.one lb]⟩⟩
def aL5:FE:=⟨12,[.tmp 4],rq [0,1] (rq [4] .nil),⟨[.one li,.one li],[.one li]⟩⟩
def aL7:FE:=⟨31,[.tmp 8,.tmp 9],rq [1,2,4,7] (rq [4,7,10] (rq [7,10,11,12] (.two (rq [7,10,11,12,24] (.cond none (rq [8,9] .nil) .nil)) (.two (.reg [] [8,9] none [(some 26,⟨[],[],[],[]⟩,.rf (some 11))]) .nil)))),⟨[.agg [Lf.row 3,Lf.row 13,Lf.row 13],.one li,.one li,.agg [li,li]],[.one li,.one li]⟩⟩
def aL8:FE:=⟨34,[.tmp 6,.tmp 7],rq [1,3,5] (.two (rq [1,3,5,8] (rq [1,3,5,8,14] (.cond none (rq [6,7] .nil) .nil))) (rq [1,3,5,10] (.two (.thru (rq [1,3,5,22] (.cond none (rq [6,7] .nil) (rq [1,3,5,25] (.cond none (rq [6,7] .nil) .nil))))) (rq [6,7] .nil)))),⟨[.agg [Lf.row 3,Lf.row 13,Lf.row 13],.one li,.agg [li,li]],[.one li,.one li]⟩⟩
def aL9:FE:=⟨18,[.tmp 4],rq [2,3] (rq [4] .nil),⟨[.agg [Lf.row 3,Lf.row 13,Lf.row 13],.agg [li,li]],[.one lb]⟩⟩
def aMa:FE:=⟨61,[.tmp 6,.tmp 7],rq [1,3,5] (rq [3,5,8,9] (.two (rq [3,5,8,26] (.cond none (rq [6,7] .nil) .nil)) (rq [3,5,8,10] (.two (rq [3,5,8,10,28,29,30] (.blk ⟨[],[(10,.own 0)],[],[(0,3,1,none)]⟩ (.lp [.mk 10 3 1] ⟨[3,5,8,28,29],[(10,.own 0),(30,.lf li)],[],[(0,3,1,none)]⟩ (rq [3,5,8,10,28,29,30,31] (.two (.cond none .nil .nil) (.two (.thru (rq [3,5,8,10,12,28,29,30] (rq [3,5,8,10,12,13,28,29,30] (.two (rq [3,5,8,10,12,13,28,29,30,34,35,36] (.blk ⟨[3,5,8,10,28,29,30],[(13,.lf li)],[],[]⟩ (.lp [] ⟨[3,5,8,10,12,28,29,30,34,35],[(13,.lf li),(36,.lf li)],[],[]⟩ (rq [3,5,8,10,12,13,28,29,30,34,35,36,37] (.two (.cond none .nil .nil) (.two (.thru (rq [3,5,8,10,12,13,15,28,29,30,34,35,36] (rq [3,5,8,10,12,13,16,17,28,29,30,34,35,36] (.two (rq [3,5,8,10,12,13,16,28,29,30,34,35,36,50] (.cond none (rq [6,7] .nil) .nil)) (rg [3,5,8,10,12,13,28,29,30,34,35,36]))))) (rg [3,5,8,10,12,13,28,29,30,34,35,36]))))))) (rg [3,5,8,10,28,29,30]))))) (rg [3,5,8,10,28,29,30]))))))) (rq [6,7] .nil))))),⟨[.agg [Lf.row 3,Lf.row 13,Lf.row 13],.one li,.agg [li,li]],[.one (Lf.row 1),.one lb]⟩⟩
def aMb:FE:=⟨26,[.tmp 4],rq [0,1] (.two (rq [0,1,10] (.cond none (rq [4] .nil) .nil)) (.two (rq [0,1,12,13] (.blk ⟨[],[],[],[]⟩ (.lp [] ⟨[0,1,12],[(13,.lf li)],[],[]⟩ (rq [0,1,12,13,14] (.two (.cond none .nil .nil) (.two (.thru (rq [0,1,5,12,13] (rq [0,1,12,13,24] (.cond none (rq [4] .nil) .nil)))) (rg [0,1,12,13]))))))) (rq [4] .nil))),⟨[.one (Lf.row 1),.one (Lf.row 1)],[.one lb]⟩⟩
def aMc:FE:=⟨50,[.tmp 10,.tmp 11],rq [1,2,3,5,9] (.two (rq [1,2,3,5,9,12] (rq [1,2,3,5,9,12,18] (.cond none (rq [10,11] .nil) .nil))) (rq [1,3,5,9,13,14] (.two (.thru (.two (.reg [] [] (some ⟨[1,3,5,9,13,14],[(26,.lf lb)],[],[]⟩) []) (.cond none (rq [10,11] .nil) (rq [1,3,5,9,13,35] (.cond none (rq [10,11] .nil) (rq [1,3,5,9,13,38] (.cond none (rq [10,11] .nil) .nil))))))) (rq [10,11] .nil)))),⟨[.agg [Lf.row 3,Lf.row 13,Lf.row 13],.one li,.one li,.one li,.agg [li,li]],[.one li,.one li]⟩⟩
def aMe:FE:=⟨85,[.tmp 10,.tmp 11],rq [1,2,5,8,9] (.two (rq [1,2,5,8,9,12] (rq [1,2,5,8,9,12,23] (.cond none (rq [10,11] .nil) .nil))) (rq [1,2,5,8,9,13,14] (.two (.thru (rq [1,2,5,8,9,13,14,31] (.cond none (rq [10,11] .nil) (rq [1,2,5,8,9,13,35] (.cond none (rq [10,11] .nil) (rq [1,2,5,8,9,13,38] (.cond none (rq [10,11] .nil) (rq [1,2,5,8,9,13,42] (.cond none (rq [10,11] .nil) .nil))))))))) (rq [1,5,8,9,13,15,16] (.two (rq [1,5,8,9,13,15,16,55] (.cond none (rq [10,11] .nil) .nil)) (rq [1,5,8,9,13,15,17] (.two (rq [1,5,8,9,13,15,17,57,58] (.blk ⟨[1,5,8,9,13,15],[(17,.lf li)],[],[]⟩ (.lp [] ⟨[1,5,8,9,13,15,57],[(17,.lf li),(58,.lf li)],[],[]⟩ (rq [1,5,8,9,13,15,17,57,58,59] (.two (.cond none .nil .nil) (.two (.thru (rq [1,5,8,9,13,15,17,18,19,57,58] (rq [1,5,8,9,13,15,17,19,57,58,66] (.cond (some ⟨[1,5,8,9,13,15,57,58],[(17,.lf li)],[],[]⟩) (rg [1,5,8,9,13,15,17,57,58]) .nil)))) (rg [1,5,8,9,13,15,17,57,58]))))))) (.two (rq [1,5,8,9,13,15,17,72] (.cond none (rq [10,11] .nil) .nil)) (rq [10,11] .nil))))))))),⟨[.agg [Lf.row 3,Lf.row 13,Lf.row 13],.one li,.one li,.agg [li,li,li,li,li,li,li,li,li,li],.agg [li,li]],[.one li,.one li]⟩⟩
def aMf:FE:=⟨19,[.tmp 4,.tmp 5],rq [2,3] (.two (rq [2,3,6] (rq [2,3,6,10] (.cond none (rq [4,5] .nil) .nil))) (.two (rq [2,3,14] (.cond none (rq [4,5] .nil) .nil)) (rq [4,5] .nil))),⟨[.agg [Lf.row 3,Lf.row 13,Lf.row 13],.agg [li,li]],[.one (Lf.row 1),.one li]⟩⟩
def aMg:FE:=⟨43,[.tmp 8,.tmp 9],rq [2,3,4,5] (.two (rq [2,3,4,5,10] (rq [2,3,4,5,10,16] (.cond none (rq [8,9] .nil) .nil))) (.two (.two (.reg [] [] (some ⟨[2,3,4,5],[(30,.lf lb)],[],[]⟩) []) (.cond none (rq [8,9] .nil) .nil)) (rq [4,5,11,12] (.two (.reg [] [8,9] none [(some 42,⟨[],[],[],[]⟩,.rt [.fz 0,.fz 1,.fb 0,.fb 1])]) .nil)))),⟨[.agg [Lf.row 3,Lf.row 13,Lf.row 13],.one li,.one li,.one li],[.one (Lf.row 1),.one li]⟩⟩
def aMh:FE:=⟨76,[.tmp 8,.tmp 9],rq [1,2,4,7] (.two (rq [1,2,4,7,10] (rq [1,2,4,7,10,21] (.cond none (rq [8,9] .nil) .nil))) (rq [1,4,7,11,12] (.two (.thru (rq [1,4,7,11,12,29] (.cond none (rq [8,9] .nil) (rq [1,4,7,11,33] (.cond none (rq [8,9] .nil) (rq [1,4,7,11,36] (.cond none (rq [8,9] .nil) .nil))))))) (rq [1,4,7,11,13] (rq [1,4,7,11,13,14] (.two (rq [1,4,7,11,13,14,46,47,48] (.blk ⟨[],[(14,.own 0)],[],[(0,54,2,none)]⟩ (.lp [.mk 14 54 2] ⟨[1,4,7,11,13,46,47],[(14,.own 0),(48,.lf li)],[],[(0,54,2,none)]⟩ (rq [1,4,7,11,13,14,46,47,48,49] (.two (.cond none .nil .nil) (.two (.thru (rq [1,4,7,11,13,14,15,16,46,47,48] (.two (.reg [] [1,4,7,11,13,14,15,16,17,46,47,48] none [(some 54,⟨[1,4,7,11,13,14,15,16,46,47,48],[(54,.tp false [.own 1,.own 2,.own 3])],[],[(1,25,3,none),(2,63,13,none),(3,56,13,none)]⟩,rq [1,2] (rq [1,2,3] (rq [1,2,3] (rq [1,2,3] (rq [2,3] (rq [2] .nil))))))]) (.two (.reg [] [1,4,7,11,13,14,16,17,46,47,48] none [(some 60,⟨[],[],[],[]⟩,.mt true)]) (rq [1,4,7,11,13,14,16,46,47,48,68] (.cond (some ⟨[1,4,7,11,13,46,47,48],[(14,.own 0)],[],[(0,54,2,none)]⟩) (rg [1,4,7,11,13,14,46,47,48]) .nil)))))) (rg [1,4,7,11,13,14,46,47,48]))))))) (rq [8,9] .nil))))))),⟨[.agg [Lf.row 3,Lf.row 13,Lf.row 13],.one li,.one li,.agg [li,li]],[.one (Lf.row 2),.one li]⟩⟩
def aMi:FE:=⟨26,[.tmp 4],rq [0,1] (.two (rq [0,1,10] (.cond none (rq [4] .nil) .nil)) (.two (rq [0,1,12,13] (.blk ⟨[],[],[],[]⟩ (.lp [] ⟨[0,1,12],[(13,.lf li)],[],[]⟩ (rq [0,1,12,13,14] (.two (.cond none .nil .nil) (.two (.thru (rq [0,1,5,12,13] (rq [0,1,12,13,24] (.cond none (rq [4] .nil) .nil)))) (rg [0,1,12,13]))))))) (rq [4] .nil))),⟨[.one (Lf.row 2),.one (Lf.row 2)],[.one lb]⟩⟩
def aMk:FE:=⟨26,[.tmp 4,.tmp 5],rq [1,2] (.two (rq [1,2,6] (rq [1,2,6,11] (.cond none (rq [4,5] .nil) .nil))) (.two (rq [1,2,15] (.cond none (rq [4,5] .nil) .nil)) (.two (.reg [] [7] none [(some 19,⟨[],[],[],[]⟩,.nb 115 [none,some (2097264,2),some (2097263,2),some (3145841,3),some (56,13),some (56,13),some (54,2)])]) (.two (.reg [] [7] none [(some 24,⟨[],[],[],[]⟩,.mt false)]) (rq [4,5] .nil))))),⟨[.agg [Lf.row 3,Lf.row 13,Lf.row 13],.one li],[.one (Lf.row 2),.one li]⟩⟩
def aMl:FE:=⟨38,[.tmp 6,.tmp 7],rq [1,3,5] (.two (rq [1,3,5,8] (rq [1,3,5,8,14] (.cond none (rq [6,7] .nil) .nil))) (.two (.thru (rq [1,3,5,16] (.cond none (rq [6,7] .nil) (rq [1,3,5,20] (.cond none (rq [6,7] .nil) .nil))))) (rq [9,10] (.two (rq [9,36] (.cond none (rq [6,7] .nil) .nil)) (rq [6,7] .nil))))),⟨[.agg [Lf.row 3,Lf.row 13,Lf.row 13],.one li,.agg [li,li]],[.one li,.one li]⟩⟩
def aMm:FE:=⟨27,[.tmp 6,.tmp 7],rq [1,3,5] (.two (rq [1,3,5,8] (rq [1,3,5,8,12] (.cond none (rq [6,7] .nil) .nil))) (.two (.thru (rq [1,3,5,14] (.cond none (rq [6,7] .nil) (rq [1,3,5,18] (.cond none (rq [6,7] .nil) .nil))))) (rq [6,7] .nil))),⟨[.agg [Lf.row 3,Lf.row 13,Lf.row 13],.one li,.agg [li,li]],[.one (Lf.row 1),.one li]⟩⟩
def aMn:FE:=⟨12,[.cell 4 30,.tmp 5],rq [2,3,4] (.two (.reg [] [4,5] none [(some 9,⟨[],[],[],[]⟩,.rt [.fz 0])]) .nil),⟨[.agg [Lf.row 3,Lf.row 13,Lf.row 13],.agg liA],[.agg [Lf.row 3,Lf.row 13,Lf.row 13],.one li]⟩⟩
def aMp:FE:=⟨67,[.tmp 4],rq [2,3] (.two (.two (.reg [] [] (some ⟨[2,3],[(30,.lf lb)],[],[]⟩) []) (.cond none (rq [4] .nil) .nil)) (.two (rq [2,3,33,34] (.blk ⟨[2,3],[],[],[]⟩ (.lp [] ⟨[2,3,33],[(34,.lf li)],[],[]⟩ (rq [2,3,33,34,35] (.two (.cond none .nil .nil) (.two (.thru (rq [2,3,5,33,34] (rq [2,3,33,34,47] (.cond none (rq [4] .nil) .nil)))) (rg [2,3,33,34]))))))) (.two (rq [2,3,51,52] (.blk ⟨[],[],[],[]⟩ (.lp [] ⟨[2,3,51],[(52,.lf li)],[],[]⟩ (rq [2,3,51,52,53] (.two (.cond none .nil .nil) (.two (.thru (rq [2,3,6,51,52] (rq [2,3,51,52,65] (.cond none (rq [4] .nil) .nil)))) (rg [2,3,51,52]))))))) (rq [4] .nil)))),⟨[.agg [Lf.row 3,Lf.row 13,Lf.row 13],.agg [Lf.row 3,Lf.row 13,Lf.row 13]],[.one lb]⟩⟩
def aMq:FE:=⟨21,[.tmp 2],rq [1] (.two (.two (.reg [] [] (some ⟨[],[(20,.lf lb)],[],[]⟩) []) (.cond none (rq [2] .nil) .nil)) (rq [2] .nil)),⟨[.agg [li,li,li]],[.one li]⟩⟩
def aMr:FE:=⟨21,[.tmp 2],rq [1] (.two (.two (.reg [] [] (some ⟨[],[(20,.lf lb)],[],[]⟩) []) (.cond none (rq [2] .nil) .nil)) (rq [2] .nil)),⟨[.agg [li,li,li]],[.one li]⟩⟩
def aMs:FE:=⟨30,[.tmp 2],rq [1] (.two (.two (.reg [.fb 0] [] (some ⟨[],[(29,.lf lb)],[],[]⟩) []) (.cond none (rq [2] .nil) .nil)) (rq [2] .nil)),⟨[.agg liA],[.one li]⟩⟩
def aMt:FE:=⟨38,[.tmp 2],rq [1] (.two (.reg [] [] (some ⟨[1],[(3,.lf lb)],[],[]⟩) []) (.two (rq [3,26,27] (.blk ⟨[],[(3,.lf lb)],[],[]⟩ (.lp [] ⟨[26],[(3,.lf lb),(27,.lf li)],[],[]⟩ (rq [3,26,27,28] (.two (.cond none .nil .nil) (.two (.thru (rq [3,5,26,27] (.reg [] [] (some ⟨[26,27],[(3,.lf lb)],[],[]⟩) []))) (rg [3,26,27]))))))) (.two (rq [37] (.cond none (rq [2] .nil) .nil)) (rq [2] .nil)))),⟨[.agg liA],[.one li]⟩⟩
def aMu:FE:=⟨129,[.tmp 2],rq [1] (.two (.two (.reg [] [] (some ⟨[1],[(15,.lf lb)],[],[]⟩) []) (.cond none (rq [2] .nil) .nil)) (.two (rq [1,18] (.cond none (.two (.two (.reg [] [] (some ⟨[],[(51,.lf lb)],[],[]⟩) []) (.cond none (rq [2] .nil) .nil)) (rq [2] .nil)) .nil)) (rq [1,3,4] (.two (.reg [] [] (some ⟨[1,3,4],[(5,.lf lb)],[],[]⟩) []) (.two (.two (.reg [] [] (some ⟨[],[(128,.lf lb)],[],[]⟩) []) (.cond none (rq [2] .nil) .nil)) (rq [2] .nil)))))),⟨[.agg liA],[.one li]⟩⟩
def aMv:FE:=⟨144,[.tmp 2],rq [1] (rq [1,3,4] (.two (.reg [] [] (some ⟨[1],[(5,.lf lb)],[],[]⟩) []) (.two (rq [1,5,33] (.thru (rq [1,5,33,81] (.cond (some ⟨[],[(5,.lf lb)],[],[]⟩) (.reg [] [] (some ⟨[],[(5,.lf lb)],[],[]⟩) []) (.two (rq [1,5,33,112] (.cond (some ⟨[1,5,33],[(112,.lf lb)],[],[]⟩) .nil (rg [1,5,33,112]))) (.cond (some ⟨[],[(5,.lf lb)],[],[]⟩) (.reg [] [] (some ⟨[],[(5,.lf lb)],[],[]⟩) []) (.two (rq [1,5,33,126] (.cond (some ⟨[1,5],[(126,.lf lb)],[],[]⟩) .nil (rg [1,5,126]))) (.cond (some ⟨[],[(5,.lf lb)],[],[]⟩) (.reg [] [] (some ⟨[],[(5,.lf lb)],[],[]⟩) []) (.two (.reg [] [] (some ⟨[1],[(5,.lf lb)],[],[]⟩) []) (.two (rq [1,5,42] (.cond (some ⟨[1],[(5,.lf lb)],[],[]⟩) (.reg [] [] (some ⟨[1],[(5,.lf lb)],[],[]⟩) []) .nil)) (.two (rq [1,5,58] (.cond (some ⟨[1],[(5,.lf lb)],[],[]⟩) (.reg [] [] (some ⟨[1],[(5,.lf lb)],[],[]⟩) []) .nil)) (rq [1,5,72] (.cond (some ⟨[],[(5,.lf lb)],[],[]⟩) (.reg [] [] (some ⟨[],[(5,.lf lb)],[],[]⟩) []) .nil))))))))))))) (.two (rq [143] (.cond none (rq [2] .nil) .nil)) (rq [2] .nil))))),⟨[.agg liA],[.one li]⟩⟩
def aMw:FE:=⟨72,[.tmp 2],rq [1] (rq [1,4] (rq [1,4,6] (rq [1,4,6,8] (.two (.two (.reg [] [] (some ⟨[1],[(53,.lf lb)],[],[]⟩) []) (.cond none (rq [2] .nil) .nil)) (rq [1,9] (rq [1,9,10] (.two (.two (.reg [] [] (some ⟨[],[(71,.lf lb)],[],[]⟩) []) (.cond none (rq [2] .nil) .nil)) (rq [2] .nil)))))))),⟨[.agg [Lf.row 3,Lf.row 13,Lf.row 13]],[.one li]⟩⟩
def aMx:FE:=⟨53,[.cell 4 30,.tmp 5],rq [1,2,4] (.two (rq [1,2,4,6] (rq [1,2,4,6,16] (.cond none (rq [4,5] .nil) .nil))) (.two (.reg [] [1,4,7] none [(some 20,⟨[1,4],[(20,.tp false [.own 0,.own 1,.own 2])],[],[(0,25,3,none),(1,63,13,none),(2,56,13,none)]⟩,rq [1,2] (rq [1,2,3] (rq [1,2,3] (rq [1,2,3] (rq [2,3] (rq [2] .nil))))))]) (.two (rq [4,7,21,22,23] (.blk ⟨[4,7],[],[(1,30,[.lf (Lf.row 3),.lf (Lf.row 13),.lf (Lf.row 13)]),(2,30,[.own 0,.own 1,.own 2])],[(0,25,3,none),(1,63,13,none),(2,56,13,none)]⟩ (.lp [] ⟨[4,7,21,22],[(23,.lf li)],[(1,30,[.lf (Lf.row 3),.lf (Lf.row 13),.lf (Lf.row 13)]),(2,30,[.own 0,.own 1,.own 2])],[(0,25,3,none),(1,63,13,none),(2,56,13,none)]⟩ (rq [4,7,21,22,23,24] (.two (.cond none .nil .nil) (.two (.thru (rq [4,7,9,21,22,23] (.two (rq [4,7,9,10,21,22,23] (rq [4,7,9,10,21,22,23,30] (.cond none (rq [4,5] .nil) .nil))) (.sel (.reg [] [4,7,11,12,21,22,23] none [(some 37,⟨[4,7,21,22,23],[(37,.tp true [.own 2,.lf li])],[(2,30,[.own 0,.own 1,.any])],[(0,25,3,none),(1,63,13,none),(2,56,13,none)]⟩,.in2 ⟨[4,7,21,22,23],[(37,.tp true [.own 3,.lf li])],[],[(2,56,13,some 0),(3,56,13,none)]⟩ 2 (rq [0,3] (rq [0,3,6,7] (.two (.thru (.two (.reg [] [] (some ⟨[0,3,6,7],[(14,.lf lb)],[],[]⟩) []) (.cond none (rq [4,5] .nil) (rq [0,3,6,25] (.cond none (rq [4,5] (.rt [.mk 4 56 13])) .nil))))) (.two (.reg [] [4,5] none [(some 31,⟨[],[],[],[]⟩,.pre [.fz 3] .ins)]) .nil)))))]) 3 (.two (rq [4,7,11,12,21,22,23,41] (.cond none (rq [4,5] .nil) .nil)) (rg [4,7,21,22,23])) (.two (rq [4,7,11,12,21,22,23,41] (.cond none (rq [4,5] .nil) .nil)) .nil))))) (rg [4,7,21,22,23]))))))) (.two (rq [4,7,50] (.cond none (rq [4,5] .nil) .nil)) (rq [4,5] .nil))))),⟨[.agg [Lf.row 3,Lf.row 13,Lf.row 13],.one (Lf.row 13)],[.agg [Lf.row 3,Lf.row 13,Lf.row 13],.one li]⟩⟩
def aMy:FE:=⟨29,[.cell 4 30,.tmp 5],rq [1,2,4] (.two (rq [1,2,4,6] (rq [1,2,4,6,12] (.cond none (rq [4,5] .nil) .nil))) (rq [2,4,7,8] (.two (rq [2,4,7,8,23] (.cond none (rq [4,5] .nil) .nil)) (rq [2,4] (rq [4,5] .nil))))),⟨[.agg [Lf.row 3,Lf.row 13,Lf.row 13],.one (Lf.row 13)],[.agg [Lf.row 3,Lf.row 13,Lf.row 13],.one li]⟩⟩
def aMz:FE:=⟨20,[.tmp 4],rq [2,3] (.two (rq [2,3,9] (.cond none (rq [4] .nil) .nil)) (rq [4] .nil)),⟨[.agg [li,li],.agg [li,li]],[.one lb]⟩⟩
def aMA:FE:=⟨12,[.cell 4 25,.tmp 5],rq [2,3,4] (rq [4,5] .nil),⟨[.agg [Lf.row 3,Lf.row 13,Lf.row 13],.one li],[.agg [li,li,li],.one lb]⟩⟩
def aMB:FE:=⟨11,[.tmp 2],rq [1] (rq [2] .nil),⟨[.agg [li,li]],[.one lb]⟩⟩
def aKd:FE:=⟨53,[.tmp 4],(.bx 115 [none,some (2097264,2),some (2097263,2),some (3145841,3),some (56,13),some (56,13),some (54,2)] (rq [2,3] (rq [2,3,5] (.two (rq [2,3,5,16,17,18] (.blk ⟨[2,3,5],[],[],[(0,2097263,2,some 0)]⟩ (.lp [] ⟨[2,3,5,16,17],[(18,.lf li)],[],[(0,2097263,2,some 0)]⟩ (rq [2,3,5,16,17,18,19] (.two (.cond none .nil .nil) (.two (.thru (rq [2,3,5,7,16,17,18] (rg [2,3,5,16,17,18]))) (rg [2,3,5,16,17,18]))))))) (.two (.two (.reg [.fz 0,.mkb 2 4 56 13,.mkb 2 5 56 13,.mkb 2 6 54 2] [5,31] none []) (.rg (.clo [.agg liA]) ⟨[5,31],[],[(2,115,[.lf (Lf.mp 1),.own 1,.own 2,.own 3,.own 4,.own 5,.own 6])],[(1,2097264,2,none),(2,2097263,2,none),(3,3145841,3,none),(4,56,13,none),(5,56,13,none),(6,54,2,none)]⟩ (rg [5,8]) (.thru (.two (.reg [] [5,8,40] none [(some 39,⟨[5,8],[(39,.lf lb)],[(2,115,[.lf (Lf.mp 1),.own 1,.own 2,.own 3,.own 4,.own 5,.own 6])],[(1,2097264,2,none),(2,2097263,2,none),(3,3145841,3,none),(4,56,13,none),(5,56,13,none),(6,54,2,none)]⟩,.fv [173,174,175,176,177,178,179] (.alt 173 (rq [0,3] (.two (rq [0,3,11] (.cond none (rq [4] .nil) .nil)) (rq [] (rq [4] .nil)))) (.alt 174 (rq [0,3] (.two (.two (.reg [] [] (some ⟨[0,3],[(29,.lf lb)],[],[]⟩) []) (.cond none (rq [4] .nil) .nil)) (rq [] (rq [4] .nil)))) (.alt 175 (rq [0,3] (.two (.two (.reg [] [0,3,9] none [(some 8,⟨[0,3],[(8,.lf lb)],[],[]⟩,rq [0,1] (rq [6] (rq [4] .nil)))]) (.cond none (rq [4] .nil) .nil)) (rq [] (rq [4] .nil)))) (.alt 176 (rq [0,3] (rq [0,3,5] (.two (.two (.reg [] [] (some ⟨[0,3,5],[(24,.lf lb)],[],[]⟩) []) (.cond none (rq [4] .nil) .nil)) (rq [0,3] (rq [] (rq [4] .nil)))))) (.alt 177 (rq [0,3] (rq [0,3,6] (.two (.two (.reg [] [] (some ⟨[0,3],[(24,.lf lb)],[],[]⟩) [(some 20,⟨[0,3,6],[(20,.lf lb)],[],[]⟩,rq [0,3] (.two (.reg [] [4] none [(some 8,⟨[0,3],[(8,.lf lb)],[],[]⟩,rq [0,1] (rq [6] (rq [4] .nil))),(some 13,⟨[9],[(13,.lf lb)],[],[]⟩,rq [0,1] (rq [6] (rq [4] .nil)))]) .nil))]) (.cond none (rq [4] .nil) .nil)) (.two (.mr [] [] ⟨[0,3],[],[],[(3,3145841,3,some 0)]⟩ [] (rq [0,3,7,8,29] (rq [0,3,8,29] (rg [0,3,29])))) (rq [] (rq [4] .nil)))))) (.alt 178 (rq [0,3] (.two (.two (.reg [] [] (some ⟨[0,3],[(22,.lf lb)],[],[]⟩) []) (.cond none (rq [4] .nil) .nil)) (rq [] (rq [4] .nil)))) (rq [0,3] (.two (rq [0,3,12] (.cond none (rq [4] .nil) .nil)) (rq [] (rq [4] .nil)))))))))))]) (.cond (some ⟨[],[],[(2,115,[.lf (Lf.mp 1),.own 1,.own 2,.own 3,.own 4,.own 5,.own 6])],[(1,2097264,2,none),(2,2097263,2,none),(3,3145841,3,none),(4,56,13,none),(5,56,13,none),(6,54,2,none)]⟩) (rg []) .nil))))) (rq [4] .nil)))))),⟨[.agg [Lf.row 3,Lf.row 13,Lf.row 13],.agg [li,li]],[.one Lf.ref]⟩⟩
def aMC:FE:=⟨60,[.cell 6 4],rq [0,4,5,6] (.two (rq [4,5,6,14] (.rg (.clo [.one li,.agg liA]) ⟨[4,5,6,14],[],[(2,4,[.lf lb])],[]⟩ (rg [4,5,6,8]) (.thru (.two (.reg [] [] (some ⟨[6,8],[(27,.lf lb)],[],[]⟩) []) (.cond none (rq [6] .nil) .nil))))) (rq [4,6,9] (.two (rq [4,6,9,39] (.cond none (rq [6] .nil) .nil)) (rq [6] .nil)))),⟨[.one Lf.ref,.agg [li,li,li],.one li],[.one lb]⟩⟩
def aMD:FE:=⟨33,[.cell 0 30],rq [0] (rq [0,1] (rq [0,1] (rq [0,1] (rq [0] .nil)))),⟨[],[.agg [Lf.row 3,Lf.row 13,Lf.row 13]]⟩⟩
def aME:FE:=⟨45,[.tmp 6,.tmp 7],rq [3,4,5] (.two (rq [3,4,5,8] (rq [3,4,5,8,15] (.cond none (rq [6,7] .nil) .nil))) (rq [3,4,5,10] (.two (.thru (rq [3,4,5,10,24] (.cond none (rq [6,7] .nil) (rq [3,4,5,29] (.cond none (rq [6,7] .nil) (rq [3,4,5,32] (.cond none (rq [6,7] .nil) .nil))))))) (rq [4,11] (.two (rq [11,43] (.cond none (rq [6,7] .nil) .nil)) (rq [6,7] .nil)))))),⟨[.agg [Lf.row 3,Lf.row 13,Lf.row 13],.agg [li,li],.agg [li,li]],[.one Lf.raw,.one li]⟩⟩
def aMF:FE:=⟨47,[.tmp 6],rq [0,2,4] (rq [0,2,4,7] (.two (rq [2,4,7,17,18,19] (.blk ⟨[],[(7,.lf li)],[],[]⟩ (.lp [] ⟨[2,4,17,18],[(7,.lf li),(19,.lf li)],[],[]⟩ (rq [2,4,7,17,18,19,20] (.two (.cond none .nil .nil) (.two (.thru (rq [2,4,7,9,17,18,19] (.two (.reg [] [] (some ⟨[2,4,7,9,17,18,19],[(40,.lf lb)],[],[]⟩) []) (.cond (some ⟨[2,4,17,18,19],[(7,.lf li)],[],[]⟩) (rg [2,4,7,17,18,19]) .nil)))) (rg [2,4,7,17,18,19]))))))) (rq [6] .nil))),⟨[.one Lf.ref,.agg [li,li],.one li],[.one li]⟩⟩
def aMG:FE:=⟨26,[.tmp 4],rq [0,1] (rq [0,1,5] (.two (.mr [] [] ⟨[1],[(5,.lf li)],[],[]⟩ [] (rq [1,5,7,12,21] (.cond (some ⟨[1],[(5,.lf li)],[],[]⟩) (rg [1,5,12]) .nil))) (rq [4] .nil))),⟨[.one Lf.ref,.one li],[.one li]⟩⟩
def aMH:FE:=⟨9,[.tmp 2],rq [0] (rq [2] .nil),⟨[.one li],[.one lb]⟩⟩
def aMI:FE:=⟨15,[.tmp 6],rq [0,1,2] (rq [6] .nil),⟨[.one li,.one li,.one li],[.one lb]⟩⟩
def aMJ:FE:=⟨44,[.tmp 10,.tmp 11],rq [1,3,5,7,9] (rq [1,3,5,7,9,12,13] (.two (.two (.reg [] [] (some ⟨[1,3,5,7,9,12,13],[(31,.lf lb)],[],[]⟩) []) (.cond none (rq [10,11] .nil) .nil)) (rq [10,11] .nil))),⟨[.agg [Lf.row 3,Lf.row 13,Lf.row 13],.one li,.agg [li,li,li],.one li,.agg [li,li]],[.one li,.one li]⟩⟩
def aMK:FE:=⟨27,[.cell 6 63,.cell 7 31],rq [3,4,5,6,7] (.two (rq [4,5,6,7,12] (.rg (.clo [.one li,.agg liA]) ⟨[4,5,6,7,12],[],[(3,63,liB),(4,31,[.lf li])],[]⟩ (rg [4,5,6,7,9]) (.thru (.two (.reg [] [] (some ⟨[6,7,9],[(24,.lf lb)],[],[]⟩) []) (.cond none (rq [6,7] .nil) .nil))))) (rq [6,7] .nil)),⟨[.agg [Lf.row 3,Lf.row 13,Lf.row 13],.one li,.one li],[.agg liA,.one li]⟩⟩
def aML:FE:=⟨11,[.tmp 2],rq [1] (.two (.reg [.fb 0] [2] none []) .nil),⟨[.agg [li,li,li,li,li,li,li,li,li,li]],[.one lb]⟩⟩
def aMM:FE:=⟨23,[.tmp 4],rq [2,3] (rq [2,3,5] (.two (rq [2,5,8,9] (.blk ⟨[],[(5,.lf li)],[],[]⟩ (.lp [] ⟨[2,8],[(5,.lf li),(9,.lf li)],[],[]⟩ (rq [2,5,8,9,10] (.two (.cond none .nil .nil) (.two (.thru (rq [2,5,6,7,8,9] (rg [2,5,8,9]))) (rg [2,5,8,9]))))))) (rq [4] .nil))),⟨[.agg liA,.agg [li,li,li,li,li,li,li,li,li,li]],[.one li]⟩⟩
def aMN:FE:=⟨26,[.tmp 8],rq [1,4,6,7] (rq [1,6,7,9] (.two (rq [1,6,7,9,18] (.cond none (rq [8] .nil) .nil)) (rq [8] .nil))),⟨[.agg [Lf.row 3,Lf.row 13,Lf.row 13],.one li,.agg [li,li,li],.agg [li,li]],[.one li]⟩⟩
def aMO:FE:=⟨21,[.tmp 2],rq [0] (rq [0,3] (.two (.mr [.mk 3 3 1] [] ⟨[],[(3,.own 0)],[],[(0,3,1,none)]⟩ [] (rg [3,9])) (.two (.reg [] [3] none [(some 19,⟨[],[],[],[]⟩,.mt false)]) (rq [2] .nil)))),⟨[.one Lf.ref],[.one (Lf.row 1)]⟩⟩
def aMP:FE:=⟨17,[.tmp 2],rq [0] (rq [0,3] (.two (rq [0,3,4] (.blk ⟨[],[(3,.own 0)],[],[(0,3,1,none)]⟩ (.lp [.mk 3 3 1] ⟨[0],[(3,.own 0),(4,.lf li)],[],[(0,3,1,none)]⟩ (.two (rq [0,3,4,6] (.cond none .nil .nil)) (.two (.thru (rq [0,3,4,11] (.cond (some ⟨[0,4],[(3,.own 0)],[],[(0,3,1,none)]⟩) (rg [0,3,4]) .nil))) (rg [0,3,4])))))) (rq [2] .nil))),⟨[.one Lf.raw],[.one (Lf.row 1)]⟩⟩
def aMQ:FE:=⟨17,[.tmp 6],rq [1,2,3,4,5] (rq [8] (rq [6] .nil)),⟨[.one li,.one Lf.ref,.one Lf.ref,.one Lf.ref,.one Lf.ref],[.one lb]⟩⟩
def aMR:FE:=⟨21,[.cell 4 25,.tmp 5],rq [0,1,4] (.two (rq [1,4,9,10,11] (.blk ⟨[4],[],[(0,25,[.lf li,.lf li,.lf li])],[]⟩ (.lp [] ⟨[1,4,9,10],[(11,.lf li)],[(0,25,[.lf li,.lf li,.lf li])],[]⟩ (rq [1,4,9,10,11,12] (.two (.cond none .nil .nil) (.two (.thru (rq [1,4,7,9,10,11] (rq [1,4,7,9,10,11,17] (.cond none (rq [4,5] .nil) .nil)))) (rg [1,4,9,10,11]))))))) (rq [4,8] (rq [4,5] .nil))),⟨[.one (Lf.row 3),.one Lf.raw],[.agg [li,li,li],.one lb]⟩⟩
def aMS:FE:=⟨16,[.tmp 6],rq [1,2,3,4,5] (rq [3,4,7] (.two (.reg [.fb 0] [6] none [(some 10,⟨[],[],[],[]⟩,.rf none),(some 13,⟨[],[],[],[]⟩,.rf none)]) .nil)),⟨[.agg [li,li,li],.one Lf.ref,.one Lf.ref,.one Lf.ref,.one Lf.ref],[.one lb]⟩⟩
def aMT:FE:=⟨17,[.tmp 5],rq [0,1,2,3] (.two (rq [0,1,2,3,10] (.cond none (rq [5] .nil) .nil)) (rq [5] .nil)),⟨[.one Lf.ref,.one Lf.ref,.one Lf.ref,.one Lf.ref],[.one li]⟩⟩
def aKe:FE:=⟨30,[.tmp 8],rq [0,1,2,3] (rq [0,1,2,3,9] (.two (rq [0,2,3,9,14,15,16] (.blk ⟨[],[(9,.lf li)],[],[]⟩ (.lp [] ⟨[0,2,3,14,15],[(9,.lf li),(16,.lf li)],[],[]⟩ (rq [0,2,3,9,14,15,16,17] (.two (.cond none .nil .nil) (.two (.thru (rq [0,2,3,9,11,14,15,16] (rg [0,2,3,9,14,15,16]))) (rg [0,2,3,9,14,15,16]))))))) (rq [8] .nil))),⟨[.one Lf.ref,.one li,.one li,.one li],[.one li]⟩⟩
def aKf:FE:=⟨38,[.tmp 4],rq [2,3] (rq [2,3,5] (rq [2,3,5,6] (.two (.two (.reg [.mkb 3 0 3 1] [3,5,6,12] none []) (.rg (.clo [.one li,.agg liA]) ⟨[3,5,6,12],[],[(3,50,[.own 1])],[(0,3145926,3,some 0),(1,3,1,none)]⟩ (rq [3,5,6,7,14] (rg [3,5,6,7,8])) (.blk ⟨[],[],[(3,50,[.own 1])],[(0,3145926,3,some 0),(1,3,1,none)]⟩ (.two (.two (.reg [] [] (some ⟨[5,6,7,8],[(24,.lf lb)],[],[]⟩) []) (.cond none .nil .nil)) (rq [5,8] (rq [5,8,31] (.cond (some ⟨[],[],[],[(0,3145926,3,some 0)]⟩) (rg []) .nil))))))) (.two (.reg [] [6] none [(some 36,⟨[6],[],[],[(1,3,1,some 0)]⟩,rq [0,2,3] (.blk ⟨[],[],[],[(1,3,1,some 0)]⟩ (.lp [] ⟨[0],[(2,.lf li),(3,.lf li)],[],[(1,3,1,some 0)]⟩ (.two (rq [0,2,3,9] (.cond none .nil .nil)) (.two (.thru (rg [0,2,3])) (rg [0,2,3]))))))]) (rq [4] .nil))))),⟨[.agg [Lf.row 3,Lf.row 13,Lf.row 13],.one li],[.one (Lf.row 1)]⟩⟩
def aKg:FE:=⟨17,[.tmp 4],rq [2,3] (rq [4] .nil),⟨[.agg [li,li],.agg [li,li]],[.one li]⟩⟩
def aKh:FE:=⟨5,[.tmp 2],rq [0] (rq [2] .nil),⟨[.one li],[.one lb]⟩⟩
def aKi:FE:=⟨81,[.tmp 6],rq [0,1,2] (rq [0,1,2,7] (.two (rq [0,1,2,7,17,18,19] (.blk ⟨[0,1,2],[(7,.lf lb)],[],[]⟩ (.lp [] ⟨[0,1,2,17,18],[(7,.lf lb),(19,.lf li)],[],[]⟩ (rq [0,1,2,7,17,18,19,20] (.two (.cond none .nil .nil) (.two (.thru (rq [0,1,2,7,9,17,18,19] (rq [0,1,2,7,9,17,18,19,26] (.cond (some ⟨[0,1,2,17,18,19],[(7,.lf lb)],[],[]⟩) (rq [0,1,2,9,10,17,18,19] (rq [0,1,2,9,10,17,18,19,35] (.cond (some ⟨[0,1,2,17,18,19],[(7,.lf lb)],[],[]⟩) (rg [0,1,2,7,17,18,19]) (.reg [] [] (some ⟨[0,1,2,17,18,19],[(7,.lf lb)],[],[]⟩) [])))) .nil)))) (rg [0,1,2,7,17,18,19]))))))) (.two (rq [1,2,7,60,61,62] (.blk ⟨[],[(7,.lf lb)],[],[]⟩ (.lp [] ⟨[1,2,60,61],[(7,.lf lb),(62,.lf li)],[],[]⟩ (rq [1,2,7,60,61,62,63] (.two (.cond none .nil .nil) (.two (.thru (rq [1,2,7,12,60,61,62] (.two (.reg [] [] (some ⟨[1,2,7,12,60,61,62],[(75,.lf lb)],[],[]⟩) []) (.cond (some ⟨[1,2,60,61,62],[(7,.lf lb)],[],[]⟩) (rg [1,2,7,60,61,62]) .nil)))) (rg [1,2,7,60,61,62]))))))) (rq [6] .nil)))),⟨[.one Lf.ref,.one li,.one li],[.one lb]⟩⟩
def aKj:FE:=⟨5,[.tmp 2],rq [0] (rq [2] .nil),⟨[.one li],[.one lb]⟩⟩
def aKk:FE:=⟨9,[.tmp 4],rq [2,3] (.two (.reg [] [4] none [(some 6,⟨[2,3],[(6,.own 0)],[],[(0,3,1,none)]⟩,rq [0] (rq [0,3] (.two (.mr [.mk 3 3 1] [] ⟨[],[(3,.own 0)],[],[(0,3,1,none)]⟩ [] (rg [3,9])) (.two (.reg [] [3] none [(some 19,⟨[],[],[],[]⟩,.mt false)]) (rq [2] .nil))))),(some 8,⟨[],[(8,.own 0)],[],[(0,3,1,none)]⟩,rq [0,1] (rq [0,1,5] (.two (rq [0,1,5,12] (.cond none (rq [4] .nil) .nil)) (.two (rq [0,1,5,6] (.blk ⟨[0],[(5,.lf li)],[],[(0,3,1,some 0)]⟩ (.lp [] ⟨[0,1],[(5,.lf li),(6,.lf li)],[],[(0,3,1,some 0)]⟩ (.two (rq [0,1,5,6,19] (.cond none .nil .nil)) (.two (.thru (rq [0,1,5,6,7] (rq [0,1,5,6,7,29] (.cond (some ⟨[0,1,6],[(5,.lf li)],[],[(0,3,1,some 0)]⟩) (rq [0,1,5,6] (rg [0,1,5,6])) .nil)))) (rg [0,1,5,6])))))) (rq [0,5] (rq [4] .nil))))))]) .nil),⟨[.one Lf.ref,.one li],[.one (Lf.row 1)]⟩⟩
def aKl:FE:=⟨26,[.tmp 4],rq [0,1] (.two (rq [0,1,10] (.cond none (rq [4] .nil) .nil)) (.two (rq [0,1,12,13] (.blk ⟨[],[],[],[]⟩ (.lp [] ⟨[0,1,12],[(13,.lf li)],[],[]⟩ (rq [0,1,12,13,14] (.two (.cond none .nil .nil) (.two (.thru (rq [0,1,5,12,13] (rq [0,1,12,13,24] (.cond none (rq [4] .nil) .nil)))) (rg [0,1,12,13]))))))) (rq [4] .nil))),⟨[.one (Lf.row 13),.one (Lf.row 13)],[.one lb]⟩⟩
def aKm:FE:=⟨5,[.tmp 2],rq [0] (rq [2] .nil),⟨[.one li],[.one lb]⟩⟩
def aKn:FE:=⟨5,[.tmp 2],rq [0] (rq [2] .nil),⟨[.one li],[.one lb]⟩⟩
def aKo:FE:=⟨15,[.tmp 6],rq [0,1,2] (rq [6] .nil),⟨[.one li,.one li,.one li],[.one lb]⟩⟩
def aKp:FE:=⟨9,[.tmp 4],rq [0,1] (rq [4] .nil),⟨[.one (Lf.row 1),.one Lf.raw],[.one lb]⟩⟩
def aKq:FE:=⟨6,[.tmp 2],rq [0] (rq [2] .nil),⟨[.one li],[.one lb]⟩⟩
def aKr:FE:=⟨11,[.tmp 2],rq [1] (rq [2] .nil),⟨[.agg [li,li]],[.one lb]⟩⟩
def aKs:FE:=⟨26,[.cell 2 162,.tmp 3],rq [0,2] (.two (rq [2,4] (.thru (.two (rq [2,4,5] (.cond (some ⟨[2,4],[(5,.lf lb)],[],[]⟩) .nil (rg [2,4,5]))) (.cond none (rq [2,3] .nil) (rq [2,4,9] (.cond none (rq [2,3] .nil) (rq [2,4,12] (.cond none (rq [2,3] .nil) (rq [2,4,15] (.cond none (rq [2,3] .nil) (rq [2,4,18] (.cond none (rq [2,3] .nil) (.two (rq [2,4,21] (.cond (some ⟨[2],[(21,.lf lb)],[],[]⟩) .nil (rg [2,21]))) (.cond none (rq [2,3] .nil) .nil)))))))))))))) (rq [2,3] .nil)),⟨[.one li],[.agg [lb,lb,lb,lb,lb,lb],.one lb]⟩⟩
def aKt:FE:=⟨16,[.tmp 8],rq [0,1,2,3] (.two (rq [1,2,3,9] (.cond none (rq [8] .nil) .nil)) (rq [8] .nil)),⟨[.one lb,.one li,.one li,.one li],[.one lb]⟩⟩
def aKu:FE:=⟨91,[.cell 2 56,.tmp 3],rq [1,2] (rq [1,2,4] (.two (rq [1,2,4,15] (.thru (rq [1,2,4,15,17] (.cond (some ⟨[2,4],[],[(1,56,liB),(2,56,liB)],[]⟩) (rg [2,4]) (.two (rq [1,2,4,15,22] (.cond (some ⟨[1,2,4,15],[(22,.lf lb)],[],[]⟩) .nil (rg [1,2,4,15,22]))) (.cond (some ⟨[2,4],[],[(1,56,liB),(2,56,liB)],[]⟩) (rq [1,2,4] (rg [2,4])) (rq [1,2,4,15,31] (.cond (some ⟨[2,4],[],[(1,56,liB),(2,56,liB)],[]⟩) (rq [1,2,4] (rq [1,2,4] (rg [2,4]))) (rq [1,2,4,15,42] (.cond (some ⟨[2,4],[],[(1,56,liB),(2,56,liB)],[]⟩) (rq [1,2,4] (rq [1,2,4] (rq [1,2,4] (rg [2,4])))) (rq [1,2,4,15,56] (.cond (some ⟨[2,4],[],[(1,56,liB),(2,56,liB)],[]⟩) (rq [1,2,4] (rg [2,4])) (rq [1,2,4,15,64] (.cond (some ⟨[2,4],[],[(1,56,liB),(2,56,liB)],[]⟩) (rq [1,2,4] (rq [1,2,4] (rq [1,2,4] (rq [1,2,4] (rg [2,4]))))) (.two (rq [1,2,4,15,81] (.cond (some ⟨[1,2,4],[(81,.lf lb)],[],[]⟩) .nil (rg [1,2,4,81]))) (.cond none (rq [1,2,4] (rg [2,4])) (rq [2,3] .nil))))))))))))))))) (rq [2,3] .nil))),⟨[.agg liA],[.agg liA,.one lb]⟩⟩
def aKv:FE:=⟨11,[.tmp 2],rq [1] (rq [2] .nil),⟨[.agg [li,li]],[.one lb]⟩⟩
def aKw:FE:=⟨5,[.tmp 2],rq [0] (rq [2] .nil),⟨[.one li],[.one lb]⟩⟩
def aKx:FE:=⟨6,[.tmp 2],rq [1] (rq [2] .nil),⟨[.agg [li,li,li]],[.one lb]⟩⟩
def aKy:FE:=⟨21,[.cell 4 63,.tmp 5],rq [0,1,4] (.two (rq [1,4,9,10,11] (.blk ⟨[4],[],[(0,63,liB)],[]⟩ (.lp [] ⟨[1,4,9,10],[(11,.lf li)],[(0,63,liB)],[]⟩ (rq [1,4,9,10,11,12] (.two (.cond none .nil .nil) (.two (.thru (rq [1,4,7,9,10,11] (rq [1,4,7,9,10,11,17] (.cond none (rq [4,5] .nil) .nil)))) (rg [1,4,9,10,11]))))))) (rq [4,8] (rq [4,5] .nil))),⟨[.one (Lf.row 13),.one Lf.raw],[.agg liA,.one lb]⟩⟩
def aKz:FE:=⟨6,[.tmp 2],rq [1] (rq [2] .nil),⟨[.agg liA],[.one lb]⟩⟩
def aKA:FE:=⟨21,[.cell 4 56,.tmp 5],rq [0,1,4] (.two (rq [1,4,9,10,11] (.blk ⟨[4],[],[(0,56,liB)],[]⟩ (.lp [] ⟨[1,4,9,10],[(11,.lf li)],[(0,56,liB)],[]⟩ (rq [1,4,9,10,11,12] (.two (.cond none .nil .nil) (.two (.thru (rq [1,4,7,9,10,11] (rq [1,4,7,9,10,11,17] (.cond none (rq [4,5] .nil) .nil)))) (rg [1,4,9,10,11]))))))) (rq [4,8] (rq [4,5] .nil))),⟨[.one (Lf.row 13),.one Lf.raw],[.agg liA,.one lb]⟩⟩
def aKB:FE:=⟨6,[.tmp 2],rq [1] (rq [2] .nil),⟨[.agg liA],[.one lb]⟩⟩
def aKC:FE:=⟨24,[.tmp 4],rq [0,1] (.two (rq [0,1,5] (.blk ⟨[],[],[],[]⟩ (.lp [] ⟨[0,1],[(5,.lf li)],[],[]⟩ (.two (rq [0,1,5,9] (.cond none .nil .nil)) (.two (.thru (rq [0,1,5,23] (.cond none (rq [4] .nil) .nil))) (rg [0,1,5])))))) (rq [4] .nil)),⟨[.one (Lf.row 3),.one Lf.raw],[.one lb]⟩⟩
def aKD:FE:=⟨10,[.tmp 4],rq [2,3] (rq [4] .nil),⟨[.agg [li,li,li],.agg [li,li,li]],[.one li]⟩⟩
def aKE:FE:=⟨24,[.tmp 4],rq [0,1] (.two (rq [0,1,5] (.blk ⟨[],[],[],[]⟩ (.lp [] ⟨[0,1],[(5,.lf li)],[],[]⟩ (.two (rq [0,1,5,9] (.cond none .nil .nil)) (.two (.thru (rq [0,1,5,23] (.cond none (rq [4] .nil) .nil))) (rg [0,1,5])))))) (rq [4] .nil)),⟨[.one (Lf.row 13),.one Lf.raw],[.one lb]⟩⟩
def aKF:FE:=⟨17,[.tmp 4],rq [2,3] (rq [4] .nil),⟨[.agg liA,.agg liA],[.one li]⟩⟩
def aKG:FE:=⟨18,[.tmp 2],rq [0] (rq [0,3] (.two (rq [3,6,7,8] (.blk ⟨[3],[],[],[]⟩ (.lp [] ⟨[3,6,7],[(8,.lf li)],[],[]⟩ (rq [3,6,7,8,9] (.two (.cond none .nil .nil) (.two (.thru (rq [3,5,6,7,8] (rq [3,5,6,7,8,14] (.cond none (rq [2] .nil) .nil)))) (rg [3,6,7,8]))))))) (rq [2] .nil))),⟨[.one (Lf.row 1)],[.one li]⟩⟩
def aKH:FE:=⟨20,[.tmp 4],rq [0,1] (rq [0,1,5] (rq [0,1,5,6] (.two (rq [0,1,6,11] (.cond none (.two (rq [12] (.cond none (rq [4] .nil) .nil)) (rq [4] .nil)) .nil)) (.two (rq [0,1,13] (.cond none (rq [4] .nil) .nil)) (.two (rq [0,1,16] (.cond none (rq [4] .nil) .nil)) (.two (rq [19] (.cond none (rq [4] .nil) .nil)) (rq [4] .nil))))))),⟨[.one li,.one li],[.one li]⟩⟩
def aKI:FE:=⟨24,[.tmp 4],rq [0,1] (.two (rq [0,1,5] (.blk ⟨[],[],[],[]⟩ (.lp [] ⟨[0,1],[(5,.lf li)],[],[]⟩ (.two (rq [0,1,5,9] (.cond none .nil .nil)) (.two (.thru (rq [0,1,5,23] (.cond none (rq [4] .nil) .nil))) (rg [0,1,5])))))) (rq [4] .nil)),⟨[.one (Lf.row 13),.one Lf.raw],[.one lb]⟩⟩
def aKJ:FE:=⟨10,[.tmp 4],rq [2,3] (rq [4] .nil),⟨[.agg liA,.agg liA],[.one li]⟩⟩
def aKK:FE:=⟨75,[.tmp 4,.tmp 5],rq [0,1] (.two (.reg [] [1,6] none [(some 6,⟨[],[],[],[]⟩,.rt [.fz 0])]) (.two (rq [6,13,14,15] (.blk ⟨[],[(6,.lf (Lf.row 13))],[],[]⟩ (.lp [] ⟨[13,14],[(6,.lf (Lf.row 13)),(15,.lf li)],[],[]⟩ (rq [6,13,14,15,16] (.two (.cond none .nil .nil) (.two (.blk ⟨[13,14,15],[(6,.lf (Lf.row 13))],[],[]⟩ (rq [6,8,13,14,15] (.two (rq [6,8,13,14,15,21] (.cond none (rq [4,5] .nil) .nil)) (rq [6,8,9,13,14,15] (.two (.blk ⟨[6,8,13,14,15],[(9,.lf li)],[],[]⟩ (.lp [] ⟨[6,8,13,14,15],[(9,.lf li)],[],[]⟩ (.two (.two (.reg [] [] (some ⟨[6,8,9,13,14,15],[(35,.lf lb)],[],[]⟩) []) (.cond none .nil .nil)) (.thru (rg [6,8,9,13,14,15]))))) (.two (.two (.reg [] [] (some ⟨[6,8,9,13,14,15],[(51,.lf lb)],[],[]⟩) []) (.cond none (.two (rq [6,13,14,15,57] (.cond none (rq [4,5] .nil) .nil)) .nil) .nil)) (.reg [] [6,13,14,15] none [(some 6,⟨[],[],[],[]⟩,.rt [.fz 1])]))))))) (rg [6,13,14,15]))))))) (.two (rq [6,73] (.cond none (rq [4,5] .nil) .nil)) (rq [4,5] .nil)))),⟨[.one (Lf.row 13),.one (Lf.row 13)],[.one (Lf.row 13),.one li]⟩⟩
def aKL:FE:=⟨8,[.tmp 3],rq [1,2] (rq [3] .nil),⟨[.agg [li,li,li],.one Lf.ref],[.one lb]⟩⟩
def aKM:FE:=⟨6,[.tmp 4],rq [2,3] (rq [4] .nil),⟨[.agg [Lf.row 3,Lf.row 13,Lf.row 13],.agg [li,li]],[.one Lf.raw]⟩⟩
def aKN:FE:=⟨3,[.tmp 0],rq [] (rq [0] .nil),⟨[],[.one (Lf.mp 1)]⟩⟩
def aKO:FE:=⟨4,[.tmp 2],rq [1] (rq [2] .nil),⟨[.one (Lf.row 13)],[.one Lf.raw]⟩⟩
def aKP:FE:=⟨17,[.tmp 4],rq [0,1] (rq [6] (rq [4] .nil)),⟨[.one Lf.ref,.one li],[.one lb]⟩⟩
def aKQ:FE:=⟨49,[.tmp 6],rq [0,2,4] (rq [0,2,4,7] (.two (rq [2,4,7,19,20,21] (.blk ⟨[],[(7,.lf li)],[],[]⟩ (.lp [] ⟨[2,4,19,20],[(7,.lf li),(21,.lf li)],[],[]⟩ (rq [2,4,7,19,20,21,22] (.two (.cond none .nil .nil) (.two (.thru (rq [2,4,7,9,19,20,21] (.two (.reg [] [] (some ⟨[2,4,7,9,19,20,21],[(42,.lf lb)],[],[]⟩) []) (.cond (some ⟨[2,4,19,20,21],[(7,.lf li)],[],[]⟩) (rg [2,4,7,19,20,21]) .nil)))) (rg [2,4,7,19,20,21]))))))) (rq [6] .nil))),⟨[.one Lf.ref,.agg [li,li],.one li],[.one li]⟩⟩
def aKR:FE:=⟨4,[.tmp 2],rq [1] (rq [2] .nil),⟨[.one (Lf.row 13)],[.one Lf.raw]⟩⟩
def aKS:FE:=⟨6,[.tmp 2],rq [0] (rq [2] .nil),⟨[.one li],[.one lb]⟩⟩
def aKT:FE:=⟨12,[.tmp 4],rq [0,1] (rq [4] .nil),⟨[.one li,.one li],[.one li]⟩⟩
def aKU:FE:=⟨13,[.tmp 4],rq [0,1,2] (.two (.reg [] [4] none [(some 5,⟨[],[],[],[]⟩,.rf none)]) .nil),⟨[.one li,.one Lf.ref,.one Lf.ref],[.one lb]⟩⟩
def aKV:FE:=⟨19,[.tmp 4],rq [0,1] (.two (rq [0,1,7,8] (.blk ⟨[],[],[],[]⟩ (.lp [] ⟨[0,1,7],[(8,.lf li)],[],[]⟩ (rq [0,1,7,8,9] (.two (.cond none .nil .nil) (.two (.thru (rq [0,1,5,7,8] (rq [0,1,5,7,8,16] (.cond none (rq [4] .nil) .nil)))) (rg [0,1,7,8]))))))) (rq [4] .nil)),⟨[.one (Lf.row 1),.one Lf.raw],[.one li]⟩⟩
def aKW:FE:=⟨6,[.tmp 2],rq [0] (rq [2] .nil),⟨[.one li],[.one lb]⟩⟩
def aKX:FE:=⟨49,[.tmp 6,.tmp 7],rq [0,2,4] (rq [0,2,4,8] (rq [0,2,4,8,9,10] (.two (.blk ⟨[0,2,4,8],[(9,.lf li)],[],[]⟩ (.lp [] ⟨[0,2,4,8],[(9,.lf li),(10,.lf li)],[],[]⟩ (.two (rq [0,2,4,8,9,10,17] (.cond none .nil .nil)) (.thru (rq [0,2,4,8,9,10,11] (rq [0,2,4,8,9,10,11,31] (.cond (some ⟨[0,2,4,8],[(9,.lf li),(10,.lf li)],[],[]⟩) (rg [0,2,4,8,9,10]) (rg [0,2,4,8,9,10])))))))) (rq [6,7] .nil)))),⟨[.one (Lf.row 13),.agg liA,.one Lf.raw],[.one li,.one lb]⟩⟩
def aKY:FE:=⟨10,[.tmp 4],rq [2,3] (rq [4] .nil),⟨[.agg liA,.agg liA],[.one li]⟩⟩
def fe172:FE:=⟨10,[.tmp 4],rq [2,3] (rq [4] .nil),⟨[.agg liA,.agg liA],[.one li]⟩⟩
def aKZ:FE:=⟨15,[.tmp 4],rq [0,3] (rq [4] .nil),⟨[.one Lf.ref,.agg liA],[.one lb]⟩⟩
def aK0:FE:=⟨23,[.tmp 3],rq [1,2] (rq [3] .nil),⟨[.agg liA,.one Lf.ref],[.one lb]⟩⟩
noncomputable def tb:List (Nat×FE×Code):=[(3,fe3,aE Tryz.f3),(13,aKb,aE Tryz.f13),(14,aKc,aE Tryz.f14),(15,aL2,aE Tryz.f15),(16,aL3,aE Tryz.f16),(17,aL4,aE Tryz.f17),(18,aL5,aE Tryz.f18),(21,aL7,aE Tryz.f21),(23,aL8,aE Tryz.f23),(25,aL9,aE Tryz.f25),(26,aMa,aE Tryz.f26),(27,aMb,aE Tryz.f27),(28,aMc,aE Tryz.f28),(30,aMe,aE Tryz.f30),(31,aMf,aE Tryz.f31),(36,aMg,aE Tryz.f36),(38,aMh,aE Tryz.f38),(42,aMi,aE Tryz.f42),(44,aMk,aE Tryz.f44),(50,aMl,aE Tryz.f50),(52,aMm,aE Tryz.f52),(54,aMn,aE Tryz.f54),(56,aMp,aE Tryz.f56),(57,aMq,aE Tryz.f57),(58,aMr,aE Tryz.f58),(59,aMs,aE Tryz.f59),(60,aMt,aE Tryz.f60),(61,aMu,aE Tryz.f61),(62,aMv,aE Tryz.f62),(63,aMw,aE Tryz.f63),(64,aMx,aE Tryz.f64),(65,aMy,aE Tryz.f65),(66,aMz,aE Tryz.f66),(67,aMA,aE Tryz.f67),(68,aMB,aE Tryz.f68),(69,aKd,aE Tryz.f69),(70,aMC,aE Tryz.f70),(71,aMD,aE Tryz.f71),(72,aME,aE Tryz.f72),(79,aMF,aE Tryz.f79),(81,aMG,aE Tryz.f81),(83,aMH,aE Tryz.f83),(84,aMI,aE Tryz.f84),(85,aMJ,aE Tryz.f85),(86,aMK,aE Tryz.f86),(87,aML,aE Tryz.f87),(88,aMM,aE Tryz.f88),(89,aMN,aE Tryz.f89),(90,aMO,aE Tryz.f90),(95,aMP,aE Tryz.f95),(96,aMQ,aE Tryz.f96),(97,aMR,aE Tryz.f97),(98,aMS,aE Tryz.f98),(99,aMT,aE Tryz.f99),(100,aKe,aE Tryz.f100),(110,aKf,aE Tryz.f110),(112,aKg,aE Tryz.f112),(113,aKh,aE Tryz.f113),(115,aKi,aE Tryz.f115),(116,aKj,aE Tryz.f116),(118,aKk,aE Tryz.f118),(119,aKl,aE Tryz.f119),(120,aKm,aE Tryz.f120),(121,aKn,aE Tryz.f121),(122,aKo,aE Tryz.f122),(123,aKp,aE Tryz.f123),(124,aKq,aE Tryz.f124),(125,aKr,aE Tryz.f125),(126,aKs,aE Tryz.f126),(127,aKt,aE Tryz.f127),(128,aKu,aE Tryz.f128),(129,aKv,aE Tryz.f129),(130,aKw,aE Tryz.f130),(131,aKx,aE Tryz.f131),(132,aKy,aE Tryz.f132),(133,aKz,aE Tryz.f133),(134,aKA,aE Tryz.f134),(135,aKB,aE Tryz.f135),(136,aKC,aE Tryz.f136),(137,aKD,aE Tryz.f137),(138,aKE,aE Tryz.f138),(139,aKF,aE Tryz.f139),(140,aKG,aE Tryz.f140),(141,aKH,aE Tryz.f141),(142,aKI,aE Tryz.f142),(143,aKJ,aE Tryz.f143),(145,aKK,aE Tryz.f145),(146,aKL,aE Tryz.f146),(147,aKM,aE Tryz.f147),(148,aKN,aE Tryz.f148),(149,aKO,aE Tryz.f149),(150,aKP,aE Tryz.f150),(153,aKQ,aE Tryz.f153),(154,aKR,aE Tryz.f154),(155,aKS,aE Tryz.f155),(162,aKT,aE Tryz.f162),(164,aKU,aE Tryz.f164),(165,aKV,aE Tryz.f165),(166,aKW,aE Tryz.f166),(167,aKX,aE Tryz.f167),(168,aKY,aE Tryz.f168),(172,fe172,aE Tryz.f172),(199,aKZ,aE Tryz.f199),(200,aK0,aE Tryz.f200)]
noncomputable abbrev sg:FuncId->Option Sig:=wM tb
end Go.Proofs.YtfgdfpnkhdlmfaaGreat
namespace Go.Proofs.YtfgdfpnkhdlmfaaGreat
open Go Go.Sx
abbrev nY:Nat:=14
abbrev cU:Nat:=15
abbrev cY:Nat:=16
abbrev aP:Nat:=17
abbrev dG:Nat:=18
abbrev dH:Nat:=21
abbrev gS:Nat:=23
abbrev cL:Nat:=25
abbrev cM:Nat:=26
abbrev eC:Nat:=27
abbrev iM:Nat:=28
abbrev eD:Nat:=30
abbrev cZ:Nat:=31
abbrev jE:Nat:=36
abbrev lB:Nat:=38
abbrev lJ:Nat:=42
abbrev fL:Nat:=44
abbrev jG:Nat:=50
abbrev lC:Nat:=52
abbrev eJ:Nat:=54
abbrev gM:Nat:=57
abbrev iO:Nat:=58
abbrev dD:Nat:=59
abbrev fD:Nat:=60
abbrev dI:Nat:=61
abbrev fH:Nat:=62
abbrev aI:Nat:=63
abbrev dR:Nat:=64
abbrev rX:Nat:=66
abbrev aR:Nat:=67
abbrev cV:Nat:=68
abbrev bP:Nat:=69
abbrev eE:Nat:=70
abbrev qU:Nat:=71
abbrev fI:Nat:=72
abbrev gV:Nat:=79
abbrev fY:Nat:=81
abbrev oH:Nat:=83
abbrev aY:Nat:=84
abbrev kB:Nat:=85
abbrev dS:Nat:=86
abbrev kD:Nat:=87
abbrev lD:Nat:=88
abbrev dP:Nat:=89
abbrev gT:Nat:=90
abbrev mR:Nat:=95
abbrev lQ:Nat:=96
abbrev eU:Nat:=97
abbrev fZ:Nat:=98
abbrev cO:Nat:=99
abbrev gN:Nat:=100
abbrev oO:Nat:=104
abbrev kM:Nat:=110
abbrev mS:Nat:=111
abbrev lK:Nat:=112
abbrev oP:Nat:=113
abbrev jN:Nat:=116
abbrev gA:Nat:=118
abbrev jO:Nat:=120
abbrev gG:Nat:=121
abbrev cE:Nat:=122
abbrev cA:Nat:=123
abbrev fM:Nat:=124
abbrev mT:Nat:=125
abbrev xU:Nat:=126
abbrev iC:Nat:=127
abbrev qV:Nat:=128
abbrev pW:Nat:=129
abbrev jF:Nat:=130
abbrev kN:Nat:=131
abbrev kY:Nat:=132
abbrev kO:Nat:=133
abbrev gO:Nat:=134
abbrev kP:Nat:=135
abbrev jL:Nat:=136
abbrev nZ:Nat:=137
abbrev kE:Nat:=138
abbrev kQ:Nat:=139
abbrev pX:Nat:=140
abbrev fE:Nat:=141
abbrev lR:Nat:=142
abbrev kR:Nat:=143
abbrev DA:Nat:=147
abbrev vF:Nat:=148
abbrev iP:Nat:=149
abbrev dK:Nat:=150
abbrev eV:Nat:=153
abbrev lF:Nat:=154
abbrev jP:Nat:=155
abbrev jQ:Nat:=156
abbrev eP:Nat:=164
abbrev eF:Nat:=165
abbrev lL:Nat:=166
abbrev dA:Nat:=167
abbrev mU:Nat:=168
abbrev oQ:Nat:=169
abbrev n_stint_done_c1_c1:Nat:=172
abbrev eW:Nat:=199
abbrev fF:Nat:=200
abbrev ITS:=List (Nat×(List CV->Option (List CV)))
noncomputable def D (its:ITS) (n:Nat):Den:=den Tryz.prog tb its n
end Go.Proofs.YtfgdfpnkhdlmfaaGreat
namespace Go.Proofs.YtfgdfpnkhdlmfaaGreat
open Go Go.Sx
set_option maxRecDepth 100000
set_option maxHeartbeats 0
variable (its:ITS) (n:Nat)
noncomputable section
def oS (M:Den) (b0 b1 b2:List (List CV)) (c0 c1:Int):Option Ou:=cD 0 (aL (fun v0=>aA (decide (gi v0 0<il b0)) (chk (inb (gi v0 0) b0)<|chk (oks [li,li,li] (el b0 (gi v0 0)) 0)<|chk (dX [.int .i64] .bool (gr v0 1))<|some (.nx ([ci (wr (gi v0 0+1)),CV.row 2 (bV 1 [ci (gi (el b0 (gi v0 0)) 0)] (cb true) (gr v0 1))]))) (some (.br 0 [CV.row 2 (gr v0 1)]))) ([ci 0,CV.row 2 []])) fun v0=>aB (M DA [CV.row 3 b0,CV.row 13 b1,CV.row 13 b2,ci c0,ci c1]) fun v1=>aN (brO (kK (IC sg M (List.getD v1 0 dC) (.clo [.agg liA])) (fun x2 v2=>aB (M vF []) fun v3=>chk (dX [.int .i64] .fn (gr v3 0))<|aA (sS 173 (aH 1 [ci (gi x2 2)] (Value.nilFunc) (gr v3 0))) (gQ (chk (dX [.int .i64] .bool (gr v2 2))<|aA (cB (aH 1 [ci (gi x2 5)] (.bool false) (gr v2 2))) (some (.ret [cb false,CV.mp 1 (gr v2 0),CV.row 2 (gr v2 1),CV.row 2 (gr v2 2),CV.row 3 (gr v2 3),CV.row 13 (gr v2 4),CV.row 13 (gr v2 5),CV.row 2 (gr v2 6)])) (chk (dX [.int .i64] .bool (gr v2 2))<|chk (dX [.int .i64] (.int .i64) (gr v2 1))<|some (.ret ([cb true,CV.mp 1 (gr v2 0),CV.row 2 (bV 1 [ci (gi x2 5)] (ci (gi x2 7)) (gr v2 1)),CV.row 2 (bV 1 [ci (gi x2 5)] (cb true) (gr v2 2)),CV.row 3 (gr v2 3),CV.row 13 (gr v2 4),CV.row 13 (gr v2 5),CV.row 2 (gr v2 6)])))) fun v4=>aN (aA (!(gb v4 0)) (chk (cJ (List.length (gr v4 7)) 1 16)<|some (.nx ([CV.mp 1 (gr v4 1),CV.row 2 (gr v4 2),CV.row 2 (gr v4 3),CV.row 3 (gr v4 4),CV.row 13 (gr v4 5),CV.row 13 (gr v4 6),CV.row 2 (gr v4 7++(aS 2 1 [ci (gi x2 0),ci (gi x2 1)]))]))) (some (.nx [CV.mp 1 (gr v4 1),CV.row 2 (gr v4 2),CV.row 2 (gr v4 3),CV.row 3 (gr v4 4),CV.row 13 (gr v4 5),CV.row 13 (gr v4 6),CV.row 2 (gr v4 7)]))) fun v5=>some (.nx [CV.mp 1 (gr v5 0),CV.row 2 (gr v5 1),CV.row 2 (gr v5 2),CV.row 3 (gr v5 3),CV.row 13 (gr v5 4),CV.row 13 (gr v5 5),CV.row 2 (gr v5 6)])) (aA (sS 174 (aH 1 [ci (gi x2 2)] (Value.nilFunc) (gr v3 0))) (gQ (aN (aB (M dK ([CV.ref [CV.mp 1 (gr v2 0),CV.mp 1 (gr v2 1),CV.mp 1 (gr v2 2),CV.mp 2 (gr v2 3),CV.row 13 (gr v2 4),CV.row 13 (gr v2 5),CV.row 2 (gr v2 6)],ci (gi x2 5)])) fun v4=>aA (!(gb v4 0)) (some (.nx [cb true])) (chk (dX [.int .i64] .bool (gr v2 0))<|aA (!(cB (aH 1 [ci (gi x2 8)] (.bool false) (gr v2 0)))) (some (.nx [cb true])) (aB (M fY ([CV.ref [CV.mp 1 (gr v2 0),CV.mp 1 (gr v2 1),CV.mp 1 (gr v2 2),CV.mp 2 (gr v2 3),CV.row 13 (gr v2 4),CV.row 13 (gr v2 5),CV.row 2 (gr v2 6)],ci (gi x2 8)])) fun v5=>some (.nx [cb (decide ((wr (gi v5 0+gi x2 9)) > 1000000))])))) fun v4=>aA (gb v4 0) (some (.ret [cb false,CV.mp 1 (gr v2 0),CV.row 2 (gr v2 1),CV.row 2 (gr v2 2),CV.row 3 (gr v2 3),CV.row 13 (gr v2 4),CV.row 13 (gr v2 5),CV.row 2 (gr v2 6)])) (chk (dX [.int .i64,.int .i64] (.int .i64) (gr v2 3))<|chk (dX [.int .i64,.int .i64] (.int .i64) (gr v2 3))<|some (.ret ([cb true,CV.mp 1 (gr v2 0),CV.row 2 (gr v2 1),CV.row 2 (gr v2 2),CV.row 3 (bV 2 [ci (gi x2 5),ci (gi x2 8)] (ci (wr ((cI (aH 2 [ci (gi x2 5),ci (gi x2 8)] (.int .i64 0) (gr v2 3)))+gi x2 9))) (gr v2 3)),CV.row 13 (gr v2 4),CV.row 13 (gr v2 5),CV.row 2 (gr v2 6)])))) fun v4=>aN (aA (!(gb v4 0)) (chk (cJ (List.length (gr v4 7)) 1 16)<|some (.nx ([CV.mp 1 (gr v4 1),CV.row 2 (gr v4 2),CV.row 2 (gr v4 3),CV.row 3 (gr v4 4),CV.row 13 (gr v4 5),CV.row 13 (gr v4 6),CV.row 2 (gr v4 7++(aS 2 1 [ci (gi x2 0),ci (gi x2 1)]))]))) (some (.nx [CV.mp 1 (gr v4 1),CV.row 2 (gr v4 2),CV.row 2 (gr v4 3),CV.row 3 (gr v4 4),CV.row 13 (gr v4 5),CV.row 13 (gr v4 6),CV.row 2 (gr v4 7)]))) fun v5=>some (.nx [CV.mp 1 (gr v5 0),CV.row 2 (gr v5 1),CV.row 2 (gr v5 2),CV.row 3 (gr v5 3),CV.row 13 (gr v5 4),CV.row 13 (gr v5 5),CV.row 2 (gr v5 6)])) (aA (sS 175 (aH 1 [ci (gi x2 2)] (Value.nilFunc) (gr v3 0))) (gQ (gQ (chk (dX [.int .i64] (.int .i64) (gr v2 1))<|some (.ret ([cb (decide ((bN 1 [ci (gi x2 5)] (gr v2 1))<(List.length (gr v2 1))))]))) fun v4=>aA (!(gb v4 0)) (some (.ret [cb false,CV.mp 1 (gr v2 0),CV.row 2 (gr v2 1),CV.row 2 (gr v2 2),CV.row 3 (gr v2 3),CV.row 13 (gr v2 4),CV.row 13 (gr v2 5),CV.row 2 (gr v2 6)])) (chk (dX [.int .i64] (.int .i64) (gr v2 1))<|some (.ret ([cb true,CV.mp 1 (gr v2 0),CV.row 2 (bV 1 [ci (gi x2 5)] (ci (gi x2 7)) (gr v2 1)),CV.row 2 (gr v2 2),CV.row 3 (gr v2 3),CV.row 13 (gr v2 4),CV.row 13 (gr v2 5),CV.row 2 (gr v2 6)])))) fun v4=>aN (aA (!(gb v4 0)) (chk (cJ (List.length (gr v4 7)) 1 16)<|some (.nx ([CV.mp 1 (gr v4 1),CV.row 2 (gr v4 2),CV.row 2 (gr v4 3),CV.row 3 (gr v4 4),CV.row 13 (gr v4 5),CV.row 13 (gr v4 6),CV.row 2 (gr v4 7++(aS 2 1 [ci (gi x2 0),ci (gi x2 1)]))]))) (some (.nx [CV.mp 1 (gr v4 1),CV.row 2 (gr v4 2),CV.row 2 (gr v4 3),CV.row 3 (gr v4 4),CV.row 13 (gr v4 5),CV.row 13 (gr v4 6),CV.row 2 (gr v4 7)]))) fun v5=>some (.nx [CV.mp 1 (gr v5 0),CV.row 2 (gr v5 1),CV.row 2 (gr v5 2),CV.row 3 (gr v5 3),CV.row 13 (gr v5 4),CV.row 13 (gr v5 5),CV.row 2 (gr v5 6)])) (aA (sS 176 (aH 1 [ci (gi x2 2)] (Value.nilFunc) (gr v3 0))) (gQ (aN (aB (M eW (cat [[CV.ref [CV.mp 1 (gr v2 0),CV.mp 1 (gr v2 1),CV.mp 1 (gr v2 2),CV.mp 2 (gr v2 3),CV.row 13 (gr v2 4),CV.row 13 (gr v2 5),CV.row 2 (gr v2 6)]],cis x2 0 13])) fun v4=>aA (!(gb v4 0)) (some (.nx [cb true])) (aB (M eV ([CV.ref [CV.mp 1 (gr v2 0),CV.mp 1 (gr v2 1),CV.mp 1 (gr v2 2),CV.mp 2 (gr v2 3),CV.row 13 (gr v2 4),CV.row 13 (gr v2 5),CV.row 2 (gr v2 6)],ci (gi x2 5),ci (gi x2 8),ci (gi x2 3)])) fun v5=>some (.nx [cb (decide ((gi x2 9) > (gi v5 0)))]))) fun v4=>aA (gb v4 0) (some (.ret [cb false,CV.mp 1 (gr v2 0),CV.row 2 (gr v2 1),CV.row 2 (gr v2 2),CV.row 3 (gr v2 3),CV.row 13 (gr v2 4),CV.row 13 (gr v2 5),CV.row 2 (gr v2 6)])) (chk (dX [.int .i64,.int .i64] (.int .i64) (gr v2 3))<|chk (dX [.int .i64,.int .i64] (.int .i64) (gr v2 3))<|chk (dX [.int .i64,.int .i64] (.int .i64) (bV 2 [ci (gi x2 5),ci (gi x2 8)] (ci (wr ((cI (aH 2 [ci (gi x2 5),ci (gi x2 8)] (.int .i64 0) (gr v2 3))) - gi x2 9))) (gr v2 3)))<|chk (dX [.int .i64,.int .i64] (.int .i64) (bV 2 [ci (gi x2 5),ci (gi x2 8)] (ci (wr ((cI (aH 2 [ci (gi x2 5),ci (gi x2 8)] (.int .i64 0) (gr v2 3))) - gi x2 9))) (gr v2 3)))<|some (.ret ([cb true,CV.mp 1 (gr v2 0),CV.row 2 (gr v2 1),CV.row 2 (gr v2 2),CV.row 3 (bV 2 [ci (gi x2 6),ci (gi x2 8)] (ci (wr ((cI (aH 2 [ci (gi x2 6),ci (gi x2 8)] (.int .i64 0) (bV 2 [ci (gi x2 5),ci (gi x2 8)] (ci (wr ((cI (aH 2 [ci (gi x2 5),ci (gi x2 8)] (.int .i64 0) (gr v2 3))) - gi x2 9))) (gr v2 3))))+gi x2 9))) (bV 2 [ci (gi x2 5),ci (gi x2 8)] (ci (wr ((cI (aH 2 [ci (gi x2 5),ci (gi x2 8)] (.int .i64 0) (gr v2 3))) - gi x2 9))) (gr v2 3))),CV.row 13 (gr v2 4),CV.row 13 (gr v2 5),CV.row 2 (gr v2 6)])))) fun v4=>aN (aA (!(gb v4 0)) (chk (cJ (List.length (gr v4 7)) 1 16)<|some (.nx ([CV.mp 1 (gr v4 1),CV.row 2 (gr v4 2),CV.row 2 (gr v4 3),CV.row 3 (gr v4 4),CV.row 13 (gr v4 5),CV.row 13 (gr v4 6),CV.row 2 (gr v4 7++(aS 2 1 [ci (gi x2 0),ci (gi x2 1)]))]))) (some (.nx [CV.mp 1 (gr v4 1),CV.row 2 (gr v4 2),CV.row 2 (gr v4 3),CV.row 3 (gr v4 4),CV.row 13 (gr v4 5),CV.row 13 (gr v4 6),CV.row 2 (gr v4 7)]))) fun v5=>some (.nx [CV.mp 1 (gr v5 0),CV.row 2 (gr v5 1),CV.row 2 (gr v5 2),CV.row 3 (gr v5 3),CV.row 13 (gr v5 4),CV.row 13 (gr v5 5),CV.row 2 (gr v5 6)])) (aA (sS 177 (aH 1 [ci (gi x2 2)] (Value.nilFunc) (gr v3 0))) (gQ (aB (M gO ([CV.row 13 (gr v2 4),CV.fn 200 [CV.ref (cis x2 0 13)]])) fun v4=>aN (gQ (gQ (chk (dX [.int .i64] (.int .i64) (gr v2 1))<|some (.ret ([cb (decide ((bN 1 [ci (gi x2 5)] (gr v2 1))<(List.length (gr v2 1))))]))) fun v5=>aA (gb v5 0) (gQ (chk (dX [.int .i64] (.int .i64) (gr v2 1))<|some (.ret ([cb (decide ((bN 1 [ci (gi x2 6)] (gr v2 1))<(List.length (gr v2 1))))]))) fun v6=>some (.ret [cb (gb v6 0)])) (some (.ret [cb false]))) fun v5=>aA (!(gb v5 0)) (some (.nx [cb true])) (some (.nx [cb (gb v4 13)]))) fun v5=>aA (gb v5 0) (some (.ret [cb false,CV.mp 1 (gr v2 0),CV.row 2 (gr v2 1),CV.row 2 (gr v2 2),CV.row 3 (gr v2 3),CV.row 13 (gr v2 4),CV.row 13 (gr v2 5),CV.row 2 (gr v2 6)])) (chk (dX [.int .i64] .bool (gr v2 0))<|OJ (gr v2 0) fun p6 l6=>aB (gU 1 (fun x7 v7=>chk (dX [.int .i64,.int .i64] (.int .i64) (gr v7 0))<|chk (dX [.int .i64,.int .i64] (.int .i64) (gr v7 0))<|chk (dX [.int .i64,.int .i64] (.int .i64) (gr v7 0))<|chk (dX [.int .i64,.int .i64] (.int .i64) (bV 2 [ci (gi x2 6),ci (gi x7 0)] (ci (wr ((cI (aH 2 [ci (gi x2 6),ci (gi x7 0)] (.int .i64 0) (gr v7 0)))+(cI (aH 2 [ci (gi x2 5),ci (gi x7 0)] (.int .i64 0) (gr v7 0)))))) (gr v7 0)))<|some (.nx ([CV.row 3 (zQ 2 [ci (gi x2 5),ci (gi x7 0)] (bV 2 [ci (gi x2 6),ci (gi x7 0)] (ci (wr ((cI (aH 2 [ci (gi x2 6),ci (gi x7 0)] (.int .i64 0) (gr v7 0)))+(cI (aH 2 [ci (gi x2 5),ci (gi x7 0)] (.int .i64 0) (gr v7 0)))))) (gr v7 0)))]))) l6 [CV.row 3 (gr v2 3)]) fun v7=>chk (dX [.int .i64] (.int .i64) (gr v2 1))<|some (.ret ([cb true,CV.mp 1 (gr v2 0),CV.row 2 (zQ 1 [ci (gi x2 5)] (gr v2 1)),CV.row 2 (gr v2 2),CV.row 3 (gr v7 0),CV.row 13 (gr v2 4),CV.row 13 (gr v2 5),CV.row 2 (gr v2 6)])))) fun v4=>aN (aA (!(gb v4 0)) (chk (cJ (List.length (gr v4 7)) 1 16)<|some (.nx ([CV.mp 1 (gr v4 1),CV.row 2 (gr v4 2),CV.row 2 (gr v4 3),CV.row 3 (gr v4 4),CV.row 13 (gr v4 5),CV.row 13 (gr v4 6),CV.row 2 (gr v4 7++(aS 2 1 [ci (gi x2 0),ci (gi x2 1)]))]))) (some (.nx [CV.mp 1 (gr v4 1),CV.row 2 (gr v4 2),CV.row 2 (gr v4 3),CV.row 3 (gr v4 4),CV.row 13 (gr v4 5),CV.row 13 (gr v4 6),CV.row 2 (gr v4 7)]))) fun v5=>some (.nx [CV.mp 1 (gr v5 0),CV.row 2 (gr v5 1),CV.row 2 (gr v5 2),CV.row 3 (gr v5 3),CV.row 13 (gr v5 4),CV.row 13 (gr v5 5),CV.row 2 (gr v5 6)])) (aA (sS 178 (aH 1 [ci (gi x2 2)] (Value.nilFunc) (gr v3 0))) (gQ (aN (aB (M eW (cat [[CV.ref [CV.mp 1 (gr v2 0),CV.mp 1 (gr v2 1),CV.mp 1 (gr v2 2),CV.mp 2 (gr v2 3),CV.row 13 (gr v2 4),CV.row 13 (gr v2 5),CV.row 2 (gr v2 6)]],cis x2 0 13])) fun v4=>aA (!(gb v4 0)) (some (.nx [cb true])) (aB (M eV ([CV.ref [CV.mp 1 (gr v2 0),CV.mp 1 (gr v2 1),CV.mp 1 (gr v2 2),CV.mp 2 (gr v2 3),CV.row 13 (gr v2 4),CV.row 13 (gr v2 5),CV.row 2 (gr v2 6)],ci (gi x2 5),ci (gi x2 8),ci (gi x2 3)])) fun v5=>some (.nx [cb (decide ((gi x2 9) > (gi v5 0)))]))) fun v4=>aA (gb v4 0) (some (.ret [cb false,CV.mp 1 (gr v2 0),CV.row 2 (gr v2 1),CV.row 2 (gr v2 2),CV.row 3 (gr v2 3),CV.row 13 (gr v2 4),CV.row 13 (gr v2 5),CV.row 2 (gr v2 6)])) (chk (cJ (List.length (gr v2 4)) 1 104)<|some (.ret [cb true,CV.mp 1 (gr v2 0),CV.row 2 (gr v2 1),CV.row 2 (gr v2 2),CV.row 3 (gr v2 3),CV.row 13 (gr v2 4++(aS 13 1 (cis x2 0 13))),CV.row 13 (gr v2 5),CV.row 2 (gr v2 6)]))) fun v4=>aN (aA (!(gb v4 0)) (chk (cJ (List.length (gr v4 7)) 1 16)<|some (.nx ([CV.mp 1 (gr v4 1),CV.row 2 (gr v4 2),CV.row 2 (gr v4 3),CV.row 3 (gr v4 4),CV.row 13 (gr v4 5),CV.row 13 (gr v4 6),CV.row 2 (gr v4 7++(aS 2 1 [ci (gi x2 0),ci (gi x2 1)]))]))) (some (.nx [CV.mp 1 (gr v4 1),CV.row 2 (gr v4 2),CV.row 2 (gr v4 3),CV.row 3 (gr v4 4),CV.row 13 (gr v4 5),CV.row 13 (gr v4 6),CV.row 2 (gr v4 7)]))) fun v5=>some (.nx [CV.mp 1 (gr v5 0),CV.row 2 (gr v5 1),CV.row 2 (gr v5 2),CV.row 3 (gr v5 3),CV.row 13 (gr v5 4),CV.row 13 (gr v5 5),CV.row 2 (gr v5 6)])) (aA (sS 179 (aH 1 [ci (gi x2 2)] (Value.nilFunc) (gr v3 0))) (gQ (chk (dX [.int .i64] .bool (gr v2 0))<|aA (!(cB (aH 1 [ci (gi x2 8)] (.bool false) (gr v2 0)))) (some (.ret [cb false,CV.mp 1 (gr v2 0),CV.row 2 (gr v2 1),CV.row 2 (gr v2 2),CV.row 3 (gr v2 3),CV.row 13 (gr v2 4),CV.row 13 (gr v2 5),CV.row 2 (gr v2 6)])) (chk (cJ (List.length (gr v2 5)) 1 104)<|some (.ret [cb true,CV.mp 1 (gr v2 0),CV.row 2 (gr v2 1),CV.row 2 (gr v2 2),CV.row 3 (gr v2 3),CV.row 13 (gr v2 4),CV.row 13 (gr v2 5++(aS 13 1 (cis x2 0 13))),CV.row 2 (gr v2 6)]))) fun v4=>aN (aA (!(gb v4 0)) (chk (cJ (List.length (gr v4 7)) 1 16)<|some (.nx ([CV.mp 1 (gr v4 1),CV.row 2 (gr v4 2),CV.row 2 (gr v4 3),CV.row 3 (gr v4 4),CV.row 13 (gr v4 5),CV.row 13 (gr v4 6),CV.row 2 (gr v4 7++(aS 2 1 [ci (gi x2 0),ci (gi x2 1)]))]))) (some (.nx [CV.mp 1 (gr v4 1),CV.row 2 (gr v4 2),CV.row 2 (gr v4 3),CV.row 3 (gr v4 4),CV.row 13 (gr v4 5),CV.row 13 (gr v4 6),CV.row 2 (gr v4 7)]))) fun v5=>some (.nx [CV.mp 1 (gr v5 0),CV.row 2 (gr v5 1),CV.row 2 (gr v5 2),CV.row 3 (gr v5 3),CV.row 13 (gr v5 4),CV.row 13 (gr v5 5),CV.row 2 (gr v5 6)])) (none)))))))) ([CV.mp 1 (gr v0 0),CV.row 2 [],CV.row 2 [],CV.row 3 [],CV.row 13 [],CV.row 13 [],CV.row 2 []]))) fun v2=>some (.ret ([CV.ref [CV.mp 1 (gr v2 0),CV.mp 1 (gr v2 1),CV.mp 1 (gr v2 2),CV.mp 2 (gr v2 3),CV.row 13 (gr v2 4),CV.row 13 (gr v2 5),CV.row 2 (gr v2 6)],CV.fn 115 ([cb false,CV.fn 2097264 ([CV.fn 2 []]),CV.fn 2097263 ([CV.fn 2 []]),CV.fn 3145841 ([CV.fn 3 []]),CV.fn 56 ([CV.fn 13 []]),CV.fn 56 ([CV.fn 13 []]),CV.fn 54 ([CV.fn 2 []])])]))
theorem XF (b0 b1 b2:List (List CV)) (c0 c1:Int):D its (n+1) bP [.row 3 b0,.row 13 b1,.row 13 b2,ci c0,ci c1]=WM 115 [none,some (2097264,2),some (2097263,2),some (3145841,3),some (56,13),some (56,13),some (54,2)] (aV (oS (D its n) b0 b1 b2 c0 c1)):=by kernel_rfl
theorem TS (M:Den) (b0 b1 b2:List (List CV)) (c0 c1:Int):aAj Tryz.prog sg M aKd (aE Tryz.f69) [.row 3 b0,.row 13 b1,.row 13 b2,ci c0,ci c1]=aCL 115 [none,some (2097264,2),some (2097263,2),some (3145841,3),some (56,13),some (56,13),some (54,2)] (aV (oS M b0 b1 b2 c0 c1)):=by kernel_rfl
theorem TT (h:mM 1000000069 its=.none) (b0 b1 b2:List (List CV)) (c0 c1:Int):D its (n+1) 1000000069 [.row 3 b0,.row 13 b1,.row 13 b2,ci c0,ci c1]=aCL 115 [none,some (2097264,2),some (2097263,2),some (3145841,3),some (56,13),some (56,13),some (54,2)] (aV (oS (D its n) b0 b1 b2 c0 c1)):=(aHk (by kernel_rfl) h (by decide) (by kernel_rfl)).trans (TS (D its n) b0 b1 b2 c0 c1)
def sB (M:Den) (b0 b1 b2 b3 b4 b5 b6 b7 b8 b9 b_0 b_1 b_2:Int):Option Ou:=aN (aB (M cE [ci b0,ci 1,ci 99999]) fun v0=>aA (gb v0 0) (aB (M gG [ci b1]) fun v1=>aA (gb v1 0) (aB (M oP [ci b2]) fun v2=>aA (gb v2 0) (some (.nx [cb (b3 == 0)])) (some (.nx [cb false]))) (some (.nx [cb false]))) (some (.nx [cb false]))) fun v0=>cD 0 (aL (fun v1=>aA (decide (gi v1 1<10)) (chk (((decide (0<=gi v1 1))&&(decide (gi v1 1<(Int.ofNat 10))))&&(oks [li] [ci b3,ci b4,ci b5,ci b6,ci b7,ci b8,ci b9,ci b_0,ci b_1,ci b_2] (Int.toNat (gi v1 1))))<|aN (aA (gb v1 0) (aB (M cE ([ci (gi [ci b3,ci b4,ci b5,ci b6,ci b7,ci b8,ci b9,ci b_0,ci b_1,ci b_2] (Int.toNat (gi v1 1))),ci 0,ci 100000])) fun v2=>some (.nx [cb (gb v2 0)])) (some (.nx [cb false]))) fun v2=>some (.nx [cb (gb v2 0),ci (wr (gi v1 1+1))])) (some (.br 0 [cb (gb v1 0)]))) [cb (gb v0 0),ci 0]) fun v1=>aA (!(gb v1 0)) (some (.ret [ci 21])) (some (.ret [ci 0]))
theorem DG (b0 b1 b2 b3 b4 b5 b6 b7 b8 b9 b_0 b_1 b_2:Int):D its (n+1) fD [ci b0,ci b1,ci b2,ci b3,ci b4,ci b5,ci b6,ci b7,ci b8,ci b9,ci b_0,ci b_1,ci b_2]=aV (sB (D its n) b0 b1 b2 b3 b4 b5 b6 b7 b8 b9 b_0 b_1 b_2):=by kernel_rfl
def AM (M:Den) (b0 b1 b2 b3 b4 b5 b6 b7 b8 b9 b_0 b_1 b_2 c0 c1 c2 c3 c4 c5 c6 c7 c8 c9:Int):Option Ou:=cD 0 (aL (fun v0=>aA (decide (gi v0 1<10)) (chk (((decide (0<=gi v0 1))&&(decide (gi v0 1<(Int.ofNat 10))))&&(oks [li] [ci c0,ci c1,ci c2,ci c3,ci c4,ci c5,ci c6,ci c7,ci c8,ci c9] (Int.toNat (gi v0 1))))<|chk ((decide (0<=gi v0 1))&&(decide (gi v0 1<(Int.ofNat 10))))<|chk (oks [li] [ci b0,ci b1,ci b2,ci b3,ci b4,ci b5,ci b6,ci b7,ci b8,ci b9,ci b_0,ci b_1,ci b_2] (3+((Int.toNat (gi v0 1))*1)))<|some (.nx ([ci (wr (gi v0 0+wr (gi [ci c0,ci c1,ci c2,ci c3,ci c4,ci c5,ci c6,ci c7,ci c8,ci c9] (Int.toNat (gi v0 1))*gi [ci b0,ci b1,ci b2,ci b3,ci b4,ci b5,ci b6,ci b7,ci b8,ci b9,ci b_0,ci b_1,ci b_2] (3+((Int.toNat (gi v0 1))*1))))),ci (wr (gi v0 1+1))]))) (some (.br 0 [ci (gi v0 0)]))) [ci 0,ci 0]) fun v0=>some (.ret [ci (gi v0 0)])
theorem OP (b0 b1 b2 b3 b4 b5 b6 b7 b8 b9 b_0 b_1 b_2 c0 c1 c2 c3 c4 c5 c6 c7 c8 c9:Int):D its (n+1) lD [ci b0,ci b1,ci b2,ci b3,ci b4,ci b5,ci b6,ci b7,ci b8,ci b9,ci b_0,ci b_1,ci b_2,ci c0,ci c1,ci c2,ci c3,ci c4,ci c5,ci c6,ci c7,ci c8,ci c9]=aV (AM (D its n) b0 b1 b2 b3 b4 b5 b6 b7 b8 b9 b_0 b_1 b_2 c0 c1 c2 c3 c4 c5 c6 c7 c8 c9):=by kernel_rfl
def MF (M:Den)  : Option Ou:=some (.ret ([CV.row 3 (aS 3 2 [ci 1,ci 90,ci 270,ci 2,ci 300,ci 60]),CV.row 13 (aS 13 2 [ci 1,ci 1,ci 0,ci 0,ci 60,ci 0,ci 12,ci 0,ci 0,ci 0,ci 0,ci 0,ci 0,ci 2,ci 1,ci 360,ci 0,ci 60,ci 0,ci 20,ci 0,ci 0,ci 0,ci 0,ci 0,ci 0]),CV.row 13 (aS 13 8 [ci 0,ci 0,ci 1,ci 1,ci 1,ci 1,ci 0,ci 5,ci 0,ci 0,ci 0,ci 0,ci 0,ci 0,ci 1,ci 1,ci 1,ci 1,ci 2,ci 0,ci 6,ci 0,ci 0,ci 0,ci 0,ci 0,ci 0,ci 2,ci 2,ci 2,ci 2,ci 1,ci 0,ci 0,ci 1,ci 300,ci 0,ci 0,ci 0,ci 0,ci 3,ci 4,ci 100,ci 100,ci 1,ci 2,ci 0,ci 1,ci 60,ci 0,ci 0,ci 0,ci 0,ci 4,ci 6,ci 110,ci 110,ci 1,ci 2,ci 0,ci 1,ci 120,ci 200,ci 0,ci 0,ci 0,ci 5,ci 5,ci 150,ci 150,ci 2,ci 1,ci 0,ci 0,ci 0,ci 0,ci 0,ci 0,ci 0,ci 6,ci 8,ci 120,ci 120,ci 0,ci 0,ci 0,ci 1,ci 0,ci 130,ci 0,ci 0,ci 0,ci 7,ci 0,ci 0,ci 400,ci 0,ci 0,ci 0,ci 0,ci 0,ci 0,ci 0,ci 3])]))
theorem MG  : D its (n+1) qU []=aV (MF (D its n) ):=by kernel_rfl
def pO (M:Den) (b0 b1 b2 b3 b4 b5 b6 b7 b8 b9 b_0 b_1 b_2:Int):Option Ou:=aN (aB (M aY [ci b0,ci 1,ci 99999]) fun v0=>aA (!(gb v0 0)) (some (.nx [cb true])) (aB (M jO [ci b1]) fun v1=>aA (!(gb v1 0)) (some (.nx [cb true])) (aB (M aY [ci b2,ci 0,ci 100000]) fun v2=>aA (!(gb v2 0)) (some (.nx [cb true])) (aA (b3 != 0) (some (.nx [cb true])) (aB (M cA ([CV.row 1 (aS 1 10 [ci b3,ci b4,ci b5,ci b6,ci b7,ci b8,ci b9,ci b_0,ci b_1,ci b_2]),CV.fn 124 []])) fun v3=>some (.nx [cb (gb v3 0)])))))) fun v0=>aA (gb v0 0) (some (.ret [ci 21])) (some (.ret [ci 0]))
theorem zS (b0 b1 b2 b3 b4 b5 b6 b7 b8 b9 b_0 b_1 b_2:Int):D its (n+1) dD [ci b0,ci b1,ci b2,ci b3,ci b4,ci b5,ci b6,ci b7,ci b8,ci b9,ci b_0,ci b_1,ci b_2]=aV (pO (D its n) b0 b1 b2 b3 b4 b5 b6 b7 b8 b9 b_0 b_1 b_2):=by kernel_rfl
def oT (M:Den) (a0:List (List CV)) (a1:CV):Option Ou:=cD 0 (aL (fun v0=>aA (decide (gi v0 0<il a0)) (chk (inb (wr (gi v0 0 - 1)) a0)<|chk (oks liA (el a0 (wr (gi v0 0 - 1))) 0)<|chk (inb (gi v0 0) a0)<|chk (oks liA (el a0 (gi v0 0)) 0)<|aB (dY sg M a1 (cat [cis (el a0 (wr (gi v0 0 - 1))) 0 13,cis (el a0 (gi v0 0)) 0 13]) [.agg liA,.agg liA] [.one li]) fun v1=>aA (decide ((gi v1 0)>=0)) (some (.ret [cb false])) (some (.nx [ci (wr (gi v0 0+1))]))) (some (.br 0 []))) [ci 1]) fun v0=>some (.ret [cb true])
theorem xV (a0:List (List CV)) (a1:CV):D its (n+1) kE [.row 13 a0,a1]=aV (oT (D its n) a0 a1):=by kernel_rfl
def AK (M:Den) (b0 b1 b2:List (List CV)) (a1 d0 d1:Int):Option Ou:=aB (M aI [CV.row 3 b0,CV.row 13 b1,CV.row 13 b2]) fun v0=>aA (gi v0 0 != 0) (some (.ret [ci 0,ci (gi v0 0)])) (aB (M aR [CV.row 3 b0,CV.row 13 b1,CV.row 13 b2,ci a1]) fun v1=>aA (!(gb v1 3)) (some (.ret [ci 0,ci 20])) (aB (M cV [ci d0,ci d1]) fun v2=>aA (!(gb v2 0)) (some (.ret [ci 0,ci 6])) (aB (M bP [CV.row 3 b0,CV.row 13 b1,CV.row 13 b2,ci d0,ci d1]) fun v3=>aB (M fY [CV.ref (cF (List.getD v3 0 dC)),ci a1]) fun v4=>some (.ret [ci (gi v4 0),ci 0]))))
theorem ON (b0 b1 b2:List (List CV)) (a1 d0 d1:Int):D its (n+1) gS [.row 3 b0,.row 13 b1,.row 13 b2,ci a1,ci d0,ci d1]=aV (AK (D its n) b0 b1 b2 a1 d0 d1):=by kernel_rfl
def xW (M:Den) (a0:CV):Option Ou:=cD 0 (aL (fun v0=>aA (decide (gi v0 0<=99)) (aB (dY sg M a0 [ci (gi v0 0)] [.one li] [.one lb]) fun v1=>aN (aA (gb v1 0) (chk (cJ (List.length (gr v0 1)) 1 8)<|some (.nx ([CV.row 1 (gr v0 1++(aS 1 1 [ci (gi v0 0)]))]))) (some (.nx [CV.row 1 (gr v0 1)]))) fun v2=>some (.nx [ci (wr (gi v0 0+1)),CV.row 1 (gr v2 0)])) (some (.br 0 [CV.row 1 (gr v0 1)]))) ([ci 1,CV.row 1 []])) fun v0=>some (.ret [CV.row 1 (gr v0 0)])
theorem MC (a0:CV):D its (n+1) mR [a0]=aV (xW (D its n) a0):=by kernel_rfl
def mY (M:Den) (a0:List (List CV)) (a1:CV):Option Ou:=cD 0 (aL (fun v0=>aA (decide (gi v0 0<il a0)) (chk (inb (gi v0 0) a0)<|chk (oks [li] (el a0 (gi v0 0)) 0)<|aB (dY sg M a1 [ci (gi (el a0 (gi v0 0)) 0)] [.one li] [.one lb]) fun v1=>aA (gb v1 0) (some (.ret [ci (gi v0 0)])) (some (.nx [ci (wr (gi v0 0+1))]))) (some (.br 0 []))) [ci 0]) fun v0=>some (.ret [ci (-1)])
theorem vJ (a0:List (List CV)) (a1:CV):D its (n+1) eF [.row 1 a0,a1]=aV (mY (D its n) a0 a1):=by kernel_rfl
def qW (M:Den) (b0 b1 b2:Int):Option Ou:=aN (aB (M gG [ci b0]) fun v0=>aA (!(gb v0 0)) (some (.nx [cb true])) (aB (M cE [ci b1,ci 0,ci 359]) fun v1=>aA (!(gb v1 0)) (some (.nx [cb true])) (aB (M cE [ci b2,ci 0,ci 359]) fun v2=>some (.nx [cb (!(gb v2 0))])))) fun v0=>aA (gb v0 0) (some (.ret [ci 20])) (some (.ret [ci 0]))
theorem BP (b0 b1 b2:Int):D its (n+1) iO [ci b0,ci b1,ci b2]=aV (qW (D its n) b0 b1 b2):=by kernel_rfl
def yJ (M:Den) (b0 b1 b2:List (List CV)) (a1 d0 d1 d2 e0 e1:Int):Option Ou:=aB (M bP [CV.row 3 b0,CV.row 13 b1,CV.row 13 b2,ci e0,ci e1]) fun v0=>aB (M eE [CV.ref (cF (List.getD v0 0 dC)),ci d0,ci d1,ci d2,ci e0]) fun v1=>aA (!(gb v1 0)) (some (.ret [ci 0])) (aB (M gN [CV.ref (cF (List.getD v0 0 dC)),ci a1,ci d0,ci e0]) fun v2=>some (.ret [ci (gi v2 0)]))
theorem MP (b0 b1 b2:List (List CV)) (a1 d0 d1 d2 e0 e1:Int):D its (n+1) dP [.row 3 b0,.row 13 b1,.row 13 b2,ci a1,ci d0,ci d1,ci d2,ci e0,ci e1]=aV (yJ (D its n) b0 b1 b2 a1 d0 d1 d2 e0 e1):=by kernel_rfl
def nM (M:Den) (a0:List CV) (a1:Int):Option Ou:=chk (oks [.mp 1] (List.drop 1 a0) 0)<|chk (dX [.int .i64] (.int .i64) (gr (List.drop 1 a0) 0))<|some (.ret ([cb (decide ((bN 1 [ci a1] (gr (List.drop 1 a0) 0))<(List.length (gr (List.drop 1 a0) 0))))]))
theorem wT (a0:List CV) (a1:Int):D its (n+1) dK [.ref a0,ci a1]=aV (nM (D its n) a0 a1):=by kernel_rfl
def tZ (M:Den) (b0 b1 b2 b3 b4 b5 b6 b7 b8 b9 b_0 b_1 b_2 c0 c1 c2 c3 c4 c5 c6 c7 c8 c9 c_0 c_1 c_2:Int):Option Ou:=aB (M fE [ci b1,ci c1]) fun v0=>aB (M fE [ci b2,ci c2]) fun v1=>aB (M pX ([CV.row 1 (aS 1 2 [ci (gi v0 0),ci (gi v1 0)])])) fun v2=>some (.ret [ci (gi v2 0)])
theorem FX (b0 b1 b2 b3 b4 b5 b6 b7 b8 b9 b_0 b_1 b_2 c0 c1 c2 c3 c4 c5 c6 c7 c8 c9 c_0 c_1 c_2:Int):D its (n+1) kQ [ci b0,ci b1,ci b2,ci b3,ci b4,ci b5,ci b6,ci b7,ci b8,ci b9,ci b_0,ci b_1,ci b_2,ci c0,ci c1,ci c2,ci c3,ci c4,ci c5,ci c6,ci c7,ci c8,ci c9,ci c_0,ci c_1,ci c_2]=aV (tZ (D its n) b0 b1 b2 b3 b4 b5 b6 b7 b8 b9 b_0 b_1 b_2 c0 c1 c2 c3 c4 c5 c6 c7 c8 c9 c_0 c_1 c_2):=by kernel_rfl
def sI (M:Den) (b0 b1 b2:List (List CV)) (a1:Int):Option Ou:=aB (M eU ([CV.row 3 b0,CV.fn 146 ([CV.ref [ci a1]])])) fun v0=>some (.ret [ci (gi v0 0),ci (gi v0 1),ci (gi v0 2),cb (gb v0 3)])
theorem DQ (b0 b1 b2:List (List CV)) (a1:Int):D its (n+1) aR [.row 3 b0,.row 13 b1,.row 13 b2,ci a1]=aV (sI (D its n) b0 b1 b2 a1):=by kernel_rfl
def DR (M:Den) (a0 a1 a2:Int):Option Ou:=aA (decide (a1<=a0)) (some (.ret [cb (decide (a0<=a2))])) (some (.ret [cb false]))
theorem TY (a0 a1 a2:Int):D its (n+1) cE [ci a0,ci a1,ci a2]=aV (DR (D its n) a0 a1 a2):=by kernel_rfl
def kU (M:Den) (a0:List (List CV)) (a1:CV):Option Ou:=aB (M eF [CV.row 1 a0,a1]) fun v0=>some (.ret [cb (decide ((gi v0 0)>=0))])
theorem rG (a0:List (List CV)) (a1:CV):D its (n+1) cA [.row 1 a0,a1]=aV (kU (D its n) a0 a1):=by kernel_rfl
def HM (M:Den) (a0:Int):Option Ou:=aB (M cE [ci a0,ci 0,ci 100000]) fun v0=>some (.ret [cb (gb v0 0)])
theorem XL (a0:Int):D its (n+1) oP [ci a0]=aV (HM (D its n) a0):=by kernel_rfl
def wE (M:Den) (a0:Int):Option Ou:=aB (M cE [ci a0,ci 1,ci 99]) fun v0=>some (.ret [cb (gb v0 0)])
theorem IM (a0:Int):D its (n+1) gG [ci a0]=aV (wE (D its n) a0):=by kernel_rfl
def R_stint_done_c1_c1 (M:Den) (b0 b1 b2 b3 b4 b5 b6 b7 b8 b9 b_0 b_1 b_2 c0 c1 c2 c3 c4 c5 c6 c7 c8 c9 c_0 c_1 c_2:Int):Option Ou:=some (.ret [ci (wr (b3 - c3))])
theorem q_stint_done_c1_c1 (b0 b1 b2 b3 b4 b5 b6 b7 b8 b9 b_0 b_1 b_2 c0 c1 c2 c3 c4 c5 c6 c7 c8 c9 c_0 c_1 c_2:Int):D its (n+1) n_stint_done_c1_c1 [ci b0,ci b1,ci b2,ci b3,ci b4,ci b5,ci b6,ci b7,ci b8,ci b9,ci b_0,ci b_1,ci b_2,ci c0,ci c1,ci c2,ci c3,ci c4,ci c5,ci c6,ci c7,ci c8,ci c9,ci c_0,ci c_1,ci c_2]=aV (R_stint_done_c1_c1 (D its n) b0 b1 b2 b3 b4 b5 b6 b7 b8 b9 b_0 b_1 b_2 c0 c1 c2 c3 c4 c5 c6 c7 c8 c9 c_0 c_1 c_2):=by kernel_rfl
end
end Go.Proofs.YtfgdfpnkhdlmfaaGreat
