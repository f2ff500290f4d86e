/-
  The law PenMore of the pens of a pound holds at every input, without any condition.
-/
import Derived.KernelRfl
import Derived.OpenShut
import Derived.ProofKit
import Derived.SizedLaws
import Derived.Test.YthkfohoccnnphaaProg
import Derived.Test.YthkfohoccnnphaaP07
namespace Go.Sx
open Go
@[simp] theorem cI_ci (n:Int):cI (ci n)=n:=rfl
@[simp] theorem cB_cb (b:Bool):cB (cb b)=b:=rfl
@[simp] theorem cR_row (k:Nat) (es:List (List CV)):cR (.row k es)=es:=rfl
@[simp] theorem gi_z (n:Int) (l:List CV):gi (ci n::l) 0=n:=rfl
@[simp] theorem gi_s (c:CV) (l:List CV) (n:Nat):gi (c::l) (n+1)=gi l n:=rfl
@[simp] theorem gb_z (b:Bool) (l:List CV):gb (cb b::l) 0=b:=rfl
@[simp] theorem gb_s (c:CV) (l:List CV) (n:Nat):gb (c::l) (n+1)=gb l n:=rfl
@[simp] theorem gr_z (k:Nat) (es:List (List CV)) (l:List CV):gr (.row k es::l) 0=es:=rfl
@[simp] theorem gr_s (c:CV) (l:List CV) (n:Nat):gr (c::l) (n+1)=gr l n:=rfl
@[simp] theorem cis_z (v:List CV) (i:Nat):cis v i 0=[]:=rfl
@[simp] theorem cis_s (v:List CV) (i n:Nat):cis v i (n+1)=ci (gi v i)::cis v (i+1) n:=rfl
@[simp] theorem cat_z:cat []=[]:=rfl
@[simp] theorem cat_1 (x:List CV):cat [x]=x:=rfl
@[simp] theorem cat_s (x y:List CV) (l:List (List CV)):cat (x::y::l)=x++cat (y::l):=rfl
@[simp] theorem iteB_eq (b:Bool) (x y:Option Ou):iteB b x y=if b=true then x else y:=by cases b <;> rfl
@[simp] theorem chk_true (x:Option Ou):chk true x=x:=rfl
theorem chk_of {b:Bool} {x:Option Ou} (h:b=true):chk b x=x:=by rw [h];rfl
@[simp] theorem callO_val (vs:List CV) (K:List CV→Option Ou):callO (some vs) K=K vs:=rfl
@[simp] theorem inlO_ret (vs:List CV) (K:List CV→Option Ou):inlO (some (.ret vs)) K=K vs:=rfl
@[simp] theorem seqO_nx (vs:List CV) (K:List CV→Option Ou):seqO (some (.nx vs)) K=K vs:=rfl
@[simp] theorem seqO_ret (vs:List CV) (K:List CV→Option Ou):seqO (some (.ret vs)) K=some (.ret vs):=rfl
@[simp] theorem seqO_br (i:Nat) (vs:List CV) (K:List CV→Option Ou):seqO (some (.br i vs)) K=some (.br i vs):=rfl
@[simp] theorem blkO_nx (i:Nat) (vs:List CV) (K:List CV→Option Ou):blkO i (some (.nx vs)) K=some (.nx vs):=rfl
@[simp] theorem blkO_ret (i:Nat) (vs:List CV) (K:List CV→Option Ou):blkO i (some (.ret vs)) K=some (.ret vs):=rfl
@[simp] theorem blkO_br (i:Nat) (vs:List CV) (K:List CV→Option Ou):blkO i (some (.br i vs)) K=K vs:=by simp [blkO]
@[simp] theorem retO_ret (vs:List CV):retO (some (.ret vs))=some vs:=rfl
@[simp] theorem eqO_same (a:Option Ou):eqO a a=a:=eqO_self a
theorem nilD_eq {es:List (List CV)} {kt kf:Option Ou} (h:es=[]→kt=kf):nilD es kt kf=kf:=by
  cases es with
  | nil=>simp [nilD,h rfl]
  | cons=>rfl
@[simp] theorem beq_dec (a b:Int):(a == b)=decide (a=b):=rfl
@[simp] theorem bne_dec (a b:Int):(a != b)=!decide (a=b):=rfl
section
variable (c:Prop) [Decidable c]
@[simp] theorem ite_nx (xs ys:List CV):(if c then some (Ou.nx xs) else some (Ou.nx ys))=some (Ou.nx (if c then xs else ys)):=by split <;> rfl
@[simp] theorem ite_ret (xs ys:List CV):(if c then some (Ou.ret xs) else some (Ou.ret ys))=some (Ou.ret (if c then xs else ys)):=by split <;> rfl
@[simp] theorem ite_cells (a b:CV) (az bs:List CV):(if c then a::az else b::bs)=(if c then a else b)::(if c then az else bs):=by split <;> rfl
@[simp] theorem ite_ci (a b:Int):(if c then ci a else ci b)=ci (if c then a else b):=by split <;> rfl
@[simp] theorem ite_cb (a b:Bool):(if c then cb a else cb b)=cb (if c then a else b):=by split <;> rfl
@[simp] theorem ite_row (k:Nat) (a b:List (List CV)):(if c then CV.row k a else CV.row k b)=CV.row k (if c then a else b):=by split <;> rfl
theorem retO_ite (x y:Option Ou):retO (if c then x else y)=if c then retO x else retO y:=by split <;> rfl
end
@[simp] theorem il_map {A B:Type} (f:A→B) (l:List A):il (l.map f)=l.length:=by simp [il]
theorem il_def {A:Type} (l:List A):il l=l.length:=rfl
theorem inb_map {A:Type} {f:A→List CV} {l:List A} {i:Nat} (h:i<l.length):inb (i:Int) (l.map f)=true:=by simp [inb,h]
theorem el_map {A:Type} {f:A→List CV} {l:List A} {i:Nat} (h:i<l.length):el (l.map f) (i:Int)=f l[i]:=by simp [el,h]
theorem wr_of {x:Int} (h:-9223372036854775808≤x) (h':x<9223372036854775808):wr x=x:=by
  simp only [wr,IntKind.wrap_i64];omega
theorem wr_nat {x:Nat} (h:x<9223372036854775807):wr ((x:Int)+1)=((x+1:Nat):Int):=by rw [wr_of] <;> omega
theorem wr_pred {x:Nat} (h0:0<x) (h:x<9223372036854775807):wr ((x:Int) - 1)=((x - 1:Nat):Int):=by rw [wr_of] <;> omega
theorem fitA_of {n k by_:Nat} (h:(n+k)*by_≤140737488355328) (h':n+k≤9223372036854775807):fitA n k by_=true:=by
  have e:maxLen=9223372036854775807:=by decide
  simp [fitA,h,e,h']
@[simp] theorem chunk_z (k:Nat) (l:List CV):chunk k 0 l=[]:=rfl
@[simp] theorem chunk_s (k n:Nat) (l:List CV):chunk k (n+1) l=l.take k::chunk k n (l.drop k):=rfl
@[simp] theorem oks_z (cs:List CV) (o:Nat):oks [] cs o=true:=rfl
@[simp] theorem ok_ci (n:Int):Lf.ok li (ci n)=true:=rfl
@[simp] theorem ok_cb (b:Bool):Lf.ok lb (cb b)=true:=rfl
@[simp] theorem oks_succ (ls:List Lf) (c:CV) (cs:List CV) (o:Nat):oks ls (c::cs) (o+1)=oks ls cs o:=by
  induction ls generalizing o with
  | nil=>rfl
  | cons l ls ih=>simp only [oks,List.getElem?_cons_succ,ih]
@[simp] theorem oks_cons0 (l:Lf) (ls:List Lf) (c:CV) (cs:List CV):oks (l::ls) (c::cs) 0=(l.ok c&&oks ls cs 0):=by
  simp only [oks,List.getElem?_cons_zero,oks_succ ls c cs 0]
def intsFrom (cs:List CV):Bool:=cs.all fun c=>Lf.ok (.int .i64) c
theorem oks_ints {cs:List CV}:∀ {n o:Nat},intsFrom cs=true→o+n≤cs.length→oks (List.replicate n li) cs o=true
  | 0,o,_,_=>by simp
  | n+1,o,h,hn=>by
    have ho:o<cs.length:=by omega
    have h1:Lf.ok (.int .i64) cs[o]=true:=List.all_eq_true.1 h _ (List.getElem_mem ho)
    simp only [List.replicate_succ,oks,List.getElem?_eq_getElem ho,h1,Bool.true_and]
    exact oks_ints h (by omega)
theorem oks_int1 {cs:List CV} {o:Nat} (h:intsFrom cs=true) (hn:o<cs.length):oks [li] cs o=true:=oks_ints (n:=1) h hn
theorem loop_eq {step:List CV→Option Ou} {vs vs':List CV} (h:step vs=some (.nx vs')):loopD step vs=loopD step vs':=by rw [loopD_eq,h]
theorem loop_end {step:List CV→Option Ou} {vs:List CV} {r:Option Ou} (h:step vs=r) (hr:∀ l,r≠some (.nx l)):loopD step vs=r:=by
  rw [loopD_eq,h]
  match r,hr with
  | none,_=>rfl
  | some (.nx l),hr=>exact absurd rfl (hr l)
  | some (.br _ _),_=>rfl
  | some (.ret _),_=>rfl
theorem loop_to {step:List CV→Option Ou} (T:Nat→List CV):∀ (n:Nat),(∀ i,i<n→step (T i)=some (.nx (T (i+1))))→loopD step (T 0)=loopD step (T n)
  | 0,_=>rfl
  | n+1,h=>by rw [loop_to T n fun i hi=>h i (by omega)];exact loop_eq (h n (by omega))
theorem loop_foldP {A S:Type} {step:List CV→Option Ou} (l:List A) (E:Nat→S→List CV) (f:S→A→S) (P:S→Prop) (b:Nat) (G:S→List CV) (s:S) {vs:List CV} (hv:vs=E 0 s) (h0:P s)
    (hs:∀ i (h:i<l.length) s,P s→step (E i s)=some (.nx (E (i+1) (f s l[i])))∧P (f s l[i])) (he:∀ s,step (E l.length s)=some (.br b (G s))) :
    loopD step vs=some (.br b (G (l.foldl f s)))∧P (l.foldl f s):=by
  subst hv
  have key:∀ n,n≤l.length→loopD step (E 0 s)=loopD step (E n ((l.take n).foldl f s))∧P ((l.take n).foldl f s):=by
    intro n
    induction n with
    | zero=>intro _;exact ⟨by simp,by simpa using h0⟩
    | succ n ih =>
      intro hn
      obtain ⟨h1,h2⟩:=ih (by omega)
      obtain ⟨h3,h4⟩:=hs n (by omega) _ h2
      have e:(l.take (n+1)).foldl f s=f ((l.take n).foldl f s) l[n]:=by
        rw [← List.take_append_getElem (show n<l.length by omega),List.foldl_append];rfl
      rw [e]
      exact ⟨h1.trans (loop_eq h3),h4⟩
  obtain ⟨h1,h2⟩:=key l.length (Nat.le_refl _)
  rw [List.take_length] at h1 h2
  exact ⟨h1.trans (loop_end (he _) (by simp)),h2⟩
theorem loop_foldl {A S:Type} {step:List CV→Option Ou} (l:List A) (E:Nat→S→List CV) (f:S→A→S) (b:Nat) (G:S→List CV) (s:S) {vs:List CV} (hv:vs=E 0 s)
    (hs:∀ i (h:i<l.length) s,step (E i s)=some (.nx (E (i+1) (f s l[i])))) (he:∀ s,step (E l.length s)=some (.br b (G s))) :
    loopD step vs=some (.br b (G (l.foldl f s))):=
  (loop_foldP l E f (fun _=>True) b G s hv trivial (fun i h s _=>⟨hs i h s,trivial⟩) he).1
theorem loop_find {step:List CV→Option Ou} (n:Nat) (T:Nat→List CV) (p:Nat→Bool) (R:Nat→Option Ou) (X:Option Ou) {vs:List CV} (hv:vs=T 0) (hR:∀ i,i<n→p i=true→∀ l,R i≠some (.nx l)) (hX:∀ l,X≠some (.nx l))
    (h1:∀ i,i<n→p i=false→step (T i)=some (.nx (T (i+1)))) (h2:∀ i,i<n→p i=true→step (T i)=R i) (h3:step (T n)=X) :
    loopD step vs=match (List.range n).find? p with
      | some i=>R i
      | none=>X:=by
  subst hv
  cases hf:(List.range n).find? p with
  | none =>
    rw [List.find?_eq_none] at hf
    rw [loop_to T n fun i hi=>h1 i hi (by simpa using hf i (by simpa using hi))]
    exact loop_end h3 hX
  | some i =>
    rw [List.find?_range_eq_some] at hf
    obtain ⟨hp,hi,hq⟩:=hf
    have hi':i<n:=by simpa using hi
    rw [loop_to T i fun j hj=>h1 j (by omega) (by simpa using hq j hj)]
    exact loop_end (h2 i hi' hp) (hR i hi' hp)
theorem loop_findL {A:Type} {step:List CV→Option Ou} (p:A→Bool) (R:A→Option Ou) (X:Option Ou):∀ (m:List A) (T:Nat→List CV) {vs:List CV},vs=T 0→(∀ x l,p x=true→R x≠some (.nx l))→(∀ l,X≠some (.nx l)) →
    (∀ i (h:i<m.length),p m[i]=false→step (T i)=some (.nx (T (i+1))))→(∀ i (h:i<m.length),p m[i]=true→step (T i)=R m[i])→step (T m.length)=X →
    loopD step vs=match m.find? p with
      | some x=>R x
      | none=>X
  | [],T,vs,hv,hR,hX,h1,h2,h3=>by subst hv;exact loop_end h3 hX
  | a::m,T,vs,hv,hR,hX,h1,h2,h3=>by
    subst hv
    cases hp:p a with
    | true=>rw [List.find?_cons_of_pos hp];exact loop_end (h2 0 (by simp) hp) fun l=>hR a l hp
    | false =>
      rw [List.find?_cons_of_neg (by simp [hp]),loop_eq (h1 0 (by simp) hp)]
      exact loop_findL p R X m (fun i=>T (i+1)) rfl hR hX (fun i h hq=>h1 (i+1) (by simpa using h) hq) (fun i h hq=>h2 (i+1) (by simpa using h) hq) h3
theorem clone_row {A:Type} (k by_:Nat) (cv:A→List CV) (l:List A) (h:l.length*by_≤140737488355328) (h':l.length≤9223372036854775807) :
    nilD (l.map cv) (some (.ret [.row k []])) (chk (fitA 0 (l.map cv).length by_) (some (.ret [.row k (l.map cv)])))=some (.ret [.row k (l.map cv)]):=by
  have hf:fitA 0 (l.map cv).length by_=true:=fitA_of (by simpa using h) (by simpa using h')
  rw [nilD_eq,hf,chk_true]
  intro he;rw [hf,chk_true,he]
theorem loop_idx {A:Type} {step:List CV→Option Ou} (p:A→Bool):∀ (m:List A) (R:Nat→Option Ou) (X:Option Ou) (T:Nat→List CV) {vs:List CV},vs=T 0→(∀ i l,R i≠some (.nx l))→(∀ l,X≠some (.nx l)) →
    (∀ i (h:i<m.length),p m[i]=false→step (T i)=some (.nx (T (i+1))))→(∀ i (h:i<m.length),p m[i]=true→step (T i)=R i)→step (T m.length)=X →
    loopD step vs=match m.findIdx? p with
      | some i=>R i
      | none=>X
  | [],R,X,T,vs,hv,hR,hX,h1,h2,h3=>by subst hv;exact loop_end h3 hX
  | a::m,R,X,T,vs,hv,hR,hX,h1,h2,h3=>by
    subst hv
    rw [List.findIdx?_cons]
    cases hp:p a with
    | true=>simp only [if_true];exact loop_end (h2 0 (by simp) hp) fun l=>hR 0 l
    | false =>
      rw [loop_eq (h1 0 (by simp) hp),loop_idx p m (fun i=>R (i+1)) X (fun i=>T (i+1)) rfl (fun i l=>hR (i+1) l) hX (fun i h hq=>h1 (i+1) (by simpa using h) hq) (fun i h hq=>h2 (i+1) (by simpa using h) hq) h3]
      simp only [Bool.false_eq_true,if_false]
      cases m.findIdx? p <;> rfl
def idxI (o:Option Nat):Int:=match o with
  | some i=>i
  | none=>-1
end Go.Sx
namespace Go.Pen
structure Kd where
  (sort room eats apart:Int)
structure Yard where
  pens:List Int
  kinds:List Kd
def within (n lo hi:Int):Bool:=decide (lo≤n)&&decide (n≤hi)
def Kd.ok (k:Kd):Bool:=within k.sort 1 9&&within k.room 1 1000&&within k.eats 0 1000&&within k.apart 0 1023&&decide (k.apart % 2=0)
def rising:List Int→Bool
  | []=>true
  | x::l=>(match l with | []=>true | y::_=>decide (x<y))&&rising l
def Yard.ok (y:Yard):Bool:=decide (y.pens.length≤5)&&y.pens.all (fun n=>within n 0 1000)&&y.kinds.all Kd.ok&&rising (y.kinds.map Kd.sort)
def kindOf (y:Yard) (s:Int):Option Kd:=y.kinds.find? fun k=>k.sort == s
def kz:Kd:=⟨0,0,0,0⟩
def kd (y:Yard) (s:Int):Kd:=(kindOf y s).getD kz
def has (y:Yard) (s:Int):Bool:=(kindOf y s).isSome
def rm (y:Yard) (s:Int):Int:=(kd y s).room
def bit (n b:Int):Bool:=n.toNat.testBit b.toNat
def apt (y:Yard) (a b:Int):Bool:=bit (kd y a).apart b || bit (kd y b).apart a
theorem apt_comm (y:Yard) (a b:Int):apt y a b=apt y b a:=by unfold apt;rw [Bool.or_comm]
def sortsOk (y:Yard) (l:List Int):Bool:=decide (l.length≤8)&&l.all (has y)
def checkYard (y:Yard):Int:=if y.ok then 0 else 50
def asked (y:Yard) (l:List Int):Int:=if y.ok then (if sortsOk y l then 0 else 51) else 50
def rooms (y:Yard) (l:List Int):Int:=l.foldl (fun n s=>n+rm y s) 0
abbrev BP:=List (Int×Int)
def load (y:Yard):BP→Int→Int
  | [],_=>0
  | (s,q)::z,pen=>(if q=pen then rm y s else 0)+load y z pen
def canGo (y:Yard) (z:BP) (s q:Int):Bool:=
  within q 0 ((y.pens.length:Int) - 1)&&decide (load y z q+rm y s≤y.pens.getD q.toNat 0)&&z.all fun x=>!(x.2 == q&&apt y x.1 s)
def okZ (y:Yard) (z:BP):Bool:=(List.range z.length).all fun i=>match z[i]? with | some x=>canGo y (z.take i) x.1 x.2 | none=>true
def okP (y:Yard) (l p:List Int):Bool:=decide (p.length≤l.length)&&okZ y (l.zip p)
theorem okZ_nil (y:Yard):okZ y []=true:=rfl
theorem okZ_snoc (y:Yard) (z:BP) (x:Int×Int):okZ y (z++[x])=(okZ y z&&canGo y z x.1 x.2):=by
  unfold okZ
  rw [List.length_append,List.length_singleton,List.range_succ,List.all_append]
  congr 1
  · rw [Bool.eq_iff_iff,List.all_eq_true,List.all_eq_true]
    refine forall_congr' fun i=>?_
    rw [List.mem_range]
    constructor <;> intro h hi <;> have:=h hi <;> rw [List.getElem?_append_left hi,List.take_append_of_le_length (by omega)] at*<;> exact this
  · simp
theorem zip_snoc {l p:List Int} {q:Int} (h:p.length<l.length):l.zip (p++[q])=l.zip p++[(l.getD p.length 0,q)]:=by
  induction p generalizing l with
  | nil=>cases l with
    | nil=>simp at h
    | cons a l=>simp
  | cons b p ih=>cases l with
    | nil=>simp at h
    | cons a l =>
      simp only [List.length_cons] at h
      simp only [List.cons_append,List.zip_cons_cons,List.length_cons,List.getD_cons_succ]
      rw [ih (by omega)]
theorem okP_nil (y:Yard) (l:List Int):okP y l []=true:=by simp [okP,okZ]
theorem okP_snoc (y:Yard) (l p:List Int) (q:Int) (h:p.length<l.length):okP y l (p++[q])=(okP y l p&&canGo y (l.zip p) (l.getD p.length 0) q):=by
  unfold okP
  rw [zip_snoc h,okZ_snoc]
  have h1:(p++[q]).length≤l.length:=by simp;omega
  have h2:p.length≤l.length:=by omega
  simp [h1,h2]
  omega
theorem okP_take (y:Yard) (l p:List Int) (h:p.length≤l.length):okP y (l.take p.length) p=okP y l p:=by
  unfold okP
  have e:(l.take p.length).zip p=l.zip p:=by
    induction p generalizing l with
    | nil=>simp
    | cons a p ih=>cases l with
      | nil=>simp
      | cons b l =>
        simp only [List.length_cons] at h
        simp only [List.length_cons,List.take_succ_cons,List.zip_cons_cons,ih l (by omega)]
  rw [e]
  simp [h]
theorem okP_prefix {y:Yard} {l p q:List Int} (h:okP y l (p++q)=true):okP y l p=true:=by
  induction q generalizing p with
  | nil=>simpa using h
  | cons a q ih =>
    have h1:okP y l (p++[a])=true:=ih (p:=p++[a]) (by simpa using h)
    have h2:(p++[a]).length≤l.length:=by
      unfold okP at h1
      simp only [Bool.and_eq_true,decide_eq_true_eq] at h1
      exact h1.1
    rw [okP_snoc _ _ _ _ (by simp at h2;omega)] at h1
    simp only [Bool.and_eq_true] at h1
    exact h1.1
def pls (y:Yard) (l:List Int):Nat→List Int→List (List Int)
  | 0,p=>[p]
  | k+1,p=>(List.range y.pens.length).flatMap fun (i:Nat)=>if okP y l (p++[(i:Int)])=true then pls y l k (p++[(i:Int)]) else []
def PL (y:Yard) (l:List Int):List (List Int):=pls y l l.length []
theorem mem_pls {y:Yard} {l:List Int} {x:List Int}:∀ {k:Nat} {p:List Int},okP y l p=true→(x∈pls y l k p↔p <+: x∧x.length=p.length+k∧okP y l x=true)
  | 0,p,hp=>by
    simp only [pls,List.mem_singleton,Nat.add_zero]
    constructor
    · rintro rfl;exact ⟨List.prefix_refl _,rfl,hp⟩
    · rintro ⟨h1,h2,_⟩;exact (h1.eq_of_length h2.symm).symm
  | k+1,p,hp=>by
    simp only [pls,List.mem_flatMap,List.mem_range]
    constructor
    · rintro ⟨i,hi,hx⟩
      split at hx
      · rename_i h
        obtain ⟨h1,h2,h3⟩:=(mem_pls h).1 hx
        refine ⟨List.IsPrefix.trans (List.prefix_append _ _) h1,?_,h3⟩
        simp at h2;omega
      · simp at hx
    · rintro ⟨⟨r,rfl⟩,h2,h3⟩
      cases r with
      | nil=>simp at h2
      | cons q r =>
        have h4:okP y l (p++[q])=true:=okP_prefix (q:=r) (by simpa using h3)
        have hl:p.length<l.length:=by
          unfold okP at h4
          simp only [Bool.and_eq_true,decide_eq_true_eq,List.length_append,List.length_singleton] at h4
          omega
        have h5:=h4
        rw [okP_snoc _ _ _ _ hl] at h5
        simp only [Bool.and_eq_true,canGo,within,decide_eq_true_eq] at h5
        obtain ⟨_,⟨⟨hq0,hq1⟩,_⟩,_⟩:=h5
        refine ⟨q.toNat,by omega,?_⟩
        have e:((q.toNat:Nat):Int)=q:=by omega
        rw [e,if_pos h4]
        rw [mem_pls h4]
        refine ⟨⟨r,by simp⟩,?_,h3⟩
        simp at h2 ⊢;omega
theorem mem_PL {y:Yard} {l x:List Int}:x∈PL y l↔x.length=l.length∧okP y l x=true:=by
  unfold PL
  rw [mem_pls (okP_nil y l)]
  simp
def ahead:List Int→List Int→Bool
  | [],_=>false
  | _::_,[]=>false
  | a::az,b::bs=>if a=b then ahead az bs else decide (a<b)
theorem ahead_irrefl:∀ a:List Int,ahead a a=false
  | []=>rfl
  | a::az=>by simp [ahead,ahead_irrefl az]
theorem ahead_app:∀ (p:List Int) {i j:Int} (a b:List Int),i<j→ahead (p++i::a) (p++j::b)=true
  | [],i,j,a,b,h=>by
    have:i≠j:=by omega
    simp [ahead,this,h]
  | x::p,i,j,a,b,h=>by simp [ahead,ahead_app p a b h]
theorem ahead_trans:∀ {a b c:List Int},ahead a b=true→ahead b c=true→ahead a c=true
  | [],b,c,h1,_=>by simp [ahead] at h1
  | _::_,[],c,h1,_=>by simp [ahead] at h1
  | _::_,_::_,[],_,h2=>by simp [ahead] at h2
  | a::az,b::bs,c::cs,h1,h2=>by
    simp only [ahead] at h1 h2 ⊢
    split at h1 <;> split at h2 <;> split
    · exact ahead_trans h1 h2
    all_goals simp at *
    all_goals omega
theorem pls_sorted {y:Yard} {l:List Int}:∀ {k:Nat} {p:List Int},okP y l p=true→(pls y l k p).Pairwise fun a b=>ahead a b=true
  | 0,p,_=>by simp [pls]
  | k+1,p,hp=>by
    simp only [pls]
    rw [List.pairwise_flatMap]
    refine ⟨fun i _=>?_,?_⟩
    · split
      · rename_i h;exact pls_sorted h
      · exact List.Pairwise.nil
    · refine List.Pairwise.imp ?_ List.pairwise_lt_range
      intro i j hij a ha b hb
      split at ha
      · rename_i h1
        split at hb
        · rename_i h2
          obtain ⟨⟨ra,rfl⟩,_⟩:=(mem_pls h1).1 ha
          obtain ⟨⟨rb,rfl⟩,_⟩:=(mem_pls h2).1 hb
          simp only [List.append_assoc,List.singleton_append]
          exact ahead_app p ra rb (by omega)
        · simp at hb
      · simp at ha
theorem PL_sorted (y:Yard) (l:List Int):(PL y l).Pairwise fun a b=>ahead a b=true:=pls_sorted (okP_nil y l)
theorem PL_nodup (y:Yard) (l:List Int):(PL y l).Nodup:=by
  refine List.Pairwise.imp ?_ (PL_sorted y l)
  rintro a b h rfl
  rw [ahead_irrefl] at h
  exact absurd h (by simp)
end Go.Pen
namespace Go.Pen
theorem load_append (y:Yard) (z z':BP) (pen:Int):load y (z++z') pen=load y z pen+load y z' pen:=by
  induction z with
  | nil=>simp [load]
  | cons a z ih=>obtain ⟨s,q⟩:=a;simp only [List.cons_append,load,ih];omega
theorem load_perm (y:Yard) {z z':BP} (h:z.Perm z') (pen:Int):load y z pen=load y z' pen:=by
  induction h with
  | nil=>rfl
  | cons a _ ih=>simp only [load,ih]
  | swap a b l=>simp only [load];omega
  | trans _ _ ih1 ih2=>rw [ih1,ih2]
def Good (y:Yard) (z:BP):Prop:=
  (∀ x∈z,within x.2 0 ((y.pens.length:Int) - 1)=true∧load y z x.2≤y.pens.getD x.2.toNat 0)∧z.Pairwise fun a b=>¬(a.2=b.2∧apt y a.1 b.1=true)
theorem Good_perm {y:Yard} {z z':BP} (h:z.Perm z'):Good y z↔Good y z':=by
  unfold Good
  rw [h.pairwise_iff (R:=fun a b=>¬(a.2=b.2∧apt y a.1 b.1=true)) (fun {a b} hab hba=>hab ⟨hba.1.symm,by rw [apt_comm];exact hba.2⟩)]
  refine and_congr ⟨fun H x hx=>?_,fun H x hx=>?_⟩ Iff.rfl
  · have:=H x (h.mem_iff.2 hx);rwa [load_perm y h] at this
  · have:=H x (h.mem_iff.1 hx);rwa [load_perm y h]
theorem okZ_iff {y:Yard} (hr:∀ s,0≤rm y s):∀ (n:Nat) (z:BP),z.length=n→(okZ y z=true↔Good y z)
  | 0,z,hz=>by
    rw [List.length_eq_zero_iff.1 hz]
    simp [okZ_nil,Good]
  | n+1,z,hz=>by
    have hne:z≠[]:=by rintro rfl;simp at hz
    have e:=List.dropLast_concat_getLast hne
    generalize z.getLast hne=x at e
    generalize hw:z.dropLast=w at e
    have hwl:w.length=n:=by rw [← hw,List.length_dropLast,hz];rfl
    subst e
    rw [okZ_snoc,Bool.and_eq_true,okZ_iff hr n w hwl]
    unfold Good canGo
    simp only [List.mem_append,List.mem_singleton,load_append,List.pairwise_append,List.pairwise_singleton,Bool.and_eq_true,decide_eq_true_eq,List.all_eq_true,load,true_and,forall_eq]
    constructor
    · rintro ⟨⟨h1,h2⟩,⟨h3,h4⟩,h5⟩
      refine ⟨?_,h2,?_⟩
      · rintro a (ha | rfl)
        · refine ⟨(h1 a ha).1,?_⟩
          have:=(h1 a ha).2
          split
          · rename_i e;rw [← e];omega
          · omega
        · refine ⟨h3,?_⟩
          simp [-List.getD_eq_getElem?_getD];omega
      · intro a ha ⟨e1,e2⟩
        have:=h5 a ha
        simp [e1,e2] at this
    · rintro ⟨h1,h2,h3⟩
      refine ⟨⟨fun a ha=>?_,h2⟩,?_,?_⟩
      · obtain ⟨h4,h5⟩:=h1 a (Or.inl ha)
        refine ⟨h4,?_⟩
        have:=hr x.1
        split at h5 <;> omega
      · obtain ⟨h4,h5⟩:=h1 x (Or.inr rfl)
        simp [-List.getD_eq_getElem?_getD] at h5
        exact ⟨h4,by omega⟩
      · intro a ha
        have:=h3 a ha
        simp only [Bool.not_eq_true',Bool.and_eq_false_iff,beq_eq_false_iff_ne]
        by_cases e:a.2=x.2
        · right
          cases h:apt y a.1 x.1 with
          | false=>rfl
          | true=>exact absurd ⟨e,h⟩ this
        · exact Or.inl e
theorem perm_move {l l':List Int} (h:l.Perm l'):∃ f:List Int→List Int,(∀ x:List Int,x.length=l.length→(f x).length=l'.length∧(l.zip x).Perm (l'.zip (f x))) ∧
    ∀ x x':List Int,x.length=l.length→x'.length=l.length→f x=f x'→x=x':=by
  induction h with
  | nil=>exact ⟨id,by simp,by simp⟩
  | @cons a l l' _ ih =>
    obtain ⟨f,h1,h2⟩:=ih
    refine ⟨fun x=>match x with | []=>[] | q::x=>q::f x,?_,?_⟩
    · intro x hx
      match x,hx with
      | q::x,hx =>
        have:=h1 x (by simpa using hx)
        simp only [List.length_cons,this.1,List.zip_cons_cons,true_and]
        exact this.2.cons _
    · intro x x' hx hx'
      match x,hx,x',hx' with
      | q::x,hx,q'::x',hx' =>
        intro e
        simp only [List.cons.injEq] at e
        rw [e.1,h2 x x' (by simpa using hx) (by simpa using hx') e.2]
  | swap a b l =>
    refine ⟨fun x=>match x with | q::r::x=>r::q::x | x=>x,?_,?_⟩
    · intro x hx
      match x,hx with
      | q::r::x,hx =>
        refine ⟨by simpa using hx,?_⟩
        simp only [List.zip_cons_cons]
        exact List.Perm.swap _ _ _
    · intro x x' hx hx'
      match x,hx,x',hx' with
      | q::r::x,hx,q'::r'::x',hx' =>
        intro e
        simp only [List.cons.injEq] at e
        rw [e.1,e.2.1,e.2.2]
  | trans _ _ ih1 ih2 =>
    obtain ⟨f,h1,h2⟩:=ih1
    obtain ⟨g,h3,h4⟩:=ih2
    refine ⟨fun x=>g (f x),fun x hx=>?_,fun x x' hx hx' e=>?_⟩
    · have a:=h1 x hx
      have b:=h3 (f x) a.1
      exact ⟨b.1,a.2.trans b.2⟩
    · exact h2 x x' hx hx' (h4 _ _ (h1 x hx).1 (h1 x' hx').1 e)
theorem nodup_le {A:Type} [DecidableEq A]:∀ {l m:List A},l.Nodup→(∀ x∈l,x∈m)→l.length≤m.length
  | [],_,_,_=>by simp
  | a::l,m,h,hm=>by
    rw [List.nodup_cons] at h
    have h1:a∈m:=hm a (by simp)
    have h2:∀ x∈l,x∈m.erase a:=fun x hx=>by
      have hne:x≠a:=by rintro rfl;exact h.1 hx
      exact (List.mem_erase_of_ne hne).2 (hm x (by simp [hx]))
    have h3:=nodup_le h.2 h2
    rw [List.length_erase_of_mem h1] at h3
    have:0<m.length:=List.length_pos_of_mem h1
    simp only [List.length_cons];omega
theorem rm_nonneg {y:Yard} (h:y.ok=true) (s:Int):0≤rm y s:=by
  unfold rm kd kindOf
  cases hf:y.kinds.find? (fun k=>k.sort == s) with
  | none=>simp [kz]
  | some k =>
    have hm:=List.mem_of_find?_eq_some hf
    unfold Yard.ok at h
    simp only [Bool.and_eq_true,List.all_eq_true,Kd.ok,within,decide_eq_true_eq] at h
    have:=(h.1.2 k hm).1.1.1.2.1
    simp only [Option.getD_some];omega
theorem okP_iff {y:Yard} (h:y.ok=true) {l x:List Int} (hx:x.length=l.length):okP y l x=true↔Good y (l.zip x):=by
  unfold okP
  simp only [hx,Nat.le_refl,decide_true,Bool.true_and]
  exact okZ_iff (rm_nonneg h) _ _ rfl
theorem PL_le {y:Yard} (h:y.ok=true) {l l':List Int} (hl:l.Perm l'):(PL y l).length≤(PL y l').length:=by
  obtain ⟨f,h1,h2⟩:=perm_move hl
  have h3:((PL y l).map f).Nodup:=by
    unfold List.Nodup
    rw [List.pairwise_map]
    refine List.Pairwise.imp_of_mem ?_ (PL_nodup y l)
    intro a b ha hb hab e
    exact hab (h2 a b (mem_PL.1 ha).1 (mem_PL.1 hb).1 e)
  have h4:=nodup_le (m:=PL y l') h3 (by
    intro x hx
    obtain ⟨a,ha,rfl⟩:=List.mem_map.1 hx
    obtain ⟨e1,e2⟩:=mem_PL.1 ha
    rw [mem_PL]
    refine ⟨(h1 a e1).1,?_⟩
    rw [okP_iff h (h1 a e1).1,← Good_perm (h1 a e1).2,← okP_iff h e1]
    exact e2)
  simpa using h4
theorem PL_perm {y:Yard} (h:y.ok=true) {l l':List Int} (hl:l.Perm l'):(PL y l).length=(PL y l').length:=
  Nat.le_antisymm (PL_le h hl) (PL_le h hl.symm)
def can (y:Yard) (l:List Int):Bool:=!(PL y l).isEmpty
theorem can_perm {y:Yard} (h:y.ok=true) {l l':List Int} (hl:l.Perm l'):can y l=can y l':=by
  have:=PL_perm h hl
  unfold can
  rw [Bool.eq_iff_iff]
  simp only [Bool.not_eq_true',List.isEmpty_eq_false_iff_exists_mem,← List.length_pos_iff_exists_mem,this]
def mix (l:List Int):List Int:=(List.range 10).map fun (s:Nat)=>(l.count (s:Int):Int)
theorem perm_of_mix {l l':List Int} (h:∀ s∈l,1≤s∧s≤9) (h':∀ s∈l',1≤s∧s≤9) (e:mix l=mix l'):l.Perm l':=by
  rw [List.perm_iff_count]
  intro a
  by_cases ha:0≤a∧a≤9
  · have:=List.map_inj_left.1 e a.toNat (by simp;omega)
    have e2:((a.toNat:Nat):Int)=a:=by omega
    rw [e2] at this
    omega
  · rw [List.count_eq_zero.2 (fun hm=>ha (by have:=h a hm;omega)),List.count_eq_zero.2 (fun hm=>ha (by have:=h' a hm;omega))]
theorem has_range {y:Yard} (h:y.ok=true) {s:Int} (hs:has y s=true):1≤s∧s≤9:=by
  unfold has kindOf at hs
  rw [Option.isSome_iff_exists] at hs
  obtain ⟨k,hk⟩:=hs
  have hm:=List.mem_of_find?_eq_some hk
  have he:=List.find?_some hk
  unfold Yard.ok at h
  simp only [Bool.and_eq_true,List.all_eq_true,Kd.ok,within,decide_eq_true_eq] at h
  have:=(h.1.2 k hm).1.1.1.1
  simp only [beq_iff_eq] at he
  omega
theorem can_mix {y:Yard} (h:y.ok=true) {l l':List Int} (hl:l.all (has y)=true) (hl':l'.all (has y)=true) (e:mix l=mix l'):can y l=can y l':=by
  rw [List.all_eq_true] at hl hl'
  exact can_perm h (perm_of_mix (fun s hs=>has_range h (hl s hs)) (fun s hs=>has_range h (hl' s hs)) e)
end Go.Pen
namespace Go.Pen
def used:List Int→List Int→Nat
  | _,[]=>0
  | seen,q::p=>(if q∈seen then 0 else 1)+used (q::seen) p
theorem used_app:∀ (p seen r:List Int),used seen (p++r)=used seen p+used (p.reverse++seen) r
  | [],seen,r=>by simp [used]
  | q::p,seen,r=>by
    simp only [List.cons_append,used,used_app p (q::seen) r,List.reverse_cons,List.append_assoc,List.cons_append,List.nil_append]
    omega
theorem used_snoc (p:List Int) (q:Int):used [] (p++[q])=used [] p+if q∈p then 0 else 1:=by
  rw [used_app]
  simp [used]
theorem used_le_len:∀ (p seen:List Int),used seen p≤p.length
  | [],_=>by simp [used]
  | q::p,seen=>by
    have:=used_le_len p (q::seen)
    simp only [used,List.length_cons]
    split <;> omega
def cnt (f:Nat→Bool):Nat→Nat
  | 0=>0
  | n+1=>cnt f n+if f n then 1 else 0
theorem cnt_le (f:Nat→Bool):∀ n,cnt f n≤n
  | 0=>Nat.le_refl _
  | n+1=>by have:=cnt_le f n;simp only [cnt];split <;> omega
theorem cnt_congr {f g:Nat→Bool}:∀ {n},(∀ i,i<n→f i=g i)→cnt f n=cnt g n
  | 0,_=>rfl
  | n+1,h=>by simp only [cnt,h n (by omega),cnt_congr (n:=n) fun i hi=>h i (by omega)]
theorem cnt_add {f g:Nat→Bool} {j:Nat}:∀ {n},j<n→f j=true→g j=false→(∀ i,i<n→i≠j→f i=g i)→cnt f n=cnt g n+1
  | n+1,hj,h1,h2,h=>by
    by_cases e:j=n
    · subst e
      simp only [cnt,h1,h2]
      rw [cnt_congr (f:=f) (g:=g) (n:=j) fun i hi=>h i (by omega) (by omega)]
      simp
    · simp only [cnt,h n (by omega) (fun h=>e h.symm)]
      rw [cnt_add (n:=n) (by omega) h1 h2 fun i hi hne=>h i (by omega) hne]
      omega
theorem used_cnt {n:Nat}:∀ (p:List Int),(∀ q∈p,0≤q∧q<(n:Int))→used [] p=cnt (fun i=>decide ((i:Int)∈p)) n:=by
  intro p
  generalize hk:p.length=k
  induction k generalizing p with
  | zero =>
    intro _
    rw [List.length_eq_zero_iff.1 hk]
    have:∀ m,cnt (fun i=>decide ((i:Int)∈([]:List Int))) m=0:=fun m=>by
      induction m with
      | zero=>rfl
      | succ m ih=>simp only [cnt,ih];simp
    rw [this];rfl
  | succ k ih =>
    intro h
    have hne:p≠[]:=by rintro rfl;simp at hk
    have e:=List.dropLast_concat_getLast hne
    generalize p.getLast hne=q at e
    generalize hw:p.dropLast=w at e
    have hwl:w.length=k:=by rw [← hw,List.length_dropLast,hk];rfl
    subst e
    rw [used_snoc,ih w hwl fun q hq=>h q (by simp [hq])]
    have hq:=h q (by simp)
    split
    · rename_i hm
      rw [Nat.add_zero]
      refine cnt_congr fun i _=>?_
      simp only [List.mem_append,List.mem_singleton]
      congr 1
      simp only [eq_iff_iff]
      exact ⟨Or.inl,fun h=>h.elim id (fun e=>e▸hm)⟩
    · rename_i hm
      have e:((q.toNat:Nat):Int)=q:=by omega
      rw [cnt_add (j:=q.toNat) (f:=fun i=>decide ((i:Int)∈w++[q])) (g:=fun i=>decide ((i:Int)∈w)) (by omega) (by simp [e]) (by simp [e,hm])]
      intro i _ hne
      simp only [List.mem_append,List.mem_singleton]
      congr 1
      simp only [eq_iff_iff]
      exact ⟨fun h=>h.elim id (fun e=>absurd e (by omega)),Or.inl⟩
def best (f:List Int→Nat):Option (List Int)→List (List Int)→Option (List Int)
  | b,[]=>b
  | none,x::l=>best f (some x) l
  | some b,x::l=>best f (some (if f x<f b then x else b)) l
def fewest (y:Yard) (l:List Int):Option (List Int):=best (used []) none (PL y l)
theorem best_first {f:List Int→Nat}:∀ {l:List (List Int)} {a:List Int},l.Pairwise (fun a b=>ahead a b=true)→best f none l=some a →
    a∈l∧(∀ x∈l,f a≤f x)∧(∀ x∈l,f x=f a→x=a∨ahead a x=true)
  | [],a,_,h=>by simp [best] at h
  | x::l,a,hp,h=>by
    simp only [best] at h
    have key:∀ (l:List (List Int)) (b a:List Int),(b::l).Pairwise (fun a b=>ahead a b=true)→best f (some b) l=some a →
        a∈b::l∧(∀ x∈b::l,f a≤f x)∧(∀ x∈b::l,f x=f a→x=a∨ahead a x=true):=by
      intro l
      induction l with
      | nil =>
        intro b a _ h
        simp only [best,Option.some.injEq] at h
        subst h
        simp
      | cons x l ih =>
        intro b a hp h
        simp only [best] at h
        rw [List.pairwise_cons] at hp
        obtain ⟨hb,hp2⟩:=hp
        by_cases hlt:f x<f b
        · rw [if_pos hlt] at h
          obtain ⟨h1,h2,h3⟩:=ih x a hp2 h
          refine ⟨List.mem_cons_of_mem _ h1,?_,?_⟩
          · intro z hz
            rcases List.mem_cons.1 hz with rfl | hz
            · have:=h2 x (by simp);omega
            · exact h2 z hz
          · intro z hz e
            rcases List.mem_cons.1 hz with rfl | hz
            · have:=h2 x (by simp);omega
            · exact h3 z hz e
        · rw [if_neg hlt] at h
          rw [List.pairwise_cons] at hp2
          have hp3:(b::l).Pairwise fun a b=>ahead a b=true:=by
            rw [List.pairwise_cons]
            exact ⟨fun z hz=>hb z (by simp [hz]),hp2.2⟩
          obtain ⟨h1,h2,h3⟩:=ih b a hp3 h
          refine ⟨?_,?_,?_⟩
          · rcases List.mem_cons.1 h1 with rfl | h1
            · simp
            · simp [h1]
          · intro z hz
            rcases List.mem_cons.1 hz with rfl | hz
            · exact h2 z (by simp)
            · rcases List.mem_cons.1 hz with rfl | hz
              · have:=h2 b (by simp);omega
              · exact h2 z (by simp [hz])
          · intro z hz e
            rcases List.mem_cons.1 hz with rfl | hz
            · exact h3 z (by simp) e
            · rcases List.mem_cons.1 hz with rfl | hz
              · have hfb:=h2 b (by simp)
                have hab:f b=f a:=by omega
                right
                rcases h3 b (by simp) hab with e1 | e1
                · rw [← e1];exact hb z (by simp)
                · exact ahead_trans e1 (hb z (by simp))
              · exact h3 z (by simp [hz]) e
    exact key l x a hp h
end Go.Pen
namespace Go.Pen
open Go.Sx
structure Stay where
  (sort inn out:Int)
def ints (l:List Int):List (List CV):=l.map fun x=>[ci x]
def Kd.cv (k:Kd):List CV:=[ci k.sort,ci k.room,ci k.eats,ci k.apart]
def Stay.cv (s:Stay):List CV:=[ci s.sort,ci s.inn,ci s.out]
def Yard.ps (y:Yard):List (List CV):=ints y.pens
def Yard.ks (y:Yard):List (List CV):=y.kinds.map Kd.cv
def stays (l:List Stay):List (List CV):=l.map Stay.cv
@[simp] theorem ints_length (l:List Int):(ints l).length=l.length:=by simp [ints]
@[simp] theorem il_ints' (l:List Int):il (ints l)=l.length:=by simp [ints]
@[simp] theorem il_stays (l:List Stay):il (stays l)=l.length:=by simp [stays]
@[simp] theorem il_ks (y:Yard):il y.ks=y.kinds.length:=by simp [Yard.ks]
@[simp] theorem il_ps (y:Yard):il y.ps=y.pens.length:=by simp [Yard.ps]
theorem inb_ints {l:List Int} {i:Nat} (h:i<l.length):inb (i:Int) (ints l)=true:=inb_map h
theorem el_ints {l:List Int} {i:Nat} (h:i<l.length):el (ints l) (i:Int)=[ci l[i]]:=el_map h
theorem inb_ps {y:Yard} {i:Nat} (h:i<y.pens.length):inb (i:Int) y.ps=true:=inb_map h
theorem el_ps {y:Yard} {i:Nat} (h:i<y.pens.length):el y.ps (i:Int)=[ci y.pens[i]]:=el_map h
theorem inb_ks {y:Yard} {i:Nat} (h:i<y.kinds.length):inb (i:Int) y.ks=true:=inb_map h
theorem el_ks {y:Yard} {i:Nat} (h:i<y.kinds.length):el y.ks (i:Int)=y.kinds[i].cv:=el_map h
theorem inb_stays {l:List Stay} {i:Nat} (h:i<l.length):inb (i:Int) (stays l)=true:=inb_map h
theorem el_stays {l:List Stay} {i:Nat} (h:i<l.length):el (stays l) (i:Int)=l[i].cv:=el_map h
@[simp] theorem ints_snoc (l:List Int) (x:Int):ints l++[[ci x]]=ints (l++[x]):=by simp [ints]
@[simp] theorem ints_nil:ints []=[]:=rfl
theorem ints_take (l:List Int) (n:Nat):(ints l).take n=ints (l.take n):=by simp [ints,List.map_take]
theorem ints_inj {l m:List Int} (h:ints l=ints m):l=m:=by
  unfold ints at h
  refine List.map_inj_right ?_ |>.1 h
  intro a b e
  injection e with e _
  simp only [ci] at e
  injection e with e
  injection e
theorem ok_length {y:Yard} (h:y.ok=true):y.pens.length≤5∧y.kinds.length≤9:=by
  unfold Yard.ok at h
  simp only [Bool.and_eq_true,decide_eq_true_eq] at h
  refine ⟨h.1.1.1,?_⟩
  have hr:=h.2
  have hk:∀ k∈y.kinds,1≤k.sort∧k.sort≤9:=fun k hk=>by
    have:=List.all_eq_true.1 h.1.2 k hk
    simp only [Kd.ok,within,Bool.and_eq_true,decide_eq_true_eq] at this
    exact this.1.1.1.1
  generalize y.kinds=ks at hr hk
  have key:∀ (ks:List Kd) (a:Int),rising (ks.map Kd.sort)=true→(∀ k∈ks,a≤k.sort∧k.sort≤9)→1≤a→a≤10→(ks.length:Int)≤10 - a:=by
    intro ks
    induction ks with
    | nil=>intro a _ _ _ _;simp;omega
    | cons k ks ih =>
      intro a hr hk h1 h2
      have hk0:=hk k (by simp)
      have hr2:rising (ks.map Kd.sort)=true:=by
        simp only [List.map_cons,rising,Bool.and_eq_true] at hr;exact hr.2
      have hnext:∀ k'∈ks,k.sort+1≤k'.sort∧k'.sort≤9:=by
        intro k' hk'
        refine ⟨?_,(hk k' (by simp [hk'])).2⟩
        have hlt:∀ (ks:List Kd) (s:Int),rising (s::ks.map Kd.sort)=true→∀ k'∈ks,s<k'.sort:=by
          intro ks
          induction ks with
          | nil=>intro s _ k' hk';simp at hk'
          | cons b ks ih2 =>
            intro s hr k' hk'
            simp only [List.map_cons,rising,Bool.and_eq_true,decide_eq_true_eq] at hr
            rcases List.mem_cons.1 hk' with rfl | hk'
            · exact hr.1
            · have:=ih2 b.sort (by simp only [rising,Bool.and_eq_true];exact hr.2) k' hk'
              omega
        have:=hlt ks k.sort (by simpa using hr) k' hk'
        omega
      have:=ih (k.sort+1) hr2 hnext (by omega) (by omega)
      simp only [List.length_cons];omega
  have:=key ks 1 hr hk (by omega) (by omega)
  omega
end Go.Pen
namespace Go.Pen
open Go.Sx
theorem ofInt_nat (m:Nat):BitVec.ofInt 64 (m:Int)=BitVec.ofNat 64 m:=by
  apply BitVec.eq_of_toInt_eq
  simp [BitVec.toInt_ofInt,BitVec.toInt_ofNat]
theorem bAN_nat (m k:Nat) (h:m<2 ^ 64) (h':k<2 ^ 64):bAN (m:Int) (k:Int)=m &&& k:=by
  unfold bAN
  rw [ofInt_nat,ofInt_nat,BitVec.toNat_and,BitVec.toNat_ofNat,BitVec.toNat_ofNat,Nat.mod_eq_of_lt h,Nat.mod_eq_of_lt h']
theorem bON_nat (m k:Nat) (h:m<2 ^ 64) (h':k<2 ^ 64):bON (m:Int) (k:Int)=m ||| k:=by
  unfold bON
  rw [ofInt_nat,ofInt_nat,BitVec.toNat_or,BitVec.toNat_ofNat,BitVec.toNat_ofNat,Nat.mod_eq_of_lt h,Nat.mod_eq_of_lt h']
theorem pow_int (s:Nat):((2:Int) ^ s)=((2 ^ s:Nat):Int):=by simp
theorem and_one_test (q:Nat):(q &&& 1=1)↔q.testBit 0=true:=by
  rw [Nat.and_one_is_mod,Nat.testBit_zero];simp
theorem bit_test (p s:Nat) (h:p<2 ^ 63):((wr (Int.ofNat (bAN (Int.fdiv (p:Int) ((2:Int) ^ (min s 64))) 1))) == 1)=p.testBit s:=by
  rw [pow_int,Int.fdiv_eq_ediv_of_nonneg _ (Int.natCast_nonneg _),← Int.natCast_ediv]
  have h1:p / 2 ^ (min s 64)≤p:=Nat.div_le_self _ _
  have h2:bAN ((p / 2 ^ (min s 64):Nat):Int) 1=(p / 2 ^ (min s 64)) &&& 1:=bAN_nat _ 1 (by omega) (by decide)
  rw [h2]
  have h3:(p / 2 ^ (min s 64)) &&& 1≤1:=Nat.and_le_right
  have h4:wr (Int.ofNat ((p / 2 ^ (min s 64)) &&& 1))=Int.ofNat ((p / 2 ^ (min s 64)) &&& 1):=by
    rw [wr_of] <;> simp <;> omega
  rw [h4]
  have h5:p.testBit s=(p / 2 ^ (min s 64)).testBit 0:=by
    rw [Nat.testBit_div_two_pow,Nat.zero_add]
    by_cases hs:s≤64
    · rw [Nat.min_eq_left hs]
    · rw [Nat.min_eq_right (by omega),Nat.testBit_lt_two_pow (Nat.lt_of_lt_of_le h (Nat.pow_le_pow_right (by decide) (by omega))),Nat.testBit_lt_two_pow (Nat.lt_of_lt_of_le h (Nat.pow_le_pow_right (by decide) (by decide)))]
  rw [h5,Bool.eq_iff_iff,← and_one_test,beq_iff_eq]
  generalize (p / 2 ^ (min s 64)) &&& 1=x
  rw [Int.ofNat_eq_natCast]
  omega
def orI (a:Int) (b:Nat):Int:=wr (Int.ofNat (bON a (wr (1*((2:Int) ^ (min b 64))))))
theorem orI_nat (m b:Nat) (h:m<1024) (hb:b≤9):orI (m:Int) b=((m ||| 2 ^ b:Nat):Int)∧m ||| 2 ^ b<1024:=by
  have h1:2 ^ b<2 ^ 10:=Nat.pow_lt_pow_right (by decide) (by omega)
  have h2:m ||| 2 ^ b<2 ^ 10:=Nat.or_lt_two_pow (by omega) h1
  refine ⟨?_,h2⟩
  unfold orI
  have h0:(0:Int)≤((2 ^ b:Nat):Int):=Int.natCast_nonneg _
  have e:wr (1*((2:Int) ^ (min b 64)))=((2 ^ b:Nat):Int):=by
    rw [Nat.min_eq_left (by omega),pow_int,Int.one_mul,wr_of (by omega) (by omega)]
  rw [e,bON_nat _ _ (by omega) (by omega),Int.ofNat_eq_natCast,wr_of (by omega) (by omega)]
theorem or_test (m b j:Nat):(m ||| 2 ^ b).testBit j=(m.testBit j || decide (b=j)):=by
  rw [Nat.testBit_or,Nat.testBit_two_pow]
theorem and_zero_test (a b:Nat) (ha:a<1024) (hb:b<1024):((wr (Int.ofNat (bAN (a:Int) (b:Int)))) == 0)=(List.range 10).all fun i=>!(a.testBit i&&b.testBit i):=by
  rw [bAN_nat _ _ (by omega) (by omega)]
  have h1:a &&& b≤a:=Nat.and_le_left
  rw [wr_of (by simp) (by simp;omega),Bool.eq_iff_iff,List.all_eq_true]
  simp only [beq_iff_eq,List.mem_range,Bool.not_eq_true',Int.ofNat_eq_natCast,Int.natCast_eq_zero]
  constructor
  · intro h i _
    rw [← Nat.testBit_and,h,Nat.zero_testBit]
  · intro h
    apply Nat.eq_of_testBit_eq
    intro i
    rw [Nat.zero_testBit,Nat.testBit_and]
    by_cases hi:i<10
    · exact h i hi
    · rw [Nat.testBit_lt_two_pow (x:=a) (Nat.lt_of_lt_of_le ha (show 2 ^ 10≤2 ^ i from Nat.pow_le_pow_right (by decide) (by omega)))];rfl
end Go.Pen
namespace Go.Pen
open Go.Sx
def st (f:Nat→Int):List CV:=(List.range 50).map fun j=>ci (f j)
def setK (f:Nat→Int) (s r t p:Int):Nat→Int:=fun j =>
  if decide (j+2=(((2+(s.toNat*4))+1)+1)+1)=true then p else if decide (j+2=((2+(s.toNat*4))+1)+1)=true then t else if decide (j+2=(2+(s.toNat*4))+1)=true then r else if decide (j+2=2+(s.toNat*4))=true then s else f j
def setO (f:Nat→Int) (m:Nat) (x:Int):Nat→Int:=fun j=>if decide (j+2=42+m*1)=true then x else f j
def inner (k:Kd) (f:Nat→Int) (s:Nat):Nat→Int:=
  if bit k.apart s=true then
    let f1:=setO f k.sort.toNat (orI (f (40+k.sort.toNat)) s)
    setO f1 s (orI (f1 (40+s)) k.sort.toNat)
  else f
def outer (f:Nat→Int) (k:Kd):Nat→Int:=(List.range 10).foldl (inner k) (setK f k.sort k.room k.eats k.apart)
def pf (y:Yard):Nat→Int:=y.kinds.foldl outer fun _=>0
def pc (y:Yard):List CV:=.row 1 y.ps::.row 4 y.ks::st (pf y)
theorem setO_eq (f:Nat→Int) (m:Nat) (x:Int) (j:Nat):setO f m x j=if j=40+m then x else f j:=by
  unfold setO
  by_cases h:j=40+m
  · rw [if_pos (by simp;omega),if_pos h]
  · rw [if_neg (by simp;omega),if_neg h]
def isM (x:Int) (p:Nat→Prop):Prop:=∃ m:Nat,x=m∧m<1024∧∀ b,b<10→(m.testBit b=true↔p b)
theorem isM.congr {x:Int} {p q:Nat→Prop} (h:isM x p) (e:∀ b,b<10→(p b↔q b)):isM x q:=by
  obtain ⟨m,h1,h2,h3⟩:=h
  exact ⟨m,h1,h2,fun b hb=>(h3 b hb).trans (e b hb)⟩
theorem isM_or {x:Int} {p:Nat→Prop} (h:isM x p) {c:Nat} (hc:c<10):isM (orI x c) fun b=>p b∨b=c:=by
  obtain ⟨m,rfl,h2,h3⟩:=h
  obtain ⟨e1,e2⟩:=orI_nat m c h2 (by omega)
  refine ⟨m ||| 2 ^ c,e1,e2,fun b hb=>?_⟩
  rw [or_test,Bool.or_eq_true,h3 b hb,decide_eq_true_eq]
  exact or_congr Iff.rfl ⟨fun h=>h.symm,fun h=>h.symm⟩
def Masks (f:Nat→Int) (p:Nat→Nat→Prop):Prop:=∀ s,s<10→isM (f (40+s)) (p s)
theorem setO_masks {f:Nat→Int} {p:Nat→Nat→Prop} (h:Masks f p) {s c:Nat} (hs:s<10) (hc:c<10) :
    Masks (setO f s (orI (f (40+s)) c)) fun a b=>p a b∨a=s∧b=c:=by
  intro a ha
  rw [setO_eq]
  by_cases e:a=s
  · subst e
    rw [if_pos rfl]
    exact (isM_or (h a ha) hc).congr fun b _=>by simp
  · rw [if_neg (by omega)]
    exact (h a ha).congr fun b _=>by simp [e]
theorem inner_low (k:Kd) (f:Nat→Int) (s j:Nat) (hj:j<40):inner k f s j=f j:=by
  unfold inner
  split
  · simp only [setO_eq]
    rw [if_neg (by omega),if_neg (by omega)]
  · rfl
theorem inner_masks {k:Kd} (h1:k.sort.toNat<10) {f:Nat→Int} {p:Nat→Nat→Prop} (h:Masks f p) {s:Nat} (hs:s<10) :
    Masks (inner k f s) fun a b=>p a b∨bit k.apart s=true∧(a=k.sort.toNat∧b=s∨a=s∧b=k.sort.toNat):=by
  unfold inner
  split
  · rename_i hb
    have h2:=setO_masks (setO_masks h h1 hs) hs h1
    intro a ha
    exact (h2 a ha).congr fun b _=>by simp [hb,or_assoc]
  · rename_i hb
    intro a ha
    exact (h a ha).congr fun b _=>by simp [hb]
theorem fold_low (k:Kd):∀ (l:List Nat) (f:Nat→Int) (j:Nat),j<40→l.foldl (inner k) f j=f j
  | [],_,_,_=>rfl
  | s::l,f,j,hj=>by rw [List.foldl_cons,fold_low k l _ j hj,inner_low k f s j hj]
theorem fold_masks {k:Kd} (h1:k.sort.toNat<10):∀ (l:List Nat) (f:Nat→Int) (p:Nat→Nat→Prop),(∀ s∈l,s<10)→Masks f p →
    Masks (l.foldl (inner k) f) fun a b=>p a b∨∃ s∈l,bit k.apart s=true∧(a=k.sort.toNat∧b=s∨a=s∧b=k.sort.toNat)
  | [],f,p,_,h=>fun a ha=>(h a ha).congr fun b _=>by simp
  | s::l,f,p,hl,h=>by
    have:=fold_masks h1 l _ _ (fun s hs=>hl s (by simp [hs])) (inner_masks h1 h (hl s (by simp)))
    intro a ha
    exact (this a ha).congr fun b _=>by simp [or_assoc]
theorem setK_eq (f:Nat→Int) (k:Kd) (h0:0≤k.sort) {a c:Nat} (hc:c<4):setK f k.sort k.room k.eats k.apart (4*a+c)=if a=k.sort.toNat then [k.sort,k.room,k.eats,k.apart].getD c 0 else f (4*a+c):=by
  unfold setK
  simp only [decide_eq_true_eq]
  by_cases e:a=k.sort.toNat
  · rw [if_pos e]
    match c,hc with
    | 0,_=>rw [if_neg (by omega),if_neg (by omega),if_neg (by omega),if_pos (by omega)];rfl
    | 1,_=>rw [if_neg (by omega),if_neg (by omega),if_pos (by omega)];rfl
    | 2,_=>rw [if_neg (by omega),if_pos (by omega)];rfl
    | 3,_=>rw [if_pos (by omega)];rfl
  · rw [if_neg e,if_neg (by omega),if_neg (by omega),if_neg (by omega),if_neg (by omega)]
theorem setK_high (f:Nat→Int) (k:Kd) (h1:k.sort.toNat<10) {j:Nat} (hj:40≤j):setK f k.sort k.room k.eats k.apart j=f j:=by
  unfold setK
  simp only [decide_eq_true_eq]
  rw [if_neg (by omega),if_neg (by omega),if_neg (by omega),if_neg (by omega)]
structure Inv (ks:List Kd) (f:Nat→Int):Prop where
  low:∀ a c,a<10→c<4→f (4*a+c)=match ks.find? (fun k=>k.sort == (a:Int)) with | some k=>[k.sort,k.room,k.eats,k.apart].getD c 0 | none=>0
  msk:Masks f fun a b=>∃ k∈ks,bit k.apart b=true∧a=k.sort.toNat∨bit k.apart a=true∧b=k.sort.toNat
theorem Inv.step {ks:List Kd} {f:Nat→Int} (h:Inv ks f) {k:Kd} (h0:1≤k.sort) (h1:k.sort≤9) (hne:∀ x∈ks,x.sort≠k.sort):Inv (ks++[k]) (outer f k):=by
  have hs:k.sort.toNat<10:=by omega
  constructor
  · intro a c ha hc
    unfold outer
    rw [fold_low k _ _ _ (by omega),setK_eq f k (by omega) hc,List.find?_append]
    by_cases e:a=k.sort.toNat
    · rw [if_pos e]
      have:ks.find? (fun x=>x.sort == (a:Int))=none:=by
        rw [List.find?_eq_none]
        intro x hx hh
        have:=hne x hx
        simp only [beq_iff_eq] at hh
        omega
      have e2:k.sort=(a:Int):=by omega
      rw [this,Option.none_or,List.find?_cons_of_pos (by simp [e2])]
    · rw [if_neg e,h.low a c ha hc]
      have:([k].find? fun x=>x.sort == (a:Int))=none:=by
        rw [List.find?_eq_none]
        intro x hx hh
        rw [List.mem_singleton] at hx
        subst hx
        simp only [beq_iff_eq] at hh
        omega
      rw [this,Option.or_none]
  · have hm:Masks (setK f k.sort k.room k.eats k.apart) fun a b=>∃ k∈ks,bit k.apart b=true∧a=k.sort.toNat∨bit k.apart a=true∧b=k.sort.toNat:=by
      intro a ha
      rw [setK_high f k hs (by omega)]
      exact h.msk a ha
    have h2:=fold_masks hs (List.range 10) _ _ (fun s h=>List.mem_range.1 h) hm
    intro a ha
    refine (h2 a ha).congr fun b hb=>?_
    simp only [List.mem_append,List.mem_singleton,List.mem_range]
    constructor
    · rintro (⟨x,hx,hh⟩ | ⟨s,hs',hb',hh⟩)
      · exact ⟨x,Or.inl hx,hh⟩
      · refine ⟨k,Or.inr rfl,?_⟩
        rcases hh with ⟨rfl,rfl⟩ | ⟨rfl,rfl⟩
        · exact Or.inl ⟨hb',rfl⟩
        · exact Or.inr ⟨hb',rfl⟩
    · rintro ⟨x,hx | rfl,hh⟩
      · exact Or.inl ⟨x,hx,hh⟩
      · right
        rcases hh with ⟨hh,rfl⟩ | ⟨hh,rfl⟩
        · exact ⟨b,hb,hh,Or.inl ⟨rfl,rfl⟩⟩
        · exact ⟨a,ha,hh,Or.inr ⟨rfl,rfl⟩⟩
theorem Inv.zero:Inv [] fun _=>0:=by
  constructor
  · intro a c _ _;rfl
  · intro a _
    exact ⟨0,rfl,by decide,fun b _=>by simp⟩
theorem rising_ne:∀ {l:List Int} {x:Int},rising (x::l)=true→∀ z∈l,x<z
  | [],_,_,z,hz=>by simp at hz
  | a::l,x,h,z,hz=>by
    simp only [rising,Bool.and_eq_true,decide_eq_true_eq] at h
    rcases List.mem_cons.1 hz with rfl | hz
    · exact h.1
    · have:=rising_ne (x:=a) (by simp only [rising,Bool.and_eq_true];exact h.2) z hz
      omega
theorem Inv.all:∀ {ks:List Kd} {pre:List Kd} {f:Nat→Int},Inv pre f→(∀ k∈ks,1≤k.sort∧k.sort≤9)→rising (ks.map Kd.sort)=true→(∀ x∈pre,∀ k∈ks,x.sort<k.sort)→Inv (pre++ks) (ks.foldl outer f)
  | [],pre,f,h,_,_,_=>by simpa using h
  | k::ks,pre,f,h,h1,h2,h3=>by
    have hk:=h1 k (by simp)
    have:=Inv.all (ks:=ks) (h.step hk.1 hk.2 fun x hx=>by have:=h3 x hx k (by simp);omega) (fun z hz=>h1 z (by simp [hz]))
      (by simp only [List.map_cons,rising,Bool.and_eq_true] at h2;exact h2.2)
      (by
        intro x hx z hz
        rcases List.mem_append.1 hx with hx | hx
        · exact h3 x hx z (by simp [hz])
        · rw [List.mem_singleton] at hx
          subst hx
          exact rising_ne h2 z.sort (List.mem_map.2 ⟨z,hz,rfl⟩))
    simpa using this
theorem pf_inv {y:Yard} (h:y.ok=true):Inv y.kinds (pf y):=by
  unfold Yard.ok at h
  simp only [Bool.and_eq_true,List.all_eq_true] at h
  have:=Inv.all (ks:=y.kinds) Inv.zero (fun k hk=>by
    have:=h.1.2 k hk
    simp only [Kd.ok,within,Bool.and_eq_true,decide_eq_true_eq] at this
    omega) h.2 (by simp)
  unfold pf
  simpa using this
theorem pf_kind {y:Yard} (h:y.ok=true) {a c:Nat} (ha:a<10) (hc:c<4):pf y (4*a+c)=[(kd y a).sort,(kd y a).room,(kd y a).eats,(kd y a).apart].getD c 0:=by
  rw [(pf_inv h).low a c ha hc]
  unfold kd kindOf
  cases hf:y.kinds.find? (fun k=>k.sort == (a:Int)) with
  | some k=>rfl
  | none =>
    match c,hc with
    | 0,_=>rfl
    | 1,_=>rfl
    | 2,_=>rfl
    | 3,_=>rfl
theorem kd_mem {y:Yard} (h:y.ok=true) {k:Kd} (hk:k∈y.kinds):kd y k.sort=k:=by
  unfold Yard.ok at h
  simp only [Bool.and_eq_true] at h
  have hr:=h.2
  unfold kd kindOf
  have key:∀ (ks:List Kd),rising (ks.map Kd.sort)=true→k∈ks→ks.find? (fun x=>x.sort == k.sort)=some k:=by
    intro ks
    induction ks with
    | nil=>intro _ h;simp at h
    | cons x ks ih =>
      intro hr hm
      rcases List.mem_cons.1 hm with rfl | hm
      · rw [List.find?_cons_of_pos (by simp)]
      · have:=rising_ne hr k.sort (List.mem_map.2 ⟨k,hm,rfl⟩)
        rw [List.find?_cons_of_neg (by simp;omega)]
        exact ih (by simp only [List.map_cons,rising,Bool.and_eq_true] at hr;exact hr.2) hm
  rw [key _ hr hk];rfl
theorem kd_some {y:Yard} {a:Int} (h:has y a=true):kd y a∈y.kinds∧(kd y a).sort=a:=by
  unfold has at h
  obtain ⟨k,hk⟩:=Option.isSome_iff_exists.1 h
  unfold kd
  rw [hk]
  exact ⟨List.mem_of_find?_eq_some hk,by simpa using List.find?_some hk⟩
theorem kd_none {y:Yard} {a:Int} (h:has y a=false):kd y a=kz:=by
  unfold has at h
  unfold kd
  cases hk:kindOf y a with
  | none=>rfl
  | some k=>rw [hk] at h;cases h
theorem pf_mask {y:Yard} (h:y.ok=true) {a:Nat} (ha:a<10):isM (pf y (40+a)) fun b=>apt y a b=true:=by
  refine ((pf_inv h).msk a ha).congr fun b hb=>?_
  have hk9:∀ k∈y.kinds,1≤k.sort∧k.sort≤9:=fun k hk=>by
    unfold Yard.ok at h
    simp only [Bool.and_eq_true,List.all_eq_true,Kd.ok,within,decide_eq_true_eq] at h
    have:=(h.1.2 k hk).1.1.1.1
    omega
  unfold apt
  rw [Bool.or_eq_true]
  constructor
  · rintro ⟨k,hk,⟨h1,h2⟩ | ⟨h1,h2⟩⟩
    · have:=hk9 k hk
      left
      rw [show ((a:Nat):Int)=k.sort by omega,kd_mem h hk];exact h1
    · have:=hk9 k hk
      right
      rw [show ((b:Nat):Int)=k.sort by omega,kd_mem h hk];exact h1
  · rintro (hh | hh)
    · cases hs:has y a with
      | false=>rw [kd_none hs] at hh;simp [bit,kz] at hh
      | true =>
        obtain ⟨h1,h2⟩:=kd_some hs
        exact ⟨_,h1,Or.inl ⟨hh,by rw [h2];simp⟩⟩
    · cases hs:has y b with
      | false=>rw [kd_none hs] at hh;simp [bit,kz] at hh
      | true =>
        obtain ⟨h1,h2⟩:=kd_some hs
        exact ⟨_,h1,Or.inr ⟨hh,by rw [h2];simp⟩⟩
end Go.Pen
namespace Go.Pen
open Go.Sx
theorem loop_first {step:List CV→Option Ou} (n:Nat) (T:Nat→List CV) (p:Nat→Bool) (R:Nat→Option Ou) (X:Option Ou) {vs:List CV} (hv:vs=T 0) (hR:∀ i l,R i≠some (.nx l)) (hX:∀ l,X≠some (.nx l))
    (h1:∀ i,i<n→(∀ j,j<i→p j=false)→p i=false→step (T i)=some (.nx (T (i+1)))) (h2:∀ i,i<n→(∀ j,j<i→p j=false)→p i=true→step (T i)=R i) (h3:(∀ j,j<n→p j=false)→step (T n)=X) :
    loopD step vs=match (List.range n).find? p with
      | some i=>R i
      | none=>X:=by
  subst hv
  have to:∀ m,m≤n→(∀ j,j<m→p j=false)→loopD step (T 0)=loopD step (T m):=by
    intro m
    induction m with
    | zero=>intro _ _;rfl
    | succ m ih =>
      intro hm hj
      rw [ih (by omega) fun j h=>hj j (by omega)]
      exact loop_eq (h1 m (by omega) (fun j h=>hj j (by omega)) (hj m (by omega)))
  cases hf:(List.range n).find? p with
  | none =>
    rw [List.find?_eq_none] at hf
    have hall:∀ j,j<n→p j=false:=fun j hj=>by simpa using hf j (by simpa using hj)
    rw [to n (Nat.le_refl _) hall]
    exact loop_end (h3 hall) hX
  | some i =>
    rw [List.find?_range_eq_some] at hf
    obtain ⟨hp,hi,hq⟩:=hf
    have hi':i<n:=by simpa using hi
    have hall:∀ j,j<i→p j=false:=fun j hj=>by simpa using hq j hj
    rw [to i (by omega) hall]
    exact loop_end (h2 i hi' hall hp) (hR i)
theorem okZ_pre {y:Yard} {z w:BP} (h:okZ y (z++w)=true):okZ y z=true:=by
  induction w generalizing z with
  | nil=>simpa using h
  | cons a w ih =>
    have h1:okZ y (z++[a])=true:=ih (z:=z++[a]) (by simpa using h)
    rw [okZ_snoc,Bool.and_eq_true] at h1
    exact h1.1
theorem okZ_take {y:Yard} {z:BP} (h:okZ y z=true) (i:Nat):okZ y (z.take i)=true:=okZ_pre (w:=z.drop i) (by rw [List.take_append_drop];exact h)
def maskZ:BP→Int→Nat
  | [],_=>0
  | (s,q)::z,pen=>if q=pen then maskZ z pen ||| 2 ^ s.toNat else maskZ z pen
theorem maskZ_snoc (z:BP) (s q pen:Int):maskZ (z++[(s,q)]) pen=if q=pen then maskZ z pen ||| 2 ^ s.toNat else maskZ z pen:=by
  induction z with
  | nil=>simp [maskZ]
  | cons a z ih =>
    obtain ⟨t,r⟩:=a
    simp only [List.cons_append,maskZ,ih]
    split <;> split <;> try rfl
    rw [Nat.or_assoc,Nat.or_assoc,Nat.or_comm (2 ^ s.toNat)]
theorem maskZ_lt {z:BP} (h:∀ x∈z,x.1≤9) (pen:Int):maskZ z pen<1024:=by
  induction z with
  | nil=>simp [maskZ]
  | cons a z ih =>
    obtain ⟨t,r⟩:=a
    have h1:=ih fun x hx=>h x (by simp [hx])
    have h2:t≤9:=h (t,r) (by simp)
    simp only [maskZ]
    split
    · exact Nat.or_lt_two_pow (n:=10) h1 (Nat.pow_lt_pow_right (by decide) (by omega))
    · exact h1
theorem maskZ_test (z:BP) (pen:Int) (b:Nat):(maskZ z pen).testBit b=true↔∃ x∈z,x.2=pen∧x.1.toNat=b:=by
  induction z with
  | nil=>simp [maskZ]
  | cons a z ih =>
    obtain ⟨t,r⟩:=a
    simp only [maskZ,List.mem_cons,exists_eq_or_imp]
    split
    · rename_i e;rw [or_test,Bool.or_eq_true,ih,decide_eq_true_eq];simp [e,or_comm]
    · rename_i e;rw [ih];simp [e]
theorem canGo_test {y:Yard} (hy:y.ok=true) {z:BP} (hz:∀ x∈z,1≤x.1∧x.1≤9) {s q:Int} (hs:1≤s∧s≤9) (hq:within q 0 ((y.pens.length:Int) - 1)=true) {a:Int} (ha:isM a fun b=>apt y s b=true) :
    canGo y z s q=(decide (rm y s≤y.pens.getD q.toNat 0 - load y z q)&&((wr (Int.ofNat (bAN a (maskZ z q:Int)))) == 0)):=by
  obtain ⟨m,rfl,hm,hb⟩:=ha
  replace hb:∀ b:Nat,b<10→(m.testBit b=true↔apt y s b=true):=hb
  unfold canGo
  rw [hq,Bool.true_and,and_zero_test m _ hm (maskZ_lt (fun x hx=>(hz x hx).2) q)]
  congr 1
  · rw [Bool.eq_iff_iff,decide_eq_true_eq,decide_eq_true_eq];omega
  · rw [Bool.eq_iff_iff,List.all_eq_true,List.all_eq_true]
    simp only [List.mem_range,Bool.not_eq_true',Bool.and_eq_false_iff,beq_eq_false_iff_ne]
    constructor
    · intro h i hi
      cases hc:m.testBit i with
      | false=>exact Or.inl rfl
      | true =>
        right
        rw [Bool.eq_false_iff]
        intro ht
        obtain ⟨x,hx,e1,e2⟩:=(maskZ_test z q i).1 ht
        have h1:=(hb i hi).1 hc
        have:=h x hx
        have e3:((i:Nat):Int)=x.1:=by have:=hz x hx;omega
        rw [e3,apt_comm] at h1
        rcases this with h2 | h2
        · exact h2 e1
        · rw [h1] at h2;cases h2
    · intro h x hx
      by_cases e:x.2=q
      · right
        have hr:=hz x hx
        have h1:=h x.1.toNat (by omega)
        rw [Bool.eq_false_iff]
        intro ht
        rw [apt_comm] at ht
        rcases h1 with h1 | h1
        · have:=(hb x.1.toNat (by omega)).2 (by rw [show ((x.1.toNat:Nat):Int)=x.1 by omega];exact ht)
          rw [this] at h1;cases h1
        · have:=(maskZ_test z q x.1.toNat).2 ⟨x,hx,e,rfl⟩
          rw [this] at h1;cases h1
      · exact Or.inl e
theorem pens_range {y:Yard} (h:y.ok=true) {i:Nat} (hi:i<y.pens.length):0≤y.pens[i]∧y.pens[i]≤1000:=by
  unfold Yard.ok at h
  simp only [Bool.and_eq_true,List.all_eq_true,within,decide_eq_true_eq] at h
  exact h.1.1.2 _ (List.getElem_mem hi)
theorem load_nonneg {y:Yard} (h:y.ok=true) (z:BP) (j:Int):0≤load y z j:=by
  induction z with
  | nil=>simp [load]
  | cons a z ih =>
    obtain ⟨s,q⟩:=a
    simp only [load]
    have:=rm_nonneg h s
    split <;> omega
def freeZ (y:Yard) (z:BP):List Int:=(List.range y.pens.length).map fun j=>y.pens.getD j 0 - load y z j
def sortZ (y:Yard) (z:BP):List Int:=(List.range y.pens.length).map fun (j:Nat)=>(maskZ z j:Int)
theorem freeZ_nil (y:Yard):freeZ y []=y.pens:=by
  unfold freeZ
  apply List.ext_getElem (by simp)
  intro i h1 h2
  simp [load,h2]
theorem freeZ_snoc (y:Yard) (z:BP) (s:Int) {q:Nat} (hq:q<y.pens.length):freeZ y (z++[(s,(q:Int))])=(freeZ y z).set q (y.pens[q] - load y z q - rm y s):=by
  unfold freeZ
  apply List.ext_getElem (by simp)
  intro i h1 h2
  have hi:i<y.pens.length:=by simpa using h1
  rw [List.getElem_set]
  simp only [List.getElem_map,List.getElem_range,load_append,load,Int.add_zero]
  by_cases e:q=i
  · subst e
    rw [if_pos rfl,if_pos rfl]
    simp [hi];omega
  · rw [if_neg e,if_neg (by omega)];omega
theorem sortZ_snoc (y:Yard) (z:BP) (s:Int) {q:Nat} (hq:q<y.pens.length):sortZ y (z++[(s,(q:Int))])=(sortZ y z).set q ((maskZ z q ||| 2 ^ s.toNat:Nat):Int):=by
  unfold sortZ
  apply List.ext_getElem (by simp)
  intro i h1 h2
  rw [List.getElem_set]
  simp only [List.getElem_map,List.getElem_range,maskZ_snoc]
  by_cases e:q=i
  · subst e
    rw [if_pos rfl,if_pos rfl]
  · rw [if_neg e,if_neg (by omega)]
theorem freeZ_get {y:Yard} {z:BP} {q:Nat} (hq:q<(freeZ y z).length):(freeZ y z)[q]=y.pens.getD q 0 - load y z q:=by simp [freeZ]
theorem sortZ_get {y:Yard} {z:BP} {q:Nat} (hq:q<(sortZ y z).length):(sortZ y z)[q]=(maskZ z q:Int):=by simp [sortZ]
@[simp] theorem freeZ_len (y:Yard) (z:BP):(freeZ y z).length=y.pens.length:=by simp [freeZ]
@[simp] theorem sortZ_len (y:Yard) (z:BP):(sortZ y z).length=y.pens.length:=by simp [sortZ]
theorem sortZ_nil (y:Yard):ints (sortZ y [])=List.replicate y.pens.length [ci 0]:=by
  unfold sortZ ints
  apply List.ext_getElem (by simp)
  intro i h1 h2
  simp [maskZ]
theorem ints_set (l:List Int) (i:Nat) (x:Int):(ints l).set i [ci x]=ints (l.set i x):=by simp [ints,List.map_set]
end Go.Pen
namespace Go.Pen
open Go.Sx
theorem loop_foldI {A S:Type} {step:List CV→Option Ou} (l:List A) (E:Nat→S→List CV) (f:S→A→S) (P:Nat→S→Prop) (b:Nat) (G:S→List CV) (s:S) {vs:List CV} (hv:vs=E 0 s) (h0:P 0 s)
    (hs:∀ i (h:i<l.length) s,P i s→step (E i s)=some (.nx (E (i+1) (f s l[i])))∧P (i+1) (f s l[i])) (he:∀ s,P l.length s→step (E l.length s)=some (.br b (G s))) :
    loopD step vs=some (.br b (G (l.foldl f s)))∧P l.length (l.foldl f s):=by
  subst hv
  have key:∀ n,n≤l.length→loopD step (E 0 s)=loopD step (E n ((l.take n).foldl f s))∧P n ((l.take n).foldl f s):=by
    intro n
    induction n with
    | zero=>intro _;exact ⟨by simp,by simpa using h0⟩
    | succ n ih =>
      intro hn
      obtain ⟨h1,h2⟩:=ih (by omega)
      obtain ⟨h3,h4⟩:=hs n (by omega) _ h2
      have e:(l.take (n+1)).foldl f s=f ((l.take n).foldl f s) l[n]:=by
        rw [← List.take_append_getElem (show n<l.length by omega),List.foldl_append];rfl
      rw [e]
      exact ⟨h1.trans (loop_eq h3),h4⟩
  obtain ⟨h1,h2⟩:=key l.length (Nat.le_refl _)
  rw [List.take_length] at h1 h2
  exact ⟨h1.trans (loop_end (he _ h2) (by simp)),h2⟩
def okStay (y:Yard) (s:Stay):Bool:=has y s.sort&&within s.inn 0 100000&&(decide (s.out=-1) || within s.out s.inn 100000)
def staysOk (y:Yard) (l:List Stay):Bool:=decide (l.length≤40)&&l.all (okStay y)
def staying (y:Yard) (l:List Stay):Int:=if y.ok then (if staysOk y l then 0 else 55) else 50
def isThere (d:Int) (s:Stay):Bool:=decide (s.inn≤d)&&(decide (s.out=-1) || decide (d<s.out))
def places {A:Type} (p:A→Bool):List A→Int→List Int
  | [],_=>[]
  | a::l,i=>if p a=true then i::places p l (i+1) else places p l (i+1)
theorem places_snoc {A:Type} (p:A→Bool) (a:A):∀ (l:List A) (i:Int),places p (l++[a]) i=places p l i++if p a=true then [i+l.length] else []
  | [],i=>by simp only [List.nil_append,places,List.length_nil];split <;> simp
  | b::l,i=>by
    have e:i+1+(l.length:Int)=i+((b::l).length:Int):=by simp;omega
    simp only [List.cons_append,places,places_snoc p a l (i+1),e]
    split <;> simp
theorem places_len {A:Type} (p:A→Bool):∀ (l:List A) (i:Int),(places p l i).length≤l.length
  | [],_=>by simp [places]
  | a::l,i=>by
    have:=places_len p l (i+1)
    simp only [places]
    split <;> simp <;> omega
def thereOn (l:List Stay) (d:Int):List Int:=places (isThere d) l 0
def sortsOn (l:List Stay) (d:Int):List Int:=(l.filter (isThere d)).map Stay.sort
theorem places_map {A:Type} [Inhabited A] (p:A→Bool):∀ (l pre:List A),(places p l pre.length).map (fun i=>(pre++l).getD i.toNat default)=l.filter p
  | [],pre=>by simp [places]
  | a::l,pre=>by
    have ih:=places_map p l (pre++[a])
    simp only [List.length_append,List.length_singleton,List.append_assoc,List.singleton_append] at ih
    simp only [places]
    have e:((pre.length:Int)+1)=((pre.length+1:Nat):Int):=by omega
    rw [e]
    split
    · rename_i h
      rw [List.map_cons,ih,List.filter_cons_of_pos h]
      simp
    · rename_i h
      rw [ih,List.filter_cons_of_neg h]
theorem places_range {A:Type} (p:A→Bool):∀ (l:List A) (i:Int),∀ x∈places p l i,i≤x∧x<i+l.length
  | [],_,x,h=>by simp [places] at h
  | a::l,i,x,h=>by
    simp only [places] at h
    have ih:=places_range p l (i+1) x
    split at h
    · rcases List.mem_cons.1 h with rfl | h
      · simp;omega
      · have:=ih h;simp;omega
    · have:=ih h;simp;omega
def eats (y:Yard) (d:Int) (s:Stay):Int:=(kd y s.sort).eats*max 0 ((if s.out=-1 then d else min d (s.out - 1)) - s.inn+1)
def eaten (y:Yard) (l:List Stay) (d:Int):Int:=l.foldl (fun n s=>n+eats y d s) 0
theorem eats_range {y:Yard} (h:y.ok=true) {s:Stay} (hs:okStay y s=true) {d:Int} (h0:-1≤d) (h1:d≤200000):0≤eats y d s∧eats y d s≤300000000:=by
  unfold okStay within at hs
  simp only [Bool.and_eq_true,Bool.or_eq_true,decide_eq_true_eq] at hs
  have hm:=(kd_some hs.1.1).1
  unfold Yard.ok at h
  simp only [Bool.and_eq_true,List.all_eq_true,Kd.ok,within,decide_eq_true_eq] at h
  obtain ⟨e0,e1⟩:=(h.1.2 _ hm).1.1.2
  unfold eats
  generalize (kd y s.sort).eats=e at e0 e1
  have hx:0≤max 0 ((if s.out=-1 then d else min d (s.out - 1)) - s.inn+1)∧max 0 ((if s.out=-1 then d else min d (s.out - 1)) - s.inn+1)≤300000:=by split <;> omega
  generalize max 0 ((if s.out=-1 then d else min d (s.out - 1)) - s.inn+1)=x at hx
  refine ⟨Int.mul_nonneg e0 hx.1,?_⟩
  calc e*x≤1000*x:=Int.mul_le_mul_of_nonneg_right e1 hx.1
    _≤300000000:=by omega
def lastF (f:Int→Bool):Nat→Int→Int→Int
  | 0,low,_=>low
  | k+1,low,high=>if low<high then (if f ((low+high+1) / 2)=true then lastF f k ((low+high+1) / 2) high else lastF f k low ((low+high+1) / 2 - 1)) else low
def lasts (y:Yard) (l:List Stay) (fodder:Int):Int:=lastF (fun d=>decide (eaten y l d≤fodder)) 17 0 100000
end Go.Pen
namespace Go.Pen
open Go.Sx
def rls (n:Nat):Nat→Nat→List (List Int)
  | 0,_=>[[]]
  | k+1,frm=>(List.range' frm (n - frm)).flatMap fun (i:Nat)=>(rls n k (i+1)).map fun l=>(i:Int)::l
theorem mem_rls {n:Nat}:∀ {k frm:Nat} {x:List Int},x∈rls n k frm↔x.length=k∧x.Pairwise (·<·)∧∀ e∈x,(frm:Int)≤e∧e<n
  | 0,frm,x=>by
    simp only [rls,List.mem_singleton]
    constructor
    · rintro rfl;simp
    · rintro ⟨h,_⟩;exact List.length_eq_zero_iff.1 h
  | k+1,frm,x=>by
    simp only [rls,List.mem_flatMap,List.mem_map,List.mem_range'_1]
    constructor
    · rintro ⟨i,⟨h1,h2⟩,l,hl,rfl⟩
      obtain ⟨e1,e2,e3⟩:=mem_rls.1 hl
      refine ⟨by simp [e1],?_,?_⟩
      · rw [List.pairwise_cons]
        exact ⟨fun a ha=>by have:=e3 a ha;omega,e2⟩
      · intro e he
        rcases List.mem_cons.1 he with rfl | he
        · omega
        · have:=e3 e he;omega
    · rintro ⟨h1,h2,h3⟩
      cases x with
      | nil=>simp at h1
      | cons a l =>
        rw [List.pairwise_cons] at h2
        have ha:=h3 a (by simp)
        refine ⟨a.toNat,by omega,l,mem_rls.2 ⟨by simpa using h1,h2.2,fun e he=>?_⟩,by congr 1;omega⟩
        have:=h2.1 e he
        have:=h3 e (by simp [he])
        omega
def isBig (y:Yard) (s:Int):Bool:=y.pens.all fun n=>!decide (rm y s≤n)
def total (y:Yard):Int:=y.pens.foldl (fun n x=>n+x) 0
def ofL (l by_:List Int):List Int:=by_.map fun i=>l.getD i.toNat 0
def much (y:Yard) (l by_:List Int):Bool:=decide (rooms y (ofL l by_) > total y)
def alien (y:Yard) (b:List Int):Bool:=(List.range b.length).all fun i=>(List.range i).all fun j=>apt y (b.getD i 0) (b.getD j 0)
def many (y:Yard) (l by_:List Int):Bool:=alien y (ofL l by_)&&decide (by_.length=y.pens.length+1)
def tightB (y:Yard) (l by_:List Int):Bool:=!can y (ofL l by_)
def big (y:Yard) (l by_:List Int):Bool:=decide (by_.length=1)&&isBig y (l.getD (by_.headD 0).toNat 0)
def least (ill:List Int→Bool):Nat→List Int→List Int
  | 0,b=>b
  | i+1,b=>least ill i (if ill (b.eraseIdx i)=true then b.eraseIdx i else b)
def idx (l:List Int):List Int:=(List.range l.length).map fun (i:Nat)=>(i:Int)
def refuse (y:Yard) (l:List Int):Int×List Int×Int:=
  if can y l=true then (0,[],3) else
  match (rls l.length 1 0).find? (big y l) with
  | some b=>(1,b,0)
  | none=>if much y l (idx l)=true then (2,least (much y l) l.length (idx l),0) else
    match (rls l.length (y.pens.length+1) 0).find? (many y l) with
    | some b=>(3,b,0)
    | none=>(4,least (tightB y l) l.length (idx l),0)
def inR (l b:List Int):Prop:=∀ i∈b,0≤i∧i<l.length
theorem inR_erase {l b:List Int} (h:inR l b) (i:Nat):inR l (b.eraseIdx i):=fun x hx=>h x (List.mem_of_mem_eraseIdx hx)
theorem inR_idx (l:List Int):inR l (idx l):=by
  intro i hi
  obtain ⟨j,hj,rfl⟩:=List.mem_map.1 hi
  rw [List.mem_range] at hj
  omega
theorem ofL_mem {l b:List Int} (h:inR l b) {s:Int} (hs:s∈ofL l b):s∈l:=by
  obtain ⟨i,hi,rfl⟩:=List.mem_map.1 hs
  have:=h i hi
  have hlt:i.toNat<l.length:=by omega
  simp only [List.getD_eq_getElem?_getD,List.getElem?_eq_getElem hlt,Option.getD_some]
  exact List.getElem_mem hlt
theorem ofL_len (l b:List Int):(ofL l b).length=b.length:=by simp [ofL]
end Go.Pen
namespace Go.Pen
open Go.Sx
instance:Inhabited Stay:=⟨⟨0,0,0⟩⟩
def daysOf (s:Stay):List Int:=if s.out=-1 then [s.inn] else [s.inn,s.out]
def days (l:List Stay):List Int:=l.flatMap daysOf
def fullOn (y:Yard) (l:List Stay) (d:Int):Bool:=decide ((sortsOn l d).length > 8) || !can y (sortsOn l d)
def sorted (l:List Int):List Int:=l.mergeSort fun a b=>decide (a≤b)
def fullM (y:Yard) (l:List Stay):Option Int:=(sorted (days l)).find? (fullOn y l)
theorem days_snoc (l:List Stay) (s:Stay):days (l++[s])=days l++daysOf s:=by simp [days]
theorem days_len (l:List Stay):(days l).length≤2*l.length:=by
  induction l with
  | nil=>simp [days]
  | cons s l ih =>
    have:days (s::l)=daysOf s++days l:=by simp [days]
    rw [this,List.length_append,List.length_cons]
    have:(daysOf s).length≤2:=by unfold daysOf;split <;> simp
    omega
theorem sorted_len (l:List Int):(sorted l).length=l.length:=List.length_mergeSort l
def sortAt (l:List Stay) (k:Int):Int:=(l.getD k.toNat default).sort
theorem sortsOn_eq (l:List Stay) (d:Int):(thereOn l d).map (sortAt l)=sortsOn l d:=by
  have:=places_map (isThere d) l []
  simp only [List.length_nil,List.nil_append] at this
  unfold thereOn sortsOn sortAt
  rw [← this,List.map_map]
  rfl
end Go.Pen
namespace Go.Pen
open Go Go.Sx
def rowA {K V:Type} (kc:K→List CV) (vc:V→CV) (az:List (K×V)):List (List CV):=az.map fun e=>kc e.1++[vc e.2]
theorem rowA_cons {K V:Type} {kc:K→List CV} {vc:V→CV} (k:K) (v:V) (r:List (K×V)):rowA kc vc ((k,v)::r)=(kc k++[vc v])::rowA kc vc r:=rfl
section
variable {K V:Type} [DecidableEq K]
def getA:List (K×V)→K→Option V
  | [],_=>none
  | (k',v)::r,k=>if k=k' then some v else getA r k
def setA:List (K×V)→K→V→List (K×V)
  | [],k,v=>[(k,v)]
  | (k',v')::r,k,v=>if k=k' then (k,v)::r else (k',v')::setA r k v
theorem getA_setA (k:K) (v:V) (q:K):∀ az:List (K×V),getA (setA az k v) q=if q=k then some v else getA az q
  | []=>by simp [setA,getA]
  | (k',v')::r=>by
    simp only [setA]
    split
    · rename_i h;subst h
      simp only [getA]
      split <;> simp_all
    · rename_i h
      simp only [getA,getA_setA k v q r]
      split
      · rename_i h2;subst h2
        rw [if_neg (fun e=>h e.symm)]
      · rfl
structure MapC (n:Nat) (kc:K→List CV) (ok:K→Prop):Prop where
  len:∀ k,ok k→(kc k).length=n
  eq:∀ k k',ok k→ok k'→eqB ((kc k).map cvV) ((kc k').map cvV)=decide (k=k')
variable {n:Nat} {kc:K→List CV} {vc:V→CV} {ok:K→Prop}
theorem MapC.pos (h:MapC n kc ok) {k:K} (hk:ok k):∀ {az:List (K×V)},(∀ e∈az,ok e.1)→(posM n (kc k) (rowA kc vc az)<(rowA kc vc az).length↔(getA az k).isSome=true)
  | [],_=>by simp [rowA,posM,getA]
  | (k',v)::r,ha=>by
    have hk':=ha (k',v) (by simp)
    have ih:=h.pos hk (az:=r) fun e he=>ha e (by simp [he])
    have ht:(kc k'++[vc v]).take n=kc k':=by rw [List.take_append_of_le_length (by rw [h.len k' hk'];omega),← h.len k' hk',List.take_length]
    simp only [rowA,List.map_cons,posM,ht,h.eq k k' hk hk',getA,List.length_cons]
    by_cases e:k=k'
    · simp [e]
    · simp only [e,decide_false,Bool.false_eq_true,if_false]
      rw [← ih]
      simp only [rowA]
      omega
theorem MapC.look (h:MapC n kc ok) {k:K} (hk:ok k) (z:Value):∀ {az:List (K×V)},(∀ e∈az,ok e.1)→lookM n (kc k) z (rowA kc vc az)=match getA az k with | some v=>vc v | none=>.val z
  | [],_=>by simp [rowA,lookM,posM,getA]
  | (k',v)::r,ha=>by
    have hk':=ha (k',v) (by simp)
    have ih:=h.look hk z (az:=r) fun e he=>ha e (by simp [he])
    have ht:(kc k'++[vc v]).take n=kc k':=by rw [List.take_append_of_le_length (by rw [h.len k' hk'];omega),← h.len k' hk',List.take_length]
    unfold lookM at ih ⊢
    simp only [rowA,List.map_cons,posM,ht,h.eq k k' hk hk',getA]
    by_cases e:k=k'
    · simp only [e,decide_true,if_true,List.getD_cons_zero]
      rw [List.getD_eq_getElem?_getD,List.getElem?_append_right (by rw [h.len k' hk'];omega),h.len k' hk']
      simp
    · simp only [e,decide_false,Bool.false_eq_true,if_false,List.getD_cons_succ]
      exact ih
theorem MapC.upd (h:MapC n kc ok) {k:K} (hk:ok k) (v:V):∀ {az:List (K×V)},(∀ e∈az,ok e.1)→updM n (kc k) (vc v) (rowA kc vc az)=rowA kc vc (setA az k v)
  | [],_=>by simp [rowA,updM,posM,setA]
  | (k',v')::r,ha=>by
    have hk':=ha (k',v') (by simp)
    have ih:=h.upd hk v (az:=r) fun e he=>ha e (by simp [he])
    have ht:(kc k'++[vc v']).take n=kc k':=by rw [List.take_append_of_le_length (by rw [h.len k' hk'];omega),← h.len k' hk',List.take_length]
    unfold updM at ih ⊢
    simp only [rowA_cons,posM,ht,h.eq k k' hk hk',setA,List.length_cons]
    by_cases e:k=k'
    · subst e
      simp [rowA_cons]
    · simp only [e,decide_false,Bool.false_eq_true,if_false,rowA_cons]
      by_cases hp:posM n (kc k) (rowA kc vc r)<(rowA kc vc r).length
      · rw [if_pos hp] at ih
        rw [if_pos (by omega),List.set_cons_succ,ih]
      · rw [if_neg hp] at ih
        rw [if_neg (by omega),List.cons_append,ih]
theorem setA_ok {k:K} (hk:ok k) (v:V):∀ {az:List (K×V)},(∀ e∈az,ok e.1)→∀ e∈setA az k v,ok e.1
  | [],_=>by simp [setA,hk]
  | (k',v')::r,ha=>by
    simp only [setA]
    split
    · intro e he
      rcases List.mem_cons.1 he with rfl | he
      · exact hk
      · exact ha e (by simp [he])
    · intro e he
      rcases List.mem_cons.1 he with rfl | he
      · exact ha _ (by simp)
      · exact setA_ok hk v (fun e he=>ha e (by simp [he])) e he
end
theorem eqB_ints:∀ (l m:List Int),l.length=m.length→eqB ((l.map ci).map cvV) ((m.map ci).map cvV)=decide (l=m)
  | [],[],_=>by simp [eqB]
  | a::l,b::m,h=>by
    simp only [List.map_cons,eqB,eqB_ints l m (by simpa using h),ci,cvV,vEq]
    rw [Bool.eq_iff_iff]
    simp
theorem eqB_bools:∀ (l m:List Bool),l.length=m.length→eqB ((l.map cb).map cvV) ((m.map cb).map cvV)=decide (l=m)
  | [],[],_=>by simp [eqB]
  | a::l,b::m,h=>by
    simp only [List.map_cons,eqB,eqB_bools l m (by simpa using h),cb,cvV,vEq]
    rw [Bool.eq_iff_iff]
    simp
theorem mapI_ints (n:Nat):MapC n (fun l:List Int=>l.map ci) fun l=>l.length=n:=
  ⟨fun k h=>by simpa using h,fun k k' h h'=>eqB_ints k k' (h.trans h'.symm)⟩
theorem mapI_bools (n:Nat):MapC n (fun l:List Bool=>l.map cb) fun l=>l.length=n:=
  ⟨fun k h=>by simpa using h,fun k k' h h'=>eqB_bools k k' (h.trans h'.symm)⟩
theorem okEs_row {K:Type} {kc:K→List CV} {kl:List LK} {az:List (K×Bool)} (h:∀ e∈az,(kc e.1).map kC=kl.map some):okEs kl .bool (rowA kc cb az)=true:=by
  unfold okEs rowA
  rw [List.all_eq_true]
  intro e he
  obtain ⟨a,ha,rfl⟩:=List.mem_map.1 he
  rw [beq_iff_eq,List.map_append,h a ha,List.map_append]
  rfl
theorem kC_ints {l:List Int} {n:Nat} (h:l.length=n):(l.map ci).map kC=(List.replicate n (LK.int .i64)).map some:=by
  rw [List.map_map,List.map_replicate,← h]
  apply List.ext_getElem (by simp)
  intro i h1 h2
  simp [kC,ci,kOf]
theorem kC_bools {l:List Bool} {n:Nat} (h:l.length=n):(l.map cb).map kC=(List.replicate n LK.bool).map some:=by
  rw [List.map_map,List.map_replicate,← h]
  apply List.ext_getElem (by simp)
  intro i h1 h2
  simp [kC,cb,kOf]
end Go.Pen
namespace Go.Sx
open Go
def plT (P:Program):Nat→TypeId→Bool
  | 0,_=>false
  | n+1,t=>match P.underlying t with
    | some .bool=>true
    | some (.int _)=>true
    | some (.slice e)=>decide (0<P.cellsOf e)&&plT P n e
    | some (.struct fs)=>fs.toList.all fun f=>plT P n f.type
    | some (.array _ e)=>plT P n e
    | _=>false
def ShpL (R:TypeId→List CV→Prop):List TypeId→List CV→Prop
  | [],cs=>cs=[]
  | t::ts,cs=>∃ a b,cs=a++b∧R t a∧ShpL R ts b
def Shp (P:Program):Nat→TypeId→List CV→Prop
  | 0,_,_=>False
  | n+1,t,cs=>match P.underlying t with
    | some .bool=>∃ b,cs=[cb b]
    | some (.int k)=>∃ m,cs=[.val (.int k m)]∧(Lit.int k m).wf=true
    | some (.slice e)=>∃ es,cs=[.row (P.cellsOf e) es]∧(∀ x∈es,Shp P n e x)∧es.length*P.bytesOf e≤reachBytes
    | some (.struct fs)=>ShpL (Shp P n) (fs.toList.map (·.type)) cs
    | some (.array m e)=>ShpL (Shp P n) (List.replicate m e) cs
    | _=>False
section
variable {P:Program} {w:World} {S:Nat→Prop}
theorem rows_of {k b:Nat}:∀ (es:List (List CV)) (o:Nat),(∀ i (h:i<es.length),es[i].length=k∧CV.cells w S es[i] b (o+i*k))→CV.rows w S k es b o
  | [],o,_=>by simp [CV.rows]
  | e::es,o,h=>by
    simp only [CV.rows]
    have h0:=h 0 (by simp)
    refine ⟨by simpa using h0.1,by simpa using h0.2,rows_of es (o+k) fun i hi=>?_⟩
    have:=h (i+1) (by simpa using hi)
    rw [show o+(i+1)*k=o+k+i*k by rw [Nat.add_mul];omega] at this
    simpa using this
theorem vals_app {cs cs':List CV} {vs vs':List Value} (h:CV.vals w S cs vs) (h':CV.vals w S cs' vs'):CV.vals w S (cs++cs') (vs++vs'):=CV.vals.append h h'
theorem parts_ok (R:TypeId→List CV→Prop):∀ (ts:List TypeId) (cs:List Value),cs.length=(ts.map P.cellsOf).sum →
    (∀ j t,ts[j]? = some t→∃ cvs,R t cvs∧CV.vals w S cvs ((cs.drop ((ts.take j).map P.cellsOf).sum).take (P.cellsOf t)))→∃ cvs,ShpL R ts cvs∧CV.vals w S cvs cs
  | [],cs,hl,_=>⟨[],rfl,by
    have:cs=[]:=List.length_eq_zero_iff.1 (by simpa using hl)
    subst this;simp [CV.vals]⟩
  | t::ts,cs,hl,h=>by
    simp only [List.map_cons,List.sum_cons] at hl
    obtain ⟨a,ha,hav⟩:=h 0 t rfl
    obtain ⟨b,hb,hbv⟩:=parts_ok R ts (cs.drop (P.cellsOf t)) (by rw [List.length_drop];omega) fun j u hj=>by
      obtain ⟨c,hc,hcv⟩:=h (j+1) u (by simpa using hj)
      refine ⟨c,hc,?_⟩
      rw [List.drop_drop]
      simpa using hcv
    refine ⟨a++b,⟨a,b,rfl,ha,hb⟩,?_⟩
    have:=vals_app hav hbv
    simpa using this
theorem weightsAll_mem {H:Type} {e:TypeId}:∀ {l:List (DataW H)} {d:DataW H},d∈l→∀ m∈d.weights P e,m∈DataW.weightsAll P e l
  | x::l,d,h,m,hm=>by
    simp only [DataW.weightsAll,List.mem_append]
    rcases List.mem_cons.1 h with rfl | h
    · exact .inl hm
    · exact .inr (weightsAll_mem h m hm)
end
section
variable {H:Type} {enc:TypeId×Value→H} {P:Program} {w:World} {T:TypeId→Prop} {spare:Nat→Bool} {held:Bool}
theorem cv_trod (K:Kids P T):∀ (n fuel:Nat) (t:TypeId) (cs:List Value) (x:DataW H×List MemPlace),T t→plT P n t=true→DataW.trod enc P w 0 spare held fuel t cs=some x→(∀ m∈x.1.weights P t,m≤reachBytes) →
    ∃ cvs,Shp P n t cvs∧CV.vals w (fun b=>b<w.heap.size) cvs cs:=by
  intro n
  induction n with
  | zero=>intro fuel t cs x _ hp;simp [plT] at hp
  | succ n ih =>
    intro fuel t cs x hT hp h hw
    simp only [plT] at hp
    simp only [Shp]
    cases hu:P.underlying t with
    | none=>rw [hu] at hp;cases hp
    | some U =>
      rw [hu] at hp
      cases U with
      | bool =>
        obtain ⟨b,rfl,_⟩:=DataW.trod_bool hu h
        exact ⟨[cb b],⟨b,rfl⟩,by simp [cb,CV.vals,CV.holds,Value.oneCell']⟩
      | int k =>
        obtain ⟨m,rfl,_,hm⟩:=DataW.trod_int hu h
        exact ⟨[.val (.int k m)],⟨m,rfl,hm⟩,by simp [CV.vals,CV.holds,Value.oneCell']⟩
      | struct fs =>
        obtain ⟨xs,m,rfl,rfl,hl,hxl,hx⟩:=DataW.trod_struct hu h
        obtain ⟨k1,k2,k3⟩:=K.struct hT hu
        simp only [List.all_eq_true] at hp
        refine parts_ok (P:=P) (Shp P n) (fs.toList.map (·.type)) cs (by rw [hl,k2,List.map_map];rfl) fun j u hj=>?_
        rw [List.getElem?_map,Option.map_eq_some_iff] at hj
        obtain ⟨f,hf,rfl⟩:=hj
        have hfm:f∈fs.toList:=List.mem_of_getElem? hf
        have hfa:fs[j]? = some f:=by rw [← Array.getElem?_toList];exact hf
        have hxj:=hx j f hfa
        have hjl:j<xs.length:=by rw [hxl];exact (Array.getElem?_eq_some_iff.1 hfa).1
        rw [List.getElem?_eq_getElem hjl] at hxj
        rw [k3 j f hf] at hxj
        rw [← List.map_take,List.map_map]
        refine ih m f.type _ _ (k1 f hfm) (hp f hfm) hxj fun v hv=>hw v ?_
        simp only [DataW.weights,hu]
        exact DataW.weights_mem_each (j:=j) (t:=f.type) (d:=xs[j].1) (by rw [List.getElem?_map,hf];rfl) (by rw [List.getElem?_map,List.getElem?_eq_getElem hjl];rfl) v hv
      | array m e =>
        obtain ⟨xs,q,rfl,rfl,hl,hxl,hx⟩:=DataW.trod_array hu h
        obtain ⟨k1,k2⟩:=K.array hT hu
        refine parts_ok (P:=P) (Shp P n) (List.replicate m e) cs (by rw [hl,k2];simp) fun j u hj=>?_
        obtain ⟨hjm,rfl⟩:=List.getElem?_eq_some_iff.1 hj
        rw [List.length_replicate] at hjm
        rw [List.getElem_replicate]
        have hxj:=hx j hjm
        rw [List.getElem?_eq_getElem (by omega)] at hxj
        have e1:((List.take j (List.replicate m e)).map P.cellsOf).sum=j*P.cellsOf e:=by
          rw [List.take_replicate,Nat.min_eq_left (by omega)];simp
        rw [e1]
        refine ih q e _ _ k1 hp hxj fun v hv=>hw v ?_
        simp only [DataW.weights,hu]
        exact weightsAll_mem (List.mem_map.2 ⟨xs[j],List.getElem_mem _,rfl⟩) v hv
      | slice e =>
        simp only [Bool.and_eq_true,decide_eq_true_eq] at hp
        rcases DataW.trod_slice hu h with ⟨rfl,_⟩ | ⟨a,len,cap,elems,rest,m,rfl,rfl,rfl,hb,hlc,hcm,hel,hx,_⟩
        · refine ⟨[.row (P.cellsOf e) []],⟨[],rfl,by simp,by simp⟩,?_⟩
          simp only [CV.vals,CV.holds,and_true]
          exact ⟨none,0,rfl,Nat.le_refl _,Nat.zero_le _,.inl trivial⟩
        · have hwe:∀ i (hi:i<elems.length),∀ v∈(elems[i].1).weights P e,v≤reachBytes:=fun i hi v hv=>hw v (by
            simp only [DataW.weights,hu,List.mem_cons,List.mem_append]
            exact .inr (.inl (weightsAll_mem (List.mem_map.2 ⟨elems[i],List.getElem_mem _,rfl⟩) v hv)))
          have hlen:(elems.length+rest.length)*P.bytesOf e≤reachBytes:=hw _ (by simp [DataW.weights,hu])
          have hone:∀ i,∃ cv:List CV,(i<len→∃ cells:List Value,w.cells? 0 (a.add (i*P.cellsOf e)) (P.cellsOf e)=some cells∧Shp P n e cv∧CV.vals w (fun b=>b<w.heap.size) cv cells):=by
            intro i
            by_cases hi:i<len
            · have hxi:=hx i hi
              rw [List.getElem?_eq_getElem (by omega),Option.bind_eq_some_iff] at hxi
              obtain ⟨cells,h1,h2⟩:=hxi
              obtain ⟨cv,h3,h4⟩:=ih m e cells _ (K.slice hT hu) hp.2 h2 (hwe i (by omega))
              exact ⟨cv,fun _=>⟨cells,h1,h3,h4⟩⟩
            · exact ⟨[],fun h=>absurd h hi⟩
          obtain ⟨g,hg⟩:=Classical.axiomOfChoice hone
          have hll:((List.range len).map g).length=len:=by simp
          refine ⟨[.row (P.cellsOf e) ((List.range len).map g)],⟨_,rfl,?_,?_⟩,?_⟩
          · intro y hy
            obtain ⟨i,hi,rfl⟩:=List.mem_map.1 hy
            rw [List.mem_range] at hi
            obtain ⟨_,_,h3,_⟩:=hg i hi
            exact h3
          · rw [hll]
            refine Nat.le_trans (Nat.mul_le_mul_right _ ?_) hlen
            omega
          · simp only [CV.vals,CV.holds,and_true]
            refine ⟨some a,cap,by rw [hll],by rw [hll];exact hlc,hcm,?_⟩
            by_cases h0:len=0
            · exact .inl (by simp [h0])
            · right
              have hcell:∀ i,i<len→∀ j v (cells:List Value),w.cells? 0 (a.add (i*P.cellsOf e)) (P.cellsOf e)=some cells→cells[j]? = some v→w.cell? ((a.add (i*P.cellsOf e)).add j)=some v:=by
                intro i _ j v cells hc hj
                simp only [World.cells?,Nat.zero_le,if_true] at hc
                have hjl:=(List.getElem?_eq_some_iff.1 hj).1
                have hll:=mapM_some_length hc
                rw [List.length_range] at hll
                have hr:(List.range (P.cellsOf e))[j]? = some j:=List.getElem?_range (by omega)
                have:=mapM_some_get hc j j hr
                rw [this,hj]
              have hclen:∀ (b:Addr) (cells:List Value),w.cells? 0 b (P.cellsOf e)=some cells→cells.length=P.cellsOf e:=by
                intro b cells hc
                simp only [World.cells?,Nat.zero_le,if_true] at hc
                simpa using mapM_some_length hc
              obtain ⟨cells0,hc0,_,hv0⟩:=hg 0 (by omega)
              have hl0:cells0.length=P.cellsOf e:=hclen _ _ hc0
              have hpos:0<cells0.length:=by omega
              have hz:=hcell 0 (by omega) 0 cells0[0] cells0 hc0 (List.getElem?_eq_getElem hpos)
              have hz0:(a.add (0*P.cellsOf e)).add 0=a:=by simp [Addr.add]
              rw [hz0] at hz
              have hspot:a.spot=none∧a.block<w.heap.size:=by
                unfold World.cell? at hz
                split at hz
                · rename_i c t fz hh
                  split at hz
                  · cases hz
                  · rename_i hs
                    refine ⟨by cases hsp:a.spot <;> simp [hsp] at hs ⊢,?_⟩
                    by_cases hlt:a.block<w.heap.size
                    · exact hlt
                    · rw [Array.getElem?_eq_none (by omega)] at hh;cases hh
                · cases hz
              obtain ⟨ab,ao,asp⟩:=a
              simp only at hspot
              obtain ⟨rfl,hbl⟩:=hspot
              refine ⟨ab,ao,rfl,hbl,?_⟩
              refine rows_of _ _ fun i hi=>?_
              rw [hll] at hi
              simp only [List.getElem_map,List.getElem_range]
              obtain ⟨cells,hc,_,hv⟩:=hg i hi
              have hlc':cells.length=P.cellsOf e:=hclen _ _ hc
              refine ⟨by rw [← hlc'];exact (CV.vals.length hv).symm,CV.cells.of_vals hv fun j v hj=>?_⟩
              have:=hcell i hi j v cells hc hj
              have e0:∀ (b o m:Nat),(Addr.mk b o none).add m=⟨b,o+m,none⟩:=by
                intro b o m
                unfold Addr.add
                by_cases hm:m=0
                · subst hm;rfl
                · rw [if_neg hm]
              have e1:((Addr.mk ab ao none).add (i*P.cellsOf e)).add j=⟨ab,ao+i*P.cellsOf e+j,none⟩:=by rw [e0,e0]
              rw [e1] at this
              exact this
      | _=>cases hp
end
end Go.Sx
namespace Go.Sx
open Go Go.ChangeShapes Go.WideShapes Go.ChangeAt Go.RowKit
def isAgg (P:Program) (t:TypeId):Bool:=match P.underlying t with
  | some (.struct _)=>true
  | some (.array _ _)=>true
  | _=>false
def avsOf (P:Program):List TypeId→List (List CV)→List AV
  | t::ts,c::cs=>(if isAgg P t=true then .agg (c.map .cv) else .cv (c.headD dC))::avsOf P ts cs
  | _,_=>[]
def ShpAll (P:Program) (n:Nat):List TypeId→List (List CV)→Prop
  | [],[]=>True
  | t::ts,c::cs=>Shp P n t c∧ShpAll P n ts cs
  | _,_=>False
theorem avsOf_closed (P:Program):∀ (ts:List TypeId) (cs:List (List CV)),AV.closeds (avsOf P ts cs)=true
  | [],[]=>rfl
  | [],_::_=>rfl
  | _::_,[]=>rfl
  | t::ts,c::cs=>by
    have hc:∀ (l:List CV),AV.closeds (l.map .cv)=true:=by
      intro l
      induction l with
      | nil=>rfl
      | cons x l ih=>simp [AV.closeds,AV.closed,ih]
    simp only [avsOf,AV.closeds,Bool.and_eq_true]
    refine ⟨?_,avsOf_closed P ts cs⟩
    split
    · simp only [AV.closed];exact hc c
    · rfl
theorem all_of_vals {e:Env} {w:World} {ks:List Nat}:∀ {cs:List CV} {vs:List Value},CV.vals w e.S cs vs→AV.all e w ks (cs.map .cv) vs
  | [],[],_=>by simp [AV.all]
  | c::cs,v::vs,h=>by
    simp only [CV.vals] at h
    simp only [List.map_cons,AV.all,AV.holds]
    exact ⟨h.1,all_of_vals h.2⟩
  | [],_::_,h=>by simp [CV.vals] at h
  | _::_,[],h=>by simp [CV.vals] at h
section
variable {P:Program} {w:World}
theorem val_cells {base:Nat} {t:TypeId} {v:Value} {n:Nat} (hp:plT P n t=true) (ha:isAgg P t=false) (h:Value.okWide P w .any base t v):v.cells=#[v]:=by
  cases n with
  | zero=>simp [plT] at hp
  | succ n =>
    simp only [plT] at hp
    simp only [isAgg] at ha
    unfold Value.okWide at h
    cases hu:P.underlying t with
    | none=>rw [hu] at hp;cases hp
    | some U =>
      rw [hu] at hp ha h
      cases U with
      | bool=>simp only [Cell.okWide,hu,Cell.ok] at h;cases v <;> simp_all [Value.cells]
      | int k=>simp only [Cell.okWide,hu,Cell.ok] at h;cases v <;> simp_all [Value.cells]
      | slice e=>simp only [Cell.okWide,hu,Cell.ok] at h;cases v <;> simp_all [Value.cells]
      | struct fs=>cases ha
      | array m e=>cases ha
      | _=>cases hp
theorem val_agg {base:Nat} {t:TypeId} {v:Value} (ha:isAgg P t=true) (h:Value.okWide P w .any base t v):∃ cs,v=.agg cs:=by
  simp only [isAgg] at ha
  unfold Value.okWide at h
  cases hu:P.underlying t with
  | none=>rw [hu] at ha;cases ha
  | some U =>
    rw [hu] at ha h
    cases U with
    | struct fs=>obtain ⟨cs,h,_⟩:=h;exact ⟨cs,h⟩
    | array m e=>obtain ⟨cs,h,_⟩:=h;exact ⟨cs,h⟩
    | _=>cases ha
variable {H:Type} {enc:TypeId×Value→H} {T:TypeId→Prop} {spare:Nat→Bool} {held:Bool}
theorem args_ok (K:Kids P T) {base:Nat} (n:Nat):∀ (ts:List TypeId) (vs:List Value) (ds:List (DataW H)) (ps:List MemPlace),(∀ t∈ts,T t)→ts.all (plT P n)=true →
    (∀ (j:Nat) t v,ts[j]? = some t→vs[j]? = some v→Value.okWide P w .any base t v)→DataW.TrodAll enc P w 0 spare held ts vs ds ps→(∀ m∈DataW.weightsEach P ts ds,m≤reachBytes) →
    ∃ css:List (List CV),ShpAll P n ts css∧∀ (e:Env) (ks:List Nat),(e.S=fun b=>b<w.heap.size)→AV.all e w ks (avsOf P ts css) vs
  | [],vs,ds,ps,_,_,_,h,_=>by
    obtain ⟨rfl,_,_⟩:=trodAll_nil h
    exact ⟨[],trivial,fun e ks _=>by simp [avsOf,AV.all]⟩
  | t::ts,vs,ds,ps,hT,hp,hv,h,hw=>by
    obtain ⟨v,vs',d,ds',p,q,rfl,rfl,rfl,⟨fuel,h1⟩,h2⟩:=trodAll_cons h
    simp only [List.all_cons,Bool.and_eq_true] at hp
    simp only [DataW.weightsEach,List.mem_append] at hw
    obtain ⟨css,s1,s2⟩:=args_ok K n ts vs' ds' q (fun u hu=>hT u (by simp [hu])) hp.2 (fun j u x hj hx=>hv (j+1) u x (by simpa using hj) (by simpa using hx)) h2 (fun m hm=>hw m (.inr hm))
    obtain ⟨cvs,c1,c2⟩:=cv_trod K n fuel t v.cells.toList _ (hT t (by simp)) hp.1 h1 (fun m hm=>hw m (.inl hm))
    refine ⟨cvs::css,⟨c1,s1⟩,fun e ks he=>?_⟩
    have hv0:=hv 0 t v rfl rfl
    simp only [avsOf,AV.all]
    refine ⟨?_,s2 e ks he⟩
    cases ha:isAgg P t with
    | true =>
      obtain ⟨cs,rfl⟩:=val_agg ha hv0
      simp only [if_true,AV.holds]
      exact ⟨cs,rfl,all_of_vals (by rw [he];exact c2)⟩
    | false =>
      have hc:=val_cells hp.1 ha hv0
      rw [hc] at c2
      simp only [Bool.false_eq_true,if_false,AV.holds]
      match cvs,c2 with
      | [c],c2 =>
        simp only [CV.vals,and_true] at c2
        rw [he];exact c2
      | [],c2=>simp [CV.vals] at c2
      | _::_::_,c2=>simp [CV.vals] at c2
end
theorem trodAll_len {H:Type} {enc:TypeId×Value→H} {P:Program} {W:World} {sp:Nat→Bool} {hd:Bool}:∀ {ts:List TypeId} {vs:List Value} {ds:List (DataW H)} {ps:List MemPlace},DataW.TrodAll enc P W 0 sp hd ts vs ds ps→ds.length=ts.length
  | [],vs,ds,ps,hA=>by obtain ⟨rfl,rfl,rfl⟩:=trodAll_nil hA;rfl
  | t::ts,vs,ds,ps,hA=>by
    obtain ⟨v,vs',d,ds',p1,p2,rfl,rfl,rfl,_,h2⟩:=trodAll_cons hA
    simp [trodAll_len h2]
theorem trodAll_up {H:Type} {enc:TypeId×Value→H} {P:Program} {W W':World} {sp:Nat→Bool} {hd:Bool} (hB:Below W.heap.size W W'):∀ {ts:List TypeId} {vs:List Value} {ds:List (DataW H)} {ps:List MemPlace},DataW.TrodAll enc P W 0 sp hd ts vs ds ps→DataW.TrodAll enc P W' 0 sp hd ts vs ds ps
  | [],vs,ds,ps,hA=>by obtain ⟨rfl,rfl,rfl⟩:=trodAll_nil hA;exact rfl
  | t::ts,vs,ds,ps,hA=>by
    obtain ⟨v,vs',d,ds',p1,p2,rfl,rfl,rfl,⟨fuel,h1⟩,h2⟩:=trodAll_cons hA
    exact ⟨p1,p2,⟨fuel,DataW.trod_carry fuel _ _ _ h1 fun x hx=>hB.same (DataW.trod_lt fuel _ _ _ h1 x hx)⟩,trodAll_up hB h2,rfl⟩
theorem law_lift {C:Checked} {os:Os} {f:FuncId} {fn:Func} {s:ChangeSpec} {conds:List PathCond} {fresh handsOn:Bool} {H:Type} {enc:TypeId×Value→H} {tb:TypeId} (n:Nat)
    (own:ownKnob C.prog.godebug=none) (started:os.Started) (noInit:C.prog.inits.idxOf? f=none) (hfn:C.prog.funcs[f]? = some fn)
    (K:Kids C.prog (·<C.prog.types.size)) (hz:∀ t e,t<C.prog.types.size→C.prog.underlying t=some (.slice e)→0<C.prog.cellsOf e)
    (hts:∀ t∈fn.params.toList,t<C.prog.types.size) (hpl:fn.params.toList.all (plT C.prog n)=true) (hres:fn.resultTypes=#[tb]) (hb:C.prog.underlying tb=some .bool)
    (hvars:s.vars=[]) (hspec:∀ ds:List (DataW H),ds.length=fn.params.toList.length→s.fn H (ds++[])={ results:=[.lit (.bool true)],args:=ds })
    (witness:∃ (w:World) (tape:Tape) (i:Input),w.os=os∧(w.forCall tape i).Shaped C.prog∧i.vars=[]∧Input.okWide C.prog (w.forCall tape i) .any w.heap.size f i ∧
      s.pre6 enc C.prog fn conds false (w.forCall tape i).memory i.args∧({}:Assume).holds C.prog (lone (Frame.enter C.prog f i.args .normal) [] (w.forCall tape i)))
    (law:∀ css,ShpAll C.prog n fn.params.toList css→SpecR C.prog f (avsOf C.prog fn.params.toList css) (.cv (cb true))) :
    ReturnsInHanded {} C os f .any (s.pre6 enc C.prog fn conds false) (s.post enc C.prog fn false fresh handsOn false):=by
  refine returnsInHanded_of_change_sized own started noInit hfn witness ?_
  intro W base args ds gs before hval hW hcnd hsz _
  have hW':=hW
  obtain ⟨p,q,hA,hV,rfl,hfz,hnd⟩:=hW
  rw [hvars] at hV
  obtain ⟨rfl,rfl⟩:=trodVars_none hV
  simp only [List.append_nil] at hW'
  have hwt:∀ m∈DataW.weightsEach C.prog fn.params.toList ds,m≤reachBytes:=by
    intro m hm
    have hh:∀ (ts us:List TypeId) (ds:List (DataW H)),m∈DataW.weightsEach C.prog ts ds→m∈DataW.weightsEach C.prog (ts++us) ds:=by
      intro ts
      induction ts with
      | nil=>intro us ds h;simp [DataW.weightsEach] at h
      | cons t ts ih =>
        intro us ds h
        cases ds with
        | nil=>simp [DataW.weightsEach] at h
        | cons d ds =>
          simp only [DataW.weightsEach,List.mem_append,List.cons_append] at h ⊢
          exact h.imp id (ih us ds)
    have:=List.all_eq_true.1 hsz m (by rw [List.append_nil];exact hh _ _ _ hm)
    simpa using this
  obtain ⟨css,s1,s2⟩:=args_ok K n fn.params.toList args.toList ds p hts hpl (fun j t v hj hv=>hval j t v (by rw [← Array.getElem?_toList];exact hj) (by rw [← Array.getElem?_toList];exact hv)) hA hwt
  let e0:Env:={ ρ:=fun _=>0,hdr:=fun _ _=>undef,S:=fun b=>b<W.heap.size,base:=W.heap.size,H:=fun _=>none,y:=false }
  have hm:Mem W.heap.size W e0 [] [] W:=Mem.nothing e0 W fun b hb=>hb
  have hc:=law css s1 Fence.wide 0 free_wide rfl W.heap.size W e0 W args hm (s2 e0 _ rfl) (AV.scos_closed _ _ _ (avsOf_closed _ _ _))
  refine (CallsIn.calls hc (fun k=>by simp [Fence.room,Fence.wide])).mono ?_
  rintro en W' ⟨e',B',V',r,v,rfl,⟨rfl,rfl,rfl⟩,hmem,hex,hr,_⟩
  simp only [AV.holds,cb,CV.holds] at hr
  obtain ⟨rfl,_⟩:=hr
  have hB:Below W.heap.size W W':=by
    have:=hmem.below
    rwa [Env.nb_false (show e'.y=false from hex.ye)] at this
  have hdl:=trodAll_len hA
  refine ⟨_,rfl,ds,[],p,[],p,[],hW',?_,?_,?_,hB.frame _,fun h=>by cases h⟩
  · rw [hspec ds hdl,hres]
    exact trodAll_mk1 (shut_bool hb true)
  · rw [hspec ds hdl]
    have h1:=trodAll_up hB hA
    exact DataW.TrodAll.respare K hz hts h1 (fun x hx=>by simpa using DataW.TrodAll.lt hA x hx)
  · rw [hspec ds hdl,hvars];rfl
end Go.Sx
namespace Go.Proofs.Ythkfohoccnnphaa
open Go Go.Sx
set_option maxRecDepth 100000
def fe3:FE:=⟨226,[.tmp 6],.two (.reg [] [1,3,5] none []) (.two (.two (.reg [] [1,3,5,33] none []) (.cond none (.two (.reg [] [6] none []) (.nil)) (.nil))) (.two (.reg [] [1,3,5,7] none []) (.two (.reg [] [1,3,5,7,8,9] none []) (.two (.reg [] [1,3,5,7,8,9,10,11] none []) (.two (.reg [] [1,3,5,8,9,10,11,12,13] none []) (.two (.two (.reg [] [] (some ⟨[1,3,5,8,10,12],[(70,.lf lb)],[],[]⟩) []) (.cond none (.two (.reg [] [6] none []) (.nil)) (.nil))) (.two (.reg [] [1,3,5,8,10,12,14] none []) (.two (.two (.reg [] [1,3,5,8,10,14,71,72,73] none []) (.blk ⟨[1,3,5,8,10],[(14,.lf li)],[],[]⟩ (.lp [] ⟨[1,3,5,8,10,71,72],[(14,.lf li),(73,.lf li)],[],[]⟩ (.two (.reg [] [1,3,5,8,10,14,71,72,73,74] none []) (.two (.cond none (.nil) (.nil)) (.two (.thru (.two (.reg [] [1,3,5,8,10,14,16,71,72,73] none []) (.two (.two (.reg [] [] (some ⟨[1,3,5,8,10,14,16,71,72,73],[(84,.lf lb)],[],[]⟩) []) (.cond none (.two (.reg [] [6] none []) (.nil)) (.nil))) (.two (.reg [] [1,3,5,8,10,14,16,71,72,73,86,87,88] none []) (.blk ⟨[1,3,5,8,10,71,72,73],[(14,.lf li)],[],[]⟩ (.lp [] ⟨[1,3,5,8,10,16,71,72,73,86,87],[(14,.lf li),(88,.lf li)],[],[]⟩ (.two (.reg [] [1,3,5,8,10,14,16,71,72,73,86,87,88,89] none []) (.two (.cond none (.nil) (.nil)) (.two (.thru (.two (.reg [] [1,3,5,8,10,14,16,18,71,72,73,86,87,88] none []) (.two (.reg [] [1,3,5,8,10,14,16,18,71,72,73,86,87,88,99] none []) (.cond (some ⟨[1,3,5,8,10,16,71,72,73,86,87,88],[(14,.lf li)],[],[]⟩) (.reg [] [1,3,5,8,10,14,16,71,72,73,86,87,88] none []) (.nil))))) (.reg [] [1,3,5,8,10,14,16,71,72,73,86,87,88] none [])))))))))) (.reg [] [1,3,5,8,10,14,71,72,73] none []))))))) (.two (.two (.reg [] [1,3,5,110] none []) (.cond none (.two (.reg [] [6] none []) (.nil)) (.nil))) (.two (.reg [] [1,3,5,19] none []) (.two (.reg [] [1,3,5,19,20,21] none []) (.two (.two (.reg [] [1,3,5,19,20,21,122] none []) (.cond (some ⟨[1,3,5],[],[],[]⟩) (.two (.reg [] [1,3,5,19,20,22,23] none []) (.two (.reg [] [1,3,5,19,20,22,23,24,25] none []) (.two (.reg [] [] (some ⟨[1,3,5],[(157,.lf lb)],[],[]⟩) []) (.cond none (.two (.reg [] [6] none []) (.nil)) (.nil))))) (.two (.reg [] [1,3,5,19,21,26,27] none []) (.two (.reg [] [] (some ⟨[1,3,5],[(174,.lf lb)],[],[]⟩) []) (.cond none (.two (.reg [] [6] none []) (.nil)) (.nil)))))) (.two (.reg [] [1,3,5,28,29] none []) (.two (.two (.reg [] [1,3,5,28,29,182] none []) (.cond none (.two (.reg [] [6] none []) (.nil)) (.nil))) (.two (.reg [] [6] none []) (.nil)))))))))))))))),⟨[.agg [Lf.row 1,Lf.row 4],.one (Lf.row 3),.agg [li,li,li]],[.one lb]⟩⟩
def fe8:FE:=⟨179,[.tmp 6],.two (.reg [] [1,3,5] none []) (.two (.two (.reg [] [1,3,5,22] none []) (.cond none (.two (.reg [] [6] none []) (.nil)) (.nil))) (.two (.reg [] [1,3,5,7,8] none []) (.two (.two (.reg [] [] (some ⟨[1,3,5,7,8],[(36,.lf lb)],[],[]⟩) []) (.cond none (.two (.reg [] [6] none []) (.nil)) (.nil))) (.two (.reg [] [1,3,5,7,9] none []) (.two (.reg [] [1,3,5,7,9,10,11,12] none []) (.two (.two (.reg [] [] (some ⟨[1,3,5,7,9,10,11],[(76,.lf lb)],[],[]⟩) []) (.cond none (.two (.reg [] [6] none []) (.nil)) (.nil))) (.two (.reg [] [1,3,5,7,9,10,11,13,14] none []) (.two (.two (.reg [] [] (some ⟨[1,3,5,7],[(109,.lf lb)],[],[]⟩) []) (.cond none (.two (.reg [] [6] none []) (.nil)) (.nil))) (.two (.reg [] [1,5,7,15] none []) (.two (.reg [] [1,5,7,15,16] none []) (.two (.reg [] [1,5,7,15] none []) (.two (.two (.reg [] [1,5,7,15,142] none []) (.cond (some ⟨[1,5,7,15],[],[(2,25,[.own 0,.own 1])],[(0,3,1,none),(1,37,4,none)]⟩) (.reg [] [1,5,7,15] none []) (.nil))) (.two (.reg [] [1,7,15] none []) (.two (.reg [] [1,7,15,18] none [(some 164,⟨[],[],[],[]⟩,.rt [.fz 0,.fz 1])]) (.two (.reg [] [6] none []) (.nil)))))))))))))))),⟨[.agg [Lf.row 1,Lf.row 4],.one (Lf.row 1),.agg [li,li,li]],[.one lb]⟩⟩
def fe14:FE:=⟨53,[.tmp 4],.two (.reg [] [1,2] none []) (.two (.two (.reg [] [1,2,5] none []) (.two (.reg [] [1,2,5,13] none []) (.cond none (.two (.reg [] [4] none []) (.nil)) (.nil)))) (.two (.two (.reg [] [1,2,17] none []) (.cond none (.two (.reg [] [4] none []) (.nil)) (.nil))) (.two (.two (.reg [] [2,18,19,20] none []) (.blk ⟨[],[],[],[]⟩ (.lp [] ⟨[2,18,19],[(20,.lf li)],[],[]⟩ (.two (.reg [] [2,18,19,20,21] none []) (.two (.cond none (.nil) (.nil)) (.two (.thru (.two (.reg [] [2,7,18,19,20] none []) (.two (.reg [] [2,7,9,18,19,20] none []) (.two (.reg [] [] (some ⟨[2,18,19,20],[(51,.lf lb)],[],[]⟩) []) (.cond none (.two (.reg [] [4] none []) (.nil)) (.nil)))))) (.reg [] [2,18,19,20] none []))))))) (.two (.reg [] [4] none []) (.nil))))),⟨[.agg [Lf.row 1,Lf.row 4],.one (Lf.row 3)],[.one li]⟩⟩
def fe15:FE:=⟨216,[.tmp 0],.two (.reg [] [] none []) (.two (.reg [] [1] none []) (.two (.reg [] [1,2,3] none [(some 31,⟨[],[],[],[]⟩,.rt [.fz 0])]) (.two (.reg [] [1,2,3,4,5] none []) (.two (.reg [] [1,2,3,4,5,6,7] none [(some 44,⟨[],[],[],[]⟩,.rt [.fz 2])]) (.two (.reg [] [1,2,3,4,5,6,7,8,9] none []) (.two (.reg [] [1,2,3,4,5,6,7,8,9,10,11] none [(some 57,⟨[],[],[],[]⟩,.rt [.fz 4])]) (.two (.reg [] [1,2,3,4,5,6,7,8,9,10,11,12,13] none [(some 63,⟨[],[],[],[]⟩,.rt [.fz 5])]) (.two (.reg [] [1,2,3,4,5,6,7,8,9,10,11,12,13,14,15] none [(some 69,⟨[],[],[],[]⟩,.rt [.fz 6])]) (.two (.reg [] [1,2,3,4,5,6,7,8,9,10,11,12,13,14,15,16,17] none [(some 75,⟨[],[],[],[]⟩,.rt [.fz 7])]) (.two (.reg [] [1,2,3,4,5,6,7,8,9,10,11,12,13,14,15,16,17,18] none []) (.two (.reg [] [1,2,3,4,5,6,7,8,9,10,11,12,13,14,15,16,17,18,19,20] none []) (.two (.reg [] [1,2,3,4,5,6,7,8,9,10,11,12,13,14,15,16,17,18,19,20,21,22] none []) (.two (.reg [] [2,3,4,5,6,7,8,9,10,11,12,13,14,15,16,17,19,20,21,22,23,24] none []) (.two (.reg [] [] (some ⟨[2,4,6,8,10,12,14,16,19,21,23],[(25,.lf lb)],[],[]⟩) []) (.two (.reg [] [2,4,6,8,10,12,14,16,19,21,23,25,26] none []) (.two (.reg [] [0] none []) (.nil))))))))))))))))),⟨[],[.one lb]⟩⟩
def fe16:FE:=⟨12,[.tmp 4],.two (.reg [] [0,1] none []) (.two (.reg [] [4] none []) (.nil)),⟨[.one li,.one li],[.one li]⟩⟩
def fe17:FE:=⟨26,[.tmp 6,.tmp 7],.two (.reg [] [1,2,3] none []) (.two (.reg [] [1,2,8,9] none []) (.two (.two (.reg [] [1,2,8,9,17] none []) (.cond none (.two (.reg [] [6,7] none []) (.nil)) (.nil))) (.two (.two (.reg [] [1,2,8,21] none []) (.cond none (.two (.reg [] [6,7] none []) (.nil)) (.nil))) (.two (.reg [] [6,7] none [(some 22,⟨[],[],[],[]⟩,.rf (some 8))]) (.nil))))),⟨[.agg [Lf.row 1,Lf.row 4],.one (Lf.row 3),.one li],[.one li,.one li]⟩⟩
def fe18:FE:=⟨25,[.tmp 6,.tmp 7],.two (.reg [] [1,2,3] none []) (.two (.two (.reg [] [1,2,9] none []) (.two (.reg [] [1,2,9,17] none []) (.cond none (.two (.reg [] [6,7] none []) (.nil)) (.nil)))) (.two (.two (.reg [] [1,2,21] none []) (.cond none (.two (.reg [] [6,7] none []) (.nil)) (.nil))) (.two (.reg [] [6,7] none []) (.nil)))),⟨[.agg [Lf.row 1,Lf.row 4],.one (Lf.row 3),.one li],[.one (Lf.row 1),.one li]⟩⟩
def fe19:FE:=⟨51,[.tmp 6,.tmp 7],.two (.reg [] [1,2,3] none []) (.two (.reg [] [1,2,8,9] none []) (.two (.thru (.two (.reg [] [1,2,8,9,19] none []) (.cond none (.two (.reg [] [6,7] none []) (.nil)) (.two (.reg [] [1,2,8,23] none []) (.cond none (.two (.reg [] [6,7] none []) (.nil)) (.two (.reg [] [1,2,8,27] none [(some 28,⟨[],[],[],[]⟩,.rf (some 8))]) (.cond none (.two (.reg [] [6,7] none []) (.nil)) (.nil)))))))) (.two (.reg [] [1,2,8,10,11] none []) (.two (.blk ⟨[],[(10,.lf li)],[],[]⟩ (.lp [] ⟨[1,2,8],[(10,.lf li),(11,.lf li)],[],[]⟩ (.two (.two (.reg [] [1,2,8,10,11,35] none []) (.cond none (.nil) (.nil))) (.thru (.two (.reg [] [1,2,8,10,11,12] none []) (.two (.reg [] [1,2,8,10,11,12,46] none []) (.cond (some ⟨[1,2,8],[(10,.lf li),(11,.lf li)],[],[]⟩) (.reg [] [1,2,8,10,11] none []) (.reg [] [1,2,8,10,11] none [])))))))) (.two (.reg [] [6,7] none []) (.nil)))))),⟨[.agg [Lf.row 1,Lf.row 4],.one (Lf.row 3),.one li],[.one li,.one li]⟩⟩
def fe20:FE:=⟨84,[.tmp 4,.tmp 5],.two (.reg [] [1,2] none []) (.two (.reg [] [1,6,7] none []) (.two (.two (.reg [] [1,6,7,24] none []) (.cond none (.two (.reg [] [4,5] none []) (.nil)) (.nil))) (.two (.reg [] [1,6,8] none []) (.two (.two (.reg [] [1,6,8,26,27,28] none []) (.blk ⟨[1,6],[(8,.own 0)],[],[(0,3,1,none)]⟩ (.lp [.mk 8 3 1] ⟨[1,6,26,27],[(8,.own 0),(28,.lf li)],[],[(0,3,1,none)]⟩ (.two (.reg [] [1,6,8,26,27,28,29] none []) (.two (.cond none (.nil) (.nil)) (.two (.thru (.two (.reg [] [1,6,8,10,26,27,28] none []) (.two (.reg [] [1,6,8,10,26,27,28] none []) (.two (.reg [] [1,6,8,10,26,27,28,39] none []) (.cond (some ⟨[1,6,26,27,28],[(8,.own 0)],[],[(0,3,1,none)]⟩) (.reg [] [1,6,8,26,27,28] none []) (.nil)))))) (.reg [] [1,6,8,26,27,28] none []))))))) (.two (.reg [] [1,6,8] none [(some 47,⟨[],[],[],[]⟩,.mt false)]) (.two (.reg [] [1,6,8,11] none []) (.two (.two (.reg [] [1,6,11,49,50,51] none []) (.blk ⟨[],[],[],[(1,11534425,11,some 0)]⟩ (.lp [] ⟨[1,6,11,49,50],[(51,.lf li)],[],[(1,11534425,11,some 0)]⟩ (.two (.reg [] [1,6,11,49,50,51,52] none []) (.two (.cond none (.nil) (.nil)) (.two (.thru (.two (.reg [] [1,6,11,13,49,50,51] none []) (.two (.reg [] [1,6,11,13,14,49,50,51] none []) (.two (.two (.reg [] [1,6,11,13,14,49,50,51,57,58,59] none []) (.blk ⟨[1,6,11,13,49,50,51],[(14,.own 2)],[],[(2,3,1,none)]⟩ (.lp [.mk 14 3 1] ⟨[1,6,11,13,49,50,51,57,58],[(14,.own 2),(59,.lf li)],[],[(2,3,1,none)]⟩ (.two (.reg [] [1,6,11,13,14,49,50,51,57,58,59,60] none []) (.two (.cond none (.nil) (.nil)) (.two (.thru (.two (.reg [] [1,6,11,13,14,16,49,50,51,57,58,59] none []) (.reg [] [1,6,11,13,14,49,50,51,57,58,59] none []))) (.reg [] [1,6,11,13,14,49,50,51,57,58,59] none []))))))) (.two (.reg [.fz 2] [] (some ⟨[1,6,11,13,49,50,51],[(81,.lf lb)],[],[(1,11534425,11,some 0)]⟩) [(some 79,⟨[1,6,11,13,49,50,51,75],[(79,.lf lb)],[],[(1,11534425,11,some 0)]⟩,.two (.reg [] [0,1,2] none []) (.two (.reg [] [0,1,2,7] none []) (.two (.two (.reg [] [0,1,2,7,12,13,14] none []) (.blk ⟨[0,1,2,7],[],[(1,142,[.lf li,.lf li,.lf li,.lf li,.lf li,.lf li,.lf li,.lf li,.lf li,.lf li])],[]⟩ (.lp [] ⟨[0,1,2,7,12,13],[(14,.lf li)],[(1,142,[.lf li,.lf li,.lf li,.lf li,.lf li,.lf li,.lf li,.lf li,.lf li,.lf li])],[]⟩ (.two (.reg [] [0,1,2,7,12,13,14,15] none []) (.two (.cond none (.nil) (.nil)) (.two (.thru (.two (.reg [] [0,1,2,7,9,12,13,14] none []) (.reg [] [0,1,2,7,12,13,14] none []))) (.reg [] [0,1,2,7,12,13,14] none []))))))) (.two (.reg [] [0,1,2,7,10,11] none []) (.two (.two (.reg [] [0,1,2,7,10,31] none []) (.cond (some ⟨[],[(10,.lf lb)],[],[(1,11534425,11,some 0)]⟩) (.two (.reg [] [2,7,10] none [(some 33,⟨[],[],[],[]⟩,.rf (some 0))]) (.reg [] [10] none [])) (.nil))) (.two (.reg [] [6] none []) (.nil)))))))]) (.cond none (.two (.reg [] [4,5] none []) (.nil)) (.nil))))))) (.reg [] [1,6,11,49,50,51] none []))))))) (.two (.reg [] [4,5] none []) (.nil))))))))),⟨[.agg [Lf.row 1,Lf.row 4],.one (Lf.row 3)],[.one li,.one li]⟩⟩
def fe21:FE:=⟨56,[.tmp 6],.two (.reg [] [1,2,3] none []) (.two (.reg [] [1,3,7] none []) (.two (.reg [] [1,3,7,9] none []) (.two (.two (.reg [] [1,3,9,21,22,23] none []) (.blk ⟨[3],[(9,.own 0)],[],[(0,3,1,none)]⟩ (.lp [.mk 9 3 1] ⟨[1,3,21,22],[(9,.own 0),(23,.lf li)],[],[(0,3,1,none)]⟩ (.two (.reg [] [1,3,9,21,22,23,24] none []) (.two (.cond none (.nil) (.nil)) (.two (.thru (.two (.reg [] [1,3,9,11,21,22,23] none []) (.two (.reg [] [] (some ⟨[1,3,9,11,21,22,23],[(34,.lf lb)],[],[]⟩) []) (.cond (some ⟨[1,3,21,22,23],[(9,.own 0)],[],[(0,3,1,none)]⟩) (.reg [] [1,3,9,21,22,23] none []) (.nil))))) (.reg [] [1,3,9,21,22,23] none []))))))) (.two (.reg [] [13] none [(some 47,⟨[],[],[],[]⟩,.rt [.fz 0])]) (.two (.reg [] [6] none []) (.nil)))))),⟨[.agg [Lf.row 1,Lf.row 4],.one (Lf.row 3),.one li],[.one lb]⟩⟩
def fe22:FE:=⟨9,[.tmp 4],.two (.reg [] [1,2] none []) (.two (.reg [] [4] none []) (.nil)),⟨[.agg [Lf.row 1,Lf.row 4],.one (Lf.row 1)],[.one lb]⟩⟩
def fe23:FE:=⟨27,[.tmp 4,.tmp 5],.two (.reg [] [1,2] none []) (.two (.reg [] [1,6,7] none []) (.two (.two (.reg [] [1,6,7,16] none []) (.cond none (.two (.reg [] [4,5] none []) (.nil)) (.nil))) (.two (.reg [] [1,6,8] none []) (.two (.nil) (.two (.two (.reg [] [8,20] none [(some 18,⟨[],[],[],[]⟩,.rf (some 6))]) (.rg (.lent 3 1) ⟨[8,20],[],[(1,3,[.lf li])],[]⟩ (.nil) (.thru (.two (.reg [] [8] none []) (.two (.reg [] [8,25] none []) (.cond none (.nil) (.nil))))))) (.two (.reg [] [4,5] none []) (.nil))))))),⟨[.agg [Lf.row 1,Lf.row 4],.one (Lf.row 1)],[.one li,.one li]⟩⟩
def fe24:FE:=⟨28,[.tmp 4,.tmp 5],.two (.reg [] [1,2] none []) (.two (.reg [] [1,6,7] none []) (.two (.two (.reg [] [1,6,7,17] none []) (.cond none (.two (.reg [] [4,5] none []) (.nil)) (.nil))) (.two (.reg [] [8,9] none [(some 20,⟨[],[],[],[]⟩,.rf (some 6))]) (.two (.two (.reg [] [8,26] none []) (.cond none (.two (.reg [] [4,5] none []) (.nil)) (.nil))) (.two (.reg [] [4,5] none []) (.nil)))))),⟨[.agg [Lf.row 1,Lf.row 4],.one (Lf.row 1)],[.one (Lf.row 1),.one li]⟩⟩
def fe25:FE:=⟨29,[.tmp 6],.two (.reg [] [1,2,3] none []) (.two (.reg [] [1,2,7,8] none []) (.two (.two (.reg [] [1,2,7,8,18] none []) (.cond none (.two (.reg [] [6] none []) (.nil)) (.nil))) (.two (.two (.reg [] [10] none [(some 21,⟨[],[],[],[]⟩,.rf (some 7))]) (.two (.reg [] [28] none []) (.cond none (.two (.reg [] [6] none []) (.nil)) (.nil)))) (.two (.reg [] [6] none []) (.nil))))),⟨[.agg [Lf.row 1,Lf.row 4],.one (Lf.row 1),.one (Lf.row 1)],[.one li]⟩⟩
def fe26:FE:=⟨75,[.tmp 4,.tmp 5],.two (.reg [] [1,2] none []) (.two (.reg [] [1,6,7] none []) (.two (.two (.reg [] [1,6,7,23] none []) (.cond none (.two (.reg [] [4,5] none []) (.nil)) (.nil))) (.two (.reg [] [1,6,8] none []) (.two (.reg [] [1,6,8,9] none [(some 25,⟨[],[],[],[]⟩,.rf (some 6))]) (.two (.reg [] [1,6,8,9,10] none []) (.two (.two (.reg [] [6,8,9,10,35] none []) (.rg (.lent 3 1) ⟨[6,8,9,10,35],[],[(1,22,[.lf (Lf.row 1)]),(2,3,[.lf li])],[(0,6291559,6,some 0)]⟩ (.reg [] [6,8,9,10,11] none []) (.thru (.two (.reg [] [8,9,10,11,12] none []) (.two (.reg [] [8,9,10,11,12,13] none []) (.two (.two (.reg [] [8,9,10,11,12,13,37,38,39] none []) (.blk ⟨[8,9,10,11,12],[(13,.lf li)],[(4,104,[.lf lb,.lf lb,.lf lb,.lf lb,.lf lb])],[]⟩ (.lp [] ⟨[8,9,10,11,12,37,38],[(13,.lf li),(39,.lf li)],[(4,104,[.lf lb,.lf lb,.lf lb,.lf lb,.lf lb])],[]⟩ (.two (.reg [] [8,9,10,11,12,13,37,38,39,40] none []) (.two (.cond none (.nil) (.nil)) (.two (.thru (.two (.reg [] [8,9,10,11,12,13,15,37,38,39] none []) (.two (.reg [] [8,9,10,11,12,13,15,37,38,39,46] none []) (.cond (some ⟨[8,9,10,11,12,37,38,39],[(13,.lf li)],[(4,104,[.lf lb,.lf lb,.lf lb,.lf lb,.lf lb])],[]⟩) (.two (.reg [] [8,9,10,11,12,13,37,38,39] none []) (.reg [] [8,9,10,11,12,13,37,38,39] none [])) (.nil))))) (.reg [] [8,9,10,11,12,13,37,38,39] none []))))))) (.two (.two (.reg [] [] (some ⟨[8,9,10,11,12,13],[(60,.lf lb)],[],[]⟩) []) (.cond (some ⟨[10,12],[],[(1,22,[.lf (Lf.row 1)]),(2,3,[.lf li])],[]⟩) (.reg [] [10,12] none [(some 62,⟨[8,9,10,12,13],[(62,.own 2)],[],[(2,3,1,none)]⟩,.two (.reg [] [0] none []) (.two (.two (.reg [] [0,4] none []) (.cond none (.two (.reg [] [2] none []) (.rt [.mk 2 3 1])) (.nil))) (.two (.reg [] [2] none []) (.nil)))),(some 63,⟨[],[],[],[]⟩,.rt [.fz 2])]) (.nil))) (.reg [] [] none [])))))))) (.two (.two (.reg [] [8,73] none []) (.cond none (.two (.reg [] [4,5] none []) (.nil)) (.nil))) (.two (.reg [] [4,5] none []) (.nil))))))))),⟨[.agg [Lf.row 1,Lf.row 4],.one (Lf.row 1)],[.one (Lf.row 1),.one li]⟩⟩
def fe33:FE:=⟨26,[.tmp 4],.two (.reg [] [0,1] none []) (.two (.two (.reg [] [0,1,10] none []) (.cond none (.two (.reg [] [4] none []) (.nil)) (.nil))) (.two (.two (.reg [] [0,1,12,13] none []) (.blk ⟨[],[],[],[]⟩ (.lp [] ⟨[0,1,12],[(13,.lf li)],[],[]⟩ (.two (.reg [] [0,1,12,13,14] none []) (.two (.cond none (.nil) (.nil)) (.two (.thru (.two (.reg [] [0,1,5,12,13] none []) (.two (.reg [] [0,1,12,13,24] none []) (.cond none (.two (.reg [] [4] none []) (.nil)) (.nil))))) (.reg [] [0,1,12,13] none []))))))) (.two (.reg [] [4] none []) (.nil)))),⟨[.one (Lf.row 1),.one (Lf.row 1)],[.one lb]⟩⟩
def fe39:FE:=⟨45,[.tmp 8,.tmp 9,.tmp 10],.two (.reg [] [1,2,3,4] none []) (.two (.reg [] [1,2,3,13] none []) (.two (.thru (.two (.reg [] [1,2,3,13,22] none []) (.cond none (.two (.reg [] [8,9,10] none []) (.nil)) (.two (.reg [] [1,2,3,26] none []) (.cond none (.two (.reg [] [8,9,10] none []) (.nil)) (.nil)))))) (.two (.reg [] [8,9,10] none [(some 34,⟨[2,3],[(34,.own 0)],[],[(0,3,1,none)]⟩,.two (.reg [] [0] none []) (.two (.two (.reg [] [0,4] none []) (.cond none (.two (.reg [] [2] none []) (.rt [.mk 2 3 1])) (.nil))) (.two (.reg [] [2] none []) (.nil)))),(some 38,⟨[],[],[],[]⟩,.mt true),(some 40,⟨[3,38],[(40,.own 1)],[],[(1,3,1,none)]⟩,.two (.reg [] [0] none []) (.two (.two (.reg [] [0,4] none []) (.cond none (.two (.reg [] [2] none []) (.rt [.mk 2 3 1])) (.nil))) (.two (.reg [] [2] none []) (.nil)))),(some 44,⟨[],[],[],[]⟩,.mt true)]) (.nil)))),⟨[.agg [Lf.row 1,Lf.row 4],.one (Lf.row 1),.one (Lf.row 1),.one li],[.one (Lf.row 1),.one (Lf.row 1),.one li]⟩⟩
def fe40:FE:=⟨51,[.tmp 8,.tmp 9],.two (.reg [] [1,2,3,4] none []) (.two (.reg [] [1,3,10,11,12] none []) (.two (.thru (.two (.reg [] [1,3,10,11,12,22] none []) (.cond none (.two (.reg [] [8,9] none []) (.nil)) (.two (.reg [] [1,3,10,11,26] none [(some 27,⟨[],[],[],[]⟩,.rf (some 10))]) (.cond none (.two (.reg [] [8,9] none []) (.nil)) (.two (.reg [] [3,10,11,31] none []) (.cond none (.two (.reg [] [8,9] none []) (.nil)) (.nil)))))))) (.two (.two (.reg [] [3,10,11,40,41] none []) (.blk ⟨[],[],[],[]⟩ (.lp [] ⟨[3,10,11,40],[(41,.lf li)],[],[]⟩ (.two (.reg [] [3,10,11,40,41,42] none []) (.two (.cond none (.nil) (.nil)) (.two (.thru (.two (.reg [] [3,10,11,13,40,41] none []) (.two (.reg [] [3,10,11,13,40,41,48] none [(some 45,⟨[],[],[],[]⟩,.rf (some 11))]) (.cond none (.two (.reg [] [8,9] none []) (.nil)) (.nil))))) (.reg [] [3,10,11,40,41] none []))))))) (.two (.reg [] [8,9] none []) (.nil))))),⟨[.agg [Lf.row 1,Lf.row 4],.one (Lf.row 1),.one (Lf.row 1),.one li],[.one li,.one li]⟩⟩
def fe45:FE:=⟨42,[.tmp 2],.two (.reg [] [1] none []) (.two (.two (.reg [] [] (some ⟨[1],[(13,.lf lb)],[],[]⟩) []) (.cond none (.two (.reg [] [2] none []) (.nil)) (.nil))) (.two (.two (.reg [] [1,15,16,17] none []) (.blk ⟨[],[],[],[]⟩ (.lp [] ⟨[1,15,16],[(17,.lf li)],[],[]⟩ (.two (.reg [] [1,15,16,17,18] none []) (.two (.cond none (.nil) (.nil)) (.two (.thru (.two (.reg [] [1,3,4,15,16,17] none []) (.two (.reg [] [] (some ⟨[1,15,16,17],[(40,.lf lb)],[],[]⟩) []) (.cond none (.two (.reg [] [2] none []) (.nil)) (.nil))))) (.reg [] [1,15,16,17] none []))))))) (.two (.reg [] [2] none []) (.nil)))),⟨[.agg [Lf.row 1,Lf.row 4]],[.one li]⟩⟩
def fe46:FE:=⟨75,[.tmp 2],.two (.reg [] [1] none []) (.two (.two (.reg [] [1,10] none []) (.cond none (.two (.reg [] [2] none []) (.nil)) (.nil))) (.two (.two (.reg [] [1,12,13,14] none []) (.blk ⟨[1],[],[],[]⟩ (.lp [] ⟨[1,12,13],[(14,.lf li)],[],[]⟩ (.two (.reg [] [1,12,13,14,15] none []) (.two (.cond none (.nil) (.nil)) (.two (.thru (.two (.reg [] [1,4,12,13,14] none []) (.two (.reg [] [1,12,13,14,20] none []) (.cond none (.two (.reg [] [2] none []) (.nil)) (.nil))))) (.reg [] [1,12,13,14] none []))))))) (.two (.two (.reg [] [1,23,24,25] none []) (.blk ⟨[],[],[],[]⟩ (.lp [] ⟨[1,23,24],[(25,.lf li)],[],[]⟩ (.two (.reg [] [1,23,24,25,26] none []) (.two (.cond none (.nil) (.nil)) (.two (.thru (.two (.reg [] [1,5,6,23,24,25] none []) (.two (.reg [] [] (some ⟨[1,23,24,25],[(73,.lf lb)],[],[]⟩) []) (.cond none (.two (.reg [] [2] none []) (.nil)) (.nil))))) (.reg [] [1,23,24,25] none []))))))) (.two (.reg [] [2] none []) (.nil))))),⟨[.agg [Lf.row 1,Lf.row 4]],[.one li]⟩⟩
def fe48:FE:=⟨33,[.tmp 4],.two (.reg [] [1,2] none []) (.two (.two (.reg [] [1,2,5] none []) (.two (.reg [] [1,2,5,13] none []) (.cond none (.two (.reg [] [4] none []) (.nil)) (.nil)))) (.two (.two (.reg [] [1,2,17] none []) (.cond none (.two (.reg [] [4] none []) (.nil)) (.nil))) (.two (.two (.reg [] [2,18,19,20] none []) (.blk ⟨[],[],[],[]⟩ (.lp [] ⟨[2,18,19],[(20,.lf li)],[],[]⟩ (.two (.reg [] [2,18,19,20,21] none []) (.two (.cond none (.nil) (.nil)) (.two (.thru (.two (.reg [] [2,7,18,19,20] none []) (.two (.reg [] [2,9,18,19,20] none []) (.two (.reg [] [2,18,19,20,31] none []) (.cond none (.two (.reg [] [4] none []) (.nil)) (.nil)))))) (.reg [] [2,18,19,20] none []))))))) (.two (.reg [] [4] none []) (.nil))))),⟨[.agg [Lf.row 1,Lf.row 4],.one (Lf.row 1)],[.one li]⟩⟩
def fe49:FE:=⟨82,[.cell 4 67,.cell 5 28],.two (.reg [] [1,2,4,5] none []) (.two (.reg [] [1,4,5,6,7] none []) (.two (.two (.reg [] [1,4,5,6,7,20] none []) (.cond none (.two (.reg [] [4,5] none []) (.nil)) (.nil))) (.two (.reg [] [1,4,5,6,8] none [(some 23,⟨[],[],[],[]⟩,.rf (some 6))]) (.two (.two (.reg [] [1,4,5,6,8,32] none [(some 32,⟨[1,4,5,6,8],[(32,.lf lb)],[],[(0,11534425,11,some 0)]⟩,.two (.reg [] [0,1,2] none []) (.two (.reg [] [0,1,2,7] none []) (.two (.two (.reg [] [0,1,2,7,12,13,14] none []) (.blk ⟨[0,1,2,7],[],[(4,142,[.lf li,.lf li,.lf li,.lf li,.lf li,.lf li,.lf li,.lf li,.lf li,.lf li])],[]⟩ (.lp [] ⟨[0,1,2,7,12,13],[(14,.lf li)],[(4,142,[.lf li,.lf li,.lf li,.lf li,.lf li,.lf li,.lf li,.lf li,.lf li,.lf li])],[]⟩ (.two (.reg [] [0,1,2,7,12,13,14,15] none []) (.two (.cond none (.nil) (.nil)) (.two (.thru (.two (.reg [] [0,1,2,7,9,12,13,14] none []) (.reg [] [0,1,2,7,12,13,14] none []))) (.reg [] [0,1,2,7,12,13,14] none []))))))) (.two (.reg [] [0,1,2,7,10,11] none []) (.two (.two (.reg [] [0,1,2,7,10,31] none []) (.cond (some ⟨[],[(10,.lf lb)],[],[(0,11534425,11,some 0)]⟩) (.two (.reg [] [2,7,10] none []) (.reg [] [10] none [])) (.nil))) (.two (.reg [] [6] none []) (.nil)))))))]) (.cond none (.two (.reg [] [4,5] none []) (.nil)) (.nil))) (.two (.two (.reg [] [1,4,5,6,8,36] none []) (.rg (.clo [.one (Lf.row 1)]) ⟨[1,4,5,6,8,36],[],[(1,67,[.lf li,.lf (Lf.row 1)]),(2,28,[.lf li])],[]⟩ (.reg [] [1,4,5,6,8,9] none []) (.thru (.two (.reg [] [4,5,9,40] none [(some 40,⟨[4,5,9],[(40,.lf lb)],[],[]⟩,.two (.reg [] [2,3] none []) (.two (.reg [] [4] none [(some 16,⟨[8],[(16,.lf lb)],[],[]⟩,.two (.reg [] [0,1] none []) (.two (.reg [] [4] none [(some 7,⟨[],[(7,.lf li)],[],[]⟩,.two (.reg [] [0,1] none []) (.two (.two (.reg [] [0,1,7,8] none []) (.blk ⟨[],[],[],[]⟩ (.lp [] ⟨[0,1,7],[(8,.lf li)],[],[]⟩ (.two (.reg [] [0,1,7,8,9] none []) (.two (.cond none (.nil) (.nil)) (.two (.thru (.two (.reg [] [0,1,5,7,8] none []) (.two (.reg [] [0,1,5,7,8,16] none [(some 16,⟨[0,1,5,7,8],[(16,.lf lb)],[],[]⟩,.two (.reg [] [0,1,2] none []) (.two (.reg [] [4] none []) (.nil)))]) (.cond none (.two (.reg [] [4] none []) (.nil)) (.nil))))) (.reg [] [0,1,7,8] none []))))))) (.two (.reg [] [4] none []) (.nil))))]) (.nil)))]) (.nil)))]) (.cond none (.two (.reg [] [4,5] none []) (.nil)) (.nil)))))) (.two (.reg [] [1,4,5,6,8,10] none []) (.two (.two (.reg [] [1,4,5,6,8,10,44,45] none []) (.blk ⟨[1,4,5,6,8],[(10,.own 1)],[],[(1,3,1,none)]⟩ (.lp [.mk 10 3 1] ⟨[1,4,5,6,8,44],[(10,.own 1),(45,.lf li)],[],[(1,3,1,none)]⟩ (.two (.reg [] [1,4,5,6,8,10,44,45,46] none []) (.two (.cond none (.nil) (.nil)) (.two (.thru (.two (.reg [] [1,4,5,6,8,10,11,44,45] none []) (.reg [] [1,4,5,6,8,10,44,45] none []))) (.reg [] [1,4,5,6,8,10,44,45] none []))))))) (.two (.two (.reg [.fz 1] [1,4,5,6,8,10,55] none [(some 55,⟨[1,4,5,6,8,10],[(55,.lf lb)],[],[]⟩,.two (.reg [] [1,2] none []) (.two (.reg [] [1,2,5] none []) (.two (.two (.reg [] [1,2,5,13,14,15] none []) (.blk ⟨[1,2],[(5,.lf li)],[],[]⟩ (.lp [] ⟨[1,2,13,14],[(5,.lf li),(15,.lf li)],[],[]⟩ (.two (.reg [] [1,2,5,13,14,15,16] none []) (.two (.cond none (.nil) (.nil)) (.two (.thru (.two (.reg [] [1,2,5,7,13,14,15] none []) (.reg [] [1,2,5,13,14,15] none []))) (.reg [] [1,2,5,13,14,15] none []))))))) (.two (.reg [] [4] none []) (.nil)))))]) (.cond none (.two (.reg [] [4,5] none [(some 59,⟨[4,5],[(59,.lf (Lf.row 1))],[],[]⟩,.two (.reg [] [0,1] none []) (.two (.two (.reg [] [0,1,5] none []) (.blk ⟨[],[(0,.lf (Lf.row 1))],[],[]⟩ (.lp [] ⟨[1],[(0,.lf (Lf.row 1)),(5,.lf li)],[],[]⟩ (.two (.two (.reg [] [0,1,5,11] none []) (.cond none (.nil) (.nil))) (.two (.thru (.two (.reg [] [0,1,5,6] none [(some 15,⟨[0,1,5],[(15,.own 2)],[],[(2,3,1,none)]⟩,.two (.reg [] [0] none []) (.two (.two (.reg [] [0,4] none []) (.cond none (.two (.reg [] [2] none []) (.rt [.mk 2 3 1])) (.nil))) (.two (.reg [] [2] none []) (.nil)))),(some 19,⟨[],[],[],[]⟩,.mt true)]) (.two (.reg [.fz 2] [0,1,5,6,22] none [(some 22,⟨[0,1,5,6],[(22,.lf lb)],[],[]⟩,.two (.reg [] [1,2] none []) (.two (.reg [] [1,2,5] none []) (.two (.two (.reg [] [1,2,5,13,14,15] none []) (.blk ⟨[1,2],[(5,.lf li)],[],[]⟩ (.lp [] ⟨[1,2,13,14],[(5,.lf li),(15,.lf li)],[],[]⟩ (.two (.reg [] [1,2,5,13,14,15,16] none []) (.two (.cond none (.nil) (.nil)) (.two (.thru (.two (.reg [] [1,2,5,7,13,14,15] none []) (.reg [] [1,2,5,13,14,15] none []))) (.reg [] [1,2,5,13,14,15] none []))))))) (.two (.reg [] [4] none []) (.nil)))))]) (.cond (some ⟨[1,5],[(0,.lf (Lf.row 1))],[],[]⟩) (.reg [] [0,1,5] none []) (.nil))))) (.reg [] [0,1,5] none [])))))) (.two (.reg [] [4] none []) (.nil))))]) (.nil)) (.nil))) (.two (.two (.reg [] [4,5,8,10,70] none []) (.rg (.clo [.one (Lf.row 1)]) ⟨[4,5,8,10,70],[],[(1,67,[.lf li,.lf (Lf.row 1)]),(2,28,[.lf li])],[]⟩ (.reg [] [4,5,8,10,12] none []) (.thru (.two (.reg [] [4,5,12,74] none [(some 74,⟨[4,5,12],[(74,.lf lb)],[],[]⟩,.two (.reg [] [1,2] none []) (.two (.two (.reg [] [1,2,9,10,11] none []) (.blk ⟨[1,2],[],[],[]⟩ (.lp [] ⟨[1,2,9,10],[(11,.lf li)],[],[]⟩ (.two (.reg [] [1,2,9,10,11,12] none []) (.two (.cond none (.nil) (.nil)) (.two (.thru (.two (.reg [] [1,2,5,6,9,10,11] none []) (.two (.reg [] [1,2,6,9,10,11,18,19,20] none []) (.blk ⟨[1,2,9,10,11],[],[],[]⟩ (.lp [] ⟨[1,2,6,9,10,11,18,19],[(20,.lf li)],[],[]⟩ (.two (.reg [] [1,2,6,9,10,11,18,19,20,21] none []) (.two (.cond none (.nil) (.nil)) (.two (.thru (.two (.reg [] [1,2,6,8,9,10,11,18,19,20] none []) (.two (.reg [] [1,2,6,9,10,11,18,19,20,37] none []) (.cond none (.two (.reg [] [4] none []) (.nil)) (.nil))))) (.reg [] [1,2,6,9,10,11,18,19,20] none []))))))))) (.reg [] [1,2,9,10,11] none []))))))) (.two (.reg [] [4] none []) (.nil))))]) (.cond none (.two (.reg [] [4,5] none []) (.nil)) (.nil)))))) (.two (.reg [] [4,5] none [(some 80,⟨[4,5],[(80,.lf (Lf.row 1))],[],[(0,11534425,11,some 0)]⟩,.two (.reg [] [0,1] none []) (.two (.two (.reg [] [0,1,5] none []) (.blk ⟨[],[(0,.lf (Lf.row 1))],[],[(0,11534425,11,some 0)]⟩ (.lp [] ⟨[1],[(0,.lf (Lf.row 1)),(5,.lf li)],[],[(0,11534425,11,some 0)]⟩ (.two (.two (.reg [] [0,1,5,11] none []) (.cond none (.nil) (.nil))) (.two (.thru (.two (.reg [] [0,1,5,6] none [(some 15,⟨[0,1,5],[(15,.own 2)],[],[(2,3,1,none)]⟩,.two (.reg [] [0] none []) (.two (.two (.reg [] [0,4] none []) (.cond none (.two (.reg [] [2] none []) (.rt [.mk 2 3 1])) (.nil))) (.two (.reg [] [2] none []) (.nil)))),(some 19,⟨[],[],[],[]⟩,.mt true)]) (.two (.reg [.fz 2] [0,1,5,6,22] none [(some 22,⟨[0,1,5,6],[(22,.lf lb)],[],[(0,11534425,11,some 0)]⟩,.two (.reg [] [1,2] none []) (.two (.reg [] [4] none [(some 12,⟨[],[(12,.lf lb)],[],[(0,11534425,11,some 0)]⟩,.two (.reg [] [0,1,2] none []) (.two (.reg [] [0,1,2,7] none []) (.two (.two (.reg [] [0,1,2,7,12,13,14] none []) (.blk ⟨[0,1,2,7],[],[(5,142,[.lf li,.lf li,.lf li,.lf li,.lf li,.lf li,.lf li,.lf li,.lf li,.lf li])],[]⟩ (.lp [] ⟨[0,1,2,7,12,13],[(14,.lf li)],[(5,142,[.lf li,.lf li,.lf li,.lf li,.lf li,.lf li,.lf li,.lf li,.lf li,.lf li])],[]⟩ (.two (.reg [] [0,1,2,7,12,13,14,15] none []) (.two (.cond none (.nil) (.nil)) (.two (.thru (.two (.reg [] [0,1,2,7,9,12,13,14] none []) (.reg [] [0,1,2,7,12,13,14] none []))) (.reg [] [0,1,2,7,12,13,14] none []))))))) (.two (.reg [] [0,1,2,7,10,11] none []) (.two (.two (.reg [] [0,1,2,7,10,31] none []) (.cond (some ⟨[],[(10,.lf lb)],[],[(0,11534425,11,some 0)]⟩) (.two (.reg [] [2,7,10] none []) (.reg [] [10] none [])) (.nil))) (.two (.reg [] [6] none []) (.nil)))))))]) (.nil)))]) (.cond (some ⟨[1,5],[(0,.lf (Lf.row 1))],[],[]⟩) (.reg [] [0,1,5] none []) (.nil))))) (.reg [] [0,1,5] none [])))))) (.two (.reg [] [4] none []) (.nil))))]) (.nil))))))))))),⟨[.agg [Lf.row 1,Lf.row 4],.one (Lf.row 1)],[.agg [li,Lf.row 1],.one li]⟩⟩
def fe54:FE:=⟨26,[.tmp 6,.tmp 7],.two (.reg [] [1,2,3] none []) (.two (.reg [] [9,10] none []) (.two (.two (.reg [] [9,10,20] none []) (.cond none (.two (.reg [] [6,7] none []) (.nil)) (.nil))) (.two (.reg [] [6,7] none [(some 22,⟨[],[],[],[]⟩,.rf (some 9))]) (.nil)))),⟨[.agg [Lf.row 1,Lf.row 4],.one (Lf.row 1),.one (Lf.row 1)],[.one (Lf.row 1),.one li]⟩⟩
def fe63:FE:=⟨22,[.cell 4 37,.tmp 5],.two (.reg [] [1,2,4] none []) (.two (.two (.reg [] [1,4,9,10,11] none []) (.blk ⟨[4],[],[(1,37,[.lf li,.lf li,.lf li,.lf li])],[]⟩ (.lp [] ⟨[1,4,9,10],[(11,.lf li)],[(1,37,[.lf li,.lf li,.lf li,.lf li])],[]⟩ (.two (.reg [] [1,4,9,10,11,12] none []) (.two (.cond none (.nil) (.nil)) (.two (.thru (.two (.reg [] [1,4,7,9,10,11] none []) (.two (.reg [] [1,4,7,9,10,11,18] none []) (.cond none (.two (.reg [] [4,5] none []) (.nil)) (.nil))))) (.reg [] [1,4,9,10,11] none []))))))) (.two (.reg [] [4,5] none []) (.nil))),⟨[.agg [Lf.row 1,Lf.row 4],.one li],[.agg [li,li,li,li],.one lb]⟩⟩
def fe64:FE:=⟨15,[.tmp 6],.two (.reg [] [0,1,2] none []) (.two (.reg [] [6] none []) (.nil)),⟨[.one li,.one li,.one li],[.one lb]⟩⟩
def fe65:FE:=⟨8,[.cell 0 25],.two (.reg [] [0] none []) (.two (.reg [] [0] none []) (.nil)),⟨[],[.agg [Lf.row 1,Lf.row 4]]⟩⟩
def fe66:FE:=⟨24,[.tmp 4,.tmp 5],.two (.reg [] [1,2] none []) (.two (.two (.reg [] [1,2,6] none []) (.two (.reg [] [1,2,6,11] none []) (.cond none (.two (.reg [] [4,5] none []) (.nil)) (.nil)))) (.two (.reg [] [1,7] none []) (.two (.two (.reg [] [] (some ⟨[7],[(22,.lf lb)],[],[]⟩) []) (.cond none (.two (.reg [] [4,5] none []) (.nil)) (.nil))) (.two (.reg [] [4,5] none []) (.nil))))),⟨[.agg [Lf.row 1,Lf.row 4],.one (Lf.row 3)],[.one Lf.raw,.one li]⟩⟩
def fe67:FE:=⟨15,[.tmp 6],.two (.reg [] [0,1,2] none []) (.two (.reg [] [6] none []) (.nil)),⟨[.one li,.one li,.one li],[.one lb]⟩⟩
def fe68:FE:=⟨45,[.tmp 6],.two (.reg [] [0,1,2] none []) (.two (.reg [] [0,1,2,7] none []) (.two (.two (.reg [] [0,2,7,11,12,13] none []) (.blk ⟨[],[(7,.lf li)],[],[]⟩ (.lp [] ⟨[0,2,11,12],[(7,.lf li),(13,.lf li)],[],[]⟩ (.two (.reg [] [0,2,7,11,12,13,14] none []) (.two (.cond none (.nil) (.nil)) (.two (.thru (.two (.reg [] [0,2,7,9,11,12,13] none []) (.two (.reg [] [0,2,7,9,10,11,12,13] none []) (.two (.two (.reg [] [0,2,7,9,10,11,12,13,20] none []) (.cond (some ⟨[0,2,7,9,11,12,13],[(10,.lf li)],[],[]⟩) (.reg [] [0,2,7,9,10,11,12,13] none []) (.nil))) (.reg [] [0,2,7,11,12,13] none []))))) (.reg [] [0,2,7,11,12,13] none []))))))) (.two (.reg [] [6] none []) (.nil)))),⟨[.one Lf.ref,.one (Lf.row 3),.one li],[.one li]⟩⟩
def fe69:FE:=⟨36,[.tmp 4],.two (.reg [] [0,1] none []) (.two (.reg [] [0,1,5] none []) (.two (.two (.reg [] [1,5,8,9,10] none []) (.blk ⟨[],[(5,.own 0)],[],[(0,3,1,none)]⟩ (.lp [.mk 5 3 1] ⟨[1,8,9],[(5,.own 0),(10,.lf li)],[],[(0,3,1,none)]⟩ (.two (.reg [] [1,5,8,9,10,11] none []) (.two (.cond none (.nil) (.nil)) (.two (.thru (.two (.reg [] [1,5,6,7,8,9,10] none []) (.two (.reg [] [] (some ⟨[1,5,6,8,9,10],[(29,.lf lb)],[],[]⟩) []) (.cond (some ⟨[1,8,9,10],[(5,.own 0)],[],[(0,3,1,none)]⟩) (.reg [] [1,5,8,9,10] none []) (.nil))))) (.reg [] [1,5,8,9,10] none []))))))) (.two (.reg [] [4] none []) (.nil)))),⟨[.one (Lf.row 3),.one li],[.one (Lf.row 1)]⟩⟩
def fe72:FE:=⟨20,[.tmp 4,.tmp 5],.two (.reg [] [1,2] none []) (.two (.two (.reg [] [1,2,6] none []) (.two (.reg [] [1,2,6,11] none []) (.cond none (.two (.reg [] [4,5] none []) (.nil)) (.nil)))) (.two (.reg [] [1,7] none []) (.two (.two (.reg [] [7,18] none []) (.cond none (.two (.reg [] [4,5] none []) (.nil)) (.nil))) (.two (.reg [] [4,5] none []) (.nil))))),⟨[.agg [Lf.row 1,Lf.row 4],.one (Lf.row 1)],[.one Lf.raw,.one li]⟩⟩
def fe73:FE:=⟨6,[.tmp 4],.two (.reg [] [2,3] none []) (.two (.reg [] [4] none []) (.nil)),⟨[.one Lf.ref,.one (Lf.row 1)],[.one Lf.raw]⟩⟩
def fe74:FE:=⟨19,[.cell 6 22,.cell 7 4],.two (.reg [] [0,1,5,6,7] none []) (.two (.two (.reg [] [5,6,7,11] none []) (.rg (.lent 3 1) ⟨[5,6,7,11],[],[(0,3,[.lf li]),(1,22,[.lf (Lf.row 1)]),(2,4,[.lf lb])],[]⟩ (.reg [] [5,6,7,8] none []) (.thru (.two (.two (.reg [] [5,6,7,8,14] none []) (.cond none (.two (.reg [] [6,7] none [(some 16,⟨[6,7],[(16,.own 1)],[],[(1,3,1,none)]⟩,.two (.reg [] [0] none []) (.two (.two (.reg [] [0,4] none []) (.cond none (.two (.reg [] [2] none []) (.rt [.mk 2 3 1])) (.nil))) (.two (.reg [] [2] none []) (.nil))))]) (.nil)) (.nil))) (.reg [] [] none []))))) (.two (.reg [] [6,7] none []) (.nil))),⟨[.one Lf.ref,.one (Lf.row 1),.one li],[.one (Lf.row 1),.one lb]⟩⟩
def fe75:FE:=⟨81,[.tmp 6,.tmp 7],.two (.reg [] [0,1,2] none []) (.two (.reg [] [0,1,2,8] none [(some 12,⟨[0,1,2],[(12,.ptr 0 0)],[(0,133,[.own 0,.own 1])],[(0,3,1,none),(1,3,1,none)]⟩,.two (.reg [] [0] none []) (.two (.reg [] [0,3] none []) (.two (.reg [] [0,3] none []) (.two (.reg [] [2] none []) (.nil)))))]) (.two (.two (.reg [] [0,1,2,8,17] none []) (.cond none (.two (.reg [] [6,7] none []) (.nil)) (.nil))) (.two (.two (.reg [] [0,1,8,18,19,20] none []) (.blk ⟨[8],[],[],[(0,3,1,some 0),(1,3,1,some 0)]⟩ (.lp [] ⟨[0,1,8,18,19],[(20,.lf li)],[],[(0,3,1,some 0),(1,3,1,some 0)]⟩ (.two (.reg [] [0,1,8,18,19,20,21] none []) (.two (.cond none (.nil) (.nil)) (.two (.thru (.two (.reg [] [0,1,8,9,10,18,19,20] none []) (.two (.two (.reg [] [] (some ⟨[0,1,8,9,10,18,19,20],[(45,.lf lb)],[],[]⟩) [(some 43,⟨[0,1,8,9,10,18,19,20,35],[(43,.lf lb)],[],[]⟩,.two (.reg [] [0,1,2,3] none []) (.two (.reg [] [8] none []) (.nil)))]) (.cond none (.two (.reg [] [6,7] none []) (.nil)) (.nil))) (.two (.reg [] [0,1,8,9,10,18,19,20] none []) (.reg [] [0,1,8,18,19,20] none []))))) (.reg [] [0,1,8,18,19,20] none []))))))) (.two (.reg [] [6,7] none []) (.rt [.fz 0,.fz 1,.fb 0]))))),⟨[.one Lf.ref,.one (Lf.row 1),.one (Lf.row 1)],[.one Lf.raw,.one lb]⟩⟩
def fe81:FE:=⟨33,[.tmp 6,.tmp 7,.tmp 8],.two (.reg [] [1,2,3] none []) (.two (.reg [] [1,2,9,10] none []) (.two (.two (.reg [] [1,2,9,10,20] none []) (.cond none (.two (.reg [] [6,7,8] none []) (.nil)) (.nil))) (.two (.reg [] [9,11,12] none [(some 23,⟨[],[],[],[]⟩,.rf (some 9))]) (.two (.two (.reg [] [9,11,30] none []) (.cond none (.two (.reg [] [6,7,8] none []) (.nil)) (.nil))) (.two (.reg [] [6,7,8] none [(some 32,⟨[],[],[],[]⟩,.rf (some 11))]) (.nil)))))),⟨[.agg [Lf.row 1,Lf.row 4],.one (Lf.row 1),.one (Lf.row 1)],[.one Lf.raw,.one Lf.raw,.one li]⟩⟩
def fe83:FE:=⟨18,[.tmp 4],.two (.reg [] [0,1] none []) (.two (.reg [] [4] none []) (.nil)),⟨[.one Lf.ref,.one li],[.one lb]⟩⟩
def fe84:FE:=⟨41,[.tmp 8],.two (.reg [] [0,1,2,3] none []) (.two (.reg [] [8] none []) (.nil)),⟨[.one Lf.ref,.one Lf.ref,.one li,.one li],[.one lb]⟩⟩
def fe85:FE:=⟨25,[.tmp 4],.two (.reg [] [0,1] none []) (.two (.reg [] [0,1,5] none []) (.two (.two (.reg [] [0,5,8,9,10] none []) (.blk ⟨[],[(5,.lf li)],[],[]⟩ (.lp [] ⟨[0,8,9],[(5,.lf li),(10,.lf li)],[],[]⟩ (.two (.reg [] [0,5,8,9,10,11] none []) (.two (.cond none (.nil) (.nil)) (.two (.thru (.two (.reg [] [0,5,7,8,9,10] none []) (.reg [] [0,5,8,9,10] none []))) (.reg [] [0,5,8,9,10] none []))))))) (.two (.reg [] [4] none []) (.nil)))),⟨[.one Lf.ref,.one (Lf.row 1)],[.one li]⟩⟩
def fe87:FE:=⟨62,[.tmp 2],.two (.reg [] [1] none []) (.two (.reg [] [1,3] none []) (.two (.two (.reg [] [3,11,12,13] none []) (.blk ⟨[3],[],[(1,102,[.lf (Lf.row 1),.lf (Lf.row 4),.lf li,.lf li,.lf li,.lf li,.lf li,.lf li,.lf li,.lf li,.lf li,.lf li,.lf li,.lf li,.lf li,.lf li,.lf li,.lf li,.lf li,.lf li,.lf li,.lf li,.lf li,.lf li,.lf li,.lf li,.lf li,.lf li,.lf li,.lf li,.lf li,.lf li,.lf li,.lf li,.lf li,.lf li,.lf li,.lf li,.lf li,.lf li,.lf li,.lf li,.lf li,.lf li,.lf li,.lf li,.lf li,.lf li,.lf li,.lf li,.lf li,.lf li])],[]⟩ (.lp [] ⟨[3,11,12],[(13,.lf li)],[(1,102,[.lf (Lf.row 1),.lf (Lf.row 4),.lf li,.lf li,.lf li,.lf li,.lf li,.lf li,.lf li,.lf li,.lf li,.lf li,.lf li,.lf li,.lf li,.lf li,.lf li,.lf li,.lf li,.lf li,.lf li,.lf li,.lf li,.lf li,.lf li,.lf li,.lf li,.lf li,.lf li,.lf li,.lf li,.lf li,.lf li,.lf li,.lf li,.lf li,.lf li,.lf li,.lf li,.lf li,.lf li,.lf li,.lf li,.lf li,.lf li,.lf li,.lf li,.lf li,.lf li,.lf li,.lf li,.lf li])],[]⟩ (.two (.reg [] [3,11,12,13,14] none []) (.two (.cond none (.nil) (.nil)) (.two (.thru (.two (.reg [] [3,5,11,12,13] none []) (.two (.reg [] [] (some ⟨[3,5,11,12,13],[],[(1,102,[.lf (Lf.row 1),.lf (Lf.row 4),.lf li,.lf li,.lf li,.lf li,.lf li,.lf li,.lf li,.lf li,.lf li,.lf li,.lf li,.lf li,.lf li,.lf li,.lf li,.lf li,.lf li,.lf li,.lf li,.lf li,.lf li,.lf li,.lf li,.lf li,.lf li,.lf li,.lf li,.lf li,.lf li,.lf li,.lf li,.lf li,.lf li,.lf li,.lf li,.lf li,.lf li,.lf li,.lf li,.lf li,.lf li,.lf li,.lf li,.lf li,.lf li,.lf li,.lf li,.lf li,.lf li,.lf li])],[]⟩) []) (.two (.reg [] [3,5,11,12,13,24] none []) (.blk ⟨[3,11,12,13],[],[(1,102,[.lf (Lf.row 1),.lf (Lf.row 4),.lf li,.lf li,.lf li,.lf li,.lf li,.lf li,.lf li,.lf li,.lf li,.lf li,.lf li,.lf li,.lf li,.lf li,.lf li,.lf li,.lf li,.lf li,.lf li,.lf li,.lf li,.lf li,.lf li,.lf li,.lf li,.lf li,.lf li,.lf li,.lf li,.lf li,.lf li,.lf li,.lf li,.lf li,.lf li,.lf li,.lf li,.lf li,.lf li,.lf li,.lf li,.lf li,.lf li,.lf li,.lf li,.lf li,.lf li,.lf li,.lf li,.lf li])],[]⟩ (.lp [] ⟨[3,5,11,12,13],[(24,.lf li)],[(1,102,[.lf (Lf.row 1),.lf (Lf.row 4),.lf li,.lf li,.lf li,.lf li,.lf li,.lf li,.lf li,.lf li,.lf li,.lf li,.lf li,.lf li,.lf li,.lf li,.lf li,.lf li,.lf li,.lf li,.lf li,.lf li,.lf li,.lf li,.lf li,.lf li,.lf li,.lf li,.lf li,.lf li,.lf li,.lf li,.lf li,.lf li,.lf li,.lf li,.lf li,.lf li,.lf li,.lf li,.lf li,.lf li,.lf li,.lf li,.lf li,.lf li,.lf li,.lf li,.lf li,.lf li,.lf li,.lf li])],[]⟩ (.two (.reg [] [3,5,11,12,13,24,25] none []) (.two (.cond none (.nil) (.nil)) (.two (.thru (.two (.reg [] [3,5,6,11,12,13,24] none []) (.two (.reg [] [3,5,6,11,12,13,24,32] none []) (.cond (some ⟨[3,5,11,12,13,24],[],[(1,102,[.lf (Lf.row 1),.lf (Lf.row 4),.lf li,.lf li,.lf li,.lf li,.lf li,.lf li,.lf li,.lf li,.lf li,.lf li,.lf li,.lf li,.lf li,.lf li,.lf li,.lf li,.lf li,.lf li,.lf li,.lf li,.lf li,.lf li,.lf li,.lf li,.lf li,.lf li,.lf li,.lf li,.lf li,.lf li,.lf li,.lf li,.lf li,.lf li,.lf li,.lf li,.lf li,.lf li,.lf li,.lf li,.lf li,.lf li,.lf li,.lf li,.lf li,.lf li,.lf li,.lf li,.lf li,.lf li])],[]⟩) (.two (.reg [] [] (some ⟨[3,5,6,11,12,13,24],[],[(1,102,[.lf (Lf.row 1),.lf (Lf.row 4),.lf li,.lf li,.lf li,.lf li,.lf li,.lf li,.lf li,.lf li,.lf li,.lf li,.lf li,.lf li,.lf li,.lf li,.lf li,.lf li,.lf li,.lf li,.lf li,.lf li,.lf li,.lf li,.lf li,.lf li,.lf li,.lf li,.lf li,.lf li,.lf li,.lf li,.lf li,.lf li,.lf li,.lf li,.lf li,.lf li,.lf li,.lf li,.lf li,.lf li,.lf li,.lf li,.lf li,.lf li,.lf li,.lf li,.lf li,.lf li,.lf li,.lf li])],[]⟩) []) (.reg [] [] (some ⟨[3,5,11,12,13,24],[],[(1,102,[.lf (Lf.row 1),.lf (Lf.row 4),.lf li,.lf li,.lf li,.lf li,.lf li,.lf li,.lf li,.lf li,.lf li,.lf li,.lf li,.lf li,.lf li,.lf li,.lf li,.lf li,.lf li,.lf li,.lf li,.lf li,.lf li,.lf li,.lf li,.lf li,.lf li,.lf li,.lf li,.lf li,.lf li,.lf li,.lf li,.lf li,.lf li,.lf li,.lf li,.lf li,.lf li,.lf li,.lf li,.lf li,.lf li,.lf li,.lf li,.lf li,.lf li,.lf li,.lf li,.lf li,.lf li,.lf li])],[]⟩) [])) (.nil))))) (.reg [] [3,5,11,12,13,24] none [])))))))))) (.reg [] [3,11,12,13] none []))))))) (.two (.reg [] [2] none []) (.nil)))),⟨[.agg [Lf.row 1,Lf.row 4]],[.one Lf.ref]⟩⟩
def fe88:FE:=⟨17,[.tmp 6],.two (.reg [] [0,1,2] none []) (.two (.reg [] [6] none []) (.nil)),⟨[.one Lf.ref,.one li,.one li],[.one lb]⟩⟩
def fe90:FE:=⟨9,[.tmp 4],.two (.reg [] [0,1] none []) (.two (.reg [] [4] none []) (.nil)),⟨[.one (Lf.row 1),.one Lf.raw],[.one lb]⟩⟩
def fe91:FE:=⟨6,[.tmp 2],.two (.reg [] [0] none []) (.two (.reg [] [2] none []) (.nil)),⟨[.one li],[.one lb]⟩⟩
def fe92:FE:=⟨27,[.tmp 2],.two (.reg [] [1] none []) (.two (.reg [] [2] none []) (.nil)),⟨[.agg [li,li,li,li]],[.one lb]⟩⟩
def fe93:FE:=⟨6,[.tmp 4],.two (.reg [] [2,3] none []) (.two (.reg [] [4] none []) (.nil)),⟨[.one li,.one li],[.one Lf.raw]⟩⟩
def fe110:FE:=⟨9,[.tmp 4],.two (.reg [] [0,1] none []) (.two (.reg [] [4] none []) (.nil)),⟨[.one (Lf.row 3),.one Lf.raw],[.one lb]⟩⟩
def fe111:FE:=⟨8,[.tmp 3],.two (.reg [] [1,2] none []) (.two (.reg [] [3] none [(some 4,⟨[],[],[],[]⟩,.rf none)]) (.nil)),⟨[.agg [li,li,li],.one Lf.ref],[.one lb]⟩⟩
def fe112:FE:=⟨26,[.tmp 4],.two (.reg [] [0,3] none []) (.two (.reg [] [4] none []) (.nil)),⟨[.one Lf.ref,.agg [li,li,li]],[.one lb]⟩⟩
def fe115:FE:=⟨14,[.tmp 4],.two (.reg [] [1,2] none []) (.two (.reg [] [4] none []) (.nil)),⟨[.one Lf.ref,.one (Lf.row 1)],[.one lb]⟩⟩
def fe120:FE:=⟨19,[.tmp 4],.two (.reg [] [0,1] none []) (.two (.two (.reg [] [0,1,7,8] none []) (.blk ⟨[],[],[],[]⟩ (.lp [] ⟨[0,1,7],[(8,.lf li)],[],[]⟩ (.two (.reg [] [0,1,7,8,9] none []) (.two (.cond none (.nil) (.nil)) (.two (.thru (.two (.reg [] [0,1,5,7,8] none []) (.two (.reg [] [0,1,5,7,8,16] none []) (.cond none (.two (.reg [] [4] none []) (.nil)) (.nil))))) (.reg [] [0,1,7,8] none []))))))) (.two (.reg [] [4] none []) (.nil))),⟨[.one (Lf.row 1),.one Lf.raw],[.one li]⟩⟩
def fe124:FE:=⟨24,[.tmp 4],.two (.reg [] [1,2] none []) (.two (.reg [] [1,2,5] none []) (.two (.two (.reg [] [2,5,8,9,10] none []) (.blk ⟨[],[(5,.own 0)],[],[(0,3,1,none)]⟩ (.lp [.mk 5 3 1] ⟨[2,8,9],[(5,.own 0),(10,.lf li)],[],[(0,3,1,none)]⟩ (.two (.reg [] [2,5,8,9,10,11] none []) (.two (.cond none (.nil) (.nil)) (.two (.thru (.two (.reg [] [2,5,7,8,9,10] none []) (.reg [] [2,5,8,9,10] none []))) (.reg [] [2,5,8,9,10] none []))))))) (.two (.reg [] [4] none []) (.nil)))),⟨[.agg [Lf.raw,Lf.row 1,Lf.raw],.one (Lf.row 1)],[.one (Lf.row 1)]⟩⟩
def fe128:FE:=⟨19,[.tmp 4],.two (.reg [] [0,1] none []) (.two (.two (.reg [] [0,1,7,8] none []) (.blk ⟨[],[],[],[]⟩ (.lp [] ⟨[0,1,7],[(8,.lf li)],[],[]⟩ (.two (.reg [] [0,1,7,8,9] none []) (.two (.cond none (.nil) (.nil)) (.two (.thru (.two (.reg [] [0,1,5,7,8] none []) (.two (.reg [] [0,1,5,7,8,16] none []) (.cond none (.two (.reg [] [4] none []) (.nil)) (.nil))))) (.reg [] [0,1,7,8] none []))))))) (.two (.reg [] [4] none []) (.nil))),⟨[.one (Lf.row 3),.one Lf.raw],[.one li]⟩⟩
def fe140:FE:=⟨8,[.tmp 3],.two (.reg [] [0,1] none []) (.two (.reg [] [3] none [(some 4,⟨[],[],[],[]⟩,.rf none)]) (.nil)),⟨[.one li,.one Lf.ref],[.one lb]⟩⟩
def fe76:FE:=⟨8,[.tmp 2],.two (.reg [] [0] none []) (.two (.two (.reg [] [0,4] none []) (.cond none (.two (.reg [] [2] none []) (.rt [.mk 2 3 1])) (.nil))) (.two (.reg [] [2] none []) (.nil))),⟨[.one (Lf.row 1)],[.one (Lf.row 1)]⟩⟩
noncomputable def tb:List (Nat×FE×Code):=[(3,fe3,bodyOf Try.f3),(8,fe8,bodyOf Try.f8),(14,fe14,bodyOf Try.f14),(15,fe15,bodyOf Try.f15),(16,fe16,bodyOf Try.f16),(17,fe17,bodyOf Try.f17),(18,fe18,bodyOf Try.f18),(19,fe19,bodyOf Try.f19),(20,fe20,bodyOf Try.f20),(21,fe21,bodyOf Try.f21),(22,fe22,bodyOf Try.f22),(23,fe23,bodyOf Try.f23),(24,fe24,bodyOf Try.f24),(25,fe25,bodyOf Try.f25),(26,fe26,bodyOf Try.f26),(33,fe33,bodyOf Try.f33),(39,fe39,bodyOf Try.f39),(40,fe40,bodyOf Try.f40),(45,fe45,bodyOf Try.f45),(46,fe46,bodyOf Try.f46),(48,fe48,bodyOf Try.f48),(49,fe49,bodyOf Try.f49),(54,fe54,bodyOf Try.f54),(63,fe63,bodyOf Try.f63),(64,fe64,bodyOf Try.f64),(65,fe65,bodyOf Try.f65),(66,fe66,bodyOf Try.f66),(67,fe67,bodyOf Try.f67),(68,fe68,bodyOf Try.f68),(69,fe69,bodyOf Try.f69),(72,fe72,bodyOf Try.f72),(73,fe73,bodyOf Try.f73),(74,fe74,bodyOf Try.f74),(75,fe75,bodyOf Try.f75),(81,fe81,bodyOf Try.f81),(83,fe83,bodyOf Try.f83),(84,fe84,bodyOf Try.f84),(85,fe85,bodyOf Try.f85),(87,fe87,bodyOf Try.f87),(88,fe88,bodyOf Try.f88),(90,fe90,bodyOf Try.f90),(91,fe91,bodyOf Try.f91),(92,fe92,bodyOf Try.f92),(93,fe93,bodyOf Try.f93),(110,fe110,bodyOf Try.f110),(111,fe111,bodyOf Try.f111),(112,fe112,bodyOf Try.f112),(115,fe115,bodyOf Try.f115),(120,fe120,bodyOf Try.f120),(124,fe124,bodyOf Try.f124),(128,fe128,bodyOf Try.f128),(140,fe140,bodyOf Try.f140)]
noncomputable abbrev sg:FuncId→Option Sig:=sgOf tb
end Go.Proofs.Ythkfohoccnnphaa
namespace Go.Proofs.Ythkfohoccnnphaa
open Go Go.Sx
abbrev n_law05_PenFodder:Nat:=3
abbrev n_law05_PenMore:Nat:=8
abbrev n_law05_sane:Nat:=15
abbrev n_law05_mod:Nat:=16
abbrev n_pen_Eaten:Nat:=17
abbrev n_pen_Lasts:Nat:=19
abbrev n_pen_Full:Nat:=20
abbrev n_law05_right:Nat:=22
abbrev n_pen_Count:Nat:=23
abbrev n_pen_Place:Nat:=24
abbrev n_pen_CheckPlace:Nat:=25
abbrev n_pen_Fewest:Nat:=26
abbrev n_r05_Same:Nat:=33
abbrev n_pen_Take:Nat:=39
abbrev n_pen_Add:Nat:=40
abbrev n_pen_CheckYard:Nat:=45
abbrev n_r05_CheckYard:Nat:=46
abbrev n_r05_CheckSorts:Nat:=48
abbrev n_pen_Refuse:Nat:=49
abbrev n_pen_Free:Nat:=54
abbrev n_r05_kind:Nat:=63
abbrev n_r05_within:Nat:=64
abbrev n_law05_yard:Nat:=65
abbrev n_pen_staying:Nat:=66
abbrev n_pen_in:Nat:=67
abbrev n___pen_pound__eaten:Nat:=68
abbrev n_pen_there:Nat:=69
abbrev n_pen_asked:Nat:=72
abbrev n___pen_pound__all:Nat:=73
abbrev n___pen_pound__nth:Nat:=74
abbrev n___pen_pound__fill:Nat:=75
abbrev n_pen_placed:Nat:=81
abbrev n_slices_Delete_int:Nat:=82
abbrev n___pen_pound__has:Nat:=83
abbrev n___pen_pound__takes:Nat:=84
abbrev n___pen_pound__room:Nat:=85
abbrev n_pen_newPound:Nat:=87
abbrev n___pen_pound__parts:Nat:=88
abbrev n_slices_ContainsFunc_int:Nat:=90
abbrev n_pen_CheckYard_c1:Nat:=91
abbrev n_pen_isKind:Nat:=92
abbrev n_pen_lists:Nat:=93
abbrev n_slices_ContainsFunc_Stay:Nat:=110
abbrev n_pen_staying_c1:Nat:=111
abbrev n___pen_pound__isStay:Nat:=112
abbrev n___pen_pound__areSorts:Nat:=115
abbrev n___pen_pound__all_c1:Nat:=116
abbrev n_slices_IndexFunc_int:Nat:=120
abbrev n_pen_lists_c1:Nat:=121
abbrev n__pen_plea__of:Nat:=124
abbrev n_slices_IndexFunc_Stay:Nat:=128
abbrev n___pen_pound__areSorts_c1:Nat:=140
end Go.Proofs.Ythkfohoccnnphaa
namespace Go.Proofs.Ythkfohoccnnphaa
open Go Go.Sx
abbrev ITS:=List (Nat×(List CV→Option (List CV)))
noncomputable def D (its:ITS) (n:Nat):Den:=den Try.prog tb its n
end Go.Proofs.Ythkfohoccnnphaa
