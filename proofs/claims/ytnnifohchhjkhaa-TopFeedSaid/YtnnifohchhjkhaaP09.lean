/-
 What the beasts of a pound have lU by their pens is what they are charged for, and those who stand in the pens are those who are inside: at every input, without any condition.
-/
import Derived.KernelRfl
import Derived.OpenShut
import Derived.ProofKit
import Derived.SizedLaws
import Derived.Test.YtnnifohchhjkhaaProg
import Derived.Test.YtnnifohchhjkhaaP08
namespace Go.Pen
open Go.Sx
def st (f:Nat→Int):List CV:=(List.range 50).map fun j=>ci (f j)
def SE (f:Nat→Int) (s r t p:Int):Nat→Int:=fun j =>
 if decide (j+2=(((2+(s.toNat*4))+1)+1)+1)=true then p else if decide (j+2=((2+(s.toNat*4))+1)+1)=true then t else if decide (j+2=(2+(s.toNat*4))+1)=true then r else if decide (j+2=2+(s.toNat*4))=true then s else f j
def SF (f:Nat→Int) (m:Nat) (x:Int):Nat→Int:=fun j=>if decide (j+2=42+m*1)=true then x else f j
def inner (k:Kd) (f:Nat→Int) (s:Nat):Nat→Int:=
 if bit k.apart s=true then
  let f1:=SF f k.sort.toNat (orI (f (40+k.sort.toNat)) s)
  SF f1 s (orI (f1 (40+s)) k.sort.toNat)
 else f
def HM (f:Nat→Int) (k:Kd):Nat→Int:=(List.range 10).foldl (inner k) (SE f k.sort k.room k.eats k.apart)
def pf (y:Yard):Nat→Int:=y.kinds.foldl HM fun _=>0
def pc (y:Yard):List CV:=.row 1 y.ps::.row 4 y.ks::st (pf y)
theorem VB (f:Nat→Int) (m:Nat) (x:Int) (j:Nat):SF f m x j=if j=40+m then x else f j:=by
 unfold SF
 by_cases h:j=40+m
 ·rw [if_pos (by simp;omega),if_pos h]
 ·rw [if_neg (by simp;omega),if_neg h]
def isM (x:Int) (p:Nat→Prop):Prop:=∃ m:Nat,x=m∧m<1024∧∀ b,b<10→(m.testBit b=true↔p b)
theorem isM.congr {x:Int} {p q:Nat→Prop} (h:isM x p) (e:∀ b,b<10→(p b↔q b)):isM x q:=by
 obtain ⟨m,h1,h2,h3⟩:=h
 exact ⟨m,h1,h2,fun b hb=>(h3 b hb).trans (e b hb)⟩
theorem aEM {x:Int} {p:Nat→Prop} (h:isM x p) {c:Nat} (hc:c<10):isM (orI x c) fun b=>p b∨b=c:=by
 obtain ⟨m,rfl,h2,h3⟩:=h
 obtain ⟨e1,e2⟩:=UZ m c h2 (by omega)
 refine ⟨m ||| 2 ^ c,e1,e2,fun b hb=>?_⟩
 rw [VA,Bool.or_eq_true,h3 b hb,decide_eq_true_eq]
 exact or_congr Iff.rfl ⟨fun h=>h.symm,fun h=>h.symm⟩
def zI (f:Nat→Int) (p:Nat→Nat→Prop):Prop:=∀ s,s<10→isM (f (40+s)) (p s)
theorem DH {f:Nat→Int} {p:Nat→Nat→Prop} (h:zI f p) {s c:Nat} (hs:s<10) (hc:c<10) :
  zI (SF f s (orI (f (40+s)) c)) fun a b=>p a b∨a=s∧b=c:=by
 intro a ha
 rw [VB]
 by_cases e:a=s
 ·subst e
  rw [if_pos rfl]
  exact (aEM (h a ha) hc).congr fun b _=>by simp
 ·rw [if_neg (by omega)]
  exact (h a ha).congr fun b _=>by simp [e]
theorem YK (k:Kd) (f:Nat→Int) (s j:Nat) (hj:j<40):inner k f s j=f j:=by
 unfold inner
 split
 ·simp only [VB]
  rw [if_neg (by omega),if_neg (by omega)]
 ·rfl
theorem OB {k:Kd} (h1:k.sort.toNat<10) {f:Nat→Int} {p:Nat→Nat→Prop} (h:zI f p) {s:Nat} (hs:s<10) :
  zI (inner k f s) fun a b=>p a b∨bit k.apart s=true∧(a=k.sort.toNat∧b=s∨a=s∧b=k.sort.toNat):=by
 unfold inner
 split
 ·rename_i hb
  have h2:=DH (DH h h1 hs) hs h1
  intro a ha
  exact (h2 a ha).congr fun b _=>by simp [hb,or_assoc]
 ·rename_i hb
  intro a ha
  exact (h a ha).congr fun b _=>by simp [hb]
theorem OC (k:Kd):∀ (l:List Nat) (f:Nat→Int) (j:Nat),j<40→l.foldl (inner k) f j=f j
 | [],_,_,_=>rfl
 | s::l,f,j,hj=>by rw [List.foldl_cons,OC k l _ j hj,YK k f s j hj]
theorem DI {k:Kd} (h1:k.sort.toNat<10):∀ (l:List Nat) (f:Nat→Int) (p:Nat→Nat→Prop),(∀ s∈l,s<10)→zI f p →
  zI (l.foldl (inner k) f) fun a b=>p a b∨∃ s∈l,bit k.apart s=true∧(a=k.sort.toNat∧b=s∨a=s∧b=k.sort.toNat)
 | [],f,p,_,h=>fun a ha=>(h a ha).congr fun b _=>by simp
 | s::l,f,p,hl,h=>by
  have:=DI h1 l _ _ (fun s hs=>hl s (by simp [hs])) (OB h1 h (hl s (by simp)))
  intro a ha
  exact (this a ha).congr fun b _=>by simp [or_assoc]
theorem aC5 (f:Nat→Int) (k:Kd) (h0:0≤k.sort) {a c:Nat} (hc:c<4):SE f k.sort k.room k.eats k.apart (4*a+c)=if a=k.sort.toNat then [k.sort,k.room,k.eats,k.apart].getD c 0 else f (4*a+c):=by
 unfold SE
 simp only [decide_eq_true_eq]
 by_cases e:a=k.sort.toNat
 ·rw [if_pos e]
  match c,hc with
  | 0,_=>rw [if_neg (by omega),if_neg (by omega),if_neg (by omega),if_pos (by omega)];rfl
  | 1,_=>rw [if_neg (by omega),if_neg (by omega),if_pos (by omega)];rfl
  | 2,_=>rw [if_neg (by omega),if_pos (by omega)];rfl
  | 3,_=>rw [if_pos (by omega)];rfl
 ·rw [if_neg e,if_neg (by omega),if_neg (by omega),if_neg (by omega),if_neg (by omega)]
theorem YL (f:Nat→Int) (k:Kd) (h1:k.sort.toNat<10) {j:Nat} (hj:40≤j):SE f k.sort k.room k.eats k.apart j=f j:=by
 unfold SE
 simp only [decide_eq_true_eq]
 rw [if_neg (by omega),if_neg (by omega),if_neg (by omega),if_neg (by omega)]
structure Inv (ks:List Kd) (f:Nat→Int):Prop where
 low:∀ a c,a<10→c<4→f (4*a+c)=match ks.find? (fun k=>k.sort == (a:Int)) with | some k=>[k.sort,k.room,k.eats,k.apart].getD c 0 | none=>0
 msk:zI f fun a b=>∃ k∈ks,bit k.apart b=true∧a=k.sort.toNat∨bit k.apart a=true∧b=k.sort.toNat
theorem Inv.step {ks:List Kd} {f:Nat→Int} (h:Inv ks f) {k:Kd} (h0:1≤k.sort) (h1:k.sort≤9) (hne:∀ x∈ks,x.sort≠k.sort):Inv (ks++[k]) (HM f k):=by
 have hs:k.sort.toNat<10:=by omega
 constructor
 ·intro a c ha hc
  unfold HM
  rw [OC k _ _ _ (by omega),aC5 f k (by omega) hc,List.find?_append]
  by_cases e:a=k.sort.toNat
  ·rw [if_pos e]
   have:ks.find? (fun x=>x.sort == (a:Int))=none:=by
    rw [List.find?_eq_none]
    intro x hx hh
    have:=hne x hx
    simp only [beq_iff_eq] at hh
    omega
   have e2:k.sort=(a:Int):=by omega
   rw [this,Option.none_or,List.find?_cons_of_pos (by simp [e2])]
  ·rw [if_neg e,h.low a c ha hc]
   have:([k].find? fun x=>x.sort == (a:Int))=none:=by
    rw [List.find?_eq_none]
    intro x hx hh
    rw [List.mem_singleton] at hx
    subst hx
    simp only [beq_iff_eq] at hh
    omega
   rw [this,Option.or_none]
 ·have hm:zI (SE f k.sort k.room k.eats k.apart) fun a b=>∃ k∈ks,bit k.apart b=true∧a=k.sort.toNat∨bit k.apart a=true∧b=k.sort.toNat:=by
   intro a ha
   rw [YL f k hs (by omega)]
   exact h.msk a ha
  have h2:=DI hs (List.range 10) _ _ (fun s h=>List.mem_range.1 h) hm
  intro a ha
  refine (h2 a ha).congr fun b hb=>?_
  simp only [List.mem_append,List.mem_singleton,List.mem_range]
  constructor
  ·rintro (⟨x,hx,hh⟩ | ⟨s,hs',hb',hh⟩)
   ·exact ⟨x,Or.inl hx,hh⟩
   ·refine ⟨k,Or.inr rfl,?_⟩
    rcases hh with ⟨rfl,rfl⟩ | ⟨rfl,rfl⟩
    ·exact Or.inl ⟨hb',rfl⟩
    ·exact Or.inr ⟨hb',rfl⟩
  ·rintro ⟨x,hx | rfl,hh⟩
   ·exact Or.inl ⟨x,hx,hh⟩
   ·right
    rcases hh with ⟨hh,rfl⟩ | ⟨hh,rfl⟩
    ·exact ⟨b,hb,hh,Or.inl ⟨rfl,rfl⟩⟩
    ·exact ⟨a,ha,hh,Or.inr ⟨rfl,rfl⟩⟩
theorem Inv.zero:Inv [] fun _=>0:=by
 constructor
 ·intro a c _ _;rfl
 ·intro a _
  exact ⟨0,rfl,by decide,fun b _=>by simp⟩
theorem yA:∀ {l:List Int} {x:Int},rising (x::l)=true→∀ z∈l,x<z
 | [],_,_,z,hz=>by simp at hz
 | a::l,x,h,z,hz=>by
  simp only [rising,Bool.and_eq_true,decide_eq_true_eq] at h
  rcases List.mem_cons.1 hz with rfl | hz
  ·exact h.1
  ·have:=yA (x:=a) (by simp only [rising,Bool.and_eq_true];exact h.2) z hz
   omega
theorem Inv.all:∀ {ks:List Kd} {pre:List Kd} {f:Nat→Int},Inv pre f→(∀ k∈ks,1≤k.sort∧k.sort≤9)→rising (ks.map Kd.sort)=true→(∀ x∈pre,∀ k∈ks,x.sort<k.sort)→Inv (pre++ks) (ks.foldl HM f)
 | [],pre,f,h,_,_,_=>by simpa using h
 | k::ks,pre,f,h,h1,h2,h3=>by
  have hk:=h1 k (by simp)
  have:=Inv.all (ks:=ks) (h.step hk.1 hk.2 fun x hx=>by have:=h3 x hx k (by simp);omega) (fun z hz=>h1 z (by simp [hz]))
   (by simp only [List.map_cons,rising,Bool.and_eq_true] at h2;exact h2.2)
   (by
    intro x hx z hz
    rcases List.mem_append.1 hx with hx | hx
    ·exact h3 x hx z (by simp [hz])
    ·rw [List.mem_singleton] at hx
     subst hx
     exact yA h2 z.sort (List.mem_map.2 ⟨z,hz,rfl⟩))
  simpa using this
theorem aBk {y:Yard} (h:y.ok=true):Inv y.kinds (pf y):=by
 unfold Yard.ok at h
 simp only [Bool.and_eq_true,List.all_eq_true] at h
 have:=Inv.all (ks:=y.kinds) Inv.zero (fun k hk=>by
  have:=h.1.2 k hk
  simp only [Kd.ok,within,Bool.and_eq_true,decide_eq_true_eq] at this
  omega) h.2 (by simp)
 unfold pf
 simpa using this
theorem aC6 {y:Yard} (h:y.ok=true) {a c:Nat} (ha:a<10) (hc:c<4):pf y (4*a+c)=[(kd y a).sort,(kd y a).room,(kd y a).eats,(kd y a).apart].getD c 0:=by
 rw [(aBk h).low a c ha hc]
 unfold kd kindOf
 cases hf:y.kinds.find? (fun k=>k.sort == (a:Int)) with
 | some k=>rfl
 | none =>
  match c,hc with
  | 0,_=>rfl
  | 1,_=>rfl
  | 2,_=>rfl
  | 3,_=>rfl
theorem aBl {y:Yard} (h:y.ok=true) {k:Kd} (hk:k∈y.kinds):kd y k.sort=k:=by
 unfold Yard.ok at h
 simp only [Bool.and_eq_true] at h
 have hr:=h.2
 unfold kd kindOf
 have key:∀ (ks:List Kd),rising (ks.map Kd.sort)=true→k∈ks→ks.find? (fun x=>x.sort == k.sort)=some k:=by
  intro ks
  induction ks with
  | nil=>intro _ h;simp at h
  | cons x ks ih =>
   intro hr hm
   rcases List.mem_cons.1 hm with rfl | hm
   ·rw [List.find?_cons_of_pos (by simp)]
   ·have:=yA hr k.sort (List.mem_map.2 ⟨k,hm,rfl⟩)
    rw [List.find?_cons_of_neg (by simp;omega)]
    exact ih (by simp only [List.map_cons,rising,Bool.and_eq_true] at hr;exact hr.2) hm
 rw [key _ hr hk];rfl
theorem vW {y:Yard} {a:Int} (h:has y a=true):kd y a∈y.kinds∧(kd y a).sort=a:=by
 unfold has at h
 obtain ⟨k,hk⟩:=Option.isSome_iff_exists.1 h
 unfold kd
 rw [hk]
 exact ⟨List.mem_of_find?_eq_some hk,by simpa using List.find?_some hk⟩
theorem BJ {y:Yard} {a:Int} (h:has y a=false):kd y a=kz:=by
 unfold has at h
 unfold kd
 cases hk:kindOf y a with
 | none=>rfl
 | some k=>rw [hk] at h;cases h
theorem KD {y:Yard} (h:y.ok=true) {a:Nat} (ha:a<10):isM (pf y (40+a)) fun b=>apt y a b=true:=by
 refine ((aBk h).msk a ha).congr fun b hb=>?_
 have hk9:∀ k∈y.kinds,1≤k.sort∧k.sort≤9:=fun k hk=>by
  unfold Yard.ok at h
  simp only [Bool.and_eq_true,List.all_eq_true,Kd.ok,within,decide_eq_true_eq] at h
  have:=(h.1.2 k hk).1.1.1.1
  omega
 unfold apt
 rw [Bool.or_eq_true]
 constructor
 ·rintro ⟨k,hk,⟨h1,h2⟩ | ⟨h1,h2⟩⟩
  ·have:=hk9 k hk
   left
   rw [show ((a:Nat):Int)=k.sort by omega,aBl h hk];exact h1
  ·have:=hk9 k hk
   right
   rw [show ((b:Nat):Int)=k.sort by omega,aBl h hk];exact h1
 ·rintro (hh | hh)
  ·cases hs:has y a with
   | false=>rw [BJ hs] at hh;simp [bit,kz] at hh
   | true =>
    obtain ⟨h1,h2⟩:=vW hs
    exact ⟨_,h1,Or.inl ⟨hh,by rw [h2];simp⟩⟩
  ·cases hs:has y b with
   | false=>rw [BJ hs] at hh;simp [bit,kz] at hh
   | true =>
    obtain ⟨h1,h2⟩:=vW hs
    exact ⟨_,h1,Or.inr ⟨hh,by rw [h2];simp⟩⟩
end Go.Pen
namespace Go.Pen
open Go.Sx
theorem SG {step:List CV→Option Ou} (n:Nat) (T:Nat→List CV) (p:Nat→Bool) (R:Nat→Option Ou) (X:Option Ou) {vs:List CV} (hv:vs=T 0) (hR:∀ i l,R i≠some (.nx l)) (hX:∀ l,X≠some (.nx l))
  (h1:∀ i,i<n→(∀ j,j<i→p j=false)→p i=false→step (T i)=some (.nx (T (i+1)))) (h2:∀ i,i<n→(∀ j,j<i→p j=false)→p i=true→step (T i)=R i) (h3:(∀ j,j<n→p j=false)→step (T n)=X) :
  aG step vs=match (List.range n).find? p with
   | some i=>R i
   | none=>X:=by
 subst hv
 have to:∀ m,m≤n→(∀ j,j<m→p j=false)→aG step (T 0)=aG step (T m):=by
  intro m
  induction m with
  | zero=>intro _ _;rfl
  | succ m ih =>
   intro hm hj
   rw [ih (by omega) fun j h=>hj j (by omega)]
   exact eA (h1 m (by omega) (fun j h=>hj j (by omega)) (hj m (by omega)))
 cases hf:(List.range n).find? p with
 | none =>
  rw [List.find?_eq_none] at hf
  have hall:∀ j,j<n→p j=false:=fun j hj=>by simpa using hf j (by simpa using hj)
  rw [to n (Nat.le_refl _) hall]
  exact bS (h3 hall) hX
 | some i =>
  rw [List.find?_range_eq_some] at hf
  obtain ⟨hp,hi,hq⟩:=hf
  have hi':i<n:=by simpa using hi
  have hall:∀ j,j<i→p j=false:=fun j hj=>by simpa using hq j hj
  rw [to i (by omega) hall]
  exact bS (h2 i hi' hall hp) (hR i)
theorem aC7 {y:Yard} {z w:BP} (h:okZ y (z++w)=true):okZ y z=true:=by
 induction w generalizing z with
 | nil=>simpa using h
 | cons a w ih =>
  have h1:okZ y (z++[a])=true:=ih (z:=z++[a]) (by simpa using h)
  rw [qN,Bool.and_eq_true] at h1
  exact h1.1
theorem aBm {y:Yard} {z:BP} (h:okZ y z=true) (i:Nat):okZ y (z.take i)=true:=aC7 (w:=z.drop i) (by rw [List.take_append_drop];exact h)
def gB:BP→Int→Nat
 | [],_=>0
 | (s,q)::z,pen=>if q=pen then gB z pen ||| 2 ^ s.toNat else gB z pen
theorem SH (z:BP) (s q pen:Int):gB (z++[(s,q)]) pen=if q=pen then gB z pen ||| 2 ^ s.toNat else gB z pen:=by
 induction z with
 | nil=>simp [gB]
 | cons a z ih =>
  obtain ⟨t,r⟩:=a
  simp only [List.cons_append,gB,ih]
  split <;> split <;> try rfl
  rw [Nat.or_assoc,Nat.or_assoc,Nat.or_comm (2 ^ s.toNat)]
theorem OD {z:BP} (h:∀ x∈z,x.1≤9) (pen:Int):gB z pen<1024:=by
 induction z with
 | nil=>simp [gB]
 | cons a z ih =>
  obtain ⟨t,r⟩:=a
  have h1:=ih fun x hx=>h x (by simp [hx])
  have h2:t≤9:=h (t,r) (by simp)
  simp only [gB]
  split
  ·exact Nat.or_lt_two_pow (n:=10) h1 (Nat.pow_lt_pow_right (by decide) (by omega))
  ·exact h1
theorem DJ (z:BP) (pen:Int) (b:Nat):(gB z pen).testBit b=true↔∃ x∈z,x.2=pen∧x.1.toNat=b:=by
 induction z with
 | nil=>simp [gB]
 | cons a z ih =>
  obtain ⟨t,r⟩:=a
  simp only [gB,List.mem_cons,exists_eq_or_imp]
  split
  ·rename_i e;rw [VA,Bool.or_eq_true,ih,decide_eq_true_eq];simp [e,or_comm]
  ·rename_i e;rw [ih];simp [e]
theorem DK {y:Yard} (hy:y.ok=true) {z:BP} (hz:∀ x∈z,1≤x.1∧x.1≤9) {s q:Int} (hs:1≤s∧s≤9) (hq:within q 0 ((y.pens.length:Int) - 1)=true) {a:Int} (ha:isM a fun b=>apt y s b=true) :
  zE y z s q=(decide (rm y s≤y.pens.getD q.toNat 0 - load y z q)&&((wr (Int.ofNat (bAN a (gB z q:Int)))) == 0)):=by
 obtain ⟨m,rfl,hm,hb⟩:=ha
 replace hb:∀ b:Nat,b<10→(m.testBit b=true↔apt y s b=true):=hb
 unfold zE
 rw [hq,Bool.true_and,FJ m _ hm (OD (fun x hx=>(hz x hx).2) q)]
 congr 1
 ·rw [Bool.eq_iff_iff,decide_eq_true_eq,decide_eq_true_eq];omega
 ·rw [Bool.eq_iff_iff,List.all_eq_true,List.all_eq_true]
  simp only [List.mem_range,Bool.not_eq_true',Bool.and_eq_false_iff,beq_eq_false_iff_ne]
  constructor
  ·intro h i hi
   cases hc:m.testBit i with
   | false=>exact Or.inl rfl
   | true =>
    right
    rw [Bool.eq_false_iff]
    intro ht
    obtain ⟨x,hx,e1,e2⟩:=(DJ z q i).1 ht
    have h1:=(hb i hi).1 hc
    have:=h x hx
    have e3:((i:Nat):Int)=x.1:=by have:=hz x hx;omega
    rw [e3,vS] at h1
    rcases this with h2 | h2
    ·exact h2 e1
    ·rw [h1] at h2;cases h2
  ·intro h x hx
   by_cases e:x.2=q
   ·right
    have hr:=hz x hx
    have h1:=h x.1.toNat (by omega)
    rw [Bool.eq_false_iff]
    intro ht
    rw [vS] at ht
    rcases h1 with h1 | h1
    ·have:=(hb x.1.toNat (by omega)).2 (by rw [show ((x.1.toNat:Nat):Int)=x.1 by omega];exact ht)
     rw [this] at h1;cases h1
    ·have:=(DJ z q x.1.toNat).2 ⟨x,hx,e,rfl⟩
     rw [this] at h1;cases h1
   ·exact Or.inl e
theorem DL {y:Yard} (h:y.ok=true) {i:Nat} (hi:i<y.pens.length):0≤y.pens[i]∧y.pens[i]≤1000:=by
 unfold Yard.ok at h
 simp only [Bool.and_eq_true,List.all_eq_true,within,decide_eq_true_eq] at h
 exact h.1.1.2 _ (List.getElem_mem hi)
theorem OE {y:Yard} (h:y.ok=true) (z:BP) (j:Int):0≤load y z j:=by
 induction z with
 | nil=>simp [load]
 | cons a z ih =>
  obtain ⟨s,q⟩:=a
  simp only [load]
  have:=nP h s
  split <;> omega
def iR (y:Yard) (z:BP):List Int:=(List.range y.pens.length).map fun j=>y.pens.getD j 0 - load y z j
def iS (y:Yard) (z:BP):List Int:=(List.range y.pens.length).map fun (j:Nat)=>(gB z j:Int)
theorem YM (y:Yard):iR y []=y.pens:=by
 unfold iR
 apply List.ext_getElem (by simp)
 intro i h1 h2
 simp [load,h2]
theorem SI (y:Yard) (z:BP) (s:Int) {q:Nat} (hq:q<y.pens.length):iR y (z++[(s,(q:Int))])=(iR y z).set q (y.pens[q] - load y z q - rm y s):=by
 unfold iR
 apply List.ext_getElem (by simp)
 intro i h1 h2
 have hi:i<y.pens.length:=by simpa using h1
 rw [List.getElem_set]
 simp only [List.getElem_map,List.getElem_range,zF,load,Int.add_zero]
 by_cases e:q=i
 ·subst e
  rw [if_pos rfl,if_pos rfl]
  simp [hi];omega
 ·rw [if_neg e,if_neg (by omega)];omega
theorem SJ (y:Yard) (z:BP) (s:Int) {q:Nat} (hq:q<y.pens.length):iS y (z++[(s,(q:Int))])=(iS y z).set q ((gB z q ||| 2 ^ s.toNat:Nat):Int):=by
 unfold iS
 apply List.ext_getElem (by simp)
 intro i h1 h2
 rw [List.getElem_set]
 simp only [List.getElem_map,List.getElem_range,SH]
 by_cases e:q=i
 ·subst e
  rw [if_pos rfl,if_pos rfl]
 ·rw [if_neg e,if_neg (by omega)]
theorem HN {y:Yard} {z:BP} {q:Nat} (hq:q<(iR y z).length):(iR y z)[q]=y.pens.getD q 0 - load y z q:=by simp [iR]
theorem HO {y:Yard} {z:BP} {q:Nat} (hq:q<(iS y z).length):(iS y z)[q]=(gB z q:Int):=by simp [iS]
@[simp] theorem HP (y:Yard) (z:BP):(iR y z).length=y.pens.length:=by simp [iR]
@[simp] theorem HQ (y:Yard) (z:BP):(iS y z).length=y.pens.length:=by simp [iS]
theorem YN (y:Yard):ints (iS y [])=List.replicate y.pens.length [ci 0]:=by
 unfold iS ints
 apply List.ext_getElem (by simp)
 intro i h1 h2
 simp [gB]
theorem ints_set (l:List Int) (i:Nat) (x:Int):(ints l).set i [ci x]=ints (l.set i x):=by simp [ints,List.map_set]
end Go.Pen
namespace Go.Pen
open Go.Sx
theorem cE {A S:Type} {step:List CV→Option Ou} (l:List A) (E:Nat→S→List CV) (f:S→A→S) (P:Nat→S→Prop) (b:Nat) (G:S→List CV) (s:S) {vs:List CV} (hv:vs=E 0 s) (h0:P 0 s)
  (hs:∀ i (h:i<l.length) s,P i s→step (E i s)=some (.nx (E (i+1) (f s l[i])))∧P (i+1) (f s l[i])) (he:∀ s,P l.length s→step (E l.length s)=some (.br b (G s))) :
  aG step vs=some (.br b (G (l.foldl f s)))∧P l.length (l.foldl f s):=by
 subst hv
 have key:∀ n,n≤l.length→aG step (E 0 s)=aG step (E n ((l.take n).foldl f s))∧P n ((l.take n).foldl f s):=by
  intro n
  induction n with
  | zero=>intro _;exact ⟨by simp,by simpa using h0⟩
  | succ n ih =>
   intro hn
   obtain ⟨h1,h2⟩:=ih (by omega)
   obtain ⟨h3,h4⟩:=hs n (by omega) _ h2
   have e:(l.take (n+1)).foldl f s=f ((l.take n).foldl f s) l[n]:=by
    rw [← List.take_append_getElem (show n<l.length by omega),List.foldl_append];rfl
   rw [e]
   exact ⟨h1.trans (eA h3),h4⟩
 obtain ⟨h1,h2⟩:=key l.length (Nat.le_refl _)
 rw [List.take_length] at h1 h2
 exact ⟨h1.trans (bS (he _ h2) (by simp)),h2⟩
def mY (y:Yard) (s:Stay):Bool:=has y s.sort&&within s.inn 0 100000&&(decide (s.out=-1) || within s.out s.inn 100000)
def mN (y:Yard) (l:List Stay):Bool:=decide (l.length≤40)&&l.all (mY y)
def eU (y:Yard) (l:List Stay):Int:=if y.ok then (if mN y l then 0 else 55) else 50
def mO (d:Int) (s:Stay):Bool:=decide (s.inn≤d)&&(decide (s.out=-1) || decide (d<s.out))
def places {A:Type} (p:A→Bool):List A→Int→List Int
 | [],_=>[]
 | a::l,i=>if p a=true then i::places p l (i+1) else places p l (i+1)
theorem zJ {A:Type} (p:A→Bool) (a:A):∀ (l:List A) (i:Int),places p (l++[a]) i=places p l i++if p a=true then [i+l.length] else []
 | [],i=>by simp only [List.nil_append,places,List.length_nil];split <;> simp
 | b::l,i=>by
  have e:i+1+(l.length:Int)=i+((b::l).length:Int):=by simp;omega
  simp only [List.cons_append,places,zJ p a l (i+1),e]
  split <;> simp
theorem tX {A:Type} (p:A→Bool):∀ (l:List A) (i:Int),(places p l i).length≤l.length
 | [],_=>by simp [places]
 | a::l,i=>by
  have:=tX p l (i+1)
  simp only [places]
  split <;> simp <;> omega
def mP (l:List Stay) (d:Int):List Int:=places (mO d) l 0
def eats (y:Yard) (d:Int) (s:Stay):Int:=(kd y s.sort).eats*max 0 ((if s.out=-1 then d else min d (s.out - 1)) - s.inn+1)
def lU (y:Yard) (l:List Stay) (d:Int):Int:=l.foldl (fun n s=>n+eats y d s) 0
theorem SK {y:Yard} (h:y.ok=true) {s:Stay} (hs:mY y s=true) {d:Int} (h0:-1≤d) (h1:d≤200000):0≤eats y d s∧eats y d s≤300000000:=by
 unfold mY within at hs
 simp only [Bool.and_eq_true,Bool.or_eq_true,decide_eq_true_eq] at hs
 have hm:=(vW hs.1.1).1
 unfold Yard.ok at h
 simp only [Bool.and_eq_true,List.all_eq_true,Kd.ok,within,decide_eq_true_eq] at h
 obtain ⟨e0,e1⟩:=(h.1.2 _ hm).1.1.2
 unfold eats
 generalize (kd y s.sort).eats=e at e0 e1
 have hx:0≤max 0 ((if s.out=-1 then d else min d (s.out - 1)) - s.inn+1)∧max 0 ((if s.out=-1 then d else min d (s.out - 1)) - s.inn+1)≤300000:=by split <;> omega
 generalize max 0 ((if s.out=-1 then d else min d (s.out - 1)) - s.inn+1)=x at hx
 refine ⟨Int.mul_nonneg e0 hx.1,?_⟩
 calc e*x≤1000*x:=Int.mul_le_mul_of_nonneg_right e1 hx.1
  _≤300000000:=by omega
end Go.Pen
namespace Go.Pen
open Go.Sx
def rls (n:Nat):Nat→Nat→List (List Int)
 | 0,_=>[[]]
 | k+1,frm=>(List.range' frm (n - frm)).flatMap fun (i:Nat)=>(rls n k (i+1)).map fun l=>(i:Int)::l
theorem BK {n:Nat}:∀ {k frm:Nat} {x:List Int},x∈rls n k frm↔x.length=k∧x.Pairwise (·<·)∧∀ e∈x,(frm:Int)≤e∧e<n
 | 0,frm,x=>by
  simp only [rls,List.mem_singleton]
  constructor
  ·rintro rfl;simp
  ·rintro ⟨h,_⟩;exact List.length_eq_zero_iff.1 h
 | k+1,frm,x=>by
  simp only [rls,List.mem_flatMap,List.mem_map,List.mem_range'_1]
  constructor
  ·rintro ⟨i,⟨h1,h2⟩,l,hl,rfl⟩
   obtain ⟨e1,e2,e3⟩:=BK.1 hl
   refine ⟨by simp [e1],?_,?_⟩
   ·rw [List.pairwise_cons]
    exact ⟨fun a ha=>by have:=e3 a ha;omega,e2⟩
   ·intro e he
    rcases List.mem_cons.1 he with rfl | he
    ·omega
    ·have:=e3 e he;omega
  ·rintro ⟨h1,h2,h3⟩
   cases x with
   | nil=>simp at h1
   | cons a l =>
    rw [List.pairwise_cons] at h2
    have ha:=h3 a (by simp)
    refine ⟨a.toNat,by omega,l,BK.2 ⟨by simpa using h1,h2.2,fun e he=>?_⟩,by congr 1;omega⟩
    have:=h2.1 e he
    have:=h3 e (by simp [he])
    omega
def DM (y:Yard) (s:Int):Bool:=y.pens.all fun n=>!decide (rm y s≤n)
def total (y:Yard):Int:=y.pens.foldl (fun n x=>n+x) 0
def ofL (l by_:List Int):List Int:=by_.map fun i=>l.getD i.toNat 0
def tY (y:Yard) (l by_:List Int):Bool:=decide (HJ y (ofL l by_) > total y)
def DN (y:Yard) (b:List Int):Bool:=(List.range b.length).all fun i=>(List.range i).all fun j=>apt y (b.getD i 0) (b.getD j 0)
def many (y:Yard) (l by_:List Int):Bool:=DN y (ofL l by_)&&decide (by_.length=y.pens.length+1)
def lV (y:Yard) (l by_:List Int):Bool:=!can y (ofL l by_)
def big (y:Yard) (l by_:List Int):Bool:=decide (by_.length=1)&&DM y (l.getD (by_.headD 0).toNat 0)
def least (ill:List Int→Bool):Nat→List Int→List Int
 | 0,b=>b
 | i+1,b=>least ill i (if ill (b.eraseIdx i)=true then b.eraseIdx i else b)
def idx (l:List Int):List Int:=(List.range l.length).map fun (i:Nat)=>(i:Int)
def refuse (y:Yard) (l:List Int):Int×List Int×Int:=
 if can y l=true then (0,[],3) else
 match (rls l.length 1 0).find? (big y l) with
 | some b=>(1,b,0)
 | none=>if tY y l (idx l)=true then (2,least (tY y l) l.length (idx l),0) else
  match (rls l.length (y.pens.length+1) 0).find? (many y l) with
  | some b=>(3,b,0)
  | none=>(4,least (lV y l) l.length (idx l),0)
def inR (l b:List Int):Prop:=∀ i∈b,0≤i∧i<l.length
theorem nT {l b:List Int} (h:inR l b) (i:Nat):inR l (b.eraseIdx i):=fun x hx=>h x (List.mem_of_mem_eraseIdx hx)
theorem BL (l:List Int):inR l (idx l):=by
 intro i hi
 obtain ⟨j,hj,rfl⟩:=List.mem_map.1 hi
 rw [List.mem_range] at hj
 omega
theorem VC {l b:List Int} (h:inR l b) {s:Int} (hs:s∈ofL l b):s∈l:=by
 obtain ⟨i,hi,rfl⟩:=List.mem_map.1 hs
 have:=h i hi
 have hlt:i.toNat<l.length:=by omega
 simp only [List.getD_eq_getElem?_getD,List.getElem?_eq_getElem hlt,Option.getD_some]
 exact List.getElem_mem hlt
theorem mQ (l b:List Int):(ofL l b).length=b.length:=by simp [ofL]
theorem aC8 (l:List Int):ofL l (idx l)=l:=by
 unfold ofL idx
 rw [List.map_map]
 apply List.ext_getElem (by simp)
 intro i h1 h2
 simp [h2]
end Go.Pen
namespace Go.Pen
open Go.Sx
instance:Inhabited Stay:=⟨⟨0,0,0⟩⟩
def aEN (s:Stay):List Int:=if s.out=-1 then [s.inn] else [s.inn,s.out]
def days (l:List Stay):List Int:=l.flatMap aEN
end Go.Pen
namespace Go.Pen
open Go Go.Sx
def rowA {K V:Type} (kc:K→List CV) (vc:V→CV) (az:List (K×V)):List (List CV):=az.map fun e=>kc e.1++[vc e.2]
theorem yB {K V:Type} {kc:K→List CV} {vc:V→CV} (k:K) (v:V) (r:List (K×V)):rowA kc vc ((k,v)::r)=(kc k++[vc v])::rowA kc vc r:=rfl
section
variable {K V:Type} [DecidableEq K]
def pR:List (K×V)→K→Option V
 | [],_=>none
 | (k',v)::r,k=>if k=k' then some v else pR r k
def vX:List (K×V)→K→V→List (K×V)
 | [],k,v=>[(k,v)]
 | (k',v')::r,k,v=>if k=k' then (k,v)::r else (k',v')::vX r k v
theorem HR (k:K) (v:V) (q:K):∀ az:List (K×V),pR (vX az k v) q=if q=k then some v else pR az q
 | []=>by simp [vX,pR]
 | (k',v')::r=>by
  simp only [vX]
  split
  ·rename_i h;subst h
   simp only [pR]
   split <;> simp_all
  ·rename_i h
   simp only [pR,HR k v q r]
   split
   ·rename_i h2;subst h2
    rw [if_neg (fun e=>h e.symm)]
   ·rfl
structure MapC (n:Nat) (kc:K→List CV) (ok:K→Prop):Prop where
 len:∀ k,ok k→(kc k).length=n
 eq:∀ k k',ok k→ok k'→eqB ((kc k).map cvV) ((kc k').map cvV)=decide (k=k')
variable {n:Nat} {kc:K→List CV} {vc:V→CV} {ok:K→Prop}
theorem MapC.pos (h:MapC n kc ok) {k:K} (hk:ok k):∀ {az:List (K×V)},(∀ e∈az,ok e.1)→(bD n (kc k) (rowA kc vc az)<(rowA kc vc az).length↔(pR az k).isSome=true)
 | [],_=>by simp [rowA,bD,pR]
 | (k',v)::r,ha=>by
  have hk':=ha (k',v) (by simp)
  have ih:=h.pos hk (az:=r) fun e he=>ha e (by simp [he])
  have ht:(kc k'++[vc v]).take n=kc k':=by rw [List.take_append_of_le_length (by rw [h.len k' hk'];omega),← h.len k' hk',List.take_length]
  simp only [rowA,List.map_cons,bD,ht,h.eq k k' hk hk',pR,List.length_cons]
  by_cases e:k=k'
  ·simp [e]
  ·simp only [e,decide_false,Bool.false_eq_true,if_false]
   rw [← ih]
   simp only [rowA]
   omega
theorem MapC.look (h:MapC n kc ok) {k:K} (hk:ok k) (z:Value):∀ {az:List (K×V)},(∀ e∈az,ok e.1)→bO n (kc k) z (rowA kc vc az)=match pR az k with | some v=>vc v | none=>.val z
 | [],_=>by simp [rowA,bO,bD,pR]
 | (k',v)::r,ha=>by
  have hk':=ha (k',v) (by simp)
  have ih:=h.look hk z (az:=r) fun e he=>ha e (by simp [he])
  have ht:(kc k'++[vc v]).take n=kc k':=by rw [List.take_append_of_le_length (by rw [h.len k' hk'];omega),← h.len k' hk',List.take_length]
  unfold bO at ih ⊢
  simp only [rowA,List.map_cons,bD,ht,h.eq k k' hk hk',pR]
  by_cases e:k=k'
  ·simp only [e,decide_true,if_true,List.getD_cons_zero]
   rw [List.getD_eq_getElem?_getD,List.getElem?_append_right (by rw [h.len k' hk'];omega),h.len k' hk']
   simp
  ·simp only [e,decide_false,Bool.false_eq_true,if_false,List.getD_cons_succ]
   exact ih
theorem MapC.upd (h:MapC n kc ok) {k:K} (hk:ok k) (v:V):∀ {az:List (K×V)},(∀ e∈az,ok e.1)→mV n (kc k) (vc v) (rowA kc vc az)=rowA kc vc (vX az k v)
 | [],_=>by simp [rowA,mV,bD,vX]
 | (k',v')::r,ha=>by
  have hk':=ha (k',v') (by simp)
  have ih:=h.upd hk v (az:=r) fun e he=>ha e (by simp [he])
  have ht:(kc k'++[vc v']).take n=kc k':=by rw [List.take_append_of_le_length (by rw [h.len k' hk'];omega),← h.len k' hk',List.take_length]
  unfold mV at ih ⊢
  simp only [yB,bD,ht,h.eq k k' hk hk',vX,List.length_cons]
  by_cases e:k=k'
  ·subst e
   simp [yB]
  ·simp only [e,decide_false,Bool.false_eq_true,if_false,yB]
   by_cases hp:bD n (kc k) (rowA kc vc r)<(rowA kc vc r).length
   ·rw [if_pos hp] at ih
    rw [if_pos (by omega),List.set_cons_succ,ih]
   ·rw [if_neg hp] at ih
    rw [if_neg (by omega),List.cons_append,ih]
theorem VD {k:K} (hk:ok k) (v:V):∀ {az:List (K×V)},(∀ e∈az,ok e.1)→∀ e∈vX az k v,ok e.1
 | [],_=>by simp [vX,hk]
 | (k',v')::r,ha=>by
  simp only [vX]
  split
  ·intro e he
   rcases List.mem_cons.1 he with rfl | he
   ·exact hk
   ·exact ha e (by simp [he])
  ·intro e he
   rcases List.mem_cons.1 he with rfl | he
   ·exact ha _ (by simp)
   ·exact VD hk v (fun e he=>ha e (by simp [he])) e he
end
theorem OF:∀ (l m:List Int),l.length=m.length→eqB ((l.map ci).map cvV) ((m.map ci).map cvV)=decide (l=m)
 | [],[],_=>by simp [eqB]
 | a::l,b::m,h=>by
  simp only [List.map_cons,eqB,OF l m (by simpa using h),ci,cvV,vEq]
  rw [Bool.eq_iff_iff]
  simp
theorem yC (n:Nat):MapC n (fun l:List Int=>l.map ci) fun l=>l.length=n:=
 ⟨fun k h=>by simpa using h,fun k k' h h'=>OF k k' (h.trans h'.symm)⟩
theorem aBn {K:Type} {kc:K→List CV} {kl:List LK} {az:List (K×Bool)} (h:∀ e∈az,(kc e.1).map kC=kl.map some):AH kl .bool (rowA kc cb az)=true:=by
 unfold AH rowA
 rw [List.all_eq_true]
 intro e he
 obtain ⟨a,ha,rfl⟩:=List.mem_map.1 he
 rw [beq_iff_eq,List.map_append,h a ha,List.map_append]
 rfl
theorem aC9 {l:List Int} {n:Nat} (h:l.length=n):(l.map ci).map kC=(List.replicate n (LK.int .i64)).map some:=by
 rw [List.map_map,List.map_replicate,← h]
 apply List.ext_getElem (by simp)
 intro i h1 h2
 simp [kC,ci,kOf]
end Go.Pen
namespace Go.Pen
open Go.Sx
def pF {A:Type} (f:A→Int):List A→Int
 | []=>0
 | a::l=>f a+pF f l
theorem qR {A:Type} (f:A→Int):∀ (l:List A) (a:Int),l.foldl (fun n s=>n+f s) a=a+pF f l
 | [],a=>by simp [pF]
 | x::l,a=>by rw [List.foldl_cons,qR f l];simp only [pF];omega
end Go.Pen
namespace Go.Pen
open Go.Sx
end Go.Pen
namespace Go.Pen
open Go.Sx
theorem YO {y:Yard} (hr:∀ s,0≤rm y s) {z w:BP} (h:z.Sublist w) (q:Int):load y z q≤load y w q:=by
 induction h with
 | slnil=>exact Int.le_refl _
 | cons a _ ih =>
  obtain ⟨s,r⟩:=a
  simp only [load]
  have:=hr s
  split <;> omega
 | cons_cons a _ ih =>
  obtain ⟨s,r⟩:=a
  simp only [load]
  omega
theorem YP {y:Yard} (hr:∀ s,0≤rm y s) {z w:BP} (h:z.Sublist w) (hw:Good y w):Good y z:=by
 refine ⟨fun x hx=>?_,hw.2.sublist h⟩
 have h1:=hw.1 x (h.subset hx)
 exact ⟨h1.1,Int.le_trans (YO hr h x.2) h1.2⟩
theorem aBo {A B:Type} {l w:List A} (h:l.Sublist w):∀ p:List B,p.length=w.length→∃ q:List B,q.length=l.length∧(l.zip q).Sublist (w.zip p):=by
 induction h with
 | slnil=>intro p _;exact ⟨[],rfl,by simp⟩
 | cons a _ ih =>
  intro p hp
  cases p with
  | nil=>simp at hp
  | cons b p =>
   obtain ⟨q,h1,h2⟩:=ih p (by simpa using hp)
   exact ⟨q,h1,by simpa using h2.cons (a,b)⟩
 | cons_cons a _ ih =>
  intro p hp
  cases p with
  | nil=>simp at hp
  | cons b p =>
   obtain ⟨q,h1,h2⟩:=ih p (by simpa using hp)
   exact ⟨b::q,by simp [h1],by simpa using h2⟩
theorem SL {y:Yard} (hr:∀ s,0≤rm y s) (l:List Int):can y l=true↔∃ p:List Int,p.length=l.length∧Good y (l.zip p):=by
 have h1:can y l=true↔PL y l≠[]:=by unfold can;cases PL y l <;> simp
 rw [h1]
 constructor
 ·intro h
  obtain ⟨p,hp⟩:=List.exists_mem_of_ne_nil _ h
  obtain ⟨h2,h3⟩:=qO.1 hp
  unfold okP at h3
  rw [Bool.and_eq_true] at h3
  exact ⟨p,h2,(BI hr _ _ rfl).1 h3.2⟩
 ·rintro ⟨p,h2,h3⟩
  refine List.ne_nil_of_mem (qO.2 ⟨h2,?_⟩)
  unfold okP
  rw [Bool.and_eq_true,decide_eq_true_eq]
  exact ⟨by omega,(BI hr _ _ rfl).2 h3⟩
theorem aBp {y:Yard} (hr:∀ s,0≤rm y s) {l w:List Int} (h:l.Sublist w) (hw:can y w=true):can y l=true:=by
 rw [SL hr] at hw ⊢
 obtain ⟨p,h1,h2⟩:=hw
 obtain ⟨q,h3,h4⟩:=aBo h p h1
 exact ⟨q,h3,YP hr h4 h2⟩
end Go.Pen
namespace Go.Pen
open Go.Sx
theorem OG {l:List Int}:∀ {b:List Int} {frm:Nat},b.Pairwise (·<·)→(∀ i∈b,(frm:Int)≤i∧i<l.length)→(ofL l b).Sublist (l.drop frm)
 | [],_,_,_=>List.nil_sublist _
 | a::b,frm,h1,h2=>by
  rw [List.pairwise_cons] at h1
  obtain ⟨ha1,ha2⟩:=h2 a (by simp)
  have ih:=OG (l:=l) (b:=b) (frm:=a.toNat+1) h1.2 fun i hi=>by have:=h1.1 i hi;have:=h2 i (by simp [hi]);omega
  have hlt:a.toNat<l.length:=by omega
  have e:l.drop a.toNat=l[a.toNat]::l.drop (a.toNat+1):=List.drop_eq_getElem_cons hlt
  have hs:(ofL l (a::b)).Sublist (l.drop a.toNat):=by
   rw [e]
   have:ofL l (a::b)=l[a.toNat]::ofL l b:=by simp [ofL,hlt]
   rw [this]
   exact ih.cons_cons _
  have hd:l.drop a.toNat=(l.drop frm).drop (a.toNat - frm):=by rw [List.drop_drop];congr 1;omega
  rw [hd] at hs
  exact hs.trans (List.drop_sublist _ _)
theorem VE {l b:List Int} (h1:b.Pairwise (·<·)) (h2:inR l b):(ofL l b).Sublist l:=OG (frm:=0) h1 h2
theorem OH {y:Yard} (h:y.ok=true):∀ x∈y.pens,0≤x:=by
 unfold Yard.ok at h
 simp only [Bool.and_eq_true,List.all_eq_true,within,decide_eq_true_eq] at h
 exact fun x hx=>(h.1.1.2 x hx).1
theorem OI {y:Yard} (hr:∀ s,0≤rm y s) {s q:Int}:∀ {z:BP},(s,q)∈z→rm y s≤load y z q
 | (a,r)::z,h=>by
  have h0:0≤load y z q:=by
   clear h
   induction z with
   | nil=>simp [load]
   | cons x z ih=>obtain ⟨c,d⟩:=x;simp only [load];have:=hr c;split <;> omega
  simp only [load]
  rcases List.mem_cons.1 h with h | h
  ·cases h;simp;omega
  ·have:=OI hr h
   have:=hr a
   split <;> omega
theorem aHl {y:Yard} (hr:∀ s,0≤rm y s) {l:List Int} {s:Int} (hs:s∈l) (hb:DM y s=true):can y l=false:=by
 rw [Bool.eq_false_iff]
 intro hc
 obtain ⟨p,h1,h2⟩:=(SL hr l).1 hc
 obtain ⟨i,hi,rfl⟩:=List.getElem_of_mem hs
 have hm:(l[i],p[i]'(by omega))∈l.zip p:=List.mem_iff_getElem.2 ⟨i,by simp;omega,by simp⟩
 obtain ⟨h3,h4⟩:=h2.1 _ hm
 have h5:=OI hr hm
 simp only [within,Bool.and_eq_true,decide_eq_true_eq] at h3
 simp only [] at h4
 have hq:(p[i]'(by omega)).toNat<y.pens.length:=by omega
 unfold DM at hb
 rw [List.all_eq_true] at hb
 have:=hb y.pens[(p[i]'(by omega)).toNat] (List.getElem_mem hq)
 simp only [Bool.not_eq_true',decide_eq_false_iff_not] at this
 rw [List.getD_eq_getElem?_getD,List.getElem?_eq_getElem hq,Option.getD_some] at h4
 omega
theorem YQ (y:Yard) (l:List Int):HJ y l=pF (rm y) l:=by
 unfold HJ;rw [qR];omega
theorem YR (y:Yard):total y=pF (fun x=>x) y.pens:=by
 unfold total;rw [qR];omega
def upto (f:Nat→Int):Nat→Int
 | 0=>0
 | n+1=>upto f n+f n
theorem aBq (f g:Nat→Int):∀ n,upto (fun i=>f i+g i) n=upto f n+upto g n
 | 0=>rfl
 | n+1=>by simp only [upto,aBq f g n];omega
theorem aBr (c:Int) (q:Int):∀ n:Nat,upto (fun i=>if q=(i:Int) then c else 0) n=if 0≤q∧q<n then c else 0
 | 0=>by simp only [upto];rw [if_neg (by omega)]
 | n+1=>by
  simp only [upto,aBr c q n]
  by_cases h:0≤q∧q<n
  ·rw [if_pos h,if_neg (by omega),if_pos (by omega)];omega
  ·rw [if_neg h]
   by_cases h2:q=n
   ·rw [if_pos h2,if_pos (by omega)];omega
   ·rw [if_neg h2,if_neg (by omega)];rfl
theorem KE:∀ (n:Nat) (p:List Int),p.Nodup→(∀ x∈p,0≤x∧x<n)→p.length≤n
 | 0,p,_,h=>by
  cases p with
  | nil=>simp
  | cons a p=>have:=h a (by simp);omega
 | n+1,p,hp,h=>by
  by_cases hm:(n:Int)∈p
  ·have h1:=KE n (p.erase (n:Int)) (hp.erase _) fun x hx=>by
    obtain ⟨h2,h3⟩:=(hp.mem_erase_iff).1 hx
    have:=h x h3
    omega
   rw [List.length_erase_of_mem hm] at h1
   omega
  ·have h1:=KE n p hp fun x hx=>by
    have:=h x hx
    have:x≠n:=fun e=>hm (e▸hx)
    omega
   omega
theorem aHb {y:Yard} (hr:∀ s,0≤rm y s) {l:List Int} (ha:DN y l=true) (hl:l.length=y.pens.length+1):can y l=false:=by
 rw [Bool.eq_false_iff]
 intro hc
 obtain ⟨p,h1,h2⟩:=(SL hr l).1 hc
 have hnd:p.Nodup:=by
  rw [List.Nodup,List.pairwise_iff_getElem]
  intro i j hi hj hij he
  have hg:=List.pairwise_iff_getElem.1 h2.2 i j (by simp;omega) (by simp;omega) hij
  refine hg ⟨by simpa using he,?_⟩
  unfold DN at ha
  simp only [List.all_eq_true,List.mem_range] at ha
  have:=ha j (by omega) i hij
  rw [vS] at this
  simpa [show i<l.length by omega,show j<l.length by omega] using this
 have hin:∀ x∈p,0≤x∧x<(y.pens.length:Int):=by
  intro x hx
  obtain ⟨i,hi,rfl⟩:=List.getElem_of_mem hx
  have hm:(l[i]'(by omega),p[i])∈l.zip p:=List.mem_iff_getElem.2 ⟨i,by simp;omega,by simp⟩
  have:=(h2.1 _ hm).1
  simp only [within,Bool.and_eq_true,decide_eq_true_eq] at this
  omega
 have:=KE _ p hnd hin
 omega
def ill (y:Yard) (l:List Int) (k:Int) (b:List Int):Bool:=if k=1 then big y l b else if k=2 then tY y l b else if k=3 then many y l b else lV y l b
def OJ (l b:List Int) (i:Nat):Bool:=!within (b.getD i 0) 0 ((l.length:Int) - 1) || (decide (0<i)&&decide (b.getD (i - 1) 0≥b.getD i 0))
def lW (l b:List Int):Bool:=(List.range b.length).all fun i=>!OJ l b i
def less (y:Yard) (l:List Int) (k:Int) (b:List Int):Bool:=(List.range b.length).any fun i=>ill y l k (b.eraseIdx i)
def mZ (y:Yard) (l:List Int) (k:Int) (b:List Int):Bool:=
 lW l b&&(within k 1 4&&decide (b.length≠0)&&ill y l k b)&&!(decide (k=2∨k=4)&&less y l k b)
def vY (y:Yard) (l:List Int) (k:Int) (b:List Int):Int:=if asked y l=0 then (if mZ y l k b=true then 0 else 54) else asked y l
theorem HS {l b:List Int} (h:lW l b=true):b.Pairwise (·<·)∧inR l b:=by
 unfold lW OJ at h
 simp only [List.all_eq_true,List.mem_range,Bool.not_eq_true',Bool.or_eq_false_iff,Bool.and_eq_false_iff,Bool.not_eq_false',within,Bool.and_eq_true,decide_eq_true_eq,decide_eq_false_iff_not] at h
 have hg:∀ i (hi:i<b.length),b.getD i 0=b[i]:=fun i hi=>by simp [hi]
 constructor
 ·rw [List.pairwise_iff_getElem]
  intro i j hi hj hij
  obtain ⟨k,rfl⟩:∃ k,j=i+1+k:=⟨j - i - 1,by omega⟩
  induction k with
  | zero =>
   have:=(h (i+1) (by omega)).2
   rw [show i+1 - 1=i by omega,hg i hi,hg (i+1) hj] at this
   simp only [Nat.add_zero]
   omega
  | succ k ih =>
   have h1:=ih (by omega) (by omega)
   have:=(h (i+1+(k+1)) hj).2
   rw [show i+1+(k+1) - 1=i+1+k by omega,hg (i+1+k) (by omega),hg _ hj] at this
   omega
 ·intro x hx
  obtain ⟨i,hi,rfl⟩:=List.getElem_of_mem hx
  have:=(h i hi).1
  rw [hg i hi] at this
  omega
theorem HU {l b:List Int} (h1:b.Pairwise (·<·)) (h2:inR l b):lW l b=true:=by
 unfold lW OJ
 have hg:∀ i (hi:i<b.length),b.getD i 0=b[i]:=fun i hi=>by simp [hi]
 simp only [List.all_eq_true,List.mem_range,Bool.not_eq_true',Bool.or_eq_false_iff,Bool.and_eq_false_iff,Bool.not_eq_false',within,Bool.and_eq_true,decide_eq_true_eq,decide_eq_false_iff_not]
 intro i hi
 have h3:=h2 _ (List.getElem_mem hi)
 refine ⟨by rw [hg i hi];omega,?_⟩
 by_cases h0:0<i
 ·right
  have:=List.pairwise_iff_getElem.1 h1 (i - 1) i (by omega) hi (by omega)
  rw [hg i hi,hg (i - 1) (by omega)]
  omega
 ·left;exact h0
theorem aBs {A:Type}:∀ {b:List A} {i j:Nat},i≤j→((b.eraseIdx i).eraseIdx j).Sublist (b.eraseIdx (j+1))
 | [],_,_,_=>by simp
 | a::b,0,j,_=>by simp
 | a::b,i+1,0,h=>by omega
 | a::b,i+1,j+1,h=>by
  simp only [List.eraseIdx_cons_succ]
  exact (aBs (b:=b) (by omega)).cons_cons a
theorem fN {f:List Int→Bool} (hm:∀ a b:List Int,a.Sublist b→f a=true→f b=true):∀ (k:Nat) (b:List Int),f b=true→(∀ j,k≤j→j<b.length→f (b.eraseIdx j)=false) →
  (least f k b).Sublist b∧f (least f k b)=true∧∀ j,j<(least f k b).length→f ((least f k b).eraseIdx j)=false
 | 0,b,h1,h2=>⟨List.Sublist.refl _,h1,fun j hj=>h2 j (by omega) hj⟩
 | i+1,b,h1,h2=>by
  simp only [least]
  by_cases hc:f (b.eraseIdx i)=true
  ·rw [if_pos hc]
   have:=fN hm i (b.eraseIdx i) hc fun j hij hj=>by
    by_cases hib:i<b.length
    ·rw [List.length_eraseIdx_of_lt hib] at hj
     have h3:=h2 (j+1) (by omega) (by omega)
     rw [Bool.eq_false_iff] at h3 ⊢
     exact fun h=>h3 (hm _ _ (aBs hij) h)
    ·rw [List.eraseIdx_of_length_le (by omega)] at hj
     omega
   exact ⟨this.1.trans (List.eraseIdx_sublist _ _),this.2⟩
  ·rw [if_neg hc]
   refine fN hm i b h1 fun j hij hj=>?_
   by_cases hji:j=i
   ·subst hji;simpa using hc
   ·exact h2 j (by omega) hj
theorem SM {f:Int→Int} (hf:∀ x,0≤f x) {a b:List Int} (h:a.Sublist b):pF f a≤pF f b:=by
 induction h with
 | slnil=>exact Int.le_refl _
 | cons x _ ih=>simp only [pF];have:=hf x;omega
 | cons_cons x _ ih=>simp only [pF];omega
theorem vZ {l a b:List Int} (h:a.Sublist b):(ofL l a).Sublist (ofL l b):=h.map _
theorem YS {y:Yard} (hr:∀ s,0≤rm y s) {l a b:List Int} (h:a.Sublist b) (hm:tY y l a=true):tY y l b=true:=by
 unfold tY at hm ⊢
 rw [decide_eq_true_eq,YQ] at hm ⊢
 have:=SM hr (vZ (l:=l) h)
 omega
theorem SN {y:Yard} (hr:∀ s,0≤rm y s) {l a b:List Int} (h:a.Sublist b) (hm:lV y l a=true):lV y l b=true:=by
 unfold lV at hm ⊢
 rw [Bool.not_eq_true'] at hm ⊢
 cases hc:can y (ofL l b) with
 | false=>rfl
 | true=>rw [aBp hr (vZ (l:=l) h) hc] at hm;cases hm
theorem KF {y:Yard} (hy:y.ok=true):0≤total y:=by
 rw [YR]
 have:=OH hy
 generalize y.pens=p at this
 induction p with
 | nil=>simp [pF]
 | cons a p ih =>
  have h1:=this a (by simp)
  have h2:=ih fun x hx=>this x (by simp [hx])
  simp only [pF];omega
theorem SO (l:List Int):(idx l).Pairwise (·<·):=by
 unfold idx
 rw [List.pairwise_map]
 exact List.pairwise_lt_range.imp fun h=>by omega
theorem aEO (l:List Int):(idx l).length=l.length:=by simp [idx]
theorem FK {y:Yard} (hy:y.ok=true) (hr:∀ s,0≤rm y s) {l:List Int} (h:can y l=false):(refuse y l).2.2=0∧mZ y l (refuse y l).1 (refuse y l).2.1=true:=by
 have hrls:∀ {k:Nat} {b:List Int},b∈rls l.length k 0→lW l b=true∧b.length=k:=by
  intro k b hb
  obtain ⟨h1,h2,h3⟩:=BK.1 hb
  exact ⟨HU h2 fun e he=>by have:=h3 e he;omega,h1⟩
 have hlst:∀ (f:List Int→Bool) (k:Int),(k=2∨k=4)→(∀ b,ill y l k b=f b)→(∀ a b:List Int,a.Sublist b→f a=true→f b=true)→f []=false→f (idx l)=true→mZ y l k (least f l.length (idx l))=true:=by
  intro f k hk hf hm h0 h1
  obtain ⟨g1,g2,g3⟩:=fN hm l.length (idx l) h1 fun j hj hj2=>by rw [aEO] at hj2;omega
  generalize least f l.length (idx l)=b at g1 g2 g3
  have hne:b.length≠0:=by
   intro e
   rw [List.length_eq_zero_iff.1 e,h0] at g2;cases g2
  have hri:lW l b=true:=HU ((SO l).sublist g1) fun i hi=>BL l i (g1.subset hi)
  have hls:less y l k b=false:=by
   unfold less
   rw [Bool.eq_false_iff]
   intro hc
   rw [List.any_eq_true] at hc
   obtain ⟨i,hi,hc⟩:=hc
   rw [List.mem_range] at hi
   rw [hf,g3 i hi] at hc;cases hc
  unfold mZ
  rw [hri,hf,g2,hls,decide_eq_true hne]
  rcases hk with rfl | rfl <;> rfl
 unfold refuse
 rw [if_neg (by rw [h];simp)]
 cases h1:(rls l.length 1 0).find? (big y l) with
 | some b =>
  have hb:=List.find?_some h1
  obtain ⟨g1,g2⟩:=hrls (List.mem_of_find?_eq_some h1)
  refine ⟨rfl,?_⟩
  unfold mZ ill
  rw [g1,if_pos rfl,hb,g2]
  rfl
 | none =>
  simp only []
  by_cases hmu:tY y l (idx l)=true
  ·rw [if_pos hmu]
   refine ⟨rfl,hlst (tY y l) 2 (Or.inl rfl) (fun b=>rfl) (fun a b=>YS hr) ?_ hmu⟩
   unfold tY
   rw [decide_eq_false_iff_not]
   have:=KF hy
   simp [ofL,HJ];omega
  ·rw [if_neg hmu]
   cases h2:(rls l.length (y.pens.length+1) 0).find? (many y l) with
   | some b =>
    have hb:=List.find?_some h2
    obtain ⟨g1,g2⟩:=hrls (List.mem_of_find?_eq_some h2)
    refine ⟨rfl,?_⟩
    show mZ y l 3 b=true
    unfold mZ
    rw [g1,show ill y l 3 b=many y l b from rfl,hb,g2]
    simp [within]
   | none =>
    refine ⟨rfl,hlst (lV y l) 4 (Or.inr rfl) (fun b=>rfl) (fun a b=>SN hr) rfl ?_⟩
    unfold lV
    rw [aC8,h];rfl
end Go.Pen
namespace Go.Feed
open Go.Sx
structure T3 where
 (a b c:Int)
structure T4 where
 (a b c d:Int)
def T3.cv (n:T3):List CV:=[ci n.a,ci n.b,ci n.c]
def T4.cv (n:T4):List CV:=[ci n.a,ci n.b,ci n.c,ci n.d]
def fO (xs:List Int):List Int:=(xs.take 4).map fun n=>n % 12
def k3 (ks:List T3) (s:Nat):T3:=if ks=[] then ⟨0,0,0⟩ else ks.getD (s % ks.length) ⟨0,0,0⟩
def kd3 (ks:List T3) (s:Nat):Pen.Kd:=⟨s,1+(k3 ks s).a % 6,(k3 ks s).b % 40,2*((k3 ks s).c % 8)⟩
def kL (xs:List Int) (ks:List T3):Pen.Yard:=⟨fO xs,[kd3 ks 1,kd3 ks 2,kd3 ks 3]⟩
def tar:Fine.Tariff:=⟨0,0,5,10,15,0,0,0,0,0,0,0,2,4,6,0,0,0,0,0,0,10,12,7⟩
def held (ks:List T3) (i:Nat) (n:T4):Fine.Held:=⟨1+(i:Int),1+(i:Int),1+n.a % 3,(kd3 ks (1+n.a % 3).toNat).eats,n.c % 300,n.d % 4,n.b % 20,n.b % 20,0⟩
def bU (ks:List T3) (ss:List T4):List Fine.Held:=(ss.take 8).mapIdx (held ks)
def note (hs:List Fine.Held) (i:Nat) (n:T4):Fine.Note:=
 let s:=hs.getD (n.a % hs.length).toNat Fine.hz
 ⟨50+(i:Int),s.src,1+n.b % 3,if n.b % 3=1 then 0 else 1+n.d % 3,s.day+n.c % 15,s.day+n.c % 15+n.c % 3,0⟩
def told (hs:List Fine.Held) (ns:List T4):List Fine.Note:=if hs=[] then [] else (ns.take 8).mapIdx (note hs)
def acc (ks:List T3) (ss ns:List T4):Fine.Acc:=⟨[tar],bU ks ss,told (bU ks ss) ns⟩
def mH (s:Fine.Held) (x:Fine.Lot):Pen.Stay:=⟨s.sort,s.day,if x.fin=2 then x.day+1 else if x.fin=0 then -1 else x.day⟩
def bG (p:Fine.Acc) (k:Int):List Pen.Stay:=(Fine.stays p k).map fun s=>mH s (Fine.lot p s k)
theorem wF {n lo hi:Int} (h1:lo≤n) (h2:n≤hi):Fine.within n lo hi=true:=by unfold Fine.within;rw [decide_eq_true h1,decide_eq_true h2];rfl
theorem wP {n lo hi:Int} (h1:lo≤n) (h2:n≤hi):Pen.within n lo hi=true:=by unfold Pen.within;rw [decide_eq_true h1,decide_eq_true h2];rfl
theorem aBt {a b:Int} (h1:0≤a) (h2:a≤100000) (h3:0≤b) (h4:b≤100000):Fine.nO a b 0=true:=by
 unfold Fine.nO Fine.eO
 rw [wF h1 h2,wF h3 h4];rfl
theorem tZ {A B:Type} (f:Nat→A→B) (num:B→Int) (c:Int) (hf:∀ i a,num (f i a)=c+(i:Nat)):∀ (l:List A) (k:Nat),Fine.rising ((l.mapIdx fun i a=>f (i+k) a).map num)=true
 | [],_=>rfl
 | a::l,k=>by
  have ih:=tZ f num c hf l (k+1)
  have e:(fun (i:Nat) (a:A)=>f (i+1+k) a)=fun i a=>f (i+(k+1)) a:=by funext i a;rw [Nat.add_assoc,Nat.add_comm 1 k]
  rw [List.mapIdx_cons]
  simp only [List.map_cons,Fine.rising,e,ih,Bool.and_true]
  cases l with
  | nil=>rfl
  | cons b l=>simp [List.mapIdx_cons,hf];omega
theorem VF {A B:Type} (f:Nat→A→B) (q:B→Bool) (m:Nat) (hf:∀ i a,i<m→q (f i a)=true) (l:List A) (h:l.length≤m):(l.mapIdx f).all q=true:=by
 rw [List.all_eq_true]
 intro x hx
 obtain ⟨i,hi,rfl⟩:=List.mem_mapIdx.1 hx
 exact hf _ _ (by omega)
theorem SP (ks:List T3) (s:Nat) (h1:1≤s) (h3:s≤3):(kd3 ks s).ok=true:=by
 unfold Pen.Kd.ok kd3
 simp only
 rw [wP (by omega) (by omega),wP (by omega) (by omega),wP (by omega) (by omega),wP (by omega) (by omega)]
 simp
theorem aDa (xs:List Int) (ks:List T3):(kL xs ks).ok=true:=by
 unfold Pen.Yard.ok kL
 simp only [List.all_cons,List.all_nil,SP ks 1 (by omega) (by omega),SP ks 2 (by omega) (by omega),SP ks 3 (by omega) (by omega),List.map_cons,List.map_nil,Bool.and_true]
 have h1:(fO xs).length≤5:=by unfold fO;simp;omega
 have h2:((fO xs).all fun n=>Pen.within n 0 1000)=true:=by
  rw [List.all_eq_true]
  intro x hx
  unfold fO at hx
  obtain ⟨n,_,rfl⟩:=List.mem_map.1 hx
  exact wP (by omega) (by omega)
 rw [decide_eq_true h1,h2]
 rfl
theorem VG (ks:List T3) (i:Nat) (n:T4) (h:i<8):(held ks i n).ok=true:=by
 have hr:0≤(kd3 ks (1+n.a % 3).toNat).eats∧(kd3 ks (1+n.a % 3).toNat).eats≤40:=by unfold kd3;simp only;omega
 unfold Fine.Held.ok held
 simp only
 rw [wF (by omega) (by omega),wF (by omega) (by omega),wF (by omega) (by omega),wF hr.1 (by omega),wF (by omega) (by omega),wF (by omega) (by omega),aBt (by omega) (by omega) (by omega) (by omega)]
 rfl
theorem yD {ks:List T3} {ss:List T4} {s:Fine.Held} (h:s∈bU ks ss):∃ i n,i<8∧s=held ks i n:=by
 unfold bU at h
 obtain ⟨i,hi,rfl⟩:=List.mem_mapIdx.1 h
 exact ⟨i,_,by simp at hi;omega,rfl⟩
theorem getD_mem {A:Type} {l:List A} (h:l≠[]) (n:Int) (d:A):l.getD (n % l.length).toNat d∈l:=by
 have hp:0<l.length:=List.length_pos_iff.2 h
 have h1:=Int.emod_nonneg n (show (l.length:Int)≠0 by omega)
 have h2:=Int.emod_lt_of_pos n (show (0:Int)<l.length by omega)
 have hlt:(n % (l.length:Int)).toNat<l.length:=by omega
 have:l.getD (n % l.length).toNat d=l[(n % (l.length:Int)).toNat]:=by simp [hlt]
 rw [this]
 exact List.getElem_mem hlt
theorem aDb {ks:List T3} {ss:List T4} (hne:bU ks ss≠[]) (i:Nat) (n:T4) (h:i<8):(note (bU ks ss) i n).ok=true:=by
 obtain ⟨j,m,hj,he⟩:=yD (getD_mem hne n.a Fine.hz)
 unfold Fine.Note.ok note
 simp only [he,held]
 rw [wF (n:=50+(i:Int)) (by omega) (by omega),wF (n:=1+(j:Int)) (by omega) (by omega),aBt (by omega) (by omega) (by omega) (by omega)]
 by_cases hk:n.b % 3=1
 ·rw [if_pos hk,hk];rfl
 ·rw [if_neg hk,wF (n:=1+n.d % 3) (by omega) (by omega)]
  have:n.b % 3=0∨n.b % 3=2:=by omega
  rcases this with h0 | h0 <;> rw [h0] <;> rfl
theorem SQ (ks:List T3) (ss ns:List T4):(acc ks ss ns).ok=true:=by
 have h2:=tZ (held ks) Fine.Held.src 1 (fun i a=>rfl) (ss.take 8) 0
 have h4:=VF (held ks) Fine.Held.ok 8 (fun i a h=>VG ks i a h) (ss.take 8) (by simp;omega)
 have l2:(bU ks ss).length≤60:=by unfold bU;simp;omega
 have ht:Fine.qJ Fine.Tariff.ok Fine.Tariff.frm 8 [tar]=true:=by decide
 have hs:Fine.qJ Fine.Held.ok Fine.Held.src 60 (bU ks ss)=true:=by
  unfold Fine.qJ
  rw [decide_eq_true l2,show (bU ks ss).all Fine.Held.ok=true from h4,show Fine.rising ((bU ks ss).map Fine.Held.src)=true from h2];rfl
 have hn:Fine.qJ Fine.Note.ok Fine.Note.src 60 (told (bU ks ss) ns)=true:=by
  unfold told
  split
  ·rfl
  ·rename_i hne
   have h3:=tZ (note (bU ks ss)) Fine.Note.src 50 (fun i a=>rfl) (ns.take 8) 0
   have h5:=VF (note (bU ks ss)) Fine.Note.ok 8 (fun i a h=>aDb hne i a h) (ns.take 8) (by simp;omega)
   have l3:((ns.take 8).mapIdx (note (bU ks ss))).length≤60:=by simp;omega
   unfold Fine.qJ
   rw [decide_eq_true l3,h5,show Fine.rising (((ns.take 8).mapIdx (note (bU ks ss))).map Fine.Note.src)=true from h3];rfl
 unfold Fine.Acc.ok acc
 simp only [ht,hs,hn]
 rfl
theorem OL (ks:List T3) (ss ns:List T4) {d:Int} (h:0≤d):Fine.bH (acc ks ss ns) d=tar:=by
 unfold Fine.bH Fine.inF acc
 have:decide (tar.frm≤d)=true:=decide_eq_true h
 simp only [List.filter_cons,this,if_true,List.filter_nil]
 rfl
theorem SR (ks:List T3) (ss ns:List T4) {s:Fine.Held} (hs:0≤s.eats) {d:Int} (h:0≤d):Fine.fM (acc ks ss ns) s d=s.eats:=by
 unfold Fine.fM
 rw [OL ks ss ns h,show tar.feed=10 from rfl,Int.tdiv_eq_ediv_of_nonneg (by omega)]
 omega
theorem zK (f:Int→Int) (c:Int):∀ l:List Int,(∀ d∈l,f d=c)→Fine.sumOf f l=c*l.length
 | [],_=>by simp [Fine.sumOf]
 | d::l,h=>by
  rw [Fine.DF,h d (by simp),zK f c l fun x hx=>h x (by simp [hx]),List.length_cons,Int.natCast_succ,Int.mul_add]
  omega
theorem zL (xs:List Int) (ks:List T3) {s:Int} (h1:1≤s) (h3:s≤3):Pen.kindOf (kL xs ks) s=some (kd3 ks s.toNat):=by
 have:s=1∨s=2∨s=3:=by omega
 unfold Pen.kindOf kL
 rcases this with rfl | rfl | rfl <;> rfl
theorem OM (xs:List Int) (ks:List T3) {s:Int} (h1:1≤s) (h3:s≤3):Pen.has (kL xs ks) s=true:=by
 unfold Pen.has;rw [zL xs ks h1 h3];rfl
theorem dX {ks:List T3} {ss ns:List T4} {k:Int} {s:Fine.Held} (h:s∈Fine.stays (acc ks ss ns) k) :
  s.ok=true∧1≤s.sort∧s.sort≤3∧s.eats=(kd3 ks s.sort.toNat).eats∧0≤s.day∧s.day≤20∧s.day≤k:=by
 have hm:=Fine.HF h
 obtain ⟨i,n,hi,rfl⟩:=yD hm
 have hc:=(List.mem_filter.1 h).2
 unfold Fine.counts held at hc
 rw [Bool.and_eq_true,decide_eq_true_eq] at hc
 refine ⟨VG ks i n hi,?_,?_,rfl,?_,?_,hc.1⟩ <;> simp only [held] <;> omega
theorem lE {ks:List T3} {ss ns:List T4} {k:Int} (hk:0≤k) {s:Fine.Held} (h:s∈Fine.stays (acc ks ss ns) k) :
  (Fine.lot (acc ks ss ns) s k).fin=0∧(Fine.lot (acc ks ss ns) s k).day=-1∨(Fine.lot (acc ks ss ns) s k).fin≠0∧s.day≤(Fine.lot (acc ks ss ns) s k).day∧(Fine.lot (acc ks ss ns) s k).day≤k:=by
 obtain ⟨h1,h2,h3,h4,h5⟩:=Fine.UT (acc ks ss ns) s k (by omega)
 rcases (Fine.aBd (acc ks ss ns) s k).1 with h6 | ⟨e,he,h6,h7,h8,h9⟩
 ·exact .inl h6
 ·have h10:=Fine.aHa (SQ ks ss ns) (dX h).1 he
  have h11:=Fine.aBe he
  exact .inr ⟨by omega,by omega,by omega⟩
theorem YT {a b:Int} {d:Int} (h:d∈upto a b):a≤d:=(DA.1 h).1
theorem YU {xs:List Int} {ks:List T3} {ss ns:List T4} {k:Int} (hk:0≤k) {s:Fine.Held} (h:s∈Fine.stays (acc ks ss ns) k) :
  (Fine.iP (acc ks ss ns) s (Fine.lot (acc ks ss ns) s k) k).feed=Pen.eats (kL xs ks) k (mH s (Fine.lot (acc ks ss ns) s k)):=by
 obtain ⟨hok,h1,h3,he,hd,_,hdk⟩:=dX h
 have heb:=(Fine.Held.ok_b hok).2.2.1
 have hl:=lE hk h
 generalize Fine.lot (acc ks ss ns) s k=x at hl
 have hsum:(Fine.iP (acc ks ss ns) s x k).feed=s.eats*(Fine.oO s x k).length:=by
  unfold Fine.iP
  simp only
  exact zK _ _ _ fun d hdm=>SR ks ss ns (by omega) (by have:=YT hdm;omega)
 rw [hsum]
 unfold Pen.eats Pen.kd
 have hkd:Pen.kindOf (kL xs ks) (mH s x).sort=some (kd3 ks s.sort.toNat):=zL xs ks h1 h3
 rw [hkd,Option.getD_some,← he]
 congr 1
 unfold Fine.oO Fine.jU mH
 rw [upto_length]
 simp only
 rcases hl with ⟨h4,h5⟩ | ⟨h4,h5,h6⟩
 ·simp [h4];omega
 ·by_cases h2:x.fin=2
  ·simp only [h2,if_true]
   rw [if_neg (show ¬(x.day+1=-1) by omega)];omega
  ·simp only [h2,h4,if_false]
   rw [if_neg (show ¬(x.day=-1) by omega)];omega
theorem aDc {xs:List Int} {ks:List T3} {ss ns:List T4} {k:Int} (hk:0≤k) (hk2:k≤1000) {s:Fine.Held} (h:s∈Fine.stays (acc ks ss ns) k):Pen.mY (kL xs ks) (mH s (Fine.lot (acc ks ss ns) s k))=true:=by
 obtain ⟨hok,h1,h3,he,hd,hd2,hdk⟩:=dX h
 have hl:=lE hk h
 generalize Fine.lot (acc ks ss ns) s k=x at hl
 unfold Pen.mY mH
 simp only
 rw [OM xs ks h1 h3,wP (by omega) (by omega)]
 rcases hl with ⟨h4,h5⟩ | ⟨h4,h5,h6⟩
 ·rw [if_neg (by omega),if_pos h4];rfl
 ·by_cases h2:x.fin=2
  ·rw [if_pos h2,wP (by omega) (by omega)];simp
  ·rw [if_neg h2,if_neg h4,wP (by omega) (by omega)];simp
theorem DP (ks:List T3) (ss ns:List T4) (k:Int):(bG (acc ks ss ns) k).length≤8:=by
 unfold bG
 rw [List.length_map]
 have h1:=Fine.lT (fun s:Fine.Held=>Fine.counts s.known s.til k) (acc ks ss ns).ss
 have h2:(acc ks ss ns).ss.length≤8:=by unfold acc bU;simp;omega
 exact Nat.le_trans h1 h2
theorem YV (xs:List Int) (ks:List T3) (ss ns:List T4) {k:Int} (hk:0≤k) (hk2:k≤1000):Pen.mN (kL xs ks) (bG (acc ks ss ns) k)=true:=by
 unfold Pen.mN
 have:=DP ks ss ns k
 rw [decide_eq_true (show (bG (acc ks ss ns) k).length≤40 by omega),Bool.true_and,List.all_eq_true]
 intro x hx
 obtain ⟨s,hs,rfl⟩:=List.mem_map.1 hx
 exact aDc hk hk2 hs
theorem ON {ks:List T3} {ss ns:List T4} {k:Int} (hk:0≤k) {s:Fine.Held} (h:s∈Fine.stays (acc ks ss ns) k):(mH s (Fine.lot (acc ks ss ns) s k)).out=-1↔(Fine.lot (acc ks ss ns) s k).fin=0:=by
 have hd:=(dX h).2.2.2.2.1
 have hl:=lE hk h
 unfold mH
 simp only
 rcases hl with ⟨h4,h5⟩ | ⟨h4,h5,h6⟩
 ·rw [if_neg (by omega),if_pos h4];simp [h4]
 ·by_cases h2:(Fine.lot (acc ks ss ns) s k).fin=2
  ·rw [if_pos h2];omega
  ·rw [if_neg h2,if_neg h4];omega
end Go.Feed
namespace Go.Sx
open Go
def plT (P:Program):Nat→TypeId→Bool
 | 0,_=>false
 | n+1,t=>match P.underlying t with
  | some .bool=>true
  | some (.int _)=>true
  | some (.slice e)=>decide (0<P.cellsOf e)&&plT P n e
  | some (.struct fs)=>fs.toList.all fun f=>plT P n f.type
  | some (.array _ e)=>plT P n e
  | _=>false
def SU (R:TypeId→List CV→Prop):List TypeId→List CV→Prop
 | [],cs=>cs=[]
 | t::ts,cs=>∃ a b,cs=a++b∧R t a∧SU R ts b
def Shp (P:Program):Nat→TypeId→List CV→Prop
 | 0,_,_=>False
 | n+1,t,cs=>match P.underlying t with
  | some .bool=>∃ b,cs=[cb b]
  | some (.int k)=>∃ m,cs=[.val (.int k m)]∧(Lit.int k m).wf=true
  | some (.slice e)=>∃ es,cs=[.row (P.cellsOf e) es]∧(∀ x∈es,Shp P n e x)∧es.length*P.bytesOf e≤reachBytes
  | some (.struct fs)=>SU (Shp P n) (fs.toList.map (·.type)) cs
  | some (.array m e)=>SU (Shp P n) (List.replicate m e) cs
  | _=>False
section
variable {P:Program} {w:World} {S:Nat→Prop}
theorem VH {k b:Nat}:∀ (es:List (List CV)) (o:Nat),(∀ i (h:i<es.length),es[i].length=k∧CV.cells w S es[i] b (o+i*k))→CV.rows w S k es b o
 | [],o,_=>by simp [CV.rows]
 | e::es,o,h=>by
  simp only [CV.rows]
  have h0:=h 0 (by simp)
  refine ⟨by simpa using h0.1,by simpa using h0.2,VH es (o+k) fun i hi=>?_⟩
  have:=h (i+1) (by simpa using hi)
  rw [show o+(i+1)*k=o+k+i*k by rw [Nat.add_mul];omega] at this
  simpa using this
theorem aBu {cs cs':List CV} {vs vs':List Value} (h:CV.vals w S cs vs) (h':CV.vals w S cs' vs'):CV.vals w S (cs++cs') (vs++vs'):=CV.vals.append h h'
theorem DQ (R:TypeId→List CV→Prop):∀ (ts:List TypeId) (cs:List Value),cs.length=(ts.map P.cellsOf).sum →
  (∀ j t,ts[j]? = some t→∃ cvs,R t cvs∧CV.vals w S cvs ((cs.drop ((ts.take j).map P.cellsOf).sum).take (P.cellsOf t)))→∃ cvs,SU R ts cvs∧CV.vals w S cvs cs
 | [],cs,hl,_=>⟨[],rfl,by
  have:cs=[]:=List.length_eq_zero_iff.1 (by simpa using hl)
  subst this;simp [CV.vals]⟩
 | t::ts,cs,hl,h=>by
  simp only [List.map_cons,List.sum_cons] at hl
  obtain ⟨a,ha,hav⟩:=h 0 t rfl
  obtain ⟨b,hb,hbv⟩:=DQ R ts (cs.drop (P.cellsOf t)) (by rw [List.length_drop];omega) fun j u hj=>by
   obtain ⟨c,hc,hcv⟩:=h (j+1) u (by simpa using hj)
   refine ⟨c,hc,?_⟩
   rw [List.drop_drop]
   simpa using hcv
  refine ⟨a++b,⟨a,b,rfl,ha,hb⟩,?_⟩
  have:=aBu hav hbv
  simpa using this
theorem weightsAll_mem {H:Type} {e:TypeId}:∀ {l:List (DataW H)} {d:DataW H},d∈l→∀ m∈d.weights P e,m∈DataW.weightsAll P e l
 | x::l,d,h,m,hm=>by
  simp only [DataW.weightsAll,List.mem_append]
  rcases List.mem_cons.1 h with rfl | h
  ·exact .inl hm
  ·exact .inr (weightsAll_mem h m hm)
end
section
variable {H:Type} {enc:TypeId×Value→H} {P:Program} {w:World} {T:TypeId→Prop} {spare:Nat→Bool} {held:Bool}
theorem aDd (K:Kids P T):∀ (n fuel:Nat) (t:TypeId) (cs:List Value) (x:DataW H×List MemPlace),T t→plT P n t=true→DataW.trod enc P w 0 spare held fuel t cs=some x→(∀ m∈x.1.weights P t,m≤reachBytes) →
  ∃ cvs,Shp P n t cvs∧CV.vals w (fun b=>b<w.heap.size) cvs cs:=by
 intro n
 induction n with
 | zero=>intro fuel t cs x _ hp;simp [plT] at hp
 | succ n ih =>
  intro fuel t cs x hT hp h hw
  simp only [plT] at hp
  simp only [Shp]
  cases hu:P.underlying t with
  | none=>rw [hu] at hp;cases hp
  | some U =>
   rw [hu] at hp
   cases U with
   | bool =>
    obtain ⟨b,rfl,_⟩:=DataW.trod_bool hu h
    exact ⟨[cb b],⟨b,rfl⟩,by simp [cb,CV.vals,CV.holds,Value.oneCell']⟩
   | int k =>
    obtain ⟨m,rfl,_,hm⟩:=DataW.trod_int hu h
    exact ⟨[.val (.int k m)],⟨m,rfl,hm⟩,by simp [CV.vals,CV.holds,Value.oneCell']⟩
   | struct fs =>
    obtain ⟨xs,m,rfl,rfl,hl,hxl,hx⟩:=DataW.trod_struct hu h
    obtain ⟨k1,k2,k3⟩:=K.struct hT hu
    simp only [List.all_eq_true] at hp
    refine DQ (P:=P) (Shp P n) (fs.toList.map (·.type)) cs (by rw [hl,k2,List.map_map];rfl) fun j u hj=>?_
    rw [List.getElem?_map,Option.map_eq_some_iff] at hj
    obtain ⟨f,hf,rfl⟩:=hj
    have hfm:f∈fs.toList:=List.mem_of_getElem? hf
    have hfa:fs[j]? = some f:=by rw [← Array.getElem?_toList];exact hf
    have hxj:=hx j f hfa
    have hjl:j<xs.length:=by rw [hxl];exact (Array.getElem?_eq_some_iff.1 hfa).1
    rw [List.getElem?_eq_getElem hjl] at hxj
    rw [k3 j f hf] at hxj
    rw [← List.map_take,List.map_map]
    refine ih m f.type _ _ (k1 f hfm) (hp f hfm) hxj fun v hv=>hw v ?_
    simp only [DataW.weights,hu]
    exact DataW.weights_mem_each (j:=j) (t:=f.type) (d:=xs[j].1) (by rw [List.getElem?_map,hf];rfl) (by rw [List.getElem?_map,List.getElem?_eq_getElem hjl];rfl) v hv
   | array m e =>
    obtain ⟨xs,q,rfl,rfl,hl,hxl,hx⟩:=DataW.trod_array hu h
    obtain ⟨k1,k2⟩:=K.array hT hu
    refine DQ (P:=P) (Shp P n) (List.replicate m e) cs (by rw [hl,k2];simp) fun j u hj=>?_
    obtain ⟨hjm,rfl⟩:=List.getElem?_eq_some_iff.1 hj
    rw [List.length_replicate] at hjm
    rw [List.getElem_replicate]
    have hxj:=hx j hjm
    rw [List.getElem?_eq_getElem (by omega)] at hxj
    have e1:((List.take j (List.replicate m e)).map P.cellsOf).sum=j*P.cellsOf e:=by
     rw [List.take_replicate,Nat.min_eq_left (by omega)];simp
    rw [e1]
    refine ih q e _ _ k1 hp hxj fun v hv=>hw v ?_
    simp only [DataW.weights,hu]
    exact weightsAll_mem (List.mem_map.2 ⟨xs[j],List.getElem_mem _,rfl⟩) v hv
   | slice e =>
    simp only [Bool.and_eq_true,decide_eq_true_eq] at hp
    rcases DataW.trod_slice hu h with ⟨rfl,_⟩ | ⟨a,len,cap,elems,rest,m,rfl,rfl,rfl,hb,hlc,hcm,hel,hx,_⟩
    ·refine ⟨[.row (P.cellsOf e) []],⟨[],rfl,by simp,by simp⟩,?_⟩
     simp only [CV.vals,CV.holds,and_true]
     exact ⟨none,0,rfl,Nat.le_refl _,Nat.zero_le _,.inl trivial⟩
    ·have hwe:∀ i (hi:i<elems.length),∀ v∈(elems[i].1).weights P e,v≤reachBytes:=fun i hi v hv=>hw v (by
      simp only [DataW.weights,hu,List.mem_cons,List.mem_append]
      exact .inr (.inl (weightsAll_mem (List.mem_map.2 ⟨elems[i],List.getElem_mem _,rfl⟩) v hv)))
     have hlen:(elems.length+rest.length)*P.bytesOf e≤reachBytes:=hw _ (by simp [DataW.weights,hu])
     have hone:∀ i,∃ cv:List CV,(i<len→∃ cells:List Value,w.cells? 0 (a.add (i*P.cellsOf e)) (P.cellsOf e)=some cells∧Shp P n e cv∧CV.vals w (fun b=>b<w.heap.size) cv cells):=by
      intro i
      by_cases hi:i<len
      ·have hxi:=hx i hi
       rw [List.getElem?_eq_getElem (by omega),Option.bind_eq_some_iff] at hxi
       obtain ⟨cells,h1,h2⟩:=hxi
       obtain ⟨cv,h3,h4⟩:=ih m e cells _ (K.slice hT hu) hp.2 h2 (hwe i (by omega))
       exact ⟨cv,fun _=>⟨cells,h1,h3,h4⟩⟩
      ·exact ⟨[],fun h=>absurd h hi⟩
     obtain ⟨g,hg⟩:=Classical.axiomOfChoice hone
     have hll:((List.range len).map g).length=len:=by simp
     refine ⟨[.row (P.cellsOf e) ((List.range len).map g)],⟨_,rfl,?_,?_⟩,?_⟩
     ·intro y hy
      obtain ⟨i,hi,rfl⟩:=List.mem_map.1 hy
      rw [List.mem_range] at hi
      obtain ⟨_,_,h3,_⟩:=hg i hi
      exact h3
     ·rw [hll]
      refine Nat.le_trans (Nat.mul_le_mul_right _ ?_) hlen
      omega
     ·simp only [CV.vals,CV.holds,and_true]
      refine ⟨some a,cap,by rw [hll],by rw [hll];exact hlc,hcm,?_⟩
      by_cases h0:len=0
      ·exact .inl (by simp [h0])
      ·right
       have hcell:∀ i,i<len→∀ j v (cells:List Value),w.cells? 0 (a.add (i*P.cellsOf e)) (P.cellsOf e)=some cells→cells[j]? = some v→w.cell? ((a.add (i*P.cellsOf e)).add j)=some v:=by
        intro i _ j v cells hc hj
        simp only [World.cells?,Nat.zero_le,if_true] at hc
        have hjl:=(List.getElem?_eq_some_iff.1 hj).1
        have hll:=mapM_some_length hc
        rw [List.length_range] at hll
        have hr:(List.range (P.cellsOf e))[j]? = some j:=List.getElem?_range (by omega)
        have:=mapM_some_get hc j j hr
        rw [this,hj]
       have hclen:∀ (b:Addr) (cells:List Value),w.cells? 0 b (P.cellsOf e)=some cells→cells.length=P.cellsOf e:=by
        intro b cells hc
        simp only [World.cells?,Nat.zero_le,if_true] at hc
        simpa using mapM_some_length hc
       obtain ⟨cells0,hc0,_,hv0⟩:=hg 0 (by omega)
       have hl0:cells0.length=P.cellsOf e:=hclen _ _ hc0
       have hpos:0<cells0.length:=by omega
       have hz:=hcell 0 (by omega) 0 cells0[0] cells0 hc0 (List.getElem?_eq_getElem hpos)
       have hz0:(a.add (0*P.cellsOf e)).add 0=a:=by simp [Addr.add]
       rw [hz0] at hz
       have hspot:a.spot=none∧a.block<w.heap.size:=by
        unfold World.cell? at hz
        split at hz
        ·rename_i c t fz hh
         split at hz
         ·cases hz
         ·rename_i hs
          refine ⟨by cases hsp:a.spot <;> simp [hsp] at hs ⊢,?_⟩
          by_cases hlt:a.block<w.heap.size
          ·exact hlt
          ·rw [Array.getElem?_eq_none (by omega)] at hh;cases hh
        ·cases hz
       obtain ⟨ab,ao,asp⟩:=a
       simp only at hspot
       obtain ⟨rfl,hbl⟩:=hspot
       refine ⟨ab,ao,rfl,hbl,?_⟩
       refine VH _ _ fun i hi=>?_
       rw [hll] at hi
       simp only [List.getElem_map,List.getElem_range]
       obtain ⟨cells,hc,_,hv⟩:=hg i hi
       have hlc':cells.length=P.cellsOf e:=hclen _ _ hc
       refine ⟨by rw [← hlc'];exact (CV.vals.length hv).symm,CV.cells.of_vals hv fun j v hj=>?_⟩
       have:=hcell i hi j v cells hc hj
       have e0:∀ (b o m:Nat),(Addr.mk b o none).add m=⟨b,o+m,none⟩:=by
        intro b o m
        unfold Addr.add
        by_cases hm:m=0
        ·subst hm;rfl
        ·rw [if_neg hm]
       have e1:((Addr.mk ab ao none).add (i*P.cellsOf e)).add j=⟨ab,ao+i*P.cellsOf e+j,none⟩:=by rw [e0,e0]
       rw [e1] at this
       exact this
   | _=>cases hp
end
end Go.Sx
namespace Go.Sx
open Go Go.ChangeShapes Go.WideShapes Go.ChangeAt Go.RowKit
def isAgg (P:Program) (t:TypeId):Bool:=match P.underlying t with
 | some (.struct _)=>true
 | some (.array _ _)=>true
 | _=>false
def zM (P:Program):List TypeId→List (List CV)→List AV
 | t::ts,c::cs=>(if isAgg P t=true then .agg (c.map .cv) else .cv (c.headD dC))::zM P ts cs
 | _,_=>[]
def qS (P:Program) (n:Nat):List TypeId→List (List CV)→Prop
 | [],[]=>True
 | t::ts,c::cs=>Shp P n t c∧qS P n ts cs
 | _,_=>False
theorem wB (P:Program):∀ (ts:List TypeId) (cs:List (List CV)),AV.closeds (zM P ts cs)=true
 | [],[]=>rfl
 | [],_::_=>rfl
 | _::_,[]=>rfl
 | t::ts,c::cs=>by
  have hc:∀ (l:List CV),AV.closeds (l.map .cv)=true:=by
   intro l
   induction l with
   | nil=>rfl
   | cons x l ih=>simp [AV.closeds,AV.closed,ih]
  simp only [zM,AV.closeds,Bool.and_eq_true]
  refine ⟨?_,wB P ts cs⟩
  split
  ·simp only [AV.closed];exact hc c
  ·rfl
theorem zN {e:Env} {w:World} {ks:List Nat}:∀ {cs:List CV} {vs:List Value},CV.vals w e.S cs vs→AV.all e w ks (cs.map .cv) vs
 | [],[],_=>by simp [AV.all]
 | c::cs,v::vs,h=>by
  simp only [CV.vals] at h
  simp only [List.map_cons,AV.all,AV.holds]
  exact ⟨h.1,zN h.2⟩
 | [],_::_,h=>by simp [CV.vals] at h
 | _::_,[],h=>by simp [CV.vals] at h
section
variable {P:Program} {w:World}
theorem YW {base:Nat} {t:TypeId} {v:Value} {n:Nat} (hp:plT P n t=true) (ha:isAgg P t=false) (h:Value.okWide P w .any base t v):v.cells=#[v]:=by
 cases n with
 | zero=>simp [plT] at hp
 | succ n =>
  simp only [plT] at hp
  simp only [isAgg] at ha
  unfold Value.okWide at h
  cases hu:P.underlying t with
  | none=>rw [hu] at hp;cases hp
  | some U =>
   rw [hu] at hp ha h
   cases U with
   | bool=>simp only [Cell.okWide,hu,Cell.ok] at h;cases v <;> simp_all [Value.cells]
   | int k=>simp only [Cell.okWide,hu,Cell.ok] at h;cases v <;> simp_all [Value.cells]
   | slice e=>simp only [Cell.okWide,hu,Cell.ok] at h;cases v <;> simp_all [Value.cells]
   | struct fs=>cases ha
   | array m e=>cases ha
   | _=>cases hp
theorem aDe {base:Nat} {t:TypeId} {v:Value} (ha:isAgg P t=true) (h:Value.okWide P w .any base t v):∃ cs,v=.agg cs:=by
 simp only [isAgg] at ha
 unfold Value.okWide at h
 cases hu:P.underlying t with
 | none=>rw [hu] at ha;cases ha
 | some U =>
  rw [hu] at ha h
  cases U with
  | struct fs=>obtain ⟨cs,h,_⟩:=h;exact ⟨cs,h⟩
  | array m e=>obtain ⟨cs,h,_⟩:=h;exact ⟨cs,h⟩
  | _=>cases ha
variable {H:Type} {enc:TypeId×Value→H} {T:TypeId→Prop} {spare:Nat→Bool} {held:Bool}
theorem VI (K:Kids P T) {base:Nat} (n:Nat):∀ (ts:List TypeId) (vs:List Value) (ds:List (DataW H)) (ps:List MemPlace),(∀ t∈ts,T t)→ts.all (plT P n)=true →
  (∀ (j:Nat) t v,ts[j]? = some t→vs[j]? = some v→Value.okWide P w .any base t v)→DataW.TrodAll enc P w 0 spare held ts vs ds ps→(∀ m∈DataW.weightsEach P ts ds,m≤reachBytes) →
  ∃ css:List (List CV),qS P n ts css∧∀ (e:Env) (ks:List Nat),(e.S=fun b=>b<w.heap.size)→AV.all e w ks (zM P ts css) vs
 | [],vs,ds,ps,_,_,_,h,_=>by
  obtain ⟨rfl,_,_⟩:=trodAll_nil h
  exact ⟨[],trivial,fun e ks _=>by simp [zM,AV.all]⟩
 | t::ts,vs,ds,ps,hT,hp,hv,h,hw=>by
  obtain ⟨v,vs',d,ds',p,q,rfl,rfl,rfl,⟨fuel,h1⟩,h2⟩:=trodAll_cons h
  simp only [List.all_cons,Bool.and_eq_true] at hp
  simp only [DataW.weightsEach,List.mem_append] at hw
  obtain ⟨css,s1,s2⟩:=VI K n ts vs' ds' q (fun u hu=>hT u (by simp [hu])) hp.2 (fun j u x hj hx=>hv (j+1) u x (by simpa using hj) (by simpa using hx)) h2 (fun m hm=>hw m (.inr hm))
  obtain ⟨cvs,c1,c2⟩:=aDd K n fuel t v.cells.toList _ (hT t (by simp)) hp.1 h1 (fun m hm=>hw m (.inl hm))
  refine ⟨cvs::css,⟨c1,s1⟩,fun e ks he=>?_⟩
  have hv0:=hv 0 t v rfl rfl
  simp only [zM,AV.all]
  refine ⟨?_,s2 e ks he⟩
  cases ha:isAgg P t with
  | true =>
   obtain ⟨cs,rfl⟩:=aDe ha hv0
   simp only [if_true,AV.holds]
   exact ⟨cs,rfl,zN (by rw [he];exact c2)⟩
  | false =>
   have hc:=YW hp.1 ha hv0
   rw [hc] at c2
   simp only [Bool.false_eq_true,if_false,AV.holds]
   match cvs,c2 with
   | [c],c2 =>
    simp only [CV.vals,and_true] at c2
    rw [he];exact c2
   | [],c2=>simp [CV.vals] at c2
   | _::_::_,c2=>simp [CV.vals] at c2
end
theorem zO {H:Type} {enc:TypeId×Value→H} {P:Program} {W:World} {sp:Nat→Bool} {hd:Bool}:∀ {ts:List TypeId} {vs:List Value} {ds:List (DataW H)} {ps:List MemPlace},DataW.TrodAll enc P W 0 sp hd ts vs ds ps→ds.length=ts.length
 | [],vs,ds,ps,hA=>by obtain ⟨rfl,rfl,rfl⟩:=trodAll_nil hA;rfl
 | t::ts,vs,ds,ps,hA=>by
  obtain ⟨v,vs',d,ds',p1,p2,rfl,rfl,rfl,_,h2⟩:=trodAll_cons hA
  simp [zO h2]
theorem DR {H:Type} {enc:TypeId×Value→H} {P:Program} {W W':World} {sp:Nat→Bool} {hd:Bool} (hB:Below W.heap.size W W'):∀ {ts:List TypeId} {vs:List Value} {ds:List (DataW H)} {ps:List MemPlace},DataW.TrodAll enc P W 0 sp hd ts vs ds ps→DataW.TrodAll enc P W' 0 sp hd ts vs ds ps
 | [],vs,ds,ps,hA=>by obtain ⟨rfl,rfl,rfl⟩:=trodAll_nil hA;exact rfl
 | t::ts,vs,ds,ps,hA=>by
  obtain ⟨v,vs',d,ds',p1,p2,rfl,rfl,rfl,⟨fuel,h1⟩,h2⟩:=trodAll_cons hA
  exact ⟨p1,p2,⟨fuel,DataW.trod_carry fuel _ _ _ h1 fun x hx=>hB.same (DataW.trod_lt fuel _ _ _ h1 x hx)⟩,DR hB h2,rfl⟩
theorem aBv {C:Checked} {os:Os} {f:FuncId} {fn:Func} {s:ChangeSpec} {conds:List PathCond} {fresh handsOn:Bool} {H:Type} {enc:TypeId×Value→H} {tb:TypeId} (n:Nat)
  (own:ownKnob C.prog.godebug=none) (started:os.Started) (noInit:C.prog.inits.idxOf? f=none) (hfn:C.prog.funcs[f]? = some fn)
  (K:Kids C.prog (·<C.prog.types.size)) (hz:∀ t e,t<C.prog.types.size→C.prog.underlying t=some (.slice e)→0<C.prog.cellsOf e)
  (hts:∀ t∈fn.params.toList,t<C.prog.types.size) (hpl:fn.params.toList.all (plT C.prog n)=true) (hres:fn.resultTypes=#[tb]) (hb:C.prog.underlying tb=some .bool)
  (hvars:s.vars=[]) (hspec:∀ ds:List (DataW H),ds.length=fn.params.toList.length→s.fn H (ds++[])={ results:=[.lit (.bool true)],args:=ds })
  (witness:∃ (w:World) (tape:Tape) (i:Input),w.os=os∧(w.forCall tape i).Shaped C.prog∧i.vars=[]∧Input.okWide C.prog (w.forCall tape i) .any w.heap.size f i ∧
   s.pre6 enc C.prog fn conds false (w.forCall tape i).memory i.args∧({}:Assume).holds C.prog (lone (Frame.enter C.prog f i.args .normal) [] (w.forCall tape i)))
  (law:∀ css,qS C.prog n fn.params.toList css→SpecR C.prog f (zM C.prog fn.params.toList css) (.cv (cb true))) :
  ReturnsInHanded {} C os f .any (s.pre6 enc C.prog fn conds false) (s.post enc C.prog fn false fresh handsOn false):=by
 refine returnsInHanded_of_change_sized own started noInit hfn witness ?_
 intro W base args ds gs before hval hW hcnd hsz _
 have hW':=hW
 obtain ⟨p,q,hA,hV,rfl,hfz,hnd⟩:=hW
 rw [hvars] at hV
 obtain ⟨rfl,rfl⟩:=trodVars_none hV
 simp only [List.append_nil] at hW'
 have hwt:∀ m∈DataW.weightsEach C.prog fn.params.toList ds,m≤reachBytes:=by
  intro m hm
  have hh:∀ (ts us:List TypeId) (ds:List (DataW H)),m∈DataW.weightsEach C.prog ts ds→m∈DataW.weightsEach C.prog (ts++us) ds:=by
   intro ts
   induction ts with
   | nil=>intro us ds h;simp [DataW.weightsEach] at h
   | cons t ts ih =>
    intro us ds h
    cases ds with
    | nil=>simp [DataW.weightsEach] at h
    | cons d ds =>
     simp only [DataW.weightsEach,List.mem_append,List.cons_append] at h ⊢
     exact h.imp id (ih us ds)
  have:=List.all_eq_true.1 hsz m (by rw [List.append_nil];exact hh _ _ _ hm)
  simpa using this
 obtain ⟨css,s1,s2⟩:=VI K n fn.params.toList args.toList ds p hts hpl (fun j t v hj hv=>hval j t v (by rw [← Array.getElem?_toList];exact hj) (by rw [← Array.getElem?_toList];exact hv)) hA hwt
 let e0:Env:={ ρ:=fun _=>0,hdr:=fun _ _=>undef,S:=fun b=>b<W.heap.size,base:=W.heap.size,H:=fun _=>none,y:=false }
 have hm:Mem W.heap.size W e0 [] [] W:=Mem.nothing e0 W fun b hb=>hb
 have hc:=law css s1 Fence.wide 0 WJ rfl W.heap.size W e0 W args hm (s2 e0 _ rfl) (AV.scos_closed _ _ _ (wB _ _ _))
 refine (CallsIn.calls hc (fun k=>by simp [Fence.room,Fence.wide])).mono ?_
 rintro en W' ⟨e',B',V',r,v,rfl,⟨rfl,rfl,rfl⟩,hmem,hex,hr,_⟩
 simp only [AV.holds,cb,CV.holds] at hr
 obtain ⟨rfl,_⟩:=hr
 have hB:Below W.heap.size W W':=by
  have:=hmem.below
  rwa [Env.nb_false (show e'.y=false from hex.ye)] at this
 have hdl:=zO hA
 refine ⟨_,rfl,ds,[],p,[],p,[],hW',?_,?_,?_,hB.frame _,fun h=>by cases h⟩
 ·rw [hspec ds hdl,hres]
  exact trodAll_mk1 (shut_bool hb true)
 ·rw [hspec ds hdl]
  have h1:=DR hB hA
  exact DataW.TrodAll.respare K hz hts h1 (fun x hx=>by simpa using DataW.TrodAll.lt hA x hx)
 ·rw [hspec ds hdl,hvars];rfl
end Go.Sx
namespace Go.Proofs.Ytnnifohchhjkhaa
open Go Go.Sx
set_option maxRecDepth 100000
def fe3:FE:=⟨231,[.tmp 4],.two (.reg [] [1,2] none []) (.two (.reg [] [1,2,5] none []) (.two (.reg [] [1,5,6,7] none []) (.two (.reg [] [5,6,7,8] none []) (.two (.reg [] [5,6,7,8,9,10] none []) (.two (.two (.reg [] [] (some ⟨[6,7,8,9],[(64,.lf lb)],[],[]⟩) []) (.cond none (.two (.reg [] [4] none []) (.nil)) (.nil))) (.two (.reg [] [6,7,8,9,11] none []) (.two (.reg [] [6,7,8,9,11,12,13] none []) (.two (.two (.reg [] [6,7,8,9,11,12,13,14] none []) (.blk ⟨[6,7,8,9,12,13],[(11,.lf li)],[],[]⟩ (.lp [] ⟨[6,7,8,9,12,13],[(11,.lf li),(14,.lf li)],[],[]⟩ (.two (.two (.reg [] [6,7,8,9,11,12,13,14,74] none []) (.cond none (.nil) (.nil))) (.two (.thru (.two (.reg [] [6,7,8,9,11,12,13,14,15,16] none []) (.two (.two (.reg [] [] (some ⟨[6,7,8,9,11,12,13,14,15],[(103,.lf lb)],[],[]⟩) []) (.cond none (.two (.reg [] [4] none []) (.nil)) (.nil))) (.reg [] [6,7,8,9,11,12,13,14] none [])))) (.reg [] [6,7,8,9,11,12,13,14] none [])))))) (.two (.reg [] [6,7,8,9,11,12,13,17,18] none []) (.two (.reg [] [6,7,8,9,11,12,13,17,18,19,20] none []) (.two (.reg [] [6,9,11,12,13,17,18,19,20,21,22] none []) (.two (.two (.reg [] [] (some ⟨[6,9,12,19,21],[(153,.lf lb)],[],[]⟩) []) (.cond none (.two (.reg [] [4] none []) (.nil)) (.nil))) (.two (.reg [] [6,9,12,19,21,23] none []) (.two (.two (.reg [] [6,9,12,19,21,23,24] none []) (.blk ⟨[6,21],[(23,.own 0)],[],[(0,3,1,none)]⟩ (.lp [.mk 23 3 1] ⟨[6,9,12,19,21],[(23,.own 0),(24,.lf li)],[],[(0,3,1,none)]⟩ (.two (.two (.reg [] [6,9,12,19,21,23,24,157] none []) (.cond none (.nil) (.nil))) (.two (.blk ⟨[6,9,12,19,21,24],[(23,.own 0)],[],[(0,3,1,none)]⟩ (.two (.two (.reg [] [6,9,12,19,21,23,24,172] none []) (.cond none (.two (.reg [] [4] none []) (.nil)) (.nil))) (.two (.two (.reg [] [6,9,12,19,21,23,24,178] none []) (.cond none (.nil) (.nil))) (.two (.two (.reg [] [6,9,12,19,21,23,24,182] none []) (.cond none (.two (.reg [] [4] none []) (.nil)) (.nil))) (.reg [] [6,9,12,19,21,23,24] none []))))) (.reg [] [6,9,12,19,21,23,24] none [])))))) (.two (.two (.reg [] [6,23,195] none []) (.cond none (.two (.reg [] [4] none []) (.nil)) (.nil))) (.two (.two (.reg [] [6,23,198] none []) (.cond none (.two (.reg [] [4] none []) (.nil)) (.nil))) (.two (.reg [] [6,23,25,26] none [(some 202,⟨[],[],[],[]⟩,.rt [.fz 0])]) (.two (.two (.reg [] [6,23,25,26,206] none []) (.cond none (.two (.reg [] [4] none []) (.nil)) (.nil))) (.two (.reg [] [6,23,26,27,28] none []) (.two (.reg [] [4] none []) (.nil))))))))))))))))))))),⟨[.agg [Lf.row 1,Lf.row 3,Lf.row 4,Lf.row 4],.one li],[.one lb]⟩⟩
def fe4:FE:=⟨43,[.tmp 0],.two (.reg [] [] none []) (.two (.reg [] [1] none []) (.two (.reg [] [2,3] none []) (.two (.reg [] [2,3,4] none []) (.two (.reg [] [2,3,5,6] none []) (.two (.reg [] [0] none []) (.nil)))))),⟨[],[.one lb]⟩⟩
def fe5:FE:=⟨214,[.cell 2 30,.cell 3 35],.two (.reg [] [1,2,3] none []) (.two (.reg [] [1,2,3,4] none []) (.two (.two (.reg [] [1,2,3,4,5] none []) (.blk ⟨[1,2,3,4],[],[(3,30,[.own 1,.own 0])],[(0,67,4,none),(1,3,1,none)]⟩ (.lp [.mkb 3 1 67 4,.mkb 3 0 3 1] ⟨[1,2,3,4],[(5,.lf li)],[(3,30,[.own 1,.own 0])],[(0,67,4,none),(1,3,1,none)]⟩ (.two (.two (.reg [] [] (some ⟨[1,2,3,4,5],[(27,.lf lb)],[],[]⟩) []) (.cond none (.nil) (.nil))) (.two (.thru (.reg [] [1,2,3,4,5] none [])) (.reg [] [1,2,3,4,5] none [])))))) (.two (.two (.reg [] [1,2,3,4,6] none []) (.blk ⟨[1,2,3,4],[],[(3,30,[.own 1,.own 0])],[(0,67,4,none),(1,3,1,none)]⟩ (.lp [] ⟨[1,2,3,4],[(6,.lf li)],[(3,30,[.own 1,.own 0])],[(0,67,4,none),(1,3,1,none)]⟩ (.two (.two (.reg [] [1,2,3,4,6,42] none []) (.cond none (.nil) (.nil))) (.two (.thru (.two (.reg [] [1,2,3,4,6,7] none []) (.two (.two (.reg [] [1,2,3,4,6,7,49] none []) (.cond (some ⟨[1,2,3,4,6,7],[],[(4,74,[.lf li,.lf li,.lf li])],[]⟩) (.reg [] [1,2,3,4,6,7] none []) (.nil))) (.reg [] [1,2,3,4,6] none [])))) (.reg [] [1,2,3,4,6] none [])))))) (.two (.reg [] [1,2,3,4,8] none []) (.two (.two (.reg [] [1,2,3,4,8,9] none []) (.blk ⟨[1,2,3,4,8],[],[(4,71,[.lf li,.lf li,.lf li,.lf li,.lf li,.lf li,.lf li,.lf li,.lf li,.lf li,.lf li,.lf li,.lf li,.lf li,.lf li,.lf li,.lf li,.lf li,.lf li,.lf li,.lf li,.lf li,.lf li,.lf li])],[]⟩ (.lp [] ⟨[1,2,3,4,8],[(9,.lf li)],[(4,71,[.lf li,.lf li,.lf li,.lf li,.lf li,.lf li,.lf li,.lf li,.lf li,.lf li,.lf li,.lf li,.lf li,.lf li,.lf li,.lf li,.lf li,.lf li,.lf li,.lf li,.lf li,.lf li,.lf li,.lf li])],[]⟩ (.two (.two (.reg [] [1,2,3,4,8,9,79] none []) (.cond none (.nil) (.nil))) (.two (.thru (.two (.reg [] [] (some ⟨[1,2,3,4,8,9],[],[(4,71,[.lf li,.lf li,.lf li,.lf li,.lf li,.lf li,.lf li,.lf li,.lf li,.lf li,.lf li,.lf li,.lf li,.lf li,.lf li,.lf li,.lf li,.lf li,.lf li,.lf li,.lf li,.lf li,.lf li,.lf li])],[]⟩) []) (.reg [] [] (some ⟨[1,2,3,4,8,9],[],[(4,71,[.lf li,.lf li,.lf li,.lf li,.lf li,.lf li,.lf li,.lf li,.lf li,.lf li,.lf li,.lf li,.lf li,.lf li,.lf li,.lf li,.lf li,.lf li,.lf li,.lf li,.lf li,.lf li,.lf li,.lf li])],[]⟩) []))) (.reg [] [1,2,3,4,8,9] none [])))))) (.two (.reg [] [1,2,3,4,10] none []) (.two (.two (.reg [] [1,2,3,4,10,11] none []) (.blk ⟨[1,2,3,4,10],[],[(5,35,[.own 2,.own 4,.own 3])],[(2,71,24,none),(3,77,7,none),(4,73,9,none)]⟩ (.lp [.mkb 5 2 77 7,.mkb 5 1 73 9] ⟨[1,2,3,4,10],[(11,.lf li)],[(5,35,[.own 2,.own 4,.own 3])],[(2,71,24,none),(3,77,7,none),(4,73,9,none)]⟩ (.two (.two (.reg [] [] (some ⟨[1,2,3,4,10,11],[(103,.lf lb)],[],[]⟩) []) (.cond none (.nil) (.nil))) (.two (.thru (.two (.reg [] [1,2,3,4,10,11,12] none []) (.two (.reg [] [1,2,3,4,10,11,12,13] none []) (.two (.reg [] [1,2,3,4,10,11,12,13,14] none []) (.reg [] [1,2,3,4,10,11] none []))))) (.reg [] [1,2,3,4,10,11] none [])))))) (.two (.two (.reg [] [1,2,3,4,10,15] none []) (.blk ⟨[2,3,4,10],[],[(5,35,[.own 2,.own 4,.own 3])],[(2,71,24,none),(3,77,7,none),(4,73,9,none)]⟩ (.lp [] ⟨[1,2,3,4,10],[(15,.lf li)],[(5,35,[.own 2,.own 4,.own 3])],[(2,71,24,none),(3,77,7,none),(4,73,9,none)]⟩ (.two (.two (.reg [] [] (some ⟨[1,2,3,4,10,15],[(158,.lf lb)],[],[]⟩) []) (.cond none (.nil) (.nil))) (.two (.thru (.two (.reg [] [1,2,3,4,10,15,16] none []) (.two (.reg [] [1,2,3,4,10,15,16,17] none []) (.two (.reg [] [1,2,3,4,10,15,16,18] none []) (.two (.reg [] [1,2,3,4,10,15,16,18] none []) (.two (.two (.reg [] [1,2,3,4,10,15,16,18,200] none []) (.cond (some ⟨[1,2,3,4,10,15,18],[],[(8,77,[.lf li,.lf li,.lf li,.lf li,.lf li,.lf li,.lf li])],[]⟩) (.reg [] [1,2,3,4,10,15,18] none []) (.nil))) (.reg [] [1,2,3,4,10,15] none []))))))) (.reg [] [1,2,3,4,10,15] none [])))))) (.two (.reg [] [2,3] none []) (.nil)))))))))),⟨[.agg [Lf.row 1,Lf.row 3,Lf.row 4,Lf.row 4]],[.agg [Lf.row 1,Lf.row 4],.agg [Lf.row 24,Lf.row 9,Lf.row 7]]⟩⟩
def fe6:FE:=⟨12,[.tmp 4],.two (.reg [] [0,1] none []) (.two (.reg [] [4] none []) (.nil)),⟨[.one li,.one li],[.one li]⟩⟩
def fe7:FE:=⟨72,[.tmp 4,.tmp 5],.two (.reg [] [1,2] none []) (.two (.reg [] [1,2,6] none []) (.two (.reg [] [1,2,6,7,8] none []) (.two (.two (.reg [] [1,2,6,7,8,9] none []) (.blk ⟨[8],[(6,.own 0)],[],[(0,56,3,none)]⟩ (.lp [.mk 6 56 3] ⟨[1,2,7,8],[(6,.own 0),(9,.lf li)],[],[(0,56,3,none)]⟩ (.two (.two (.reg [] [1,2,6,7,8,9,24] none []) (.cond none (.nil) (.nil))) (.two (.blk ⟨[1,2,7,8,9],[(6,.own 0)],[],[(0,56,3,none)]⟩ (.two (.reg [] [1,2,6,7,8,9,10] none []) (.two (.two (.reg [] [1,2,6,7,8,9,10,36] none []) (.cond none (.nil) (.nil))) (.two (.reg [] [1,2,6,7,8,9,10,11,12] none []) (.two (.two (.reg [] [1,2,6,7,8,9,10,11,46] none []) (.cond none (.two (.reg [] [4,5] none []) (.nil)) (.nil))) (.two (.reg [] [1,2,6,7,8,9,11,13] none []) (.two (.two (.reg [] [1,2,6,7,8,9,11,13,54] none []) (.cond (some ⟨[1,2,6,7,8,9,13],[],[(3,56,[.lf li,.lf li,.lf li])],[]⟩) (.reg [] [1,2,6,7,8,9,13] none []) (.two (.reg [] [1,2,6,7,8,9,11,13,61] none []) (.cond (some ⟨[1,2,6,7,8,9,13],[],[(3,56,[.lf li,.lf li,.lf li])],[]⟩) (.reg [] [1,2,6,7,8,9,13] none []) (.nil))))) (.reg [] [1,2,6,7,8,9] none [])))))))) (.reg [] [1,2,6,7,8,9] none [])))))) (.two (.reg [] [4,5] none []) (.nil))))),⟨[.agg [Lf.row 24,Lf.row 9,Lf.row 7],.one li],[.one (Lf.row 3),.one lb]⟩⟩
def fe8:FE:=⟨21,[.tmp 2],.two (.reg [] [1] none []) (.two (.reg [] [1,3] none []) (.two (.two (.reg [] [] (some ⟨[],[(20,.lf lb)],[],[]⟩) []) (.cond none (.two (.reg [] [2] none []) (.nil)) (.nil))) (.two (.reg [] [2] none []) (.nil)))),⟨[.agg [Lf.row 24,Lf.row 9,Lf.row 7]],[.one li]⟩⟩
def fe9:FE:=⟨42,[.tmp 2],.two (.reg [] [1] none []) (.two (.two (.reg [] [] (some ⟨[1],[(13,.lf lb)],[],[]⟩) []) (.cond none (.two (.reg [] [2] none []) (.nil)) (.nil))) (.two (.two (.reg [] [1,15,16,17] none []) (.blk ⟨[],[],[],[]⟩ (.lp [] ⟨[1,15,16],[(17,.lf li)],[],[]⟩ (.two (.reg [] [1,15,16,17,18] none []) (.two (.cond none (.nil) (.nil)) (.two (.thru (.two (.reg [] [1,3,4,15,16,17] none []) (.two (.reg [] [] (some ⟨[1,15,16,17],[(40,.lf lb)],[],[]⟩) []) (.cond none (.two (.reg [] [2] none []) (.nil)) (.nil))))) (.reg [] [1,15,16,17] none []))))))) (.two (.reg [] [2] none []) (.nil)))),⟨[.agg [Lf.row 1,Lf.row 4]],[.one li]⟩⟩
def aFz:FE:=⟨14,[.tmp 4],.two (.reg [] [1,2] none []) (.two (.reg [] [6] none []) (.two (.reg [] [4] none []) (.nil))),⟨[.agg [Lf.row 1,Lf.row 4],.one (Lf.row 3)],[.one li]⟩⟩
def aFA:FE:=⟨18,[.tmp 4,.tmp 5],.two (.reg [] [1,2] none []) (.two (.two (.reg [] [1,2,6] none []) (.two (.reg [] [1,2,6,12] none []) (.cond none (.two (.reg [] [4,5] none []) (.nil)) (.nil)))) (.two (.reg [] [4,5] none []) (.nil))),⟨[.agg [Lf.row 24,Lf.row 9,Lf.row 7],.one li],[.one (Lf.row 1),.one li]⟩⟩
def aEP:FE:=⟨29,[.cell 6 49,.tmp 7],.two (.reg [] [1,2,3,6] none []) (.two (.reg [] [2,3,6,8,9] none []) (.two (.two (.reg [] [2,3,6,8,9,18] none []) (.cond none (.two (.reg [] [6,7] none []) (.nil)) (.nil))) (.two (.reg [] [6,7] none []) (.nil)))),⟨[.agg [Lf.row 24,Lf.row 9,Lf.row 7],.one li,.one li],[.agg [li,li,li],.one li]⟩⟩
def aFB:FE:=⟨26,[.tmp 6,.tmp 7],.two (.reg [] [1,2,3] none []) (.two (.reg [] [1,2,8,9] none []) (.two (.two (.reg [] [1,2,8,9,17] none []) (.cond none (.two (.reg [] [6,7] none []) (.nil)) (.nil))) (.two (.two (.reg [] [1,2,8,21] none []) (.cond none (.two (.reg [] [6,7] none []) (.nil)) (.nil))) (.two (.reg [] [6,7] none [(some 22,⟨[],[],[],[]⟩,.rf (some 8))]) (.nil))))),⟨[.agg [Lf.row 1,Lf.row 4],.one (Lf.row 3),.one li],[.one li,.one li]⟩⟩
def aFC:FE:=⟨25,[.tmp 6,.tmp 7],.two (.reg [] [1,2,3] none []) (.two (.two (.reg [] [1,2,9] none []) (.two (.reg [] [1,2,9,17] none []) (.cond none (.two (.reg [] [6,7] none []) (.nil)) (.nil)))) (.two (.two (.reg [] [1,2,21] none []) (.cond none (.two (.reg [] [6,7] none []) (.nil)) (.nil))) (.two (.reg [] [6,7] none []) (.nil)))),⟨[.agg [Lf.row 1,Lf.row 4],.one (Lf.row 3),.one li],[.one (Lf.row 1),.one li]⟩⟩
def aFD:FE:=⟨18,[.tmp 4,.tmp 5],.two (.reg [] [2,3] none []) (.two (.two (.reg [] [2,3,6] none []) (.two (.reg [] [2,3,6,12] none []) (.cond none (.two (.reg [] [4,5] none []) (.nil)) (.nil)))) (.two (.reg [] [4,5] none [(some 17,⟨[],[],[],[]⟩,.rt [.fb 1])]) (.nil))),⟨[.agg [Lf.row 24,Lf.row 9,Lf.row 7],.one li],[.one (Lf.row 1),.one li]⟩⟩
def aFE:FE:=⟨18,[.tmp 4],.two (.reg [] [0,1] none []) (.two (.two (.reg [] [0,1,5] none []) (.blk ⟨[],[],[],[]⟩ (.lp [] ⟨[0,1],[(5,.lf li)],[],[]⟩ (.two (.two (.reg [] [0,1,5,9] none []) (.cond none (.nil) (.nil))) (.two (.thru (.two (.reg [] [0,1,5,17] none []) (.cond none (.two (.reg [] [4] none []) (.nil)) (.nil)))) (.reg [] [0,1,5] none [])))))) (.two (.reg [] [4] none []) (.nil))),⟨[.one (Lf.row 1),.one li],[.one lb]⟩⟩
def aFF:FE:=⟨28,[.tmp 4,.tmp 5],.two (.reg [] [1,2] none []) (.two (.reg [] [1,6,7] none []) (.two (.two (.reg [] [1,6,7,17] none []) (.cond none (.two (.reg [] [4,5] none []) (.nil)) (.nil))) (.two (.reg [] [8,9] none [(some 20,⟨[],[],[],[]⟩,.rf (some 6))]) (.two (.two (.reg [] [8,26] none []) (.cond none (.two (.reg [] [4,5] none []) (.nil)) (.nil))) (.two (.reg [] [4,5] none []) (.nil)))))),⟨[.agg [Lf.row 1,Lf.row 4],.one (Lf.row 1)],[.one (Lf.row 1),.one li]⟩⟩
def aFG:FE:=⟨29,[.tmp 6],.two (.reg [] [1,2,3] none []) (.two (.reg [] [1,2,7,8] none []) (.two (.two (.reg [] [1,2,7,8,18] none []) (.cond none (.two (.reg [] [6] none []) (.nil)) (.nil))) (.two (.two (.reg [] [10] none [(some 21,⟨[],[],[],[]⟩,.rf (some 7))]) (.two (.reg [] [28] none []) (.cond none (.two (.reg [] [6] none []) (.nil)) (.nil)))) (.two (.reg [] [6] none []) (.nil))))),⟨[.agg [Lf.row 1,Lf.row 4],.one (Lf.row 1),.one (Lf.row 1)],[.one li]⟩⟩
def aFH:FE:=⟨82,[.cell 4 61,.cell 5 42],.two (.reg [] [1,2,4,5] none []) (.two (.reg [] [1,4,5,6,7] none []) (.two (.two (.reg [] [1,4,5,6,7,20] none []) (.cond none (.two (.reg [] [4,5] none []) (.nil)) (.nil))) (.two (.reg [] [1,4,5,6,8] none [(some 23,⟨[],[],[],[]⟩,.rf (some 6))]) (.two (.two (.reg [] [1,4,5,6,8,32] none [(some 32,⟨[1,4,5,6,8],[(32,.lf lb)],[],[(0,11534451,11,some 0)]⟩,.two (.reg [] [0,1,2] none []) (.two (.reg [] [0,1,2,7] none []) (.two (.two (.reg [] [0,1,2,7,12,13,14] none []) (.blk ⟨[0,1,2,7],[],[(4,152,[.lf li,.lf li,.lf li,.lf li,.lf li,.lf li,.lf li,.lf li,.lf li,.lf li])],[]⟩ (.lp [] ⟨[0,1,2,7,12,13],[(14,.lf li)],[(4,152,[.lf li,.lf li,.lf li,.lf li,.lf li,.lf li,.lf li,.lf li,.lf li,.lf li])],[]⟩ (.two (.reg [] [0,1,2,7,12,13,14,15] none []) (.two (.cond none (.nil) (.nil)) (.two (.thru (.two (.reg [] [0,1,2,7,9,12,13,14] none []) (.reg [] [0,1,2,7,12,13,14] none []))) (.reg [] [0,1,2,7,12,13,14] none []))))))) (.two (.reg [] [0,1,2,7,10,11] none []) (.two (.two (.reg [] [0,1,2,7,10,31] none []) (.cond (some ⟨[],[(10,.lf lb)],[],[(0,11534451,11,some 0)]⟩) (.two (.reg [] [2,7,10] none []) (.reg [] [10] none [])) (.nil))) (.two (.reg [] [6] none []) (.nil)))))))]) (.cond none (.two (.reg [] [4,5] none []) (.nil)) (.nil))) (.two (.two (.reg [] [1,4,5,6,8,36] none []) (.rg (.clo [.one (Lf.row 1)]) ⟨[1,4,5,6,8,36],[],[(1,61,[.lf li,.lf (Lf.row 1)]),(2,42,[.lf li])],[]⟩ (.reg [] [1,4,5,6,8,9] none []) (.thru (.two (.reg [] [4,5,9,40] none [(some 40,⟨[4,5,9],[(40,.lf lb)],[],[]⟩,.two (.reg [] [2,3] none []) (.two (.reg [] [4] none [(some 16,⟨[8],[(16,.lf lb)],[],[]⟩,.two (.reg [] [0,1] none []) (.two (.reg [] [4] none [(some 7,⟨[],[(7,.lf li)],[],[]⟩,.two (.reg [] [0,1] none []) (.two (.two (.reg [] [0,1,7,8] none []) (.blk ⟨[],[],[],[]⟩ (.lp [] ⟨[0,1,7],[(8,.lf li)],[],[]⟩ (.two (.reg [] [0,1,7,8,9] none []) (.two (.cond none (.nil) (.nil)) (.two (.thru (.two (.reg [] [0,1,5,7,8] none []) (.two (.reg [] [0,1,5,7,8,16] none [(some 16,⟨[0,1,5,7,8],[(16,.lf lb)],[],[]⟩,.two (.reg [] [0,1,2] none []) (.two (.reg [] [4] none []) (.nil)))]) (.cond none (.two (.reg [] [4] none []) (.nil)) (.nil))))) (.reg [] [0,1,7,8] none []))))))) (.two (.reg [] [4] none []) (.nil))))]) (.nil)))]) (.nil)))]) (.cond none (.two (.reg [] [4,5] none []) (.nil)) (.nil)))))) (.two (.reg [] [1,4,5,6,8,10] none []) (.two (.two (.reg [] [1,4,5,6,8,10,44,45] none []) (.blk ⟨[1,4,5,6,8],[(10,.own 1)],[],[(1,3,1,none)]⟩ (.lp [.mk 10 3 1] ⟨[1,4,5,6,8,44],[(10,.own 1),(45,.lf li)],[],[(1,3,1,none)]⟩ (.two (.reg [] [1,4,5,6,8,10,44,45,46] none []) (.two (.cond none (.nil) (.nil)) (.two (.thru (.two (.reg [] [1,4,5,6,8,10,11,44,45] none []) (.reg [] [1,4,5,6,8,10,44,45] none []))) (.reg [] [1,4,5,6,8,10,44,45] none []))))))) (.two (.two (.reg [.fz 1] [1,4,5,6,8,10,55] none [(some 55,⟨[1,4,5,6,8,10],[(55,.lf lb)],[],[]⟩,.two (.reg [] [1,2] none []) (.two (.reg [] [1,2,5] none []) (.two (.two (.reg [] [1,2,5,13,14,15] none []) (.blk ⟨[1,2],[(5,.lf li)],[],[]⟩ (.lp [] ⟨[1,2,13,14],[(5,.lf li),(15,.lf li)],[],[]⟩ (.two (.reg [] [1,2,5,13,14,15,16] none []) (.two (.cond none (.nil) (.nil)) (.two (.thru (.two (.reg [] [1,2,5,7,13,14,15] none []) (.reg [] [1,2,5,13,14,15] none []))) (.reg [] [1,2,5,13,14,15] none []))))))) (.two (.reg [] [4] none []) (.nil)))))]) (.cond none (.two (.reg [] [4,5] none [(some 59,⟨[4,5],[(59,.lf (Lf.row 1))],[],[]⟩,.two (.reg [] [0,1] none []) (.two (.two (.reg [] [0,1,5] none []) (.blk ⟨[],[(0,.lf (Lf.row 1))],[],[]⟩ (.lp [] ⟨[1],[(0,.lf (Lf.row 1)),(5,.lf li)],[],[]⟩ (.two (.two (.reg [] [0,1,5,11] none []) (.cond none (.nil) (.nil))) (.two (.thru (.two (.reg [] [0,1,5,6] none [(some 15,⟨[0,1,5],[(15,.own 2)],[],[(2,3,1,none)]⟩,.two (.reg [] [0] none []) (.two (.two (.reg [] [0,4] none []) (.cond none (.two (.reg [] [2] none []) (.rt [.mk 2 3 1])) (.nil))) (.two (.reg [] [2] none []) (.nil)))),(some 19,⟨[],[],[],[]⟩,.mt true)]) (.two (.reg [.fz 2] [0,1,5,6,22] none [(some 22,⟨[0,1,5,6],[(22,.lf lb)],[],[]⟩,.two (.reg [] [1,2] none []) (.two (.reg [] [1,2,5] none []) (.two (.two (.reg [] [1,2,5,13,14,15] none []) (.blk ⟨[1,2],[(5,.lf li)],[],[]⟩ (.lp [] ⟨[1,2,13,14],[(5,.lf li),(15,.lf li)],[],[]⟩ (.two (.reg [] [1,2,5,13,14,15,16] none []) (.two (.cond none (.nil) (.nil)) (.two (.thru (.two (.reg [] [1,2,5,7,13,14,15] none []) (.reg [] [1,2,5,13,14,15] none []))) (.reg [] [1,2,5,13,14,15] none []))))))) (.two (.reg [] [4] none []) (.nil)))))]) (.cond (some ⟨[1,5],[(0,.lf (Lf.row 1))],[],[]⟩) (.reg [] [0,1,5] none []) (.nil))))) (.reg [] [0,1,5] none [])))))) (.two (.reg [] [4] none []) (.nil))))]) (.nil)) (.nil))) (.two (.two (.reg [] [4,5,8,10,70] none []) (.rg (.clo [.one (Lf.row 1)]) ⟨[4,5,8,10,70],[],[(1,61,[.lf li,.lf (Lf.row 1)]),(2,42,[.lf li])],[]⟩ (.reg [] [4,5,8,10,12] none []) (.thru (.two (.reg [] [4,5,12,74] none [(some 74,⟨[4,5,12],[(74,.lf lb)],[],[]⟩,.two (.reg [] [1,2] none []) (.two (.two (.reg [] [1,2,9,10,11] none []) (.blk ⟨[1,2],[],[],[]⟩ (.lp [] ⟨[1,2,9,10],[(11,.lf li)],[],[]⟩ (.two (.reg [] [1,2,9,10,11,12] none []) (.two (.cond none (.nil) (.nil)) (.two (.thru (.two (.reg [] [1,2,5,6,9,10,11] none []) (.two (.reg [] [1,2,6,9,10,11,18,19,20] none []) (.blk ⟨[1,2,9,10,11],[],[],[]⟩ (.lp [] ⟨[1,2,6,9,10,11,18,19],[(20,.lf li)],[],[]⟩ (.two (.reg [] [1,2,6,9,10,11,18,19,20,21] none []) (.two (.cond none (.nil) (.nil)) (.two (.thru (.two (.reg [] [1,2,6,8,9,10,11,18,19,20] none []) (.two (.reg [] [1,2,6,9,10,11,18,19,20,37] none []) (.cond none (.two (.reg [] [4] none []) (.nil)) (.nil))))) (.reg [] [1,2,6,9,10,11,18,19,20] none []))))))))) (.reg [] [1,2,9,10,11] none []))))))) (.two (.reg [] [4] none []) (.nil))))]) (.cond none (.two (.reg [] [4,5] none []) (.nil)) (.nil)))))) (.two (.reg [] [4,5] none [(some 80,⟨[4,5],[(80,.lf (Lf.row 1))],[],[(0,11534451,11,some 0)]⟩,.two (.reg [] [0,1] none []) (.two (.two (.reg [] [0,1,5] none []) (.blk ⟨[],[(0,.lf (Lf.row 1))],[],[(0,11534451,11,some 0)]⟩ (.lp [] ⟨[1],[(0,.lf (Lf.row 1)),(5,.lf li)],[],[(0,11534451,11,some 0)]⟩ (.two (.two (.reg [] [0,1,5,11] none []) (.cond none (.nil) (.nil))) (.two (.thru (.two (.reg [] [0,1,5,6] none [(some 15,⟨[0,1,5],[(15,.own 2)],[],[(2,3,1,none)]⟩,.two (.reg [] [0] none []) (.two (.two (.reg [] [0,4] none []) (.cond none (.two (.reg [] [2] none []) (.rt [.mk 2 3 1])) (.nil))) (.two (.reg [] [2] none []) (.nil)))),(some 19,⟨[],[],[],[]⟩,.mt true)]) (.two (.reg [.fz 2] [0,1,5,6,22] none [(some 22,⟨[0,1,5,6],[(22,.lf lb)],[],[(0,11534451,11,some 0)]⟩,.two (.reg [] [1,2] none []) (.two (.reg [] [4] none [(some 12,⟨[],[(12,.lf lb)],[],[(0,11534451,11,some 0)]⟩,.two (.reg [] [0,1,2] none []) (.two (.reg [] [0,1,2,7] none []) (.two (.two (.reg [] [0,1,2,7,12,13,14] none []) (.blk ⟨[0,1,2,7],[],[(5,152,[.lf li,.lf li,.lf li,.lf li,.lf li,.lf li,.lf li,.lf li,.lf li,.lf li])],[]⟩ (.lp [] ⟨[0,1,2,7,12,13],[(14,.lf li)],[(5,152,[.lf li,.lf li,.lf li,.lf li,.lf li,.lf li,.lf li,.lf li,.lf li,.lf li])],[]⟩ (.two (.reg [] [0,1,2,7,12,13,14,15] none []) (.two (.cond none (.nil) (.nil)) (.two (.thru (.two (.reg [] [0,1,2,7,9,12,13,14] none []) (.reg [] [0,1,2,7,12,13,14] none []))) (.reg [] [0,1,2,7,12,13,14] none []))))))) (.two (.reg [] [0,1,2,7,10,11] none []) (.two (.two (.reg [] [0,1,2,7,10,31] none []) (.cond (some ⟨[],[(10,.lf lb)],[],[(0,11534451,11,some 0)]⟩) (.two (.reg [] [2,7,10] none []) (.reg [] [10] none [])) (.nil))) (.two (.reg [] [6] none []) (.nil)))))))]) (.nil)))]) (.cond (some ⟨[1,5],[(0,.lf (Lf.row 1))],[],[]⟩) (.reg [] [0,1,5] none []) (.nil))))) (.reg [] [0,1,5] none [])))))) (.two (.reg [] [4] none []) (.nil))))]) (.nil))))))))))),⟨[.agg [Lf.row 1,Lf.row 4],.one (Lf.row 1)],[.agg [li,Lf.row 1],.one li]⟩⟩
def aFI:FE:=⟨108,[.tmp 6],.two (.reg [] [1,3,5] none []) (.two (.reg [] [1,5,7,8] none []) (.two (.two (.reg [] [1,5,7,8,20] none []) (.cond none (.two (.reg [] [6] none []) (.nil)) (.nil))) (.two (.reg [] [1,5,9] none [(some 22,⟨[],[],[],[]⟩,.rf (some 7))]) (.two (.two (.reg [] [1,5,9,27,28,29] none []) (.blk ⟨[5,9],[],[],[]⟩ (.lp [] ⟨[1,5,9,27,28],[(29,.lf li)],[],[]⟩ (.two (.reg [] [1,5,9,27,28,29,30] none []) (.two (.cond none (.nil) (.nil)) (.two (.thru (.two (.reg [] [1,5,9,10,11,27,28,29] none []) (.two (.reg [] [] (some ⟨[1,5,9,27,28,29],[(53,.lf lb)],[],[]⟩) []) (.cond none (.two (.reg [] [6] none []) (.nil)) (.nil))))) (.reg [] [1,5,9,27,28,29] none []))))))) (.two (.two (.reg [] [] (some ⟨[5,9],[(77,.lf lb)],[],[(0,11534451,11,some 0)]⟩) [(some 75,⟨[5,9,65],[(75,.lf lb)],[],[(0,11534451,11,some 0)]⟩,.alt 51 (.two (.reg [] [2,3] none []) (.two (.reg [] [4] none [(some 16,⟨[8],[(16,.lf lb)],[],[]⟩,.two (.reg [] [0,1] none []) (.two (.reg [] [4] none [(some 7,⟨[],[(7,.lf li)],[],[]⟩,.two (.reg [] [0,1] none []) (.two (.two (.reg [] [0,1,7,8] none []) (.blk ⟨[],[],[],[]⟩ (.lp [] ⟨[0,1,7],[(8,.lf li)],[],[]⟩ (.two (.reg [] [0,1,7,8,9] none []) (.two (.cond none (.nil) (.nil)) (.two (.thru (.two (.reg [] [0,1,5,7,8] none []) (.two (.reg [] [0,1,5,7,8,16] none [(some 16,⟨[0,1,5,7,8],[(16,.lf lb)],[],[]⟩,.two (.reg [] [0,1,2] none []) (.two (.reg [] [4] none []) (.nil)))]) (.cond none (.two (.reg [] [4] none []) (.nil)) (.nil))))) (.reg [] [0,1,7,8] none []))))))) (.two (.reg [] [4] none []) (.nil))))]) (.nil)))]) (.nil))) (.alt 52 (.two (.reg [] [1,2] none []) (.two (.reg [] [1,2,5] none []) (.two (.two (.reg [] [1,2,5,13,14,15] none []) (.blk ⟨[1,2],[(5,.lf li)],[],[]⟩ (.lp [] ⟨[1,2,13,14],[(5,.lf li),(15,.lf li)],[],[]⟩ (.two (.reg [] [1,2,5,13,14,15,16] none []) (.two (.cond none (.nil) (.nil)) (.two (.thru (.two (.reg [] [1,2,5,7,13,14,15] none []) (.reg [] [1,2,5,13,14,15] none []))) (.reg [] [1,2,5,13,14,15] none []))))))) (.two (.reg [] [4] none []) (.nil))))) (.alt 54 (.two (.reg [] [1,2] none []) (.two (.two (.reg [] [1,2,9,10,11] none []) (.blk ⟨[1,2],[],[],[]⟩ (.lp [] ⟨[1,2,9,10],[(11,.lf li)],[],[]⟩ (.two (.reg [] [1,2,9,10,11,12] none []) (.two (.cond none (.nil) (.nil)) (.two (.thru (.two (.reg [] [1,2,5,6,9,10,11] none []) (.two (.reg [] [1,2,6,9,10,11,18,19,20] none []) (.blk ⟨[1,2,9,10,11],[],[],[]⟩ (.lp [] ⟨[1,2,6,9,10,11,18,19],[(20,.lf li)],[],[]⟩ (.two (.reg [] [1,2,6,9,10,11,18,19,20,21] none []) (.two (.cond none (.nil) (.nil)) (.two (.thru (.two (.reg [] [1,2,6,8,9,10,11,18,19,20] none []) (.two (.reg [] [1,2,6,9,10,11,18,19,20,37] none []) (.cond none (.two (.reg [] [4] none []) (.nil)) (.nil))))) (.reg [] [1,2,6,9,10,11,18,19,20] none []))))))))) (.reg [] [1,2,9,10,11] none []))))))) (.two (.reg [] [4] none []) (.nil)))) (.two (.reg [] [1,2] none []) (.two (.reg [] [4] none [(some 12,⟨[],[(12,.lf lb)],[],[(0,11534451,11,some 0)]⟩,.two (.reg [] [0,1,2] none []) (.two (.reg [] [0,1,2,7] none []) (.two (.two (.reg [] [0,1,2,7,12,13,14] none []) (.blk ⟨[0,1,2,7],[],[(5,152,[.lf li,.lf li,.lf li,.lf li,.lf li,.lf li,.lf li,.lf li,.lf li,.lf li])],[]⟩ (.lp [] ⟨[0,1,2,7,12,13],[(14,.lf li)],[(5,152,[.lf li,.lf li,.lf li,.lf li,.lf li,.lf li,.lf li,.lf li,.lf li,.lf li])],[]⟩ (.two (.reg [] [0,1,2,7,12,13,14,15] none []) (.two (.cond none (.nil) (.nil)) (.two (.thru (.two (.reg [] [0,1,2,7,9,12,13,14] none []) (.reg [] [0,1,2,7,12,13,14] none []))) (.reg [] [0,1,2,7,12,13,14] none []))))))) (.two (.reg [] [0,1,2,7,10,11] none []) (.two (.two (.reg [] [0,1,2,7,10,31] none []) (.cond (some ⟨[],[(10,.lf lb)],[],[(0,11534451,11,some 0)]⟩) (.two (.reg [] [2,7,10] none []) (.reg [] [10] none [])) (.nil))) (.two (.reg [] [6] none []) (.nil)))))))]) (.nil))))))]) (.cond none (.two (.reg [] [6] none []) (.nil)) (.nil))) (.two (.two (.reg [] [] (some ⟨[5,9],[(85,.lf lb)],[],[]⟩) []) (.cond (some ⟨[],[],[],[(0,11534451,11,some 0)]⟩) (.two (.reg [] [5,9,88,89] none []) (.blk ⟨[],[],[],[(0,11534451,11,some 0)]⟩ (.lp [] ⟨[5,9,88],[(89,.lf li)],[],[(0,11534451,11,some 0)]⟩ (.two (.reg [] [5,9,88,89,90] none []) (.two (.cond none (.nil) (.nil)) (.two (.thru (.two (.reg [] [5,9,12,88,89] none []) (.two (.reg [] [5,9,88,89,106] none [(some 106,⟨[5,9,88,89],[(106,.lf lb)],[],[(0,11534451,11,some 0)]⟩,.pre [.fz 1] (.alt 51 (.two (.reg [] [2,3] none []) (.two (.reg [] [4] none [(some 16,⟨[8],[(16,.lf lb)],[],[]⟩,.two (.reg [] [0,1] none []) (.two (.reg [] [4] none [(some 7,⟨[],[(7,.lf li)],[],[]⟩,.two (.reg [] [0,1] none []) (.two (.two (.reg [] [0,1,7,8] none []) (.blk ⟨[],[],[],[]⟩ (.lp [] ⟨[0,1,7],[(8,.lf li)],[],[]⟩ (.two (.reg [] [0,1,7,8,9] none []) (.two (.cond none (.nil) (.nil)) (.two (.thru (.two (.reg [] [0,1,5,7,8] none []) (.two (.reg [] [0,1,5,7,8,16] none [(some 16,⟨[0,1,5,7,8],[(16,.lf lb)],[],[]⟩,.two (.reg [] [0,1,2] none []) (.two (.reg [] [4] none []) (.nil)))]) (.cond none (.two (.reg [] [4] none []) (.nil)) (.nil))))) (.reg [] [0,1,7,8] none []))))))) (.two (.reg [] [4] none []) (.nil))))]) (.nil)))]) (.nil))) (.alt 52 (.two (.reg [] [1,2] none []) (.two (.reg [] [1,2,5] none []) (.two (.two (.reg [] [1,2,5,13,14,15] none []) (.blk ⟨[1,2],[(5,.lf li)],[],[]⟩ (.lp [] ⟨[1,2,13,14],[(5,.lf li),(15,.lf li)],[],[]⟩ (.two (.reg [] [1,2,5,13,14,15,16] none []) (.two (.cond none (.nil) (.nil)) (.two (.thru (.two (.reg [] [1,2,5,7,13,14,15] none []) (.reg [] [1,2,5,13,14,15] none []))) (.reg [] [1,2,5,13,14,15] none []))))))) (.two (.reg [] [4] none []) (.nil))))) (.alt 54 (.two (.reg [] [1,2] none []) (.two (.two (.reg [] [1,2,9,10,11] none []) (.blk ⟨[1,2],[],[],[]⟩ (.lp [] ⟨[1,2,9,10],[(11,.lf li)],[],[]⟩ (.two (.reg [] [1,2,9,10,11,12] none []) (.two (.cond none (.nil) (.nil)) (.two (.thru (.two (.reg [] [1,2,5,6,9,10,11] none []) (.two (.reg [] [1,2,6,9,10,11,18,19,20] none []) (.blk ⟨[1,2,9,10,11],[],[],[]⟩ (.lp [] ⟨[1,2,6,9,10,11,18,19],[(20,.lf li)],[],[]⟩ (.two (.reg [] [1,2,6,9,10,11,18,19,20,21] none []) (.two (.cond none (.nil) (.nil)) (.two (.thru (.two (.reg [] [1,2,6,8,9,10,11,18,19,20] none []) (.two (.reg [] [1,2,6,9,10,11,18,19,20,37] none []) (.cond none (.two (.reg [] [4] none []) (.nil)) (.nil))))) (.reg [] [1,2,6,9,10,11,18,19,20] none []))))))))) (.reg [] [1,2,9,10,11] none []))))))) (.two (.reg [] [4] none []) (.nil)))) (.two (.reg [] [1,2] none []) (.two (.reg [] [4] none [(some 12,⟨[],[(12,.lf lb)],[],[(0,11534451,11,some 0)]⟩,.two (.reg [] [0,1,2] none []) (.two (.reg [] [0,1,2,7] none []) (.two (.two (.reg [] [0,1,2,7,12,13,14] none []) (.blk ⟨[0,1,2,7],[],[(5,152,[.lf li,.lf li,.lf li,.lf li,.lf li,.lf li,.lf li,.lf li,.lf li,.lf li])],[]⟩ (.lp [] ⟨[0,1,2,7,12,13],[(14,.lf li)],[(5,152,[.lf li,.lf li,.lf li,.lf li,.lf li,.lf li,.lf li,.lf li,.lf li,.lf li])],[]⟩ (.two (.reg [] [0,1,2,7,12,13,14,15] none []) (.two (.cond none (.nil) (.nil)) (.two (.thru (.two (.reg [] [0,1,2,7,9,12,13,14] none []) (.reg [] [0,1,2,7,12,13,14] none []))) (.reg [] [0,1,2,7,12,13,14] none []))))))) (.two (.reg [] [0,1,2,7,10,11] none []) (.two (.two (.reg [] [0,1,2,7,10,31] none []) (.cond (some ⟨[],[(10,.lf lb)],[],[(0,11534451,11,some 0)]⟩) (.two (.reg [] [2,7,10] none []) (.reg [] [10] none [])) (.nil))) (.two (.reg [] [6] none []) (.nil)))))))]) (.nil)))))))]) (.cond none (.two (.reg [] [6] none []) (.nil)) (.nil))))) (.reg [] [5,9,88,89] none []))))))) (.nil))) (.two (.reg [] [6] none []) (.nil)))))))),⟨[.agg [Lf.row 1,Lf.row 4],.one (Lf.row 1),.agg [li,Lf.row 1]],[.one li]⟩⟩
def aFJ:FE:=⟨25,[.cell 6 79,.tmp 7],.two (.reg [] [1,2,3,6] none []) (.two (.reg [] [2,3,6,8,9] none []) (.two (.two (.reg [] [2,3,6,8,9,18] none []) (.cond none (.two (.reg [] [6,7] none []) (.nil)) (.nil))) (.two (.reg [] [6,7] none []) (.nil)))),⟨[.agg [Lf.row 24,Lf.row 9,Lf.row 7],.one li,.one li],[.agg [li,li,li,li],.one li]⟩⟩
def aFK:FE:=⟨44,[.tmp 8],.two (.reg [] [0,1,2,3] none []) (.two (.two (.reg [] [0,1,2,3,11,12,13] none []) (.blk ⟨[0,1],[],[],[]⟩ (.lp [] ⟨[0,1,2,3,11,12],[(13,.lf li)],[],[]⟩ (.two (.reg [] [0,1,2,3,11,12,13,14] none []) (.two (.cond none (.nil) (.nil)) (.two (.thru (.two (.reg [] [0,1,2,3,9,10,11,12,13] none []) (.two (.reg [] [] (some ⟨[0,1,2,3,11,12,13],[(38,.lf lb)],[],[]⟩) []) (.cond none (.two (.reg [] [8] none []) (.nil)) (.nil))))) (.reg [] [0,1,2,3,11,12,13] none []))))))) (.two (.reg [] [8] none []) (.nil))),⟨[.one (Lf.row 24),.one li,.one Lf.raw,.one Lf.raw],[.one lb]⟩⟩
def aFL:FE:=⟨45,[.tmp 2],.two (.reg [] [1] none []) (.two (.two (.reg [] [] (some ⟨[],[(44,.lf lb)],[],[]⟩) []) (.cond none (.two (.reg [] [2] none []) (.nil)) (.nil))) (.two (.reg [] [2] none []) (.nil))),⟨[.agg [li,li,li,li,li,li,li,li,li,li,li,li,li,li,li,li,li,li,li,li,li,li,li,li]],[.one li]⟩⟩
def aFM:FE:=⟨5,[.tmp 2],.two (.reg [] [1] none []) (.two (.reg [] [2] none []) (.nil)),⟨[.agg [li,li,li,li,li,li,li,li,li,li,li,li,li,li,li,li,li,li,li,li,li,li,li,li]],[.one li]⟩⟩
def aFN:FE:=⟨44,[.tmp 8],.two (.reg [] [0,1,2,3] none []) (.two (.two (.reg [] [0,1,2,3,11,12,13] none []) (.blk ⟨[0,1],[],[],[]⟩ (.lp [] ⟨[0,1,2,3,11,12],[(13,.lf li)],[],[]⟩ (.two (.reg [] [0,1,2,3,11,12,13,14] none []) (.two (.cond none (.nil) (.nil)) (.two (.thru (.two (.reg [] [0,1,2,3,9,10,11,12,13] none []) (.two (.reg [] [] (some ⟨[0,1,2,3,11,12,13],[(38,.lf lb)],[],[]⟩) []) (.cond none (.two (.reg [] [8] none []) (.nil)) (.nil))))) (.reg [] [0,1,2,3,11,12,13] none []))))))) (.two (.reg [] [8] none []) (.nil))),⟨[.one (Lf.row 9),.one li,.one Lf.raw,.one Lf.raw],[.one lb]⟩⟩
def aFO:FE:=⟨47,[.tmp 2],.two (.reg [] [1] none []) (.two (.two (.reg [] [] (some ⟨[],[(46,.lf lb)],[],[]⟩) []) (.cond none (.two (.reg [] [2] none []) (.nil)) (.nil))) (.two (.reg [] [2] none []) (.nil))),⟨[.agg [li,li,li,li,li,li,li,li,li]],[.one li]⟩⟩
def aFP:FE:=⟨5,[.tmp 2],.two (.reg [] [1] none []) (.two (.reg [] [2] none []) (.nil)),⟨[.agg [li,li,li,li,li,li,li,li,li]],[.one li]⟩⟩
def aFQ:FE:=⟨44,[.tmp 8],.two (.reg [] [0,1,2,3] none []) (.two (.two (.reg [] [0,1,2,3,11,12,13] none []) (.blk ⟨[0,1],[],[],[]⟩ (.lp [] ⟨[0,1,2,3,11,12],[(13,.lf li)],[],[]⟩ (.two (.reg [] [0,1,2,3,11,12,13,14] none []) (.two (.cond none (.nil) (.nil)) (.two (.thru (.two (.reg [] [0,1,2,3,9,10,11,12,13] none []) (.two (.reg [] [] (some ⟨[0,1,2,3,11,12,13],[(38,.lf lb)],[],[]⟩) []) (.cond none (.two (.reg [] [8] none []) (.nil)) (.nil))))) (.reg [] [0,1,2,3,11,12,13] none []))))))) (.two (.reg [] [8] none []) (.nil))),⟨[.one (Lf.row 7),.one li,.one Lf.raw,.one Lf.raw],[.one lb]⟩⟩
def aFR:FE:=⟨53,[.tmp 2],.two (.reg [] [1] none []) (.two (.reg [] [1,3] none []) (.two (.reg [] [] (some ⟨[1],[(4,.lf lb)],[],[]⟩) []) (.two (.two (.reg [] [] (some ⟨[],[(52,.lf lb)],[],[]⟩) []) (.cond none (.two (.reg [] [2] none []) (.nil)) (.nil))) (.two (.reg [] [2] none []) (.nil))))),⟨[.agg [li,li,li,li,li,li,li]],[.one li]⟩⟩
def aFS:FE:=⟨5,[.tmp 2],.two (.reg [] [1] none []) (.two (.reg [] [2] none []) (.nil)),⟨[.agg [li,li,li,li,li,li,li]],[.one li]⟩⟩
def aFT:FE:=⟨9,[.tmp 4],.two (.reg [] [0,1] none []) (.two (.reg [] [4] none []) (.nil)),⟨[.one (Lf.row 1),.one Lf.raw],[.one lb]⟩⟩
def aFU:FE:=⟨6,[.tmp 2],.two (.reg [] [0] none []) (.two (.reg [] [2] none []) (.nil)),⟨[.one li],[.one lb]⟩⟩
def aFV:FE:=⟨15,[.tmp 6],.two (.reg [] [0,1,2] none []) (.two (.reg [] [6] none []) (.nil)),⟨[.one li,.one li,.one li],[.one lb]⟩⟩
def aFW:FE:=⟨27,[.tmp 2],.two (.reg [] [1] none []) (.two (.reg [] [2] none []) (.nil)),⟨[.agg [li,li,li,li]],[.one lb]⟩⟩
def aFX:FE:=⟨24,[.tmp 4,.tmp 5],.two (.reg [] [1,2] none []) (.two (.two (.reg [] [1,2,6] none []) (.two (.reg [] [1,2,6,11] none []) (.cond none (.two (.reg [] [4,5] none []) (.nil)) (.nil)))) (.two (.reg [] [1,7] none []) (.two (.two (.reg [] [] (some ⟨[7],[(22,.lf lb)],[],[]⟩) []) (.cond none (.two (.reg [] [4,5] none []) (.nil)) (.nil))) (.two (.reg [] [4,5] none []) (.nil))))),⟨[.agg [Lf.row 1,Lf.row 4],.one (Lf.row 3)],[.one Lf.raw,.one li]⟩⟩
def aFY:FE:=⟨13,[.tmp 4],.two (.reg [] [1,2] none []) (.two (.two (.reg [] [1,5] none []) (.two (.reg [] [1,5,9] none []) (.cond none (.two (.reg [] [4] none []) (.nil)) (.nil)))) (.two (.two (.reg [] [12] none []) (.cond none (.two (.reg [] [4] none []) (.nil)) (.nil))) (.two (.reg [] [4] none []) (.nil)))),⟨[.agg [Lf.row 24,Lf.row 9,Lf.row 7],.one (Lf.row 1)],[.one li]⟩⟩
def aFZ:FE:=⟨19,[.tmp 2],.two (.reg [] [0] none []) (.two (.reg [] [0,3] none []) (.two (.two (.reg [] [3,6,7,8] none []) (.blk ⟨[],[(3,.own 0)],[],[(0,3,1,none)]⟩ (.lp [.mk 3 3 1] ⟨[6,7],[(3,.own 0),(8,.lf li)],[],[(0,3,1,none)]⟩ (.two (.reg [] [3,6,7,8,9] none []) (.two (.cond none (.nil) (.nil)) (.two (.thru (.two (.reg [] [3,5,6,7,8] none []) (.reg [] [3,6,7,8] none []))) (.reg [] [3,6,7,8] none []))))))) (.two (.reg [] [2] none []) (.nil)))),⟨[.one (Lf.row 9)],[.one (Lf.row 1)]⟩⟩
def aF0:FE:=⟨10,[.tmp 4],.two (.reg [] [2,3] none []) (.two (.reg [] [4] none [(some 7,⟨[3],[(7,.own 0)],[],[(0,73,9,none)]⟩,.two (.reg [] [0] none []) (.two (.two (.reg [] [0,4] none []) (.cond none (.two (.reg [] [2] none []) (.rt [.mk 2 73 9])) (.nil))) (.two (.reg [] [2] none []) (.nil)))),(some 9,⟨[],[(9,.own 0)],[],[(0,73,9,none)]⟩,.two (.reg [] [0,1] none []) (.two (.reg [] [0,1,5] none []) (.two (.two (.reg [] [0,1,5,12] none []) (.cond none (.two (.reg [] [4] none []) (.nil)) (.nil))) (.two (.two (.reg [] [0,1,5,6] none []) (.blk ⟨[0],[(5,.lf li)],[],[(0,73,9,some 0)]⟩ (.lp [] ⟨[0,1],[(5,.lf li),(6,.lf li)],[],[(0,73,9,some 0)]⟩ (.two (.two (.reg [] [0,1,5,6,19] none []) (.cond none (.nil) (.nil))) (.two (.thru (.two (.reg [] [0,1,5,6,7] none []) (.two (.reg [] [0,1,5,6,7,29] none []) (.cond (some ⟨[0,1,6],[(5,.lf li)],[],[(0,73,9,some 0)]⟩) (.two (.reg [] [0,1,5,6] none []) (.reg [] [0,1,5,6] none [])) (.nil))))) (.reg [] [0,1,5,6] none [])))))) (.two (.reg [] [0,5] none []) (.two (.reg [] [4] none []) (.nil)))))))]) (.nil)),⟨[.agg [Lf.row 24,Lf.row 9,Lf.row 7],.one li],[.one (Lf.row 9)]⟩⟩
def aF1:FE:=⟨34,[.cell 6 73,.tmp 7],.two (.reg [] [1,2,3,6] none []) (.two (.two (.reg [] [1,2,3,6,8] none []) (.two (.reg [] [1,2,3,6,8,16] none []) (.cond none (.two (.reg [] [6,7] none []) (.nil)) (.nil)))) (.two (.two (.reg [] [1,6,21,22,23] none []) (.blk ⟨[6],[],[(1,73,[.lf li,.lf li,.lf li,.lf li,.lf li,.lf li,.lf li,.lf li,.lf li])],[]⟩ (.lp [] ⟨[1,6,21,22],[(23,.lf li)],[(1,73,[.lf li,.lf li,.lf li,.lf li,.lf li,.lf li,.lf li,.lf li,.lf li])],[]⟩ (.two (.reg [] [1,6,21,22,23,24] none []) (.two (.cond none (.nil) (.nil)) (.two (.thru (.two (.reg [] [1,6,10,21,22,23] none []) (.two (.reg [] [1,6,10,21,22,23,30] none []) (.cond none (.two (.reg [] [6,7] none []) (.nil)) (.nil))))) (.reg [] [1,6,21,22,23] none []))))))) (.two (.reg [] [6,7] none []) (.nil)))),⟨[.agg [Lf.row 24,Lf.row 9,Lf.row 7],.one li,.one li],[.agg [li,li,li,li,li,li,li,li,li],.one li]⟩⟩
def aF2:FE:=⟨70,[.cell 8 49],.two (.reg [] [3,4,5,6,8] none []) (.two (.reg [] [3,4,5,6,8,9] none []) (.two (.two (.reg [] [3,4,5,6,8,9,18] none []) (.cond (some ⟨[3,4,5,6,8,9],[],[(4,49,[.lf li,.lf li,.lf li])],[]⟩) (.two (.reg [] [3,4,5,6,8,9,10] none []) (.reg [] [3,4,5,6,8,9] none [])) (.nil))) (.two (.two (.reg [] [4,5,6,8,9,35] none []) (.thru (.lp [] ⟨[4,5,6,8,9,35],[],[(4,49,[.lf li,.lf li,.lf li])],[]⟩ (.thru (.two (.reg [] [4,5,6,9,12,13] none []) (.two (.reg [] [5,6,9,12,13] none []) (.two (.reg [] [] (some ⟨[5,9,13],[(59,.lf lb)],[],[]⟩) []) (.cond (some ⟨[],[],[(4,49,[.lf li,.lf li,.lf li])],[]⟩) (.reg [] [] none []) (.nil))))))))) (.two (.reg [] [8] none []) (.nil))))),⟨[.agg [Lf.row 24,Lf.row 9,Lf.row 7],.agg [li,li,li,li,li,li,li,li,li],.agg [li,li,li,li],.one li],[.agg [li,li,li]]⟩⟩
def aF3:FE:=⟨110,[.cell 6 79],.two (.reg [] [2,3,4,6] none []) (.two (.reg [] [2,3,4,6,7] none []) (.two (.reg [] [2,3,4,6,7,8,9] none []) (.two (.reg [] [2,3,4,6,7,9,10] none []) (.two (.reg [] [2,3,4,6,7,9,10,11] none []) (.two (.two (.reg [] [2,3,4,6,7,9,10,11,29] none []) (.blk ⟨[2,3,4,6,7,9,10,11],[],[(4,146,[.lf li,.lf li,.lf li,.lf li,.lf li])],[]⟩ (.lp [] ⟨[2,3,4,6,7,9,10,11],[(29,.lf li)],[(4,146,[.lf li,.lf li,.lf li,.lf li,.lf li])],[]⟩ (.two (.reg [] [2,3,4,6,7,9,10,11,29,30] none []) (.two (.cond none (.nil) (.nil)) (.two (.thru (.two (.reg [] [2,3,4,6,7,9,10,11,12,29] none []) (.reg [] [2,3,4,6,7,9,10,11,29] none []))) (.reg [] [2,3,4,6,7,9,10,11,29] none []))))))) (.two (.two (.reg [] [2,3,4,6,9,10,11,35,36,37] none []) (.blk ⟨[2,3,4,6,9,10,11],[],[(4,146,[.lf li,.lf li,.lf li,.lf li,.lf li])],[]⟩ (.lp [] ⟨[2,3,4,6,9,10,11,35,36],[(37,.lf li)],[(4,146,[.lf li,.lf li,.lf li,.lf li,.lf li])],[]⟩ (.two (.reg [] [2,3,4,6,9,10,11,35,36,37,38] none []) (.two (.cond none (.nil) (.nil)) (.two (.thru (.two (.reg [] [2,3,4,6,9,10,11,14,35,36,37] none []) (.two (.reg [] [] (some ⟨[2,3,4,6,9,10,11,14,35,36,37],[(55,.lf lb)],[],[]⟩) []) (.cond (some ⟨[2,3,4,6,9,10,11,35,36,37],[],[(4,146,[.lf li,.lf li,.lf li,.lf li,.lf li])],[]⟩) (.reg [] [2,3,4,6,9,10,11,35,36,37] none []) (.nil))))) (.reg [] [2,3,4,6,9,10,11,35,36,37] none []))))))) (.two (.reg [] [2,4,6,9,10,11] none []) (.two (.two (.reg [] [] (some ⟨[2,4,6,10,11],[(73,.lf lb)],[],[]⟩) []) (.cond (some ⟨[2,4,6,10,11],[],[(4,146,[.lf li,.lf li,.lf li,.lf li,.lf li])],[]⟩) (.reg [] [2,4,6,10,11] none []) (.nil))) (.two (.reg [] [2,6,10,11] none []) (.two (.nil) (.two (.two (.reg [] [2,6,10,83,84] none []) (.blk ⟨[6,10],[],[(3,79,[.lf li,.lf li,.lf li,.lf li])],[]⟩ (.lp [] ⟨[2,6,10,83],[(84,.lf li)],[(3,79,[.lf li,.lf li,.lf li,.lf li])],[]⟩ (.two (.reg [] [2,6,10,83,84,85] none []) (.two (.cond none (.nil) (.nil)) (.two (.blk ⟨[2,6,10,83,84],[],[(3,79,[.lf li,.lf li,.lf li,.lf li])],[]⟩ (.two (.reg [] [2,6,10,15,16,83,84] none []) (.two (.two (.reg [] [] (some ⟨[2,6,10,15,16,83,84],[(94,.lf lb)],[],[]⟩) []) (.cond none (.nil) (.nil))) (.two (.reg [] [] (some ⟨[2,6,10,15,16,83,84],[(103,.lf lb)],[],[]⟩) []) (.cond (some ⟨[2,6,10,83,84],[],[(3,79,[.lf li,.lf li,.lf li,.lf li])],[]⟩) (.reg [] [2,6,10,83,84] none []) (.nil)))))) (.reg [] [2,6,10,83,84] none []))))))) (.two (.reg [] [6] none []) (.nil))))))))))))),⟨[.agg [Lf.row 24,Lf.row 9,Lf.row 7],.agg [li,li,li,li,li,li,li,li,li],.one li],[.agg [li,li,li,li]]⟩⟩
def aF4:FE:=⟨45,[.tmp 6],.two (.reg [] [0,1,2] none []) (.two (.reg [] [0,1,2,7] none []) (.two (.two (.reg [] [0,2,7,11,12,13] none []) (.blk ⟨[],[(7,.lf li)],[],[]⟩ (.lp [] ⟨[0,2,11,12],[(7,.lf li),(13,.lf li)],[],[]⟩ (.two (.reg [] [0,2,7,11,12,13,14] none []) (.two (.cond none (.nil) (.nil)) (.two (.thru (.two (.reg [] [0,2,7,9,11,12,13] none []) (.two (.reg [] [0,2,7,9,10,11,12,13] none []) (.two (.two (.reg [] [0,2,7,9,10,11,12,13,20] none []) (.cond (some ⟨[0,2,7,9,11,12,13],[(10,.lf li)],[],[]⟩) (.reg [] [0,2,7,9,10,11,12,13] none []) (.nil))) (.reg [] [0,2,7,11,12,13] none []))))) (.reg [] [0,2,7,11,12,13] none []))))))) (.two (.reg [] [6] none []) (.nil)))),⟨[.one Lf.ref,.one (Lf.row 3),.one li],[.one li]⟩⟩
def aF5:FE:=⟨36,[.tmp 4],.two (.reg [] [0,1] none []) (.two (.reg [] [0,1,5] none []) (.two (.two (.reg [] [1,5,8,9,10] none []) (.blk ⟨[],[(5,.own 0)],[],[(0,3,1,none)]⟩ (.lp [.mk 5 3 1] ⟨[1,8,9],[(5,.own 0),(10,.lf li)],[],[(0,3,1,none)]⟩ (.two (.reg [] [1,5,8,9,10,11] none []) (.two (.cond none (.nil) (.nil)) (.two (.thru (.two (.reg [] [1,5,6,7,8,9,10] none []) (.two (.reg [] [] (some ⟨[1,5,6,8,9,10],[(29,.lf lb)],[],[]⟩) []) (.cond (some ⟨[1,8,9,10],[(5,.own 0)],[],[(0,3,1,none)]⟩) (.reg [] [1,5,8,9,10] none []) (.nil))))) (.reg [] [1,5,8,9,10] none []))))))) (.two (.reg [] [4] none []) (.nil)))),⟨[.one (Lf.row 3),.one li],[.one (Lf.row 1)]⟩⟩
def aF6:FE:=⟨13,[.tmp 6],.two (.reg [] [3,4,5] none []) (.two (.reg [] [6] none [(some 9,⟨[3,4,5],[(9,.own 0)],[],[(0,73,9,none)]⟩,.two (.reg [] [2,3] none []) (.two (.reg [] [4] none [(some 7,⟨[3],[(7,.own 0)],[],[(0,73,9,none)]⟩,.two (.reg [] [0] none []) (.two (.two (.reg [] [0,4] none []) (.cond none (.two (.reg [] [2] none []) (.rt [.mk 2 73 9])) (.nil))) (.two (.reg [] [2] none []) (.nil)))),(some 9,⟨[],[(9,.own 0)],[],[(0,73,9,none)]⟩,.two (.reg [] [0,1] none []) (.two (.reg [] [0,1,5] none []) (.two (.two (.reg [] [0,1,5,12] none []) (.cond none (.two (.reg [] [4] none []) (.nil)) (.nil))) (.two (.two (.reg [] [0,1,5,6] none []) (.blk ⟨[0],[(5,.lf li)],[],[(0,73,9,some 0)]⟩ (.lp [] ⟨[0,1],[(5,.lf li),(6,.lf li)],[],[(0,73,9,some 0)]⟩ (.two (.two (.reg [] [0,1,5,6,19] none []) (.cond none (.nil) (.nil))) (.two (.thru (.two (.reg [] [0,1,5,6,7] none []) (.two (.reg [] [0,1,5,6,7,29] none []) (.cond (some ⟨[0,1,6],[(5,.lf li)],[],[(0,73,9,some 0)]⟩) (.two (.reg [] [0,1,5,6] none []) (.reg [] [0,1,5,6] none [])) (.nil))))) (.reg [] [0,1,5,6] none [])))))) (.two (.reg [] [0,5] none []) (.two (.reg [] [4] none []) (.nil)))))))]) (.nil))),(some 11,⟨[],[(11,.own 0)],[],[(0,73,9,none)]⟩,.two (.reg [] [0,1] none []) (.two (.reg [] [0,1,5] none []) (.two (.two (.reg [] [0,1,5,12] none []) (.cond none (.two (.reg [] [4] none []) (.nil)) (.nil))) (.two (.two (.reg [] [0,1,5,6] none []) (.blk ⟨[0],[(5,.lf li)],[],[(0,73,9,some 0)]⟩ (.lp [] ⟨[0,1],[(5,.lf li),(6,.lf li)],[],[(0,73,9,some 0)]⟩ (.two (.two (.reg [] [0,1,5,6,19] none []) (.cond none (.nil) (.nil))) (.two (.thru (.two (.reg [] [0,1,5,6,7] none []) (.two (.reg [] [0,1,5,6,7,29] none []) (.cond (some ⟨[0,1,6],[(5,.lf li)],[],[(0,73,9,some 0)]⟩) (.two (.reg [] [0,1,5,6] none []) (.reg [] [0,1,5,6] none [])) (.nil))))) (.reg [] [0,1,5,6] none [])))))) (.two (.reg [] [0,5] none []) (.two (.reg [] [4] none []) (.nil))))))),(some 12,⟨[],[],[],[]⟩,.rt [.fz 0])]) (.nil)),⟨[.agg [Lf.row 24,Lf.row 9,Lf.row 7],.one li,.one Lf.raw],[.one (Lf.row 1)]⟩⟩
def aF7:FE:=⟨15,[.tmp 5],.two (.reg [] [2,3,4] none []) (.two (.reg [] [5] none []) (.nil)),⟨[.agg [li,li,li,li,li,li,li,li,li],.agg [li,li,li,li],.one Lf.ref],[.one lb]⟩⟩
def aF8:FE:=⟨20,[.tmp 4,.tmp 5],.two (.reg [] [1,2] none []) (.two (.two (.reg [] [1,2,6] none []) (.two (.reg [] [1,2,6,11] none []) (.cond none (.two (.reg [] [4,5] none []) (.nil)) (.nil)))) (.two (.reg [] [1,7] none []) (.two (.two (.reg [] [7,18] none []) (.cond none (.two (.reg [] [4,5] none []) (.nil)) (.nil))) (.two (.reg [] [4,5] none []) (.nil))))),⟨[.agg [Lf.row 1,Lf.row 4],.one (Lf.row 1)],[.one Lf.raw,.one li]⟩⟩
def aF9:FE:=⟨19,[.cell 6 22,.cell 7 4],.two (.reg [] [0,1,5,6,7] none []) (.two (.two (.reg [] [5,6,7,11] none []) (.rg (.lent 3 1) ⟨[5,6,7,11],[],[(0,3,[.lf li]),(1,22,[.lf (Lf.row 1)]),(2,4,[.lf lb])],[]⟩ (.reg [] [5,6,7,8] none []) (.thru (.two (.two (.reg [] [5,6,7,8,14] none []) (.cond none (.two (.reg [] [6,7] none [(some 16,⟨[6,7],[(16,.own 1)],[],[(1,3,1,none)]⟩,.two (.reg [] [0] none []) (.two (.two (.reg [] [0,4] none []) (.cond none (.two (.reg [] [2] none []) (.rt [.mk 2 3 1])) (.nil))) (.two (.reg [] [2] none []) (.nil))))]) (.nil)) (.nil))) (.reg [] [] none []))))) (.two (.reg [] [6,7] none []) (.nil))),⟨[.one Lf.ref,.one (Lf.row 1),.one li],[.one (Lf.row 1),.one lb]⟩⟩
def aGa:FE:=⟨81,[.tmp 6,.tmp 7],.two (.reg [] [0,1,2] none []) (.two (.reg [] [0,1,2,8] none [(some 12,⟨[0,1,2],[(12,.ptr 0 0)],[(0,151,[.own 0,.own 1])],[(0,3,1,none),(1,3,1,none)]⟩,.two (.reg [] [0] none []) (.two (.reg [] [0,3] none []) (.two (.reg [] [0,3] none []) (.two (.reg [] [2] none []) (.nil)))))]) (.two (.two (.reg [] [0,1,2,8,17] none []) (.cond none (.two (.reg [] [6,7] none []) (.nil)) (.nil))) (.two (.two (.reg [] [0,1,8,18,19,20] none []) (.blk ⟨[8],[],[],[(0,3,1,some 0),(1,3,1,some 0)]⟩ (.lp [] ⟨[0,1,8,18,19],[(20,.lf li)],[],[(0,3,1,some 0),(1,3,1,some 0)]⟩ (.two (.reg [] [0,1,8,18,19,20,21] none []) (.two (.cond none (.nil) (.nil)) (.two (.thru (.two (.reg [] [0,1,8,9,10,18,19,20] none []) (.two (.two (.reg [] [] (some ⟨[0,1,8,9,10,18,19,20],[(45,.lf lb)],[],[]⟩) [(some 43,⟨[0,1,8,9,10,18,19,20,35],[(43,.lf lb)],[],[]⟩,.two (.reg [] [0,1,2,3] none []) (.two (.reg [] [8] none []) (.nil)))]) (.cond none (.two (.reg [] [6,7] none []) (.nil)) (.nil))) (.two (.reg [] [0,1,8,9,10,18,19,20] none []) (.reg [] [0,1,8,18,19,20] none []))))) (.reg [] [0,1,8,18,19,20] none []))))))) (.two (.reg [] [6,7] none []) (.rt [.fz 0,.fz 1,.fb 0]))))),⟨[.one Lf.ref,.one (Lf.row 1),.one (Lf.row 1)],[.one Lf.raw,.one lb]⟩⟩
def aGb:FE:=⟨6,[.tmp 4],.two (.reg [] [2,3] none []) (.two (.reg [] [4] none []) (.nil)),⟨[.one li,.one li],[.one Lf.raw]⟩⟩
def aGc:FE:=⟨5,[.tmp 2],.two (.reg [] [0] none []) (.two (.reg [] [2] none []) (.nil)),⟨[.one li],[.one lb]⟩⟩
def aGd:FE:=⟨11,[.tmp 2],.two (.reg [] [1] none []) (.two (.reg [.fb 0] [2] none []) (.nil)),⟨[.agg [li,li,li,li,li,li,li,li,li,li]],[.one lb]⟩⟩
def aGe:FE:=⟨15,[.tmp 6],.two (.reg [] [0,1,2] none []) (.two (.reg [] [6] none []) (.nil)),⟨[.one li,.one li,.one li],[.one lb]⟩⟩
def aGf:FE:=⟨26,[.tmp 6],.two (.reg [] [0,1,2] none []) (.two (.reg [] [6] none []) (.nil)),⟨[.one li,.one li,.one li],[.one lb]⟩⟩
def aGg:FE:=⟨19,[.tmp 4],.two (.reg [] [0,1] none []) (.two (.two (.reg [] [0,1,7,8] none []) (.blk ⟨[],[],[],[]⟩ (.lp [] ⟨[0,1,7],[(8,.lf li)],[],[]⟩ (.two (.reg [] [0,1,7,8,9] none []) (.two (.cond none (.nil) (.nil)) (.two (.thru (.two (.reg [] [0,1,5,7,8] none []) (.two (.reg [] [0,1,5,7,8,16] none []) (.cond none (.two (.reg [] [4] none []) (.nil)) (.nil))))) (.reg [] [0,1,7,8] none []))))))) (.two (.reg [] [4] none []) (.nil))),⟨[.one (Lf.row 1),.one Lf.raw],[.one li]⟩⟩
def aGh:FE:=⟨62,[.tmp 2],.two (.reg [] [1] none []) (.two (.reg [] [1,3] none []) (.two (.two (.reg [] [3,11,12,13] none []) (.blk ⟨[3],[],[(1,125,[.lf (Lf.row 1),.lf (Lf.row 4),.lf li,.lf li,.lf li,.lf li,.lf li,.lf li,.lf li,.lf li,.lf li,.lf li,.lf li,.lf li,.lf li,.lf li,.lf li,.lf li,.lf li,.lf li,.lf li,.lf li,.lf li,.lf li,.lf li,.lf li,.lf li,.lf li,.lf li,.lf li,.lf li,.lf li,.lf li,.lf li,.lf li,.lf li,.lf li,.lf li,.lf li,.lf li,.lf li,.lf li,.lf li,.lf li,.lf li,.lf li,.lf li,.lf li,.lf li,.lf li,.lf li,.lf li])],[]⟩ (.lp [] ⟨[3,11,12],[(13,.lf li)],[(1,125,[.lf (Lf.row 1),.lf (Lf.row 4),.lf li,.lf li,.lf li,.lf li,.lf li,.lf li,.lf li,.lf li,.lf li,.lf li,.lf li,.lf li,.lf li,.lf li,.lf li,.lf li,.lf li,.lf li,.lf li,.lf li,.lf li,.lf li,.lf li,.lf li,.lf li,.lf li,.lf li,.lf li,.lf li,.lf li,.lf li,.lf li,.lf li,.lf li,.lf li,.lf li,.lf li,.lf li,.lf li,.lf li,.lf li,.lf li,.lf li,.lf li,.lf li,.lf li,.lf li,.lf li,.lf li,.lf li])],[]⟩ (.two (.reg [] [3,11,12,13,14] none []) (.two (.cond none (.nil) (.nil)) (.two (.thru (.two (.reg [] [3,5,11,12,13] none []) (.two (.reg [] [] (some ⟨[3,5,11,12,13],[],[(1,125,[.lf (Lf.row 1),.lf (Lf.row 4),.lf li,.lf li,.lf li,.lf li,.lf li,.lf li,.lf li,.lf li,.lf li,.lf li,.lf li,.lf li,.lf li,.lf li,.lf li,.lf li,.lf li,.lf li,.lf li,.lf li,.lf li,.lf li,.lf li,.lf li,.lf li,.lf li,.lf li,.lf li,.lf li,.lf li,.lf li,.lf li,.lf li,.lf li,.lf li,.lf li,.lf li,.lf li,.lf li,.lf li,.lf li,.lf li,.lf li,.lf li,.lf li,.lf li,.lf li,.lf li,.lf li,.lf li])],[]⟩) []) (.two (.reg [] [3,5,11,12,13,24] none []) (.blk ⟨[3,11,12,13],[],[(1,125,[.lf (Lf.row 1),.lf (Lf.row 4),.lf li,.lf li,.lf li,.lf li,.lf li,.lf li,.lf li,.lf li,.lf li,.lf li,.lf li,.lf li,.lf li,.lf li,.lf li,.lf li,.lf li,.lf li,.lf li,.lf li,.lf li,.lf li,.lf li,.lf li,.lf li,.lf li,.lf li,.lf li,.lf li,.lf li,.lf li,.lf li,.lf li,.lf li,.lf li,.lf li,.lf li,.lf li,.lf li,.lf li,.lf li,.lf li,.lf li,.lf li,.lf li,.lf li,.lf li,.lf li,.lf li,.lf li])],[]⟩ (.lp [] ⟨[3,5,11,12,13],[(24,.lf li)],[(1,125,[.lf (Lf.row 1),.lf (Lf.row 4),.lf li,.lf li,.lf li,.lf li,.lf li,.lf li,.lf li,.lf li,.lf li,.lf li,.lf li,.lf li,.lf li,.lf li,.lf li,.lf li,.lf li,.lf li,.lf li,.lf li,.lf li,.lf li,.lf li,.lf li,.lf li,.lf li,.lf li,.lf li,.lf li,.lf li,.lf li,.lf li,.lf li,.lf li,.lf li,.lf li,.lf li,.lf li,.lf li,.lf li,.lf li,.lf li,.lf li,.lf li,.lf li,.lf li,.lf li,.lf li,.lf li,.lf li])],[]⟩ (.two (.reg [] [3,5,11,12,13,24,25] none []) (.two (.cond none (.nil) (.nil)) (.two (.thru (.two (.reg [] [3,5,6,11,12,13,24] none []) (.two (.reg [] [3,5,6,11,12,13,24,32] none []) (.cond (some ⟨[3,5,11,12,13,24],[],[(1,125,[.lf (Lf.row 1),.lf (Lf.row 4),.lf li,.lf li,.lf li,.lf li,.lf li,.lf li,.lf li,.lf li,.lf li,.lf li,.lf li,.lf li,.lf li,.lf li,.lf li,.lf li,.lf li,.lf li,.lf li,.lf li,.lf li,.lf li,.lf li,.lf li,.lf li,.lf li,.lf li,.lf li,.lf li,.lf li,.lf li,.lf li,.lf li,.lf li,.lf li,.lf li,.lf li,.lf li,.lf li,.lf li,.lf li,.lf li,.lf li,.lf li,.lf li,.lf li,.lf li,.lf li,.lf li,.lf li])],[]⟩) (.two (.reg [] [] (some ⟨[3,5,6,11,12,13,24],[],[(1,125,[.lf (Lf.row 1),.lf (Lf.row 4),.lf li,.lf li,.lf li,.lf li,.lf li,.lf li,.lf li,.lf li,.lf li,.lf li,.lf li,.lf li,.lf li,.lf li,.lf li,.lf li,.lf li,.lf li,.lf li,.lf li,.lf li,.lf li,.lf li,.lf li,.lf li,.lf li,.lf li,.lf li,.lf li,.lf li,.lf li,.lf li,.lf li,.lf li,.lf li,.lf li,.lf li,.lf li,.lf li,.lf li,.lf li,.lf li,.lf li,.lf li,.lf li,.lf li,.lf li,.lf li,.lf li,.lf li])],[]⟩) []) (.reg [] [] (some ⟨[3,5,11,12,13,24],[],[(1,125,[.lf (Lf.row 1),.lf (Lf.row 4),.lf li,.lf li,.lf li,.lf li,.lf li,.lf li,.lf li,.lf li,.lf li,.lf li,.lf li,.lf li,.lf li,.lf li,.lf li,.lf li,.lf li,.lf li,.lf li,.lf li,.lf li,.lf li,.lf li,.lf li,.lf li,.lf li,.lf li,.lf li,.lf li,.lf li,.lf li,.lf li,.lf li,.lf li,.lf li,.lf li,.lf li,.lf li,.lf li,.lf li,.lf li,.lf li,.lf li,.lf li,.lf li,.lf li,.lf li,.lf li,.lf li,.lf li])],[]⟩) [])) (.nil))))) (.reg [] [3,5,11,12,13,24] none [])))))))))) (.reg [] [3,11,12,13] none []))))))) (.two (.reg [] [2] none []) (.nil)))),⟨[.agg [Lf.row 1,Lf.row 4]],[.one Lf.ref]⟩⟩
def aGi:FE:=⟨9,[.tmp 4],.two (.reg [] [0,1] none []) (.two (.reg [] [4] none []) (.nil)),⟨[.one (Lf.row 3),.one Lf.raw],[.one lb]⟩⟩
def aGj:FE:=⟨8,[.tmp 3],.two (.reg [] [1,2] none []) (.two (.reg [] [3] none [(some 4,⟨[],[],[],[]⟩,.rf none)]) (.nil)),⟨[.agg [li,li,li],.one Lf.ref],[.one lb]⟩⟩
def aGk:FE:=⟨26,[.tmp 4],.two (.reg [] [0,3] none []) (.two (.reg [] [4] none []) (.nil)),⟨[.one Lf.ref,.agg [li,li,li]],[.one lb]⟩⟩
def aGl:FE:=⟨6,[.tmp 2],.two (.reg [] [0] none []) (.two (.reg [] [2] none []) (.nil)),⟨[.one li],[.one lb]⟩⟩
def aGm:FE:=⟨11,[.tmp 3],.two (.reg [] [1,2] none []) (.two (.reg [] [3] none []) (.nil)),⟨[.agg [li,li,li,li,li,li,li,li,li],.one Lf.ref],[.one lb]⟩⟩
def aGn:FE:=⟨19,[.tmp 6],.two (.reg [] [0,1,2] none []) (.two (.reg [] [6] none []) (.nil)),⟨[.one li,.one li,.one li],[.one lb]⟩⟩
def aGo:FE:=⟨23,[.cell 4 71,.tmp 5],.two (.reg [] [1,2,4,5] none []) (.two (.two (.reg [] [1,4,5,9,10,11] none []) (.blk ⟨[4],[(5,.lf lb)],[(1,71,[.lf li,.lf li,.lf li,.lf li,.lf li,.lf li,.lf li,.lf li,.lf li,.lf li,.lf li,.lf li,.lf li,.lf li,.lf li,.lf li,.lf li,.lf li,.lf li,.lf li,.lf li,.lf li,.lf li,.lf li])],[]⟩ (.lp [] ⟨[1,4,9,10],[(5,.lf lb),(11,.lf li)],[(1,71,[.lf li,.lf li,.lf li,.lf li,.lf li,.lf li,.lf li,.lf li,.lf li,.lf li,.lf li,.lf li,.lf li,.lf li,.lf li,.lf li,.lf li,.lf li,.lf li,.lf li,.lf li,.lf li,.lf li,.lf li])],[]⟩ (.two (.reg [] [1,4,5,9,10,11,12] none []) (.two (.cond none (.nil) (.nil)) (.two (.thru (.two (.reg [] [1,4,5,7,9,10,11] none []) (.two (.reg [] [1,4,5,7,9,10,11,18] none []) (.cond (some ⟨[1,4,9,10,11],[(5,.lf lb)],[(1,71,[.lf li,.lf li,.lf li,.lf li,.lf li,.lf li,.lf li,.lf li,.lf li,.lf li,.lf li,.lf li,.lf li,.lf li,.lf li,.lf li,.lf li,.lf li,.lf li,.lf li,.lf li,.lf li,.lf li,.lf li])],[]⟩) (.reg [] [1,4,5,9,10,11] none []) (.nil))))) (.reg [] [1,4,5,9,10,11] none []))))))) (.two (.reg [] [4,5] none []) (.nil))),⟨[.agg [Lf.row 24,Lf.row 9,Lf.row 7],.one li],[.agg [li,li,li,li,li,li,li,li,li,li,li,li,li,li,li,li,li,li,li,li,li,li,li,li],.one lb]⟩⟩
def aGp:FE:=⟨26,[.tmp 6],.two (.reg [] [2,3,4] none []) (.two (.reg [] [3,4,7] none []) (.two (.thru (.two (.reg [] [3,4,7,9] none []) (.cond (some ⟨[3],[(7,.lf li)],[],[]⟩) (.reg [] [3,7] none []) (.two (.reg [] [3,4,7,15] none []) (.cond (some ⟨[3],[(7,.lf li)],[],[]⟩) (.reg [] [3,7] none []) (.nil)))))) (.two (.reg [] [6] none []) (.nil)))),⟨[.agg [li,li,li,li,li,li,li,li,li],.agg [li,li,li,li],.one li],[.one Lf.raw]⟩⟩
def aGq:FE:=⟨21,[.tmp 6],.two (.reg [] [2,3,4] none []) (.two (.reg [] [4,7] none []) (.two (.reg [] [6] none []) (.nil))),⟨[.agg [Lf.row 24,Lf.row 9,Lf.row 7],.agg [li,li,li,li,li,li,li,li,li],.one li],[.one li]⟩⟩
def aGr:FE:=⟨12,[.tmp 6],.two (.reg [] [3,4,5] none []) (.two (.reg [] [6] none [(some 9,⟨[4,5],[(9,.own 0)],[],[(0,77,7,none)]⟩,.two (.reg [] [0] none []) (.two (.two (.reg [] [0,4] none []) (.cond none (.two (.reg [] [2] none []) (.rt [.mk 2 77 7])) (.nil))) (.two (.reg [] [2] none []) (.nil)))),(some 11,⟨[],[(11,.own 0)],[],[(0,77,7,none)]⟩,.two (.reg [] [0,1] none []) (.two (.reg [] [0,1,5] none []) (.two (.two (.reg [] [0,1,5,12] none []) (.cond none (.two (.reg [] [4] none []) (.nil)) (.nil))) (.two (.two (.reg [] [0,1,5,6] none []) (.blk ⟨[0],[(5,.lf li)],[],[(0,77,7,some 0)]⟩ (.lp [] ⟨[0,1],[(5,.lf li),(6,.lf li)],[],[(0,77,7,some 0)]⟩ (.two (.two (.reg [] [0,1,5,6,19] none []) (.cond none (.nil) (.nil))) (.two (.thru (.two (.reg [] [0,1,5,6,7] none []) (.two (.reg [] [0,1,5,6,7,29] none []) (.cond (some ⟨[0,1,6],[(5,.lf li)],[],[(0,77,7,some 0)]⟩) (.two (.reg [] [0,1,5,6] none []) (.reg [] [0,1,5,6] none [])) (.nil))))) (.reg [] [0,1,5,6] none [])))))) (.two (.reg [] [0,5] none []) (.two (.reg [] [4] none []) (.nil)))))))]) (.nil)),⟨[.agg [Lf.row 24,Lf.row 9,Lf.row 7],.agg [li,li,li,li,li,li,li,li,li],.one li],[.one (Lf.row 7)]⟩⟩
def aGs:FE:=⟨61,[.tmp 2,.tmp 3],.two (.reg [] [0] none []) (.two (.reg [] [0,3] none []) (.two (.reg [] [0,3,4,5] none []) (.two (.two (.reg [] [3,4,5,10,11,12] none []) (.blk ⟨[4,5],[(3,.lf li)],[(0,77,[.lf li,.lf li,.lf li,.lf li,.lf li,.lf li,.lf li]),(1,77,[.lf li,.lf li,.lf li,.lf li,.lf li,.lf li,.lf li])],[]⟩ (.lp [] ⟨[4,5,10,11],[(3,.lf li),(12,.lf li)],[(0,77,[.lf li,.lf li,.lf li,.lf li,.lf li,.lf li,.lf li]),(1,77,[.lf li,.lf li,.lf li,.lf li,.lf li,.lf li,.lf li])],[]⟩ (.two (.reg [] [3,4,5,10,11,12,13] none []) (.two (.cond none (.nil) (.nil)) (.two (.blk ⟨[4,5,10,11,12],[(3,.lf li)],[(0,77,[.lf li,.lf li,.lf li,.lf li,.lf li,.lf li,.lf li]),(1,77,[.lf li,.lf li,.lf li,.lf li,.lf li,.lf li,.lf li])],[]⟩ (.two (.reg [] [3,4,5,7,10,11,12] none []) (.two (.two (.reg [] [3,4,5,7,10,11,12,18] none []) (.cond none (.nil) (.nil))) (.two (.two (.reg [] [] (some ⟨[3,4,5,7,10,11,12],[(26,.lf lb)],[],[]⟩) []) (.cond (some ⟨[4,5,7,10,11,12],[(3,.lf li)],[],[]⟩) (.reg [] [3,4,5,7,10,11,12] none []) (.nil))) (.two (.two (.reg [] [] (some ⟨[3,4,5,7,10,11,12],[(38,.lf lb)],[],[]⟩) []) (.cond (some ⟨[3,4,5,7,10,11,12],[],[(0,77,[.lf li,.lf li,.lf li,.lf li,.lf li,.lf li,.lf li])],[]⟩) (.reg [] [3,4,5,7,10,11,12] none []) (.nil))) (.two (.reg [] [] (some ⟨[3,4,5,7,10,11,12],[(49,.lf lb)],[],[]⟩) []) (.cond (some ⟨[3,4,5,10,11,12],[],[(1,77,[.lf li,.lf li,.lf li,.lf li,.lf li,.lf li,.lf li])],[]⟩) (.reg [] [3,4,5,10,11,12] none []) (.nil)))))))) (.reg [] [3,4,5,10,11,12] none []))))))) (.two (.two (.reg [] [3,4,5,54] none []) (.cond none (.two (.reg [] [2,3] none []) (.nil)) (.nil))) (.two (.reg [] [2,3] none []) (.nil)))))),⟨[.one (Lf.row 7)],[.one li,.one li]⟩⟩
def aGt:FE:=⟨34,[.cell 6 3],.two (.reg [] [2,3,4,6] none []) (.two (.two (.reg [] [2,3,4,6,12] none []) (.cond none (.two (.reg [] [6] none []) (.nil)) (.nil))) (.two (.reg [] [2,3,4,6,7] none []) (.two (.reg [] [2,3,4,6,7,8] none []) (.two (.two (.reg [] [3,4,6,7,8,21] none []) (.thru (.lp [] ⟨[3,4,6,7,8,21],[],[(2,3,[.lf li]),(3,3,[.lf li])],[]⟩ (.thru (.two (.reg [] [4,6,7,9] none [(some 28,⟨[4,6,7,9],[],[(3,3,[.lf li])],[]⟩,.reg [] [] none [])]) (.two (.reg [] [6,9,32] none []) (.cond none (.two (.reg [] [6] none []) (.nil)) (.nil)))))))) (.two (.reg [] [6] none []) (.nil)))))),⟨[.agg [Lf.row 24,Lf.row 9,Lf.row 7],.agg [li,li,li,li,li,li,li,li,li],.one li],[.one li]⟩⟩
def aGu:FE:=⟨14,[.tmp 5],.two (.reg [] [1,2,3,4] none []) (.two (.reg [] [5] none []) (.nil)),⟨[.agg [li,li,li,li,li,li,li,li,li],.one Lf.ref,.one Lf.ref,.one Lf.ref],[.one lb]⟩⟩
def aGv:FE:=⟨14,[.tmp 4],.two (.reg [] [1,2] none []) (.two (.reg [] [4] none []) (.nil)),⟨[.one Lf.ref,.one (Lf.row 1)],[.one lb]⟩⟩
def aGw:FE:=⟨6,[.tmp 4],.two (.reg [] [2,3] none []) (.two (.reg [] [4] none []) (.nil)),⟨[.one Lf.ref,.one (Lf.row 1)],[.one Lf.raw]⟩⟩
def aGx:FE:=⟨25,[.tmp 4],.two (.reg [] [0,1] none []) (.two (.reg [] [0,1,5] none []) (.two (.two (.reg [] [0,5,8,9,10] none []) (.blk ⟨[],[(5,.lf li)],[],[]⟩ (.lp [] ⟨[0,8,9],[(5,.lf li),(10,.lf li)],[],[]⟩ (.two (.reg [] [0,5,8,9,10,11] none []) (.two (.cond none (.nil) (.nil)) (.two (.thru (.two (.reg [] [0,5,7,8,9,10] none []) (.reg [] [0,5,8,9,10] none []))) (.reg [] [0,5,8,9,10] none []))))))) (.two (.reg [] [4] none []) (.nil)))),⟨[.one Lf.ref,.one (Lf.row 1)],[.one li]⟩⟩
def aGy:FE:=⟨24,[.tmp 4],.two (.reg [] [1,2] none []) (.two (.reg [] [1,2,5] none []) (.two (.two (.reg [] [2,5,8,9,10] none []) (.blk ⟨[],[(5,.own 0)],[],[(0,3,1,none)]⟩ (.lp [.mk 5 3 1] ⟨[2,8,9],[(5,.own 0),(10,.lf li)],[],[(0,3,1,none)]⟩ (.two (.reg [] [2,5,8,9,10,11] none []) (.two (.cond none (.nil) (.nil)) (.two (.thru (.two (.reg [] [2,5,7,8,9,10] none []) (.reg [] [2,5,8,9,10] none []))) (.reg [] [2,5,8,9,10] none []))))))) (.two (.reg [] [4] none []) (.nil)))),⟨[.agg [Lf.raw,Lf.row 1,Lf.raw],.one (Lf.row 1)],[.one (Lf.row 1)]⟩⟩
def aGz:FE:=⟨17,[.tmp 6],.two (.reg [] [0,1,2] none []) (.two (.reg [] [6] none []) (.nil)),⟨[.one Lf.ref,.one li,.one li],[.one lb]⟩⟩
def aGA:FE:=⟨6,[.tmp 2],.two (.reg [] [0] none []) (.two (.reg [] [2] none []) (.nil)),⟨[.one li],[.one lb]⟩⟩
def aGB:FE:=⟨19,[.tmp 4],.two (.reg [] [0,1] none []) (.two (.two (.reg [] [0,1,7,8] none []) (.blk ⟨[],[],[],[]⟩ (.lp [] ⟨[0,1,7],[(8,.lf li)],[],[]⟩ (.two (.reg [] [0,1,7,8,9] none []) (.two (.cond none (.nil) (.nil)) (.two (.thru (.two (.reg [] [0,1,5,7,8] none []) (.two (.reg [] [0,1,5,7,8,16] none []) (.cond none (.two (.reg [] [4] none []) (.nil)) (.nil))))) (.reg [] [0,1,7,8] none []))))))) (.two (.reg [] [4] none []) (.nil))),⟨[.one (Lf.row 3),.one Lf.raw],[.one li]⟩⟩
def aGC:FE:=⟨18,[.tmp 4],.two (.reg [] [0,1] none []) (.two (.reg [] [4] none []) (.nil)),⟨[.one Lf.ref,.one li],[.one lb]⟩⟩
def aGD:FE:=⟨19,[.tmp 4],.two (.reg [] [0,1] none []) (.two (.two (.reg [] [0,1,7,8] none []) (.blk ⟨[],[],[],[]⟩ (.lp [] ⟨[0,1,7],[(8,.lf li)],[],[]⟩ (.two (.reg [] [0,1,7,8,9] none []) (.two (.cond none (.nil) (.nil)) (.two (.thru (.two (.reg [] [0,1,5,7,8] none []) (.two (.reg [] [0,1,5,7,8,16] none []) (.cond none (.two (.reg [] [4] none []) (.nil)) (.nil))))) (.reg [] [0,1,7,8] none []))))))) (.two (.reg [] [4] none []) (.nil))),⟨[.one (Lf.row 9),.one Lf.raw],[.one li]⟩⟩
def aGE:FE:=⟨6,[.tmp 4],.two (.reg [] [2,3] none []) (.two (.reg [] [4] none []) (.nil)),⟨[.one li,.one li],[.one Lf.raw]⟩⟩
def aGF:FE:=⟨28,[.tmp 4],.two (.reg [] [1,2,3] none []) (.two (.reg [] [4] none []) (.nil)),⟨[.agg [li,li,li,li,li,li,li],.one Lf.ref,.one Lf.ref],[.one lb]⟩⟩
def aGG:FE:=⟨8,[.tmp 3],.two (.reg [] [0,1] none []) (.two (.reg [] [3] none [(some 4,⟨[],[],[],[]⟩,.rf none)]) (.nil)),⟨[.one li,.one Lf.ref],[.one lb]⟩⟩
def aD3:FE:=⟨19,[.tmp 4],.two (.reg [] [0,1] none []) (.two (.two (.reg [] [0,1,7,8] none []) (.blk ⟨[],[],[],[]⟩ (.lp [] ⟨[0,1,7],[(8,.lf li)],[],[]⟩ (.two (.reg [] [0,1,7,8,9] none []) (.two (.cond none (.nil) (.nil)) (.two (.thru (.two (.reg [] [0,1,5,7,8] none []) (.two (.reg [] [0,1,5,7,8,16] none []) (.cond none (.two (.reg [] [4] none []) (.nil)) (.nil))))) (.reg [] [0,1,7,8] none []))))))) (.two (.reg [] [4] none []) (.nil))),⟨[.one (Lf.row 7),.one Lf.raw],[.one li]⟩⟩
def aEQ:FE:=⟨8,[.tmp 2],.two (.reg [] [0] none []) (.two (.two (.reg [] [0,4] none []) (.cond none (.two (.reg [] [2] none []) (.rt [.mk 2 3 1])) (.nil))) (.two (.reg [] [2] none []) (.nil))),⟨[.one (Lf.row 1)],[.one (Lf.row 1)]⟩⟩
noncomputable def tb:List (Nat×FE×Code):=[(3,fe3,aA Try.f3),(4,fe4,aA Try.f4),(5,fe5,aA Try.f5),(6,fe6,aA Try.f6),(7,fe7,aA Try.f7),(8,fe8,aA Try.f8),(9,fe9,aA Try.f9),(10,aFz,aA Try.f10),(11,aFA,aA Try.f11),(12,aEP,aA Try.f12),(13,aFB,aA Try.f13),(14,aFC,aA Try.f14),(15,aFD,aA Try.f15),(16,aFE,aA Try.f16),(17,aFF,aA Try.f17),(18,aFG,aA Try.f18),(19,aFH,aA Try.f19),(20,aFI,aA Try.f20),(21,aFJ,aA Try.f21),(22,aFK,aA Try.f22),(23,aFL,aA Try.f23),(24,aFM,aA Try.f24),(25,aFN,aA Try.f25),(26,aFO,aA Try.f26),(27,aFP,aA Try.f27),(28,aFQ,aA Try.f28),(29,aFR,aA Try.f29),(30,aFS,aA Try.f30),(31,aFT,aA Try.f31),(32,aFU,aA Try.f32),(33,aFV,aA Try.f33),(34,aFW,aA Try.f34),(35,aFX,aA Try.f35),(36,aFY,aA Try.f36),(37,aFZ,aA Try.f37),(38,aF0,aA Try.f38),(39,aF1,aA Try.f39),(40,aF2,aA Try.f40),(41,aF3,aA Try.f41),(42,aF4,aA Try.f42),(43,aF5,aA Try.f43),(44,aF6,aA Try.f44),(45,aF7,aA Try.f45),(46,aF8,aA Try.f46),(47,aF9,aA Try.f47),(48,aGa,aA Try.f48),(50,aGb,aA Try.f50),(59,aGc,aA Try.f59),(60,aGd,aA Try.f60),(61,aGe,aA Try.f61),(62,aGf,aA Try.f62),(63,aGg,aA Try.f63),(64,aGh,aA Try.f64),(65,aGi,aA Try.f65),(66,aGj,aA Try.f66),(67,aGk,aA Try.f67),(68,aGl,aA Try.f68),(71,aGm,aA Try.f71),(72,aGn,aA Try.f72),(73,aGo,aA Try.f73),(74,aGp,aA Try.f74),(75,aGq,aA Try.f75),(76,aGr,aA Try.f76),(77,aGs,aA Try.f77),(78,aGt,aA Try.f78),(79,aGu,aA Try.f79),(80,aGv,aA Try.f80),(81,aGw,aA Try.f81),(87,aGx,aA Try.f87),(88,aGy,aA Try.f88),(89,aGz,aA Try.f89),(90,aGA,aA Try.f90),(91,aGB,aA Try.f91),(92,aGC,aA Try.f92),(93,aGD,aA Try.f93),(94,aGE,aA Try.f94),(97,aGF,aA Try.f97),(99,aGG,aA Try.f99),(103,aD3,aA Try.f103)]
noncomputable abbrev sg:FuncId→Option Sig:=xT tb
end Go.Proofs.Ytnnifohchhjkhaa
namespace Go.Proofs.Ytnnifohchhjkhaa
open Go Go.Sx
abbrev sT:Nat:=3
abbrev qT:Nat:=4
abbrev oQ:Nat:=5
abbrev cH:Nat:=6
abbrev kW:Nat:=7
abbrev iT:Nat:=8
abbrev dQ:Nat:=9
abbrev fV:Nat:=10
abbrev eV:Nat:=11
abbrev cG:Nat:=12
abbrev iA:Nat:=13
abbrev mR:Nat:=14
abbrev jV:Nat:=15
abbrev nU:Nat:=16
abbrev mS:Nat:=17
abbrev fW:Nat:=18
abbrev kX:Nat:=19
abbrev eW:Nat:=20
abbrev uA:Nat:=21
abbrev eD:Nat:=22
abbrev cN:Nat:=23
abbrev dR:Nat:=24
abbrev fF:Nat:=25
abbrev dF:Nat:=26
abbrev fB:Nat:=27
abbrev fG:Nat:=28
abbrev dG:Nat:=29
abbrev fC:Nat:=30
abbrev aU:Nat:=31
abbrev cO:Nat:=32
abbrev eE:Nat:=33
abbrev oR:Nat:=34
abbrev gM:Nat:=35
abbrev fX:Nat:=36
abbrev iU:Nat:=37
abbrev kY:Nat:=38
abbrev jW:Nat:=39
abbrev nA:Nat:=40
abbrev lX:Nat:=41
abbrev fP:Nat:=42
abbrev qU:Nat:=43
abbrev oS:Nat:=44
abbrev fY:Nat:=45
abbrev mT:Nat:=46
abbrev eX:Nat:=47
abbrev gF:Nat:=48
abbrev zP:Nat:=50
abbrev fZ:Nat:=59
abbrev kZ:Nat:=60
abbrev aL:Nat:=61
abbrev gP:Nat:=62
abbrev cZ:Nat:=63
abbrev iV:Nat:=64
abbrev dK:Nat:=65
abbrev dH:Nat:=66
abbrev fH:Nat:=67
abbrev dS:Nat:=68
abbrev aN:Nat:=71
abbrev jX:Nat:=72
abbrev eF:Nat:=73
abbrev uB:Nat:=74
abbrev lA:Nat:=75
abbrev oT:Nat:=76
abbrev oU:Nat:=77
abbrev qV:Nat:=78
abbrev bW:Nat:=79
abbrev eG:Nat:=80
abbrev gU:Nat:=81
abbrev DS:Nat:=84
abbrev kO:Nat:=87
abbrev pG:Nat:=88
abbrev kF:Nat:=89
abbrev dT:Nat:=90
abbrev eI:Nat:=91
abbrev eY:Nat:=92
abbrev cC:Nat:=93
abbrev mU:Nat:=94
abbrev bX:Nat:=97
abbrev bB:Nat:=99
abbrev pS:Nat:=100
abbrev bV:Nat:=102
abbrev eJ:Nat:=103
end Go.Proofs.Ytnnifohchhjkhaa
namespace Go.Proofs.Ytnnifohchhjkhaa
open Go Go.Sx
abbrev ITS:=List (Nat×(List CV→Option (List CV)))
noncomputable def D (its:ITS) (n:Nat):Den:=den Try.prog tb its n
end Go.Proofs.Ytnnifohchhjkhaa
namespace Go.Proofs.Ytnnifohchhjkhaa
open Go Go.Sx
set_option maxRecDepth 100000
section
theorem aDf {t:List AV} {B:List Box} {V:List Vec} {a b c:AV}:bZ Try.prog ⟨t,B++[Box.mk true 117 [a,b,c]],V⟩ 117 (.ptr B.length 0)=some (.agg [a,b,c]):=by
 have h:(bM Try.prog 117).map (fun t=>(t.size,t.kind))=some (3,.strct [(0,1),(1,1),(2,1)]):=by kernel_rfl
 cases ht:bM Try.prog 117 with
 | none=>rw [ht] at h;cases h
 | some ti =>
  rw [ht] at h
  simp only [Option.map_some,Option.some.injEq,Prod.mk.injEq] at h
  unfold bZ
  rw [ht]
  simp [h.1,h.2,TK.agg]
variable [G:Ghost]
def bm (g:FuncId) (x:AV):AV:=.fn g [.gd [false] .any,x]
theorem aER:QV Try.prog 56 121 [51,52,54,55]:=by
 intro a b c B V ho
 refine CallP.drop1 (b0:=⟨true,117,[a,b,c]⟩) (fun nB vs h=>?_) ?_
 ·simp only [AV.scos,AV.sco,and_true] at h
  simp only [vA,List.map_cons,List.map_nil,AV.scos,AV.sco,true_and,and_true]
  exact ⟨h,h,h,h⟩
 refine yV (fn:=Try.f56) (c:=aA Try.f56) (by kernel_rfl) (by kernel_rfl) fun F n hF=>?_
 generalize hX:AV.agg [a,b,c]=X
 have hbox:∀ t,sK ⟨t,B,V⟩ 117 X=some (.ptr B.length 0,B++[Box.mk true 117 [a,b,c]],V):=by
  intro t
  subst hX
  unfold sK
  simp only [AV.cells]
  rw [if_pos ho]
 have hld:∀ t,bZ Try.prog ⟨t,B++[Box.mk true 117 [a,b,c]],V⟩ 117 (.ptr B.length 0)=some X:=by
  intro t;subst hX;exact aDf
 have hbb:∀ t,lR Try.prog ⟨t,B++[Box.mk true 117 [a,b,c]],V⟩ 126 4 [(0,bm 51 X),(1,bm 52 X),(2,bm 54 X),(3,bm 55 X)]=some (.slb 4 (B++[Box.mk true 117 [a,b,c]]).length 0,B++[Box.mk true 117 [a,b,c]]++[Box.mk true 121 [bm 51 X,bm 52 X,bm 54 X,bm 55 X]],V):=by
  intro t;kernel_rfl
 generalize hB1:B++[Box.mk true 117 [a,b,c]]=B1 at *
 refine TS (CC ?_)
 change cK F n Try.prog _ _ ⟨[X,.any,.any,.any,.any,.any,.any,.any,.any,.any,.any,.any],B,V⟩ _
 refine stepW (av:=.ptr B.length 0) (B':=B1) (V':=V) (st':=⟨[X,.ptr B.length 0,.any,.any,.any,.any,.any,.any,.any,.any,.any,.any],B1,V⟩) hF rfl ?_ rfl ?_
 ·show (sK _ _ _)=_;exact hbox _
 refine stepW (av:=.cv (.val (.slice none 0 0))) (B':=B1) (V':=V) (st':=⟨[X,.ptr B.length 0,.cv (.val (.slice none 0 0)),.any,.any,.any,.any,.any,.any,.any,.any,.any],B1,V⟩) hF rfl ?_ rfl ?_
 ·rfl
 refine uS (TS (CC ?_))
 refine stepW (av:=X) (B':=B1) (V':=V) (st':=⟨[X,.ptr B.length 0,.cv (.val (.slice none 0 0)),X,.any,.any,.any,.any,.any,.any,.any,.any],B1,V⟩) hF rfl ?_ rfl ?_
 ·show Option.map _ (bZ Try.prog ⟨[X,.ptr B.length 0,.cv (.val (.slice none 0 0)),.any,.any,.any,.any,.any,.any,.any,.any,.any],B1,V⟩ 117 (.ptr B.length 0))=_;rw [hld];rfl
 refine stepW (av:=bm 51 X) (B':=B1) (V':=V) (st':=⟨[X,.ptr B.length 0,.cv (.val (.slice none 0 0)),X,bm 51 X,.any,.any,.any,.any,.any,.any,.any],B1,V⟩) hF rfl ?_ rfl ?_
 ·kernel_rfl
 refine stepW (av:=X) (B':=B1) (V':=V) (st':=⟨[X,.ptr B.length 0,.cv (.val (.slice none 0 0)),X,bm 51 X,X,.any,.any,.any,.any,.any,.any],B1,V⟩) hF rfl ?_ rfl ?_
 ·show Option.map _ (bZ Try.prog ⟨[X,.ptr B.length 0,.cv (.val (.slice none 0 0)),X,bm 51 X,.any,.any,.any,.any,.any,.any,.any],B1,V⟩ 117 (.ptr B.length 0))=_;rw [hld];rfl
 refine stepW (av:=bm 52 X) (B':=B1) (V':=V) (st':=⟨[X,.ptr B.length 0,.cv (.val (.slice none 0 0)),X,bm 51 X,X,bm 52 X,.any,.any,.any,.any,.any],B1,V⟩) hF rfl ?_ rfl ?_
 ·kernel_rfl
 refine stepW (av:=X) (B':=B1) (V':=V) (st':=⟨[X,.ptr B.length 0,.cv (.val (.slice none 0 0)),X,bm 51 X,X,bm 52 X,X,.any,.any,.any,.any],B1,V⟩) hF rfl ?_ rfl ?_
 ·show Option.map _ (bZ Try.prog ⟨[X,.ptr B.length 0,.cv (.val (.slice none 0 0)),X,bm 51 X,X,bm 52 X,.any,.any,.any,.any,.any],B1,V⟩ 117 (.ptr B.length 0))=_;rw [hld];rfl
 refine stepW (av:=bm 54 X) (B':=B1) (V':=V) (st':=⟨[X,.ptr B.length 0,.cv (.val (.slice none 0 0)),X,bm 51 X,X,bm 52 X,X,bm 54 X,.any,.any,.any],B1,V⟩) hF rfl ?_ rfl ?_
 ·kernel_rfl
 refine stepW (av:=X) (B':=B1) (V':=V) (st':=⟨[X,.ptr B.length 0,.cv (.val (.slice none 0 0)),X,bm 51 X,X,bm 52 X,X,bm 54 X,X,.any,.any],B1,V⟩) hF rfl ?_ rfl ?_
 ·show Option.map _ (bZ Try.prog ⟨[X,.ptr B.length 0,.cv (.val (.slice none 0 0)),X,bm 51 X,X,bm 52 X,X,bm 54 X,.any,.any,.any],B1,V⟩ 117 (.ptr B.length 0))=_;rw [hld];rfl
 refine stepW (av:=bm 55 X) (B':=B1) (V':=V) (st':=⟨[X,.ptr B.length 0,.cv (.val (.slice none 0 0)),X,bm 51 X,X,bm 52 X,X,bm 54 X,X,bm 55 X,.any],B1,V⟩) hF rfl ?_ rfl ?_
 ·kernel_rfl
 refine aFq (av:=(.slb 4 B1.length 0)) (B':=(B1++[Box.mk true 121 [bm 51 X,bm 52 X,bm 54 X,bm 55 X]])) (V':=V) (st':=⟨[X,.ptr B.length 0,.cv (.val (.slice none 0 0)),X,bm 51 X,X,bm 52 X,X,bm 54 X,X,bm 55 X,(.slb 4 B1.length 0)],(B1++[Box.mk true 121 [bm 51 X,bm 52 X,bm 54 X,bm 55 X]]),V⟩) hF rfl rfl ?_ rfl ?_
 ·exact hbb _
 refine stepW (av:=(.slb 4 B1.length 0)) (B':=(B1++[Box.mk true 121 [bm 51 X,bm 52 X,bm 54 X,bm 55 X]])) (V':=V) (st':=⟨[X,.ptr B.length 0,(.slb 4 B1.length 0),X,bm 51 X,X,bm 52 X,X,bm 54 X,X,bm 55 X,(.slb 4 B1.length 0)],(B1++[Box.mk true 121 [bm 51 X,bm 52 X,bm 54 X,bm 55 X]]),V⟩) hF rfl rfl rfl ?_
 refine uS (ZX ⟨.inr rfl,_,rfl,?_⟩)
 subst hB1 hX
 exact ⟨by simp [AV.slb],by simp [vA,bm],rfl⟩
end
end Go.Proofs.Ytnnifohchhjkhaa
